/- Texts of the law FnFlatAgain, part 2: what it uses. -/
import Derived.Test.YtodiifjigjnalaaFga1
set_option linter.unusedVariables false
set_option linter.unusedSimpArgs false
set_option maxHeartbeats 4000000
set_option maxRecDepth 100000
namespace Go.Proofs.Ytodiifjigjnalaa
open Go.RowKit Go.ChangeShapes
open Go.RowKit
section
variable {P : Program} {N : Nat} {w0 : World} {l : List HP} {env : List (Nat × Value)} {Q : Post} {os : List Oper} {m : Nat} {dps : List (List Nat)} {dsts : List (Option Nat)} {R : Nat → List Value → Value → List HP → Prop}
structure Mid4 (N : Nat) (w0 : World) (l : List HP) (env : List (Nat × Value)) (os : List Oper) (m : Nat) (dps : List (List Nat)) (dsts : List (Option Nat)) (R : Nat → List Value → Value → List HP → Prop) (tau : List (Option Nat)) (P0 : List (List HP)) (listed : Array Bool) (ord held : List Nat) (vf : Nat → Value) (pf : Nat → List HP) (a : Act) (w : World) : Prop where
  size : listed.size = os.length
  iff : ∀ i, i < os.length → (listed.getD i true = true ↔ i ∈ ord)
  low : ∀ i ∈ ord, i < m
  closed : ∀ i ∈ ord, ∀ j ∈ depsOf os i, j ∈ ord
  nodup : ord.Nodup
  dcl : ∀ i ∈ ord, ∀ j ∈ dps.getD i [], j ∈ ord
  rel : ∀ i ∈ ord, R i ((dps.getD i []).map vf) (vf i) (pf i)
  hn : held.Nodup
  hin : ∀ i ∈ held, i ∈ ord ∨ (os.length ≤ i ∧ i < os.length + P0.length)
  hall : ∀ i, (i ∈ ord ∨ (os.length ≤ i ∧ i < os.length + P0.length)) → (∀ j ∈ ord, tau.getD j none ≠ some i) → i ∈ held
  hP : ∀ k, k < P0.length → pf (os.length + k) = P0.getD k []
  mem : Mem w0 (held.flatMap pf ++ l) w
  asize : a.tmps.size = N
  defers : a.defers = []
  env : ∀ d v, lk env d = some v → a.tmps[d]? = some v
  slots : ∀ i ∈ ord, ∀ d, dsts[i]? = some (some d) → a.tmps[d]? = some (vf i)
theorem Mid4.st {tau P0 listed ord held vf pf a w} (h : Mid4 N w0 l env os m dps dsts R tau P0 listed ord held vf pf a w) (hm : m ≤ dsts.length) {is : List Nat} (hs : ∀ j ∈ is, j ∈ ord) {L : List HP} (hM : Mem w0 L w) : St N w0 L (envOf3 dsts vf is ++ env) a w := by
  refine ⟨hM, h.asize, h.defers, fun d v hd => ?_⟩
  rcases lk_append _ _ _ _ hd with h1 | h1
  · unfold envOf3 at h1
    rw [List.mem_filterMap] at h1
    obtain ⟨i, hi, he⟩ := h1
    rw [Option.map_eq_some_iff] at he
    obtain ⟨d', hd', he⟩ := he
    simp only [Prod.mk.injEq] at he
    obtain ⟨rfl, rfl⟩ := he
    have : dsts[i]? = some (some d') := by
      rw [List.getD_eq_getElem?_getD] at hd'
      cases hx : dsts[i]? with
      | none => rw [hx] at hd'; cases hd'
      | some y => rw [hx] at hd'; exact congrArg some hd'
    exact h.slots i (hs i hi) _ this
  · exact h.env d v h1
theorem hc_drawn4 {id : Nat} (hmix : P.follows .mixedOrders = true) (m : Nat) (dps : List (List Nat)) (dsts : List (Option Nat)) (R : Nat → List Value → Value → List HP → Prop) (qd : List (List Nat)) (tau : List (Option Nat)) (P0 : List (List HP)) (fl : List Nat) (hok : drawOk3 os m dps dsts = true) (htau : tauOk4 os m P0.length dps qd tau fl = true) (hfresh : dsts.all (fun d => match d with | some d => (lk env d).isNone | none => true) = true) (hN : dsts.all (fun d => match d with | some d => Nat.blt d N | none => true) = true)
    (due : ∀ i o, os[i]? = some o → i < m → ∀ vf pf, (∀ k, k < P0.length → pf (os.length + k) = P0.getD k []) → (∀ j ∈ dps.getD i [], R j ((dps.getD j []).map vf) (vf j) (pf j)) → Obl2 P os.toArray N w0 (tau.getD i none) pf ((qd.getD i []).flatMap pf ++ l) (envOf3 dsts vf (dps.getD i []) ++ env) o (R i ((dps.getD i []).map vf)))
    (fin : ∀ vf pf, (∀ k, k < P0.length → pf (os.length + k) = P0.getD k []) → (∀ i, i < m → R i ((dps.getD i []).map vf) (vf i) (pf i)) → HL P N os.toArray w0 (fl.flatMap pf ++ l) (envOf3 dsts vf (List.range m) ++ env) (os.drop m) Q) : HC P N w0 (P0.flatten ++ l) env (.region id os.toArray true) Q := by
  intro a w st
  refine wp_region_any hmix ?_
  simp only [drawOk3, Bool.and_eq_true, Nat.ble_eq, List.all_eq_true, List.mem_range, Bool.or_eq_true, Nat.blt_eq, beq_iff_eq, decide_eq_true_eq, Array.all_eq_true', bne_iff_ne] at hok
  obtain ⟨⟨⟨⟨⟨⟨hml, hback⟩, hcov⟩, hready⟩, hdst⟩, hdn⟩, hdp⟩ := hok
  simp only [tauOk4, Bool.and_eq_true, List.all_eq_true, List.mem_range, Bool.or_eq_true, Nat.blt_eq, Nat.ble_eq, beq_iff_eq, bne_iff_ne, decide_eq_true_eq, List.contains_iff_mem] at htau
  obtain ⟨⟨⟨hqd, hth⟩, hfl⟩, hfn⟩ := htau
  have hml' : m ≤ dsts.length := by have := congrArg List.length hdst; simp at this; omega
  have hlen : dsts.length = m := by have := congrArg List.length hdst; simp at this; omega
  have hrdy : ∀ k, m ≤ k → k < os.length → Region.ready .any os.toArray (preT os.length k) = [k] := fun k h1 h2 => by
    have := hready (k - m) (by omega)
    rw [show m + (k - m) = k by omega] at this
    exact this
  have hmsk : ∀ i j, ((msk ((List.range os.length).map (depsOf os)) []).getD i 0).testBit j = true → Dep os i j := msk_dep os _ _ (fun t ds ht d hd => by
    rw [List.getElem?_map] at ht
    by_cases h : t < os.length
    · rw [List.getElem?_range h] at ht; simp at ht; subst ht; simpa using hd
    · rw [List.getElem?_eq_none (by simp; omega)] at ht; cases ht) (fun i j h => by simp at h)
  have dstAt : ∀ i, i < m → ∀ o, os[i]? = some o → o.dst = dsts.getD i none := fun i hi o ho => by
    have h1 : ((os.take m).map (·.dst))[i]? = some o.dst := by rw [List.getElem?_map, List.getElem?_take, if_pos hi, ho]; rfl
    rw [hdst] at h1
    rw [List.getD_eq_getElem?_getD, h1]; rfl
  -- what may come up
  have key : ∀ (f : Nat) (listed : Array Bool) (ord held : List Nat) (vf : Nat → Value) (pf : Nat → List HP) (a : Act) (w : World), f + ord.length = os.length → Mid4 N w0 l env os m dps dsts R tau P0 listed ord held vf pf a w → wpAny P .any os.toArray Q f listed a w := by
    intro f
    induction f with
    | zero =>
      intro listed ord held vf pf a w hf h
      -- all are listed: m = the length
      have hall : ∀ i, i < os.length → i ∈ ord := by
        intro i hi
        have hsub : ord.Perm (List.range os.length) ∨ True := .inr trivial
        obtain ⟨r, hr⟩ := zdx ord (List.range os.length) h.nodup (fun j hj => by have := h.low j hj; simp; omega)
        have hl := hr.length_eq
        simp at hl
        have : r = [] := List.length_eq_zero_iff.1 (by omega)
        subst this
        have := hr.mem_iff.1 (List.mem_range.2 hi)
        simpa using this
      have hm2 : m = os.length := by
        by_cases hc : m < os.length
        · have := h.low m (hall m hc); omega
        · omega
      have hp : listed = preT os.length m := by
        apply Array.ext
        · rw [h.size, zef _ _ hml]
        · intro i h1 h2
          have hi : i < os.length := by rw [h.size] at h1; exact h1
          have e1 := (h.iff i hi).2 (hall i hi)
          have e2 := zev os.length m i hml hi
          rw [Array.getD_eq_getD_getElem?, Array.getElem?_eq_getElem h1] at e1
          rw [Array.getD_eq_getD_getElem?, Array.getElem?_eq_getElem h2] at e2
          simp only [Option.getD_some] at e1 e2
          rw [e1, e2]; simp; omega
      rw [hp]
      refine zfj hrdy 0 m (Nat.le_refl _) (by omega) a w ?_
      exact fin vf pf h.hP (fun i hi => h.rel i (hall i (by omega))) a w (h.st hml' (fun j hj => hall j (by rw [List.mem_range] at hj; omega)) (h.mem.pick hfn (fun j hj => h.hall j ((hfl j hj).1.imp (fun hlt => hall j (by omega)) (fun x => x)) (fun k hk => (hfl j hj).2 k (h.low k hk)))))
    | succ f ih =>
      intro listed ord held vf pf a w hf h
      by_cases hall : ∀ i, i < m → i ∈ ord
      · -- the tail's turn
        have hp : listed = preT os.length m := by
          apply Array.ext
          · rw [h.size, zef _ _ hml]
          · intro i h1 h2
            have hi : i < os.length := by rw [h.size] at h1; exact h1
            have e1 := h.iff i hi
            have e2 := zev os.length m i hml hi
            rw [Array.getD_eq_getD_getElem?, Array.getElem?_eq_getElem h1] at e1
            rw [Array.getD_eq_getD_getElem?, Array.getElem?_eq_getElem h2] at e2
            simp only [Option.getD_some] at e1 e2
            rw [e2, Bool.eq_iff_iff, e1, decide_eq_true_eq]
            exact ⟨fun hx => h.low i hx, fun hx => hall i hx⟩
        have hord : ord.length = m := by
          obtain ⟨r, hr⟩ := zdx ord (List.range m) h.nodup (fun j hj => by have := h.low j hj; simpa using this)
          obtain ⟨r', hr'⟩ := zdx (List.range m) ord List.nodup_range (fun j hj => hall j (by simpa using hj))
          have h1 := hr.length_eq
          have h2 := hr'.length_eq
          simp at h1 h2
          omega
        rw [hp]
        refine zfj hrdy (f + 1) m (Nat.le_refl _) (by omega) a w ?_
        exact fin vf pf h.hP (fun i hi => h.rel i (hall i hi)) a w (h.st hml' (fun j hj => hall j (by simpa using hj)) (h.mem.pick hfn (fun j hj => h.hall j ((hfl j hj).1.imp (fun hlt => hall j hlt) (fun x => x)) (fun k hk => (hfl j hj).2 k (h.low k hk)))))
      · -- some quiet one is not done yet
        have hsome : ∃ i, i < m ∧ i ∉ ord := by
          by_cases hx : ∃ i, i < m ∧ i ∉ ord
          · exact hx
          · exact absurd (fun i hi => Decidable.byContradiction fun hn => hx ⟨i, hi, hn⟩) hall
        have mem_rdy : ∀ i, i ∈ Region.ready .any os.toArray listed ↔ i < os.length ∧ i ∉ ord ∧ ∀ j ∈ depsOf os i, j ∈ ord := by
          intro i
          unfold Region.ready
          rw [List.mem_filter, List.mem_range]
          simp only [List.size_toArray]
          constructor
          · rintro ⟨hi, hb⟩
            rw [Bool.and_eq_true] at hb
            have hno : i ∉ ord := fun hx => by rw [(h.iff i hi).2 hx] at hb; simp at hb
            refine ⟨hi, hno, fun j hj => ?_⟩
            have ho : os.toArray[i]? = some os[i] := by simp [hi]
            rw [ho] at hb
            simp only [Option.map_some, Option.getD_some, Array.all_eq_true'] at hb
            unfold depsOf at hj
            rw [List.getElem?_eq_getElem hi] at hj
            simp only [List.mem_map, List.mem_filter] at hj
            obtain ⟨e, ⟨he, hbd⟩, rfl⟩ := hj
            have hb2 := hb.2 e (by simpa using he)
            rw [hbd] at hb2
            simp at hb2
            have hlt := hback i hi e.on (by unfold depsOf; rw [List.getElem?_eq_getElem hi]; exact List.mem_map.2 ⟨e, List.mem_filter.2 ⟨he, hbd⟩, rfl⟩)
            refine (h.iff e.on (by omega)).1 ?_
            have hs : e.on < listed.size := by rw [h.size]; omega
            rw [Array.getD_eq_getD_getElem?, Array.getElem?_eq_getElem hs] 
            simp only [Option.getD_some]
            rw [Array.getElem?_eq_getElem hs] at hb2
            simpa using hb2
          · rintro ⟨hi, hno, hd⟩
            refine ⟨hi, ?_⟩
            have ho : os.toArray[i]? = some os[i] := by simp [hi]
            rw [ho]
            simp only [Option.map_some, Option.getD_some, Bool.and_eq_true, Array.all_eq_true']
            refine ⟨?_, fun e he => ?_⟩
            · cases hb : listed.getD i true with
              | true => exact absurd ((h.iff i hi).1 hb) hno
              | false => rfl
            · rw [Bool.or_eq_true]
              by_cases hbd : Region.binds .any e = true
              rotate_left
              · left; simpa using hbd
              right
              have hon : e.on ∈ depsOf os i := by unfold depsOf; rw [List.getElem?_eq_getElem hi]; exact List.mem_map.2 ⟨e, List.mem_filter.2 ⟨by simpa using he, hbd⟩, rfl⟩
              have hlt := hback i hi e.on hon
              have := (h.iff e.on (by omega)).2 (hd e.on hon)
              have hs : e.on < listed.size := by rw [h.size]; omega
              rw [Array.getD_eq_getD_getElem?, Array.getElem?_eq_getElem hs] at this
              simp only [Option.getD_some] at this
              rw [Array.getD_eq_getD_getElem?, Array.getElem?_eq_getElem hs]
              simpa using this
        have hdep : ∀ k j, Dep os k j → (∀ d ∈ depsOf os k, d ∈ ord) → j ∈ ord := by
          intro k j hd
          induction hd with
          | one hj => intro hx; exact hx _ hj
          | more hk _ ih2 => intro hx; exact ih2 (fun d hd => h.closed _ (hx _ hk) d hd)
        have hlow : ∀ i ∈ Region.ready .any os.toArray listed, i < m := by
          intro i hi
          obtain ⟨h1, h2, h3⟩ := (mem_rdy i).1 hi
          by_cases hc : i < m
          · exact hc
          · exfalso
            obtain ⟨q, hq, hqn⟩ := hsome
            rcases hcov i h1 with h4 | h4
            · exact hc h4
            · exact hqn (hdep i q (hmsk i q (h4 q hq)) h3)
        refine ⟨fun h0 => ?_, fun i hi => ?_⟩
        · -- the least one that is not done may come up
          exfalso
          obtain ⟨q, hq, hqn⟩ := hsome
          obtain ⟨p, hp, hmin⟩ := exists_least (p := fun i => i < m ∧ i ∉ ord) ⟨q, hq, hqn⟩
          have : p ∈ Region.ready .any os.toArray listed := by
            rw [mem_rdy]
            refine ⟨by omega, hp.2, fun j hj => ?_⟩
            have hlt := hback p (by omega) j hj
            apply Decidable.byContradiction
            intro hn
            have := hmin j ⟨by omega, hn⟩
            omega
          rw [h0] at this
          cases this
        · have him := hlow i hi
          obtain ⟨h1, h2, h3⟩ := (mem_rdy i).1 hi
          have ho : os[i]? = some os[i] := List.getElem?_eq_getElem h1
          have hdps := hdp i him
          have hsub : ∀ j ∈ dps.getD i [], j ∈ ord := fun j hj => hdep i j (hmsk i j (hdps.1 j hj)) h3
          have hqi := hqd i him
          have hqheld : ∀ j ∈ qd.getD i [], j ∈ held := fun j hj => h.hall j ((hqi.1 j hj).1.imp (hsub j) (fun x => x)) (fun k hk => by
            rcases (hqi.1 j hj).2 k (h.low k hk) with h5 | ⟨-, h6⟩
            · exact h5
            · exact absurd (hdep k i (hmsk k i h6) (h.closed k hk)) h2)
          have hobl := due i os[i] ho him vf pf h.hP (fun j hj => h.rel j (hsub j hj))
          have hdd := dstAt i him _ ho
          have hdlt : ∀ d, dsts.getD i none = some d → d < N := fun d hd => by
            have := List.all_eq_true.1 hN (some d) (by rw [← hd, List.getD_eq_getElem?_getD, List.getElem?_eq_getElem (by omega)]; exact List.getElem_mem _)
            simpa [Nat.blt_eq] using this
          have hdnone : ∀ d, dsts.getD i none = some d → lk env d = none := fun d hd => by
            have := List.all_eq_true.1 hfresh (some d) (by rw [← hd, List.getD_eq_getElem?_getD, List.getElem?_eq_getElem (by omega)]; exact List.getElem_mem _)
            simpa using this
          have hne : ∀ j ∈ ord, j ≠ i := fun j hj e => h2 (e ▸ hj)
          have hneh : ∀ j ∈ held, j ≠ i := fun j hj e => by
            rcases h.hin j hj with h5 | h5
            · exact hne j h5 e
            · omega
          have next : ∀ (held' : List Nat) v post w', held'.Nodup → (∀ k ∈ held', k ∈ i :: ord ∨ (os.length ≤ k ∧ k < os.length + P0.length)) → (∀ k, (k ∈ i :: ord ∨ (os.length ≤ k ∧ k < os.length + P0.length)) → (∀ j ∈ i :: ord, tau.getD j none ≠ some k) → k ∈ held') → R i ((dps.getD i []).map vf) v post →
              Mem w0 (held'.flatMap (fun k => if k = i then post else pf k) ++ l) w' → wpAny P .any os.toArray Q f (listed.setIfInBounds i true) (a.put (dsts.getD i none) v) w' := by
            intro held' v post w' hh1 hh2 hh3 hv hm
            refine ih (listed.setIfInBounds i true) (i :: ord) held' (fun k => if k = i then v else vf k) (fun k => if k = i then post else pf k) _ w' (by simp; omega) ⟨?_, ?_, ?_, ?_, ?_, ?_, ?_, hh1, hh2, hh3, ?_, hm, ?_, ?_, ?_, ?_⟩
            · simp [h.size]
            · intro k hk
              by_cases hki : k = i
              · subst hki
                have hs : k < listed.size := by rw [h.size]; exact hk
                simp [Array.getD_eq_getD_getElem?, hs]
              · rw [getD_set_ne true (fun e => hki e.symm), h.iff k hk]
                simp [hki]
            · intro k hk; rcases List.mem_cons.1 hk with rfl | hk; exact him; exact h.low k hk
            · intro k hk j hj
              rcases List.mem_cons.1 hk with rfl | hk
              · exact List.mem_cons_of_mem _ (h3 j hj)
              · exact List.mem_cons_of_mem _ (h.closed k hk j hj)
            · exact List.nodup_cons.2 ⟨h2, h.nodup⟩
            · intro k hk j hj
              rcases List.mem_cons.1 hk with rfl | hk
              · exact List.mem_cons_of_mem _ (hsub j hj)
              · exact List.mem_cons_of_mem _ (h.dcl k hk j hj)
            · intro k hk
              rcases List.mem_cons.1 hk with rfl | hk
              · have e : (dps.getD k []).map (fun j => if j = k then v else vf j) = (dps.getD k []).map vf := List.map_congr_left fun j hj => if_neg (hne j (hsub j hj))
                rw [e, if_pos rfl, if_pos rfl]; exact hv
              · have e : (dps.getD k []).map (fun j => if j = i then v else vf j) = (dps.getD k []).map vf := List.map_congr_left fun j hj => if_neg (hne j (h.dcl k hk j hj))
                rw [e, if_neg (hne k hk), if_neg (hne k hk)]; exact h.rel k hk
            · intro k hk; rw [if_neg (by omega)]; exact h.hP k hk
            · cases hdi : dsts.getD i none <;> simp [Act.put, h.asize]
            · cases hdi : dsts.getD i none <;> exact h.defers
            · intro d u hd
              cases hdi : dsts.getD i none with
              | none => exact h.env d u hd
              | some d0 =>
                have hdne : d0 ≠ d := fun e => by rw [← e, hdnone _ hdi] at hd; cases hd
                simp only [Act.put]
                rw [Array.getElem?_setIfInBounds_ne hdne]
                exact h.env d u hd
            · intro k hk d hd
              cases hdi : dsts.getD i none with
              | none =>
                rcases List.mem_cons.1 hk with rfl | hk
                · rw [List.getD_eq_getElem?_getD, hd] at hdi; cases hdi
                · show a.tmps[d]? = _
                  rw [if_neg (hne k hk)]; exact h.slots k hk d hd
              | some d0 =>
                have hlt : d0 < a.tmps.size := by rw [h.asize]; exact hdlt _ hdi
                rcases List.mem_cons.1 hk with rfl | hk
                · have : d = d0 := by rw [List.getD_eq_getElem?_getD, hd] at hdi; exact Option.some.inj hdi
                  subst this
                  simp only [Act.put, if_true]
                  simp only [Array.getElem?_setIfInBounds_self_of_lt hlt]
                · have hdne : d0 ≠ d := by
                    intro e
                    have hk2 : k < dsts.length := (List.getElem?_eq_some_iff.1 hd).1
                    have hdk : dsts.getD k none = some d := by rw [List.getD_eq_getElem?_getD, hd]; rfl
                    rcases hdn i him k (by omega) with (hx | hx) | hx
                    · exact hne k hk hx.symm
                    · rw [hdi] at hx; cases hx
                    · exact hx (by rw [hdi, hdk, e])
                  simp only [Act.put]
                  rw [Array.getElem?_setIfInBounds_ne hdne, if_neg (hne k hk)]
                  exact h.slots k hk d hd
          unfold wpOp
          have hoa : os.toArray[i]? = some os[i] := by simp [h1]
          rw [hoa]
          simp only
          have hpost : ∀ (hs : List Nat) (post : List HP), (∀ k ∈ hs, k ≠ i) → (i :: hs).flatMap (fun k => if k = i then post else pf k) = post ++ hs.flatMap pf := fun hs post hx => by
            rw [List.flatMap_cons, if_pos rfl]
            congr 1
            rw [List.flatMap_def, List.flatMap_def]
            congr 1
            exact List.map_congr_left fun k hk => if_neg (hx k hk)
          cases ht : tau.getD i none with
          | none =>
            rw [ht] at hobl
            have hst := h.st hml' hsub (h.mem.pick hqi.2 hqheld)
            have next1 : ∀ v post w', R i ((dps.getD i []).map vf) v post → Mem w post w' → wpAny P .any os.toArray Q f (listed.setIfInBounds i true) (a.put (dsts.getD i none) v) w' := fun v post w' hv hm => by
              refine next (i :: held) v post w' (List.nodup_cons.2 ⟨fun hx => hneh i hx rfl, h.hn⟩) (fun k hk => ?_) (fun k hk hk2 => ?_) hv ?_
              · rcases List.mem_cons.1 hk with rfl | hk
                · exact .inl List.mem_cons_self
                · exact (h.hin k hk).imp (List.mem_cons_of_mem _) (fun x => x)
              · by_cases hki : k = i
                · rw [hki]; exact List.mem_cons_self
                · refine List.mem_cons_of_mem _ (h.hall k (hk.imp (fun hx => by rcases List.mem_cons.1 hx with hx | hx; exact absurd hx hki; exact hx) (fun x => x)) (fun j hj => hk2 j (List.mem_cons_of_mem _ hj)))
              · rw [hpost held post hneh, List.append_assoc]; exact h.mem.app hm
            rcases hobl with ⟨hw, hq⟩ | ⟨hw, hq⟩
            · rw [if_pos (hst.wanted hw)]
              refine .inl (hq a w hst Q _ fun v post w' hv hm => ?_)
              rw [hdd]
              exact next1 v post w' hv hm
            · rw [if_neg (by rw [hst.wanted hw]; decide), hdd]
              exact next1 undef [] w hq (Mem.refl w)
          | some hh =>
            rw [ht] at hobl
            have hth2 := hth i him
            rw [ht] at hth2
            simp only [Bool.and_eq_true, Bool.or_eq_true, Nat.ble_eq, Nat.blt_eq, beq_iff_eq, List.all_eq_true, List.mem_range, bne_iff_ne, List.contains_iff_mem] at hth2
            have hheld : hh ∈ held := h.hall hh (hth2.1.symm.imp (fun hx => hsub hh hx) (fun x => x)) (fun k hk => (hth2.2 k (h.low k hk)).resolve_left (hne k hk))
            have hperm := List.perm_cons_erase hheld
            have hmem : Mem w0 (pf hh ++ ((held.erase hh).flatMap pf ++ l)) w := by
              have := h.mem.perm ((hperm.flatMap_right pf).append_right l)
              rwa [List.flatMap_cons, List.append_assoc] at this
            have hnin : hh ∉ qd.getD i [] := fun hx => by
              rcases (hqi.1 hh hx).2 i him with h5 | ⟨h5, -⟩
              · exact h5 ht
              · exact h5 rfl
            have hconv : ∀ w, Mem w0 ((held.erase hh).flatMap pf ++ l) w → Mem w0 ((qd.getD i []).flatMap pf ++ l) w := fun w hm => hm.pick hqi.2 (fun j hj => (List.mem_erase_of_ne (fun (e : j = hh) => hnin (by rw [← e]; exact hj))).2 (hqheld j hj))
            have hst := h.st hml' hsub hmem
            have hneh2 : ∀ k ∈ held.erase hh, k ≠ i := fun k hk => hneh k (List.mem_of_mem_erase hk)
            have next2 : ∀ v post w', R i ((dps.getD i []).map vf) v post → Mem w0 (post ++ ((held.erase hh).flatMap pf ++ l)) w' → wpAny P .any os.toArray Q f (listed.setIfInBounds i true) (a.put (dsts.getD i none) v) w' := fun v post w' hv hm => by
              refine next (i :: held.erase hh) v post w' (List.nodup_cons.2 ⟨fun hx => hneh2 i hx rfl, h.hn.erase hh⟩) (fun k hk => ?_) (fun k hk hk2 => ?_) hv ?_
              · rcases List.mem_cons.1 hk with rfl | hk
                · exact .inl List.mem_cons_self
                · exact (h.hin k (List.mem_of_mem_erase hk)).imp (List.mem_cons_of_mem _) (fun x => x)
              · by_cases hki : k = i
                · rw [hki]; exact List.mem_cons_self
                · have hkh : k ≠ hh := fun e => hk2 i List.mem_cons_self (by rw [ht, e])
                  exact List.mem_cons_of_mem _ ((List.mem_erase_of_ne hkh).2 (h.hall k (hk.imp (fun hx => by rcases List.mem_cons.1 hx with hx | hx; exact absurd hx hki; exact hx) (fun x => x)) (fun j hj => hk2 j (List.mem_cons_of_mem _ hj))))
              · rw [hpost _ post hneh2, List.append_assoc]; exact hm
            rcases hobl with ⟨hw, hq⟩ | ⟨hw, hq⟩
            · rw [if_pos (hst.wanted hw)]
              refine .inl (hq _ hconv a w hst Q _ fun v post w' hv hm => ?_)
              rw [hdd]
              exact next2 v post w' hv hm
            · rw [if_neg (by rw [hst.wanted hw]; decide), hdd]
              exact next2 undef (pf hh) w hq hmem
  refine key os.length (Array.replicate os.length false) [] ((List.range P0.length).map (os.length + ·)) (fun _ => undef) (fun k => if os.length ≤ k then P0.getD (k - os.length) [] else []) a _ (by simp) ⟨by simp, ?_, by simp, by simp, by simp, by simp, by simp, ?_, ?_, ?_, ?_, ?_, st.size, st.defers, st.env, by simp⟩
  · intro i hi; simp [hi]
  · exact nodup_shift _ _
  · intro i hi
    simp only [List.mem_map, List.mem_range] at hi
    obtain ⟨k, hk, rfl⟩ := hi
    exact .inr ⟨by omega, by omega⟩
  · rintro i (hi | ⟨h1, h2⟩) _
    · cases hi
    · simp only [List.mem_map, List.mem_range]; exact ⟨i - os.length, by omega, by omega⟩
  · intro k hk; rw [if_pos (by omega), Nat.add_sub_cancel_left]
  · have e : ((List.range P0.length).map (os.length + ·)).flatMap (fun k => if os.length ≤ k then P0.getD (k - os.length) [] else []) = P0.flatten := by
      rw [List.flatMap_map]
      have : (fun a : Nat => (if os.length ≤ os.length + a then P0.getD (os.length + a - os.length) [] else [])) = fun a => P0.getD a [] := by
        funext a; rw [if_pos (by omega), Nat.add_sub_cancel_left]
      rw [List.flatMap_def]
      rw [show (List.map (fun a : Nat => (if os.length ≤ os.length + a then P0.getD (os.length + a - os.length) [] else [])) (List.range P0.length)) = P0 from by rw [this]; exact range_getD P0]
    rw [e]; exact st.mem.drawn _
def Dues4 (P : Program) (ops : Array Oper) (N : Nat) (w0 : World) (l : List HP) (env : List (Nat × Value)) (P0 : List (List HP)) (mu : Nat) (dsts : List (Option Nat)) (all qall : List (List Nat)) (tau : List (Option Nat)) (R : Nat → List Value → Value → List HP → Prop) : Nat → List (List Nat) → List Oper → Prop
  | _, _, [] => True
  | k, dss, o :: os => (∀ (vf : Nat → Value) (pf : Nat → List HP), (∀ k, k < P0.length → pf (mu + k) = P0.getD k []) → (∀ j ∈ all.getD k [], R j ((all.getD j []).map vf) (vf j) (pf j)) → Obl2 P ops N w0 (tau.getD k none) pf ((qall.getD k []).flatMap pf ++ l) (envOf3 dsts vf (all.getD k []) ++ env) o (R k ((all.getD k []).map vf))) ∧ Dues4 P ops N w0 l env P0 mu dsts all qall tau R (k + 1) dss os
theorem dues4_at {P : Program} {ops : Array Oper} {N : Nat} {w0 : World} {l : List HP} {env : List (Nat × Value)} {P0 : List (List HP)} {mu : Nat} {dsts : List (Option Nat)} {all qall : List (List Nat)} {tau : List (Option Nat)} {R : Nat → List Value → Value → List HP → Prop} : ∀ (os : List Oper) (dss : List (List Nat)) (k : Nat), Dues4 P ops N w0 l env P0 mu dsts all qall tau R k dss os → ∀ i o, os[i]? = some o → ∀ vf pf, (∀ k, k < P0.length → pf (mu + k) = P0.getD k []) → (∀ j ∈ all.getD (k + i) [], R j ((all.getD j []).map vf) (vf j) (pf j)) → Obl2 P ops N w0 (tau.getD (k + i) none) pf ((qall.getD (k + i) []).flatMap pf ++ l) (envOf3 dsts vf (all.getD (k + i) []) ++ env) o (R (k + i) ((all.getD (k + i) []).map vf))
  | [], _, _, _, i, o, ho, _, _, _, _ => by simp at ho
  | o' :: os, dss, k, h, 0, o, ho, vf, pf, hP, hR => by simp at ho; subst ho; exact h.1 vf pf hP hR
  | o' :: os, dss, k, h, i + 1, o, ho, vf, pf, hP, hR => by
    have e : k + 1 + i = k + (i + 1) := by omega
    have := dues4_at os dss (k + 1) h.2 i o (by simpa using ho) vf pf hP (by rw [e]; exact hR)
    rwa [e] at this
theorem hc_draw4 {id : Nat} (hmix : P.follows .mixedOrders = true) (m : Nat) (qs : List Nat) (quiet tail : List Oper) (dps : List (List Nat)) (dsts : List (Option Nat)) (R : Nat → List Value → Value → List HP → Prop) (qd : List (List Nat)) (tau : List (Option Nat)) (P0 : List (List HP)) (fl : List Nat) (mu : Nat)
    (hos : os = quiet ++ tail) (hq : (Nat.beq quiet.length m && (List.range m == qs) && Nat.beq os.length mu) = true) (hok : drawOk3 os m dps dsts = true) (htau : tauOk4 os m P0.length dps qd tau fl = true) (hfresh : dsts.all (fun d => match d with | some d => (lk env d).isNone | none => true) = true) (hN : dsts.all (fun d => match d with | some d => Nat.blt d N | none => true) = true)
    (due : Dues4 P os.toArray N w0 l env P0 mu dsts dps qd tau R 0 [] quiet)
    (fin : ∀ vf pf, (∀ k, k < P0.length → pf (mu + k) = P0.getD k []) → (∀ i, i < m → R i ((dps.getD i []).map vf) (vf i) (pf i)) → HL P N os.toArray w0 (fl.flatMap pf ++ l) (envOf3 dsts vf qs ++ env) tail Q) : HC P N w0 (P0.flatten ++ l) env (.region id os.toArray true) Q := by
  simp only [Bool.and_eq_true, Nat.beq_eq, beq_iff_eq] at hq
  obtain ⟨⟨hq1, hq2⟩, hq3⟩ := hq
  refine hc_drawn4 hmix m dps dsts R qd tau P0 fl hok htau hfresh hN (fun i o ho hi vf pf hP hR => ?_) (fun vf pf hP hR => ?_)
  · have ho' : quiet[i]? = some o := by rw [hos, List.getElem?_append_left (by omega)] at ho; exact ho
    have := dues4_at quiet [] 0 due i o ho' vf pf (by rw [← hq3]; exact hP) (by rw [Nat.zero_add]; exact hR)
    rwa [Nat.zero_add] at this
  rw [hq2, hos, List.drop_left' hq1, ← hos]; exact fin vf pf (by rw [← hq3]; exact hP) hR
end
section
variable {P : Program} {N : Nat} {w0 : World} {env : List (Nat × Value)}
theorem rm_delete {X : List HP} {o : Oper} {t e s bytes n k : Nat} {x y : Operand} {v z : Value} {xs : List Value} (ho : o.op = .call { callee := .builtin .append, args := #[x, y], argTypes := #[t, t] })
    (hu : P.underlying t = some (.slice e)) (hinf : (P.info? e).map (fun i => (i.zero, i.size, i.bytes)) = some (some z, s, bytes)) (hzs : (Nat.beq z.cells.size s && Nat.blt 0 s && Nat.ble bytes 1000) = true)
    (hx : ev env x = some (slV v 0 k s)) (hy : ev env y = some (slV v (k + 1) n s)) (hk : k < n) (h1 : ∀ q ∈ xs, q.oneCell' = true) (hnm : n ≤ 100000000000)
    {n' : Nat} {xs' : List Value} (hn' : n - 1 = n') (hx' : xs.take (k * s) ++ xs.drop ((k + 1) * s) = xs') : RunM P N w0 [rowE e s v n xs] X env o (fun v' post => ∃ p', post = [p'] ∧ p' = rowE e s v' n' xs') := fun L hL a w st Q K hK => by
  obtain ⟨inf, hi', hz, hs, hby⟩ := info_parts hinf
  simp only [Bool.and_eq_true, Nat.beq_eq, Nat.blt_eq, Nat.ble_eq] at hzs
  obtain ⟨⟨hz1, hz2⟩, hz3⟩ := hzs
  have hown : w.ownsRow 0 e s v n xs := st.mem.holds _ (zcj (i := 0) rfl)
  have hrd := rdW_sl (zdk hown) (show k + 1 ≤ n by omega) (Nat.le_refl n)
  have hlen := hown.1
  rcases hown.2 with ⟨rfl, rfl⟩ | ⟨g, cap, cur, rfl, hB, hg, hn, hcap, hsz, htk⟩
  · omega
  have hv1 : slV (.slice (some ⟨g, 0, none⟩) n cap) 0 k s = .slice (some ⟨g, 0, none⟩) k cap := by
    show sliced (some ⟨g, 0, none⟩) 0 k cap s = _
    unfold sliced
    rw [if_neg (by omega)]
    show Value.slice (some ((⟨g, 0, none⟩ : Addr).add (0 * s))) _ _ = _
    rw [zfv]; simp
  have hks : k * s ≤ n * s := Nat.mul_le_mul_right _ (by omega)
  have hshort : w.ownsRow 0 e s (.slice (some ⟨g, 0, none⟩) k cap) k (xs.take (k * s)) := ⟨by rw [List.length_take, hlen]; exact Nat.min_eq_left hks, .inr ⟨g, cap, cur, rfl, hB, hg, by omega, hcap, hsz, by rw [← htk, List.take_take, Nat.min_eq_left hks]⟩⟩
  have hdr : (xs.drop ((k + 1) * s)).take ((n - (k + 1)) * s) = xs.drop ((k + 1) * s) := List.take_of_length_le (by rw [List.length_drop, hlen, ← Nat.sub_mul]; exact Nat.le_refl _)
  rw [hdr] at hrd
  obtain ⟨ad, cap2, hv2, hl, hm, hc⟩ := hrd
  have h1' : ∀ q ∈ xs.drop ((k + 1) * s), q.oneCell' = true := fun q hq => h1 q (List.mem_of_mem_drop hq)
  have hrun : ∃ v' w', (Builtin.append_ #[t, t] o.type #[.slice (some ⟨g, 0, none⟩) k cap, .slice ad (n - (k + 1)) cap2]).run P w = .ok v' w' ∧ w'.ownsRow 0 e s v' (k + (n - (k + 1))) (xs.take (k * s) ++ xs.drop ((k + 1) * s)) ∧ w.grownBy w' (some g) ∧ (v'.ownBlock = some g ∨ v'.ownBlock = some w.heap.size) := by
    by_cases hm0 : n - (k + 1) = 0
    · have hnil : xs.drop ((k + 1) * s) = [] := List.eq_nil_of_length_eq_zero (by rw [hl, hm0]; simp)
      rw [hm0, hnil]
      refine ⟨.slice (some ⟨g, 0, none⟩) k cap, w, ?_, by simpa using hshort, World.grownBy.refl _ _, .inl rfl⟩
      cases ad <;> simp [Builtin.append_, run_underlying hu, sizeOf, typeInfo, hi', Builtin.lenOf, Builtin.firstCells, loadCells, loadCellsFrom, show k ≤ cap by omega, storeCells]
    · obtain ⟨b, off, rfl, hc'⟩ := hc (by omega)
      have hb : (k + (n - (k + 1))) * bytes ≤ 140737488355328 := by have := Nat.mul_le_mul (show k + (n - (k + 1)) ≤ 100000000000 by omega) hz3; omega
      obtain ⟨v', w', e1, e2, e3, _, e5⟩ := run_append_own_at (P := P) w 0 t o.type e inf z s bytes hu hi' hz hs hby hz1 hz2 _ k _ hshort ⟨b, off, none⟩ (n - (k + 1)) cap2 _ hl (fun j q hj => by rw [zfv]; exact hc' j q hj) h1' (by unfold maxLen; omega) hb (Nat.zero_le _)
      exact ⟨v', w', e1, e2, e3, e5⟩
  obtain ⟨v', w', e1, e2, e3, e4⟩ := hrun
  rw [hv1] at hx
  rw [hv2] at hy
  have hr : (execOp a.eval o).run P w = .ok (.value v') w' := by
    simp only [execOp, ho, resolve, invoke, builtin, Sem.run_bind, Sem.run_pure, Result.andThen_ok, List.map_toArray, List.map_cons, List.map_nil, st.eval hx, st.eval hy, e1]
  unfold Oper.wp
  rw [hr, Oper.upon_value]
  obtain rfl : k + (n - (k + 1)) = n' := by omega
  subst hx'
  exact hK v' _ w' ⟨_, rfl, rfl⟩ (Mem.append (v := .slice (some ⟨g, 0, none⟩) n cap) (i := 0) rfl st.mem e2 e3 e4)
theorem hl_delete {ops : Array Oper} {l : List HP} {rest : List Oper} {Q : Post} {o : Oper} {d t e s bytes n k i : Nat} {x y : Operand} {v z : Value} {xs : List Value} (hd : o.dst = some d) (hN : Nat.blt d N = true) (hw : want ops env o.guard = some true) (ho : o.op = .call { callee := .builtin .append, args := #[x, y], argTypes := #[t, t] })
    (hu : P.underlying t = some (.slice e)) (hinf : (P.info? e).map (fun i => (i.zero, i.size, i.bytes)) = some (some z, s, bytes)) (hzs : (Nat.beq z.cells.size s && Nat.blt 0 s && Nat.ble bytes 1000) = true)
    (hx : ev env x = some (slV v 0 k s)) (hy : ev env y = some (slV v (k + 1) n s)) (hi : l[i]? = some (rowE e s v n xs)) (hk : k < n) (h1 : ∀ q ∈ xs, q.oneCell' = true) (hnm : n ≤ 100000000000)
    {n' : Nat} {xs' : List Value} (hn' : n - 1 = n') (hx' : xs.take (k * s) ++ xs.drop ((k + 1) * s) = xs') {L : Value → List HP} (hL : ∀ v', l.set i (rowE e s v' n' xs') = L v')
    (kk : ∀ v', HL P N ops w0 (L v') ((d, v') :: env) rest Q) : HL P N ops w0 l env (o :: rest) Q := fun a w st => wpList_step fun K hK => by
  rw [if_pos (st.wanted hw)]
  have hil : i < l.length := (List.getElem?_eq_some_iff.1 hi).1
  refine rm_delete (X := l.eraseIdx i) ho hu hinf hzs hx hy hk h1 hnm hn' hx' (l.eraseIdx i) (fun w hm => hm) a w ⟨st.mem.perm (zff l i _ hi), st.size, st.defers, st.env⟩ _ K (fun v' post w' hp hm => ?_)
  obtain ⟨p', rfl, rfl⟩ := hp
  have h2 := zff (l.set i (rowE e s v' n' xs')) i (rowE e s v' n' xs') (List.getElem?_set_self hil)
  rw [List.eraseIdx_set_eq] at h2
  rw [hd]
  exact hK _ _ (kk v' _ _ (st.put hN (by rw [← hL]; exact hm.perm h2.symm)))
end
theorem del_map (zs : List Int) {k : Nat} (hk : k < zs.length) : (zs.map (Value.int .i64)).take (k * 1) ++ (zs.map (Value.int .i64)).drop ((k + 1) * 1) = (zs.eraseIdx k).map (Value.int .i64) := by
  rw [Nat.mul_one, Nat.mul_one, List.eraseIdx_eq_take_drop_succ, List.map_append, List.map_take, List.map_drop]
def RdS (os : List Oq) (s : Int) : Prop := ∃ i, i < os.length ∧ ((os.getD i oq0).k = 2 ∨ (os.getD i oq0).k = 3) ∧ (os.getD i oq0).a = s
def HpP (os : List Oq) : Prop := ∃ i, i < os.length ∧ (os.getD i oq0).k = 1
def FreeP (m : Md) (T : List Int) (x : Int) : Prop := ∀ y ∈ T, ¬ RdS (m.gs.getD x.toNat as0).os (m.gs.getD y.toNat as0).t
def Can (m : Md) (T : List Int) : Prop := ∃ f : Int → Nat, ∀ x ∈ T, ∀ y ∈ T, RdS (m.gs.getD x.toNat as0).os (m.gs.getD y.toNat as0).t → f y < f x
theorem Can.nil (m : Md) : Can m [] := ⟨fun _ => 0, fun x hx => by cases hx⟩
theorem Can.sub {m : Md} {T T' : List Int} (h : Can m T) (hs : ∀ x ∈ T', x ∈ T) : Can m T' := by
  obtain ⟨f, hf⟩ := h; exact ⟨f, fun x hx y hy => hf x (hs x hx) y (hs y hy)⟩
theorem min_ex (f : Int → Nat) : ∀ {T : List Int}, T ≠ [] → ∃ x ∈ T, ∀ y ∈ T, f x ≤ f y
  | [], h => absurd rfl h
  | a :: L, _ => by
    by_cases e : L = []
    · subst e; exact ⟨a, by simp, fun y hy => by rw [List.mem_singleton] at hy; subst hy; exact Nat.le_refl _⟩
    · obtain ⟨x, hx, hm⟩ := min_ex f e
      by_cases h : f a ≤ f x
      · exact ⟨a, by simp, fun y hy => by rcases List.mem_cons.1 hy with rfl | hy; exact Nat.le_refl _; exact Nat.le_trans h (hm y hy)⟩
      · exact ⟨x, by simp [hx], fun y hy => by rcases List.mem_cons.1 hy with rfl | hy; omega; exact hm y hy⟩
theorem Can.free {m : Md} {T : List Int} (h : Can m T) (hT : T ≠ []) : ∃ x ∈ T, FreeP m T x := by
  obtain ⟨f, hf⟩ := h
  obtain ⟨x, hx, hm⟩ := min_ex f hT
  exact ⟨x, hx, fun y hy hr => by have h1 := hf x hx y hy hr; have h2 := hm y hy; omega⟩
theorem mem_eraseIdx {T : List Int} {k : Nat} {y : Int} (hk : k < T.length) (hy : y ∈ T) (hne : y ≠ T.getD k 0) : y ∈ T.eraseIdx k := by
  rw [List.eraseIdx_eq_take_drop_succ, List.mem_append]
  rw [← List.take_append_drop k T, List.mem_append, List.drop_eq_getElem_cons hk, List.mem_cons] at hy
  rcases hy with h | h | h
  · exact .inl h
  · exact absurd (h.trans (by rw [List.getD_eq_getElem?_getD, List.getElem?_eq_getElem hk]; rfl)) hne
  · exact .inr h
theorem mem_of_eraseIdx {T : List Int} {k : Nat} {y : Int} (hy : y ∈ T.eraseIdx k) : y ∈ T := List.mem_of_mem_eraseIdx hy
theorem Can.back {m : Md} {T : List Int} {k : Nat} (hk : k < T.length) (hf : FreeP m T (T.getD k 0)) (h : Can m (T.eraseIdx k)) : Can m T := by
  obtain ⟨f, h⟩ := h
  refine ⟨fun z => if z = T.getD k 0 then 0 else f z + 1, fun x hx y hy hr => ?_⟩
  by_cases ex : x = T.getD k 0
  · rw [ex] at hr; exact absurd hr (hf y hy)
  · show (if y = _ then 0 else f y + 1) < (if x = _ then 0 else f x + 1)
    rw [if_neg ex]
    by_cases ey : y = T.getD k 0
    · rw [if_pos ey]; omega
    · rw [if_neg ey]; have := h x (mem_eraseIdx hk hx ex) y (mem_eraseIdx hk hy ey) hr; omega
def todoA (m : Md) : Nat → List Int
  | 0 => []
  | i + 1 => todoA m i ++ if (m.ss.getD (m.gs.getD i as0).t.toNat sg0).k ≠ 3 then [(i : Int)] else []
theorem todoA_yes {m : Md} {i : Nat} (h : (m.ss.getD (m.gs.getD i as0).t.toNat sg0).k ≠ 3) : todoA m i ++ [(i : Int)] = todoA m (i + 1) := by
  show _ = todoA m i ++ if _ then _ else _
  rw [if_pos h]
theorem todoA_no {m : Md} {i : Nat} (h : ¬ (m.ss.getD (m.gs.getD i as0).t.toNat sg0).k ≠ 3) : todoA m i = todoA m (i + 1) := by
  show _ = todoA m i ++ if _ then _ else _
  rw [if_neg h, List.append_nil]
theorem todoA_le (m : Md) : ∀ i, (todoA m i).length ≤ i
  | 0 => Nat.le_refl _
  | i + 1 => by
    have := todoA_le m i
    unfold todoA; rw [List.length_append]; split <;> simp <;> omega
theorem todoA_mem {m : Md} {x : Int} : ∀ {i : Nat}, x ∈ todoA m i ↔ ∃ j : Nat, j < i ∧ (m.ss.getD (m.gs.getD j as0).t.toNat sg0).k ≠ 3 ∧ x = (j : Int)
  | 0 => ⟨fun h => (by cases h), fun ⟨j, h, _⟩ => absurd h (by omega)⟩
  | i + 1 => by
    unfold todoA; rw [List.mem_append, todoA_mem]
    constructor
    · rintro (⟨j, h1, h2⟩ | h)
      · exact ⟨j, by omega, h2⟩
      · split at h
        · rw [List.mem_singleton] at h; exact ⟨i, by omega, by assumption, h⟩
        · cases h
    · rintro ⟨j, h1, h2, rfl⟩
      by_cases e : j < i
      · exact .inl ⟨j, e, h2, rfl⟩
      · obtain rfl : j = i := by omega
        right; rw [if_pos h2]; simp
theorem todoA_nodup (m : Md) : ∀ i, (todoA m i).Nodup
  | 0 => List.nodup_nil
  | i + 1 => by
    unfold todoA
    split
    · refine List.nodup_append.2 ⟨todoA_nodup m i, by simp, fun a ha b hb e => ?_⟩
      rw [List.mem_singleton] at hb; subst e hb
      obtain ⟨j, h1, -, h2⟩ := todoA_mem.1 ha; omega
    · rw [List.append_nil]; exact todoA_nodup m i
noncomputable def pickK (m : Md) (T : List Int) : Nat := ((List.range T.length).find? (fun k => pB (FreeP m T (T.getD k 0)))).getD 0
noncomputable def ordF (m : Md) : Nat → List Int → List Int
  | 0, _ => []
  | n + 1, T => T.getD (pickK m T) 0 :: ordF m n (T.eraseIdx (pickK m T))
noncomputable def ordK (m : Md) (T : List Int) : List Int := ordF m T.length T
theorem pickK_eq {m : Md} {T : List Int} {k : Nat} (hk : k < T.length) (hf : FreeP m T (T.getD k 0)) (hn : ∀ q, q < k → ¬ FreeP m T (T.getD q 0)) : pickK m T = k := by
  unfold pickK
  have h : (List.range T.length).find? (fun k => pB (FreeP m T (T.getD k 0))) = some k := by
    rw [List.find?_range_eq_some]
    exact ⟨zdi hf, by simpa using hk, fun j hj => by rw [zbv (hn j hj)]; rfl⟩
  rw [h]; rfl
theorem ord_nil (m : Md) : ordK m [] = [] := rfl
theorem ord_step {m : Md} {T : List Int} {k : Nat} (hk : k < T.length) (hf : FreeP m T (T.getD k 0)) (hn : ∀ q, q < k → ¬ FreeP m T (T.getD q 0)) : ordK m T = T.getD k 0 :: ordK m (T.eraseIdx k) := by
  have h := pickK_eq hk hf hn
  unfold ordK
  obtain ⟨n, e⟩ : ∃ n, T.length = n + 1 := ⟨T.length - 1, by omega⟩
  rw [List.length_eraseIdx_of_lt hk, e]
  show T.getD (pickK m T) 0 :: ordF m n (T.eraseIdx (pickK m T)) = _
  rw [h]; rfl
noncomputable def frB (m : Md) (T : List Int) (x : Int) (j : Nat) : Bool := pB (∀ q, q < j → ¬ RdS (m.gs.getD x.toNat as0).os (m.gs.getD (T.getD q 0).toNat as0).t)
theorem frB_0 {m : Md} {T : List Int} {x : Int} : frB m T x 0 = true := zdi (fun q hq => absurd hq (by omega))
theorem frB_no {m : Md} {T : List Int} {x : Int} {j : Nat} (h : frB m T x j = false) : frB m T x (j + 1) = false := zbv (fun hp => zdt h (fun q hq => hp q (by omega)))
theorem frB_t {m : Md} {T : List Int} {x : Int} {j : Nat} (h : frB m T x j = true) (hn : ¬ RdS (m.gs.getD x.toNat as0).os (m.gs.getD (T.getD j 0).toNat as0).t) : frB m T x (j + 1) = true := zdi (fun q hq => by
  by_cases e : q = j
  · subst e; exact hn
  · exact zes h q (by omega))
theorem frB_f {m : Md} {T : List Int} {x : Int} {j : Nat} (hn : RdS (m.gs.getD x.toNat as0).os (m.gs.getD (T.getD j 0).toNat as0).t) : frB m T x (j + 1) = false := zbv (fun hp => hp j (by omega) hn)
theorem frB_yes {m : Md} {T : List Int} {x : Int} (h : frB m T x T.length = true) : FreeP m T x := fun y hy => by
  obtain ⟨q, hq, rfl⟩ := List.mem_iff_getElem.1 hy
  have h1 := zes h q hq
  have e : T.getD q 0 = T[q] := by rw [List.getD_eq_getElem?_getD, List.getElem?_eq_getElem hq]; rfl
  rwa [e] at h1
theorem frB_nn {m : Md} {T : List Int} {x : Int} (h : frB m T x T.length = false) : ¬ FreeP m T x := fun hf => zdt h (fun q hq => hf _ (zbw hq))
theorem DesP.gs1 {m : Md} (h : DesP [m]) {i : Nat} (hi : i < m.gs.length) : AsP m (m.gs.getD i as0) := (h.2 0 (by simp)).gs i hi
theorem AsP.tgt {m : Md} {g : As} (h : AsP m g) : (0 ≤ g.t ∧ g.t < m.ss.length) ∧ 1 ≤ (m.ss.getD g.t.toNat sg0).k ∧ (m.ss.getD g.t.toNat sg0).k ≤ 3 := by
  have h1 := h.1
  have hk : 0 ≤ g.t ∧ g.t < m.ss.length := Classical.byContradiction fun h9 => by have := zeg h9; omega
  rw [zcp hk] at h1; exact ⟨hk, h1⟩
theorem DesP.len1 {m : Md} (h : DesP [m]) : LenP m := (h.2 0 (by simp)).cnt.md 0 (by simp)
theorem Can.stop {m : Md} {T : List Int} (hT : T ≠ []) (hn : ∀ q, q < T.length → ¬ FreeP m T (T.getD q 0)) : ¬ Can m T := fun h => by
  obtain ⟨x, hx, hf⟩ := h.free hT
  obtain ⟨q, hq, rfl⟩ := List.mem_iff_getElem.1 hx
  exact hn q hq (by rw [List.getD_eq_getElem?_getD, List.getElem?_eq_getElem hq]; exact hf)
def pwA (ss : List Sg) (c : Int) : Nat → List Int
  | 0 => []
  | i + 1 => pwA ss c i ++ if (ss.getD i sg0).k = c then [(ss.getD i sg0).w] else []
def pwK (m : Md) (c : Int) : List Int := if m.ss.length ≤ 30 then pwA m.ss c m.ss.length else []
theorem pwA_le (ss : List Sg) (c : Int) : ∀ i, (pwA ss c i).length ≤ i
  | 0 => Nat.le_refl _
  | i + 1 => by
    have := pwA_le ss c i
    unfold pwA; rw [List.length_append]; split <;> simp <;> omega
theorem pwA_yes {ss : List Sg} {c : Int} {i : Nat} (h : (ss.getD i sg0).k = c) : pwA ss c i ++ [(ss.getD i sg0).w] = pwA ss c (i + 1) := by
  show _ = pwA ss c i ++ if _ then _ else _
  rw [if_pos h]
theorem pwA_no {ss : List Sg} {c : Int} {i : Nat} (h : ¬ (ss.getD i sg0).k = c) : pwA ss c i = pwA ss c (i + 1) := by
  show _ = pwA ss c i ++ if _ then _ else _
  rw [if_neg h, List.append_nil]
theorem pwK_le (m : Md) (c : Int) : (pwK m c).length ≤ 30 := by
  unfold pwK; split
  · have := pwA_le m.ss c m.ss.length; omega
  · simp
theorem pwA_rng {ss : List Sg} {c : Int} (h : ∀ q, q < ss.length → 0 ≤ (ss.getD q sg0).w ∧ (ss.getD q sg0).w ≤ 4) : ∀ i, i ≤ ss.length → ∀ x ∈ pwA ss c i, 0 ≤ x ∧ x ≤ 4
  | 0, _, x, hx => by cases hx
  | i + 1, hi, x, hx => by
    unfold pwA at hx
    rcases List.mem_append.1 hx with hx | hx
    · exact pwA_rng h i (by omega) x hx
    · split at hx
      · rw [List.mem_singleton] at hx; subst hx; exact h i (by omega)
      · cases hx
def sumA (L : List Int) : Nat → Int
  | 0 => 0
  | i + 1 => sumA L i + L.getD i 0
def sumZ (L : List Int) : Int := sumA L L.length
theorem sumA_rng {L : List Int} (h : ∀ x ∈ L, 0 ≤ x ∧ x ≤ 4) : ∀ i, i ≤ L.length → 0 ≤ sumA L i ∧ sumA L i ≤ 4 * i
  | 0, _ => ⟨Int.le_refl _, Int.le_refl _⟩
  | i + 1, hi => by
    have h1 := sumA_rng h i (by omega)
    have h2 := h _ (zbw (d := (0 : Int)) (show i < L.length by omega))
    show 0 ≤ sumA L i + L.getD i 0 ∧ sumA L i + L.getD i 0 ≤ _
    omega
def moA (m : Md) : Nat → Int
  | 0 => 0
  | i + 1 => moA m i + (m.ss.getD (m.ms.getD i mm0).o.toNat sg0).w
def EoP (m : Md) : Prop := m.xs.length = 0 ∧ DesP [m] ∧ Can m (todoA m m.gs.length)
def MwP (m : Md) (x : Mm) : Prop := (m.ss.getD x.a.toNat sg0).w = 2 ∧ (m.ss.getD x.w.toNat sg0).w = 1 ∧ (m.ss.getD x.d.toNat sg0).w = (m.ss.getD x.o.toNat sg0).w
structure FlP (m : Md) : Prop where
  eo : EoP m
  wid : ∀ s, s < m.ss.length → (m.ss.getD s sg0).w ≠ 0
  par : ∀ i, i < m.gs.length → ¬ HpP (m.gs.getD i as0).os
  mem : ∀ i, i < m.ms.length → MwP m (m.ms.getD i mm0)
  ins : sumZ (pwK m 0) ≤ 8
  outs : sumZ (pwK m 1) ≤ 8
  bits : sumZ (pwK m 3) + moA m m.ms.length ≤ 12
noncomputable def eoK (m : Md) : List Int := if pB (EoP m) = true then ordK m (todoA m m.gs.length) else []
theorem eoK_yes {m : Md} (h : EoP m) : eoK m = ordK m (todoA m m.gs.length) := if_pos (zdi h)
theorem eoK_no {m : Md} (h : ¬ EoP m) : eoK m = [] := if_neg (by rw [zbv h]; decide)
theorem EoP.mod {m : Md} (h : EoP m) : ModP [m] 0 := h.2.1.2 0 (by simp)
theorem tgt_inj {m : Md} (h : ModP [m] 0) {i j : Nat} (hi : i < m.gs.length) (hj : j < m.gs.length) (e : (m.gs.getD i as0).t = (m.gs.getD j as0).t) : i = j := by
  have key : ∀ {i j : Nat}, i < j → j < m.gs.length → (m.gs.getD i as0).t = (m.gs.getD j as0).t → False := fun {i j} hij hj e => by
    have hg := (h.gs j hj).1
    have hk : 0 ≤ (m.gs.getD j as0).t ∧ (m.gs.getD j as0).t < m.ss.length := Classical.byContradiction fun h9 => by
      have := zeg h9; have h8 := hg.1; rw [show ([m] : List Md).getD 0 md0 = m from rfl] at h8; omega
    have h8 := hg.1
    rw [show ([m] : List Md).getD 0 md0 = m from rfl, zcp hk] at h8
    have h1 := h.dr (m.gs.getD j as0).t.toNat (show (m.gs.getD j as0).t.toNat < m.ss.length by omega) (show (m.ss.getD (m.gs.getD j as0).t.toNat sg0).k ≠ 0 by omega)
    rw [Int.toNat_of_nonneg hk.1] at h1
    have h2 : (m.gs.map As.t).count (m.gs.getD j as0).t ≤ 1 := by
      unfold drvL at h1
      rw [List.count_append, List.count_append] at h1
      have h9 : ([m] : List Md).getD 0 md0 = m := rfl
      rw [h9] at h1; omega
    have h3 := cntM_yes (g := As.t) as0 (L := m.gs) hj rfl
    have h4 : 1 ≤ ((m.gs.take j).map As.t).count (m.gs.getD j as0).t := List.count_pos_iff.2 (List.mem_map.2 ⟨m.gs.getD i as0, by
      rw [List.getD_eq_getElem?_getD, List.getElem?_eq_getElem (by omega)]
      exact List.mem_take_iff_getElem.2 ⟨i, by omega, rfl⟩, e⟩)
    have h5 : ((m.gs.take (j + 1)).map As.t).count (m.gs.getD j as0).t ≤ (m.gs.map As.t).count (m.gs.getD j as0).t := ((List.take_sublist _ _).map _).count_le _
    omega
  rcases Nat.lt_trichotomy i j with h1 | h1 | h1
  · exact (key h1 hj e).elim
  · exact h1
  · exact (key h1 hi e.symm).elim
theorem DesP.zero : DesP [md0] := ⟨⟨by simp, by simp⟩, fun k hk => by
  obtain rfl : k = 0 := by have : k < 1 := hk; omega
  have h0 : ∀ {n : Nat}, n < 0 → False := fun h => by omega
  exact ⟨hk, ⟨by simp, fun q hq => by
    obtain rfl : q = 0 := by have : q < 1 := hq; omega
    exact ⟨Nat.zero_le _, Nat.zero_le _, Nat.zero_le _, Nat.zero_le _⟩⟩, fun i hi => (h0 hi).elim, fun i hi => (h0 hi).elim, fun i hi => (h0 hi).elim, fun i hi => (h0 hi).elim, fun i hi => (h0 hi).elim, fun i hi => (h0 hi).elim⟩⟩
theorem FlP.zero : FlP md0 := ⟨⟨rfl, DesP.zero, Can.nil _⟩, fun s hs => absurd hs (Nat.not_lt_zero _), fun s hs => absurd hs (Nat.not_lt_zero _), fun s hs => absurd hs (Nat.not_lt_zero _), by decide, by decide, by decide⟩
theorem zgd {α : Type} {a b : List α} {d : α} {i : Nat} (h : i < a.length) : (a ++ b).getD i d = a.getD i d := by
  rw [List.getD_eq_getElem?_getD, List.getElem?_append_left h, ← List.getD_eq_getElem?_getD]
theorem gD_right {α : Type} {a b : List α} {d : α} {i : Nat} : (a ++ b).getD (a.length + i) d = b.getD i d := by
  rw [List.getD_eq_getElem?_getD, List.getElem?_append_right (by omega), Nat.add_sub_cancel_left, ← List.getD_eq_getElem?_getD]
theorem gD_last {α : Type} {a : List α} {x d : α} : (a ++ [x]).getD a.length d = x := by
  rw [show a.length = a.length + 0 from rfl, gD_right]; rfl
theorem needK_left (P E : List Oq) : ∀ i, i ≤ P.length → needK (P ++ E) i = needK P i
  | 0, _ => rfl
  | i + 1, h => by
    show needK (P ++ E) i + (arI ((P ++ E).getD i oq0).k - 1) = _
    rw [needK_left P E i (by omega), zgd (by omega)]; rfl
theorem needK_right (P E : List Oq) : ∀ i, i ≤ E.length → needK (P ++ E) (P.length + i) = needK P P.length + needK E i - 1
  | 0, _ => by rw [Nat.add_zero, needK_left P E _ (Nat.le_refl _)]; show _ = _ + 1 - 1; omega
  | i + 1, h => by
    show needK (P ++ E) (P.length + i) + (arI ((P ++ E).getD (P.length + i) oq0).k - 1) = _
    rw [needK_right P E i (by omega), gD_right]
    show _ = needK P P.length + (needK E i + (arI (E.getD i oq0).k - 1)) - 1
    omega
def PartP (n : Int) (P : List Oq) (c : Int) : Prop := (∀ i, i < P.length → 1 ≤ needK P i ∧ OqP n (P.getD i oq0)) ∧ needK P P.length = c
theorem PartP.one {n : Int} {o : Oq} (h : OqP n o) : PartP n [o] (arI o.k) := ⟨fun i hi => by
  have : i = 0 := by have : i < 1 := hi; omega
  subst this; exact ⟨by show (1 : Int) ≤ 1; omega, h⟩, by show 1 + (arI o.k - 1) = _; omega⟩
theorem PartP.app {n : Int} {P E : List Oq} {c : Int} (h : PartP n P c) (hc : 1 ≤ c) (hE : PartP n E 0) : PartP n (P ++ E) (c - 1) := ⟨fun i hi => by
  rw [List.length_append] at hi
  by_cases e : i < P.length
  · rw [needK_left _ _ _ (by omega), zgd e]; exact h.1 i e
  · obtain ⟨j, rfl⟩ : ∃ j, i = P.length + j := ⟨i - P.length, by omega⟩
    rw [needK_right _ _ _ (by omega), gD_right, h.2]
    have := hE.1 j (by omega)
    exact ⟨by omega, this.2⟩, by
  rw [List.length_append, needK_right _ _ _ (Nat.le_refl _), h.2, hE.2]; omega⟩
theorem PartP.ops {n : Int} {E : List Oq} (h : PartP n E 0) (hl : E.length ≤ 15) : OpsP n E := ⟨hl, fun i hi => ⟨by have := (h.1 i hi).1; omega, (h.1 i hi).2⟩, h.2⟩
theorem OqP.mono {n n' : Int} (h : n ≤ n') {o : Oq} (ho : OqP n o) : OqP n' o := by
  rcases ho with p | ⟨p1, ⟨p2, p3⟩, p4⟩ | ⟨p1, ⟨p2, p3⟩, p4⟩ | p
  · exact .inl p
  · exact .inr (.inl ⟨p1, ⟨p2, by omega⟩, p4⟩)
  · exact .inr (.inr (.inl ⟨p1, ⟨p2, by omega⟩, p4⟩))
  · exact .inr (.inr (.inr p))
theorem OpsP.mono {n n' : Int} (h : n ≤ n') {os : List Oq} (ho : OpsP n os) : OpsP n' os := ⟨ho.len, fun i hi => ⟨(ho.op i hi).1, (ho.op i hi).2.mono h⟩, ho.fin⟩
theorem stepQ (a q : Int) (k : Nat) : (a - ((k + 1 : Nat) : Int)) * q = (a - (k : Int)) * q - q := by
  rw [show a - ((k + 1 : Nat) : Int) = (a - (k : Int)) - 1 by omega, Int.sub_mul, Int.one_mul]
theorem arKind {x : Int} (h : x ∈ ([4, 5, 6, 7, 8, 9, 10, 11, 12, 7, 12] : List Int)) : 4 ≤ x ∧ x ≤ 12 := by
  simp only [List.mem_cons, List.not_mem_nil, or_false] at h; omega
theorem arI_op {x : Int} (h : 4 ≤ x ∧ x ≤ 12) : 1 ≤ arI x ∧ arI x ≤ 3 := by unfold arI; (repeat' split) <;> omega
def ExP (n M : Int) (os : List Oq) : Prop := PartP n os 0 ∧ 1 ≤ os.length ∧ (os.length : Int) ≤ M
theorem zdg {n M : Int} {o : Oq} (h : OqP n o) (ha : arI o.k = 0) (hM : 1 ≤ M) : ExP n M [o] := ⟨by have := PartP.one h; rwa [ha] at this, by simp, by simpa using hM⟩
theorem flat_onesD {α : Type} (f : α → List Value) (xs : List α) (h : ∀ r u, u ∈ f r → u.oneCell' = true) : ∀ q ∈ xs.flatMap f, q.oneCell' = true := fun q hq => by
  obtain ⟨r, -, h2⟩ := List.mem_flatMap.1 hq
  exact h r q h2
theorem flat_app {α : Type} (f : α → List Value) (xs ys : List α) : xs.flatMap f ++ ys.flatMap f = (xs ++ ys).flatMap f := List.flatMap_append.symm
theorem rv_buildMD {P : Program} {N : Nat} {w0 : World} {l : List HP} {env : List (Nat × Value)} {o : Oper} {t : TypeId} {ps : Array (Nat × Operand)} {vs : List (Nat × Value)} {cs : Array Value} (ho : o.op = .build t ps)
    (hp : ps.toList.mapM (fun p => (ev env p.2).map fun v => (p.1, v)) = some vs) (hb : ∀ w, Mem w0 l w → P.built t vs = some cs) : RunV P N w0 l env o (.agg cs) := fun a w st => zbk ho hp (hb w st.mem) a w st
theorem exStart (n : Int) {M x : Int} (hx : 4 ≤ x ∧ x ≤ 12) : PartP n [Oq.mk x 0 0] (arI x - ((0 : Nat) : Int)) ∧ 1 ≤ ([Oq.mk x 0 0] : List Oq).length ∧ (([Oq.mk x 0 0] : List Oq).length : Int) + (arI x - ((0 : Nat) : Int)) * ((M - 1) / arI x) ≤ M := by
  have ha := arI_op hx
  have h0 : arI x - ((0 : Nat) : Int) = arI x := by omega
  have h1 : OqP n (Oq.mk x 0 0) := .inr (.inr (.inr ⟨by show x ≠ 0; omega, by show x ≠ 2; omega, by show x ≠ 3; omega, by show 0 ≤ arI x; omega, rfl, rfl⟩))
  rw [h0]
  refine ⟨PartP.one h1, by simp, ?_⟩
  have h2 := Int.mul_ediv_self_le (x := M - 1) (k := arI x) (by omega)
  show (1 : Int) + arI x * ((M - 1) / arI x) ≤ M
  omega
theorem exStep {n M x : Int} {k : Nat} {os es : List Oq} (hx : 4 ≤ x ∧ x ≤ 12) (hk : (k : Int) < arI x) (hP : PartP n os (arI x - (k : Int))) (h1 : 1 ≤ os.length) (hl : (os.length : Int) + (arI x - (k : Int)) * ((M - 1) / arI x) ≤ M) (hE : ExP n ((M - 1) / arI x) es) :
    PartP n (os ++ es) (arI x - ((k + 1 : Nat) : Int)) ∧ 1 ≤ (os ++ es).length ∧ ((os ++ es).length : Int) + (arI x - ((k + 1 : Nat) : Int)) * ((M - 1) / arI x) ≤ M := by
  obtain ⟨e1, e2, e3⟩ := hE
  refine ⟨?_, by rw [List.length_append]; omega, ?_⟩
  · have := hP.app (by omega) e1
    rwa [show arI x - (k : Int) - 1 = arI x - ((k + 1 : Nat) : Int) by omega] at this
  · rw [stepQ, List.length_append]; omega
theorem exEnd {n M x : Int} {k : Nat} {os : List Oq} (hk : (k : Int) = arI x) (hP : PartP n os (arI x - (k : Int))) (h1 : 1 ≤ os.length) (hl : (os.length : Int) + (arI x - (k : Int)) * ((M - 1) / arI x) ≤ M) : ExP n M os := by
  rw [show arI x - (k : Int) = 0 by omega] at hP hl
  rw [Int.zero_mul] at hl
  exact ⟨hP, h1, by omega⟩
theorem exLen {M x : Int} {k : Nat} {os : List Oq} (hx : 4 ≤ x ∧ x ≤ 12) (hM : 1 ≤ M) (hk : (k : Int) ≤ arI x) (hl : (os.length : Int) + (arI x - (k : Int)) * ((M - 1) / arI x) ≤ M) : (os.length : Int) ≤ M := by
  have ha := arI_op hx
  have h1 : 0 ≤ (M - 1) / arI x := Int.ediv_nonneg (by omega) (by omega)
  have h2 := Int.mul_nonneg (show 0 ≤ arI x - (k : Int) by omega) h1
  omega
theorem exQuo {M x : Int} (hx : 4 ≤ x ∧ x ≤ 12) (hM : 4 ≤ M) : 1 ≤ (M - 1) / arI x ∧ (M - 1) / arI x < M := by
  have ha := arI_op hx
  have h1 : (M - 1) / 3 ≤ (M - 1) / arI x := by
    rcases (by omega : arI x = 1 ∨ arI x = 2 ∨ arI x = 3) with e | e | e <;> rw [e] <;> omega
  have h2 : (M - 1) / arI x ≤ M - 1 := by
    rcases (by omega : arI x = 1 ∨ arI x = 2 ∨ arI x = 3) with e | e | e <;> rw [e] <;> omega
  omega
structure BldP (D : List Md) (m : Md) (P : List Int) : Prop where
  sg : ∀ s ∈ m.ss, SgP s
  gs : ∀ g ∈ m.gs, AsP m g
  xs : ∀ x ∈ m.xs, ((0 ≤ x.m ∧ x.m < D.length) ∧ x.ps.length = (ptsK (D.getD x.m.toNat md0)).length) ∧ IxP D m x
  ms : ∀ x ∈ m.ms, MmP m x
  dr : ∀ s, s < m.ss.length → (drvL D m).count (s : Int) = if (m.ss.getD s sg0).k = 0 then 0 else if (s : Int) ∈ P then 0 else 1
  pn : ∀ x ∈ P, 1 ≤ knd m x ∧ knd m x ≤ 3
theorem Inn_of {m : Md} {x : Int} (h : 1 ≤ knd m x ∧ knd m x ≤ 3) : Inn m x := Classical.byContradiction fun h9 => by rw [zeg h9] at h; omega
structure Ext (m m' : Md) : Prop where
  len : m.ss.length ≤ m'.ss.length
  kk : ∀ i, i < m.ss.length → (m'.ss.getD i sg0).k = (m.ss.getD i sg0).k
theorem Ext.knd {m m' : Md} (h : Ext m m') {x : Int} (hx : Inn m x) : knd m' x = knd m x := by
  obtain ⟨h0, h1⟩ := hx; have := h.len
  rw [zcp ⟨h0, by omega⟩, zcp ⟨h0, h1⟩, h.kk _ (by omega)]
theorem Ext.inn {m m' : Md} (h : Ext m m') {x : Int} (hx : Inn m x) : Inn m' x := ⟨hx.1, by have := hx.2; have := h.len; omega⟩
theorem Ext.drv {m m' : Md} (h : Ext m m') {x : Int} (hx : Drv m x) : Drv m' x := by unfold Drv; rw [h.knd hx.inn]; exact hx
theorem Ext.as {m m' : Md} (h : Ext m m') {g : As} (hg : AsP m g) : AsP m' g := ⟨by rw [h.knd (Inn_of hg.1)]; exact hg.1, hg.2.mono (by have := h.len; omega)⟩
theorem Ext.ix {D : List Md} {m m' : Md} (h : Ext m m') {x : Ix} (hx : IxP D m x) : IxP D m' x := ⟨hx.1, fun j hj => ⟨h.inn (hx.2 j hj).1, fun hk => h.drv ((hx.2 j hj).2 hk)⟩⟩
theorem Ext.mm {m m' : Md} (h : Ext m m') {x : Mm} (hx : MmP m x) : MmP m' x := ⟨⟨h.inn hx.1.1, h.inn hx.1.2.1, h.inn hx.1.2.2⟩, h.drv hx.2⟩
theorem ext_app {m : Md} (v : Value) (l : List Sg) : Ext m { m with sv := v, ss := m.ss ++ l } := ⟨by show m.ss.length ≤ (m.ss ++ l).length; rw [List.length_append]; omega, fun i hi => by show ((m.ss ++ l).getD i sg0).k = _; rw [zgd hi]⟩
theorem BldP.inn {D : List Md} {m : Md} {P : List Int} (h : BldP D m P) {x : Int} (hx : x ∈ drvL D m) : Inn m x := by
  unfold drvL at hx
  rcases List.mem_append.1 hx with hx | hx
  · rcases List.mem_append.1 hx with hx | hx
    · obtain ⟨g, hg, rfl⟩ := List.mem_map.1 hx; exact Inn_of (h.gs g hg).1
    · obtain ⟨g, hg, rfl⟩ := List.mem_map.1 hx; exact (h.ms g hg).2.inn
  · obtain ⟨g, hg, hx⟩ := List.mem_flatMap.1 hx
    have : ∀ j, j ≤ (ptsK (D.getD g.m.toNat md0)).length → x ∈ xoA D g j → Inn m x := by
      intro j
      induction j with
      | zero => intro _ h9; cases h9
      | succ j ih =>
        intro hj h9
        rcases List.mem_append.1 h9 with h9 | h9
        · exact ih (by omega) h9
        · split at h9
          · rw [List.mem_singleton] at h9; subst h9; exact ((h.xs g hg).2.2 j (by omega)).1
          · cases h9
    exact this _ (Nat.le_refl _) hx
theorem BldP.app {D : List Md} {m : Md} {P : List Int} (h : BldP D m P) (v : Value) {l : List Sg} (hl : ∀ s ∈ l, SgP s) {P' : List Int} (hP : ∀ x, x ∈ P' ↔ x ∈ P ∨ ∃ j, j < l.length ∧ (l.getD j sg0).k ≠ 0 ∧ x = ((m.ss.length + j : Nat) : Int)) : BldP D { m with sv := v, ss := m.ss ++ l } P' := by
  have e := ext_app (m := m) v l
  refine ⟨fun s hs => ?_, fun g hg => e.as (h.gs g hg), fun x hx => ⟨(h.xs x hx).1, e.ix (h.xs x hx).2⟩, fun x hx => e.mm (h.ms x hx), fun s hs => ?_, fun x hx => ?_⟩
  · rcases List.mem_append.1 hs with hs | hs
    · exact h.sg s hs
    · exact hl s hs
  · show (drvL D m).count (s : Int) = if ((m.ss ++ l).getD s sg0).k = 0 then 0 else if (s : Int) ∈ P' then 0 else 1
    have hs' : s < (m.ss ++ l).length := hs
    rw [List.length_append] at hs'
    by_cases e9 : s < m.ss.length
    · rw [zgd e9, h.dr s e9]
      split
      · rfl
      · by_cases hp : (s : Int) ∈ P
        · rw [if_pos hp, if_pos ((hP _).2 (.inl hp))]
        · rw [if_neg hp, if_neg (fun h8 => (hP _).1 h8 |>.elim hp (fun ⟨j, _, _, h7⟩ => by omega))]
    · obtain ⟨j, rfl⟩ : ∃ j, s = m.ss.length + j := ⟨s - m.ss.length, by omega⟩
      rw [gD_right, List.count_eq_zero.2 (fun h9 => by have := (h.inn h9).2; omega)]
      split
      · rfl
      · rename_i hk; rw [if_pos ((hP _).2 (.inr ⟨j, by omega, hk, rfl⟩))]
  · rcases (hP x).1 hx with hx | ⟨j, hj, hk, rfl⟩
    · rw [e.knd (Inn_of (h.pn x hx))]; exact h.pn x hx
    · rw [zcp ⟨by omega, by show _ < (((m.ss ++ l).length : Nat) : Int); rw [List.length_append]; omega⟩]
      show 1 ≤ ((m.ss ++ l).getD (((m.ss.length + j : Nat) : Int)).toNat sg0).k ∧ _ ≤ _
      rw [Int.toNat_natCast, gD_right]
      have := (hl _ (zbw (d := sg0) hj)).1; omega
theorem BldP.assign {D : List Md} {m : Md} {P : List Int} (h : BldP D m P) (v : Value) {s : Int} (hs : s ∈ P) (ov : Value) {os : List Oq} (ho : OpsP m.ss.length os) {P' : List Int} (hP : ∀ x, x ∈ P' ↔ x ∈ P ∧ x ≠ s) : BldP D { m with av := v, gs := m.gs ++ [As.mk s ov os] } P' := by
  refine ⟨h.sg, fun g hg => ?_, h.xs, h.ms, fun q hq => ?_, fun x hx => h.pn x ((hP x).1 hx).1⟩
  · rcases List.mem_append.1 hg with hg | hg
    · exact h.gs g hg
    · rw [List.mem_singleton] at hg; subst hg; exact ⟨h.pn s hs, ho⟩
  · have h1 := h.dr q hq
    have e : (drvL D { m with av := v, gs := m.gs ++ [As.mk s ov os] }).count (q : Int) = (drvL D m).count (q : Int) + if s = (q : Int) then 1 else 0 := by
      unfold drvL
      show List.count _ ((m.gs ++ [As.mk s ov os]).map As.t ++ m.ms.map Mm.o ++ m.xs.flatMap (xoK D)) = _
      rw [List.map_append]
      simp only [List.count_append]
      have : ([As.mk s ov os].map As.t).count (q : Int) = if s = (q : Int) then 1 else 0 := by
        show [s].count (q : Int) = _
        rw [List.count_singleton]; by_cases e : s = (q : Int) <;> simp [e]
      omega
    rw [e, h1]
    show _ = if (m.ss.getD q sg0).k = 0 then 0 else _
    have hk := h.pn s hs
    by_cases e2 : s = (q : Int)
    · subst e2
      have hq' : q < m.ss.length := hq
      rw [zcp ⟨by omega, by omega⟩, Int.toNat_natCast] at hk
      rw [if_neg (by omega), if_pos hs, if_pos rfl, if_neg (by omega), if_neg (fun h9 => ((hP _).1 h9).2 rfl)]
    · rw [if_neg e2, Nat.add_zero]
      split
      · rfl
      · by_cases hp : (q : Int) ∈ P
        · rw [if_pos hp, if_pos ((hP _).2 ⟨hp, fun h9 => e2 h9.symm⟩)]
        · rw [if_neg hp, if_neg (fun h9 => hp ((hP _).1 h9).1)]
theorem BldP.mem {D : List Md} {m : Md} {P : List Int} (h : BldP D m P) (v : Value) {x : Mm} (hx : MmP m x) (ho : x.o ∈ P) {P' : List Int} (hP : ∀ y, y ∈ P' ↔ y ∈ P ∧ y ≠ x.o) : BldP D { m with mv := v, ms := m.ms ++ [x] } P' := by
  refine ⟨h.sg, h.gs, h.xs, fun g hg => ?_, fun q hq => ?_, fun y hy => h.pn y ((hP y).1 hy).1⟩
  · rcases List.mem_append.1 hg with hg | hg
    · exact h.ms g hg
    · rw [List.mem_singleton] at hg; subst hg; exact hx
  · have h1 := h.dr q hq
    have e : (drvL D { m with mv := v, ms := m.ms ++ [x] }).count (q : Int) = (drvL D m).count (q : Int) + if x.o = (q : Int) then 1 else 0 := by
      unfold drvL
      show List.count _ (m.gs.map As.t ++ (m.ms ++ [x]).map Mm.o ++ m.xs.flatMap (xoK D)) = _
      rw [List.map_append]
      simp only [List.count_append]
      have : ([x].map Mm.o).count (q : Int) = if x.o = (q : Int) then 1 else 0 := by
        show [x.o].count (q : Int) = _
        rw [List.count_singleton]; by_cases e : x.o = (q : Int) <;> simp [e]
      omega
    rw [e, h1]
    show _ = if (m.ss.getD q sg0).k = 0 then 0 else _
    have hk := h.pn _ ho
    by_cases e2 : x.o = (q : Int)
    · have hq' : q < m.ss.length := hq
      rw [e2] at hk ho
      rw [zcp ⟨by omega, by omega⟩, Int.toNat_natCast] at hk
      rw [if_neg (by omega), if_pos ho, if_pos e2, if_neg (by omega), if_neg (fun h9 => ((hP _).1 h9).2 e2.symm)]
    · rw [if_neg e2, Nat.add_zero]
      split
      · rfl
      · by_cases hp : (q : Int) ∈ P
        · rw [if_pos hp, if_pos ((hP _).2 ⟨hp, fun h9 => e2 h9.symm⟩)]
        · rw [if_neg hp, if_neg (fun h9 => hp ((hP _).1 h9).1)]
theorem BldP.inst {D : List Md} {m : Md} {P : List Int} (h : BldP D m P) (v : Value) {x : Ix} (hx : ((0 ≤ x.m ∧ x.m < D.length) ∧ x.ps.length = (ptsK (D.getD x.m.toNat md0)).length) ∧ IxP D m x) (hn : (xoK D x).Nodup) (ho : ∀ y ∈ xoK D x, y ∈ P) {P' : List Int} (hP : ∀ y, y ∈ P' ↔ y ∈ P ∧ y ∉ xoK D x) : BldP D { m with iv := v, xs := m.xs ++ [x] } P' := by
  refine ⟨h.sg, h.gs, fun g hg => ?_, h.ms, fun q hq => ?_, fun y hy => h.pn y ((hP y).1 hy).1⟩
  · rcases List.mem_append.1 hg with hg | hg
    · exact h.xs g hg
    · rw [List.mem_singleton] at hg; subst hg; exact hx
  · have h1 := h.dr q hq
    have e : (drvL D { m with iv := v, xs := m.xs ++ [x] }).count (q : Int) = (drvL D m).count (q : Int) + (xoK D x).count (q : Int) := by
      unfold drvL
      show List.count _ (m.gs.map As.t ++ m.ms.map Mm.o ++ (m.xs ++ [x]).flatMap (xoK D)) = _
      rw [List.flatMap_append]
      simp only [List.count_append, List.flatMap_cons, List.flatMap_nil, List.append_nil]
      omega
    rw [e, h1]
    show _ = if (m.ss.getD q sg0).k = 0 then 0 else _
    by_cases e2 : (q : Int) ∈ xoK D x
    · have hq' : q < m.ss.length := hq
      have hk := h.pn _ (ho _ e2)
      rw [zcp ⟨by omega, by omega⟩, Int.toNat_natCast] at hk
      have h3 := List.nodup_iff_count.1 hn (q : Int)
      have h4 := List.count_pos_iff.2 e2
      rw [if_neg (by omega), if_pos (ho _ e2), if_neg (by omega), if_neg (fun h9 => ((hP _).1 h9).2 e2)]; omega
    · rw [List.count_eq_zero.2 e2, Nat.add_zero]
      split
      · rfl
      · by_cases hp : (q : Int) ∈ P
        · rw [if_pos hp, if_pos ((hP _).2 ⟨hp, e2⟩)]
        · rw [if_neg hp, if_neg (fun h9 => hp ((hP _).1 h9).1)]
theorem BldP.start (D : List Md) : BldP D md0 [] := ⟨fun s hs => (by cases hs), fun s hs => (by cases hs), fun s hs => (by cases hs), fun s hs => (by cases hs), fun s hs => absurd hs (by show ¬ s < 0; omega), fun s hs => (by cases hs)⟩
def nPt (ss : List Sg) : Nat := (ss.filter isPt).length
theorem nPt_app (a b : List Sg) : nPt (a ++ b) = nPt a + nPt b := by unfold nPt; rw [List.filter_append, List.length_append]
theorem ptsA_len (ss : List Sg) : ∀ i, i ≤ ss.length → (ptsA ss i).length = nPt (ss.take i)
  | 0, _ => rfl
  | i + 1, hi => by
    have h1 := ptsA_len ss i (by omega)
    rw [zec sg0 (show i < ss.length by omega), nPt_app]
    unfold ptsA; rw [List.length_append, h1]; unfold nPt
    by_cases e : isPt (ss.getD i sg0) = true
    · rw [if_pos e, List.filter_cons_of_pos e]; rfl
    · rw [if_neg e, List.filter_cons_of_neg e]; rfl
theorem ptsK_len {m : Md} (h : m.ss.length ≤ 30) : (ptsK m).length = nPt m.ss := by
  unfold ptsK; rw [if_pos h, ptsA_len _ _ (Nat.le_refl _), List.take_length]
theorem nPt_le (ss : List Sg) : nPt ss ≤ ss.length := List.length_filter_le _ _
theorem nPt_not {s : Sg} (h : s.k ≠ 0 ∧ s.k ≠ 1) : nPt [s] = 0 := by
  unfold nPt; rw [List.filter_cons_of_neg (fun h9 => (zew.1 h9).elim h.1 h.2)]; rfl
theorem nPt_one (s : Sg) : nPt [s] ≤ 1 := nPt_le [s]
structure DmP (D : List Md) (m : Md) : Prop where
  b : BldP D m []
  len : LenP m
  pt : nPt m.ss ≤ 4
structure DdP (D : List Md) : Prop where
  md : ∀ k, k < D.length → DmP (D.take k) (D.getD k md0)
  len : D.length ≤ 3
theorem DdP.nil : DdP [] := ⟨fun k hk => absurd hk (by simp), by simp⟩
theorem DdP.app {D : List Md} (h : DdP D) (hl : D.length < 3) {m : Md} (hm : DmP D m) : DdP (D ++ [m]) := ⟨fun k hk => by
  rw [List.length_append, List.length_singleton] at hk
  by_cases e : k < D.length
  · rw [List.take_append_of_le_length (by omega), zgd e]; exact h.md k e
  · obtain rfl : k = D.length := by omega
    rw [List.take_append_of_le_length (Nat.le_refl _), List.take_length, gD_last]; exact hm, by rw [List.length_append, List.length_singleton]; omega⟩
theorem ixP_take {D : List Md} {k : Nat} {m : Md} {x : Ix} (h0 : 0 ≤ x.m ∧ x.m < k) (hk : k ≤ D.length) : (D.take k).getD x.m.toNat md0 = D.getD x.m.toNat md0 := by
  rw [List.getD_eq_getElem?_getD, List.getElem?_take_of_lt (by omega), ← List.getD_eq_getElem?_getD]
theorem xoA_congr {D D' : List Md} {x : Ix} (h : D'.getD x.m.toNat md0 = D.getD x.m.toNat md0) : ∀ j, xoA D' x j = xoA D x j
  | 0 => rfl
  | j + 1 => by unfold xoA; rw [xoA_congr h j, h]
theorem flat_congr {α : Type} {f g : α → List Int} : ∀ {L : List α}, (∀ x ∈ L, f x = g x) → L.flatMap f = L.flatMap g
  | [], _ => rfl
  | a :: L, h => by rw [List.flatMap_cons, List.flatMap_cons, h a (by simp), flat_congr (L := L) (fun x hx => h x (by simp [hx]))]
theorem DdP.ok {D : List Md} (h : DdP D) (h1 : 1 ≤ D.length) : DesP D := by
  have hl := h.len
  have hcnt : CntP D := ⟨by omega, fun k hk => (h.md k hk).len⟩
  refine ⟨⟨h1, by omega⟩, fun k hk => ?_⟩
  have hm := h.md k hk
  have hlt : (D.take k).length = k := by rw [List.length_take]; omega
  have hx : ∀ i, i < (D.getD k md0).xs.length → ((0 ≤ ((D.getD k md0).xs.getD i ix0).m ∧ ((D.getD k md0).xs.getD i ix0).m < k) ∧ ((D.getD k md0).xs.getD i ix0).ps.length = (ptsK (D.getD ((D.getD k md0).xs.getD i ix0).m.toNat md0)).length) ∧ IxP D (D.getD k md0) ((D.getD k md0).xs.getD i ix0) := by
    intro i hi
    have h2 := hm.b.xs _ (zbw (d := ix0) hi)
    rw [hlt] at h2
    have h3 := ixP_take (D := D) (m := md0) h2.1.1 (by omega)
    obtain ⟨⟨h4, h5⟩, h6⟩ := h2
    rw [h3] at h5
    unfold IxP at h6
    rw [h3] at h6
    exact ⟨⟨h4, h5⟩, h6⟩
  refine ⟨hk, hcnt, fun i hi => (hx i hi).1, fun i hi => hm.b.sg _ (zbw hi), fun i hi => hm.b.gs _ (zbw hi), fun i hi => (hx i hi).2, fun i hi => hm.b.ms _ (zbw hi), fun s hs hk0 => ?_⟩
  have h2 := hm.b.dr s hs
  rw [if_neg hk0, if_neg (by simp)] at h2
  rw [← h2]
  unfold drvL
  have : (D.getD k md0).xs.flatMap (xoK D) = (D.getD k md0).xs.flatMap (xoK (D.take k)) := by
    refine flat_congr (fun x hx9 => ?_)
    obtain ⟨i, hi, rfl⟩ : ∃ i, i < (D.getD k md0).xs.length ∧ (D.getD k md0).xs.getD i ix0 = x := by
      obtain ⟨i, hi, e⟩ := List.getElem_of_mem hx9; exact ⟨i, hi, by rw [List.getD_eq_getElem?_getD, List.getElem?_eq_getElem hi]; exact e⟩
    have h3 := ixP_take (D := D) (m := md0) (hx i hi).1.1 (by omega)
    unfold xoK; rw [h3, xoA_congr h3]
  rw [this]
def agK (k : Nat) (v : Value) : Value := match v with | .agg xs => xs.getD k undef | _ => undef
def RdP (w : World) (m : Md) : Prop := RdsW w m.av 2 m.gs.length (m.gs.flatMap asC) ∧ OpsR w m.gs ∧ PtsR w m.xs
theorem nilW (w : World) (s : Nat) : RdsW w (.slice none 0 0) s 0 [] := ⟨_, _, rfl, by simp, ⟨by decide, by decide⟩, fun h => absurd h (by decide)⟩
theorem RdP.nil (w : World) : RdP w md0 := ⟨nilW w 2, OpsR.nil w, PtsR.nil w⟩
theorem sgP_mk {k w i : Int} (hk : 0 ≤ k ∧ k ≤ 3) (hw : 0 ≤ w ∧ w ≤ 4) (hi : 0 ≤ i ∧ i ≤ 15) (h : i ≠ 0 → k = 3) : SgP (Sg.mk k w i) := ⟨hk, hw, hi, h⟩
theorem nPt_mk {k w i : Int} (h : k ≠ 0 ∧ k ≠ 1) : nPt [Sg.mk k w i] = 0 := nPt_not h
structure MI (D : List Md) (m : Md) (A P : List Int) (ns ng nx nm np na : Nat) : Prop where
  b : BldP D m P
  av : ∀ x ∈ A, 0 ≤ x ∧ x < m.ss.length
  ns : m.ss.length ≤ ns
  ng : m.gs.length ≤ ng
  nx : m.xs.length ≤ nx
  nm : m.ms.length ≤ nm
  np : nPt m.ss ≤ np
  na : A.length ≤ na
section
variable {D : List Md} {m : Md} {A P : List Int} {ns ng nx nm np na : Nat}
theorem MI.start (D : List Md) : MI D md0 [] [] 0 0 0 0 0 0 := ⟨BldP.start D, fun x hx => (by cases hx), Nat.le_refl _, Nat.le_refl _, Nat.le_refl _, Nat.le_refl _, Nat.le_refl _, Nat.le_refl _⟩
theorem MI.up (h : MI D m A P ns ng nx nm np na) {a b c d e f : Nat} (h1 : ns ≤ a) (h2 : ng ≤ b) (h3 : nx ≤ c) (h4 : nm ≤ d) (h5 : np ≤ e) (h6 : na ≤ f) : MI D m A P a b c d e f := ⟨h.b, h.av, by have := h.ns; omega, by have := h.ng; omega, by have := h.nx; omega, by have := h.nm; omega, by have := h.np; omega, by have := h.na; omega⟩
theorem BldP.sig {P' : List Int} (h : BldP D m P) (v : Value) {s : Sg} (hs : SgP s) (hP : ∀ x, x ∈ P' ↔ x ∈ P ∨ (s.k ≠ 0 ∧ x = (m.ss.length : Int))) : BldP D (Md.mk v m.av m.iv m.mv (m.ss ++ [s]) m.gs m.xs m.ms) P' :=
  h.app v (l := [s]) (fun x hx => by rw [List.mem_singleton] at hx; subst hx; exact hs) (fun x => (hP x).trans ⟨fun hx => hx.imp id (fun ⟨h1, h2⟩ => ⟨0, by simp, h1, by rw [h2]; omega⟩), fun hx => hx.imp id (fun ⟨j, hj, hk, e⟩ => by
    have : j = 0 := by have : j < 1 := hj; omega
    subst this; exact ⟨hk, by rw [e]; omega⟩)⟩)
theorem av_app (hA : ∀ x ∈ A, 0 ≤ x ∧ x < m.ss.length) (l : List Sg) : ∀ x ∈ A, 0 ≤ x ∧ x < ((m.ss ++ l).length : Int) := fun x hx => by
  have := hA x hx; rw [List.length_append]; omega
theorem MI.sig {P' : List Int} (h : MI D m A P ns ng nx nm np na) (v : Value) {s : Sg} (hs : SgP s) {e : Nat} (hn : nPt [s] ≤ e) (hP : ∀ x, x ∈ P' ↔ x ∈ P ∨ (s.k ≠ 0 ∧ x = (m.ss.length : Int))) : MI D (Md.mk v m.av m.iv m.mv (m.ss ++ [s]) m.gs m.xs m.ms) A P' (ns + 1) ng nx nm (np + e) na :=
  ⟨h.b.sig v hs hP, av_app h.av _, by have := h.ns; show (m.ss ++ [s]).length ≤ _; rw [List.length_append, List.length_singleton]; omega, h.ng, h.nx, h.nm, by have := h.np; show nPt (m.ss ++ [s]) ≤ _; rw [nPt_app]; omega, h.na⟩
theorem MI.avl (h : MI D m A P ns ng nx nm np na) {L : List Int} (hL : ∀ x ∈ L, 0 ≤ x ∧ x < m.ss.length) {e : Nat} (he : L.length ≤ e) : MI D m (A ++ L) P ns ng nx nm np (na + e) :=
  ⟨h.b, fun x hx => (List.mem_append.1 hx).elim (h.av x) (hL x), h.ns, h.ng, h.nx, h.nm, h.np, by have := h.na; rw [List.length_append]; omega⟩
theorem last_in (v : Value) (s : Sg) : ∀ x ∈ [(m.ss.length : Int)], 0 ≤ x ∧ x < ((m.ss ++ [s]).length : Int) := fun x hx => by
  rw [List.mem_singleton] at hx; subst hx; rw [List.length_append, List.length_singleton]; omega
theorem MI.inp (h : MI D m A P ns ng nx nm np na) (v : Value) {w : Int} (hw : 0 ≤ w ∧ w ≤ 4) : MI D (Md.mk v m.av m.iv m.mv (m.ss ++ [Sg.mk 0 w 0]) m.gs m.xs m.ms) (A ++ [(m.ss.length : Int)]) P (ns + 1) ng nx nm (np + 1) (na + 1) :=
  (h.sig v (s := Sg.mk 0 w 0) (sgP_mk ⟨by decide, by decide⟩ hw ⟨by decide, by decide⟩ (fun h9 => absurd rfl h9)) (nPt_one _) (fun x => ⟨.inl, fun hx => hx.elim id (fun h9 => absurd rfl h9.1)⟩)).avl (last_in v _) (by simp)
theorem MI.reg (h : MI D m A P ns ng nx nm np na) (v : Value) {w i : Int} (hw : 0 ≤ w ∧ w ≤ 4) (hi : 0 ≤ i ∧ i ≤ 15) : MI D (Md.mk v m.av m.iv m.mv (m.ss ++ [Sg.mk 3 w i]) m.gs m.xs m.ms) (A ++ [(m.ss.length : Int)]) (P ++ [(m.ss.length : Int)]) (ns + 1) ng nx nm np (na + 1) :=
  (h.sig v (s := Sg.mk 3 w i) (P' := P ++ [(m.ss.length : Int)]) (sgP_mk ⟨by decide, by decide⟩ hw hi (fun _ => rfl)) (e := 0) (Nat.le_of_eq (nPt_mk ⟨by decide, by decide⟩)) (fun x => by rw [List.mem_append, List.mem_singleton]; exact ⟨fun hx => hx.imp id (fun h9 => ⟨(show (3 : Int) ≠ 0 by decide), h9⟩), fun hx => hx.imp id (·.2)⟩)).avl (last_in v _) (by simp)
theorem MI.wire {P' : List Int} (h : MI D m A P ns ng nx nm np na) (v : Value) {w : Int} (hw : 0 ≤ w ∧ w ≤ 4) (hP : ∀ x, x ∈ P' ↔ x ∈ P ∨ x = (m.ss.length : Int)) : MI D (Md.mk v m.av m.iv m.mv (m.ss ++ [Sg.mk 2 w 0]) m.gs m.xs m.ms) A P' (ns + 1) ng nx nm np na :=
  h.sig v (s := Sg.mk 2 w 0) (sgP_mk ⟨by decide, by decide⟩ hw ⟨by decide, by decide⟩ (fun h9 => absurd rfl h9)) (e := 0) (Nat.le_of_eq (nPt_mk ⟨by decide, by decide⟩)) (fun x => (hP x).trans ⟨fun hx => hx.imp id (fun h9 => ⟨(show (2 : Int) ≠ 0 by decide), h9⟩), fun hx => hx.imp id (·.2)⟩)
theorem MI.out {P' : List Int} (h : MI D m A P ns ng nx nm np na) (v : Value) {k w : Int} (hk : k = 1 ∨ k = 2) (hw : 0 ≤ w ∧ w ≤ 4) (hP : ∀ x, x ∈ P' ↔ x ∈ P ∨ x = (m.ss.length : Int)) : MI D (Md.mk v m.av m.iv m.mv (m.ss ++ [Sg.mk k w 0]) m.gs m.xs m.ms) A P' (ns + 1) ng nx nm (np + 1) na :=
  h.sig v (s := Sg.mk k w 0) ⟨⟨by show 0 ≤ k; omega, by show k ≤ 3; omega⟩, hw, ⟨by show (0 : Int) ≤ 0; omega, by show (0 : Int) ≤ 15; omega⟩, fun h9 => absurd rfl h9⟩ (nPt_one _) (fun x => (hP x).trans ⟨fun hx => hx.imp id (fun h9 => ⟨by show k ≠ 0; omega, h9⟩), fun hx => hx.imp id (·.2)⟩)
theorem MI.asg {P' : List Int} (h : MI D m A P ns ng nx nm np na) (v : Value) {s : Int} (hs : s ∈ P) (ov : Value) {n : Int} {os : List Oq} (ho : ExP n 9 os) (hn : n ≤ m.ss.length) (hP : ∀ x, x ∈ P' ↔ x ∈ P ∧ x ≠ s) : MI D (Md.mk m.sv v m.iv m.mv m.ss (m.gs ++ [As.mk s ov os]) m.xs m.ms) A P' ns (ng + 1) nx nm np na :=
  ⟨h.b.assign v hs ov ((ho.1.ops (by have := ho.2.2; omega)).mono hn) hP, h.av, h.ns, by have := h.ng; show (m.gs ++ [As.mk s ov os]).length ≤ _; rw [List.length_append, List.length_singleton]; omega, h.nx, h.nm, h.np, h.na⟩
theorem MI.ist {P' : List Int} (h : MI D m A P ns ng nx nm np na) (v : Value) {x : Ix} (hx : ((0 ≤ x.m ∧ x.m < D.length) ∧ x.ps.length = (ptsK (D.getD x.m.toNat md0)).length) ∧ IxP D m x) (hn : (xoK D x).Nodup) (ho : ∀ y ∈ xoK D x, y ∈ P) (hP : ∀ y, y ∈ P' ↔ y ∈ P ∧ y ∉ xoK D x) : MI D (Md.mk m.sv m.av v m.mv m.ss m.gs (m.xs ++ [x]) m.ms) A P' ns ng (nx + 1) nm np na :=
  ⟨h.b.inst v hx hn ho hP, h.av, h.ns, h.ng, by have := h.nx; show (m.xs ++ [x]).length ≤ _; rw [List.length_append, List.length_singleton]; omega, h.nm, h.np, h.na⟩
theorem MI.fin (h : MI D m A [] ns ng nx nm np na) (h1 : ns ≤ 30) (h2 : ng ≤ 30) (h3 : nx ≤ 3) (h4 : nm ≤ 2) (h5 : np ≤ 4) : DmP D m := ⟨h.b, ⟨by have := h.ns; omega, by have := h.ng; omega, by have := h.nx; omega, by have := h.nm; omega⟩, by have := h.np; omega⟩
theorem MI.mm4 {R : List Int} (h : MI D m A R ns ng nx nm np na) (v v' : Value) {w : Int} (hw : 0 ≤ w ∧ w ≤ 4) :
    MI D (Md.mk v m.av m.iv v' (m.ss ++ [Sg.mk 2 2 0, Sg.mk 2 w 0, Sg.mk 2 1 0, Sg.mk 2 w 0]) m.gs m.xs (m.ms ++ [Mm.mk m.ss.length (m.ss.length + 1) (m.ss.length + 2) (m.ss.length + 3)])) (A ++ [(m.ss.length : Int) + 3]) (R ++ [(m.ss.length : Int), (m.ss.length : Int) + 1, (m.ss.length : Int) + 2]) (ns + 4) ng nx (nm + 1) np (na + 1) := by
  have hl4 : (m.ss ++ [Sg.mk 2 2 0, Sg.mk 2 w 0, Sg.mk 2 1 0, Sg.mk 2 w 0]).length = m.ss.length + 4 := by rw [List.length_append]; rfl
  have h1 : BldP D { m with sv := v, ss := m.ss ++ [Sg.mk 2 2 0, Sg.mk 2 w 0, Sg.mk 2 1 0, Sg.mk 2 w 0] } (R ++ [(m.ss.length : Int), (m.ss.length : Int) + 1, (m.ss.length : Int) + 2, (m.ss.length : Int) + 3]) := by
    refine h.b.app v (fun s hs => ?_) (fun x => ?_)
    · simp only [List.mem_cons, List.not_mem_nil, or_false] at hs
      rcases hs with rfl | rfl | rfl | rfl <;> exact sgP_mk ⟨by decide, by decide⟩ (by first | exact hw | decide) ⟨by decide, by decide⟩ (fun h9 => absurd rfl h9)
    · rw [List.mem_append]
      simp only [List.mem_cons, List.not_mem_nil, or_false]
      constructor
      · rintro (h9 | rfl | rfl | rfl | rfl)
        · exact .inl h9
        · exact .inr ⟨0, by simp, (show (2 : Int) ≠ 0 by decide), by omega⟩
        · exact .inr ⟨1, by simp, (show (2 : Int) ≠ 0 by decide), by omega⟩
        · exact .inr ⟨2, by simp, (show (2 : Int) ≠ 0 by decide), by omega⟩
        · exact .inr ⟨3, by simp, (show (2 : Int) ≠ 0 by decide), by omega⟩
      · rintro (h9 | ⟨j, hj, -, rfl⟩)
        · exact .inl h9
        · have hj4 : j < 4 := hj
          right
          rcases (by omega : j = 0 ∨ j = 1 ∨ j = 2 ∨ j = 3) with rfl | rfl | rfl | rfl <;> omega
  have hR : ∀ x ∈ R, x < (m.ss.length : Int) := fun x hx => (Inn_of (h.b.pn x hx)).2
  have hk : ∀ j : Nat, j < 4 → knd { m with sv := v, ss := m.ss ++ [Sg.mk 2 2 0, Sg.mk 2 w 0, Sg.mk 2 1 0, Sg.mk 2 w 0] } ((m.ss.length : Int) + (j : Int)) = 2 := fun j hj => by
    have hi : (0 : Int) ≤ (m.ss.length : Int) + (j : Int) ∧ (m.ss.length : Int) + (j : Int) < ((m.ss ++ [Sg.mk 2 2 0, Sg.mk 2 w 0, Sg.mk 2 1 0, Sg.mk 2 w 0]).length : Int) := by rw [hl4]; omega
    rw [zcp hi]
    show ((m.ss ++ [Sg.mk 2 2 0, Sg.mk 2 w 0, Sg.mk 2 1 0, Sg.mk 2 w 0]).getD (((m.ss.length : Int) + (j : Int)).toNat) sg0).k = 2
    rw [show (((m.ss.length : Int) + (j : Int)).toNat) = m.ss.length + j by omega, gD_right]
    rcases (by omega : j = 0 ∨ j = 1 ∨ j = 2 ∨ j = 3) with rfl | rfl | rfl | rfl <;> rfl
  have h2 : BldP D { ({ m with sv := v, ss := m.ss ++ [Sg.mk 2 2 0, Sg.mk 2 w 0, Sg.mk 2 1 0, Sg.mk 2 w 0] } : Md) with mv := v', ms := m.ms ++ [Mm.mk m.ss.length (m.ss.length + 1) (m.ss.length + 2) (m.ss.length + 3)] } (R ++ [(m.ss.length : Int), (m.ss.length : Int) + 1, (m.ss.length : Int) + 2]) := by
    refine h1.mem v' (x := Mm.mk m.ss.length (m.ss.length + 1) (m.ss.length + 2) (m.ss.length + 3)) ⟨⟨⟨by show (0 : Int) ≤ m.ss.length; omega, by show _ < ((_ : Nat) : Int); rw [hl4]; show (m.ss.length : Int) < _; omega⟩, ⟨by show (0 : Int) ≤ m.ss.length + 1; omega, by show _ < ((_ : Nat) : Int); rw [hl4]; show (m.ss.length : Int) + 1 < _; omega⟩, ⟨by show (0 : Int) ≤ m.ss.length + 2; omega, by show _ < ((_ : Nat) : Int); rw [hl4]; show (m.ss.length : Int) + 2 < _; omega⟩⟩, .inr (hk 3 (by decide))⟩ (by show (m.ss.length : Int) + 3 ∈ _; simp) (fun y => ?_)
    show _ ↔ _ ∧ y ≠ (m.ss.length : Int) + 3
    simp only [List.mem_append, List.mem_cons, List.not_mem_nil, or_false]
    constructor
    · rintro (h9 | h9 | h9 | h9)
      · exact ⟨.inl h9, by have := hR y h9; omega⟩
      · exact ⟨.inr (.inl h9), by omega⟩
      · exact ⟨.inr (.inr (.inl h9)), by omega⟩
      · exact ⟨.inr (.inr (.inr (.inl h9))), by omega⟩
    · rintro ⟨h9 | h9 | h9 | h9 | h9, h8⟩
      · exact .inl h9
      · exact .inr (.inl h9)
      · exact .inr (.inr (.inl h9))
      · exact .inr (.inr (.inr h9))
      · exact absurd h9 h8
  refine ⟨h2, fun x hx => ?_, by show (m.ss ++ _).length ≤ _; rw [hl4]; have := h.ns; omega, h.ng, h.nx, by have := h.nm; show (m.ms ++ [_]).length ≤ _; rw [List.length_append, List.length_singleton]; omega, ?_, by have := h.na; rw [List.length_append, List.length_singleton]; omega⟩
  · show 0 ≤ x ∧ x < ((m.ss ++ [Sg.mk 2 2 0, Sg.mk 2 w 0, Sg.mk 2 1 0, Sg.mk 2 w 0]).length : Int)
    rw [hl4]
    rcases List.mem_append.1 hx with hx | hx
    · have := h.av x hx; omega
    · rw [List.mem_singleton] at hx; omega
  · show nPt (m.ss ++ [Sg.mk 2 2 0, Sg.mk 2 w 0, Sg.mk 2 1 0, Sg.mk 2 w 0]) ≤ _
    rw [nPt_app, show ([Sg.mk 2 2 0, Sg.mk 2 w 0, Sg.mk 2 1 0, Sg.mk 2 w 0] : List Sg) = [Sg.mk 2 2 0] ++ ([Sg.mk 2 w 0] ++ ([Sg.mk 2 1 0] ++ [Sg.mk 2 w 0])) from rfl, nPt_app, nPt_app, nPt_app]
    have n1 : nPt [Sg.mk 2 2 0] = 0 := nPt_mk ⟨by decide, by decide⟩
    have n2 : nPt [Sg.mk 2 w 0] = 0 := nPt_mk ⟨by decide, by decide⟩
    have n3 : nPt [Sg.mk 2 1 0] = 0 := nPt_mk ⟨by decide, by decide⟩
    have := h.np; omega
theorem pend3 {R : List Int} {b : Int} (hR : ∀ x ∈ R, x < b) {j : Nat} (hj : j < 3) : (b + (j : Int)) ∈ R ++ ([b, b + 1, b + 2] : List Int).drop j ∧ ∀ x, x ∈ R ++ ([b, b + 1, b + 2] : List Int).drop (j + 1) ↔ x ∈ R ++ ([b, b + 1, b + 2] : List Int).drop j ∧ x ≠ b + (j : Int) := by
  rcases (by omega : j = 0 ∨ j = 1 ∨ j = 2) with rfl | rfl | rfl <;> refine ⟨by simp, fun x => ?_⟩ <;> simp only [List.mem_append, List.drop_succ_cons, List.drop_zero, List.mem_cons, List.not_mem_nil, or_false] <;> constructor
  · rintro (h | h | h)
    · exact ⟨.inl h, by have := hR x h; omega⟩
    · exact ⟨.inr (.inr (.inl h)), by omega⟩
    · exact ⟨.inr (.inr (.inr h)), by omega⟩
  · rintro ⟨h | h | h | h, h8⟩
    · exact .inl h
    · exact absurd h (by omega)
    · exact .inr (.inl h)
    · exact .inr (.inr h)
  · rintro (h | h)
    · exact ⟨.inl h, by have := hR x h; omega⟩
    · exact ⟨.inr (.inr h), by omega⟩
  · rintro ⟨h | h | h, h8⟩
    · exact .inl h
    · exact absurd h (by omega)
    · exact .inr h
  · intro h; exact ⟨.inl h, by have := hR x h; omega⟩
  · rintro ⟨h | h, h8⟩
    · exact h
    · exact absurd h (by omega)
theorem pendR {R : List Int} (hR : R.Pairwise (· < ·)) {k : Nat} (hk : k < R.length) : R.getD k 0 ∈ R.drop k ∧ ∀ x, x ∈ R.drop (k + 1) ↔ x ∈ R.drop k ∧ x ≠ R.getD k 0 := by
  have e : R.drop k = R.getD k 0 :: R.drop (k + 1) := by
    rw [List.drop_eq_getElem_cons hk, List.getD_eq_getElem?_getD, List.getElem?_eq_getElem hk]; rfl
  have hp : (R.drop k).Pairwise (· < ·) := hR.sublist (List.drop_sublist _ _)
  rw [e] at hp ⊢
  rw [List.pairwise_cons] at hp
  refine ⟨List.mem_cons_self, fun x => ⟨fun h => ⟨List.mem_cons_of_mem _ h, by have := hp.1 x h; omega⟩, fun ⟨h1, h2⟩ => ?_⟩⟩
  rcases List.mem_cons.1 h1 with h | h
  · exact absurd h h2
  · exact h
theorem asc_app {R : List Int} {b : Int} (h : R.Pairwise (· < ·)) (hb : ∀ x ∈ R, x < b) : (R ++ [b]).Pairwise (· < ·) := by
  rw [List.pairwise_append]
  exact ⟨h, List.pairwise_singleton _ _, fun x hx y hy => by rw [List.mem_singleton] at hy; subst hy; exact hb x hx⟩
theorem asc_nd {R : List Int} (h : R.Pairwise (· < ·)) : R.Nodup := h.imp (fun h9 => by omega)
theorem lit4 {x : Int} {L : List Int} (h : x ∈ L) (hL : L.all (fun y => decide (0 ≤ y ∧ y ≤ 4)) = true) : 0 ≤ x ∧ x ≤ 4 := of_decide_eq_true (List.all_eq_true.1 hL x h)
theorem lit12 {x : Int} (h : x ∈ ([1, 2] : List Int)) : x = 1 ∨ x = 2 := by simpa using h
theorem setK_last {l : List Sg} {k w i : Int} {q : Nat} (hq : q = l.length) : (l ++ [Sg.mk k w i]).set q { (l ++ [Sg.mk k w i]).getD q sg0 with k := 1 } = l ++ [Sg.mk 1 w i] := by
  subst hq; rw [gD_last]; simp
theorem xoA_take {D : List Md} {a b : Ix} (hm : a.m = b.m) : ∀ j, (∀ q, q < j → a.ps.getD q 0 = b.ps.getD q 0) → xoA D a j = xoA D b j
  | 0, _ => rfl
  | j + 1, h => by unfold xoA; rw [xoA_take hm j (fun q hq => h q (by omega)), h j (by omega), hm]
structure IjP (D : List Md) (q : Md) (xm : Int) (b : Nat) (ps os : List Int) (j : Nat) : Prop where
  len : ps.length = j
  wr : ∀ i, i < j → knd q (ps.getD i 0) = 2
  oq : os = xoA D (Ix.mk xm 0 (.slice none 0 0) ps) j
  asc : os.Pairwise (· < ·)
  lo : ∀ y ∈ os, (b : Int) ≤ y
  hi : ∀ y ∈ os, y < (q.ss.length : Int)
  bl : b ≤ q.ss.length
theorem IjP.start (D : List Md) (q : Md) (xm : Int) : IjP D q xm q.ss.length [] [] 0 := ⟨rfl, fun i hi => absurd hi (by omega), rfl, .nil, fun y hy => (by cases hy), fun y hy => (by cases hy), Nat.le_refl _⟩
theorem xoA_ps {D : List Md} {xm : Int} {ps : List Int} {x : Int} {j : Nat} (hl : ps.length = j) : xoA D (Ix.mk xm 0 (.slice none 0 0) (ps ++ [x])) j = xoA D (Ix.mk xm 0 (.slice none 0 0) ps) j :=
  xoA_take (a := Ix.mk xm 0 (.slice none 0 0) (ps ++ [x])) (b := Ix.mk xm 0 (.slice none 0 0) ps) rfl j (fun q hq => by show (ps ++ [x]).getD q 0 = ps.getD q 0; rw [zgd (by omega)])
theorem knd_app {q q' : Md} {w : Int} (hs : q'.ss = q.ss ++ [Sg.mk 2 w 0]) {x : Int} (hx : knd q x = 2) : knd q' x = 2 := by
  have hi : Inn q x := Inn_of (by omega)
  rw [← hx]
  exact Ext.knd ⟨by rw [hs, List.length_append]; omega, fun i hi => by rw [hs, zgd hi]⟩ hi
theorem knd_last {q q' : Md} {w : Int} (hs : q'.ss = q.ss ++ [Sg.mk 2 w 0]) : knd q' (q.ss.length : Int) = 2 := by
  rw [zcp ⟨by omega, by rw [hs, List.length_append, List.length_singleton]; omega⟩, hs, Int.toNat_natCast, gD_last]
theorem IjP.out {D : List Md} {q : Md} {xm : Int} {b j : Nat} {ps os : List Int} (h : IjP D q xm b ps os j) {q' : Md} {w : Int} (hs : q'.ss = q.ss ++ [Sg.mk 2 w 0]) (hk : knd (D.getD xm.toNat md0) ((ptsK (D.getD xm.toNat md0)).getD j 0) = 1) : IjP D q' xm b (ps ++ [(q.ss.length : Int)]) (os ++ [(q.ss.length : Int)]) (j + 1) := by
  have hl : q'.ss.length = q.ss.length + 1 := by rw [hs, List.length_append, List.length_singleton]
  refine ⟨by rw [List.length_append, List.length_singleton, h.len], fun i hi => ?_, ?_, asc_app h.asc h.hi, fun y hy => ?_, fun y hy => ?_, by have := h.bl; omega⟩
  · by_cases e : i < j
    · rw [zgd (by rw [h.len]; exact e)]; exact knd_app hs (h.wr i e)
    · obtain rfl : i = ps.length := by rw [h.len]; omega
      rw [gD_last]; exact knd_last hs
  · show _ = xoA D (Ix.mk xm 0 (.slice none 0 0) (ps ++ [(q.ss.length : Int)])) j ++ (if _ then _ else _)
    rw [if_pos hk, xoA_ps h.len, ← h.oq]
    show _ = os ++ [(ps ++ [(q.ss.length : Int)]).getD j 0]
    rw [← h.len, gD_last]
  · rcases List.mem_append.1 hy with hy | hy
    · exact h.lo y hy
    · rw [List.mem_singleton] at hy; have := h.bl; omega
  · rcases List.mem_append.1 hy with hy | hy
    · have := h.hi y hy; omega
    · rw [List.mem_singleton] at hy; omega
theorem IjP.inn {D : List Md} {q : Md} {xm : Int} {b j : Nat} {ps os : List Int} (h : IjP D q xm b ps os j) {q' : Md} {w : Int} (hs : q'.ss = q.ss ++ [Sg.mk 2 w 0]) (hk : knd (D.getD xm.toNat md0) ((ptsK (D.getD xm.toNat md0)).getD j 0) ≠ 1) : IjP D q' xm b (ps ++ [(q.ss.length : Int)]) os (j + 1) := by
  have hl : q'.ss.length = q.ss.length + 1 := by rw [hs, List.length_append, List.length_singleton]
  refine ⟨by rw [List.length_append, List.length_singleton, h.len], fun i hi => ?_, ?_, h.asc, h.lo, fun y hy => by have := h.hi y hy; omega, by have := h.bl; omega⟩
  · by_cases e : i < j
    · rw [zgd (by rw [h.len]; exact e)]; exact knd_app hs (h.wr i e)
    · obtain rfl : i = ps.length := by rw [h.len]; omega
      rw [gD_last]; exact knd_last hs
  · show _ = xoA D (Ix.mk xm 0 (.slice none 0 0) (ps ++ [(q.ss.length : Int)])) j ++ (if _ then _ else _)
    rw [if_neg hk, xoA_ps h.len, ← h.oq, List.append_nil]
theorem MI.done {R ps os : List Int} {q : Md} {xm xp : Int} {b : Nat} (h : MI D q A (R ++ os) ns ng nx nm np na) (v pv : Value) (hj : IjP D q xm b ps os (ptsK (D.getD xm.toNat md0)).length) (hm : 0 ≤ xm ∧ xm < D.length) (hp : 0 ≤ xp ∧ xp ≤ 4) (hR : ∀ x ∈ R, x < (b : Int)) {e : Nat} (he : os.length ≤ e) :
    MI D (Md.mk q.sv q.av v q.mv q.ss q.gs (q.xs ++ [Ix.mk xm xp pv ps]) q.ms) (A ++ os) R ns ng (nx + 1) nm np (na + e) := by
  have hx : xoK D (Ix.mk xm xp pv ps) = os := by
    rw [hj.oq]; exact xoA_take (a := Ix.mk xm xp pv ps) (b := Ix.mk xm 0 (.slice none 0 0) ps) rfl _ (fun q hq => rfl)
  have hw : ∀ i, i < (ptsK (D.getD xm.toNat md0)).length → Drv q (ps.getD i 0) := fun i hi => .inr (hj.wr i hi)
  refine MI.avl (m := Md.mk q.sv q.av v q.mv q.ss q.gs (q.xs ++ [Ix.mk xm xp pv ps]) q.ms) (h.ist v (x := Ix.mk xm xp pv ps) ⟨⟨hm, hj.len⟩, hp, fun i hi => ⟨(hw i hi).inn, fun _ => hw i hi⟩⟩ (by rw [hx]; exact asc_nd hj.asc) (fun y hy => by rw [hx] at hy; exact List.mem_append_right _ hy) (fun y => ?_)) (fun x hx9 => ⟨by have := hj.lo x hx9; omega, hj.hi x hx9⟩) he
  rw [hx, List.mem_append]
  exact ⟨fun h9 => ⟨.inl h9, fun h8 => by have h1 := hj.lo y h8; have h2 := hR y h9; omega⟩, fun ⟨h9, h8⟩ => h9.resolve_right h8⟩
theorem mem_app1 {R O : List Int} {b : Int} : ∀ x, x ∈ R ++ (O ++ [b]) ↔ x ∈ R ++ O ∨ x = b := fun x => by simp [or_assoc]
theorem mem_app2 {R : List Int} {b : Int} : ∀ x, x ∈ R ++ [b] ↔ x ∈ R ∨ x = b := fun x => by simp
theorem mem_less {R : List Int} {b : Int} (h : ∀ x ∈ R, x < b) : ∀ x, x ∈ R ↔ x ∈ R ++ [b] ∧ x ≠ b := fun x => by
  rw [List.mem_append, List.mem_singleton]
  exact ⟨fun h9 => ⟨.inl h9, by have := h x h9; omega⟩, fun ⟨h9, h8⟩ => h9.resolve_right h8⟩
theorem MI.plt (h : MI D m A P ns ng nx nm np na) : ∀ x ∈ P, x < (m.ss.length : Int) := fun x hx => (Inn_of (h.b.pn x hx)).2
end
def asV (g : As) : Int × List Oq := (g.t, g.os)
def MdOne (m : Md) : Prop := m.sv.oneCell' = true ∧ m.av.oneCell' = true ∧ m.iv.oneCell' = true ∧ m.mv.oneCell' = true
theorem RdsMd.ones {w : World} {m : Md} (h : RdsMd w m) : MdOne m := ⟨h.s.one, h.g.one, h.x.one, h.m.one⟩
structure Fz where
  ss : List Sg
  gs : List (Int × List Oq)
  ms : List Mm
abbrev fz0 : Fz := ⟨[], [], []⟩
def wdF (p : Int) (s : Sg) : Int := if s.w = 0 then p else s.w
def sgF (m : Md) (p : Int) (c : Bool) (P : List Int) (S0 : List Sg) : Nat → Option (List Int × Nat × List Sg)
  | 0 => some ([], 0, S0)
  | i + 1 => (sgF m p c P S0 i).bind (fun r =>
      if c = true ∧ isPt (m.ss.getD i sg0) = true then
        (if (r.2.2.getD (P.getD r.2.1 0).toNat sg0).w = wdF p (m.ss.getD i sg0) then some (r.1 ++ [P.getD r.2.1 0], r.2.1 + 1, r.2.2) else none)
      else some (r.1 ++ [(r.2.2.length : Int)], r.2.1, r.2.2 ++ [⟨(m.ss.getD i sg0).k, wdF p (m.ss.getD i sg0), (m.ss.getD i sg0).i⟩]))
def opF (ids : List Int) (p : Int) (o : Oq) : Oq := if o.k = 1 then ⟨0, p, 0⟩ else if o.k = 2 ∨ o.k = 3 then ⟨o.k, ids.getD o.a.toNat 0, o.b⟩ else o
def asF (ids : List Int) (p : Int) (g : As) : Int × List Oq := (ids.getD g.t.toNat 0, g.os.map (opF ids p))
def mmF (ids : List Int) (x : Mm) : Mm := ⟨ids.getD x.a.toNat 0, ids.getD x.d.toNat 0, ids.getD x.w.toNat 0, ids.getD x.o.toNat 0⟩
def inP (p : Int) (x : Ix) : Int := if x.p = 0 then p else x.p
def ptF (ids : List Int) (x : Ix) : List Int := x.ps.map (fun q => ids.getD q.toNat 0)
def insA (g : Nat → Int → List Int → Fz → Option Fz) (ids : List Int) (p : Int) (xs : List Ix) (F : Fz) : Nat → Option Fz
  | 0 => some F
  | i + 1 => (insA g ids p xs F i).bind (fun G => g (xs.getD i ix0).m.toNat (inP p (xs.getD i ix0)) (ptF ids (xs.getD i ix0)) G)
def Fz.Ok (F : Fz) : Prop := F.ss.length ≤ 30 ∧ F.gs.length ≤ 30 ∧ F.ms.length ≤ 2
instance (F : Fz) : Decidable F.Ok := by unfold Fz.Ok; infer_instance
def ownF (m : Md) (p : Int) (F : Fz) (r : List Int × Nat × List Sg) : Fz := ⟨r.2.2, F.gs ++ m.gs.map (asF r.1 p), F.ms ++ m.ms.map (mmF r.1)⟩
def addF (D : List Md) : Nat → Nat → Int → Bool → List Int → Fz → Option Fz
  | 0, _, _, _, _, _ => none
  | f + 1, k, p, c, P, F => (sgF (D.getD k md0) p c P F.ss (D.getD k md0).ss.length).bind (fun r =>
      if (ownF (D.getD k md0) p F r).Ok then insA (fun k p P G => addF D f k p true P G) r.1 p (D.getD k md0).xs (ownF (D.getD k md0) p F r) (D.getD k md0).xs.length else none)
def InN (n : Nat) (L : List Int) : Prop := ∀ x ∈ L, 0 ≤ x ∧ x < n
theorem InN.nil (n : Nat) : InN n [] := fun x h => by cases h
theorem InN.mono {n k : Nat} {L : List Int} (h : InN n L) (hk : n ≤ k) : InN k L := fun x hx => by have := h x hx; omega
theorem InN.app {n : Nat} {L : List Int} (h : InN n L) {x : Int} (hx : 0 ≤ x ∧ x < n) : InN n (L ++ [x]) := fun y hy => by
  rcases List.mem_append.1 hy with hy | hy
  · exact h y hy
  · rw [List.mem_singleton] at hy; subst hy; exact hx
theorem InN.at {n : Nat} {L : List Int} (h : InN n L) {j : Nat} (hj : j < L.length) : 0 ≤ L.getD j 0 ∧ L.getD j 0 < n := h _ (zbw hj)
def PoP (m : Md) (c : Bool) (P : List Int) (n : Nat) : Prop := c = true → P.length = (ptsK m).length ∧ InN n P
def ptN (m : Md) (c : Bool) (i : Nat) : Nat := if c = true then (ptsA m.ss i).length else 0
theorem ptsA_mono (ss : List Sg) {i j : Nat} (h : i ≤ j) : (ptsA ss i).length ≤ (ptsA ss j).length := by
  induction h with
  | refl => exact Nat.le_refl _
  | step h ih => exact Nat.le_trans ih (by show _ ≤ (ptsA ss _ ++ _).length; rw [List.length_append]; exact Nat.le_add_right _ _)
theorem ptN_lt {m : Md} {c : Bool} {P : List Int} {n i : Nat} (h : PoP m c P n) (hl : m.ss.length ≤ 30) (hi : i < m.ss.length) (hc : c = true) (hp : isPt (m.ss.getD i sg0) = true) : ptN m c i < P.length := by
  rw [(h hc).1]; unfold ptN ptsK; rw [if_pos hc, if_pos hl]
  have h1 := ptsA_mono m.ss (show i + 1 ≤ m.ss.length from hi)
  have h2 : (ptsA m.ss (i + 1)).length = (ptsA m.ss i).length + 1 := by rw [← zfy (zew.1 hp), List.length_append]; rfl
  omega
theorem sgF_ok {m : Md} {p : Int} {c : Bool} {P : List Int} {S0 : List Sg} (h : PoP m c P S0.length) (hl : m.ss.length ≤ 30) : ∀ (i : Nat) (r : List Int × Nat × List Sg), i ≤ m.ss.length → sgF m p c P S0 i = some r → r.1.length = i ∧ InN r.2.2.length r.1 ∧ r.2.1 = ptN m c i ∧ S0.length ≤ r.2.2.length ∧ r.2.2.length ≤ S0.length + i
  | 0, r, _, e => by
    have e := Option.some.inj e; subst e
    exact ⟨rfl, InN.nil _, by unfold ptN; split <;> rfl, Nat.le_refl _, Nat.le_refl _⟩
  | i + 1, r, hi, e => by
    unfold sgF at e
    obtain ⟨q, hq, e⟩ := Option.bind_eq_some_iff.1 e
    obtain ⟨h1, h2, h3, h4, h5⟩ := sgF_ok h hl i q (by omega) hq
    split at e
    · rename_i hc
      split at e
      · have e := Option.some.inj e; subst e
        have hp := (h hc.1).2.at (j := q.2.1) (by rw [h3]; exact ptN_lt h hl (by omega) hc.1 hc.2)
        refine ⟨by show (q.1 ++ [_]).length = _; rw [List.length_append, h1]; rfl, h2.app (by omega), ?_, h4, by show q.2.2.length ≤ _; omega⟩
        show q.2.1 + 1 = _
        rw [h3]; unfold ptN; rw [if_pos hc.1, if_pos hc.1, ← zfy (zew.1 hc.2), List.length_append]; rfl
      · cases e
    · rename_i hc
      have e := Option.some.inj e; subst e
      have hl2 : (q.2.2 ++ [(⟨(m.ss.getD i sg0).k, wdF p (m.ss.getD i sg0), (m.ss.getD i sg0).i⟩ : Sg)]).length = q.2.2.length + 1 := by rw [List.length_append]; rfl
      refine ⟨by show (q.1 ++ [_]).length = _; rw [List.length_append, h1]; rfl, ?_, ?_, by show _ ≤ (q.2.2 ++ [_]).length; rw [hl2]; omega, by show (q.2.2 ++ [_]).length ≤ _; rw [hl2]; omega⟩
      · show InN (q.2.2 ++ [_]).length _
        rw [hl2]; exact (h2.mono (by omega)).app (by omega)
      · show q.2.1 = _
        rw [h3]; unfold ptN
        by_cases hc2 : c = true
        · rw [if_pos hc2, if_pos hc2, ← ptsA_no (fun hp => hc ⟨hc2, zew.2 hp⟩)]
        · rw [if_neg hc2, if_neg hc2]
theorem insA_ok {g : Nat → Int → List Int → Fz → Option Fz} {ids : List Int} {p : Int} {xs : List Ix} {F : Fz} (hF : F.Ok) (hg : ∀ k p P (A B : Fz), A.Ok → g k p P A = some B → B.Ok ∧ A.ss.length ≤ B.ss.length) : ∀ (i : Nat) (G : Fz), insA g ids p xs F i = some G → G.Ok ∧ F.ss.length ≤ G.ss.length
  | 0, G, e => by have e := Option.some.inj e; subst e; exact ⟨hF, Nat.le_refl _⟩
  | i + 1, G, e => by
    unfold insA at e
    obtain ⟨q, hq, e⟩ := Option.bind_eq_some_iff.1 e
    obtain ⟨h1, h2⟩ := insA_ok hF hg i q hq
    obtain ⟨h3, h4⟩ := hg _ _ _ _ _ h1 e
    exact ⟨h3, Nat.le_trans h2 h4⟩
theorem sgF_le {m : Md} {p : Int} {c : Bool} {P : List Int} {S0 : List Sg} : ∀ (i : Nat) (r : List Int × Nat × List Sg), sgF m p c P S0 i = some r → S0.length ≤ r.2.2.length
  | 0, r, e => by have e := Option.some.inj e; subst e; exact Nat.le_refl _
  | i + 1, r, e => by
    unfold sgF at e
    obtain ⟨q, hq, e⟩ := Option.bind_eq_some_iff.1 e
    have h1 := sgF_le i q hq
    split at e
    · split at e
      · have e := Option.some.inj e; subst e; exact h1
      · cases e
    · have e := Option.some.inj e; subst e
      show _ ≤ (q.2.2 ++ [_]).length
      rw [List.length_append]; omega
theorem addF_ok {D : List Md} : ∀ (f k : Nat) (p : Int) (c : Bool) (P : List Int) (F G : Fz), addF D f k p c P F = some G → G.Ok ∧ F.ss.length ≤ G.ss.length
  | 0, k, p, c, P, F, G, e => by cases e
  | f + 1, k, p, c, P, F, G, e => by
    unfold addF at e
    obtain ⟨r, hr, e⟩ := Option.bind_eq_some_iff.1 e
    split at e
    · rename_i ho
      obtain ⟨h1, h2⟩ := insA_ok ho (fun k p P A B _ e => addF_ok f k p true P A B e) _ _ e
      exact ⟨h1, Nat.le_trans (sgF_le _ _ hr) h2⟩
    · cases e
theorem sgF_port {m : Md} {p : Int} {c : Bool} {P : List Int} {S0 : List Sg} {i : Nat} {ids : List Int} {n : Nat} {S : List Sg} (h : sgF m p c P S0 i = some (ids, n, S)) (hc : c = true) (hp : isPt (m.ss.getD i sg0) = true) (hw : (S.getD (P.getD n 0).toNat sg0).w = wdF p (m.ss.getD i sg0)) : sgF m p c P S0 (i + 1) = some (ids ++ [P.getD n 0], n + 1, S) := by
  unfold sgF; rw [h]; show (if _ then _ else _) = _; rw [if_pos ⟨hc, hp⟩]; show (if _ then _ else _) = _; rw [if_pos hw]
theorem zfn {m : Md} {p : Int} {c : Bool} {P : List Int} {S0 : List Sg} {i : Nat} {ids : List Int} {n : Nat} {S : List Sg} (h : sgF m p c P S0 i = some (ids, n, S)) (hc : c = true) (hp : isPt (m.ss.getD i sg0) = true) (hw : ¬ (S.getD (P.getD n 0).toNat sg0).w = wdF p (m.ss.getD i sg0)) : sgF m p c P S0 (i + 1) = none := by
  unfold sgF; rw [h]; show (if _ then _ else _) = _; rw [if_pos ⟨hc, hp⟩]; show (if _ then _ else _) = _; rw [if_neg hw]
theorem sgF_new {m : Md} {p : Int} {c : Bool} {P : List Int} {S0 : List Sg} {i : Nat} {ids : List Int} {n : Nat} {S : List Sg} (h : sgF m p c P S0 i = some (ids, n, S)) (hc : ¬ (c = true ∧ isPt (m.ss.getD i sg0) = true)) : sgF m p c P S0 (i + 1) = some (ids ++ [(S.length : Int)], n, S ++ [⟨(m.ss.getD i sg0).k, wdF p (m.ss.getD i sg0), (m.ss.getD i sg0).i⟩]) := by
  unfold sgF; rw [h]; show (if _ then _ else _) = _; rw [if_neg hc]
theorem sgF_none {m : Md} {p : Int} {c : Bool} {P : List Int} {S0 : List Sg} {i : Nat} (h : sgF m p c P S0 i = none) : ∀ j, i ≤ j → sgF m p c P S0 j = none := by
  intro j hj
  induction hj with
  | refl => exact h
  | step h2 ih => show (sgF _ _ _ _ _ _).bind _ = _; rw [ih]; rfl
theorem zep {g : Nat → Int → List Int → Fz → Option Fz} {ids : List Int} {p : Int} {xs : List Ix} {F : Fz} {i : Nat} (h : insA g ids p xs F i = none) : ∀ j, i ≤ j → insA g ids p xs F j = none := by
  intro j hj
  induction hj with
  | refl => exact h
  | step h2 ih => show (insA _ _ _ _ _ _).bind _ = _; rw [ih]; rfl
theorem zeh {g : Nat → Int → List Int → Fz → Option Fz} {ids : List Int} {p : Int} {xs : List Ix} {F G : Fz} {i : Nat} (h : insA g ids p xs F i = some G) : insA g ids p xs F (i + 1) = g (xs.getD i ix0).m.toNat (inP p (xs.getD i ix0)) (ptF ids (xs.getD i ix0)) G := by
  unfold insA; rw [h]; rfl
theorem zer {D : List Md} {f k : Nat} {p : Int} {c : Bool} {P : List Int} {F : Fz} {i : Nat} (h : sgF (D.getD k md0) p c P F.ss i = none) (hi : i ≤ (D.getD k md0).ss.length) : addF D (f + 1) k p c P F = none := by
  show (sgF _ _ _ _ _ _).bind _ = _; rw [sgF_none h _ hi]; rfl
theorem zfc {D : List Md} {f k : Nat} {p : Int} {c : Bool} {P : List Int} {F : Fz} {r : List Int × Nat × List Sg} (h : sgF (D.getD k md0) p c P F.ss (D.getD k md0).ss.length = some r) (hb : ¬ (ownF (D.getD k md0) p F r).Ok) : addF D (f + 1) k p c P F = none := by
  show (sgF _ _ _ _ _ _).bind _ = _; rw [h]; show (if _ then _ else _) = _; rw [if_neg hb]
theorem zfb {D : List Md} {f k : Nat} {p : Int} {c : Bool} {P : List Int} {F : Fz} {r : List Int × Nat × List Sg} (h : sgF (D.getD k md0) p c P F.ss (D.getD k md0).ss.length = some r) (hb : (ownF (D.getD k md0) p F r).Ok) : addF D (f + 1) k p c P F = insA (fun k p P G => addF D f k p true P G) r.1 p (D.getD k md0).xs (ownF (D.getD k md0) p F r) (D.getD k md0).xs.length := by
  show (sgF _ _ _ _ _ _).bind _ = _; rw [h]; show (if _ then _ else _) = _; rw [if_pos hb]
abbrev flQ (a b d : Value) (ss : List Sg) (gs : List As) (ms : List Mm) (ps : List HP) : List HP := [rowE 38 3 a ss.length (ss.flatMap sgC), rowE 89 2 b gs.length (gs.flatMap asC), rowE 94 4 d ms.length (ms.flatMap mmC), bigE ps]
def AddOk (G : Fz) (a b d : Value) (qs : List HP) : Prop := ∃ (gs : List As) (ps : List HP), qs = flQ a b d G.ss gs G.ms ps ∧ (∀ w, (bigE ps).holds w → OpsR w gs) ∧ gs.map asV = G.gs
def AddR (o : Option Fz) (u_ : Value) (p_ : HP) : Prop := ∃ (a b d : Value) (ok : Bool) (qs : List HP), u_ = .tuple #[.agg #[a, b, .slice none 0 0, d], .bool ok] ∧ p_ = bigE qs ∧ (a.oneCell' = true ∧ b.oneCell' = true ∧ d.oneCell' = true) ∧ (ok = true → ∃ G, o = some G ∧ AddOk G a b d qs) ∧ (ok = false → o = none)
theorem flat_nil {w0 w : World} {l : List HP} (h : Mem w0 l w) : Mem w0 (bigE (flQ (.slice none 0 0) (.slice none 0 0) (.slice none 0 0) [] [] [] []) :: l) w := by
  have h1 : Mem w0 (bigE [] :: l) w := Mem.big (ps := []) h
  have h2 := ((h1.nilRow 94 4).nilRow 89 2).nilRow 38 3
  exact Mem.big (ps := flQ (.slice none 0 0) (.slice none 0 0) (.slice none 0 0) [] [] [] []) h2
theorem ownF_iff {m : Md} {p : Int} {F : Fz} {ids : List Int} {n : Nat} {S : List Sg} {G : List As} {Ms : List Mm} (hG : G.map asV = F.gs ++ m.gs.map (asF ids p)) (hM : Ms = F.ms ++ m.ms.map (mmF ids)) : (ownF m p F (ids, n, S)).Ok ↔ S.length ≤ 30 ∧ G.length ≤ 30 ∧ Ms.length ≤ 2 := by
  have h1 : (F.gs ++ m.gs.map (asF ids p)).length = G.length := by rw [← hG, List.length_map]
  have h2 : (F.ms ++ m.ms.map (mmF ids)).length = Ms.length := by rw [hM]
  show S.length ≤ 30 ∧ (F.gs ++ m.gs.map (asF ids p)).length ≤ 30 ∧ (F.ms ++ m.ms.map (mmF ids)).length ≤ 2 ↔ _
  rw [h1, h2]
theorem ptF_take {ids : List Int} {L zs : List Int} {j : Nat} (hz : zs = (L.take j).map (fun q => ids.getD q.toNat 0)) (hj : j < L.length) : zs ++ [ids.getD (L.getD j 0).toNat 0] = (L.take (j + 1)).map (fun q => ids.getD q.toNat 0) := by
  rw [zec 0 hj, List.map_append, ← hz]; rfl
theorem ptF_in {n : Nat} {ids : List Int} {x : Ix} (h : InN n ids) (hp : ∀ j, j < x.ps.length → 0 ≤ x.ps.getD j 0 ∧ x.ps.getD j 0 < ids.length) : InN n (ptF ids x) := fun y hy => by
  obtain ⟨q, hq, rfl⟩ := List.mem_map.1 hy
  obtain ⟨j, hj, rfl⟩ := List.mem_iff_getElem.1 hq
  have h1 := hp j hj
  rw [List.getD_eq_getElem?_getD, List.getElem?_eq_getElem hj] at h1
  have h1 : 0 ≤ x.ps[j] ∧ x.ps[j] < ids.length := h1
  exact h.at (by omega)
theorem ptF_len (ids : List Int) (x : Ix) : (ptF ids x).length = x.ps.length := by unfold ptF; rw [List.length_map]
theorem ptsA_at {ss : List Sg} {i : Nat} (hp : isPt (ss.getD i sg0) = true) {n : Nat} (hn : i < n) : (ptsA ss i).length < (ptsA ss n).length ∧ (ptsA ss n).getD (ptsA ss i).length 0 = (i : Int) := by
  obtain ⟨d, rfl⟩ : ∃ d, n = i + 1 + d := ⟨n - i - 1, by omega⟩
  clear hn
  induction d with
  | zero =>
    rw [Nat.add_zero, ← zfy (zew.1 hp)]
    exact ⟨by rw [List.length_append]; exact Nat.lt_succ_self _, by rw [getD_right (Nat.le_refl _), Nat.sub_self]; rfl⟩
  | succ d ih =>
    obtain ⟨h1, h2⟩ := ih
    show (ptsA ss i).length < (ptsA ss (i + 1 + d) ++ _).length ∧ (ptsA ss (i + 1 + d) ++ _).getD _ 0 = _
    exact ⟨by rw [List.length_append]; omega, by rw [getD_left h1]; exact h2⟩
theorem pts_iff {m : Md} (hl : m.ss.length ≤ 30) {i n : Nat} (hi : i < m.ss.length) (hn : n = (ptsA m.ss i).length) : isPt (m.ss.getD i sg0) = true ↔ n < (ptsK m).length ∧ (ptsK m).getD n 0 = (i : Int) := by
  have e : ptsK m = ptsA m.ss m.ss.length := by unfold ptsK; rw [if_pos hl]
  rw [e, hn]
  constructor
  · intro h; exact ptsA_at h hi
  · rintro ⟨h1, h2⟩
    obtain ⟨j, hj, hp, hx⟩ := ptsA_mem.1 (zbw (d := (0 : Int)) h1)
    rw [h2] at hx
    obtain rfl : i = j := by omega
    exact hp
theorem set_fill {ids : List Int} {N i : Nat} {x : Int} (hl : ids.length = i) (hi : i < N) : (ids ++ List.replicate (N - i) 0).set i x = (ids ++ [x]) ++ List.replicate (N - (i + 1)) 0 := by
  have e : List.replicate (N - i) (0 : Int) = 0 :: List.replicate (N - (i + 1)) 0 := by rw [show N - i = (N - (i + 1)) + 1 by omega, List.replicate_succ]
  rw [e, List.set_append_right _ _ (by omega), hl, Nat.sub_self, List.set_cons_zero, List.append_assoc]; rfl
theorem fill_end {ids : List Int} {N i : Nat} (h : N = i) : ids ++ List.replicate (N - i) 0 = ids := by rw [h, Nat.sub_self]; simp
theorem fill_len {ids : List Int} {N i : Nat} (hl : ids.length = i) (h : i ≤ N) : (ids ++ List.replicate (N - i) (0 : Int)).length = N := by rw [List.length_append, List.length_replicate]; omega
abbrev fbQ (b : Nat) (v a c d : Value) (ss : List Sg) (gs : List As) (ms : List Mm) (ps : List HP) : List HP := boxE b #[v, a, c, .slice none 0 0, d] 114 :: flQ a c d ss gs ms ps
def AddB (o : Option Fz) (b : Nat) (v u_ : Value) (p_ : HP) : Prop := ∃ (ok : Bool) (qs : List HP), u_ = .bool ok ∧ p_ = bigE qs ∧ (ok = true → ∃ (G : Fz) (a c d : Value) (gs : List As) (ps : List HP), o = some G ∧ qs = fbQ b v a c d G.ss gs G.ms ps ∧ (∀ w, (bigE ps).holds w → OpsR w gs) ∧ gs.map asV = G.gs) ∧ (ok = false → o = none)
theorem zfz (x lo hi : Int) (w : World)  :
   Calls Try.prog 69 #[.int .i64 x, .int .i64 lo, .int .i64 hi] w (Ans w (.bool (inR x lo hi))) := by
 refine zca (N := 15) (args := [.int .i64 x, .int .i64 lo, .int .i64 hi]) Try.func69 rfl rfl (zbg 1 rfl (zag (reQ 2 rfl ?_)))
 refine hl_geq rfl rfl rfl rfl rfl rfl (fun h1 => ?_) (fun h1 => ?_)
 ·
  refine zam 3 rfl (hl_leq rfl rfl rfl rfl rfl rfl (fun h2 => ?_) (fun h2 => ?_))
  ·
   refine zay 2 rfl ?_
   exact zao (zav rfl rfl (congrArg _ (((zdc _ _ _).2 (by omega)).symm)))
  refine zay 2 rfl ?_
  exact zao (zav rfl rfl (congrArg _ ((Bool.eq_false_iff.2 (fun h => by have := (zdc _ _ _).1 h; omega)).symm)))
 refine zay 6 rfl ?_
 exact zao (zav rfl rfl (congrArg _ ((Bool.eq_false_iff.2 (fun h => by have := (zdc _ _ _).1 h; omega)).symm)))
theorem zfw (k : Int) (w : World)  :
   Calls Try.prog 124 #[.int .i64 k] w (Ans w (.int .i64 (arI k))) := by
 refine zca (N := 12) (args := [.int .i64 k]) Try.func124 rfl rfl (zbg 1 rfl (zag (zag (reQ 1 rfl ?_))))
 refine zem rfl (zaw rfl rfl (fun w hm => zbf (zfz k 0 12 w))) (zbm (fun h1 => ?_) (fun h1 => ?_))
 ·
  obtain ⟨h1a, h1b⟩ := (zdc _ _ _).1 h1
  refine zay 1 rfl (zap rfl (zcv (zag (zag (reQ 1 rfl ?_)))))
  refine hl_leq rfl rfl rfl rfl rfl rfl (fun h2 => ?_) (fun h2 => ?_)
  ·
   refine ntQ (zah rfl (zbg 1 rfl ?_))
   refine zao (zae ?_)
   exact zav rfl rfl (congrArg (Value.int .i64) (by unfold arI; (repeat' split) <;> first | rfl | (exfalso; omega)))
  refine ntQ (zap rfl (zcv (zag (zag (reQ 1 rfl ?_)))))
  refine zbu rfl rfl rfl rfl rfl rfl (fun h3 => ?_) (fun h3 => ?_)
  ·
   refine ntQ (zah rfl (zbg 1 rfl ?_))
   refine zao (zae ?_)
   exact zav rfl rfl (congrArg (Value.int .i64) (by unfold arI; (repeat' split) <;> first | rfl | (exfalso; omega)))
  refine ntQ (zap rfl (zcv (zag (zag (reQ 1 rfl ?_)))))
  refine zbu rfl rfl rfl rfl rfl rfl (fun h4 => ?_) (fun h4 => ?_)
  ·
   refine ntQ (zah rfl (zbg 1 rfl ?_))
   refine zao (zae ?_)
   exact zav rfl rfl (congrArg (Value.int .i64) (by unfold arI; (repeat' split) <;> first | rfl | (exfalso; omega)))
  refine ntQ (zap rfl (zcv (zbg 1 rfl ?_)))
  exact zao (zav rfl rfl (congrArg (Value.int .i64) (by unfold arI; (repeat' split) <;> first | rfl | (exfalso; omega))))
 have h1a := zcy h1
 refine zay 1 rfl (zah rfl (zbg 1 rfl ?_))
 refine zao (zae ?_)
 exact zav rfl rfl (congrArg (Value.int .i64) (by unfold arI; (repeat' split) <;> first | rfl | (exfalso; omega)))
theorem l04Op_ans (o : Oq) (n : Int) (w : World)  :
   Calls Try.prog 126 #[.agg #[.int .i64 o.k, .int .i64 o.a, .int .i64 o.b], .int .i64 n] w (Ans w (.bool (pB (OqP n o)))) := by
 refine zca (N := 63) (args := [.agg #[.int .i64 o.k, .int .i64 o.a, .int .i64 o.b], .int .i64 n]) Try.func126 rfl rfl (srQ ?_)
 refine zdn rfl (zdm rfl rfl) ?_
 intro b1
 refine zay 1 rfl (zfi (hvQ rfl (fdQ 0 rfl rfl rfl) (hvQ rfl (zac rfl rfl rfl (zaa 0 rfl rfl)) (ntQ (zaz (zag ?_))))))
 refine zas (zbu rfl rfl rfl rfl rfl rfl (fun h2 => ?_) (fun h2 => ?_))
 ·
  refine zay 1 rfl (zah rfl (srQ (hvQ rfl (fdQ 1 rfl rfl rfl) (hvQ rfl (zac rfl rfl rfl (zaa 0 rfl rfl)) ?_))))
  refine zem rfl (zaw rfl rfl (fun w hm => zbf (zfz o.a 0 15 w))) (zbm (fun h3 => ?_) (fun h3 => ?_))
  ·
   obtain ⟨h3a, h3b⟩ := (zdc _ _ _).1 h3
   refine zam 1 rfl (hvQ rfl (fdQ 2 rfl rfl rfl) (hvQ rfl (zac rfl rfl rfl (zaa 0 rfl rfl)) ?_))
   refine zbu rfl rfl rfl rfl rfl rfl (fun h4 => ?_) (fun h4 => ?_)
   ·
    refine zay 2 rfl ?_
    refine zao (zad ?_)
    exact zae (zav rfl rfl (congrArg _ (zdi (by first | exact .inl ⟨by omega, ⟨by omega, by omega⟩, by omega⟩ | exact .inr (.inl ⟨by omega, ⟨by omega, by omega⟩, by omega⟩) | exact .inr (.inr (.inl ⟨by omega, ⟨by omega, by omega⟩, by omega, by omega⟩)) | exact .inr (.inr (.inr ⟨by omega, by omega, by omega, by omega, by omega, by omega⟩)))).symm))
   refine zay 2 rfl ?_
   refine zao (zad ?_)
   exact zae (zav rfl rfl (congrArg _ (zbv (fun hp => by first | (rcases hp with ⟨p1, p2, p3⟩ | ⟨p1, p2, p3⟩ | ⟨p1, p2, p3⟩ | ⟨p1, p2, p3, p4, p5, p6⟩ <;> omega))).symm))
  have h3a := zcy h3
  refine zay 6 rfl ?_
  refine zao (zad ?_)
  exact zae (zav rfl rfl (congrArg _ (zbv (fun hp => by first | (rcases hp with ⟨p1, p2, p3⟩ | ⟨p1, p2, p3⟩ | ⟨p1, p2, p3⟩ | ⟨p1, p2, p3, p4, p5, p6⟩ <;> omega))).symm))
 refine zay 1 rfl (zap rfl (srQ ?_))
 refine zbu rfl rfl rfl rfl rfl rfl (fun h5 => ?_) (fun h5 => ?_)
 ·
  refine zay 1 rfl (zah rfl (srQ (hvQ rfl (fdQ 1 rfl rfl rfl) (hvQ rfl (zac rfl rfl rfl (zaa 0 rfl rfl)) ?_))))
  refine hl_geq rfl rfl rfl rfl rfl rfl (fun h6 => ?_) (fun h6 => ?_)
  ·
   refine zam 1 rfl (hvQ rfl (fdQ 1 rfl rfl rfl) (hvQ rfl (zac rfl rfl rfl (zaa 0 rfl rfl)) (zam 1 rfl ?_)))
   refine zbq rfl rfl rfl rfl rfl rfl (fun h7 => ?_) (fun h7 => ?_)
   ·
    refine zam 2 rfl (hvQ rfl (fdQ 2 rfl rfl rfl) (hvQ rfl (zac rfl rfl rfl (zaa 0 rfl rfl)) ?_))
    refine zbu rfl rfl rfl rfl rfl rfl (fun h8 => ?_) (fun h8 => ?_)
    ·
     refine zay 2 rfl ?_
     refine zao (zad ?_)
     exact zae (zav rfl rfl (congrArg _ (zdi (by first | exact .inl ⟨by omega, ⟨by omega, by omega⟩, by omega⟩ | exact .inr (.inl ⟨by omega, ⟨by omega, by omega⟩, by omega⟩) | exact .inr (.inr (.inl ⟨by omega, ⟨by omega, by omega⟩, by omega, by omega⟩)) | exact .inr (.inr (.inr ⟨by omega, by omega, by omega, by omega, by omega, by omega⟩)))).symm))
    refine zay 2 rfl ?_
    refine zao (zad ?_)
    exact zae (zav rfl rfl (congrArg _ (zbv (fun hp => by first | (rcases hp with ⟨p1, p2, p3⟩ | ⟨p1, p2, p3⟩ | ⟨p1, p2, p3⟩ | ⟨p1, p2, p3, p4, p5, p6⟩ <;> omega))).symm))
   refine zay 7 rfl ?_
   refine zao (zad ?_)
   exact zae (zav rfl rfl (congrArg _ (zbv (fun hp => by first | (rcases hp with ⟨p1, p2, p3⟩ | ⟨p1, p2, p3⟩ | ⟨p1, p2, p3⟩ | ⟨p1, p2, p3, p4, p5, p6⟩ <;> omega))).symm))
  refine zay 12 rfl ?_
  refine zao (zad ?_)
  exact zae (zav rfl rfl (congrArg _ (zbv (fun hp => by first | (rcases hp with ⟨p1, p2, p3⟩ | ⟨p1, p2, p3⟩ | ⟨p1, p2, p3⟩ | ⟨p1, p2, p3, p4, p5, p6⟩ <;> omega))).symm))
 refine zay 1 rfl (zap rfl (srQ ?_))
 refine zbu rfl rfl rfl rfl rfl rfl (fun h9 => ?_) (fun h9 => ?_)
 ·
  refine zay 1 rfl (zah rfl (srQ (hvQ rfl (fdQ 1 rfl rfl rfl) (hvQ rfl (zac rfl rfl rfl (zaa 0 rfl rfl)) ?_))))
  refine hl_geq rfl rfl rfl rfl rfl rfl (fun h10 => ?_) (fun h10 => ?_)
  ·
   refine zam 1 rfl (hvQ rfl (fdQ 1 rfl rfl rfl) (hvQ rfl (zac rfl rfl rfl (zaa 0 rfl rfl)) (zam 1 rfl ?_)))
   refine zbq rfl rfl rfl rfl rfl rfl (fun h11 => ?_) (fun h11 => ?_)
   ·
    refine zam 2 rfl (hvQ rfl (fdQ 2 rfl rfl rfl) (hvQ rfl (zac rfl rfl rfl (zaa 0 rfl rfl)) ?_))
    refine zem rfl (zaw rfl rfl (fun w hm => zbf (zfz o.b 0 3 w))) (zbm (fun h12 => ?_) (fun h12 => ?_))
    ·
     obtain ⟨h12a, h12b⟩ := (zdc _ _ _).1 h12
     refine zay 2 rfl ?_
     refine zao (zad ?_)
     exact zae (zav rfl rfl (congrArg _ (zdi (by first | exact .inl ⟨by omega, ⟨by omega, by omega⟩, by omega⟩ | exact .inr (.inl ⟨by omega, ⟨by omega, by omega⟩, by omega⟩) | exact .inr (.inr (.inl ⟨by omega, ⟨by omega, by omega⟩, by omega, by omega⟩)) | exact .inr (.inr (.inr ⟨by omega, by omega, by omega, by omega, by omega, by omega⟩)))).symm))
    have h12a := zcy h12
    refine zay 2 rfl ?_
    refine zao (zad ?_)
    exact zae (zav rfl rfl (congrArg _ (zbv (fun hp => by first | (rcases hp with ⟨p1, p2, p3⟩ | ⟨p1, p2, p3⟩ | ⟨p1, p2, p3⟩ | ⟨p1, p2, p3, p4, p5, p6⟩ <;> omega))).symm))
   refine zay 7 rfl ?_
   refine zao (zad ?_)
   exact zae (zav rfl rfl (congrArg _ (zbv (fun hp => by first | (rcases hp with ⟨p1, p2, p3⟩ | ⟨p1, p2, p3⟩ | ⟨p1, p2, p3⟩ | ⟨p1, p2, p3, p4, p5, p6⟩ <;> omega))).symm))
  refine zay 12 rfl ?_
  refine zao (zad ?_)
  exact zae (zav rfl rfl (congrArg _ (zbv (fun hp => by first | (rcases hp with ⟨p1, p2, p3⟩ | ⟨p1, p2, p3⟩ | ⟨p1, p2, p3⟩ | ⟨p1, p2, p3, p4, p5, p6⟩ <;> omega))).symm))
 refine zay 1 rfl (fsQ rfl (zdh (srQ (hvQ rfl (fdQ 0 rfl rfl rfl) (hvQ rfl (zac rfl rfl rfl (zaa 0 rfl rfl)) ?_)))))
 refine zem rfl (zaw rfl rfl (fun w hm => zbf (zfw o.k w))) (hl_geq rfl rfl rfl rfl rfl rfl (fun h13 => ?_) (fun h13 => ?_))
 ·
  refine zam 1 rfl (hvQ rfl (fdQ 1 rfl rfl rfl) (hvQ rfl (zac rfl rfl rfl (zaa 0 rfl rfl)) ?_))
  refine zbu rfl rfl rfl rfl rfl rfl (fun h14 => ?_) (fun h14 => ?_)
  ·
   refine zam 2 rfl (hvQ rfl (fdQ 2 rfl rfl rfl) (hvQ rfl (zac rfl rfl rfl (zaa 0 rfl rfl)) ?_))
   refine zbu rfl rfl rfl rfl rfl rfl (fun h15 => ?_) (fun h15 => ?_)
   ·
    refine zay 2 rfl ?_
    exact zao (zav rfl rfl (congrArg _ (zdi (by first | exact .inl ⟨by omega, ⟨by omega, by omega⟩, by omega⟩ | exact .inr (.inl ⟨by omega, ⟨by omega, by omega⟩, by omega⟩) | exact .inr (.inr (.inl ⟨by omega, ⟨by omega, by omega⟩, by omega, by omega⟩)) | exact .inr (.inr (.inr ⟨by omega, by omega, by omega, by omega, by omega, by omega⟩)))).symm))
   refine zay 2 rfl ?_
   exact zao (zav rfl rfl (congrArg _ (zbv (fun hp => by first | (rcases hp with ⟨p1, p2, p3⟩ | ⟨p1, p2, p3⟩ | ⟨p1, p2, p3⟩ | ⟨p1, p2, p3, p4, p5, p6⟩ <;> omega))).symm))
  refine zay 7 rfl ?_
  exact zao (zav rfl rfl (congrArg _ (zbv (fun hp => by first | (rcases hp with ⟨p1, p2, p3⟩ | ⟨p1, p2, p3⟩ | ⟨p1, p2, p3⟩ | ⟨p1, p2, p3, p4, p5, p6⟩ <;> omega))).symm))
 refine zay 11 rfl ?_
 exact zao (zav rfl rfl (congrArg _ (zbv (fun hp => by first | (rcases hp with ⟨p1, p2, p3⟩ | ⟨p1, p2, p3⟩ | ⟨p1, p2, p3⟩ | ⟨p1, p2, p3, p4, p5, p6⟩ <;> omega))).symm))
theorem specOpsOk_ans (os : List Oq) (n : Int) (v : Value) (w : World) (hv : RdsW w v 3 os.length (os.flatMap oqC)) :
   Calls Try.prog 89 #[v, .int .i64 n] w (Ans w (.bool (pB (OpsP n os)))) := by
 have hv9 := sml hv
 refine zca (N := 38) (args := [v, .int .i64 n]) Try.func89 rfl rfl (zbg 1 rfl (zag (zag (reQ 1 rfl (hvQ rfl (lnQ rfl rfl rfl (zaf hv)) ?_)))))
 refine zdr rfl rfl rfl rfl rfl rfl (fun h1 => ?_) (fun h1 => ?_)
 ·
  refine ntQ (zah rfl (zbg 1 rfl ?_))
  refine zao (zae ?_)
  exact zav rfl rfl (congrArg _ (zbv (fun hp => by first | (have := hp.len; omega) | (have := hp.pos; omega) | (have := (hp.op i (by omega)).1; omega) | (exact absurd (hp.op i (by omega)).2 (by assumption)) | (have := hp.fin; rw [show os.length = i by omega] at this; omega))).symm)
 refine ntQ (zap rfl (zcv (zbg 1 rfl (zag (zag ?_)))))
 refine zas (zay 1 rfl (zaz ?_))
 refine lkQ2 (α := Nat) (β := Int) [0, 1, 4, 9] rfl (fun i c => []) (fun i c => [(5, .int .i64 c), (6, .int .i64 (i : Int))]) (fun i c => i ≤ os.length ∧ c = needK os i ∧ ∀ q, q < i → needK os q ≠ 0 ∧ OqP n (os.getD q oq0)) (fun i c => os.length - i) 0 1 ⟨Nat.zero_le _, rfl, fun q hq => absurd hq (by omega)⟩ (saQ rfl) (.slnil) ?_
 intro i c hi2
 obtain ⟨hi, hc, hall⟩ := hi2
 have hnr := needK_rng os i
 have har := arI_rng (os.getD i oq0).k
 refine zag (zag (reQ 2 rfl (hvQ rfl (lnQ rfl rfl rfl (zaf hv)) ?_)))
 refine zbq rfl rfl rfl rfl rfl rfl (fun h3 => ?_) (fun h3 => ?_)
 ·
  refine ntQ (zah rfl (zcv (sbQ (zag (zag (reQ 1 rfl ?_))))))
  refine zbu rfl rfl rfl rfl rfl rfl (fun h4 => ?_) (fun h4 => ?_)
  ·
   refine zay 9 rfl (zah rfl (zag (reQ 1 rfl (?_))))
   refine ntQ ?_
   refine zao (zae ?_)
   refine zad (zdv ?_)
   refine zad (zae ?_)
   exact zav rfl rfl (congrArg _ (zbv (fun hp => by first | (have := hp.len; omega) | (have := hp.pos; omega) | (have := (hp.op i (by omega)).1; omega) | (exact absurd (hp.op i (by omega)).2 (by assumption)) | (have := hp.fin; rw [show os.length = i by omega] at this; omega))).symm)
  refine zam 3 rfl (hvQ rfl (riQ 3 rfl rfl rfl rfl (zaf hv)) ?_)
  refine hvQ rfl (zbb (us := [.int .i64 ((os.getD i oq0).k), .int .i64 ((os.getD i oq0).a), .int .i64 ((os.getD i oq0).b)]) rfl rfl rfl rfl (zaf hv) (by omega) rfl (zbr oqC 3 (fun _ => rfl) os oq0 (show i < _ by omega) rfl)) (zam 1 rfl ?_)
  refine zem rfl (zaw rfl rfl (fun w hm => zbf (l04Op_ans (os.getD i oq0) n w))) (zbm (fun h5 => ?_) (fun h5 => ?_))
  ·
   have h5p := zes h5
   refine zay 2 rfl (zap rfl (zcv (reQ 1 rfl (hvQ rfl (vsQ rfl rfl rfl) (zam 2 rfl (hvQ rfl (riQ 3 rfl rfl rfl rfl (zaf hv)) (hvQ rfl (zaq (k0 := 0) rfl rfl rfl (zaf hv) (by omega)) ?_)))))))
   refine hvQ rfl (zan (u := .int .i64 ((os.getD i oq0).k)) rfl rfl rfl (zaf hv) ((zbd oqC 3 (fun _ => rfl) os oq0 (show i < _ by omega) (by decide)).trans rfl)) (zem rfl (zaw rfl rfl (fun w hm => zbf (zfw ((os.getD i oq0).k) w))) ?_)
   refine hvQ rfl (vaQ rfl rfl rfl) (enQ 1 rfl (zdh (reQ 1 rfl (hvQ rfl (vaQ rfl rfl rfl) (enQ 1 rfl ?_)))))
   exact zdd (i + 1) ((c - 1) + (arI ((os.getD i oq0).k))) ⟨by omega, by show _ = needK os i + (arI (os.getD i oq0).k - 1); omega, fun q hq => by by_cases e : q = i; (subst e; exact ⟨by omega, by assumption⟩); exact hall q (by omega)⟩ (by omega) (saQ rfl) (.slnil)
  have h5p := zdt h5
  refine zay 2 rfl (zah rfl (zbg 1 rfl ?_))
  refine zao (zae ?_)
  refine zad (zdv ?_)
  refine zad (zae ?_)
  exact zav rfl rfl (congrArg _ (zbv (fun hp => by first | (have := hp.len; omega) | (have := hp.pos; omega) | (have := (hp.op i (by omega)).1; omega) | (exact absurd (hp.op i (by omega)).2 (by assumption)) | (have := hp.fin; rw [show os.length = i by omega] at this; omega))).symm)
 refine ntQ (zap rfl ?_)
 refine zbj (zeb ?_)
 refine zal (zba (zag (reQ 1 rfl ?_)))
 refine zbu rfl rfl rfl rfl rfl rfl (fun h6 => ?_) (fun h6 => ?_)
 ·
  refine zay 1 rfl ?_
  exact zao (zav rfl rfl (congrArg _ (zdi ⟨by omega, fun q hq => hall q (by omega), by rw [show os.length = i by omega]; omega⟩).symm))
 refine zay 1 rfl ?_
 exact zao (zav rfl rfl (congrArg _ (zbv (fun hp => by first | (have := hp.len; omega) | (have := hp.pos; omega) | (have := (hp.op i (by omega)).1; omega) | (exact absurd (hp.op i (by omega)).2 (by assumption)) | (have := hp.fin; rw [show os.length = i by omega] at this; omega))).symm))
theorem zed (m : Md) (w : World) (hr : RdsMd w m) :
   Calls Try.prog 32 #[.agg #[m.sv, m.av, m.iv, m.mv]] w (Ret w (fun v' post => post = [rowE 3 1 v' ((ptsK m)).length (((ptsK m)).map (Value.int .i64))])) := by
 have hs9 := sml hr.s
 refine zca (N := 39) (args := [.agg #[m.sv, m.av, m.iv, m.mv]]) Try.func32 rfl rfl (srQ ?_)
 refine zdn rfl (zdm rfl rfl) ?_
 intro b1
 refine zay 1 rfl (srQ ?_)
 refine zea rfl (zee (s := 1) rfl Try.underlying48 rfl) ?_
 intro g2
 refine zay 1 rfl (zfi (hvQ rfl (fdQ 0 rfl rfl rfl) (hvQ rfl (zac rfl rfl rfl (zaa 1 rfl rfl)) (hvQ rfl (lnQ rfl rfl rfl (zaf ((hr).s))) ?_))))
 refine zdr rfl rfl rfl rfl rfl rfl (fun h3 => ?_) (fun h3 => ?_)
 ·
  refine ntQ (zah rfl (zbg 2 rfl ?_))
  refine zao (zae ?_)
  exact zga (post := [rowE 3 1 (.slice (some ⟨g2, 0, none⟩) 0 0) 0 ([])]) rfl rfl (slQ [0] rfl) (by unfold ptsK; rw [if_neg (by omega)] <;> rfl)
 refine ntQ (zap rfl (zcv (zag (zbg 1 rfl (zaz ?_)))))
 refine lkQ3 (α := Nat) (β := Value) (γ := List Int) [0, 1, 2, 9] rfl (fun i gu zs => [rowE 3 1 gu zs.length (zs.map (Value.int .i64)), boxE b1 #[m.sv, m.av, m.iv, m.mv] 35]) (fun i gu zs => [(3, gu), (4, .int .i64 (i : Int))]) (fun i gu zs => i ≤ m.ss.length ∧ zs = ptsA m.ss i) (fun i gu zs => m.ss.length - i) 0 _ [] ⟨Nat.zero_le _, rfl⟩ (saQ rfl) (pfQ rfl) ?_
 intro i gu zs hi4
 obtain ⟨hi, hz⟩ := hi4
 have hzl : zs.length ≤ i := by rw [hz]; exact ptsA_le _ _
 refine zag (zag (reQ 1 rfl (hvQ rfl (fdQ 0 rfl rfl rfl) (hvQ rfl (zac rfl rfl rfl (zaa 1 rfl rfl)) (hvQ rfl (lnQ rfl rfl rfl (zaf ((hr).s))) ?_)))))
 refine zbq rfl rfl rfl rfl rfl rfl (fun h5 => ?_) (fun h5 => ?_)
 ·
  refine ntQ (zah rfl (zcv (sbQ (srQ (hvQ rfl (fdQ 0 rfl rfl rfl) (hvQ rfl (zac rfl rfl rfl (zaa 1 rfl rfl)) (zam 1 rfl (hvQ rfl (riQ 3 rfl rfl rfl rfl (zaf ((hr).s))) ?_))))))))
  refine hvQ rfl (zaq (k0 := 0) rfl rfl rfl (zaf ((hr).s)) (by omega)) (hvQ rfl (zan (u := .int .i64 ((m.ss.getD i sg0).k)) rfl rfl rfl (zaf ((hr).s)) ((zbd sgC 3 (fun _ => rfl) m.ss sg0 (show i < _ by omega) (by decide)).trans rfl)) ?_)
  refine zbu rfl rfl rfl rfl rfl rfl (fun h6 => ?_) (fun h6 => ?_)
  ·
   refine zay 9 rfl (zah rfl (zas ?_))
   refine zam 2 rfl (zea rfl (zak (z := .int .i64 0) (s := 1) (cs := ([(i : Int)].map (Value.int .i64))) rfl Try.underlying48 rfl (by decide) rfl (by kernel_rfl) rfl) ?_)
   intro g7
   refine zcs (i := 1) (z := .int .i64 0) (bytes := 8) rfl rfl rfl rfl Try.underlying48 (by kernel_rfl) rfl rfl rfl rfl (zaj 0 rfl) (zbx _) (by first | omega | (simp; done) | (simp; omega)) (zcc zs ([(i : Int)])) (zcw zs ([(i : Int)])) (fun _ => rfl) ?_
   intro v8
   refine enQ 1 rfl (zdh (reQ 1 rfl (hvQ rfl (vaQ rfl rfl rfl) (enQ 1 rfl ?_))))
   exact zcq (i + 1) v8 (zs ++ ([(i : Int)])) ⟨by omega, by rw [hz]; exact zfy (by omega)⟩ (by omega) (saQ rfl) (slQ [1, 0] rfl)
  refine zam 1 rfl (hvQ rfl (fdQ 0 rfl rfl rfl) (hvQ rfl (zac rfl rfl rfl (zaa 1 rfl rfl)) (zam 1 rfl (hvQ rfl (riQ 3 rfl rfl rfl rfl (zaf ((hr).s))) (hvQ rfl (zaq (k0 := 0) rfl rfl rfl (zaf ((hr).s)) (by omega)) ?_)))))
  refine hvQ rfl (zan (u := .int .i64 ((m.ss.getD i sg0).k)) rfl rfl rfl (zaf ((hr).s)) ((zbd sgC 3 (fun _ => rfl) m.ss sg0 (show i < _ by omega) (by decide)).trans rfl)) (zbu rfl rfl rfl rfl rfl rfl (fun h9 => ?_) (fun h9 => ?_))
  ·
   refine zay 1 rfl (zah rfl (reQ 2 rfl ?_))
   refine zea rfl (zak (z := .int .i64 0) (s := 1) (cs := ([(i : Int)].map (Value.int .i64))) rfl Try.underlying48 rfl (by decide) rfl (by kernel_rfl) rfl) ?_
   intro g10
   refine zcs (i := 1) (z := .int .i64 0) (bytes := 8) rfl rfl rfl rfl Try.underlying48 (by kernel_rfl) rfl rfl rfl rfl (zaj 0 rfl) (zbx _) (by first | omega | (simp; done) | (simp; omega)) (zcc zs ([(i : Int)])) (zcw zs ([(i : Int)])) (fun _ => rfl) ?_
   intro v11
   refine enQ 1 rfl (zdh (reQ 1 rfl (hvQ rfl (vaQ rfl rfl rfl) (enQ 1 rfl ?_))))
   exact zcq (i + 1) v11 (zs ++ ([(i : Int)])) ⟨by omega, by rw [hz]; exact zfy (by omega)⟩ (by omega) (saQ rfl) (slQ [1, 0] rfl)
  refine zay 1 rfl (fsQ rfl (zdh (reQ 1 rfl (hvQ rfl (vaQ rfl rfl rfl) (enQ 1 rfl ?_)))))
  exact zcq (i + 1) gu zs ⟨by omega, hz.trans (ptsA_no (by omega))⟩ (by omega) (saQ rfl) (pfQ rfl)
 refine ntQ (zap rfl ?_)
 refine zbj (zeb ?_)
 refine zal (zba (zbg 2 rfl ?_))
 exact zao (zga (post := [rowE 3 1 gu zs.length (zs.map (Value.int .i64))]) rfl rfl (slQ [0] rfl) (by rw [hz, show i = m.ss.length by omega]; unfold ptsK; rw [if_pos (by omega)]))
theorem l04Counts_ans (D : List Md) (k : Nat) (v : Value) (w : World) (hd : RdsDs w v D) :
   Calls Try.prog 150 #[.agg #[v], .int .i64 (k : Int)] w (Ans w (.bool (pB (CtsP D k)))) := by
 have hd9 := sml hd.row
 have hm9 : ∀ q, q < D.length → (D.getD q md0).ss.length ≤ 9223372036854775807 := fun q hq => by have := sml (hd.at hq).s; omega
 refine zca (N := 101) (args := [.agg #[v], .int .i64 (k : Int)]) Try.func150 rfl rfl (srQ ?_)
 refine zdn rfl (zdm rfl rfl) ?_
 intro b1
 refine zay 1 rfl (zfi (hvQ rfl (fdQ 0 rfl rfl rfl) (hvQ rfl (zac rfl rfl rfl (zaa 0 rfl rfl)) (hvQ rfl (lnQ rfl rfl rfl (zaf hd.row)) ?_))))
 refine zdr rfl rfl rfl rfl rfl rfl (fun h2 => ?_) (fun h2 => ?_)
 ·
  refine zay 11 rfl (zah rfl (srQ ?_))
  refine zay 1 rfl ?_
  refine zao (zae ?_)
  exact zav rfl rfl (congrArg _ (zbv (fun hp => by first | (have := hp.lt; have := hp.cnt.len; omega) | (have h9 := hp.cnt.md i (by omega); obtain ⟨h1, h2, h3, h4⟩ := h9; omega) | (have h9 := hp.ins i (by omega); obtain ⟨⟨h1, h2⟩, h3⟩ := h9; omega))).symm)
 refine zam 2 rfl (zbq rfl rfl rfl rfl rfl rfl (fun h3 => ?_) (fun h3 => ?_))
 ·
  refine zay 8 rfl (zah rfl (zag (reQ 1 rfl (?_))))
  refine ntQ ?_
  refine zao (zae ?_)
  exact zav rfl rfl (congrArg _ (zbv (fun hp => by first | (have := hp.lt; have := hp.cnt.len; omega) | (have h9 := hp.cnt.md i (by omega); obtain ⟨h1, h2, h3, h4⟩ := h9; omega) | (have h9 := hp.ins i (by omega); obtain ⟨⟨h1, h2⟩, h3⟩ := h9; omega))).symm)
 refine zam 3 rfl (hvQ rfl (fdQ 0 rfl rfl rfl) (hvQ rfl (zac rfl rfl rfl (zaa 0 rfl rfl)) (hvQ rfl (lnQ rfl rfl rfl (zaf hd.row)) ?_)))
 refine hl_geq rfl rfl rfl rfl rfl rfl (fun h4 => ?_) (fun h4 => ?_)
 ·
  refine zay 1 rfl (zah rfl (zbg 1 rfl ?_))
  refine zao (zae ?_)
  exact zav rfl rfl (congrArg _ (zbv (fun hp => by first | (have := hp.lt; have := hp.cnt.len; omega) | (have h9 := hp.cnt.md i (by omega); obtain ⟨h1, h2, h3, h4⟩ := h9; omega) | (have h9 := hp.ins i (by omega); obtain ⟨⟨h1, h2⟩, h3⟩ := h9; omega))).symm)
 refine zay 1 rfl (zap rfl (zcv (zag (zbg 1 rfl ?_))))
 refine zaz ?_
 refine lkQ1 (α := Nat) [0, 1, 2, 4, 23] rfl (fun i => [boxE b1 #[v] 26]) (fun i => [(5, .int .i64 (i : Int))]) (fun i => i ≤ D.length ∧ ∀ q, q < i → LenP (D.getD q md0)) (fun i => D.length - i) 0 ⟨Nat.zero_le _, fun q hq => absurd hq (by omega)⟩ (saQ rfl) (pfQ rfl) ?_
 intro i hi5
 obtain ⟨hi, hall⟩ := hi5
 refine zag (zag (reQ 1 rfl (hvQ rfl (fdQ 0 rfl rfl rfl) (hvQ rfl (zac rfl rfl rfl (zaa 0 rfl rfl)) (hvQ rfl (lnQ rfl rfl rfl (zaf hd.row)) ?_)))))
 refine zbq rfl rfl rfl rfl rfl rfl (fun h6 => ?_) (fun h6 => ?_)
 ·
  refine ntQ (zah rfl (zcv (sbQ (srQ (hvQ rfl (fdQ 0 rfl rfl rfl) (hvQ rfl (zac rfl rfl rfl (zaa 0 rfl rfl)) (zam 1 rfl (hvQ rfl (riQ 4 rfl rfl rfl rfl (zaf hd.row)) ?_))))))))
  refine hvQ rfl (zbb (us := [(D.getD i md0).sv, (D.getD i md0).av, (D.getD i md0).iv, (D.getD i md0).mv]) rfl rfl rfl rfl (zaf hd.row) (by omega) rfl (zbr mdC 4 (fun _ => rfl) D md0 (show i < _ by omega) rfl)) (zdn rfl (zbl (z := .agg #[.slice none 0 0, .slice none 0 0, .slice none 0 0, .slice none 0 0]) rfl rfl) ?_)
  intro b7
  refine zbh (cs' := #[(D.getD i md0).sv, (D.getD i md0).av, (D.getD i md0).iv, (D.getD i md0).mv]) (i := 0) (off := 0) (us := [(D.getD i md0).sv, (D.getD i md0).av, (D.getD i md0).iv, (D.getD i md0).mv]) rfl rfl rfl rfl rfl rfl rfl (zab (hd.at (k := i) (by omega)).s.one (zab (hd.at (k := i) (by omega)).g.one (zab (hd.at (k := i) (by omega)).x.one (zab (hd.at (k := i) (by omega)).m.one zbc)))) rfl rfl rfl (ntQ (srQ (hvQ rfl (fdQ 0 rfl rfl rfl) (hvQ rfl (zac rfl rfl rfl (zaa 0 rfl rfl)) (hvQ rfl (lnQ rfl rfl rfl (zaf ((hd.at (k := i) (by omega)).s))) ?_)))))
  refine zdr rfl rfl rfl rfl rfl rfl (fun h8 => ?_) (fun h8 => ?_)
  ·
   refine zay 18 rfl (zah rfl (zbg 1 rfl ?_))
   refine zao (zad ?_)
   refine zdv ?_
   refine zad (zae ?_)
   exact zav rfl rfl (congrArg _ (zbv (fun hp => by first | (have := hp.lt; have := hp.cnt.len; omega) | (have h9 := hp.cnt.md i (by omega); obtain ⟨h1, h2, h3, h4⟩ := h9; omega) | (have h9 := hp.ins i (by omega); obtain ⟨⟨h1, h2⟩, h3⟩ := h9; omega))).symm)
  refine zam 1 rfl (hvQ rfl (fdQ 1 rfl rfl rfl) (hvQ rfl (zac rfl rfl rfl (zaa 0 rfl rfl)) (hvQ rfl (lnQ rfl rfl rfl (zaf ((hd.at (k := i) (by omega)).g))) ?_)))
  refine zdr rfl rfl rfl rfl rfl rfl (fun h9 => ?_) (fun h9 => ?_)
  ·
   refine zay 13 rfl ?_
   refine zah rfl (zbg 1 rfl ?_)
   refine zao (zad ?_)
   refine zdv ?_
   refine zad (zae ?_)
   exact zav rfl rfl (congrArg _ (zbv (fun hp => by first | (have := hp.lt; have := hp.cnt.len; omega) | (have h9 := hp.cnt.md i (by omega); obtain ⟨h1, h2, h3, h4⟩ := h9; omega) | (have h9 := hp.ins i (by omega); obtain ⟨⟨h1, h2⟩, h3⟩ := h9; omega))).symm)
  refine zam 2 rfl (hvQ rfl (fdQ 2 rfl rfl rfl) (hvQ rfl (zac rfl rfl rfl (zaa 0 rfl rfl)) (hvQ rfl (lnQ rfl rfl rfl (zaf ((hd.at (k := i) (by omega)).x))) ?_)))
  refine zdr rfl rfl rfl rfl rfl rfl (fun h10 => ?_) (fun h10 => ?_)
  ·
   refine zay 7 rfl (zah rfl (zag (reQ 1 rfl (?_))))
   refine ntQ ?_
   refine zao (zad ?_)
   refine zdv ?_
   refine zad (zae ?_)
   exact zav rfl rfl (congrArg _ (zbv (fun hp => by first | (have := hp.lt; have := hp.cnt.len; omega) | (have h9 := hp.cnt.md i (by omega); obtain ⟨h1, h2, h3, h4⟩ := h9; omega) | (have h9 := hp.ins i (by omega); obtain ⟨⟨h1, h2⟩, h3⟩ := h9; omega))).symm)
  refine zam 2 rfl (hvQ rfl (fdQ 3 rfl rfl rfl) (hvQ rfl (zac rfl rfl rfl (zaa 0 rfl rfl)) (hvQ rfl (lnQ rfl rfl rfl (zaf ((hd.at (k := i) (by omega)).m))) ?_)))
  refine zdr rfl rfl rfl rfl rfl rfl (fun h11 => ?_) (fun h11 => ?_)
  ·
   refine zay 1 rfl (zah rfl (zbg 1 rfl ?_))
   refine zao (zad ?_)
   refine zdv ?_
   refine zad (zae ?_)
   exact zav rfl rfl (congrArg _ (zbv (fun hp => by first | (have := hp.lt; have := hp.cnt.len; omega) | (have h9 := hp.cnt.md i (by omega); obtain ⟨h1, h2, h3, h4⟩ := h9; omega) | (have h9 := hp.ins i (by omega); obtain ⟨⟨h1, h2⟩, h3⟩ := h9; omega))).symm)
  refine zay 1 rfl (fsQ rfl (zdh (reQ 1 rfl (hvQ rfl (vaQ rfl rfl rfl) (enQ 1 rfl ?_)))))
  exact zbs (i + 1) ⟨by omega, fun q hq => by by_cases e : q = i; (subst e; exact ⟨by omega, by omega, by omega, by omega⟩); exact hall q (by omega)⟩ (by omega) (saQ rfl) (slQ [1] rfl)
 refine ntQ (zap rfl ?_)
 refine zbj (zeb ?_)
 refine zal (zba (zag (zbg 1 rfl (zaz ?_))))
 refine lkQ1 (α := Nat) [0, 1, 2, 4, 23, 28] rfl (fun i => [boxE b1 #[v] 26]) (fun i => [(7, .int .i64 (i : Int))]) (fun i => i ≤ (D.getD k md0).xs.length ∧ ∀ q, q < i → InsOk D k q) (fun i => (D.getD k md0).xs.length - i) 0 ⟨Nat.zero_le _, fun q hq => absurd hq (by omega)⟩ (saQ rfl) (pfQ rfl) ?_
 intro i hi12
 obtain ⟨hi, hins⟩ := hi12
 have hcnt : CntP D := ⟨by omega, fun q hq => hall q (by omega)⟩
 have hxl := (hcnt.md k (by omega)).2.2.1
 refine zag (zag (reQ 1 rfl (hvQ rfl (fdQ 0 rfl rfl rfl) (hvQ rfl (zac rfl rfl rfl (zaa 0 rfl rfl)) (zam 1 rfl (hvQ rfl (riQ 4 rfl rfl rfl rfl (zaf hd.row)) (hvQ rfl (zaq (k0 := 2) rfl rfl rfl (zaf hd.row) (by omega)) ?_)))))))
 refine hvQ rfl (zan (u := (D.getD k md0).iv) rfl rfl rfl (zaf hd.row) ((zbd mdC 4 (fun _ => rfl) D md0 (show k < _ by omega) (by decide)).trans rfl)) (hvQ rfl (lnQ rfl rfl rfl (zaf ((hd.at (k := k) (by omega)).x))) ?_)
 refine zbq rfl rfl rfl rfl rfl rfl (fun h13 => ?_) (fun h13 => ?_)
 ·
  refine ntQ (zah rfl (zcv (sbQ (srQ (hvQ rfl (fdQ 0 rfl rfl rfl) (hvQ rfl (zac rfl rfl rfl (zaa 0 rfl rfl)) (zam 1 rfl (hvQ rfl (riQ 4 rfl rfl rfl rfl (zaf hd.row)) ?_))))))))
  refine hvQ rfl (zaq (k0 := 2) rfl rfl rfl (zaf hd.row) (by omega)) (hvQ rfl (zan (u := (D.getD k md0).iv) rfl rfl rfl (zaf hd.row) ((zbd mdC 4 (fun _ => rfl) D md0 (show k < _ by omega) (by decide)).trans rfl)) ?_)
  refine zam 1 rfl (hvQ rfl (riQ 3 rfl rfl rfl rfl (zaf ((hd.at (k := k) (by omega)).x))) ?_)
  refine hvQ rfl (zbb (us := [.int .i64 ((((D.getD k md0).xs).getD i ix0).m), .int .i64 ((((D.getD k md0).xs).getD i ix0).p), (((D.getD k md0).xs).getD i ix0).pv]) rfl rfl rfl rfl (zaf ((hd.at (k := k) (by omega)).x)) (by omega) rfl (zbr ixC 3 (fun _ => rfl) ((D.getD k md0).xs) ix0 (show i < _ by omega) rfl)) (zdn rfl (zbl (z := .agg #[.int .i64 0, .int .i64 0, .slice none 0 0]) rfl rfl) ?_)
  intro b14
  refine zbh (cs' := #[.int .i64 ((((D.getD k md0).xs).getD i ix0).m), .int .i64 ((((D.getD k md0).xs).getD i ix0).p), (((D.getD k md0).xs).getD i ix0).pv]) (i := 0) (off := 0) (us := [.int .i64 ((((D.getD k md0).xs).getD i ix0).m), .int .i64 ((((D.getD k md0).xs).getD i ix0).p), (((D.getD k md0).xs).getD i ix0).pv]) rfl rfl rfl rfl rfl rfl rfl (zab rfl (zab rfl (zab ((hd.at (k := k) (by omega)).p.at (k := i) (by omega)).one zbc))) rfl rfl rfl (ntQ (zag ?_))
  rcases Bool.eq_false_or_eq_true (decide ((((D.getD k md0).xs).getD i ix0).m < 0)) with hb15 | hb15
  ·
   have hb15p : (((D.getD k md0).xs).getD i ix0).m < 0 := of_decide_eq_true hb15
   refine zbz 23 [[], [0], [1], [2], [3], [3], [3], [3], [3, 7], [8], [9], [9], [9], [9], [9], [9], [9], [9], [9], [9], [9], [9], [9, 21]] [78, 79, 80, 81, 82, 83, 84, 85, 86, 87, 88, 89, 90, 91, 92, 93, 94, 95, 96, 97, 98, 99, 100] [.pointer (some ⟨b14, 0 + 0, none⟩), .int .i64 ((((D.getD k md0).xs).getD i ix0).m), .bool true, .bool true, undef, undef, undef, undef, .bool true, .bool true, undef, undef, undef, undef, undef, undef, undef, undef, undef, undef, undef, undef, .bool true] (by kernel_rfl) rfl ?_ ?_
   ·
    exact ⟨iaQ rfl (fdQ 0 rfl rfl rfl) rfl, iaQ rfl (zac rfl rfl rfl (zaa 0 rfl rfl)) rfl, .inl ⟨rfl, zdl (zcf rfl rfl rfl rfl) hb15⟩, iaQ rfl (zau rfl) rfl, .inr ⟨rfl, rfl⟩, .inr ⟨rfl, rfl⟩, .inr ⟨rfl, rfl⟩, .inr ⟨rfl, rfl⟩, iaQ rfl (zau rfl) rfl, iaQ rfl (zau rfl) rfl, .inr ⟨rfl, rfl⟩, .inr ⟨rfl, rfl⟩, .inr ⟨rfl, rfl⟩, .inr ⟨rfl, rfl⟩, .inr ⟨rfl, rfl⟩, .inr ⟨rfl, rfl⟩, .inr ⟨rfl, rfl⟩, .inr ⟨rfl, rfl⟩, .inr ⟨rfl, rfl⟩, .inr ⟨rfl, rfl⟩, .inr ⟨rfl, rfl⟩, .inr ⟨rfl, rfl⟩, iaQ rfl (zau rfl) rfl, trivial⟩
   simp only [List.drop_succ_cons, List.drop_zero]
   refine ntQ (zah rfl (zbg 1 rfl ?_))
   refine zao (zad ?_)
   refine zdv ?_
   refine zad (zae ?_)
   exact zav rfl rfl (congrArg _ (zbv (fun hp => by first | (have := hp.lt; have := hp.cnt.len; omega) | (have h9 := hp.cnt.md i (by omega); obtain ⟨h1, h2, h3, h4⟩ := h9; omega) | (have h9 := hp.ins i (by omega); obtain ⟨⟨h1, h2⟩, h3⟩ := h9; omega))).symm)
  have hb15p : ¬ ((((D.getD k md0).xs).getD i ix0).m < 0) := of_decide_eq_false hb15
  rcases Bool.eq_false_or_eq_true (decide ((k : Int) ≤ (((D.getD k md0).xs).getD i ix0).m)) with hb16 | hb16
  ·
   have hb16p : (k : Int) ≤ (((D.getD k md0).xs).getD i ix0).m := of_decide_eq_true hb16
   refine zbz 23 [[], [0], [1], [2], [3], [3, 4], [3], [3, 5, 6], [3, 7], [8], [9], [9], [9], [9], [9], [9], [9], [9], [9], [9], [9], [9], [9, 21]] [78, 79, 80, 81, 82, 83, 84, 85, 86, 87, 88, 89, 90, 91, 92, 93, 94, 95, 96, 97, 98, 99, 100] [.pointer (some ⟨b14, 0 + 0, none⟩), .int .i64 ((((D.getD k md0).xs).getD i ix0).m), .bool false, .bool false, .pointer (some ⟨b14, 0 + 0, none⟩), .int .i64 ((((D.getD k md0).xs).getD i ix0).m), .int .i64 (k : Int), .bool true, .bool true, .bool true, undef, undef, undef, undef, undef, undef, undef, undef, undef, undef, undef, undef, .bool true] (by kernel_rfl) rfl ?_ ?_
   ·
    exact ⟨iaQ rfl (fdQ 0 rfl rfl rfl) rfl, iaQ rfl (zac rfl rfl rfl (zaa 0 rfl rfl)) rfl, .inl ⟨rfl, zdl (zcf rfl rfl rfl rfl) hb15⟩, iaQ rfl (zau rfl) rfl, iaQ rfl (fdQ 0 rfl rfl rfl) rfl, iaQ rfl (zac rfl rfl rfl (zaa 0 rfl rfl)) rfl, iaQ rfl (zau rfl) rfl, .inl ⟨rfl, zdl (zcf rfl rfl rfl rfl) hb16⟩, iaQ rfl (zau rfl) rfl, iaQ rfl (zau rfl) rfl, .inr ⟨rfl, rfl⟩, .inr ⟨rfl, rfl⟩, .inr ⟨rfl, rfl⟩, .inr ⟨rfl, rfl⟩, .inr ⟨rfl, rfl⟩, .inr ⟨rfl, rfl⟩, .inr ⟨rfl, rfl⟩, .inr ⟨rfl, rfl⟩, .inr ⟨rfl, rfl⟩, .inr ⟨rfl, rfl⟩, .inr ⟨rfl, rfl⟩, .inr ⟨rfl, rfl⟩, iaQ rfl (zau rfl) rfl, trivial⟩
   simp only [List.drop_succ_cons, List.drop_zero]
   refine ntQ (zah rfl (zbg 1 rfl ?_))
   refine zao (zad ?_)
   refine zdv ?_
   refine zad (zae ?_)
   exact zav rfl rfl (congrArg _ (zbv (fun hp => by first | (have := hp.lt; have := hp.cnt.len; omega) | (have h9 := hp.cnt.md i (by omega); obtain ⟨h1, h2, h3, h4⟩ := h9; omega) | (have h9 := hp.ins i (by omega); obtain ⟨⟨h1, h2⟩, h3⟩ := h9; omega))).symm)
  have hb16p : ¬ ((k : Int) ≤ (((D.getD k md0).xs).getD i ix0).m) := of_decide_eq_false hb16
  rcases Bool.eq_false_or_eq_true ((((((D.getD k md0).xs).getD i ix0).ps).length : Int) != ((ptsK (D.getD (((((D.getD k md0).xs).getD i ix0).m).toNat) md0)).length : Int)) with hb20 | hb20
  ·
   have hb20p : (((((D.getD k md0).xs).getD i ix0).ps).length : Int) ≠ ((ptsK (D.getD (((((D.getD k md0).xs).getD i ix0).m).toNat) md0)).length : Int) := bne_iff_ne.1 hb20
   refine hc_draw rfl 23 [0, 1, 2, 3, 4, 5, 6, 7, 8, 9, 10, 11, 12, 13, 14, 15, 16, 17, 18, 19, 20, 21, 22] (List.take 23 _) (List.drop 23 _) [[], [0], [1], [2], [3], [3, 4], [3], [3, 5, 6], [3, 7], [8], [9], [9, 10], [9, 11], [9], [9, 13], [9], [9, 15], [9, 14, 16], [9, 17], [9, 18], [9, 19], [9, 12, 19, 20], [9, 21]] [78, 79, 80, 81, 82, 83, 84, 85, 86, 87, 88, 89, 90, 91, 92, 93, 94, 95, 96, 97, 98, 99, 100] (fun i_ vs_ v_ p_ => match i_ with | 0 => v_ = .pointer (some ⟨b14, 0 + 0, none⟩) ∧ p_ = [] | 1 => v_ = .int .i64 ((((D.getD k md0).xs).getD i ix0).m) ∧ p_ = [] | 2 => v_ = .bool false ∧ p_ = [] | 3 => v_ = .bool false ∧ p_ = [] | 4 => v_ = .pointer (some ⟨b14, 0 + 0, none⟩) ∧ p_ = [] | 5 => v_ = .int .i64 ((((D.getD k md0).xs).getD i ix0).m) ∧ p_ = [] | 6 => v_ = .int .i64 (k : Int) ∧ p_ = [] | 7 => v_ = .bool false ∧ p_ = [] | 8 => v_ = .bool false ∧ p_ = [] | 9 => v_ = .bool false ∧ p_ = [] | 10 => v_ = .pointer (some ⟨b14, 0 + 2, none⟩) ∧ p_ = [] | 11 => v_ = (((D.getD k md0).xs).getD i ix0).pv ∧ p_ = [] | 12 => v_ = .int .i64 (((((D.getD k md0).xs).getD i ix0).ps).length : Int) ∧ p_ = [] | 13 => v_ = .pointer (some ⟨b1, 0 + 0, none⟩) ∧ p_ = [] | 14 => v_ = v ∧ p_ = [] | 15 => v_ = .pointer (some ⟨b14, 0 + 0, none⟩) ∧ p_ = [] | 16 => v_ = .int .i64 ((((D.getD k md0).xs).getD i ix0).m) ∧ p_ = [] | 17 => v_ = elP v (((((D.getD k md0).xs).getD i ix0).m).toNat * 4) ∧ p_ = [] | 18 => v_ = .agg #[(D.getD (((((D.getD k md0).xs).getD i ix0).m).toNat) md0).sv, (D.getD (((((D.getD k md0).xs).getD i ix0).m).toNat) md0).av, (D.getD (((((D.getD k md0).xs).getD i ix0).m).toNat) md0).iv, (D.getD (((((D.getD k md0).xs).getD i ix0).m).toNat) md0).mv] ∧ p_ = [] | 19 => (fun v' post => post = [rowE 3 1 v' ((ptsK (D.getD (((((D.getD k md0).xs).getD i ix0).m).toNat) md0))).length (((ptsK (D.getD (((((D.getD k md0).xs).getD i ix0).m).toNat) md0))).map (Value.int .i64))]) v_ p_ | 20 => v_ = .int .i64 ((ptsK (D.getD (((((D.getD k md0).xs).getD i ix0).m).toNat) md0)).length : Int) ∧ p_ = [] | 21 => v_ = .bool true ∧ p_ = [] | 22 => v_ = .bool true ∧ p_ = [] | _ => True) (List.take_append_drop 23 _).symm (by kernel_rfl) (by kernel_rfl) rfl rfl ?_ ?_
   ·
    refine ⟨?_, ?_, ?_, ?_, ?_, ?_, ?_, ?_, ?_, ?_, ?_, ?_, ?_, ?_, ?_, ?_, ?_, ?_, ?_, ?_, ?_, ?_, ?_, trivial⟩
    ·
     intro vf pf hR
     exact ovQ rfl (zar [8] rfl) (zbt (fdQ 0 rfl rfl rfl))
    ·
     intro vf pf hR
     have e0 := hR 0 (by decide)
     exact olQ rfl (sk 78 (congrArg some e0.1) (zai _)) (zbt (zac rfl rfl rfl (zaa 0 rfl rfl)))
    ·
     intro vf pf hR
     have e1 := hR 1 (by decide)
     exact ovQ rfl (sk 79 (congrArg some e1.1) (zai _)) (zck (zbt (zcf rfl rfl rfl rfl)) (fun _ _ h => ⟨h.1.trans (congrArg Value.bool hb15), h.2⟩))
    ·
     intro vf pf hR
     have e2 := hR 2 (by decide)
     exact ovQ rfl (sk 80 (congrArg some e2.1) (zai _)) (zbt (zau rfl))
    ·
     intro vf pf hR
     have e3 := hR 3 (by decide)
     refine Or.inl ⟨zcb (congrArg some e3.1) rfl, ?_⟩
     exact zbo (zar [8] rfl) (zbt (fdQ 0 rfl rfl rfl))
    ·
     intro vf pf hR
     have e3 := hR 3 (by decide)
     have e4 := hR 4 (by decide)
     refine Or.inl ⟨zcb (congrArg some e3.1) rfl, ?_⟩
     exact zbe (sk 82 (congrArg some e4.1) (zai _)) (List.sublist_append_right _ _) (zbt (zac rfl rfl rfl (zaa 0 rfl rfl)))
    ·
     intro vf pf hR
     have e3 := hR 3 (by decide)
     refine Or.inl ⟨zcb (congrArg some e3.1) rfl, ?_⟩
     exact zbo (zar [1] rfl) (zbt (zau rfl))
    ·
     intro vf pf hR
     have e3 := hR 3 (by decide)
     have e5 := hR 5 (by decide)
     have e6 := hR 6 (by decide)
     refine Or.inl ⟨zcb (congrArg some e3.1) rfl, ?_⟩
     exact zbo (sk 83 (congrArg some e5.1) (sk 84 (congrArg some e6.1) (zai _))) (zck (zbt (zcf rfl rfl rfl rfl)) (fun _ _ h => ⟨h.1.trans (congrArg Value.bool hb16), h.2⟩))
    ·
     intro vf pf hR
     have e3 := hR 3 (by decide)
     have e7 := hR 7 (by decide)
     exact ovQ rfl (sk 81 (congrArg some e3.1) (sk 85 (congrArg some e7.1) (zai _))) (zbt (zau rfl))
    ·
     intro vf pf hR
     have e8 := hR 8 (by decide)
     exact ovQ rfl (sk 86 (congrArg some e8.1) (zai _)) (zbt (zau rfl))
    ·
     intro vf pf hR
     have e9 := hR 9 (by decide)
     refine Or.inl ⟨zcb (congrArg some e9.1) rfl, ?_⟩
     exact zbo (zar [8] rfl) (zbt (fdQ 2 rfl rfl rfl))
    ·
     intro vf pf hR
     have e9 := hR 9 (by decide)
     have e10 := hR 10 (by decide)
     refine Or.inl ⟨zcb (congrArg some e9.1) rfl, ?_⟩
     exact zbe (sk 88 (congrArg some e10.1) (zai _)) (List.sublist_append_right _ _) (zbt (zac rfl rfl rfl (zaa 0 rfl rfl)))
    ·
     intro vf pf hR
     have e9 := hR 9 (by decide)
     have e11 := hR 11 (by decide)
     refine Or.inl ⟨zcb (congrArg some e9.1) rfl, ?_⟩
     exact zbe (sk 89 (congrArg some e11.1) (zai _)) (List.sublist_append_right _ _) (zbt (lnQ rfl rfl rfl (zaf ((hd.at (k := k) (by omega)).p.at (k := i) (by omega)))))
    ·
     intro vf pf hR
     have e9 := hR 9 (by decide)
     refine Or.inl ⟨zcb (congrArg some e9.1) rfl, ?_⟩
     exact zbo (zar [2] rfl) (zbt (fdQ 0 rfl rfl rfl))
    ·
     intro vf pf hR
     have e9 := hR 9 (by decide)
     have e13 := hR 13 (by decide)
     refine Or.inl ⟨zcb (congrArg some e9.1) rfl, ?_⟩
     exact zbe (sk 91 (congrArg some e13.1) (zai _)) (List.sublist_append_right _ _) (zbt (zac rfl rfl rfl (zaa 1 rfl rfl)))
    ·
     intro vf pf hR
     have e9 := hR 9 (by decide)
     refine Or.inl ⟨zcb (congrArg some e9.1) rfl, ?_⟩
     exact zbo (zar [8] rfl) (zbt (fdQ 0 rfl rfl rfl))
    ·
     intro vf pf hR
     have e9 := hR 9 (by decide)
     have e15 := hR 15 (by decide)
     refine Or.inl ⟨zcb (congrArg some e9.1) rfl, ?_⟩
     exact zbe (sk 93 (congrArg some e15.1) (zai _)) (List.sublist_append_right _ _) (zbt (zac rfl rfl rfl (zaa 0 rfl rfl)))
    ·
     intro vf pf hR
     have e9 := hR 9 (by decide)
     have e14 := hR 14 (by decide)
     have e16 := hR 16 (by decide)
     refine Or.inl ⟨zcb (congrArg some e9.1) rfl, ?_⟩
     exact zbe (sk 92 (congrArg some e14.1) (sk 94 (congrArg some e16.1) (zai _))) (List.sublist_append_right _ _) (zbt (riQ 4 rfl rfl rfl rfl (zaf hd.row)))
    ·
     intro vf pf hR
     have e9 := hR 9 (by decide)
     have e17 := hR 17 (by decide)
     refine Or.inl ⟨zcb (congrArg some e9.1) rfl, ?_⟩
     exact zbe (sk 95 (congrArg some e17.1) (zai _)) (List.sublist_append_right _ _) (zbt (zbb (us := [(D.getD (((((D.getD k md0).xs).getD i ix0).m).toNat) md0).sv, (D.getD (((((D.getD k md0).xs).getD i ix0).m).toNat) md0).av, (D.getD (((((D.getD k md0).xs).getD i ix0).m).toNat) md0).iv, (D.getD (((((D.getD k md0).xs).getD i ix0).m).toNat) md0).mv]) rfl rfl rfl rfl (zaf hd.row) (by omega) rfl (zbr mdC 4 (fun _ => rfl) D md0 (show ((((D.getD k md0).xs).getD i ix0).m).toNat < _ by omega) rfl)))
    ·
     intro vf pf hR
     have e9 := hR 9 (by decide)
     have e18 := hR 18 (by decide)
     refine Or.inl ⟨zcb (congrArg some e9.1) rfl, ?_⟩
     exact zbe (sk 96 (congrArg some e18.1) (zai _)) (List.sublist_append_right _ _) (zaw rfl rfl (fun w hm => zed (D.getD (((((D.getD k md0).xs).getD i ix0).m).toNat) md0) w ((hd.at (by omega)).below hm.bel)))
    ·
     intro vf pf hR
     have e9 := hR 9 (by decide)
     have e19 : (fun v' post => post = [rowE 3 1 v' ((ptsK (D.getD (((((D.getD k md0).xs).getD i ix0).m).toNat) md0))).length (((ptsK (D.getD (((((D.getD k md0).xs).getD i ix0).m).toNat) md0))).map (Value.int .i64))]) (vf 19) (pf 19) := hR 19 (by decide)
     obtain ⟨v21, vE19⟩ : ∃ x, vf 19 = x := ⟨_, rfl⟩
     obtain ⟨p22, pE19⟩ : ∃ x, pf 19 = x := ⟨_, rfl⟩
     have hR23 := e19
     rw [vE19, pE19] at hR23
     subst hR23
     refine Or.inl ⟨zcb (congrArg some e9.1) rfl, ?_⟩
     exact zcm (sk 97 (congrArg some vE19) (zai _)) (by simp only [pE19, vE19, e9.2, fS] <;> rfl) (zbt (lnQ rfl rfl rfl (zaj 0 rfl)))
    ·
     intro vf pf hR
     have e9 := hR 9 (by decide)
     have e12 := hR 12 (by decide)
     have e19 : (fun v' post => post = [rowE 3 1 v' ((ptsK (D.getD (((((D.getD k md0).xs).getD i ix0).m).toNat) md0))).length (((ptsK (D.getD (((((D.getD k md0).xs).getD i ix0).m).toNat) md0))).map (Value.int .i64))]) (vf 19) (pf 19) := hR 19 (by decide)
     obtain ⟨v21, vE19⟩ : ∃ x, vf 19 = x := ⟨_, rfl⟩
     obtain ⟨p22, pE19⟩ : ∃ x, pf 19 = x := ⟨_, rfl⟩
     have hR23 := e19
     rw [vE19, pE19] at hR23
     subst hR23
     have e20 := hR 20 (by decide)
     refine Or.inl ⟨zcb (congrArg some e9.1) rfl, ?_⟩
     exact zcm (sk 90 (congrArg some e12.1) (sk 98 (congrArg some e20.1) (zai _))) (by simp only [pE19, vE19, e9.2, e12.2, e20.2, fS] <;> rfl) (zck (zbt (zcf rfl rfl rfl rfl)) (fun _ _ h => ⟨h.1.trans (congrArg Value.bool hb20), h.2⟩))
    intro vf pf hR
    have e9 := hR 9 (by decide)
    have e21 := hR 21 (by decide)
    exact ovQ rfl (sk 87 (congrArg some e9.1) (sk 99 (congrArg some e21.1) (zai _))) (zbt (zau rfl))
   intro vf pf hR
   have e19 : (fun v' post => post = [rowE 3 1 v' ((ptsK (D.getD (((((D.getD k md0).xs).getD i ix0).m).toNat) md0))).length (((ptsK (D.getD (((((D.getD k md0).xs).getD i ix0).m).toNat) md0))).map (Value.int .i64))]) (vf 19) (pf 19) := hR 19 (by decide)
   obtain ⟨v21, vE19⟩ : ∃ x, vf 19 = x := ⟨_, rfl⟩
   obtain ⟨p22, pE19⟩ : ∃ x, pf 19 = x := ⟨_, rfl⟩
   have hR23 := e19
   rw [vE19, pE19] at hR23
   subst hR23
   have e22 := hR 22 (by decide)
   have q0 := hR 0 (by decide)
   have q1 := hR 1 (by decide)
   have q2 := hR 2 (by decide)
   have q3 := hR 3 (by decide)
   have q4 := hR 4 (by decide)
   have q5 := hR 5 (by decide)
   have q6 := hR 6 (by decide)
   have q7 := hR 7 (by decide)
   have q8 := hR 8 (by decide)
   have q9 := hR 9 (by decide)
   have q10 := hR 10 (by decide)
   have q11 := hR 11 (by decide)
   have q12 := hR 12 (by decide)
   have q13 := hR 13 (by decide)
   have q14 := hR 14 (by decide)
   have q15 := hR 15 (by decide)
   have q16 := hR 16 (by decide)
   have q17 := hR 17 (by decide)
   have q18 := hR 18 (by decide)
   have q20 := hR 20 (by decide)
   have q21 := hR 21 (by decide)
   have q22 := hR 22 (by decide)
   refine zdf (zci [66, 28, 23, 8, 7, 4, 2, 1, 0] _ (sk 100 (congrArg some e22.1) (zai _)) rfl) (by simp only [pE19, vE19, q0.2, q1.2, q2.2, q3.2, q4.2, q5.2, q6.2, q7.2, q8.2, q9.2, q10.2, q11.2, q12.2, q13.2, q14.2, q15.2, q16.2, q17.2, q18.2, q20.2, q21.2, q22.2, fS] <;> rfl) ?_
   simp only [List.drop_succ_cons, List.drop_zero]
   refine ntQ (zah rfl (zbg 1 rfl ?_))
   refine zao (zad ?_)
   refine zdv ?_
   refine zad (zae ?_)
   exact zav rfl rfl (congrArg _ (zbv (fun hp => by first | (have := hp.lt; have := hp.cnt.len; omega) | (have h9 := hp.cnt.md i (by omega); obtain ⟨h1, h2, h3, h4⟩ := h9; omega) | (have h9 := hp.ins i (by omega); obtain ⟨⟨h1, h2⟩, h3⟩ := h9; omega))).symm)
  have hb20p : (((((D.getD k md0).xs).getD i ix0).ps).length : Int) = ((ptsK (D.getD (((((D.getD k md0).xs).getD i ix0).m).toNat) md0)).length : Int) := (bne_eq_false_iff_eq.1 hb20)
  refine hc_draw rfl 23 [0, 1, 2, 3, 4, 5, 6, 7, 8, 9, 10, 11, 12, 13, 14, 15, 16, 17, 18, 19, 20, 21, 22] (List.take 23 _) (List.drop 23 _) [[], [0], [1], [2], [3], [3, 4], [3], [3, 5, 6], [3, 7], [8], [9], [9, 10], [9, 11], [9], [9, 13], [9], [9, 15], [9, 14, 16], [9, 17], [9, 18], [9, 19], [9, 12, 19, 20], [9, 21]] [78, 79, 80, 81, 82, 83, 84, 85, 86, 87, 88, 89, 90, 91, 92, 93, 94, 95, 96, 97, 98, 99, 100] (fun i_ vs_ v_ p_ => match i_ with | 0 => v_ = .pointer (some ⟨b14, 0 + 0, none⟩) ∧ p_ = [] | 1 => v_ = .int .i64 ((((D.getD k md0).xs).getD i ix0).m) ∧ p_ = [] | 2 => v_ = .bool false ∧ p_ = [] | 3 => v_ = .bool false ∧ p_ = [] | 4 => v_ = .pointer (some ⟨b14, 0 + 0, none⟩) ∧ p_ = [] | 5 => v_ = .int .i64 ((((D.getD k md0).xs).getD i ix0).m) ∧ p_ = [] | 6 => v_ = .int .i64 (k : Int) ∧ p_ = [] | 7 => v_ = .bool false ∧ p_ = [] | 8 => v_ = .bool false ∧ p_ = [] | 9 => v_ = .bool false ∧ p_ = [] | 10 => v_ = .pointer (some ⟨b14, 0 + 2, none⟩) ∧ p_ = [] | 11 => v_ = (((D.getD k md0).xs).getD i ix0).pv ∧ p_ = [] | 12 => v_ = .int .i64 (((((D.getD k md0).xs).getD i ix0).ps).length : Int) ∧ p_ = [] | 13 => v_ = .pointer (some ⟨b1, 0 + 0, none⟩) ∧ p_ = [] | 14 => v_ = v ∧ p_ = [] | 15 => v_ = .pointer (some ⟨b14, 0 + 0, none⟩) ∧ p_ = [] | 16 => v_ = .int .i64 ((((D.getD k md0).xs).getD i ix0).m) ∧ p_ = [] | 17 => v_ = elP v (((((D.getD k md0).xs).getD i ix0).m).toNat * 4) ∧ p_ = [] | 18 => v_ = .agg #[(D.getD (((((D.getD k md0).xs).getD i ix0).m).toNat) md0).sv, (D.getD (((((D.getD k md0).xs).getD i ix0).m).toNat) md0).av, (D.getD (((((D.getD k md0).xs).getD i ix0).m).toNat) md0).iv, (D.getD (((((D.getD k md0).xs).getD i ix0).m).toNat) md0).mv] ∧ p_ = [] | 19 => (fun v' post => post = [rowE 3 1 v' ((ptsK (D.getD (((((D.getD k md0).xs).getD i ix0).m).toNat) md0))).length (((ptsK (D.getD (((((D.getD k md0).xs).getD i ix0).m).toNat) md0))).map (Value.int .i64))]) v_ p_ | 20 => v_ = .int .i64 ((ptsK (D.getD (((((D.getD k md0).xs).getD i ix0).m).toNat) md0)).length : Int) ∧ p_ = [] | 21 => v_ = .bool false ∧ p_ = [] | 22 => v_ = .bool false ∧ p_ = [] | _ => True) (List.take_append_drop 23 _).symm (by kernel_rfl) (by kernel_rfl) rfl rfl ?_ ?_
  ·
   refine ⟨?_, ?_, ?_, ?_, ?_, ?_, ?_, ?_, ?_, ?_, ?_, ?_, ?_, ?_, ?_, ?_, ?_, ?_, ?_, ?_, ?_, ?_, ?_, trivial⟩
   ·
    intro vf pf hR
    exact ovQ rfl (zar [8] rfl) (zbt (fdQ 0 rfl rfl rfl))
   ·
    intro vf pf hR
    have e0 := hR 0 (by decide)
    exact olQ rfl (sk 78 (congrArg some e0.1) (zai _)) (zbt (zac rfl rfl rfl (zaa 0 rfl rfl)))
   ·
    intro vf pf hR
    have e1 := hR 1 (by decide)
    exact ovQ rfl (sk 79 (congrArg some e1.1) (zai _)) (zck (zbt (zcf rfl rfl rfl rfl)) (fun _ _ h => ⟨h.1.trans (congrArg Value.bool hb15), h.2⟩))
   ·
    intro vf pf hR
    have e2 := hR 2 (by decide)
    exact ovQ rfl (sk 80 (congrArg some e2.1) (zai _)) (zbt (zau rfl))
   ·
    intro vf pf hR
    have e3 := hR 3 (by decide)
    refine Or.inl ⟨zcb (congrArg some e3.1) rfl, ?_⟩
    exact zbo (zar [8] rfl) (zbt (fdQ 0 rfl rfl rfl))
   ·
    intro vf pf hR
    have e3 := hR 3 (by decide)
    have e4 := hR 4 (by decide)
    refine Or.inl ⟨zcb (congrArg some e3.1) rfl, ?_⟩
    exact zbe (sk 82 (congrArg some e4.1) (zai _)) (List.sublist_append_right _ _) (zbt (zac rfl rfl rfl (zaa 0 rfl rfl)))
   ·
    intro vf pf hR
    have e3 := hR 3 (by decide)
    refine Or.inl ⟨zcb (congrArg some e3.1) rfl, ?_⟩
    exact zbo (zar [1] rfl) (zbt (zau rfl))
   ·
    intro vf pf hR
    have e3 := hR 3 (by decide)
    have e5 := hR 5 (by decide)
    have e6 := hR 6 (by decide)
    refine Or.inl ⟨zcb (congrArg some e3.1) rfl, ?_⟩
    exact zbo (sk 83 (congrArg some e5.1) (sk 84 (congrArg some e6.1) (zai _))) (zck (zbt (zcf rfl rfl rfl rfl)) (fun _ _ h => ⟨h.1.trans (congrArg Value.bool hb16), h.2⟩))
   ·
    intro vf pf hR
    have e3 := hR 3 (by decide)
    have e7 := hR 7 (by decide)
    exact ovQ rfl (sk 81 (congrArg some e3.1) (sk 85 (congrArg some e7.1) (zai _))) (zbt (zau rfl))
   ·
    intro vf pf hR
    have e8 := hR 8 (by decide)
    exact ovQ rfl (sk 86 (congrArg some e8.1) (zai _)) (zbt (zau rfl))
   ·
    intro vf pf hR
    have e9 := hR 9 (by decide)
    refine Or.inl ⟨zcb (congrArg some e9.1) rfl, ?_⟩
    exact zbo (zar [8] rfl) (zbt (fdQ 2 rfl rfl rfl))
   ·
    intro vf pf hR
    have e9 := hR 9 (by decide)
    have e10 := hR 10 (by decide)
    refine Or.inl ⟨zcb (congrArg some e9.1) rfl, ?_⟩
    exact zbe (sk 88 (congrArg some e10.1) (zai _)) (List.sublist_append_right _ _) (zbt (zac rfl rfl rfl (zaa 0 rfl rfl)))
   ·
    intro vf pf hR
    have e9 := hR 9 (by decide)
    have e11 := hR 11 (by decide)
    refine Or.inl ⟨zcb (congrArg some e9.1) rfl, ?_⟩
    exact zbe (sk 89 (congrArg some e11.1) (zai _)) (List.sublist_append_right _ _) (zbt (lnQ rfl rfl rfl (zaf ((hd.at (k := k) (by omega)).p.at (k := i) (by omega)))))
   ·
    intro vf pf hR
    have e9 := hR 9 (by decide)
    refine Or.inl ⟨zcb (congrArg some e9.1) rfl, ?_⟩
    exact zbo (zar [2] rfl) (zbt (fdQ 0 rfl rfl rfl))
   ·
    intro vf pf hR
    have e9 := hR 9 (by decide)
    have e13 := hR 13 (by decide)
    refine Or.inl ⟨zcb (congrArg some e9.1) rfl, ?_⟩
    exact zbe (sk 91 (congrArg some e13.1) (zai _)) (List.sublist_append_right _ _) (zbt (zac rfl rfl rfl (zaa 1 rfl rfl)))
   ·
    intro vf pf hR
    have e9 := hR 9 (by decide)
    refine Or.inl ⟨zcb (congrArg some e9.1) rfl, ?_⟩
    exact zbo (zar [8] rfl) (zbt (fdQ 0 rfl rfl rfl))
   ·
    intro vf pf hR
    have e9 := hR 9 (by decide)
    have e15 := hR 15 (by decide)
    refine Or.inl ⟨zcb (congrArg some e9.1) rfl, ?_⟩
    exact zbe (sk 93 (congrArg some e15.1) (zai _)) (List.sublist_append_right _ _) (zbt (zac rfl rfl rfl (zaa 0 rfl rfl)))
   ·
    intro vf pf hR
    have e9 := hR 9 (by decide)
    have e14 := hR 14 (by decide)
    have e16 := hR 16 (by decide)
    refine Or.inl ⟨zcb (congrArg some e9.1) rfl, ?_⟩
    exact zbe (sk 92 (congrArg some e14.1) (sk 94 (congrArg some e16.1) (zai _))) (List.sublist_append_right _ _) (zbt (riQ 4 rfl rfl rfl rfl (zaf hd.row)))
   ·
    intro vf pf hR
    have e9 := hR 9 (by decide)
    have e17 := hR 17 (by decide)
    refine Or.inl ⟨zcb (congrArg some e9.1) rfl, ?_⟩
    exact zbe (sk 95 (congrArg some e17.1) (zai _)) (List.sublist_append_right _ _) (zbt (zbb (us := [(D.getD (((((D.getD k md0).xs).getD i ix0).m).toNat) md0).sv, (D.getD (((((D.getD k md0).xs).getD i ix0).m).toNat) md0).av, (D.getD (((((D.getD k md0).xs).getD i ix0).m).toNat) md0).iv, (D.getD (((((D.getD k md0).xs).getD i ix0).m).toNat) md0).mv]) rfl rfl rfl rfl (zaf hd.row) (by omega) rfl (zbr mdC 4 (fun _ => rfl) D md0 (show ((((D.getD k md0).xs).getD i ix0).m).toNat < _ by omega) rfl)))
   ·
    intro vf pf hR
    have e9 := hR 9 (by decide)
    have e18 := hR 18 (by decide)
    refine Or.inl ⟨zcb (congrArg some e9.1) rfl, ?_⟩
    exact zbe (sk 96 (congrArg some e18.1) (zai _)) (List.sublist_append_right _ _) (zaw rfl rfl (fun w hm => zed (D.getD (((((D.getD k md0).xs).getD i ix0).m).toNat) md0) w ((hd.at (by omega)).below hm.bel)))
   ·
    intro vf pf hR
    have e9 := hR 9 (by decide)
    have e19 : (fun v' post => post = [rowE 3 1 v' ((ptsK (D.getD (((((D.getD k md0).xs).getD i ix0).m).toNat) md0))).length (((ptsK (D.getD (((((D.getD k md0).xs).getD i ix0).m).toNat) md0))).map (Value.int .i64))]) (vf 19) (pf 19) := hR 19 (by decide)
    obtain ⟨v24, vE19⟩ : ∃ x, vf 19 = x := ⟨_, rfl⟩
    obtain ⟨p25, pE19⟩ : ∃ x, pf 19 = x := ⟨_, rfl⟩
    have hR26 := e19
    rw [vE19, pE19] at hR26
    subst hR26
    refine Or.inl ⟨zcb (congrArg some e9.1) rfl, ?_⟩
    exact zcm (sk 97 (congrArg some vE19) (zai _)) (by simp only [pE19, vE19, e9.2, fS] <;> rfl) (zbt (lnQ rfl rfl rfl (zaj 0 rfl)))
   ·
    intro vf pf hR
    have e9 := hR 9 (by decide)
    have e12 := hR 12 (by decide)
    have e19 : (fun v' post => post = [rowE 3 1 v' ((ptsK (D.getD (((((D.getD k md0).xs).getD i ix0).m).toNat) md0))).length (((ptsK (D.getD (((((D.getD k md0).xs).getD i ix0).m).toNat) md0))).map (Value.int .i64))]) (vf 19) (pf 19) := hR 19 (by decide)
    obtain ⟨v24, vE19⟩ : ∃ x, vf 19 = x := ⟨_, rfl⟩
    obtain ⟨p25, pE19⟩ : ∃ x, pf 19 = x := ⟨_, rfl⟩
    have hR26 := e19
    rw [vE19, pE19] at hR26
    subst hR26
    have e20 := hR 20 (by decide)
    refine Or.inl ⟨zcb (congrArg some e9.1) rfl, ?_⟩
    exact zcm (sk 90 (congrArg some e12.1) (sk 98 (congrArg some e20.1) (zai _))) (by simp only [pE19, vE19, e9.2, e12.2, e20.2, fS] <;> rfl) (zck (zbt (zcf rfl rfl rfl rfl)) (fun _ _ h => ⟨h.1.trans (congrArg Value.bool hb20), h.2⟩))
   intro vf pf hR
   have e9 := hR 9 (by decide)
   have e21 := hR 21 (by decide)
   exact ovQ rfl (sk 87 (congrArg some e9.1) (sk 99 (congrArg some e21.1) (zai _))) (zbt (zau rfl))
  intro vf pf hR
  have e19 : (fun v' post => post = [rowE 3 1 v' ((ptsK (D.getD (((((D.getD k md0).xs).getD i ix0).m).toNat) md0))).length (((ptsK (D.getD (((((D.getD k md0).xs).getD i ix0).m).toNat) md0))).map (Value.int .i64))]) (vf 19) (pf 19) := hR 19 (by decide)
  obtain ⟨v24, vE19⟩ : ∃ x, vf 19 = x := ⟨_, rfl⟩
  obtain ⟨p25, pE19⟩ : ∃ x, pf 19 = x := ⟨_, rfl⟩
  have hR26 := e19
  rw [vE19, pE19] at hR26
  subst hR26
  have e22 := hR 22 (by decide)
  have q0 := hR 0 (by decide)
  have q1 := hR 1 (by decide)
  have q2 := hR 2 (by decide)
  have q3 := hR 3 (by decide)
  have q4 := hR 4 (by decide)
  have q5 := hR 5 (by decide)
  have q6 := hR 6 (by decide)
  have q7 := hR 7 (by decide)
  have q8 := hR 8 (by decide)
  have q9 := hR 9 (by decide)
  have q10 := hR 10 (by decide)
  have q11 := hR 11 (by decide)
  have q12 := hR 12 (by decide)
  have q13 := hR 13 (by decide)
  have q14 := hR 14 (by decide)
  have q15 := hR 15 (by decide)
  have q16 := hR 16 (by decide)
  have q17 := hR 17 (by decide)
  have q18 := hR 18 (by decide)
  have q20 := hR 20 (by decide)
  have q21 := hR 21 (by decide)
  have q22 := hR 22 (by decide)
  refine zdf (zci [66, 28, 23, 8, 7, 4, 2, 1, 0] _ (sk 100 (congrArg some e22.1) (zai _)) rfl) (by simp only [pE19, vE19, q0.2, q1.2, q2.2, q3.2, q4.2, q5.2, q6.2, q7.2, q8.2, q9.2, q10.2, q11.2, q12.2, q13.2, q14.2, q15.2, q16.2, q17.2, q18.2, q20.2, q21.2, q22.2, fS] <;> rfl) ?_
  simp only [List.drop_succ_cons, List.drop_zero]
  refine ntQ (fsQ rfl (zdh (reQ 1 rfl (hvQ rfl (vaQ rfl rfl rfl) (enQ 1 rfl ?_)))))
  exact zbs (i + 1) ⟨by omega, fun q hq => by by_cases e : q = i; (subst e; exact ⟨⟨by omega, by omega⟩, by omega⟩); exact hins q (by omega)⟩ (by omega) (saQ rfl) (slQ [2] rfl)
 refine ntQ (zap rfl ?_)
 refine zbj (zeb ?_)
 refine zal (zba (zbg 1 rfl ?_))
 exact zao (zav rfl rfl (congrArg _ (zdi ⟨by omega, ⟨by omega, fun q hq => hall q (by omega)⟩, fun q hq => hins q (by omega)⟩).symm))
theorem zfm (D : List Md) (k s : Nat) (v : Value) (w : World) (hd : RdsDs w v D) (hc : CtsP D k) (hs : s < (D.getD k md0).ss.length) :
   Calls Try.prog 151 #[.agg #[v], .int .i64 (k : Int), .int .i64 (s : Int)] w (Ans w (.int .i64 ((drvL D (D.getD k md0)).count (s : Int) : Nat))) := by
 have hd9 := sml hd.row
 obtain ⟨hkl, hcnt, hins⟩ := hc
 obtain ⟨hn1, hn2, hn3, hn4⟩ := hcnt.md k hkl
 have hdl := hcnt.len
 refine zca (N := 124) (args := [.agg #[v], .int .i64 (k : Int), .int .i64 (s : Int)]) Try.func151 rfl rfl (srQ ?_)
 refine zdn rfl (zdm rfl rfl) ?_
 intro b1
 refine zay 1 rfl (zfi (hvQ rfl (zax (cs := [v]) rfl rfl rfl rfl rfl (zat 0 rfl 0 rfl)) (zam 1 rfl ?_)))
 refine zem rfl (zaw rfl rfl (fun w hm => zbf (by have h9 := l04Counts_ans D k v w (hd.below hm.bel); rw [zdi ⟨hkl, hcnt, hins⟩] at h9; exact h9))) (zam 3 rfl ?_)
 refine zbq rfl rfl rfl rfl rfl rfl (fun h2 => absurd h2 (by omega)) (fun h2 => ?_)
 refine zam 3 rfl (hvQ rfl (fdQ 0 rfl rfl rfl) (hvQ rfl (zac rfl rfl rfl (zaa 0 rfl rfl)) (zam 1 rfl (hvQ rfl (riQ 4 rfl rfl rfl rfl (zaf hd.row)) (hvQ rfl (zaq (k0 := 0) rfl rfl rfl (zaf hd.row) (by omega)) ?_)))))
 refine hvQ rfl (zan (u := (D.getD k md0).sv) rfl rfl rfl (zaf hd.row) ((zbd mdC 4 (fun _ => rfl) D md0 (show k < _ by omega) (by decide)).trans rfl)) (hvQ rfl (lnQ rfl rfl rfl (zaf ((hd.at (k := k) (by omega)).s))) ?_)
 refine hl_geq rfl rfl rfl rfl rfl rfl (fun h3 => absurd h3 (by omega)) (fun h3 => ?_)
 refine zay 1 rfl (zap rfl (zcv (srQ (hvQ rfl (fdQ 0 rfl rfl rfl) (hvQ rfl (zac rfl rfl rfl (zaa 0 rfl rfl)) (zam 1 rfl (hvQ rfl (riQ 4 rfl rfl rfl rfl (zaf hd.row)) ?_)))))))
 refine hvQ rfl (zbb (us := [(D.getD k md0).sv, (D.getD k md0).av, (D.getD k md0).iv, (D.getD k md0).mv]) rfl rfl rfl rfl (zaf hd.row) (by omega) rfl (zbr mdC 4 (fun _ => rfl) D md0 (show k < _ by omega) rfl)) (zdn rfl (zbl (z := .agg #[.slice none 0 0, .slice none 0 0, .slice none 0 0, .slice none 0 0]) rfl rfl) ?_)
 intro b4
 refine zbh (cs' := #[(D.getD k md0).sv, (D.getD k md0).av, (D.getD k md0).iv, (D.getD k md0).mv]) (i := 0) (off := 0) (us := [(D.getD k md0).sv, (D.getD k md0).av, (D.getD k md0).iv, (D.getD k md0).mv]) rfl rfl rfl rfl rfl rfl rfl (zab (hd.at (k := k) (by omega)).s.one (zab (hd.at (k := k) (by omega)).g.one (zab (hd.at (k := k) (by omega)).x.one (zab (hd.at (k := k) (by omega)).m.one zbc)))) rfl rfl rfl (ntQ (zbg 1 rfl (zag (zag (reQ 1 rfl (?_))))))
 refine ntQ (zaz ?_)
 refine lkQ2 (α := Nat) (β := Int) [0, 1, 2, 3, 6, 7, 33] rfl (fun i c => [boxE b4 #[(D.getD k md0).sv, (D.getD k md0).av, (D.getD k md0).iv, (D.getD k md0).mv] 35, boxE b1 #[v] 26]) (fun i c => [(8, .int .i64 c), (9, .int .i64 (i : Int))]) (fun i c => i ≤ (D.getD k md0).gs.length ∧ c = ((((D.getD k md0).gs.take i).map As.t).count (s : Int) : Int)) (fun i c => (D.getD k md0).gs.length - i) 0 _ ⟨Nat.zero_le _, by simp⟩ (saQ rfl) (pfQ rfl) ?_
 intro i c hi5
 obtain ⟨hi, hcc⟩ := hi5
 have hcl := cntM_le As.t (D.getD k md0).gs (s : Int) i
 refine zag (zag (reQ 1 rfl (hvQ rfl (fdQ 1 rfl rfl rfl) (hvQ rfl (zac rfl rfl rfl (zaa 0 rfl rfl)) (hvQ rfl (lnQ rfl rfl rfl (zaf ((hd.at (k := k) (by omega)).g))) ?_)))))
 refine zbq rfl rfl rfl rfl rfl rfl (fun h6 => ?_) (fun h6 => ?_)
 ·
  refine ntQ (zah rfl (zcv (sbQ (srQ (hvQ rfl (fdQ 1 rfl rfl rfl) (hvQ rfl (zac rfl rfl rfl (zaa 0 rfl rfl)) (zam 1 rfl (hvQ rfl (riQ 2 rfl rfl rfl rfl (zaf ((hd.at (k := k) (by omega)).g))) ?_))))))))
  refine hvQ rfl (zaq (k0 := 0) rfl rfl rfl (zaf ((hd.at (k := k) (by omega)).g)) (by omega)) (hvQ rfl (zan (u := .int .i64 ((((D.getD k md0).gs).getD i as0).t)) rfl rfl rfl (zaf ((hd.at (k := k) (by omega)).g)) ((zbd asC 2 (fun _ => rfl) ((D.getD k md0).gs) as0 (show i < _ by omega) (by decide)).trans rfl)) ?_)
  refine zam 1 rfl (zbu rfl rfl rfl rfl rfl rfl (fun h7 => ?_) (fun h7 => ?_))
  ·
   refine ntQ (zah rfl (reQ 1 rfl (hvQ rfl (vaQ rfl rfl rfl) (enQ 1 rfl (zdh (reQ 1 rfl ?_))))))
   refine hvQ rfl (vaQ rfl rfl rfl) (enQ 1 rfl ?_)
   exact zdd (i + 1) (c + 1) ⟨by omega, by rw [cntM_yes as0 (by omega) (by assumption)]; omega⟩ (by omega) (saQ rfl) (pfQ rfl)
  refine ntQ (fsQ rfl (zdh (reQ 1 rfl (hvQ rfl (vaQ rfl rfl rfl) (enQ 1 rfl ?_)))))
  exact zdd (i + 1) c ⟨by omega, by rw [cntM_no as0 (by omega) (by assumption)]; omega⟩ (by omega) (saQ rfl) (pfQ rfl)
 refine ntQ (zap rfl ?_)
 refine zbj (zeb ?_)
 refine zal (zba (zag (zbg 1 rfl (zaz ?_))))
 refine lkQ2 (α := Nat) (β := Int) [0, 1, 2, 3, 6, 7, 33, 43] rfl (fun i c => [boxE b4 #[(D.getD k md0).sv, (D.getD k md0).av, (D.getD k md0).iv, (D.getD k md0).mv] 35, boxE b1 #[v] 26]) (fun i c => [(8, .int .i64 c), (10, .int .i64 (i : Int))]) (fun i c => i ≤ (D.getD k md0).ms.length ∧ c = (((D.getD k md0).gs.map As.t).count (s : Int) : Int) + ((((D.getD k md0).ms.take i).map Mm.o).count (s : Int) : Int)) (fun i c => (D.getD k md0).ms.length - i) 0 _ ⟨Nat.zero_le _, by rw [hcc, show i = (D.getD k md0).gs.length by omega, List.take_length]; simp⟩ (saQ rfl) (pfQ rfl) ?_
 intro i c hi8
 obtain ⟨hi, hcc⟩ := hi8
 have hcl := cntM_le Mm.o (D.getD k md0).ms (s : Int) i
 have hal := cntM_le As.t (D.getD k md0).gs (s : Int) (D.getD k md0).gs.length
 rw [List.take_length] at hal
 refine zag (zag (reQ 1 rfl (hvQ rfl (fdQ 3 rfl rfl rfl) (hvQ rfl (zac rfl rfl rfl (zaa 0 rfl rfl)) (hvQ rfl (lnQ rfl rfl rfl (zaf ((hd.at (k := k) (by omega)).m))) ?_)))))
 refine zbq rfl rfl rfl rfl rfl rfl (fun h9 => ?_) (fun h9 => ?_)
 ·
  refine ntQ (zah rfl (zcv (sbQ (srQ (hvQ rfl (fdQ 3 rfl rfl rfl) (hvQ rfl (zac rfl rfl rfl (zaa 0 rfl rfl)) (zam 1 rfl (hvQ rfl (riQ 4 rfl rfl rfl rfl (zaf ((hd.at (k := k) (by omega)).m))) ?_))))))))
  refine hvQ rfl (zaq (k0 := 3) rfl rfl rfl (zaf ((hd.at (k := k) (by omega)).m)) (by omega)) (hvQ rfl (zan (u := .int .i64 ((((D.getD k md0).ms).getD i mm0).o)) rfl rfl rfl (zaf ((hd.at (k := k) (by omega)).m)) ((zbd mmC 4 (fun _ => rfl) ((D.getD k md0).ms) mm0 (show i < _ by omega) (by decide)).trans rfl)) ?_)
  refine zam 1 rfl (zbu rfl rfl rfl rfl rfl rfl (fun h10 => ?_) (fun h10 => ?_))
  ·
   refine ntQ (zah rfl (reQ 1 rfl (hvQ rfl (vaQ rfl rfl rfl) (enQ 1 rfl (zdh (reQ 1 rfl ?_))))))
   refine hvQ rfl (vaQ rfl rfl rfl) (enQ 1 rfl ?_)
   exact zdd (i + 1) (c + 1) ⟨by omega, by rw [cntM_yes mm0 (by omega) (by assumption)]; omega⟩ (by omega) (saQ rfl) (pfQ rfl)
  refine ntQ (fsQ rfl (zdh (reQ 1 rfl (hvQ rfl (vaQ rfl rfl rfl) (enQ 1 rfl ?_)))))
  exact zdd (i + 1) c ⟨by omega, by rw [cntM_no mm0 (by omega) (by assumption)]; omega⟩ (by omega) (saQ rfl) (pfQ rfl)
 refine ntQ (zap rfl ?_)
 refine zbj (zeb ?_)
 refine zal (zba (zag (zbg 1 rfl (zaz ?_))))
 refine lkQ2 (α := Nat) (β := Int) [0, 1, 2, 3, 6, 7, 33, 43, 60] rfl (fun i c => [boxE b4 #[(D.getD k md0).sv, (D.getD k md0).av, (D.getD k md0).iv, (D.getD k md0).mv] 35, boxE b1 #[v] 26]) (fun i c => [(8, .int .i64 c), (11, .int .i64 (i : Int))]) (fun i c => i ≤ (D.getD k md0).xs.length ∧ c = (((D.getD k md0).gs.map As.t).count (s : Int) : Int) + (((D.getD k md0).ms.map Mm.o).count (s : Int) : Int) + ((((D.getD k md0).xs.take i).flatMap (xoK D)).count (s : Int) : Int)) (fun i c => (D.getD k md0).xs.length - i) 0 _ ⟨Nat.zero_le _, by rw [hcc, show i = (D.getD k md0).ms.length by omega, List.take_length]; simp⟩ (saQ rfl) (pfQ rfl) ?_
 intro i c hi11
 obtain ⟨hi, hcc⟩ := hi11
 have hcl := cntX_le (D := D) (L := (D.getD k md0).xs) (s : Int) i hi
 have hal := cntM_le As.t (D.getD k md0).gs (s : Int) (D.getD k md0).gs.length
 rw [List.take_length] at hal
 have hml := cntM_le Mm.o (D.getD k md0).ms (s : Int) (D.getD k md0).ms.length
 rw [List.take_length] at hml
 refine zag (zag (reQ 1 rfl (hvQ rfl (fdQ 2 rfl rfl rfl) (hvQ rfl (zac rfl rfl rfl (zaa 0 rfl rfl)) (hvQ rfl (lnQ rfl rfl rfl (zaf ((hd.at (k := k) (by omega)).x))) ?_)))))
 refine zbq rfl rfl rfl rfl rfl rfl (fun h12 => ?_) (fun h12 => ?_)
 ·
  refine ntQ (zah rfl (zcv (sbQ (zag ?_))))
  obtain ⟨⟨hm0, hm1⟩, hpe⟩ := hins i (by omega)
  refine hc_draw rfl 11 [0, 1, 2, 3, 4, 5, 6, 7, 8, 9, 10] (List.take 11 _) (List.drop 11 _) [[], [0], [], [2], [], [3, 4], [5], [6], [1, 7], [8], []] [80, 81, 82, 83, 84, 85, 86, 87, 88, 89, 12] (fun i_ vs_ v_ p_ => match i_ with | 0 => v_ = .pointer (some ⟨b1, 0 + 0, none⟩) ∧ p_ = [] | 1 => v_ = v ∧ p_ = [] | 2 => v_ = .pointer (some ⟨b4, 0 + 2, none⟩) ∧ p_ = [] | 3 => v_ = (D.getD k md0).iv ∧ p_ = [] | 4 => v_ = .int .i64 (i : Int) ∧ p_ = [] | 5 => v_ = elP ((D.getD k md0).iv) (((i : Int)).toNat * 3) ∧ p_ = [] | 6 => v_ = elP ((D.getD k md0).iv) (((i : Int)).toNat * 3 + 0) ∧ p_ = [] | 7 => v_ = .int .i64 ((((D.getD k md0).xs).getD i ix0).m) ∧ p_ = [] | 8 => v_ = elP v (((((D.getD k md0).xs).getD i ix0).m).toNat * 4) ∧ p_ = [] | 9 => v_ = .agg #[(D.getD (((((D.getD k md0).xs).getD i ix0).m).toNat) md0).sv, (D.getD (((((D.getD k md0).xs).getD i ix0).m).toNat) md0).av, (D.getD (((((D.getD k md0).xs).getD i ix0).m).toNat) md0).iv, (D.getD (((((D.getD k md0).xs).getD i ix0).m).toNat) md0).mv] ∧ p_ = [] | 10 => IsBox #[.slice none 0 0, .slice none 0 0, .slice none 0 0, .slice none 0 0] 35 v_ p_ | _ => True) (List.take_append_drop 11 _).symm (by kernel_rfl) (by kernel_rfl) rfl rfl ?_ ?_
  ·
   refine ⟨?_, ?_, ?_, ?_, ?_, ?_, ?_, ?_, ?_, ?_, ?_, trivial⟩
   ·
    intro vf pf hR
    exact ovQ rfl (zar [3] rfl) (zbt (fdQ 0 rfl rfl rfl))
   ·
    intro vf pf hR
    have e0 := hR 0 (by decide)
    exact olQ rfl (sk 80 (congrArg some e0.1) (zai _)) (zbt (zac rfl rfl rfl (zaa 1 rfl rfl)))
   ·
    intro vf pf hR
    exact ovQ rfl (zar [7] rfl) (zbt (fdQ 2 rfl rfl rfl))
   ·
    intro vf pf hR
    have e2 := hR 2 (by decide)
    exact olQ rfl (sk 82 (congrArg some e2.1) (zai _)) (zbt (zac rfl rfl rfl (zaa 0 rfl rfl)))
   ·
    intro vf pf hR
    exact ovQ rfl (zar [11] rfl) (zbt (zau rfl))
   ·
    intro vf pf hR
    have e3 := hR 3 (by decide)
    have e4 := hR 4 (by decide)
    exact olQ rfl (sk 83 (congrArg some e3.1) (sk 84 (congrArg some e4.1) (zai _))) (zbt (riQ 3 rfl rfl rfl rfl (zaf ((hd.at (k := k) (by omega)).x))))
   ·
    intro vf pf hR
    have e5 := hR 5 (by decide)
    exact olQ rfl (sk 85 (congrArg some e5.1) (zai _)) (zbt (zaq (k0 := 0) rfl rfl rfl (zaf ((hd.at (k := k) (by omega)).x)) (by omega)))
   ·
    intro vf pf hR
    have e6 := hR 6 (by decide)
    exact olQ rfl (sk 86 (congrArg some e6.1) (zai _)) (zbt (zan (u := .int .i64 ((((D.getD k md0).xs).getD i ix0).m)) rfl rfl rfl (zaf ((hd.at (k := k) (by omega)).x)) ((zbd ixC 3 (fun _ => rfl) ((D.getD k md0).xs) ix0 (show i < _ by omega) (by decide)).trans rfl)))
   ·
    intro vf pf hR
    have e1 := hR 1 (by decide)
    have e7 := hR 7 (by decide)
    exact olQ rfl (sk 81 (congrArg some e1.1) (sk 87 (congrArg some e7.1) (zai _))) (zbt (riQ 4 rfl rfl rfl rfl (zaf hd.row)))
   ·
    intro vf pf hR
    have e8 := hR 8 (by decide)
    exact olQ rfl (sk 88 (congrArg some e8.1) (zai _)) (zbt (zbb (us := [(D.getD (((((D.getD k md0).xs).getD i ix0).m).toNat) md0).sv, (D.getD (((((D.getD k md0).xs).getD i ix0).m).toNat) md0).av, (D.getD (((((D.getD k md0).xs).getD i ix0).m).toNat) md0).iv, (D.getD (((((D.getD k md0).xs).getD i ix0).m).toNat) md0).mv]) rfl rfl rfl rfl (zaf hd.row) (by omega) rfl (zbr mdC 4 (fun _ => rfl) D md0 (show ((((D.getD k md0).xs).getD i ix0).m).toNat < _ by omega) rfl)))
   intro vf pf hR
   exact olQ rfl (zai _) (zbl (z := .agg #[.slice none 0 0, .slice none 0 0, .slice none 0 0, .slice none 0 0]) rfl rfl)
  intro vf pf hR
  have e9 := hR 9 (by decide)
  have e10 : IsBox #[.slice none 0 0, .slice none 0 0, .slice none 0 0, .slice none 0 0] 35 (vf 10) (pf 10) := hR 10 (by decide)
  obtain ⟨b13, vE10, pE10⟩ := e10
  have q0 := hR 0 (by decide)
  have q1 := hR 1 (by decide)
  have q2 := hR 2 (by decide)
  have q3 := hR 3 (by decide)
  have q4 := hR 4 (by decide)
  have q5 := hR 5 (by decide)
  have q6 := hR 6 (by decide)
  have q7 := hR 7 (by decide)
  have q8 := hR 8 (by decide)
  have q9 := hR 9 (by decide)
  refine zdf (zci [11, 8, 7, 6, 3, 2, 1, 0] _ (sk 12 (congrArg some vE10) (zci [77, 60, 43, 33] _ (sk 89 (congrArg some e9.1) (zai _)) rfl)) rfl) (by simp only [pE10, vE10, q0.2, q1.2, q2.2, q3.2, q4.2, q5.2, q6.2, q7.2, q8.2, q9.2, fS] <;> rfl) ?_
  simp only [List.drop_succ_cons, List.drop_zero]
  refine zbh (cs' := #[(D.getD (((((D.getD k md0).xs).getD i ix0).m).toNat) md0).sv, (D.getD (((((D.getD k md0).xs).getD i ix0).m).toNat) md0).av, (D.getD (((((D.getD k md0).xs).getD i ix0).m).toNat) md0).iv, (D.getD (((((D.getD k md0).xs).getD i ix0).m).toNat) md0).mv]) (i := 0) (off := 0) (us := [(D.getD (((((D.getD k md0).xs).getD i ix0).m).toNat) md0).sv, (D.getD (((((D.getD k md0).xs).getD i ix0).m).toNat) md0).av, (D.getD (((((D.getD k md0).xs).getD i ix0).m).toNat) md0).iv, (D.getD (((((D.getD k md0).xs).getD i ix0).m).toNat) md0).mv]) rfl rfl rfl rfl rfl rfl rfl (zab (hd.at (k := ((((D.getD k md0).xs).getD i ix0).m).toNat) (by omega)).s.one (zab (hd.at (k := ((((D.getD k md0).xs).getD i ix0).m).toNat) (by omega)).g.one (zab (hd.at (k := ((((D.getD k md0).xs).getD i ix0).m).toNat) (by omega)).x.one (zab (hd.at (k := ((((D.getD k md0).xs).getD i ix0).m).toNat) (by omega)).m.one zbc)))) rfl rfl rfl ?_
  refine ntQ (srQ (hvQ rfl (zax (cs := [(D.getD (((((D.getD k md0).xs).getD i ix0).m).toNat) md0).sv, (D.getD (((((D.getD k md0).xs).getD i ix0).m).toNat) md0).av, (D.getD (((((D.getD k md0).xs).getD i ix0).m).toNat) md0).iv, (D.getD (((((D.getD k md0).xs).getD i ix0).m).toNat) md0).mv]) rfl rfl rfl rfl rfl (zat 0 rfl 0 rfl)) ?_))
  refine hl_q rfl rfl rfl (zaw rfl rfl (fun w hm => zed (D.getD (((((D.getD k md0).xs).getD i ix0).m).toNat) md0) w ((hd.at (by omega)).below hm.bel))) ?_
  intro v14 p15 hR16
  subst hR16
  refine zay 1 rfl (zbg 1 rfl (zaz ?_))
  refine lkQ2 (α := Nat) (β := Int) [0, 1, 2, 3, 6, 7, 11, 12, 13, 33, 43, 60, 77] rfl (fun j y => [rowE 3 1 v14 ((ptsK (D.getD (((((D.getD k md0).xs).getD i ix0).m).toNat) md0)).length) ((ptsK (D.getD (((((D.getD k md0).xs).getD i ix0).m).toNat) md0)).map (Value.int .i64)), boxE b13 #[(D.getD (((((D.getD k md0).xs).getD i ix0).m).toNat) md0).sv, (D.getD (((((D.getD k md0).xs).getD i ix0).m).toNat) md0).av, (D.getD (((((D.getD k md0).xs).getD i ix0).m).toNat) md0).iv, (D.getD (((((D.getD k md0).xs).getD i ix0).m).toNat) md0).mv] 35, boxE b4 #[(D.getD k md0).sv, (D.getD k md0).av, (D.getD k md0).iv, (D.getD k md0).mv] 35, boxE b1 #[v] 26]) (fun j y => [(8, .int .i64 y), (14, .int .i64 (j : Int))]) (fun j y => j ≤ (ptsK (D.getD (((((D.getD k md0).xs).getD i ix0).m).toNat) md0)).length ∧ y = c + ((xoA D ((D.getD k md0).xs.getD i ix0) j).count (s : Int) : Int)) (fun j y => (ptsK (D.getD (((((D.getD k md0).xs).getD i ix0).m).toNat) md0)).length - j) 0 c ⟨Nat.zero_le _, by simp [xoA]⟩ (saQ rfl) (pfQ rfl) ?_
  intro j y hi17
  obtain ⟨hj, hcj⟩ := hi17
  have hpl := zfx (D.getD (((((D.getD k md0).xs).getD i ix0).m).toNat) md0)
  have hxl9 := List.count_le_length (a := (s : Int)) (l := xoA D ((D.getD k md0).xs.getD i ix0) j)
  have hxl8 := xoA_le D ((D.getD k md0).xs.getD i ix0) j
  refine zag (zag (reQ 2 rfl (hvQ rfl (lnQ rfl rfl rfl (zaj 0 rfl)) ?_)))
  refine zbq rfl rfl rfl rfl rfl rfl (fun h18 => ?_) (fun h18 => ?_)
  ·
   refine ntQ (zah rfl (zcv (sbQ (zag ?_))))
   have hpt := zdu (m := (D.getD (((((D.getD k md0).xs).getD i ix0).m).toNat) md0)) (j := j) (by omega)
   have hkd := zcp hpt
   rcases Bool.eq_false_or_eq_true (((((D.getD (((((D.getD k md0).xs).getD i ix0).m).toNat) md0).ss).getD (((ptsK (D.getD (((((D.getD k md0).xs).getD i ix0).m).toNat) md0)).getD j 0).toNat) sg0).k) == 1) with hb19 | hb19
   ·
    have hb19p : (((D.getD (((((D.getD k md0).xs).getD i ix0).m).toNat) md0).ss).getD (((ptsK (D.getD (((((D.getD k md0).xs).getD i ix0).m).toNat) md0)).getD j 0).toNat) sg0).k = 1 := beq_iff_eq.1 hb19
    have hpt := zdu (m := (D.getD (((((D.getD k md0).xs).getD i ix0).m).toNat) md0)) (j := j) (by omega)
    have hkd := zcp hpt
    rcases Bool.eq_false_or_eq_true ((((((D.getD k md0).xs).getD i ix0).ps).getD j 0) == (s : Int)) with hb20 | hb20
    ·
     have hb20p : ((((D.getD k md0).xs).getD i ix0).ps).getD j 0 = (s : Int) := beq_iff_eq.1 hb20
     have hpt := zdu (m := (D.getD (((((D.getD k md0).xs).getD i ix0).m).toNat) md0)) (j := j) (by omega)
     have hkd := zcp hpt
     refine zbz 23 [[], [0], [], [], [2, 3], [4], [1, 5], [6], [7], [8], [9], [10], [10, 11], [10], [10, 12, 13], [10, 14], [10, 15], [10], [10, 16, 17], [10, 18], [10], [10, 19, 20], [10, 21]] [98, 99, 100, 101, 102, 103, 104, 105, 106, 107, 108, 109, 110, 111, 112, 113, 114, 115, 116, 117, 118, 119, 120] [.pointer (some ⟨b13, 0 + 0, none⟩), (D.getD (((((D.getD k md0).xs).getD i ix0).m).toNat) md0).sv, v14, .int .i64 (j : Int), elP v14 (((j : Int)).toNat * 1), .int .i64 ((ptsK (D.getD (((((D.getD k md0).xs).getD i ix0).m).toNat) md0)).getD j 0), elP ((D.getD (((((D.getD k md0).xs).getD i ix0).m).toNat) md0).sv) (((ptsK (D.getD (((((D.getD k md0).xs).getD i ix0).m).toNat) md0)).getD j 0).toNat * 3), elP ((D.getD (((((D.getD k md0).xs).getD i ix0).m).toNat) md0).sv) (((ptsK (D.getD (((((D.getD k md0).xs).getD i ix0).m).toNat) md0)).getD j 0).toNat * 3 + 0), .int .i64 ((((D.getD (((((D.getD k md0).xs).getD i ix0).m).toNat) md0).ss).getD (((ptsK (D.getD (((((D.getD k md0).xs).getD i ix0).m).toNat) md0)).getD j 0).toNat) sg0).k), .bool true, .bool true, .pointer (some ⟨b4, 0 + 2, none⟩), (D.getD k md0).iv, .int .i64 (i : Int), elP ((D.getD k md0).iv) (((i : Int)).toNat * 3), elP ((D.getD k md0).iv) (((i : Int)).toNat * 3 + 2), (((D.getD k md0).xs).getD i ix0).pv, .int .i64 (j : Int), elP ((((D.getD k md0).xs).getD i ix0).pv) (((j : Int)).toNat * 1), .int .i64 (((((D.getD k md0).xs).getD i ix0).ps).getD j 0), .int .i64 (s : Int), .bool true, .bool true] (by kernel_rfl) rfl ?_ ?_
     ·
      exact ⟨iaQ rfl (fdQ 0 rfl rfl rfl) rfl, iaQ rfl (zac rfl rfl rfl (zaa 1 rfl rfl)) rfl, iaQ rfl (zau rfl) rfl, iaQ rfl (zau rfl) rfl, iaQ rfl (riQ 1 rfl rfl rfl rfl (zaj 0 rfl)) rfl, iaQ rfl (zan (u := .int .i64 ((ptsK (D.getD (((((D.getD k md0).xs).getD i ix0).m).toNat) md0)).getD j 0)) rfl rfl rfl (zaj 0 rfl) (zcn (show _ < (ptsK (D.getD (((((D.getD k md0).xs).getD i ix0).m).toNat) md0)).length by omega))) rfl, iaQ rfl (riQ 3 rfl rfl rfl rfl (zaf ((hd.at (k := ((((D.getD k md0).xs).getD i ix0).m).toNat) (by omega)).s))) rfl, iaQ rfl (zaq (k0 := 0) rfl rfl rfl (zaf ((hd.at (k := ((((D.getD k md0).xs).getD i ix0).m).toNat) (by omega)).s)) (by omega)) rfl, iaQ rfl (zan (u := .int .i64 ((((D.getD (((((D.getD k md0).xs).getD i ix0).m).toNat) md0).ss).getD (((ptsK (D.getD (((((D.getD k md0).xs).getD i ix0).m).toNat) md0)).getD j 0).toNat) sg0).k)) rfl rfl rfl (zaf ((hd.at (k := ((((D.getD k md0).xs).getD i ix0).m).toNat) (by omega)).s)) ((zbd sgC 3 (fun _ => rfl) ((D.getD (((((D.getD k md0).xs).getD i ix0).m).toNat) md0).ss) sg0 (show ((ptsK (D.getD (((((D.getD k md0).xs).getD i ix0).m).toNat) md0)).getD j 0).toNat < _ by omega) (by decide)).trans rfl)) rfl, .inl ⟨rfl, zdl (zcf rfl rfl rfl rfl) hb19⟩, iaQ rfl (zau rfl) rfl, iaQ rfl (fdQ 2 rfl rfl rfl) rfl, iaQ rfl (zac rfl rfl rfl (zaa 2 rfl rfl)) rfl, iaQ rfl (zau rfl) rfl, iaQ rfl (riQ 3 rfl rfl rfl rfl (zaf ((hd.at (k := k) (by omega)).x))) rfl, iaQ rfl (zaq (k0 := 2) rfl rfl rfl (zaf ((hd.at (k := k) (by omega)).x)) (by omega)) rfl, iaQ rfl (zan (u := (((D.getD k md0).xs).getD i ix0).pv) rfl rfl rfl (zaf ((hd.at (k := k) (by omega)).x)) ((zbd ixC 3 (fun _ => rfl) ((D.getD k md0).xs) ix0 (show i < _ by omega) (by decide)).trans rfl)) rfl, iaQ rfl (zau rfl) rfl, iaQ rfl (riQ 1 rfl rfl rfl rfl (zaf ((hd.at (k := k) (by omega)).p.at (k := i) (by omega)))) rfl, iaQ rfl (zan (u := .int .i64 (((((D.getD k md0).xs).getD i ix0).ps).getD j 0)) rfl rfl rfl (zaf ((hd.at (k := k) (by omega)).p.at (k := i) (by omega))) (zcn (show _ < ((((D.getD k md0).xs).getD i ix0).ps).length by omega))) rfl, iaQ rfl (zau rfl) rfl, .inl ⟨rfl, zdl (zcf rfl rfl rfl rfl) hb20⟩, iaQ rfl (zau rfl) rfl, trivial⟩
     simp only [List.drop_succ_cons, List.drop_zero]
     refine ntQ (zah rfl (reQ 1 rfl (hvQ rfl (vaQ rfl rfl rfl) (enQ 1 rfl (zdh (reQ 1 rfl ?_))))))
     refine hvQ rfl (vaQ rfl rfl rfl) (enQ 1 rfl ?_)
     exact zdd (j + 1) (y + 1) ⟨by omega, by rw [xoA_yes (by omega), cnt_yes (by assumption)]; omega⟩ (by omega) (saQ rfl) (pfQ rfl)
    have hb20p : ((((D.getD k md0).xs).getD i ix0).ps).getD j 0 ≠ (s : Int) := beq_eq_false_iff_ne.1 hb20
    have hpt := zdu (m := (D.getD (((((D.getD k md0).xs).getD i ix0).m).toNat) md0)) (j := j) (by omega)
    have hkd := zcp hpt
    refine zbz 23 [[], [0], [], [], [2, 3], [4], [1, 5], [6], [7], [8], [9], [10], [10, 11], [10], [10, 12, 13], [10, 14], [10, 15], [10], [10, 16, 17], [10, 18], [10], [10, 19, 20], [10, 21]] [98, 99, 100, 101, 102, 103, 104, 105, 106, 107, 108, 109, 110, 111, 112, 113, 114, 115, 116, 117, 118, 119, 120] [.pointer (some ⟨b13, 0 + 0, none⟩), (D.getD (((((D.getD k md0).xs).getD i ix0).m).toNat) md0).sv, v14, .int .i64 (j : Int), elP v14 (((j : Int)).toNat * 1), .int .i64 ((ptsK (D.getD (((((D.getD k md0).xs).getD i ix0).m).toNat) md0)).getD j 0), elP ((D.getD (((((D.getD k md0).xs).getD i ix0).m).toNat) md0).sv) (((ptsK (D.getD (((((D.getD k md0).xs).getD i ix0).m).toNat) md0)).getD j 0).toNat * 3), elP ((D.getD (((((D.getD k md0).xs).getD i ix0).m).toNat) md0).sv) (((ptsK (D.getD (((((D.getD k md0).xs).getD i ix0).m).toNat) md0)).getD j 0).toNat * 3 + 0), .int .i64 ((((D.getD (((((D.getD k md0).xs).getD i ix0).m).toNat) md0).ss).getD (((ptsK (D.getD (((((D.getD k md0).xs).getD i ix0).m).toNat) md0)).getD j 0).toNat) sg0).k), .bool true, .bool true, .pointer (some ⟨b4, 0 + 2, none⟩), (D.getD k md0).iv, .int .i64 (i : Int), elP ((D.getD k md0).iv) (((i : Int)).toNat * 3), elP ((D.getD k md0).iv) (((i : Int)).toNat * 3 + 2), (((D.getD k md0).xs).getD i ix0).pv, .int .i64 (j : Int), elP ((((D.getD k md0).xs).getD i ix0).pv) (((j : Int)).toNat * 1), .int .i64 (((((D.getD k md0).xs).getD i ix0).ps).getD j 0), .int .i64 (s : Int), .bool false, .bool false] (by kernel_rfl) rfl ?_ ?_
    ·
     exact ⟨iaQ rfl (fdQ 0 rfl rfl rfl) rfl, iaQ rfl (zac rfl rfl rfl (zaa 1 rfl rfl)) rfl, iaQ rfl (zau rfl) rfl, iaQ rfl (zau rfl) rfl, iaQ rfl (riQ 1 rfl rfl rfl rfl (zaj 0 rfl)) rfl, iaQ rfl (zan (u := .int .i64 ((ptsK (D.getD (((((D.getD k md0).xs).getD i ix0).m).toNat) md0)).getD j 0)) rfl rfl rfl (zaj 0 rfl) (zcn (show _ < (ptsK (D.getD (((((D.getD k md0).xs).getD i ix0).m).toNat) md0)).length by omega))) rfl, iaQ rfl (riQ 3 rfl rfl rfl rfl (zaf ((hd.at (k := ((((D.getD k md0).xs).getD i ix0).m).toNat) (by omega)).s))) rfl, iaQ rfl (zaq (k0 := 0) rfl rfl rfl (zaf ((hd.at (k := ((((D.getD k md0).xs).getD i ix0).m).toNat) (by omega)).s)) (by omega)) rfl, iaQ rfl (zan (u := .int .i64 ((((D.getD (((((D.getD k md0).xs).getD i ix0).m).toNat) md0).ss).getD (((ptsK (D.getD (((((D.getD k md0).xs).getD i ix0).m).toNat) md0)).getD j 0).toNat) sg0).k)) rfl rfl rfl (zaf ((hd.at (k := ((((D.getD k md0).xs).getD i ix0).m).toNat) (by omega)).s)) ((zbd sgC 3 (fun _ => rfl) ((D.getD (((((D.getD k md0).xs).getD i ix0).m).toNat) md0).ss) sg0 (show ((ptsK (D.getD (((((D.getD k md0).xs).getD i ix0).m).toNat) md0)).getD j 0).toNat < _ by omega) (by decide)).trans rfl)) rfl, .inl ⟨rfl, zdl (zcf rfl rfl rfl rfl) hb19⟩, iaQ rfl (zau rfl) rfl, iaQ rfl (fdQ 2 rfl rfl rfl) rfl, iaQ rfl (zac rfl rfl rfl (zaa 2 rfl rfl)) rfl, iaQ rfl (zau rfl) rfl, iaQ rfl (riQ 3 rfl rfl rfl rfl (zaf ((hd.at (k := k) (by omega)).x))) rfl, iaQ rfl (zaq (k0 := 2) rfl rfl rfl (zaf ((hd.at (k := k) (by omega)).x)) (by omega)) rfl, iaQ rfl (zan (u := (((D.getD k md0).xs).getD i ix0).pv) rfl rfl rfl (zaf ((hd.at (k := k) (by omega)).x)) ((zbd ixC 3 (fun _ => rfl) ((D.getD k md0).xs) ix0 (show i < _ by omega) (by decide)).trans rfl)) rfl, iaQ rfl (zau rfl) rfl, iaQ rfl (riQ 1 rfl rfl rfl rfl (zaf ((hd.at (k := k) (by omega)).p.at (k := i) (by omega)))) rfl, iaQ rfl (zan (u := .int .i64 (((((D.getD k md0).xs).getD i ix0).ps).getD j 0)) rfl rfl rfl (zaf ((hd.at (k := k) (by omega)).p.at (k := i) (by omega))) (zcn (show _ < ((((D.getD k md0).xs).getD i ix0).ps).length by omega))) rfl, iaQ rfl (zau rfl) rfl, .inl ⟨rfl, zdl (zcf rfl rfl rfl rfl) hb20⟩, iaQ rfl (zau rfl) rfl, trivial⟩
    simp only [List.drop_succ_cons, List.drop_zero]
    refine ntQ (fsQ rfl (zdh (reQ 1 rfl (hvQ rfl (vaQ rfl rfl rfl) (enQ 1 rfl ?_)))))
    exact zdd (j + 1) y ⟨by omega, by first | (rw [xoA_yes (by omega), cnt_no (by assumption)]; omega) | (rw [xoA_no (by omega)]; omega)⟩ (by omega) (saQ rfl) (pfQ rfl)
   have hb19p : (((D.getD (((((D.getD k md0).xs).getD i ix0).m).toNat) md0).ss).getD (((ptsK (D.getD (((((D.getD k md0).xs).getD i ix0).m).toNat) md0)).getD j 0).toNat) sg0).k ≠ 1 := beq_eq_false_iff_ne.1 hb19
   have hpt := zdu (m := (D.getD (((((D.getD k md0).xs).getD i ix0).m).toNat) md0)) (j := j) (by omega)
   have hkd := zcp hpt
   refine zbz 23 [[], [0], [], [], [2, 3], [4], [1, 5], [6], [7], [8], [9], [10], [10], [10], [10], [10], [10], [10], [10], [10], [10], [10], [10, 21]] [98, 99, 100, 101, 102, 103, 104, 105, 106, 107, 108, 109, 110, 111, 112, 113, 114, 115, 116, 117, 118, 119, 120] [.pointer (some ⟨b13, 0 + 0, none⟩), (D.getD (((((D.getD k md0).xs).getD i ix0).m).toNat) md0).sv, v14, .int .i64 (j : Int), elP v14 (((j : Int)).toNat * 1), .int .i64 ((ptsK (D.getD (((((D.getD k md0).xs).getD i ix0).m).toNat) md0)).getD j 0), elP ((D.getD (((((D.getD k md0).xs).getD i ix0).m).toNat) md0).sv) (((ptsK (D.getD (((((D.getD k md0).xs).getD i ix0).m).toNat) md0)).getD j 0).toNat * 3), elP ((D.getD (((((D.getD k md0).xs).getD i ix0).m).toNat) md0).sv) (((ptsK (D.getD (((((D.getD k md0).xs).getD i ix0).m).toNat) md0)).getD j 0).toNat * 3 + 0), .int .i64 ((((D.getD (((((D.getD k md0).xs).getD i ix0).m).toNat) md0).ss).getD (((ptsK (D.getD (((((D.getD k md0).xs).getD i ix0).m).toNat) md0)).getD j 0).toNat) sg0).k), .bool false, .bool false, undef, undef, undef, undef, undef, undef, undef, undef, undef, undef, undef, .bool false] (by kernel_rfl) rfl ?_ ?_
   ·
    exact ⟨iaQ rfl (fdQ 0 rfl rfl rfl) rfl, iaQ rfl (zac rfl rfl rfl (zaa 1 rfl rfl)) rfl, iaQ rfl (zau rfl) rfl, iaQ rfl (zau rfl) rfl, iaQ rfl (riQ 1 rfl rfl rfl rfl (zaj 0 rfl)) rfl, iaQ rfl (zan (u := .int .i64 ((ptsK (D.getD (((((D.getD k md0).xs).getD i ix0).m).toNat) md0)).getD j 0)) rfl rfl rfl (zaj 0 rfl) (zcn (show _ < (ptsK (D.getD (((((D.getD k md0).xs).getD i ix0).m).toNat) md0)).length by omega))) rfl, iaQ rfl (riQ 3 rfl rfl rfl rfl (zaf ((hd.at (k := ((((D.getD k md0).xs).getD i ix0).m).toNat) (by omega)).s))) rfl, iaQ rfl (zaq (k0 := 0) rfl rfl rfl (zaf ((hd.at (k := ((((D.getD k md0).xs).getD i ix0).m).toNat) (by omega)).s)) (by omega)) rfl, iaQ rfl (zan (u := .int .i64 ((((D.getD (((((D.getD k md0).xs).getD i ix0).m).toNat) md0).ss).getD (((ptsK (D.getD (((((D.getD k md0).xs).getD i ix0).m).toNat) md0)).getD j 0).toNat) sg0).k)) rfl rfl rfl (zaf ((hd.at (k := ((((D.getD k md0).xs).getD i ix0).m).toNat) (by omega)).s)) ((zbd sgC 3 (fun _ => rfl) ((D.getD (((((D.getD k md0).xs).getD i ix0).m).toNat) md0).ss) sg0 (show ((ptsK (D.getD (((((D.getD k md0).xs).getD i ix0).m).toNat) md0)).getD j 0).toNat < _ by omega) (by decide)).trans rfl)) rfl, .inl ⟨rfl, zdl (zcf rfl rfl rfl rfl) hb19⟩, iaQ rfl (zau rfl) rfl, .inr ⟨rfl, rfl⟩, .inr ⟨rfl, rfl⟩, .inr ⟨rfl, rfl⟩, .inr ⟨rfl, rfl⟩, .inr ⟨rfl, rfl⟩, .inr ⟨rfl, rfl⟩, .inr ⟨rfl, rfl⟩, .inr ⟨rfl, rfl⟩, .inr ⟨rfl, rfl⟩, .inr ⟨rfl, rfl⟩, .inr ⟨rfl, rfl⟩, iaQ rfl (zau rfl) rfl, trivial⟩
   simp only [List.drop_succ_cons, List.drop_zero]
   refine ntQ (fsQ rfl (zdh (reQ 1 rfl (hvQ rfl (vaQ rfl rfl rfl) (enQ 1 rfl ?_)))))
   exact zdd (j + 1) y ⟨by omega, by first | (rw [xoA_yes (by omega), cnt_no (by assumption)]; omega) | (rw [xoA_no (by omega)]; omega)⟩ (by omega) (saQ rfl) (pfQ rfl)
  refine ntQ (zap rfl ?_)
  refine zbj (zeb ?_)
  refine zal (zdh (reQ 1 rfl (hvQ rfl (vaQ rfl rfl rfl) (enQ 1 rfl ?_))))
  exact zdd (i + 1) y ⟨by omega, by rw [take_flatX (xoK D) ix0 (by omega), List.count_append]; show _ = _ + _ + (((_ : Nat) + (xoA D ((D.getD k md0).xs.getD i ix0) (ptsK (D.getD (((((D.getD k md0).xs).getD i ix0).m).toNat) md0)).length).count (s : Int) : Nat) : Int); rw [show j = (ptsK (D.getD (((((D.getD k md0).xs).getD i ix0).m).toNat) md0)).length by omega] at hcj; omega⟩ (by omega) (saQ rfl) (slQ [2, 0] rfl)
 refine ntQ (zap rfl ?_)
 refine zbj (zeb ?_)
 refine zal (zba (zbg 2 rfl ?_))
 exact zao (zav rfl rfl (congrArg _ (by unfold drvL; rw [List.count_append, List.count_append, hcc, show i = (D.getD k md0).xs.length by omega, List.take_length]; omega)))
theorem zel (m : Md) (s : Int) (w : World) (hr : RdsMd w m) :
   Calls Try.prog 153 #[.agg #[m.sv, m.av, m.iv, m.mv], .int .i64 s] w (Ans w (.int .i64 (knd m s))) := by
 have hs9 := sml hr.s
 refine zca (N := 20) (args := [.agg #[m.sv, m.av, m.iv, m.mv], .int .i64 s]) Try.func153 rfl rfl (srQ ?_)
 refine zdn rfl (zdm rfl rfl) ?_
 intro b1
 refine zay 1 rfl (zag (zag (reQ 1 rfl ?_)))
 refine zbq rfl rfl rfl rfl rfl rfl (fun h2 => ?_) (fun h2 => ?_)
 ·
  refine zay 7 rfl (zah rfl (zag (reQ 1 rfl (?_))))
  refine ntQ ?_
  refine zao (zae ?_)
  exact zav rfl rfl (congrArg _ ((zeg (by omega)).symm))
 refine zam 2 rfl (hvQ rfl (fdQ 0 rfl rfl rfl) (hvQ rfl (zac rfl rfl rfl (zaa 0 rfl rfl)) (hvQ rfl (lnQ rfl rfl rfl (zaf ((hr).s))) ?_)))
 refine hl_geq rfl rfl rfl rfl rfl rfl (fun h3 => ?_) (fun h3 => ?_)
 ·
  refine zay 1 rfl (zah rfl (zbg 1 rfl ?_))
  refine zao (zae ?_)
  exact zav rfl rfl (congrArg _ ((zeg (by omega)).symm))
 refine zay 1 rfl (zap rfl (zcv (srQ (hvQ rfl (fdQ 0 rfl rfl rfl) (hvQ rfl (zac rfl rfl rfl (zaa 0 rfl rfl)) (zam 1 rfl (hvQ rfl (riQ 3 rfl rfl rfl rfl (zaf ((hr).s))) (hvQ rfl (zaq (k0 := 0) rfl rfl rfl (zaf ((hr).s)) (by omega)) ?_))))))))
 refine hvQ rfl (zan (u := .int .i64 ((m.ss.getD ((s).toNat) sg0).k)) rfl rfl rfl (zaf ((hr).s)) ((zbd sgC 3 (fun _ => rfl) m.ss sg0 (show (s).toNat < _ by omega) (by decide)).trans rfl)) (zay 1 rfl ?_)
 exact zao (zav rfl rfl (congrArg _ ((zcp ⟨by omega, by omega⟩).symm)))
theorem zfl (m : Md) (s : Int) (w : World) (hr : RdsMd w m) :
   Calls Try.prog 152 #[.agg #[m.sv, m.av, m.iv, m.mv], .int .i64 s] w (Ans w (.bool (pB (Drv m s)))) := by
 have hs9 := sml hr.s
 refine zca (N := 15) (args := [.agg #[m.sv, m.av, m.iv, m.mv], .int .i64 s]) Try.func152 rfl rfl (srQ ?_)
 refine zdn rfl (zdm rfl rfl) ?_
 intro b1
 refine zay 1 rfl (srQ (hvQ rfl (zax (cs := [m.sv, m.av, m.iv, m.mv]) rfl rfl rfl rfl rfl (zat 0 rfl 0 rfl)) (zam 1 rfl ?_)))
 refine zem rfl (zaw rfl rfl (fun w hm => zbf (zel m s w (hr.below hm.bel)))) (zay 1 rfl (zag (reQ 1 rfl ?_)))
 refine zbu rfl rfl rfl rfl rfl rfl (fun h2 => ?_) (fun h2 => ?_)
 ·
  refine zay 5 rfl ?_
  exact zao (zav rfl rfl (congrArg _ (zdi (by first | exact .inl (by omega) | exact .inr (by omega))).symm))
 refine zam 2 rfl (zbu rfl rfl rfl rfl rfl rfl (fun h3 => ?_) (fun h3 => ?_))
 ·
  refine zay 2 rfl ?_
  exact zao (zav rfl rfl (congrArg _ (zdi (by first | exact .inl (by omega) | exact .inr (by omega))).symm))
 refine zay 2 rfl ?_
 exact zao (zav rfl rfl (congrArg _ (zbv (fun hp => by first | (rcases hp with hp | hp <;> omega))).symm))
theorem specModuleOk_ans (D : List Md) (k : Nat) (v : Value) (w : World) (hd : RdsDs w v D) (hk : k < D.length) :
   Calls Try.prog 109 #[.agg #[v], .int .i64 (k : Int)] w (Ans w (.bool (pB (ModP D k)))) := by
 have hd9 := sml hd.row
 refine zca (N := 205) (args := [.agg #[v], .int .i64 (k : Int)]) Try.func109 rfl rfl (srQ ?_)
 refine zdn rfl (zdm rfl rfl) ?_
 intro b1
 refine zay 1 rfl (zfi (hvQ rfl (zax (cs := [v]) rfl rfl rfl rfl rfl (zat 0 rfl 0 rfl)) (zam 1 rfl ?_)))
 refine zem rfl (zaw rfl rfl (fun w hm => zbf (l04Counts_ans D k v w (hd.below hm.bel)))) (zbm (fun h2 => ?_) (fun h2 => ?_))
 ·
  have h2p := zes h2
  refine zay 1 rfl (zap rfl (zcv (srQ (hvQ rfl (fdQ 0 rfl rfl rfl) (hvQ rfl (zac rfl rfl rfl (zaa 0 rfl rfl)) (zam 1 rfl (hvQ rfl (riQ 4 rfl rfl rfl rfl (zaf hd.row)) ?_)))))))
  refine hvQ rfl (zbb (us := [(D.getD k md0).sv, (D.getD k md0).av, (D.getD k md0).iv, (D.getD k md0).mv]) rfl rfl rfl rfl (zaf hd.row) (by omega) rfl (zbr mdC 4 (fun _ => rfl) D md0 (show k < _ by omega) rfl)) (zdn rfl (zbl (z := .agg #[.slice none 0 0, .slice none 0 0, .slice none 0 0, .slice none 0 0]) rfl rfl) ?_)
  intro b3
  refine zbh (cs' := #[(D.getD k md0).sv, (D.getD k md0).av, (D.getD k md0).iv, (D.getD k md0).mv]) (i := 0) (off := 0) (us := [(D.getD k md0).sv, (D.getD k md0).av, (D.getD k md0).iv, (D.getD k md0).mv]) rfl rfl rfl rfl rfl rfl rfl (zab (hd.at (k := k) (by omega)).s.one (zab (hd.at (k := k) (by omega)).g.one (zab (hd.at (k := k) (by omega)).x.one (zab (hd.at (k := k) (by omega)).m.one zbc)))) rfl rfl rfl (ntQ (zag (zbg 1 rfl (zaz ?_))))
  refine lkQ1 (α := Nat) [0, 1, 2, 4, 5, 20] rfl (fun i => [boxE b3 #[(D.getD k md0).sv, (D.getD k md0).av, (D.getD k md0).iv, (D.getD k md0).mv] 35, boxE b1 #[v] 26]) (fun i => [(6, .int .i64 (i : Int))]) (fun i => i ≤ (D.getD k md0).ss.length ∧ (∀ q, q < i → SgP ((D.getD k md0).ss.getD q sg0)) ∧ (∀ q, q < i → ((D.getD k md0).ss.getD q sg0).k ≠ 0 → (drvL D (D.getD k md0)).count (q : Int) = 1)) (fun i => (D.getD k md0).ss.length - i) 0 ⟨Nat.zero_le _, fun q hq => absurd hq (by omega), fun q hq => absurd hq (by omega)⟩ (saQ rfl) (pfQ rfl) ?_
  intro i hi4
  obtain ⟨hi, hsg, hdr⟩ := hi4
  have hcts : CtsP D k := by assumption
  obtain ⟨hkl, hcnt, hins⟩ := (show CtsP D k by assumption)
  obtain ⟨hn1, hn2, hn3, hn4⟩ := hcnt.md k hkl
  refine zag (zag (reQ 1 rfl (hvQ rfl (fdQ 0 rfl rfl rfl) (hvQ rfl (zac rfl rfl rfl (zaa 0 rfl rfl)) (hvQ rfl (lnQ rfl rfl rfl (zaf ((hd.at (k := k) (by omega)).s))) ?_)))))
  refine zbq rfl rfl rfl rfl rfl rfl (fun h5 => ?_) (fun h5 => ?_)
  ·
   refine ntQ (zah rfl (zcv (sbQ (srQ (hvQ rfl (fdQ 0 rfl rfl rfl) (hvQ rfl (zac rfl rfl rfl (zaa 0 rfl rfl)) (zam 1 rfl (hvQ rfl (riQ 3 rfl rfl rfl rfl (zaf ((hd.at (k := k) (by omega)).s))) ?_))))))))
   refine hvQ rfl (zbb (us := [.int .i64 ((((D.getD k md0).ss).getD i sg0).k), .int .i64 ((((D.getD k md0).ss).getD i sg0).w), .int .i64 ((((D.getD k md0).ss).getD i sg0).i)]) rfl rfl rfl rfl (zaf ((hd.at (k := k) (by omega)).s)) (by omega) rfl (zbr sgC 3 (fun _ => rfl) ((D.getD k md0).ss) sg0 (show i < _ by omega) rfl)) (zdn rfl (zbl (z := .agg #[.int .i64 0, .int .i64 0, .int .i64 0]) rfl rfl) ?_)
   intro b6
   refine zbh (cs' := #[.int .i64 ((((D.getD k md0).ss).getD i sg0).k), .int .i64 ((((D.getD k md0).ss).getD i sg0).w), .int .i64 ((((D.getD k md0).ss).getD i sg0).i)]) (i := 0) (off := 0) (us := [.int .i64 ((((D.getD k md0).ss).getD i sg0).k), .int .i64 ((((D.getD k md0).ss).getD i sg0).w), .int .i64 ((((D.getD k md0).ss).getD i sg0).i)]) rfl rfl rfl rfl rfl rfl rfl (zab rfl (zab rfl (zab rfl zbc))) rfl rfl rfl (ntQ (zfi (hvQ rfl (fdQ 0 rfl rfl rfl) (hvQ rfl (zac rfl rfl rfl (zaa 0 rfl rfl)) ?_))))
   refine zem rfl (zaw rfl rfl (fun w hm => zbf (zfz ((((D.getD k md0).ss).getD i sg0).k) 0 3 w))) (zbm (fun h7 => ?_) (fun h7 => ?_))
   ·
    obtain ⟨h7a, h7b⟩ := (zdc _ _ _).1 h7
    refine zam 2 rfl (hvQ rfl (fdQ 1 rfl rfl rfl) (hvQ rfl (zac rfl rfl rfl (zaa 0 rfl rfl)) ?_))
    refine zem rfl (zaw rfl rfl (fun w hm => zbf (zfz ((((D.getD k md0).ss).getD i sg0).w) 0 4 w))) (zbm (fun h8 => ?_) (fun h8 => ?_))
    ·
     obtain ⟨h8a, h8b⟩ := (zdc _ _ _).1 h8
     refine zam 3 rfl (hvQ rfl (fdQ 2 rfl rfl rfl) (hvQ rfl (zac rfl rfl rfl (zaa 0 rfl rfl)) ?_))
     refine zem rfl (zaw rfl rfl (fun w hm => zbf (zfz ((((D.getD k md0).ss).getD i sg0).i) 0 15 w))) (zbm (fun h9 => ?_) (fun h9 => ?_))
     ·
      obtain ⟨h9a, h9b⟩ := (zdc _ _ _).1 h9
      refine zam 3 rfl (hvQ rfl (fdQ 2 rfl rfl rfl) (hvQ rfl (zac rfl rfl rfl (zaa 0 rfl rfl)) ?_))
      refine zfq rfl rfl rfl rfl rfl rfl (fun h10 => ?_) (fun h10 => ?_)
      ·
       refine zam 1 rfl (hvQ rfl (fdQ 0 rfl rfl rfl) (hvQ rfl (zac rfl rfl rfl (zaa 0 rfl rfl)) ?_))
       refine zfq rfl rfl rfl rfl rfl rfl (fun h11 => ?_) (fun h11 => ?_)
       ·
        refine zay 2 rfl (zah rfl (zbg 1 rfl ?_))
        refine zao (zae ?_)
        refine zad (zdv ?_)
        refine zad (zae ?_)
        exact zav rfl rfl (congrArg _ (zbv (fun hp => by first | (exact absurd (show CtsP D k from ⟨hp.lt, hp.cnt, hp.ins⟩) (by assumption)) | (have h9 := hp.sg i (by omega); obtain ⟨⟨h1, h2⟩, ⟨h3, h4⟩, ⟨h5, h6⟩, h7⟩ := h9; omega) | (have h9 := hp.dr i (by omega) (by omega); omega) | (exact absurd (hp.gs i (by omega)).2 (by assumption)) | (have h9 := (hp.gs i (by omega)).1; have h8 : ¬ Drv (D.getD k md0) ((D.getD k md0).gs.getD i as0).t := (by assumption); exact h8 (by first | exact .inl (by omega) | exact .inr (by omega))) | (have h9 := (hp.gs i (by omega)).1; have h8 : ¬ Drv (D.getD k md0) ((D.getD k md0).gs.getD i as0).t := (by assumption); unfold Drv at h8; omega) | (have h9 := (hp.xs i (by omega)).1; omega) | (have h9 := ((hp.xs i (by omega)).2 j (by omega)).1; have h8 := (zbp hsgA).2 h9; omega) | (have h9 := ((hp.xs i (by omega)).2 j (by omega)).2 (by omega); exact absurd h9 (by assumption)) | (obtain ⟨⟨h1, h2, h3⟩, h4⟩ := hp.ms i (by omega); have g1 := (zbp hsgA).2 h1; have g2 := (zbp hsgA).2 h2; have g3 := (zbp hsgA).2 h3; first | omega | exact absurd h4 (by assumption)))).symm)
       refine zay 2 rfl (zap rfl (zcv (srQ (hvQ rfl (fdQ 0 rfl rfl rfl) (hvQ rfl (zac rfl rfl rfl (zaa 0 rfl rfl)) ?_)))))
       refine zfq rfl rfl rfl rfl rfl rfl (fun h12 => ?_) (fun h12 => ?_)
       ·
        refine zam 1 rfl (hvQ rfl (zax (cs := [v]) rfl rfl rfl rfl rfl (zat 2 rfl 0 rfl)) (zam 2 rfl ?_))
        refine zem rfl (zaw rfl rfl (fun w hm => zbf (zfm D k i v w (hd.below hm.bel) hcts (by omega)))) (zfq rfl rfl rfl rfl rfl rfl (fun h13 => ?_) (fun h13 => ?_))
        ·
         refine zay 1 rfl (zah rfl (zbg 1 rfl ?_))
         refine zao (zad ?_)
         refine zdv ?_
         refine zad (zae ?_)
         exact zav rfl rfl (congrArg _ (zbv (fun hp => by first | (exact absurd (show CtsP D k from ⟨hp.lt, hp.cnt, hp.ins⟩) (by assumption)) | (have h9 := hp.sg i (by omega); obtain ⟨⟨h1, h2⟩, ⟨h3, h4⟩, ⟨h5, h6⟩, h7⟩ := h9; omega) | (have h9 := hp.dr i (by omega) (by omega); omega) | (exact absurd (hp.gs i (by omega)).2 (by assumption)) | (have h9 := (hp.gs i (by omega)).1; have h8 : ¬ Drv (D.getD k md0) ((D.getD k md0).gs.getD i as0).t := (by assumption); exact h8 (by first | exact .inl (by omega) | exact .inr (by omega))) | (have h9 := (hp.gs i (by omega)).1; have h8 : ¬ Drv (D.getD k md0) ((D.getD k md0).gs.getD i as0).t := (by assumption); unfold Drv at h8; omega) | (have h9 := (hp.xs i (by omega)).1; omega) | (have h9 := ((hp.xs i (by omega)).2 j (by omega)).1; have h8 := (zbp hsgA).2 h9; omega) | (have h9 := ((hp.xs i (by omega)).2 j (by omega)).2 (by omega); exact absurd h9 (by assumption)) | (obtain ⟨⟨h1, h2, h3⟩, h4⟩ := hp.ms i (by omega); have g1 := (zbp hsgA).2 h1; have g2 := (zbp hsgA).2 h2; have g3 := (zbp hsgA).2 h3; first | omega | exact absurd h4 (by assumption)))).symm)
        refine zay 1 rfl (fsQ rfl (zdh (reQ 1 rfl (hvQ rfl (vaQ rfl rfl rfl) (enQ 1 rfl ?_)))))
        exact zbs (i + 1) ⟨by omega, ⟨fun q hq => by by_cases e : q = i; (subst e; exact ⟨⟨by omega, by omega⟩, ⟨by omega, by omega⟩, ⟨by omega, by omega⟩, by omega⟩); exact hsg q (by omega), fun q hq => by by_cases e : q = i; (subst e; omega); exact hdr q (by omega)⟩⟩ (by omega) (saQ rfl) (slQ [1, 0] rfl)
       refine zay 7 rfl (fsQ rfl (zdh (zas ?_)))
       refine zam 1 rfl (hvQ rfl (vaQ rfl rfl rfl) (enQ 1 rfl ?_))
       exact zbs (i + 1) ⟨by omega, ⟨fun q hq => by by_cases e : q = i; (subst e; exact ⟨⟨by omega, by omega⟩, ⟨by omega, by omega⟩, ⟨by omega, by omega⟩, by omega⟩); exact hsg q (by omega), fun q hq => by by_cases e : q = i; (subst e; omega); exact hdr q (by omega)⟩⟩ (by omega) (saQ rfl) (slQ [1, 0] rfl)
      refine zay 6 rfl (zap rfl (zcv (srQ (hvQ rfl (fdQ 0 rfl rfl rfl) ?_))))
      refine hvQ rfl (zac rfl rfl rfl (zaa 0 rfl rfl)) (zfq rfl rfl rfl rfl rfl rfl (fun h14 => ?_) (fun h14 => ?_))
      ·
       refine zam 1 rfl (hvQ rfl (zax (cs := [v]) rfl rfl rfl rfl rfl (zat 2 rfl 0 rfl)) (zam 2 rfl ?_))
       refine zem rfl (zaw rfl rfl (fun w hm => zbf (zfm D k i v w (hd.below hm.bel) hcts (by omega)))) (zfq rfl rfl rfl rfl rfl rfl (fun h15 => ?_) (fun h15 => ?_))
       ·
        refine zay 1 rfl (zah rfl (zbg 1 rfl ?_))
        refine zao (zad ?_)
        refine zdv ?_
        refine zad (zae ?_)
        exact zav rfl rfl (congrArg _ (zbv (fun hp => by first | (exact absurd (show CtsP D k from ⟨hp.lt, hp.cnt, hp.ins⟩) (by assumption)) | (have h9 := hp.sg i (by omega); obtain ⟨⟨h1, h2⟩, ⟨h3, h4⟩, ⟨h5, h6⟩, h7⟩ := h9; omega) | (have h9 := hp.dr i (by omega) (by omega); omega) | (exact absurd (hp.gs i (by omega)).2 (by assumption)) | (have h9 := (hp.gs i (by omega)).1; have h8 : ¬ Drv (D.getD k md0) ((D.getD k md0).gs.getD i as0).t := (by assumption); exact h8 (by first | exact .inl (by omega) | exact .inr (by omega))) | (have h9 := (hp.gs i (by omega)).1; have h8 : ¬ Drv (D.getD k md0) ((D.getD k md0).gs.getD i as0).t := (by assumption); unfold Drv at h8; omega) | (have h9 := (hp.xs i (by omega)).1; omega) | (have h9 := ((hp.xs i (by omega)).2 j (by omega)).1; have h8 := (zbp hsgA).2 h9; omega) | (have h9 := ((hp.xs i (by omega)).2 j (by omega)).2 (by omega); exact absurd h9 (by assumption)) | (obtain ⟨⟨h1, h2, h3⟩, h4⟩ := hp.ms i (by omega); have g1 := (zbp hsgA).2 h1; have g2 := (zbp hsgA).2 h2; have g3 := (zbp hsgA).2 h3; first | omega | exact absurd h4 (by assumption)))).symm)
       refine zay 1 rfl (fsQ rfl (zdh (reQ 1 rfl (hvQ rfl (vaQ rfl rfl rfl) (enQ 1 rfl ?_)))))
       exact zbs (i + 1) ⟨by omega, ⟨fun q hq => by by_cases e : q = i; (subst e; exact ⟨⟨by omega, by omega⟩, ⟨by omega, by omega⟩, ⟨by omega, by omega⟩, by omega⟩); exact hsg q (by omega), fun q hq => by by_cases e : q = i; (subst e; omega); exact hdr q (by omega)⟩⟩ (by omega) (saQ rfl) (slQ [1, 0] rfl)
      refine zay 7 rfl (fsQ rfl (zdh (zas ?_)))
      refine zam 1 rfl (hvQ rfl (vaQ rfl rfl rfl) (enQ 1 rfl ?_))
      exact zbs (i + 1) ⟨by omega, ⟨fun q hq => by by_cases e : q = i; (subst e; exact ⟨⟨by omega, by omega⟩, ⟨by omega, by omega⟩, ⟨by omega, by omega⟩, by omega⟩); exact hsg q (by omega), fun q hq => by by_cases e : q = i; (subst e; omega); exact hdr q (by omega)⟩⟩ (by omega) (saQ rfl) (slQ [1, 0] rfl)
     have h9a := zcy h9
     refine zay 12 rfl (zah rfl (zag ?_))
     refine zas (zay 1 rfl ?_)
     refine zao (zae ?_)
     refine zad (zdv ?_)
     refine zad (zae ?_)
     exact zav rfl rfl (congrArg _ (zbv (fun hp => by first | (exact absurd (show CtsP D k from ⟨hp.lt, hp.cnt, hp.ins⟩) (by assumption)) | (have h9 := hp.sg i (by omega); obtain ⟨⟨h1, h2⟩, ⟨h3, h4⟩, ⟨h5, h6⟩, h7⟩ := h9; omega) | (have h9 := hp.dr i (by omega) (by omega); omega) | (exact absurd (hp.gs i (by omega)).2 (by assumption)) | (have h9 := (hp.gs i (by omega)).1; have h8 : ¬ Drv (D.getD k md0) ((D.getD k md0).gs.getD i as0).t := (by assumption); exact h8 (by first | exact .inl (by omega) | exact .inr (by omega))) | (have h9 := (hp.gs i (by omega)).1; have h8 : ¬ Drv (D.getD k md0) ((D.getD k md0).gs.getD i as0).t := (by assumption); unfold Drv at h8; omega) | (have h9 := (hp.xs i (by omega)).1; omega) | (have h9 := ((hp.xs i (by omega)).2 j (by omega)).1; have h8 := (zbp hsgA).2 h9; omega) | (have h9 := ((hp.xs i (by omega)).2 j (by omega)).2 (by omega); exact absurd h9 (by assumption)) | (obtain ⟨⟨h1, h2, h3⟩, h4⟩ := hp.ms i (by omega); have g1 := (zbp hsgA).2 h1; have g2 := (zbp hsgA).2 h2; have g3 := (zbp hsgA).2 h3; first | omega | exact absurd h4 (by assumption)))).symm)
    have h8a := zcy h8
    refine zam 18 rfl (?_)
    refine ntQ (zah rfl (zbg 1 rfl ?_))
    refine zao (zae ?_)
    refine zad (zdv ?_)
    refine zad (zae ?_)
    exact zav rfl rfl (congrArg _ (zbv (fun hp => by first | (exact absurd (show CtsP D k from ⟨hp.lt, hp.cnt, hp.ins⟩) (by assumption)) | (have h9 := hp.sg i (by omega); obtain ⟨⟨h1, h2⟩, ⟨h3, h4⟩, ⟨h5, h6⟩, h7⟩ := h9; omega) | (have h9 := hp.dr i (by omega) (by omega); omega) | (exact absurd (hp.gs i (by omega)).2 (by assumption)) | (have h9 := (hp.gs i (by omega)).1; have h8 : ¬ Drv (D.getD k md0) ((D.getD k md0).gs.getD i as0).t := (by assumption); exact h8 (by first | exact .inl (by omega) | exact .inr (by omega))) | (have h9 := (hp.gs i (by omega)).1; have h8 : ¬ Drv (D.getD k md0) ((D.getD k md0).gs.getD i as0).t := (by assumption); unfold Drv at h8; omega) | (have h9 := (hp.xs i (by omega)).1; omega) | (have h9 := ((hp.xs i (by omega)).2 j (by omega)).1; have h8 := (zbp hsgA).2 h9; omega) | (have h9 := ((hp.xs i (by omega)).2 j (by omega)).2 (by omega); exact absurd h9 (by assumption)) | (obtain ⟨⟨h1, h2, h3⟩, h4⟩ := hp.ms i (by omega); have g1 := (zbp hsgA).2 h1; have g2 := (zbp hsgA).2 h2; have g3 := (zbp hsgA).2 h3; first | omega | exact absurd h4 (by assumption)))).symm)
   have h7a := zcy h7
   refine zay 23 rfl (zah rfl (zbg 1 rfl ?_))
   refine zao (zae ?_)
   refine zad (zdv ?_)
   refine zad (zae ?_)
   exact zav rfl rfl (congrArg _ (zbv (fun hp => by first | (exact absurd (show CtsP D k from ⟨hp.lt, hp.cnt, hp.ins⟩) (by assumption)) | (have h9 := hp.sg i (by omega); obtain ⟨⟨h1, h2⟩, ⟨h3, h4⟩, ⟨h5, h6⟩, h7⟩ := h9; omega) | (have h9 := hp.dr i (by omega) (by omega); omega) | (exact absurd (hp.gs i (by omega)).2 (by assumption)) | (have h9 := (hp.gs i (by omega)).1; have h8 : ¬ Drv (D.getD k md0) ((D.getD k md0).gs.getD i as0).t := (by assumption); exact h8 (by first | exact .inl (by omega) | exact .inr (by omega))) | (have h9 := (hp.gs i (by omega)).1; have h8 : ¬ Drv (D.getD k md0) ((D.getD k md0).gs.getD i as0).t := (by assumption); unfold Drv at h8; omega) | (have h9 := (hp.xs i (by omega)).1; omega) | (have h9 := ((hp.xs i (by omega)).2 j (by omega)).1; have h8 := (zbp hsgA).2 h9; omega) | (have h9 := ((hp.xs i (by omega)).2 j (by omega)).2 (by omega); exact absurd h9 (by assumption)) | (obtain ⟨⟨h1, h2, h3⟩, h4⟩ := hp.ms i (by omega); have g1 := (zbp hsgA).2 h1; have g2 := (zbp hsgA).2 h2; have g3 := (zbp hsgA).2 h3; first | omega | exact absurd h4 (by assumption)))).symm)
  refine ntQ (zap rfl ?_)
  refine zbj (zeb ?_)
  refine zal (zba (zag (zbg 1 rfl (zaz ?_))))
  refine lkQ1 (α := Nat) [0, 1, 2, 4, 5, 20, 30] rfl (fun i => [boxE b3 #[(D.getD k md0).sv, (D.getD k md0).av, (D.getD k md0).iv, (D.getD k md0).mv] 35, boxE b1 #[v] 26]) (fun i => [(8, .int .i64 (i : Int))]) (fun i => i ≤ (D.getD k md0).gs.length ∧ ∀ q, q < i → AsP (D.getD k md0) ((D.getD k md0).gs.getD q as0)) (fun i => (D.getD k md0).gs.length - i) 0 ⟨Nat.zero_le _, fun q hq => absurd hq (by omega)⟩ (saQ rfl) (pfQ rfl) ?_
  intro i hi16
  obtain ⟨hi, hgs⟩ := hi16
  have hsgA : ∀ q, q < (D.getD k md0).ss.length → SgP ((D.getD k md0).ss.getD q sg0) := fun q hq => hsg q (by omega)
  refine zag (zag (reQ 1 rfl (hvQ rfl (fdQ 1 rfl rfl rfl) (hvQ rfl (zac rfl rfl rfl (zaa 0 rfl rfl)) (hvQ rfl (lnQ rfl rfl rfl (zaf ((hd.at (k := k) (by omega)).g))) ?_)))))
  refine zbq rfl rfl rfl rfl rfl rfl (fun h17 => ?_) (fun h17 => ?_)
  ·
   refine ntQ (zah rfl (zcv (sbQ (srQ (hvQ rfl (fdQ 1 rfl rfl rfl) (hvQ rfl (zac rfl rfl rfl (zaa 0 rfl rfl)) (zam 1 rfl (hvQ rfl (riQ 2 rfl rfl rfl rfl (zaf ((hd.at (k := k) (by omega)).g))) ?_))))))))
   refine hvQ rfl (zbb (us := [.int .i64 ((((D.getD k md0).gs).getD i as0).t), (((D.getD k md0).gs).getD i as0).ov]) rfl rfl rfl rfl (zaf ((hd.at (k := k) (by omega)).g)) (by omega) rfl (zbr asC 2 (fun _ => rfl) ((D.getD k md0).gs) as0 (show i < _ by omega) rfl)) (zdn rfl (zbl (z := .agg #[.int .i64 0, .slice none 0 0]) rfl rfl) ?_)
   intro b18
   refine zbh (cs' := #[.int .i64 ((((D.getD k md0).gs).getD i as0).t), (((D.getD k md0).gs).getD i as0).ov]) (i := 0) (off := 0) (us := [.int .i64 ((((D.getD k md0).gs).getD i as0).t), (((D.getD k md0).gs).getD i as0).ov]) rfl rfl rfl rfl rfl rfl rfl (zab rfl (zab ((hd.at (k := k) (by omega)).o.at (k := i) (by omega)).one zbc)) rfl rfl rfl (ntQ (srQ (hvQ rfl (zax (cs := [(D.getD k md0).sv, (D.getD k md0).av, (D.getD k md0).iv, (D.getD k md0).mv]) rfl rfl rfl rfl rfl (zat 1 rfl 0 rfl)) (hvQ rfl (fdQ 0 rfl rfl rfl) (hvQ rfl (zac rfl rfl rfl (zaa 0 rfl rfl)) ?_)))))
   refine zem rfl (zaw rfl rfl (fun w hm => zbf (zfl (D.getD k md0) ((((D.getD k md0).gs).getD i as0).t) w ((hd.at (k := k) (by omega)).below hm.bel)))) (zbm (fun h19 => ?_) (fun h19 => ?_))
   ·
    have h19p := zes h19
    refine zam 9 rfl (hvQ rfl (fdQ 1 rfl rfl rfl) (hvQ rfl (zac rfl rfl rfl (zaa 0 rfl rfl)) (hvQ rfl (fdQ 0 rfl rfl rfl) (hvQ rfl (zac rfl rfl rfl (zaa 1 rfl rfl)) (hvQ rfl (lnQ rfl rfl rfl (zaf ((hd.at (k := k) (by omega)).s))) ?_)))))
    refine zem rfl (zaw rfl rfl (fun w hm => zbf (specOpsOk_ans ((D.getD k md0).gs.getD i as0).os (((D.getD k md0).ss).length : Int) _ w (((hd.at (k := k) (by omega)).below hm.bel).o.at (by omega))))) (zbm (fun h20 => ?_) (fun h20 => ?_))
    ·
     have h20p := zes h20
     refine zay 2 rfl (fsQ rfl (zdh (reQ 1 rfl (hvQ rfl (vaQ rfl rfl rfl) (enQ 1 rfl ?_)))))
     exact zbs (i + 1) ⟨by omega, fun q hq => by by_cases e : q = i; (subst e; exact ⟨by first | exact ⟨by omega, by omega⟩ | (rename_i hdv9; rcases (show Drv _ _ by assumption) with h9 | h9 <;> exact ⟨by omega, by omega⟩), by assumption⟩); exact hgs q (by omega)⟩ (by omega) (saQ rfl) (slQ [1, 0] rfl)
    have h20p := zdt h20
    refine zay 2 rfl (zah rfl (zbg 1 rfl ?_))
    refine zao (zad ?_)
    refine zdv ?_
    refine zad (zae ?_)
    exact zav rfl rfl (congrArg _ (zbv (fun hp => by first | (exact absurd (show CtsP D k from ⟨hp.lt, hp.cnt, hp.ins⟩) (by assumption)) | (have h9 := hp.sg i (by omega); obtain ⟨⟨h1, h2⟩, ⟨h3, h4⟩, ⟨h5, h6⟩, h7⟩ := h9; omega) | (have h9 := hp.dr i (by omega) (by omega); omega) | (exact absurd (hp.gs i (by omega)).2 (by assumption)) | (have h9 := (hp.gs i (by omega)).1; have h8 : ¬ Drv (D.getD k md0) ((D.getD k md0).gs.getD i as0).t := (by assumption); exact h8 (by first | exact .inl (by omega) | exact .inr (by omega))) | (have h9 := (hp.gs i (by omega)).1; have h8 : ¬ Drv (D.getD k md0) ((D.getD k md0).gs.getD i as0).t := (by assumption); unfold Drv at h8; omega) | (have h9 := (hp.xs i (by omega)).1; omega) | (have h9 := ((hp.xs i (by omega)).2 j (by omega)).1; have h8 := (zbp hsgA).2 h9; omega) | (have h9 := ((hp.xs i (by omega)).2 j (by omega)).2 (by omega); exact absurd h9 (by assumption)) | (obtain ⟨⟨h1, h2, h3⟩, h4⟩ := hp.ms i (by omega); have g1 := (zbp hsgA).2 h1; have g2 := (zbp hsgA).2 h2; have g3 := (zbp hsgA).2 h3; first | omega | exact absurd h4 (by assumption)))).symm)
   have h19p := zdt h19
   refine zam 2 rfl (hvQ rfl (zax (cs := [(D.getD k md0).sv, (D.getD k md0).av, (D.getD k md0).iv, (D.getD k md0).mv]) rfl rfl rfl rfl rfl (zat 1 rfl 0 rfl)) (hvQ rfl (fdQ 0 rfl rfl rfl) (hvQ rfl (zac rfl rfl rfl (zaa 0 rfl rfl)) ?_)))
   refine zem rfl (zaw rfl rfl (fun w hm => zbf (zel (D.getD k md0) ((((D.getD k md0).gs).getD i as0).t) w ((hd.at (k := k) (by omega)).below hm.bel)))) (zfq rfl rfl rfl rfl rfl rfl (fun h21 => ?_) (fun h21 => ?_))
   ·
    refine zay 10 rfl (zah rfl (srQ ?_))
    refine zay 1 rfl ?_
    refine zao (zad ?_)
    refine zdv ?_
    refine zad (zae ?_)
    exact zav rfl rfl (congrArg _ (zbv (fun hp => by first | (exact absurd (show CtsP D k from ⟨hp.lt, hp.cnt, hp.ins⟩) (by assumption)) | (have h9 := hp.sg i (by omega); obtain ⟨⟨h1, h2⟩, ⟨h3, h4⟩, ⟨h5, h6⟩, h7⟩ := h9; omega) | (have h9 := hp.dr i (by omega) (by omega); omega) | (exact absurd (hp.gs i (by omega)).2 (by assumption)) | (have h9 := (hp.gs i (by omega)).1; have h8 : ¬ Drv (D.getD k md0) ((D.getD k md0).gs.getD i as0).t := (by assumption); exact h8 (by first | exact .inl (by omega) | exact .inr (by omega))) | (have h9 := (hp.gs i (by omega)).1; have h8 : ¬ Drv (D.getD k md0) ((D.getD k md0).gs.getD i as0).t := (by assumption); unfold Drv at h8; omega) | (have h9 := (hp.xs i (by omega)).1; omega) | (have h9 := ((hp.xs i (by omega)).2 j (by omega)).1; have h8 := (zbp hsgA).2 h9; omega) | (have h9 := ((hp.xs i (by omega)).2 j (by omega)).2 (by omega); exact absurd h9 (by assumption)) | (obtain ⟨⟨h1, h2, h3⟩, h4⟩ := hp.ms i (by omega); have g1 := (zbp hsgA).2 h1; have g2 := (zbp hsgA).2 h2; have g3 := (zbp hsgA).2 h3; first | omega | exact absurd h4 (by assumption)))).symm)
   refine zam 2 rfl (hvQ rfl (fdQ 1 rfl rfl rfl) (hvQ rfl (zac rfl rfl rfl (zaa 0 rfl rfl)) (hvQ rfl (fdQ 0 rfl rfl rfl) (hvQ rfl (zac rfl rfl rfl (zaa 1 rfl rfl)) (hvQ rfl (lnQ rfl rfl rfl (zaf ((hd.at (k := k) (by omega)).s))) ?_)))))
   refine zem rfl (zaw rfl rfl (fun w hm => zbf (specOpsOk_ans ((D.getD k md0).gs.getD i as0).os (((D.getD k md0).ss).length : Int) _ w (((hd.at (k := k) (by omega)).below hm.bel).o.at (by omega))))) (zbm (fun h22 => ?_) (fun h22 => ?_))
   ·
    have h22p := zes h22
    refine zay 2 rfl (fsQ rfl (zdh (reQ 1 rfl (hvQ rfl (vaQ rfl rfl rfl) (enQ 1 rfl ?_)))))
    exact zbs (i + 1) ⟨by omega, fun q hq => by by_cases e : q = i; (subst e; exact ⟨by first | exact ⟨by omega, by omega⟩ | (rename_i hdv9; rcases (show Drv _ _ by assumption) with h9 | h9 <;> exact ⟨by omega, by omega⟩), by assumption⟩); exact hgs q (by omega)⟩ (by omega) (saQ rfl) (slQ [1, 0] rfl)
   have h22p := zdt h22
   refine zay 2 rfl (zah rfl (zbg 1 rfl ?_))
   refine zao (zad ?_)
   refine zdv ?_
   refine zad (zae ?_)
   exact zav rfl rfl (congrArg _ (zbv (fun hp => by first | (exact absurd (show CtsP D k from ⟨hp.lt, hp.cnt, hp.ins⟩) (by assumption)) | (have h9 := hp.sg i (by omega); obtain ⟨⟨h1, h2⟩, ⟨h3, h4⟩, ⟨h5, h6⟩, h7⟩ := h9; omega) | (have h9 := hp.dr i (by omega) (by omega); omega) | (exact absurd (hp.gs i (by omega)).2 (by assumption)) | (have h9 := (hp.gs i (by omega)).1; have h8 : ¬ Drv (D.getD k md0) ((D.getD k md0).gs.getD i as0).t := (by assumption); exact h8 (by first | exact .inl (by omega) | exact .inr (by omega))) | (have h9 := (hp.gs i (by omega)).1; have h8 : ¬ Drv (D.getD k md0) ((D.getD k md0).gs.getD i as0).t := (by assumption); unfold Drv at h8; omega) | (have h9 := (hp.xs i (by omega)).1; omega) | (have h9 := ((hp.xs i (by omega)).2 j (by omega)).1; have h8 := (zbp hsgA).2 h9; omega) | (have h9 := ((hp.xs i (by omega)).2 j (by omega)).2 (by omega); exact absurd h9 (by assumption)) | (obtain ⟨⟨h1, h2, h3⟩, h4⟩ := hp.ms i (by omega); have g1 := (zbp hsgA).2 h1; have g2 := (zbp hsgA).2 h2; have g3 := (zbp hsgA).2 h3; first | omega | exact absurd h4 (by assumption)))).symm)
  refine ntQ (zap rfl ?_)
  refine zbj (zeb ?_)
  refine zal (zba (zag (zbg 1 rfl (zaz ?_))))
  refine lkQ1 (α := Nat) [0, 1, 2, 4, 5, 20, 30, 78] rfl (fun i => [boxE b3 #[(D.getD k md0).sv, (D.getD k md0).av, (D.getD k md0).iv, (D.getD k md0).mv] 35, boxE b1 #[v] 26]) (fun i => [(10, .int .i64 (i : Int))]) (fun i => i ≤ (D.getD k md0).xs.length ∧ ∀ q, q < i → IxP D (D.getD k md0) ((D.getD k md0).xs.getD q ix0)) (fun i => (D.getD k md0).xs.length - i) 0 ⟨Nat.zero_le _, fun q hq => absurd hq (by omega)⟩ (saQ rfl) (pfQ rfl) ?_
  intro i hi23
  obtain ⟨hi, hxs⟩ := hi23
  refine zag (zag (reQ 1 rfl (hvQ rfl (fdQ 2 rfl rfl rfl) (hvQ rfl (zac rfl rfl rfl (zaa 0 rfl rfl)) (hvQ rfl (lnQ rfl rfl rfl (zaf ((hd.at (k := k) (by omega)).x))) ?_)))))
  refine zbq rfl rfl rfl rfl rfl rfl (fun h24 => ?_) (fun h24 => ?_)
  ·
   refine ntQ (zah rfl (zcv (sbQ (srQ (hvQ rfl (fdQ 2 rfl rfl rfl) (hvQ rfl (zac rfl rfl rfl (zaa 0 rfl rfl)) (zam 1 rfl (hvQ rfl (riQ 3 rfl rfl rfl rfl (zaf ((hd.at (k := k) (by omega)).x))) ?_))))))))
   refine hvQ rfl (zbb (us := [.int .i64 ((((D.getD k md0).xs).getD i ix0).m), .int .i64 ((((D.getD k md0).xs).getD i ix0).p), (((D.getD k md0).xs).getD i ix0).pv]) rfl rfl rfl rfl (zaf ((hd.at (k := k) (by omega)).x)) (by omega) rfl (zbr ixC 3 (fun _ => rfl) ((D.getD k md0).xs) ix0 (show i < _ by omega) rfl)) (zdn rfl (zbl (z := .agg #[.int .i64 0, .int .i64 0, .slice none 0 0]) rfl rfl) ?_)
   intro b25
   refine zbh (cs' := #[.int .i64 ((((D.getD k md0).xs).getD i ix0).m), .int .i64 ((((D.getD k md0).xs).getD i ix0).p), (((D.getD k md0).xs).getD i ix0).pv]) (i := 0) (off := 0) (us := [.int .i64 ((((D.getD k md0).xs).getD i ix0).m), .int .i64 ((((D.getD k md0).xs).getD i ix0).p), (((D.getD k md0).xs).getD i ix0).pv]) rfl rfl rfl rfl rfl rfl rfl (zab rfl (zab rfl (zab ((hd.at (k := k) (by omega)).p.at (k := i) (by omega)).one zbc))) rfl rfl rfl (ntQ (srQ ?_))
   obtain ⟨⟨hm0, hm1⟩, hpe⟩ := hins i (by omega)
   refine hvQ rfl (fdQ 0 rfl rfl rfl) (hvQ rfl (zac rfl rfl rfl (zaa 2 rfl rfl)) (hvQ rfl (fdQ 0 rfl rfl rfl) (hvQ rfl (zac rfl rfl rfl (zaa 0 rfl rfl)) (hvQ rfl (riQ 4 rfl rfl rfl rfl (zaf hd.row)) ?_))))
   refine hvQ rfl (zbb (us := [(D.getD (((((D.getD k md0).xs).getD i ix0).m).toNat) md0).sv, (D.getD (((((D.getD k md0).xs).getD i ix0).m).toNat) md0).av, (D.getD (((((D.getD k md0).xs).getD i ix0).m).toNat) md0).iv, (D.getD (((((D.getD k md0).xs).getD i ix0).m).toNat) md0).mv]) rfl rfl rfl rfl (zaf hd.row) (by omega) rfl (zbr mdC 4 (fun _ => rfl) D md0 (show ((((D.getD k md0).xs).getD i ix0).m).toNat < _ by omega) rfl)) (zdn rfl (zbl (z := .agg #[.slice none 0 0, .slice none 0 0, .slice none 0 0, .slice none 0 0]) rfl rfl) ?_)
   intro b26
   refine zbh (cs' := #[(D.getD (((((D.getD k md0).xs).getD i ix0).m).toNat) md0).sv, (D.getD (((((D.getD k md0).xs).getD i ix0).m).toNat) md0).av, (D.getD (((((D.getD k md0).xs).getD i ix0).m).toNat) md0).iv, (D.getD (((((D.getD k md0).xs).getD i ix0).m).toNat) md0).mv]) (i := 0) (off := 0) (us := [(D.getD (((((D.getD k md0).xs).getD i ix0).m).toNat) md0).sv, (D.getD (((((D.getD k md0).xs).getD i ix0).m).toNat) md0).av, (D.getD (((((D.getD k md0).xs).getD i ix0).m).toNat) md0).iv, (D.getD (((((D.getD k md0).xs).getD i ix0).m).toNat) md0).mv]) rfl rfl rfl rfl rfl rfl rfl (zab (hd.at (k := ((((D.getD k md0).xs).getD i ix0).m).toNat) (by omega)).s.one (zab (hd.at (k := ((((D.getD k md0).xs).getD i ix0).m).toNat) (by omega)).g.one (zab (hd.at (k := ((((D.getD k md0).xs).getD i ix0).m).toNat) (by omega)).x.one (zab (hd.at (k := ((((D.getD k md0).xs).getD i ix0).m).toNat) (by omega)).m.one zbc)))) rfl rfl rfl ?_
   refine ntQ (srQ (hvQ rfl (zax (cs := [(D.getD (((((D.getD k md0).xs).getD i ix0).m).toNat) md0).sv, (D.getD (((((D.getD k md0).xs).getD i ix0).m).toNat) md0).av, (D.getD (((((D.getD k md0).xs).getD i ix0).m).toNat) md0).iv, (D.getD (((((D.getD k md0).xs).getD i ix0).m).toNat) md0).mv]) rfl rfl rfl rfl rfl (zat 0 rfl 0 rfl)) ?_))
   refine hl_q rfl rfl rfl (zaw rfl rfl (fun w hm => zed (D.getD (((((D.getD k md0).xs).getD i ix0).m).toNat) md0) w ((hd.at (by omega)).below hm.bel))) ?_
   intro v27 p28 hR29
   subst hR29
   refine zay 1 rfl (zfi (hvQ rfl (fdQ 1 rfl rfl rfl) (hvQ rfl (zac rfl rfl rfl (zaa 2 rfl rfl)) ?_)))
   refine zem rfl (zaw rfl rfl (fun w hm => zbf (zfz ((((D.getD k md0).xs).getD i ix0).p) 0 4 w))) (zbm (fun h30 => ?_) (fun h30 => ?_))
   ·
    obtain ⟨h30a, h30b⟩ := (zdc _ _ _).1 h30
    refine zay 1 rfl (zap rfl (zcv (zbg 1 rfl (zaz ?_))))
    refine lkQ1 (α := Nat) [0, 1, 2, 4, 5, 10, 11, 12, 13, 20, 30, 78, 111, 130] rfl (fun j => [rowE 3 1 v27 ((ptsK (D.getD (((((D.getD k md0).xs).getD i ix0).m).toNat) md0)).length) ((ptsK (D.getD (((((D.getD k md0).xs).getD i ix0).m).toNat) md0)).map (Value.int .i64)), boxE b26 #[(D.getD (((((D.getD k md0).xs).getD i ix0).m).toNat) md0).sv, (D.getD (((((D.getD k md0).xs).getD i ix0).m).toNat) md0).av, (D.getD (((((D.getD k md0).xs).getD i ix0).m).toNat) md0).iv, (D.getD (((((D.getD k md0).xs).getD i ix0).m).toNat) md0).mv] 35, boxE b25 #[.int .i64 ((((D.getD k md0).xs).getD i ix0).m), .int .i64 ((((D.getD k md0).xs).getD i ix0).p), (((D.getD k md0).xs).getD i ix0).pv] 63, boxE b3 #[(D.getD k md0).sv, (D.getD k md0).av, (D.getD k md0).iv, (D.getD k md0).mv] 35, boxE b1 #[v] 26]) (fun j => [(14, .int .i64 (j : Int))]) (fun j => j ≤ (ptsK (D.getD (((((D.getD k md0).xs).getD i ix0).m).toNat) md0)).length ∧ ∀ r, r < j → Inn (D.getD k md0) (((D.getD k md0).xs.getD i ix0).ps.getD r 0) ∧ (knd (D.getD (((((D.getD k md0).xs).getD i ix0).m).toNat) md0) ((ptsK (D.getD (((((D.getD k md0).xs).getD i ix0).m).toNat) md0)).getD r 0) = 1 → Drv (D.getD k md0) (((D.getD k md0).xs.getD i ix0).ps.getD r 0))) (fun j => (ptsK (D.getD (((((D.getD k md0).xs).getD i ix0).m).toNat) md0)).length - j) 0 ⟨Nat.zero_le _, fun q hq => absurd hq (by omega)⟩ (saQ rfl) (pfQ rfl) ?_
    intro j hi31
    obtain ⟨hj, hj9⟩ := hi31
    have hpl := zfx (D.getD (((((D.getD k md0).xs).getD i ix0).m).toNat) md0)
    refine zag (zag (reQ 2 rfl (hvQ rfl (lnQ rfl rfl rfl (zaj 0 rfl)) ?_)))
    refine zbq rfl rfl rfl rfl rfl rfl (fun h32 => ?_) (fun h32 => ?_)
    ·
     refine ntQ (zah rfl (zcv (sbQ (zag ?_))))
     have hpt := zdu (m := (D.getD (((((D.getD k md0).xs).getD i ix0).m).toNat) md0)) (j := j) (by omega)
     have hkd := zcp hpt
     rcases Bool.eq_false_or_eq_true (decide (knd (D.getD k md0) (((((D.getD k md0).xs).getD i ix0).ps).getD j 0) < 0)) with hb33 | hb33
     ·
      have hb33p : knd (D.getD k md0) (((((D.getD k md0).xs).getD i ix0).ps).getD j 0) < 0 := of_decide_eq_true hb33
      have hpt := zdu (m := (D.getD (((((D.getD k md0).xs).getD i ix0).m).toNat) md0)) (j := j) (by omega)
      have hkd := zcp hpt
      refine zbz 30 [[], [], [1], [], [2, 3], [4], [0, 5], [6], [7], [8], [8], [8], [8], [8], [8], [8], [8], [8], [8], [8], [19], [19], [19], [19], [19], [19], [19], [19], [8], [8, 28]] [137, 138, 139, 140, 141, 142, 143, 144, 145, 146, 147, 148, 149, 150, 151, 152, 153, 154, 155, 156, 157, 158, 159, 160, 161, 162, 163, 164, 165, 166] [.agg #[(D.getD k md0).sv, (D.getD k md0).av, (D.getD k md0).iv, (D.getD k md0).mv], .pointer (some ⟨b25, 0 + 2, none⟩), (((D.getD k md0).xs).getD i ix0).pv, .int .i64 (j : Int), elP ((((D.getD k md0).xs).getD i ix0).pv) (((j : Int)).toNat * 1), .int .i64 (((((D.getD k md0).xs).getD i ix0).ps).getD j 0), .int .i64 (knd (D.getD k md0) (((((D.getD k md0).xs).getD i ix0).ps).getD j 0)), .bool true, .bool true, undef, undef, undef, undef, undef, undef, undef, undef, undef, undef, undef, undef, undef, undef, undef, undef, undef, undef, undef, undef, .bool true] (by kernel_rfl) rfl ?_ ?_
      ·
       exact ⟨iaQ rfl (zax (cs := [(D.getD k md0).sv, (D.getD k md0).av, (D.getD k md0).iv, (D.getD k md0).mv]) rfl rfl rfl rfl rfl (zat 3 rfl 0 rfl)) rfl, iaQ rfl (fdQ 2 rfl rfl rfl) rfl, iaQ rfl (zac rfl rfl rfl (zaa 2 rfl rfl)) rfl, iaQ rfl (zau rfl) rfl, iaQ rfl (riQ 1 rfl rfl rfl rfl (zaf ((hd.at (k := k) (by omega)).p.at (k := i) (by omega)))) rfl, iaQ rfl (zan (u := .int .i64 (((((D.getD k md0).xs).getD i ix0).ps).getD j 0)) rfl rfl rfl (zaf ((hd.at (k := k) (by omega)).p.at (k := i) (by omega))) (zcn (show _ < ((((D.getD k md0).xs).getD i ix0).ps).length by omega))) rfl, .inl ⟨rfl, zaw rfl rfl (fun w hm => zbf (zel (D.getD k md0) (((((D.getD k md0).xs).getD i ix0).ps).getD j 0) w ((hd.at (k := k) (by omega)).below hm.bel)))⟩, .inl ⟨rfl, zdl (zcf rfl rfl rfl rfl) hb33⟩, iaQ rfl (zau rfl) rfl, .inr ⟨rfl, rfl⟩, .inr ⟨rfl, rfl⟩, .inr ⟨rfl, rfl⟩, .inr ⟨rfl, rfl⟩, .inr ⟨rfl, rfl⟩, .inr ⟨rfl, rfl⟩, .inr ⟨rfl, rfl⟩, .inr ⟨rfl, rfl⟩, .inr ⟨rfl, rfl⟩, .inr ⟨rfl, rfl⟩, .inr ⟨rfl, rfl⟩, .inr ⟨rfl, rfl⟩, .inr ⟨rfl, rfl⟩, .inr ⟨rfl, rfl⟩, .inr ⟨rfl, rfl⟩, .inr ⟨rfl, rfl⟩, .inr ⟨rfl, rfl⟩, .inr ⟨rfl, rfl⟩, .inr ⟨rfl, rfl⟩, .inr ⟨rfl, rfl⟩, iaQ rfl (zau rfl) rfl, trivial⟩
      simp only [List.drop_succ_cons, List.drop_zero]
      refine ntQ (zah rfl (zbg 1 rfl ?_))
      refine zao (zad ?_)
      refine zdv ?_
      refine zad (zad ?_)
      refine zdv ?_
      refine zad (zae ?_)
      exact zav rfl rfl (congrArg _ (zbv (fun hp => by first | (exact absurd (show CtsP D k from ⟨hp.lt, hp.cnt, hp.ins⟩) (by assumption)) | (have h9 := hp.sg i (by omega); obtain ⟨⟨h1, h2⟩, ⟨h3, h4⟩, ⟨h5, h6⟩, h7⟩ := h9; omega) | (have h9 := hp.dr i (by omega) (by omega); omega) | (exact absurd (hp.gs i (by omega)).2 (by assumption)) | (have h9 := (hp.gs i (by omega)).1; have h8 : ¬ Drv (D.getD k md0) ((D.getD k md0).gs.getD i as0).t := (by assumption); exact h8 (by first | exact .inl (by omega) | exact .inr (by omega))) | (have h9 := (hp.gs i (by omega)).1; have h8 : ¬ Drv (D.getD k md0) ((D.getD k md0).gs.getD i as0).t := (by assumption); unfold Drv at h8; omega) | (have h9 := (hp.xs i (by omega)).1; omega) | (have h9 := ((hp.xs i (by omega)).2 j (by omega)).1; have h8 := (zbp hsgA).2 h9; omega) | (have h9 := ((hp.xs i (by omega)).2 j (by omega)).2 (by omega); exact absurd h9 (by assumption)) | (obtain ⟨⟨h1, h2, h3⟩, h4⟩ := hp.ms i (by omega); have g1 := (zbp hsgA).2 h1; have g2 := (zbp hsgA).2 h2; have g3 := (zbp hsgA).2 h3; first | omega | exact absurd h4 (by assumption)))).symm)
     have hb33p : ¬ (knd (D.getD k md0) (((((D.getD k md0).xs).getD i ix0).ps).getD j 0) < 0) := of_decide_eq_false hb33
     have hpt := zdu (m := (D.getD (((((D.getD k md0).xs).getD i ix0).m).toNat) md0)) (j := j) (by omega)
     have hkd := zcp hpt
     rcases Bool.eq_false_or_eq_true (((((D.getD (((((D.getD k md0).xs).getD i ix0).m).toNat) md0).ss).getD (((ptsK (D.getD (((((D.getD k md0).xs).getD i ix0).m).toNat) md0)).getD j 0).toNat) sg0).k) == 1) with hb34 | hb34
     ·
      have hb34p : (((D.getD (((((D.getD k md0).xs).getD i ix0).m).toNat) md0).ss).getD (((ptsK (D.getD (((((D.getD k md0).xs).getD i ix0).m).toNat) md0)).getD j 0).toNat) sg0).k = 1 := beq_iff_eq.1 hb34
      have hpt := zdu (m := (D.getD (((((D.getD k md0).xs).getD i ix0).m).toNat) md0)) (j := j) (by omega)
      have hkd := zcp hpt
      rcases Bool.eq_false_or_eq_true (pB (Drv (D.getD k md0) (((((D.getD k md0).xs).getD i ix0).ps).getD j 0))) with hb35 | hb35
      ·
       have hb35p := zes hb35
       have hpt := zdu (m := (D.getD (((((D.getD k md0).xs).getD i ix0).m).toNat) md0)) (j := j) (by omega)
       have hkd := zcp hpt
       refine zbz 30 [[], [], [1], [], [2, 3], [4], [0, 5], [6], [7], [8], [8, 9], [8], [8], [8, 11, 12], [8, 13], [8, 10, 14], [8, 15], [8, 16], [8, 17], [8, 18], [19], [19], [19, 21], [19], [19, 22, 23], [19, 24], [19, 20, 25], [19, 26], [8, 19, 27], [8, 28]] [137, 138, 139, 140, 141, 142, 143, 144, 145, 146, 147, 148, 149, 150, 151, 152, 153, 154, 155, 156, 157, 158, 159, 160, 161, 162, 163, 164, 165, 166] [.agg #[(D.getD k md0).sv, (D.getD k md0).av, (D.getD k md0).iv, (D.getD k md0).mv], .pointer (some ⟨b25, 0 + 2, none⟩), (((D.getD k md0).xs).getD i ix0).pv, .int .i64 (j : Int), elP ((((D.getD k md0).xs).getD i ix0).pv) (((j : Int)).toNat * 1), .int .i64 (((((D.getD k md0).xs).getD i ix0).ps).getD j 0), .int .i64 (knd (D.getD k md0) (((((D.getD k md0).xs).getD i ix0).ps).getD j 0)), .bool false, .bool false, .pointer (some ⟨b26, 0 + 0, none⟩), (D.getD (((((D.getD k md0).xs).getD i ix0).m).toNat) md0).sv, v27, .int .i64 (j : Int), elP v27 (((j : Int)).toNat * 1), .int .i64 ((ptsK (D.getD (((((D.getD k md0).xs).getD i ix0).m).toNat) md0)).getD j 0), elP ((D.getD (((((D.getD k md0).xs).getD i ix0).m).toNat) md0).sv) (((ptsK (D.getD (((((D.getD k md0).xs).getD i ix0).m).toNat) md0)).getD j 0).toNat * 3), elP ((D.getD (((((D.getD k md0).xs).getD i ix0).m).toNat) md0).sv) (((ptsK (D.getD (((((D.getD k md0).xs).getD i ix0).m).toNat) md0)).getD j 0).toNat * 3 + 0), .int .i64 ((((D.getD (((((D.getD k md0).xs).getD i ix0).m).toNat) md0).ss).getD (((ptsK (D.getD (((((D.getD k md0).xs).getD i ix0).m).toNat) md0)).getD j 0).toNat) sg0).k), .bool true, .bool true, .agg #[(D.getD k md0).sv, (D.getD k md0).av, (D.getD k md0).iv, (D.getD k md0).mv], .pointer (some ⟨b25, 0 + 2, none⟩), (((D.getD k md0).xs).getD i ix0).pv, .int .i64 (j : Int), elP ((((D.getD k md0).xs).getD i ix0).pv) (((j : Int)).toNat * 1), .int .i64 (((((D.getD k md0).xs).getD i ix0).ps).getD j 0), .bool true, .bool false, .bool false, .bool false] (by kernel_rfl) rfl ?_ ?_
       ·
        exact ⟨iaQ rfl (zax (cs := [(D.getD k md0).sv, (D.getD k md0).av, (D.getD k md0).iv, (D.getD k md0).mv]) rfl rfl rfl rfl rfl (zat 3 rfl 0 rfl)) rfl, iaQ rfl (fdQ 2 rfl rfl rfl) rfl, iaQ rfl (zac rfl rfl rfl (zaa 2 rfl rfl)) rfl, iaQ rfl (zau rfl) rfl, iaQ rfl (riQ 1 rfl rfl rfl rfl (zaf ((hd.at (k := k) (by omega)).p.at (k := i) (by omega)))) rfl, iaQ rfl (zan (u := .int .i64 (((((D.getD k md0).xs).getD i ix0).ps).getD j 0)) rfl rfl rfl (zaf ((hd.at (k := k) (by omega)).p.at (k := i) (by omega))) (zcn (show _ < ((((D.getD k md0).xs).getD i ix0).ps).length by omega))) rfl, .inl ⟨rfl, zaw rfl rfl (fun w hm => zbf (zel (D.getD k md0) (((((D.getD k md0).xs).getD i ix0).ps).getD j 0) w ((hd.at (k := k) (by omega)).below hm.bel)))⟩, .inl ⟨rfl, zdl (zcf rfl rfl rfl rfl) hb33⟩, iaQ rfl (zau rfl) rfl, iaQ rfl (fdQ 0 rfl rfl rfl) rfl, iaQ rfl (zac rfl rfl rfl (zaa 1 rfl rfl)) rfl, iaQ rfl (zau rfl) rfl, iaQ rfl (zau rfl) rfl, iaQ rfl (riQ 1 rfl rfl rfl rfl (zaj 0 rfl)) rfl, iaQ rfl (zan (u := .int .i64 ((ptsK (D.getD (((((D.getD k md0).xs).getD i ix0).m).toNat) md0)).getD j 0)) rfl rfl rfl (zaj 0 rfl) (zcn (show _ < (ptsK (D.getD (((((D.getD k md0).xs).getD i ix0).m).toNat) md0)).length by omega))) rfl, iaQ rfl (riQ 3 rfl rfl rfl rfl (zaf ((hd.at (k := ((((D.getD k md0).xs).getD i ix0).m).toNat) (by omega)).s))) rfl, iaQ rfl (zaq (k0 := 0) rfl rfl rfl (zaf ((hd.at (k := ((((D.getD k md0).xs).getD i ix0).m).toNat) (by omega)).s)) (by omega)) rfl, iaQ rfl (zan (u := .int .i64 ((((D.getD (((((D.getD k md0).xs).getD i ix0).m).toNat) md0).ss).getD (((ptsK (D.getD (((((D.getD k md0).xs).getD i ix0).m).toNat) md0)).getD j 0).toNat) sg0).k)) rfl rfl rfl (zaf ((hd.at (k := ((((D.getD k md0).xs).getD i ix0).m).toNat) (by omega)).s)) ((zbd sgC 3 (fun _ => rfl) ((D.getD (((((D.getD k md0).xs).getD i ix0).m).toNat) md0).ss) sg0 (show ((ptsK (D.getD (((((D.getD k md0).xs).getD i ix0).m).toNat) md0)).getD j 0).toNat < _ by omega) (by decide)).trans rfl)) rfl, .inl ⟨rfl, zdl (zcf rfl rfl rfl rfl) hb34⟩, iaQ rfl (zau rfl) rfl, iaQ rfl (zax (cs := [(D.getD k md0).sv, (D.getD k md0).av, (D.getD k md0).iv, (D.getD k md0).mv]) rfl rfl rfl rfl rfl (zat 3 rfl 0 rfl)) rfl, iaQ rfl (fdQ 2 rfl rfl rfl) rfl, iaQ rfl (zac rfl rfl rfl (zaa 2 rfl rfl)) rfl, iaQ rfl (zau rfl) rfl, iaQ rfl (riQ 1 rfl rfl rfl rfl (zaf ((hd.at (k := k) (by omega)).p.at (k := i) (by omega)))) rfl, iaQ rfl (zan (u := .int .i64 (((((D.getD k md0).xs).getD i ix0).ps).getD j 0)) rfl rfl rfl (zaf ((hd.at (k := k) (by omega)).p.at (k := i) (by omega))) (zcn (show _ < ((((D.getD k md0).xs).getD i ix0).ps).length by omega))) rfl, .inl ⟨rfl, rq_cb (zaw rfl rfl (fun w hm => zbf (zfl (D.getD k md0) (((((D.getD k md0).xs).getD i ix0).ps).getD j 0) w ((hd.at (k := k) (by omega)).below hm.bel)))) hb35⟩, iaQ rfl (zau rfl) rfl, iaQ rfl (zau rfl) rfl, iaQ rfl (zau rfl) rfl, trivial⟩
       simp only [List.drop_succ_cons, List.drop_zero]
       refine ntQ (fsQ rfl (zdh (reQ 1 rfl (hvQ rfl (vaQ rfl rfl rfl) (enQ 1 rfl ?_)))))
       exact zbs (j + 1) ⟨by omega, fun r hr9 => by by_cases e : r = j; (subst e; exact ⟨(zbp hsgA).1 (by omega), fun _ => by first | assumption | (exfalso; omega)⟩); exact hj9 r (by omega)⟩ (by omega) (saQ rfl) (pfQ rfl)
      have hb35p := zdt hb35
      have hpt := zdu (m := (D.getD (((((D.getD k md0).xs).getD i ix0).m).toNat) md0)) (j := j) (by omega)
      have hkd := zcp hpt
      refine zbz 30 [[], [], [1], [], [2, 3], [4], [0, 5], [6], [7], [8], [8, 9], [8], [8], [8, 11, 12], [8, 13], [8, 10, 14], [8, 15], [8, 16], [8, 17], [8, 18], [19], [19], [19, 21], [19], [19, 22, 23], [19, 24], [19, 20, 25], [19, 26], [8, 19, 27], [8, 28]] [137, 138, 139, 140, 141, 142, 143, 144, 145, 146, 147, 148, 149, 150, 151, 152, 153, 154, 155, 156, 157, 158, 159, 160, 161, 162, 163, 164, 165, 166] [.agg #[(D.getD k md0).sv, (D.getD k md0).av, (D.getD k md0).iv, (D.getD k md0).mv], .pointer (some ⟨b25, 0 + 2, none⟩), (((D.getD k md0).xs).getD i ix0).pv, .int .i64 (j : Int), elP ((((D.getD k md0).xs).getD i ix0).pv) (((j : Int)).toNat * 1), .int .i64 (((((D.getD k md0).xs).getD i ix0).ps).getD j 0), .int .i64 (knd (D.getD k md0) (((((D.getD k md0).xs).getD i ix0).ps).getD j 0)), .bool false, .bool false, .pointer (some ⟨b26, 0 + 0, none⟩), (D.getD (((((D.getD k md0).xs).getD i ix0).m).toNat) md0).sv, v27, .int .i64 (j : Int), elP v27 (((j : Int)).toNat * 1), .int .i64 ((ptsK (D.getD (((((D.getD k md0).xs).getD i ix0).m).toNat) md0)).getD j 0), elP ((D.getD (((((D.getD k md0).xs).getD i ix0).m).toNat) md0).sv) (((ptsK (D.getD (((((D.getD k md0).xs).getD i ix0).m).toNat) md0)).getD j 0).toNat * 3), elP ((D.getD (((((D.getD k md0).xs).getD i ix0).m).toNat) md0).sv) (((ptsK (D.getD (((((D.getD k md0).xs).getD i ix0).m).toNat) md0)).getD j 0).toNat * 3 + 0), .int .i64 ((((D.getD (((((D.getD k md0).xs).getD i ix0).m).toNat) md0).ss).getD (((ptsK (D.getD (((((D.getD k md0).xs).getD i ix0).m).toNat) md0)).getD j 0).toNat) sg0).k), .bool true, .bool true, .agg #[(D.getD k md0).sv, (D.getD k md0).av, (D.getD k md0).iv, (D.getD k md0).mv], .pointer (some ⟨b25, 0 + 2, none⟩), (((D.getD k md0).xs).getD i ix0).pv, .int .i64 (j : Int), elP ((((D.getD k md0).xs).getD i ix0).pv) (((j : Int)).toNat * 1), .int .i64 (((((D.getD k md0).xs).getD i ix0).ps).getD j 0), .bool false, .bool true, .bool true, .bool true] (by kernel_rfl) rfl ?_ ?_
      ·
       exact ⟨iaQ rfl (zax (cs := [(D.getD k md0).sv, (D.getD k md0).av, (D.getD k md0).iv, (D.getD k md0).mv]) rfl rfl rfl rfl rfl (zat 3 rfl 0 rfl)) rfl, iaQ rfl (fdQ 2 rfl rfl rfl) rfl, iaQ rfl (zac rfl rfl rfl (zaa 2 rfl rfl)) rfl, iaQ rfl (zau rfl) rfl, iaQ rfl (riQ 1 rfl rfl rfl rfl (zaf ((hd.at (k := k) (by omega)).p.at (k := i) (by omega)))) rfl, iaQ rfl (zan (u := .int .i64 (((((D.getD k md0).xs).getD i ix0).ps).getD j 0)) rfl rfl rfl (zaf ((hd.at (k := k) (by omega)).p.at (k := i) (by omega))) (zcn (show _ < ((((D.getD k md0).xs).getD i ix0).ps).length by omega))) rfl, .inl ⟨rfl, zaw rfl rfl (fun w hm => zbf (zel (D.getD k md0) (((((D.getD k md0).xs).getD i ix0).ps).getD j 0) w ((hd.at (k := k) (by omega)).below hm.bel)))⟩, .inl ⟨rfl, zdl (zcf rfl rfl rfl rfl) hb33⟩, iaQ rfl (zau rfl) rfl, iaQ rfl (fdQ 0 rfl rfl rfl) rfl, iaQ rfl (zac rfl rfl rfl (zaa 1 rfl rfl)) rfl, iaQ rfl (zau rfl) rfl, iaQ rfl (zau rfl) rfl, iaQ rfl (riQ 1 rfl rfl rfl rfl (zaj 0 rfl)) rfl, iaQ rfl (zan (u := .int .i64 ((ptsK (D.getD (((((D.getD k md0).xs).getD i ix0).m).toNat) md0)).getD j 0)) rfl rfl rfl (zaj 0 rfl) (zcn (show _ < (ptsK (D.getD (((((D.getD k md0).xs).getD i ix0).m).toNat) md0)).length by omega))) rfl, iaQ rfl (riQ 3 rfl rfl rfl rfl (zaf ((hd.at (k := ((((D.getD k md0).xs).getD i ix0).m).toNat) (by omega)).s))) rfl, iaQ rfl (zaq (k0 := 0) rfl rfl rfl (zaf ((hd.at (k := ((((D.getD k md0).xs).getD i ix0).m).toNat) (by omega)).s)) (by omega)) rfl, iaQ rfl (zan (u := .int .i64 ((((D.getD (((((D.getD k md0).xs).getD i ix0).m).toNat) md0).ss).getD (((ptsK (D.getD (((((D.getD k md0).xs).getD i ix0).m).toNat) md0)).getD j 0).toNat) sg0).k)) rfl rfl rfl (zaf ((hd.at (k := ((((D.getD k md0).xs).getD i ix0).m).toNat) (by omega)).s)) ((zbd sgC 3 (fun _ => rfl) ((D.getD (((((D.getD k md0).xs).getD i ix0).m).toNat) md0).ss) sg0 (show ((ptsK (D.getD (((((D.getD k md0).xs).getD i ix0).m).toNat) md0)).getD j 0).toNat < _ by omega) (by decide)).trans rfl)) rfl, .inl ⟨rfl, zdl (zcf rfl rfl rfl rfl) hb34⟩, iaQ rfl (zau rfl) rfl, iaQ rfl (zax (cs := [(D.getD k md0).sv, (D.getD k md0).av, (D.getD k md0).iv, (D.getD k md0).mv]) rfl rfl rfl rfl rfl (zat 3 rfl 0 rfl)) rfl, iaQ rfl (fdQ 2 rfl rfl rfl) rfl, iaQ rfl (zac rfl rfl rfl (zaa 2 rfl rfl)) rfl, iaQ rfl (zau rfl) rfl, iaQ rfl (riQ 1 rfl rfl rfl rfl (zaf ((hd.at (k := k) (by omega)).p.at (k := i) (by omega)))) rfl, iaQ rfl (zan (u := .int .i64 (((((D.getD k md0).xs).getD i ix0).ps).getD j 0)) rfl rfl rfl (zaf ((hd.at (k := k) (by omega)).p.at (k := i) (by omega))) (zcn (show _ < ((((D.getD k md0).xs).getD i ix0).ps).length by omega))) rfl, .inl ⟨rfl, rq_cb (zaw rfl rfl (fun w hm => zbf (zfl (D.getD k md0) (((((D.getD k md0).xs).getD i ix0).ps).getD j 0) w ((hd.at (k := k) (by omega)).below hm.bel)))) hb35⟩, iaQ rfl (zau rfl) rfl, iaQ rfl (zau rfl) rfl, iaQ rfl (zau rfl) rfl, trivial⟩
      simp only [List.drop_succ_cons, List.drop_zero]
      refine ntQ (zah rfl (zbg 1 rfl ?_))
      refine zao (zad ?_)
      refine zdv ?_
      refine zad (zad ?_)
      refine zdv ?_
      refine zad (zae ?_)
      exact zav rfl rfl (congrArg _ (zbv (fun hp => by first | (exact absurd (show CtsP D k from ⟨hp.lt, hp.cnt, hp.ins⟩) (by assumption)) | (have h9 := hp.sg i (by omega); obtain ⟨⟨h1, h2⟩, ⟨h3, h4⟩, ⟨h5, h6⟩, h7⟩ := h9; omega) | (have h9 := hp.dr i (by omega) (by omega); omega) | (exact absurd (hp.gs i (by omega)).2 (by assumption)) | (have h9 := (hp.gs i (by omega)).1; have h8 : ¬ Drv (D.getD k md0) ((D.getD k md0).gs.getD i as0).t := (by assumption); exact h8 (by first | exact .inl (by omega) | exact .inr (by omega))) | (have h9 := (hp.gs i (by omega)).1; have h8 : ¬ Drv (D.getD k md0) ((D.getD k md0).gs.getD i as0).t := (by assumption); unfold Drv at h8; omega) | (have h9 := (hp.xs i (by omega)).1; omega) | (have h9 := ((hp.xs i (by omega)).2 j (by omega)).1; have h8 := (zbp hsgA).2 h9; omega) | (have h9 := ((hp.xs i (by omega)).2 j (by omega)).2 (by omega); exact absurd h9 (by assumption)) | (obtain ⟨⟨h1, h2, h3⟩, h4⟩ := hp.ms i (by omega); have g1 := (zbp hsgA).2 h1; have g2 := (zbp hsgA).2 h2; have g3 := (zbp hsgA).2 h3; first | omega | exact absurd h4 (by assumption)))).symm)
     have hb34p : (((D.getD (((((D.getD k md0).xs).getD i ix0).m).toNat) md0).ss).getD (((ptsK (D.getD (((((D.getD k md0).xs).getD i ix0).m).toNat) md0)).getD j 0).toNat) sg0).k ≠ 1 := beq_eq_false_iff_ne.1 hb34
     have hpt := zdu (m := (D.getD (((((D.getD k md0).xs).getD i ix0).m).toNat) md0)) (j := j) (by omega)
     have hkd := zcp hpt
     refine zbz 30 [[], [], [1], [], [2, 3], [4], [0, 5], [6], [7], [8], [8, 9], [8], [8], [8, 11, 12], [8, 13], [8, 10, 14], [8, 15], [8, 16], [8, 17], [8, 18], [19], [19], [19], [19], [19], [19], [19], [19], [8, 19, 27], [8, 28]] [137, 138, 139, 140, 141, 142, 143, 144, 145, 146, 147, 148, 149, 150, 151, 152, 153, 154, 155, 156, 157, 158, 159, 160, 161, 162, 163, 164, 165, 166] [.agg #[(D.getD k md0).sv, (D.getD k md0).av, (D.getD k md0).iv, (D.getD k md0).mv], .pointer (some ⟨b25, 0 + 2, none⟩), (((D.getD k md0).xs).getD i ix0).pv, .int .i64 (j : Int), elP ((((D.getD k md0).xs).getD i ix0).pv) (((j : Int)).toNat * 1), .int .i64 (((((D.getD k md0).xs).getD i ix0).ps).getD j 0), .int .i64 (knd (D.getD k md0) (((((D.getD k md0).xs).getD i ix0).ps).getD j 0)), .bool false, .bool false, .pointer (some ⟨b26, 0 + 0, none⟩), (D.getD (((((D.getD k md0).xs).getD i ix0).m).toNat) md0).sv, v27, .int .i64 (j : Int), elP v27 (((j : Int)).toNat * 1), .int .i64 ((ptsK (D.getD (((((D.getD k md0).xs).getD i ix0).m).toNat) md0)).getD j 0), elP ((D.getD (((((D.getD k md0).xs).getD i ix0).m).toNat) md0).sv) (((ptsK (D.getD (((((D.getD k md0).xs).getD i ix0).m).toNat) md0)).getD j 0).toNat * 3), elP ((D.getD (((((D.getD k md0).xs).getD i ix0).m).toNat) md0).sv) (((ptsK (D.getD (((((D.getD k md0).xs).getD i ix0).m).toNat) md0)).getD j 0).toNat * 3 + 0), .int .i64 ((((D.getD (((((D.getD k md0).xs).getD i ix0).m).toNat) md0).ss).getD (((ptsK (D.getD (((((D.getD k md0).xs).getD i ix0).m).toNat) md0)).getD j 0).toNat) sg0).k), .bool false, .bool false, undef, undef, undef, undef, undef, undef, undef, undef, .bool false, .bool false] (by kernel_rfl) rfl ?_ ?_
     ·
      exact ⟨iaQ rfl (zax (cs := [(D.getD k md0).sv, (D.getD k md0).av, (D.getD k md0).iv, (D.getD k md0).mv]) rfl rfl rfl rfl rfl (zat 3 rfl 0 rfl)) rfl, iaQ rfl (fdQ 2 rfl rfl rfl) rfl, iaQ rfl (zac rfl rfl rfl (zaa 2 rfl rfl)) rfl, iaQ rfl (zau rfl) rfl, iaQ rfl (riQ 1 rfl rfl rfl rfl (zaf ((hd.at (k := k) (by omega)).p.at (k := i) (by omega)))) rfl, iaQ rfl (zan (u := .int .i64 (((((D.getD k md0).xs).getD i ix0).ps).getD j 0)) rfl rfl rfl (zaf ((hd.at (k := k) (by omega)).p.at (k := i) (by omega))) (zcn (show _ < ((((D.getD k md0).xs).getD i ix0).ps).length by omega))) rfl, .inl ⟨rfl, zaw rfl rfl (fun w hm => zbf (zel (D.getD k md0) (((((D.getD k md0).xs).getD i ix0).ps).getD j 0) w ((hd.at (k := k) (by omega)).below hm.bel)))⟩, .inl ⟨rfl, zdl (zcf rfl rfl rfl rfl) hb33⟩, iaQ rfl (zau rfl) rfl, iaQ rfl (fdQ 0 rfl rfl rfl) rfl, iaQ rfl (zac rfl rfl rfl (zaa 1 rfl rfl)) rfl, iaQ rfl (zau rfl) rfl, iaQ rfl (zau rfl) rfl, iaQ rfl (riQ 1 rfl rfl rfl rfl (zaj 0 rfl)) rfl, iaQ rfl (zan (u := .int .i64 ((ptsK (D.getD (((((D.getD k md0).xs).getD i ix0).m).toNat) md0)).getD j 0)) rfl rfl rfl (zaj 0 rfl) (zcn (show _ < (ptsK (D.getD (((((D.getD k md0).xs).getD i ix0).m).toNat) md0)).length by omega))) rfl, iaQ rfl (riQ 3 rfl rfl rfl rfl (zaf ((hd.at (k := ((((D.getD k md0).xs).getD i ix0).m).toNat) (by omega)).s))) rfl, iaQ rfl (zaq (k0 := 0) rfl rfl rfl (zaf ((hd.at (k := ((((D.getD k md0).xs).getD i ix0).m).toNat) (by omega)).s)) (by omega)) rfl, iaQ rfl (zan (u := .int .i64 ((((D.getD (((((D.getD k md0).xs).getD i ix0).m).toNat) md0).ss).getD (((ptsK (D.getD (((((D.getD k md0).xs).getD i ix0).m).toNat) md0)).getD j 0).toNat) sg0).k)) rfl rfl rfl (zaf ((hd.at (k := ((((D.getD k md0).xs).getD i ix0).m).toNat) (by omega)).s)) ((zbd sgC 3 (fun _ => rfl) ((D.getD (((((D.getD k md0).xs).getD i ix0).m).toNat) md0).ss) sg0 (show ((ptsK (D.getD (((((D.getD k md0).xs).getD i ix0).m).toNat) md0)).getD j 0).toNat < _ by omega) (by decide)).trans rfl)) rfl, .inl ⟨rfl, zdl (zcf rfl rfl rfl rfl) hb34⟩, iaQ rfl (zau rfl) rfl, .inr ⟨rfl, rfl⟩, .inr ⟨rfl, rfl⟩, .inr ⟨rfl, rfl⟩, .inr ⟨rfl, rfl⟩, .inr ⟨rfl, rfl⟩, .inr ⟨rfl, rfl⟩, .inr ⟨rfl, rfl⟩, .inr ⟨rfl, rfl⟩, iaQ rfl (zau rfl) rfl, iaQ rfl (zau rfl) rfl, trivial⟩
     simp only [List.drop_succ_cons, List.drop_zero]
     refine ntQ (fsQ rfl (zdh (reQ 1 rfl (hvQ rfl (vaQ rfl rfl rfl) (enQ 1 rfl ?_)))))
     exact zbs (j + 1) ⟨by omega, fun r hr9 => by by_cases e : r = j; (subst e; exact ⟨(zbp hsgA).1 (by omega), fun _ => by first | assumption | (exfalso; omega)⟩); exact hj9 r (by omega)⟩ (by omega) (saQ rfl) (pfQ rfl)
    refine ntQ (zap rfl ?_)
    refine zbj (zeb ?_)
    refine zal (zdh (reQ 1 rfl (hvQ rfl (vaQ rfl rfl rfl) (enQ 1 rfl ?_))))
    exact zbs (i + 1) ⟨by omega, fun q hq => by by_cases e : q = i; (subst e; exact ⟨⟨by omega, by omega⟩, fun r hr9 => hj9 r (by omega)⟩); exact hxs q (by omega)⟩ (by omega) (saQ rfl) (slQ [3, 0] rfl)
   have h30a := zcy h30
   refine zay 1 rfl (zah rfl (zbg 1 rfl ?_))
   refine zao (zae ?_)
   refine zad (zdv ?_)
   refine zad (zae ?_)
   exact zav rfl rfl (congrArg _ (zbv (fun hp => by first | (exact absurd (show CtsP D k from ⟨hp.lt, hp.cnt, hp.ins⟩) (by assumption)) | (have h9 := hp.sg i (by omega); obtain ⟨⟨h1, h2⟩, ⟨h3, h4⟩, ⟨h5, h6⟩, h7⟩ := h9; omega) | (have h9 := hp.dr i (by omega) (by omega); omega) | (exact absurd (hp.gs i (by omega)).2 (by assumption)) | (have h9 := (hp.gs i (by omega)).1; have h8 : ¬ Drv (D.getD k md0) ((D.getD k md0).gs.getD i as0).t := (by assumption); exact h8 (by first | exact .inl (by omega) | exact .inr (by omega))) | (have h9 := (hp.gs i (by omega)).1; have h8 : ¬ Drv (D.getD k md0) ((D.getD k md0).gs.getD i as0).t := (by assumption); unfold Drv at h8; omega) | (have h9 := (hp.xs i (by omega)).1; omega) | (have h9 := ((hp.xs i (by omega)).2 j (by omega)).1; have h8 := (zbp hsgA).2 h9; omega) | (have h9 := ((hp.xs i (by omega)).2 j (by omega)).2 (by omega); exact absurd h9 (by assumption)) | (obtain ⟨⟨h1, h2, h3⟩, h4⟩ := hp.ms i (by omega); have g1 := (zbp hsgA).2 h1; have g2 := (zbp hsgA).2 h2; have g3 := (zbp hsgA).2 h3; first | omega | exact absurd h4 (by assumption)))).symm)
  refine ntQ (zap rfl ?_)
  refine zbj (zeb ?_)
  refine zal (zba (zag (zbg 1 rfl (zaz ?_))))
  refine lkQ1 (α := Nat) [0, 1, 2, 4, 5, 20, 30, 78, 111] rfl (fun i => [boxE b3 #[(D.getD k md0).sv, (D.getD k md0).av, (D.getD k md0).iv, (D.getD k md0).mv] 35, boxE b1 #[v] 26]) (fun i => [(15, .int .i64 (i : Int))]) (fun i => i ≤ (D.getD k md0).ms.length ∧ ∀ q, q < i → MmP (D.getD k md0) ((D.getD k md0).ms.getD q mm0)) (fun i => (D.getD k md0).ms.length - i) 0 ⟨Nat.zero_le _, fun q hq => absurd hq (by omega)⟩ (saQ rfl) (pfQ rfl) ?_
  intro i hi36
  obtain ⟨hi, hms⟩ := hi36
  refine zag (zag (reQ 1 rfl (hvQ rfl (fdQ 3 rfl rfl rfl) (hvQ rfl (zac rfl rfl rfl (zaa 0 rfl rfl)) (hvQ rfl (lnQ rfl rfl rfl (zaf ((hd.at (k := k) (by omega)).m))) ?_)))))
  refine zbq rfl rfl rfl rfl rfl rfl (fun h37 => ?_) (fun h37 => ?_)
  ·
   refine ntQ (zah rfl (zcv (sbQ (srQ (hvQ rfl (fdQ 3 rfl rfl rfl) (hvQ rfl (zac rfl rfl rfl (zaa 0 rfl rfl)) (zam 1 rfl (hvQ rfl (riQ 4 rfl rfl rfl rfl (zaf ((hd.at (k := k) (by omega)).m))) ?_))))))))
   refine hvQ rfl (zbb (us := [.int .i64 ((((D.getD k md0).ms).getD i mm0).a), .int .i64 ((((D.getD k md0).ms).getD i mm0).d), .int .i64 ((((D.getD k md0).ms).getD i mm0).w), .int .i64 ((((D.getD k md0).ms).getD i mm0).o)]) rfl rfl rfl rfl (zaf ((hd.at (k := k) (by omega)).m)) (by omega) rfl (zbr mmC 4 (fun _ => rfl) ((D.getD k md0).ms) mm0 (show i < _ by omega) rfl)) (zdn rfl (zbl (z := .agg #[.int .i64 0, .int .i64 0, .int .i64 0, .int .i64 0]) rfl rfl) ?_)
   intro b38
   refine zbh (cs' := #[.int .i64 ((((D.getD k md0).ms).getD i mm0).a), .int .i64 ((((D.getD k md0).ms).getD i mm0).d), .int .i64 ((((D.getD k md0).ms).getD i mm0).w), .int .i64 ((((D.getD k md0).ms).getD i mm0).o)]) (i := 0) (off := 0) (us := [.int .i64 ((((D.getD k md0).ms).getD i mm0).a), .int .i64 ((((D.getD k md0).ms).getD i mm0).d), .int .i64 ((((D.getD k md0).ms).getD i mm0).w), .int .i64 ((((D.getD k md0).ms).getD i mm0).o)]) rfl rfl rfl rfl rfl rfl rfl (zab rfl (zab rfl (zab rfl (zab rfl zbc)))) rfl rfl rfl (ntQ (srQ (hvQ rfl (zax (cs := [(D.getD k md0).sv, (D.getD k md0).av, (D.getD k md0).iv, (D.getD k md0).mv]) rfl rfl rfl rfl rfl (zat 1 rfl 0 rfl)) (hvQ rfl (fdQ 0 rfl rfl rfl) (hvQ rfl (zac rfl rfl rfl (zaa 0 rfl rfl)) ?_)))))
   refine zem rfl (zaw rfl rfl (fun w hm => zbf (zel (D.getD k md0) ((((D.getD k md0).ms).getD i mm0).a) w ((hd.at (k := k) (by omega)).below hm.bel)))) (zbq rfl rfl rfl rfl rfl rfl (fun h39 => ?_) (fun h39 => ?_))
   ·
    refine zay 21 rfl (zah rfl (zbg 1 rfl ?_))
    refine zao (zad ?_)
    refine zdv ?_
    refine zad (zae ?_)
    exact zav rfl rfl (congrArg _ (zbv (fun hp => by first | (exact absurd (show CtsP D k from ⟨hp.lt, hp.cnt, hp.ins⟩) (by assumption)) | (have h9 := hp.sg i (by omega); obtain ⟨⟨h1, h2⟩, ⟨h3, h4⟩, ⟨h5, h6⟩, h7⟩ := h9; omega) | (have h9 := hp.dr i (by omega) (by omega); omega) | (exact absurd (hp.gs i (by omega)).2 (by assumption)) | (have h9 := (hp.gs i (by omega)).1; have h8 : ¬ Drv (D.getD k md0) ((D.getD k md0).gs.getD i as0).t := (by assumption); exact h8 (by first | exact .inl (by omega) | exact .inr (by omega))) | (have h9 := (hp.gs i (by omega)).1; have h8 : ¬ Drv (D.getD k md0) ((D.getD k md0).gs.getD i as0).t := (by assumption); unfold Drv at h8; omega) | (have h9 := (hp.xs i (by omega)).1; omega) | (have h9 := ((hp.xs i (by omega)).2 j (by omega)).1; have h8 := (zbp hsgA).2 h9; omega) | (have h9 := ((hp.xs i (by omega)).2 j (by omega)).2 (by omega); exact absurd h9 (by assumption)) | (obtain ⟨⟨h1, h2, h3⟩, h4⟩ := hp.ms i (by omega); have g1 := (zbp hsgA).2 h1; have g2 := (zbp hsgA).2 h2; have g3 := (zbp hsgA).2 h3; first | omega | exact absurd h4 (by assumption)))).symm)
   refine zam 1 rfl (hvQ rfl (zax (cs := [(D.getD k md0).sv, (D.getD k md0).av, (D.getD k md0).iv, (D.getD k md0).mv]) rfl rfl rfl rfl rfl (zat 1 rfl 0 rfl)) (hvQ rfl (fdQ 1 rfl rfl rfl) (hvQ rfl (zac rfl rfl rfl (zaa 0 rfl rfl)) ?_)))
   refine zem rfl (zaw rfl rfl (fun w hm => zbf (zel (D.getD k md0) ((((D.getD k md0).ms).getD i mm0).d) w ((hd.at (k := k) (by omega)).below hm.bel)))) (zbq rfl rfl rfl rfl rfl rfl (fun h40 => ?_) (fun h40 => ?_))
   ·
    refine enQ 15 rfl ?_
    refine zba (zah rfl (zbg 1 rfl ?_))
    refine zao (zad ?_)
    refine zdv ?_
    refine zad (zae ?_)
    exact zav rfl rfl (congrArg _ (zbv (fun hp => by first | (exact absurd (show CtsP D k from ⟨hp.lt, hp.cnt, hp.ins⟩) (by assumption)) | (have h9 := hp.sg i (by omega); obtain ⟨⟨h1, h2⟩, ⟨h3, h4⟩, ⟨h5, h6⟩, h7⟩ := h9; omega) | (have h9 := hp.dr i (by omega) (by omega); omega) | (exact absurd (hp.gs i (by omega)).2 (by assumption)) | (have h9 := (hp.gs i (by omega)).1; have h8 : ¬ Drv (D.getD k md0) ((D.getD k md0).gs.getD i as0).t := (by assumption); exact h8 (by first | exact .inl (by omega) | exact .inr (by omega))) | (have h9 := (hp.gs i (by omega)).1; have h8 : ¬ Drv (D.getD k md0) ((D.getD k md0).gs.getD i as0).t := (by assumption); unfold Drv at h8; omega) | (have h9 := (hp.xs i (by omega)).1; omega) | (have h9 := ((hp.xs i (by omega)).2 j (by omega)).1; have h8 := (zbp hsgA).2 h9; omega) | (have h9 := ((hp.xs i (by omega)).2 j (by omega)).2 (by omega); exact absurd h9 (by assumption)) | (obtain ⟨⟨h1, h2, h3⟩, h4⟩ := hp.ms i (by omega); have g1 := (zbp hsgA).2 h1; have g2 := (zbp hsgA).2 h2; have g3 := (zbp hsgA).2 h3; first | omega | exact absurd h4 (by assumption)))).symm)
   refine zam 2 rfl (hvQ rfl (zax (cs := [(D.getD k md0).sv, (D.getD k md0).av, (D.getD k md0).iv, (D.getD k md0).mv]) rfl rfl rfl rfl rfl (zat 1 rfl 0 rfl)) (hvQ rfl (fdQ 2 rfl rfl rfl) (hvQ rfl (zac rfl rfl rfl (zaa 0 rfl rfl)) ?_)))
   refine zem rfl (zaw rfl rfl (fun w hm => zbf (zel (D.getD k md0) ((((D.getD k md0).ms).getD i mm0).w) w ((hd.at (k := k) (by omega)).below hm.bel)))) (zbq rfl rfl rfl rfl rfl rfl (fun h41 => ?_) (fun h41 => ?_))
   ·
    refine zay 8 rfl (zah rfl (zag (reQ 1 rfl (?_))))
    refine ntQ ?_
    refine zao (zad ?_)
    refine zdv ?_
    refine zad (zae ?_)
    exact zav rfl rfl (congrArg _ (zbv (fun hp => by first | (exact absurd (show CtsP D k from ⟨hp.lt, hp.cnt, hp.ins⟩) (by assumption)) | (have h9 := hp.sg i (by omega); obtain ⟨⟨h1, h2⟩, ⟨h3, h4⟩, ⟨h5, h6⟩, h7⟩ := h9; omega) | (have h9 := hp.dr i (by omega) (by omega); omega) | (exact absurd (hp.gs i (by omega)).2 (by assumption)) | (have h9 := (hp.gs i (by omega)).1; have h8 : ¬ Drv (D.getD k md0) ((D.getD k md0).gs.getD i as0).t := (by assumption); exact h8 (by first | exact .inl (by omega) | exact .inr (by omega))) | (have h9 := (hp.gs i (by omega)).1; have h8 : ¬ Drv (D.getD k md0) ((D.getD k md0).gs.getD i as0).t := (by assumption); unfold Drv at h8; omega) | (have h9 := (hp.xs i (by omega)).1; omega) | (have h9 := ((hp.xs i (by omega)).2 j (by omega)).1; have h8 := (zbp hsgA).2 h9; omega) | (have h9 := ((hp.xs i (by omega)).2 j (by omega)).2 (by omega); exact absurd h9 (by assumption)) | (obtain ⟨⟨h1, h2, h3⟩, h4⟩ := hp.ms i (by omega); have g1 := (zbp hsgA).2 h1; have g2 := (zbp hsgA).2 h2; have g3 := (zbp hsgA).2 h3; first | omega | exact absurd h4 (by assumption)))).symm)
   refine zam 2 rfl (hvQ rfl (zax (cs := [(D.getD k md0).sv, (D.getD k md0).av, (D.getD k md0).iv, (D.getD k md0).mv]) rfl rfl rfl rfl rfl (zat 1 rfl 0 rfl)) (hvQ rfl (fdQ 3 rfl rfl rfl) (hvQ rfl (zac rfl rfl rfl (zaa 0 rfl rfl)) ?_)))
   refine zem rfl (zaw rfl rfl (fun w hm => zbf (zfl (D.getD k md0) ((((D.getD k md0).ms).getD i mm0).o) w ((hd.at (k := k) (by omega)).below hm.bel)))) (zbm (fun h42 => ?_) (fun h42 => ?_))
   ·
    have h42p := zes h42
    refine zay 2 rfl (fsQ rfl (zdh (reQ 1 rfl (hvQ rfl (vaQ rfl rfl rfl) (enQ 1 rfl ?_)))))
    exact zbs (i + 1) ⟨by omega, fun q hq => by by_cases e : q = i; (subst e; exact ⟨⟨(zbp hsgA).1 (by omega), (zbp hsgA).1 (by omega), (zbp hsgA).1 (by omega)⟩, by assumption⟩); exact hms q (by omega)⟩ (by omega) (saQ rfl) (slQ [1, 0] rfl)
   have h42p := zdt h42
   refine zay 2 rfl (zah rfl (zbg 1 rfl ?_))
   refine zao (zad ?_)
   refine zdv ?_
   refine zad (zae ?_)
   exact zav rfl rfl (congrArg _ (zbv (fun hp => by first | (exact absurd (show CtsP D k from ⟨hp.lt, hp.cnt, hp.ins⟩) (by assumption)) | (have h9 := hp.sg i (by omega); obtain ⟨⟨h1, h2⟩, ⟨h3, h4⟩, ⟨h5, h6⟩, h7⟩ := h9; omega) | (have h9 := hp.dr i (by omega) (by omega); omega) | (exact absurd (hp.gs i (by omega)).2 (by assumption)) | (have h9 := (hp.gs i (by omega)).1; have h8 : ¬ Drv (D.getD k md0) ((D.getD k md0).gs.getD i as0).t := (by assumption); exact h8 (by first | exact .inl (by omega) | exact .inr (by omega))) | (have h9 := (hp.gs i (by omega)).1; have h8 : ¬ Drv (D.getD k md0) ((D.getD k md0).gs.getD i as0).t := (by assumption); unfold Drv at h8; omega) | (have h9 := (hp.xs i (by omega)).1; omega) | (have h9 := ((hp.xs i (by omega)).2 j (by omega)).1; have h8 := (zbp hsgA).2 h9; omega) | (have h9 := ((hp.xs i (by omega)).2 j (by omega)).2 (by omega); exact absurd h9 (by assumption)) | (obtain ⟨⟨h1, h2, h3⟩, h4⟩ := hp.ms i (by omega); have g1 := (zbp hsgA).2 h1; have g2 := (zbp hsgA).2 h2; have g3 := (zbp hsgA).2 h3; first | omega | exact absurd h4 (by assumption)))).symm)
  refine ntQ (zap rfl ?_)
  refine zbj (zeb ?_)
  refine zal (zba (zbg 1 rfl ?_))
  exact zao (zav rfl rfl (congrArg _ (zdi ⟨hkl, hcnt, hins, hsgA, fun q hq => hgs q (by omega), fun q hq => hxs q (by omega), fun q hq => hms q (by omega), fun q hq => hdr q (by omega)⟩).symm))
 have h2p := zdt h2
 refine zay 1 rfl (zah rfl (zbg 1 rfl ?_))
 refine zao (zae ?_)
 exact zav rfl rfl (congrArg _ (zbv (fun hp => by first | (exact absurd (show CtsP D k from ⟨hp.lt, hp.cnt, hp.ins⟩) (by assumption)) | (have h9 := hp.sg i (by omega); obtain ⟨⟨h1, h2⟩, ⟨h3, h4⟩, ⟨h5, h6⟩, h7⟩ := h9; omega) | (have h9 := hp.dr i (by omega) (by omega); omega) | (exact absurd (hp.gs i (by omega)).2 (by assumption)) | (have h9 := (hp.gs i (by omega)).1; have h8 : ¬ Drv (D.getD k md0) ((D.getD k md0).gs.getD i as0).t := (by assumption); exact h8 (by first | exact .inl (by omega) | exact .inr (by omega))) | (have h9 := (hp.gs i (by omega)).1; have h8 : ¬ Drv (D.getD k md0) ((D.getD k md0).gs.getD i as0).t := (by assumption); unfold Drv at h8; omega) | (have h9 := (hp.xs i (by omega)).1; omega) | (have h9 := ((hp.xs i (by omega)).2 j (by omega)).1; have h8 := (zbp hsgA).2 h9; omega) | (have h9 := ((hp.xs i (by omega)).2 j (by omega)).2 (by omega); exact absurd h9 (by assumption)) | (obtain ⟨⟨h1, h2, h3⟩, h4⟩ := hp.ms i (by omega); have g1 := (zbp hsgA).2 h1; have g2 := (zbp hsgA).2 h2; have g3 := (zbp hsgA).2 h3; first | omega | exact absurd h4 (by assumption)))).symm)
theorem specDesignOk_ans (D : List Md) (v : Value) (w : World) (hd : RdsDs w v D) :
   Calls Try.prog 51 #[.agg #[v]] w (Ans w (.bool (pB (DesP D)))) := by
 have hd9 := sml hd.row
 refine zca (N := 20) (args := [.agg #[v]]) Try.func51 rfl rfl (srQ ?_)
 refine zdn rfl (zdm rfl rfl) ?_
 intro b1
 refine zay 1 rfl (zfi (hvQ rfl (fdQ 0 rfl rfl rfl) (hvQ rfl (zac rfl rfl rfl (zaa 0 rfl rfl)) (hvQ rfl (lnQ rfl rfl rfl (zaf hd.row)) ?_))))
 refine zem rfl (zaw rfl rfl (fun w hm => zbf (zfz (D.length : Int) 1 4 w))) (zbm (fun h2 => ?_) (fun h2 => ?_))
 ·
  obtain ⟨h2a, h2b⟩ := (zdc _ _ _).1 h2
  refine zay 1 rfl (zap rfl (zcv (zag (zbg 1 rfl ?_))))
  refine zaz ?_
  refine lkQ1 (α := Nat) [0, 1, 2, 8] rfl (fun k => [boxE b1 #[v] 26]) (fun k => [(3, .int .i64 (k : Int))]) (fun k => k ≤ D.length ∧ ∀ q, q < k → ModP D q) (fun k => D.length - k) 0 ⟨Nat.zero_le _, fun q hq => absurd hq (by omega)⟩ (saQ rfl) (pfQ rfl) ?_
  intro k hi3
  obtain ⟨hk, hall⟩ := hi3
  refine zag (zag (reQ 1 rfl (hvQ rfl (fdQ 0 rfl rfl rfl) (hvQ rfl (zac rfl rfl rfl (zaa 0 rfl rfl)) (hvQ rfl (lnQ rfl rfl rfl (zaf hd.row)) ?_)))))
  refine zbq rfl rfl rfl rfl rfl rfl (fun h4 => ?_) (fun h4 => ?_)
  ·
   refine ntQ (zah rfl (zcv (sbQ (srQ (hvQ rfl (zax (cs := [v]) rfl rfl rfl rfl rfl (zat 0 rfl 0 rfl)) (zam 1 rfl ?_))))))
   refine zem rfl (zaw rfl rfl (fun w hm => zbf (specModuleOk_ans D k v w (hd.below hm.bel) (by omega)))) (zbm (fun h5 => ?_) (fun h5 => ?_))
   ·
    have h5p := zes h5
    refine zay 1 rfl (fsQ rfl (zdh (reQ 1 rfl (hvQ rfl (vaQ rfl rfl rfl) (enQ 1 rfl ?_)))))
    exact zbs (k + 1) ⟨by omega, fun q hq => by by_cases e : q = k; (subst e; assumption); exact hall q (by omega)⟩ (by omega) (saQ rfl) (pfQ rfl)
   have h5p := zdt h5
   refine zay 1 rfl (zah rfl (zbg 1 rfl ?_))
   refine zao (zad ?_)
   refine zdv ?_
   refine zad (zae ?_)
   exact zav rfl rfl (congrArg _ (zbv (fun hp => by first | (have := hp.1; omega) | (exact absurd (hp.2 k (by omega)) (by assumption)))).symm)
  refine ntQ (zap rfl ?_)
  refine zbj (zeb ?_)
  refine zal (zba (zbg 1 rfl ?_))
  exact zao (zav rfl rfl (congrArg _ (zdi ⟨⟨by omega, by omega⟩, fun q hq => hall q (by omega)⟩).symm))
 have h2a := zcy h2
 refine zay 1 rfl (zah rfl (zbg 1 rfl ?_))
 refine zao (zae ?_)
 exact zav rfl rfl (congrArg _ (zbv (fun hp => by first | (have := hp.1; omega) | (exact absurd (hp.2 k (by omega)) (by assumption)))).symm)
theorem zdy (g : Nat) (a : Option Addr) (len cap : Nat) (z : List Int) (v : Value) (L : List Int) (w0 : World) (l : List HP) (w : World) (hm0 : Mem w0 (curE g a len cap :: l) w) (hb : BRow .u8 w0 a len cap z) (hv : Rd w0 l v 1 L.length (L.map (Value.int .i64))) (hL : 1 ≤ L.length ∧ L.length ≤ 256) :
   Calls Try.prog 85 #[.pointer (some ⟨g, 0, none⟩), v] w (fun e_ w_ => ∃ v_ p_, e_ = .returned v_ ∧ (fun u_ p_ => (∃ x : Int, u_ = .int .i64 x ∧ x ∈ L) ∧ p_ = curE g a len cap) v_ p_ ∧ Mem w0 (p_ :: l) w_) := by
 refine zfa (N := 12) (args := [.pointer (some ⟨g, 0, none⟩), v]) Try.func85 rfl rfl hm0 (zbg 1 rfl (zag (reQ 3 rfl ?_)))
 refine hvQ rfl (lnQ rfl rfl rfl (fun w hm => hv w (hm.sub (.cons _ (.refl _))))) (zcg (R := (fun u_ p_ => (∃ x_ : Int, u_ = .int .i64 x_ ∧ 0 ≤ x_ ∧ x_ < (L.length : Int)) ∧ p_ = curE g a len cap)) 0 rfl rfl rfl rfl rfl (fun l' w hm => zby g a len cap z (L.length : Int) _ _ _ hm hb (by constructor <;> omega)) ?_)
 intro v1 p2 hR3
 obtain ⟨⟨xhR3, rfl, xhR30, xhR31⟩, rfl⟩ := hR3
 refine zcl (l' := (curE g a len cap :: l)) rfl ?_
 refine hvQ rfl (riQ 1 rfl rfl rfl rfl (fun w hm => hv w (hm.sub (.cons _ (.refl _))))) (hvQ rfl (lzQ rfl rfl rfl (fun w hm => hv w (hm.sub (.cons _ (.refl _))))) ?_)
 refine zay 1 rfl ?_
 exact zao (zcx (rs := [.tmp 4]) (vs := [.int .i64 (L.getD ((xhR3).toNat) 0)]) rfl ⟨rfl, trivial⟩ rfl (fun w hm => ⟨_, curE g a len cap, rfl, ⟨⟨_, rfl, getD_mem' (es := L) (d := 0) (by omega)⟩, rfl⟩, hm.sub (.refl _)⟩))
end Go.Proofs.Ytodiifjigjnalaa
