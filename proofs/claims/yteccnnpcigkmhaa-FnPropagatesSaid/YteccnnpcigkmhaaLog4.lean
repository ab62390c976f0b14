/- The logic of states: a region whose order is open. -/
import Derived.Test.YteccnnpcigkmhaaLog3
import Derived.Orders
set_option linter.unusedVariables false
set_option linter.unusedSimpArgs false
namespace Go.Proofs.Yteccnnpcigkmhaa
open Go.RowKit
/-- what an operation waits for, straight -/
def depsOf (os : List Oper) (i : Nat) : List Nat := match os[i]? with | some o => (o.after.toList.filter (fun e => Region.binds .any e)).map (·.on) | none => []
def msk : List (List Nat) → List Nat → List Nat
  | [], acc => acc
  | ds :: r, acc => msk r (acc ++ [ds.foldl (fun s d => s ||| 2 ^ d ||| acc.getD d 0) 0])
/-- i waits for j, by one step or more -/
inductive Dep (os : List Oper) : Nat → Nat → Prop
  | one {i j : Nat} : j ∈ depsOf os i → Dep os i j
  | more {i k j : Nat} : k ∈ depsOf os i → Dep os k j → Dep os i j
theorem fold_mask (acc : List Nat) (j : Nat) : ∀ (ds : List Nat) (s : Nat), (ds.foldl (fun s d => s ||| 2 ^ d ||| acc.getD d 0) s).testBit j = true → s.testBit j = true ∨ ∃ d ∈ ds, d = j ∨ (acc.getD d 0).testBit j = true
  | [], s, h => .inl h
  | d :: ds, s, h => by
    rcases fold_mask acc j ds _ h with h1 | ⟨e, he, h1⟩
    · rw [Nat.testBit_or, Nat.testBit_or, Bool.or_eq_true, Bool.or_eq_true, Nat.testBit_two_pow] at h1
      rcases h1 with (h1 | h1) | h1
      · exact .inl h1
      · exact .inr ⟨d, by simp, .inl (by simpa using h1)⟩
      · exact .inr ⟨d, by simp, .inr h1⟩
    · exact .inr ⟨e, by simp [he], h1⟩
theorem msk_dep (os : List Oper) : ∀ (r : List (List Nat)) (acc : List Nat), (∀ t ds, r[t]? = some ds → ∀ d ∈ ds, d ∈ depsOf os (acc.length + t)) → (∀ i j, (acc.getD i 0).testBit j = true → Dep os i j) → ∀ i j, ((msk r acc).getD i 0).testBit j = true → Dep os i j
  | [], acc, _, h, i, j, hb => h i j hb
  | ds :: r, acc, hr, h, i, j, hb => by
    refine msk_dep os r _ (fun t es ht d hd => ?_) (fun i j hb => ?_) i j hb
    · have := hr (t + 1) es (by simpa using ht) d hd
      rw [List.length_append]
      rw [show acc.length + [ds.foldl (fun s d => s ||| 2 ^ d ||| acc.getD d 0) 0].length + t = acc.length + (t + 1) by simp; omega]
      exact this
    · by_cases hi : i < acc.length
      · refine h i j ?_
        rw [List.getD_eq_getElem?_getD, List.getElem?_append_left hi, ← List.getD_eq_getElem?_getD] at hb
        exact hb
      · by_cases hi2 : i = acc.length
        · subst hi2
          rw [List.getD_eq_getElem?_getD, List.getElem?_append_right (Nat.le_refl _), Nat.sub_self] at hb
          simp only [List.getElem?_cons_zero, Option.getD_some] at hb
          rcases fold_mask acc j ds 0 hb with h1 | ⟨d, hd, h1⟩
          · simp at h1
          · have h2 := hr 0 ds rfl d hd
            rw [Nat.add_zero] at h2
            rcases h1 with rfl | h1
            · exact .one h2
            · exact .more h2 (h d j h1)
        · rw [List.getD_eq_getElem?_getD, List.getElem?_append_right (by omega), List.getElem?_eq_none (by simp; omega)] at hb
          simp at hb
/-- all that can be checked of a region's text: m quiet operations, then a tail in order -/
def drawOk (os : List Oper) (m : Nat) (dps : List (List Nat)) (dsts : List Nat) : Bool :=
  Nat.ble m os.length &&
  (List.range os.length).all (fun i => (depsOf os i).all (fun j => Nat.blt j i)) &&
  (List.range os.length).all (fun k => Nat.blt k m || (List.range m).all (fun j => ((msk ((List.range os.length).map (depsOf os)) []).getD k 0).testBit j)) &&
  (List.range (os.length - m)).all (fun t => Region.ready .any os.toArray (List.replicate (m + t) true ++ List.replicate (os.length - (m + t)) false).toArray == [m + t]) &&
  (os.take m).map (·.dst) == dsts.map some && decide (dsts.Nodup) &&
  (List.range m).all (fun i => (dps.getD i []).all (fun j => ((msk ((List.range os.length).map (depsOf os)) []).getD i 0).testBit j) && decide ((dps.getD i []).Nodup))
/-- one operation's due -/
def Obl (P : Program) (ops : Array Oper) (N : Nat) (w0 : World) (l : List HP) (env : List (Nat × Value)) (o : Oper) (R : Value → List HP → Prop) : Prop :=
  (want ops env o.guard = some true ∧ RunQ P N w0 l env o R) ∨ (want ops env o.guard = some false ∧ R undef [])
theorem pick_perm : ∀ (dp ord : List Nat), dp.Nodup → (∀ j ∈ dp, j ∈ ord) → ∃ r, ord.Perm (dp ++ r)
  | [], ord, _, _ => ⟨ord, .refl _⟩
  | j :: dp, ord, hn, hs => by
    obtain ⟨r, hr⟩ := pick_perm dp ord (List.nodup_cons.1 hn).2 (fun k hk => hs k (by simp [hk]))
    have hj : j ∈ dp ++ r := hr.mem_iff.1 (hs j (by simp))
    have hjr : j ∈ r := by
      rcases List.mem_append.1 hj with h | h
      · exact absurd h (List.nodup_cons.1 hn).1
      · exact h
    exact ⟨r.erase j, hr.trans (((List.perm_cons_erase hjr).append_left dp).trans List.perm_middle)⟩
theorem Mem.pick {w0 w : World} {l : List HP} {pf : Nat → List HP} {dp ord : List Nat} (h : Mem w0 (ord.flatMap pf ++ l) w) (hn : dp.Nodup) (hs : ∀ j ∈ dp, j ∈ ord) : Mem w0 (dp.flatMap pf ++ l) w := by
  obtain ⟨r, hr⟩ := pick_perm dp ord hn hs
  have h1 := h.perm ((hr.flatMap_right pf).append_right l)
  rw [List.flatMap_append] at h1
  exact h1.sub (((List.sublist_append_left _ _)).append_right l)
section
variable {P : Program} {N : Nat} {w0 : World} {l : List HP} {env : List (Nat × Value)} {Q : Post} {os : List Oper} {m : Nat} {dps : List (List Nat)} {dsts : List Nat} {R : Nat → List Value → Value → List HP → Prop}
def preT (n k : Nat) : Array Bool := (List.replicate k true ++ List.replicate (n - k) false).toArray
theorem preT_get (n k i : Nat) (hk : k ≤ n) (hi : i < n) : (preT n k).getD i true = decide (i < k) := by
  unfold preT
  simp only [Array.getD_eq_getD_getElem?, List.getElem?_toArray]
  by_cases h : i < k
  · rw [List.getElem?_append_left (by simpa using h)]; simp [h]
  · rw [List.getElem?_append_right (by simpa using h), List.getElem?_eq_getElem (by simp; omega)]; simp [h]
theorem preT_size (n k : Nat) (hk : k ≤ n) : (preT n k).size = n := by unfold preT; simp; omega
theorem preT_set (n k : Nat) (hk : k < n) : (preT n k).setIfInBounds k true = preT n (k + 1) := by
  apply Array.ext
  · simp [preT_size n k (by omega), preT_size n (k + 1) (by omega)]
  · intro i h1 h2
    have hi : i < n := by rw [preT_size n (k + 1) (by omega)] at h2; exact h2
    have e1 := preT_get n k i (by omega) hi
    have e2 := preT_get n (k + 1) i (by omega) hi
    rw [Array.getD_eq_getD_getElem?, Array.getElem?_eq_getElem (by rw [preT_size n k (by omega)]; exact hi)] at e1
    rw [Array.getD_eq_getD_getElem?, Array.getElem?_eq_getElem h2] at e2
    simp only [Option.getD_some] at e1 e2
    rw [e2, Array.getElem_setIfInBounds]
    · split
      · rename_i h; subst h; simp
      · rw [e1]; rw [decide_eq_decide]; omega
    · rw [preT_size n k (by omega)]; exact hi
/-- the tail, once the quiet part is done -/
theorem tail_any (hr : ∀ k, m ≤ k → k < os.length → Region.ready .any os.toArray (preT os.length k) = [k]) : ∀ (f k : Nat), m ≤ k → f + k = os.length → ∀ a w, wpList P os.toArray Q (os.drop k) a w → wpAny P .any os.toArray Q f (preT os.length k) a w
  | 0, k, hk, hf, a, w, h => by
    have : os.drop k = [] := List.drop_eq_nil_of_le (by omega)
    rw [this] at h
    refine ⟨?_, h⟩
    unfold Region.ready
    rw [List.filter_eq_nil_iff]
    intro i hi
    rw [List.mem_range] at hi
    simp only [List.size_toArray] at hi
    rw [preT_get _ _ i (by omega) (by omega)]
    simp [show i < k by omega]
  | f + 1, k, hk, hf, a, w, h => by
    have hlt : k < os.length := by omega
    have hd : os.drop k = os[k] :: os.drop (k + 1) := List.drop_eq_getElem_cons hlt
    rw [hd] at h
    refine ⟨fun h0 => (by rw [hr k hk hlt] at h0; cases h0), fun i hi => ?_⟩
    rw [hr k hk hlt, List.mem_singleton] at hi
    subst hi
    unfold wpOp
    have ho : os.toArray[i]? = some os[i] := by simp [hlt]
    rw [ho]
    unfold wpList at h
    rw [preT_set _ _ hlt]
    have ih := tail_any hr f (i + 1) (by omega) (by omega)
    simp only
    split
    · rename_i hw
      rw [if_pos hw] at h
      exact h.imp (Oper.wp_mono fun a w hh => ih a w hh) id
    · rename_i hw
      rw [if_neg hw] at h
      exact ih _ _ h
/-- where the quiet part stands -/
structure Mid (N : Nat) (w0 : World) (l : List HP) (env : List (Nat × Value)) (os : List Oper) (m : Nat) (dps : List (List Nat)) (dsts : List Nat) (R : Nat → List Value → Value → List HP → Prop) (listed : Array Bool) (ord : List Nat) (vf : Nat → Value) (pf : Nat → List HP) (a : Act) (w : World) : Prop where
  size : listed.size = os.length
  iff : ∀ i, i < os.length → (listed.getD i true = true ↔ i ∈ ord)
  low : ∀ i ∈ ord, i < m
  closed : ∀ i ∈ ord, ∀ j ∈ depsOf os i, j ∈ ord
  nodup : ord.Nodup
  dcl : ∀ i ∈ ord, ∀ j ∈ dps.getD i [], j ∈ ord
  rel : ∀ i ∈ ord, R i ((dps.getD i []).map vf) (vf i) (pf i)
  mem : Mem w0 (ord.flatMap pf ++ l) w
  asize : a.tmps.size = N
  defers : a.defers = []
  env : ∀ d v, lk env d = some v → a.tmps[d]? = some v
  slots : ∀ i ∈ ord, ∀ d, dsts[i]? = some d → a.tmps[d]? = some (vf i)
def envOf (dsts : List Nat) (vf : Nat → Value) (is : List Nat) : List (Nat × Value) := is.map fun i => (dsts.getD i 0, vf i)
theorem lk_append (e1 e2 : List (Nat × Value)) (d : Nat) (v : Value) (h : lk (e1 ++ e2) d = some v) : (d, v) ∈ e1 ∨ lk e2 d = some v := by
  induction e1 with
  | nil => exact .inr h
  | cons p e1 ih =>
    obtain ⟨k, u⟩ := p
    rw [List.cons_append] at h
    unfold lk at h
    cases e : Nat.beq k d with
    | true => rw [e] at h; simp at h; subst h; rw [Nat.eq_of_beq_eq_true e]; exact .inl List.mem_cons_self
    | false =>
      rw [e] at h
      rcases ih h with h | h
      · exact .inl (List.mem_cons_of_mem _ h)
      · exact .inr h
theorem Mid.st {listed ord vf pf a w} (h : Mid N w0 l env os m dps dsts R listed ord vf pf a w) (hm : m ≤ dsts.length) {is : List Nat} (hn : is.Nodup) (hs : ∀ j ∈ is, j ∈ ord) : St N w0 (is.flatMap pf ++ l) (envOf dsts vf is ++ env) a w := by
  refine ⟨h.mem.pick hn hs, h.asize, h.defers, fun d v hd => ?_⟩
  rcases lk_append _ _ _ _ hd with h1 | h1
  · unfold envOf at h1
    rw [List.mem_map] at h1
    obtain ⟨i, hi, he⟩ := h1
    have hio := hs i hi
    have hlt := h.low i hio
    have : dsts[i]? = some (dsts.getD i 0) := by rw [List.getD_eq_getElem?_getD, List.getElem?_eq_getElem (by omega)]; rfl
    simp only [Prod.mk.injEq] at he
    obtain ⟨rfl, rfl⟩ := he
    exact h.slots i hio _ this
  · exact h.env d v h1
theorem hc_drawn {id : Nat} (hmix : P.follows .mixedOrders = true) (m : Nat) (dps : List (List Nat)) (dsts : List Nat) (R : Nat → List Value → Value → List HP → Prop) (hok : drawOk os m dps dsts = true) (hfresh : dsts.all (fun d => (lk env d).isNone) = true) (hN : dsts.all (fun d => Nat.blt d N) = true)
    (due : ∀ i o, os[i]? = some o → i < m → ∀ vf pf, (∀ j ∈ dps.getD i [], R j ((dps.getD j []).map vf) (vf j) (pf j)) → Obl P os.toArray N w0 ((dps.getD i []).flatMap pf ++ l) (envOf dsts vf (dps.getD i []) ++ env) o (R i ((dps.getD i []).map vf)))
    (fin : ∀ vf pf, (∀ i, i < m → R i ((dps.getD i []).map vf) (vf i) (pf i)) → HL P N os.toArray w0 ((List.range m).flatMap pf ++ l) (envOf dsts vf (List.range m) ++ env) (os.drop m) Q) : HC P N w0 l env (.region id os.toArray true) Q := by
  intro a w st
  refine wp_region_any hmix ?_
  simp only [drawOk, Bool.and_eq_true, Nat.ble_eq, List.all_eq_true, List.mem_range, Bool.or_eq_true, Nat.blt_eq, beq_iff_eq, decide_eq_true_eq, Array.all_eq_true'] at hok
  obtain ⟨⟨⟨⟨⟨⟨hml, hback⟩, hcov⟩, hready⟩, hdst⟩, hdn⟩, hdp⟩ := hok
  have hml' : m ≤ dsts.length := by have := congrArg List.length hdst; simp at this; omega
  have hlen : dsts.length = m := by have := congrArg List.length hdst; simp at this; omega
  have hrdy : ∀ k, m ≤ k → k < os.length → Region.ready .any os.toArray (preT os.length k) = [k] := fun k h1 h2 => by
    have := hready (k - m) (by omega)
    rw [show m + (k - m) = k by omega] at this
    exact this
  have hmsk : ∀ i j, ((msk ((List.range os.length).map (depsOf os)) []).getD i 0).testBit j = true → Dep os i j := msk_dep os _ _ (fun t ds ht d hd => by
    rw [List.getElem?_map] at ht
    by_cases h : t < os.length
    · rw [List.getElem?_range h] at ht; simp at ht; subst ht; simpa using hd
    · rw [List.getElem?_eq_none (by simp; omega)] at ht; cases ht) (fun i j h => by simp at h)
  have dstAt : ∀ i, i < m → ∀ o, os[i]? = some o → o.dst = some (dsts.getD i 0) := fun i hi o ho => by
    have h1 : ((os.take m).map (·.dst))[i]? = some o.dst := by rw [List.getElem?_map, List.getElem?_take, if_pos hi, ho]; rfl
    rw [hdst, List.getElem?_map] at h1
    rw [List.getD_eq_getElem?_getD]
    rw [List.getElem?_eq_getElem (by omega)] at h1 ⊢
    simp at h1 ⊢
    exact h1.symm
  -- what may come up
  have key : ∀ (f : Nat) (listed : Array Bool) (ord : List Nat) (vf : Nat → Value) (pf : Nat → List HP) (a : Act) (w : World), f + ord.length = os.length → Mid N w0 l env os m dps dsts R listed ord vf pf a w → wpAny P .any os.toArray Q f listed a w := by
    intro f
    induction f with
    | zero =>
      intro listed ord vf pf a w hf h
      -- all are listed: m = the length
      have hall : ∀ i, i < os.length → i ∈ ord := by
        intro i hi
        have hsub : ord.Perm (List.range os.length) ∨ True := .inr trivial
        obtain ⟨r, hr⟩ := pick_perm ord (List.range os.length) h.nodup (fun j hj => by have := h.low j hj; simp; omega)
        have hl := hr.length_eq
        simp at hl
        have : r = [] := List.length_eq_zero_iff.1 (by omega)
        subst this
        have := hr.mem_iff.1 (List.mem_range.2 hi)
        simpa using this
      have hm2 : m = os.length := by
        by_cases hc : m < os.length
        · have := h.low m (hall m hc); omega
        · omega
      have hp : listed = preT os.length m := by
        apply Array.ext
        · rw [h.size, preT_size _ _ hml]
        · intro i h1 h2
          have hi : i < os.length := by rw [h.size] at h1; exact h1
          have e1 := (h.iff i hi).2 (hall i hi)
          have e2 := preT_get os.length m i hml hi
          rw [Array.getD_eq_getD_getElem?, Array.getElem?_eq_getElem h1] at e1
          rw [Array.getD_eq_getD_getElem?, Array.getElem?_eq_getElem h2] at e2
          simp only [Option.getD_some] at e1 e2
          rw [e1, e2]; simp; omega
      rw [hp]
      refine tail_any hrdy 0 m (Nat.le_refl _) (by omega) a w ?_
      exact fin vf pf (fun i hi => h.rel i (hall i (by omega))) a w (h.st hml' List.nodup_range (fun j hj => hall j (by rw [List.mem_range] at hj; omega)))
    | succ f ih =>
      intro listed ord vf pf a w hf h
      by_cases hall : ∀ i, i < m → i ∈ ord
      · -- the tail's turn
        have hp : listed = preT os.length m := by
          apply Array.ext
          · rw [h.size, preT_size _ _ hml]
          · intro i h1 h2
            have hi : i < os.length := by rw [h.size] at h1; exact h1
            have e1 := h.iff i hi
            have e2 := preT_get os.length m i hml hi
            rw [Array.getD_eq_getD_getElem?, Array.getElem?_eq_getElem h1] at e1
            rw [Array.getD_eq_getD_getElem?, Array.getElem?_eq_getElem h2] at e2
            simp only [Option.getD_some] at e1 e2
            rw [e2, Bool.eq_iff_iff, e1, decide_eq_true_eq]
            exact ⟨fun hx => h.low i hx, fun hx => hall i hx⟩
        have hord : ord.length = m := by
          obtain ⟨r, hr⟩ := pick_perm ord (List.range m) h.nodup (fun j hj => by have := h.low j hj; simpa using this)
          obtain ⟨r', hr'⟩ := pick_perm (List.range m) ord List.nodup_range (fun j hj => hall j (by simpa using hj))
          have h1 := hr.length_eq
          have h2 := hr'.length_eq
          simp at h1 h2
          omega
        rw [hp]
        refine tail_any hrdy (f + 1) m (Nat.le_refl _) (by omega) a w ?_
        exact fin vf pf (fun i hi => h.rel i (hall i hi)) a w (h.st hml' List.nodup_range (fun j hj => hall j (by simpa using hj)))
      · -- some quiet one is not done yet
        have hsome : ∃ i, i < m ∧ i ∉ ord := by
          by_cases hx : ∃ i, i < m ∧ i ∉ ord
          · exact hx
          · exact absurd (fun i hi => Decidable.byContradiction fun hn => hx ⟨i, hi, hn⟩) hall
        have mem_rdy : ∀ i, i ∈ Region.ready .any os.toArray listed ↔ i < os.length ∧ i ∉ ord ∧ ∀ j ∈ depsOf os i, j ∈ ord := by
          intro i
          unfold Region.ready
          rw [List.mem_filter, List.mem_range]
          simp only [List.size_toArray]
          constructor
          · rintro ⟨hi, hb⟩
            rw [Bool.and_eq_true] at hb
            have hno : i ∉ ord := fun hx => by rw [(h.iff i hi).2 hx] at hb; simp at hb
            refine ⟨hi, hno, fun j hj => ?_⟩
            have ho : os.toArray[i]? = some os[i] := by simp [hi]
            rw [ho] at hb
            simp only [Option.map_some, Option.getD_some, Array.all_eq_true'] at hb
            unfold depsOf at hj
            rw [List.getElem?_eq_getElem hi] at hj
            simp only [List.mem_map, List.mem_filter] at hj
            obtain ⟨e, ⟨he, hbd⟩, rfl⟩ := hj
            have hb2 := hb.2 e (by simpa using he)
            rw [hbd] at hb2
            simp at hb2
            have hlt := hback i hi e.on (by unfold depsOf; rw [List.getElem?_eq_getElem hi]; exact List.mem_map.2 ⟨e, List.mem_filter.2 ⟨he, hbd⟩, rfl⟩)
            refine (h.iff e.on (by omega)).1 ?_
            have hs : e.on < listed.size := by rw [h.size]; omega
            rw [Array.getD_eq_getD_getElem?, Array.getElem?_eq_getElem hs] 
            simp only [Option.getD_some]
            rw [Array.getElem?_eq_getElem hs] at hb2
            simpa using hb2
          · rintro ⟨hi, hno, hd⟩
            refine ⟨hi, ?_⟩
            have ho : os.toArray[i]? = some os[i] := by simp [hi]
            rw [ho]
            simp only [Option.map_some, Option.getD_some, Bool.and_eq_true, Array.all_eq_true']
            refine ⟨?_, fun e he => ?_⟩
            · cases hb : listed.getD i true with
              | true => exact absurd ((h.iff i hi).1 hb) hno
              | false => rfl
            · rw [Bool.or_eq_true]
              by_cases hbd : Region.binds .any e = true
              rotate_left
              · left; simpa using hbd
              right
              have hon : e.on ∈ depsOf os i := by unfold depsOf; rw [List.getElem?_eq_getElem hi]; exact List.mem_map.2 ⟨e, List.mem_filter.2 ⟨by simpa using he, hbd⟩, rfl⟩
              have hlt := hback i hi e.on hon
              have := (h.iff e.on (by omega)).2 (hd e.on hon)
              have hs : e.on < listed.size := by rw [h.size]; omega
              rw [Array.getD_eq_getD_getElem?, Array.getElem?_eq_getElem hs] at this
              simp only [Option.getD_some] at this
              rw [Array.getD_eq_getD_getElem?, Array.getElem?_eq_getElem hs]
              simpa using this
        have hdep : ∀ k j, Dep os k j → (∀ d ∈ depsOf os k, d ∈ ord) → j ∈ ord := by
          intro k j hd
          induction hd with
          | one hj => intro hx; exact hx _ hj
          | more hk _ ih2 => intro hx; exact ih2 (fun d hd => h.closed _ (hx _ hk) d hd)
        have hlow : ∀ i ∈ Region.ready .any os.toArray listed, i < m := by
          intro i hi
          obtain ⟨h1, h2, h3⟩ := (mem_rdy i).1 hi
          by_cases hc : i < m
          · exact hc
          · exfalso
            obtain ⟨q, hq, hqn⟩ := hsome
            rcases hcov i h1 with h4 | h4
            · exact hc h4
            · exact hqn (hdep i q (hmsk i q (h4 q hq)) h3)
        refine ⟨fun h0 => ?_, fun i hi => ?_⟩
        · -- the least one that is not done may come up
          exfalso
          obtain ⟨q, hq, hqn⟩ := hsome
          obtain ⟨p, hp, hmin⟩ := exists_least (p := fun i => i < m ∧ i ∉ ord) ⟨q, hq, hqn⟩
          have : p ∈ Region.ready .any os.toArray listed := by
            rw [mem_rdy]
            refine ⟨by omega, hp.2, fun j hj => ?_⟩
            have hlt := hback p (by omega) j hj
            apply Decidable.byContradiction
            intro hn
            have := hmin j ⟨by omega, hn⟩
            omega
          rw [h0] at this
          cases this
        · have him := hlow i hi
          obtain ⟨h1, h2, h3⟩ := (mem_rdy i).1 hi
          have ho : os[i]? = some os[i] := List.getElem?_eq_getElem h1
          have hdps := hdp i him
          have hsub : ∀ j ∈ dps.getD i [], j ∈ ord := fun j hj => hdep i j (hmsk i j (hdps.1 j hj)) h3
          have hst := h.st hml' hdps.2 hsub
          have hobl := due i os[i] ho him vf pf (fun j hj => h.rel j (hsub j hj))
          have hdd := dstAt i him _ ho
          have hdlt : dsts.getD i 0 < N := by
            have := List.all_eq_true.1 hN (dsts.getD i 0) (by rw [List.getD_eq_getElem?_getD, List.getElem?_eq_getElem (by omega)]; exact List.getElem_mem _)
            simpa [Nat.blt_eq] using this
          have hdnone : lk env (dsts.getD i 0) = none := by
            have := List.all_eq_true.1 hfresh (dsts.getD i 0) (by rw [List.getD_eq_getElem?_getD, List.getElem?_eq_getElem (by omega)]; exact List.getElem_mem _)
            simpa using this
          have next : ∀ v post w', R i ((dps.getD i []).map vf) v post → Mem w post w' → wpAny P .any os.toArray Q f (listed.setIfInBounds i true) (a.put (some (dsts.getD i 0)) v) w' := by
            intro v post w' hv hm
            have hne : ∀ j ∈ ord, j ≠ i := fun j hj e => h2 (e ▸ hj)
            refine ih (listed.setIfInBounds i true) (i :: ord) (fun k => if k = i then v else vf k) (fun k => if k = i then post else pf k) _ w' (by simp; omega) ⟨?_, ?_, ?_, ?_, ?_, ?_, ?_, ?_, ?_, ?_, ?_, ?_⟩
            · simp [h.size]
            · intro k hk
              by_cases hki : k = i
              · subst hki
                have hs : k < listed.size := by rw [h.size]; exact hk
                simp [Array.getD_eq_getD_getElem?, hs]
              · rw [getD_set_ne true (fun e => hki e.symm), h.iff k hk]
                simp [hki]
            · intro k hk; rcases List.mem_cons.1 hk with rfl | hk; exact him; exact h.low k hk
            · intro k hk j hj
              rcases List.mem_cons.1 hk with rfl | hk
              · exact List.mem_cons_of_mem _ (h3 j hj)
              · exact List.mem_cons_of_mem _ (h.closed k hk j hj)
            · exact List.nodup_cons.2 ⟨h2, h.nodup⟩
            · intro k hk j hj
              rcases List.mem_cons.1 hk with rfl | hk
              · exact List.mem_cons_of_mem _ (hsub j hj)
              · exact List.mem_cons_of_mem _ (h.dcl k hk j hj)
            · intro k hk
              rcases List.mem_cons.1 hk with rfl | hk
              · have e : (dps.getD k []).map (fun j => if j = k then v else vf j) = (dps.getD k []).map vf := List.map_congr_left fun j hj => if_neg (hne j (hsub j hj))
                rw [e, if_pos rfl, if_pos rfl]; exact hv
              · have e : (dps.getD k []).map (fun j => if j = i then v else vf j) = (dps.getD k []).map vf := List.map_congr_left fun j hj => if_neg (hne j (h.dcl k hk j hj))
                rw [e, if_neg (hne k hk), if_neg (hne k hk)]; exact h.rel k hk
            · have e : (i :: ord).flatMap (fun k => if k = i then post else pf k) = post ++ ord.flatMap pf := by
                rw [List.flatMap_cons, if_pos rfl]
                congr 1
                rw [List.flatMap_def, List.flatMap_def]
                congr 1
                refine List.map_congr_left fun k hk => ?_
                rw [if_neg (hne k hk)]
              rw [e, List.append_assoc]
              exact h.mem.app hm
            · simp [Act.put, h.asize]
            · exact h.defers
            · intro d u hd
              have hdne : dsts.getD i 0 ≠ d := fun e => by rw [← e, hdnone] at hd; cases hd
              simp only [Act.put]
              rw [Array.getElem?_setIfInBounds_ne hdne]
              exact h.env d u hd
            · intro k hk d hd
              have hlt : dsts.getD i 0 < a.tmps.size := by rw [h.asize]; exact hdlt
              rcases List.mem_cons.1 hk with rfl | hk
              · have : d = dsts.getD k 0 := by rw [List.getD_eq_getElem?_getD, hd]; rfl
                subst this
                simp only [Act.put, if_true]
                simp only [Array.getElem?_setIfInBounds_self_of_lt hlt]
              · have hdne : dsts.getD i 0 ≠ d := by
                  intro e
                  have hi2 : dsts[i]? = some d := by rw [← e, List.getD_eq_getElem?_getD, List.getElem?_eq_getElem (by omega)]; rfl
                  have hk2 : k < dsts.length := (List.getElem?_eq_some_iff.1 hd).1
                  have := (List.getElem?_inj hk2 hdn).1 (hd.trans hi2.symm)
                  exact hne k hk this
                simp only [Act.put]
                rw [Array.getElem?_setIfInBounds_ne hdne, if_neg (hne k hk)]
                exact h.slots k hk d hd
          unfold wpOp
          have hoa : os.toArray[i]? = some os[i] := by simp [h1]
          rw [hoa]
          simp only
          rcases hobl with ⟨hw, hq⟩ | ⟨hw, hq⟩
          · rw [if_pos (hst.wanted hw)]
            refine .inl (hq a w hst Q _ fun v post w' hv hm => ?_)
            rw [hdd]
            exact next v post w' hv hm
          · rw [if_neg (by rw [hst.wanted hw]; decide), hdd]
            exact next undef [] w hq (Mem.refl w)
  refine key os.length (Array.replicate os.length false) [] (fun _ => undef) (fun _ => []) a _ (by simp) ⟨by simp, ?_, by simp, by simp, by simp, by simp, by simp, ?_, st.size, st.defers, st.env, by simp⟩
  · intro i hi; simp [hi]
  · exact st.mem.drawn _
/-- each quiet operation's due, in the order of the text -/
def Dues (P : Program) (ops : Array Oper) (N : Nat) (w0 : World) (l : List HP) (env : List (Nat × Value)) (dsts : List Nat) (all : List (List Nat)) (R : Nat → List Value → Value → List HP → Prop) : Nat → List (List Nat) → List Oper → Prop
  | _, _, [] => True
  | k, [], o :: os => (∀ (vf : Nat → Value) (pf : Nat → List HP), Obl P ops N w0 l env o (R k [])) ∧ Dues P ops N w0 l env dsts all R (k + 1) [] os
  | k, ds :: dps, o :: os => (∀ (vf : Nat → Value) (pf : Nat → List HP), (∀ j ∈ ds, R j ((all.getD j []).map vf) (vf j) (pf j)) → Obl P ops N w0 (ds.flatMap pf ++ l) (envOf dsts vf ds ++ env) o (R k (ds.map vf))) ∧ Dues P ops N w0 l env dsts all R (k + 1) dps os
theorem dues_at {P : Program} {ops : Array Oper} {N : Nat} {w0 : World} {l : List HP} {env : List (Nat × Value)} {dsts : List Nat} {all : List (List Nat)} {R : Nat → List Value → Value → List HP → Prop} : ∀ (os : List Oper) (dps : List (List Nat)) (k : Nat), Dues P ops N w0 l env dsts all R k dps os → ∀ i o, os[i]? = some o → ∀ vf pf, (∀ j ∈ dps.getD i [], R j ((all.getD j []).map vf) (vf j) (pf j)) → Obl P ops N w0 ((dps.getD i []).flatMap pf ++ l) (envOf dsts vf (dps.getD i []) ++ env) o (R (k + i) ((dps.getD i []).map vf))
  | [], _, _, _, i, o, ho, _, _, _ => by simp at ho
  | o' :: os, [], k, h, 0, o, ho, vf, pf, _ => by simp at ho; subst ho; exact h.1 vf pf
  | o' :: os, [], k, h, i + 1, o, ho, vf, pf, hR => by
    have := dues_at os [] (k + 1) h.2 i o (by simpa using ho) vf pf (by simp)
    rw [show k + 1 + i = k + (i + 1) by omega] at this
    simpa using this
  | o' :: os, ds :: dps, k, h, 0, o, ho, vf, pf, hR => by simp at ho; subst ho; exact h.1 vf pf hR
  | o' :: os, ds :: dps, k, h, i + 1, o, ho, vf, pf, hR => by
    have := dues_at os dps (k + 1) h.2 i o (by simpa using ho) vf pf (by simpa using hR)
    rw [show k + 1 + i = k + (i + 1) by omega] at this
    simpa using this
theorem hc_draw {id : Nat} (hmix : P.follows .mixedOrders = true) (m : Nat) (qs : List Nat) (quiet tail : List Oper) (dps : List (List Nat)) (dsts : List Nat) (R : Nat → List Value → Value → List HP → Prop) (hos : os = quiet ++ tail) (hq : (Nat.beq quiet.length m && (List.range m == qs)) = true) (hok : drawOk os m dps dsts = true) (hfresh : dsts.all (fun d => (lk env d).isNone) = true) (hN : dsts.all (fun d => Nat.blt d N) = true)
    (due : Dues P os.toArray N w0 l env dsts dps R 0 dps quiet)
    (fin : ∀ vf pf, (∀ i, i < m → R i ((dps.getD i []).map vf) (vf i) (pf i)) → HL P N os.toArray w0 (qs.flatMap pf ++ l) (envOf dsts vf qs ++ env) tail Q) : HC P N w0 l env (.region id os.toArray true) Q := by
  simp only [Bool.and_eq_true, Nat.beq_eq, beq_iff_eq] at hq
  refine hc_drawn hmix m dps dsts R hok hfresh hN (fun i o ho hi vf pf hR => ?_) (fun vf pf hR => ?_)
  · have ho' : quiet[i]? = some o := by rw [hos, List.getElem?_append_left (by omega)] at ho; exact ho
    have := dues_at quiet dps 0 due i o ho' vf pf hR
    rwa [Nat.zero_add] at this
  · rw [hq.2, hos, List.drop_left' hq.1, ← hos]; exact fin vf pf hR
theorem want_of {ops : Array Oper} {env : List (Nat × Value)} {j : Nat} {b c r : Bool} (hj : ((ops[j]?).bind (·.dst)).bind (lk env) = some (.bool c)) (hr : (c == b) = r) : want ops env (some (j, b)) = some r := by
  unfold want; simp only [hj, hr]
theorem want_un {ops : Array Oper} {env : List (Nat × Value)} {j : Nat} {b : Bool} (hj : ((ops[j]?).bind (·.dst)).bind (lk env) = some undef) : want ops env (some (j, b)) = some false := by
  unfold want; simp only [hj]; rfl
theorem hc_loop1 {α : Type} {c : Code} (L : α → List HP) (E : α → List (Nat × Value)) (G : α → Prop) (m : α → Nat) (x0 : α) (hG : G x0) (hs : sub (E x0) env) (hl : (L x0).Sublist l)
    (round : ∀ x, G x → HC P N w0 (L x) (E x) c (Exit.then (fun a' w' => ∃ x', G x' ∧ m x' < m x ∧ St N w0 (L x') (E x') a' w') Q)) : HC P N w0 l env (.loop c) Q :=
  hc_loop (fun q : α => L q) (fun q => E q) (fun q => G q) (fun q => m q) (x0) hG hs hl (fun q hq a w st => wp_mono (round q hq a w st) fun e a' w' h => by
    cases e with
    | normal => obtain ⟨x', h1, h2, h3⟩ := h; exact ⟨(x'), h1, h2, h3⟩
    | exit id => exact h
    | goto l => exact h
    | ret => exact h
    | panic ch => exact h
    | outgrown => exact h)
theorem hq_round1 {α : Type} {L : α → List HP} {E : α → List (Nat × Value)} {G : α → Prop} {m : α → Nat} {M : Nat} (x' : α) (hG : G x') (hm : m x' < M) (hs : sub (E x') env) (hl : (L x').Sublist l) :
    HQ N w0 l env .normal (Exit.then (fun a' w' => ∃ x', G x' ∧ m x' < M ∧ St N w0 (L x') (E x') a' w') Q) := fun a w st => ⟨x', hG, hm, st.less hs hl⟩
theorem hc_meet1 {α : Type} {c1 c2 : Code} (L : α → List HP) (E : α → List (Nat × Value)) (G : α → Prop) (h : HC P N w0 l env c1 (Exit.then (fun a' w' => ∃ x', G x' ∧ St N w0 (L x') (E x') a' w') Q)) (k : ∀ x, G x → HC P N w0 (L x) (E x) c2 Q) : HC P N w0 l env (.seq c1 c2) Q := by
  intro a w st
  refine wp_seq (wp_mono (h a w st) fun e a' w' h => ?_)
  cases e with
  | normal => obtain ⟨x', hz, sz⟩ := h; exact k x' hz a' w' sz
  | exit id => exact h
  | goto l => exact h
  | ret => exact h
  | panic ch => exact h
  | outgrown => exact h
theorem hq_meet1 {α : Type} {L : α → List HP} {E : α → List (Nat × Value)} {G : α → Prop} (x' : α) (hG : G x') (hs : sub (E x') env) (hl : (L x').Sublist l) :
    HQ N w0 l env .normal (Exit.then (fun a' w' => ∃ x', G x' ∧ St N w0 (L x') (E x') a' w') Q) := fun a w st => ⟨x', hG, st.less hs hl⟩
theorem hc_loop2 {α β : Type} {c : Code} (L : α → β → List HP) (E : α → β → List (Nat × Value)) (G : α → β → Prop) (m : α → β → Nat) (x0 : α) (y0 : β) (hG : G x0 y0) (hs : sub (E x0 y0) env) (hl : (L x0 y0).Sublist l)
    (round : ∀ x y, G x y → HC P N w0 (L x y) (E x y) c (Exit.then (fun a' w' => ∃ x' y', G x' y' ∧ m x' y' < m x y ∧ St N w0 (L x' y') (E x' y') a' w') Q)) : HC P N w0 l env (.loop c) Q :=
  hc_loop (fun q : α × β => L q.1 q.2) (fun q => E q.1 q.2) (fun q => G q.1 q.2) (fun q => m q.1 q.2) (x0, y0) hG hs hl (fun q hq a w st => wp_mono (round q.1 q.2 hq a w st) fun e a' w' h => by
    cases e with
    | normal => obtain ⟨x', y', h1, h2, h3⟩ := h; exact ⟨(x', y'), h1, h2, h3⟩
    | exit id => exact h
    | goto l => exact h
    | ret => exact h
    | panic ch => exact h
    | outgrown => exact h)
theorem hq_round2 {α β : Type} {L : α → β → List HP} {E : α → β → List (Nat × Value)} {G : α → β → Prop} {m : α → β → Nat} {M : Nat} (x' : α) (y' : β) (hG : G x' y') (hm : m x' y' < M) (hs : sub (E x' y') env) (hl : (L x' y').Sublist l) :
    HQ N w0 l env .normal (Exit.then (fun a' w' => ∃ x' y', G x' y' ∧ m x' y' < M ∧ St N w0 (L x' y') (E x' y') a' w') Q) := fun a w st => ⟨x', y', hG, hm, st.less hs hl⟩
theorem hc_meet2 {α β : Type} {c1 c2 : Code} (L : α → β → List HP) (E : α → β → List (Nat × Value)) (G : α → β → Prop) (h : HC P N w0 l env c1 (Exit.then (fun a' w' => ∃ x' y', G x' y' ∧ St N w0 (L x' y') (E x' y') a' w') Q)) (k : ∀ x y, G x y → HC P N w0 (L x y) (E x y) c2 Q) : HC P N w0 l env (.seq c1 c2) Q := by
  intro a w st
  refine wp_seq (wp_mono (h a w st) fun e a' w' h => ?_)
  cases e with
  | normal => obtain ⟨x', y', hz, sz⟩ := h; exact k x' y' hz a' w' sz
  | exit id => exact h
  | goto l => exact h
  | ret => exact h
  | panic ch => exact h
  | outgrown => exact h
theorem hq_meet2 {α β : Type} {L : α → β → List HP} {E : α → β → List (Nat × Value)} {G : α → β → Prop} (x' : α) (y' : β) (hG : G x' y') (hs : sub (E x' y') env) (hl : (L x' y').Sublist l) :
    HQ N w0 l env .normal (Exit.then (fun a' w' => ∃ x' y', G x' y' ∧ St N w0 (L x' y') (E x' y') a' w') Q) := fun a w st => ⟨x', y', hG, st.less hs hl⟩
theorem hc_loop3 {α β γ : Type} {c : Code} (L : α → β → γ → List HP) (E : α → β → γ → List (Nat × Value)) (G : α → β → γ → Prop) (m : α → β → γ → Nat) (x0 : α) (y0 : β) (z0 : γ) (hG : G x0 y0 z0) (hs : sub (E x0 y0 z0) env) (hl : (L x0 y0 z0).Sublist l)
    (round : ∀ x y z, G x y z → HC P N w0 (L x y z) (E x y z) c (Exit.then (fun a' w' => ∃ x' y' z', G x' y' z' ∧ m x' y' z' < m x y z ∧ St N w0 (L x' y' z') (E x' y' z') a' w') Q)) : HC P N w0 l env (.loop c) Q :=
  hc_loop (fun q : α × β × γ => L q.1 q.2.1 q.2.2) (fun q => E q.1 q.2.1 q.2.2) (fun q => G q.1 q.2.1 q.2.2) (fun q => m q.1 q.2.1 q.2.2) (x0, y0, z0) hG hs hl (fun q hq a w st => wp_mono (round q.1 q.2.1 q.2.2 hq a w st) fun e a' w' h => by
    cases e with
    | normal => obtain ⟨x', y', z', h1, h2, h3⟩ := h; exact ⟨(x', y', z'), h1, h2, h3⟩
    | exit id => exact h
    | goto l => exact h
    | ret => exact h
    | panic ch => exact h
    | outgrown => exact h)
theorem hq_round3 {α β γ : Type} {L : α → β → γ → List HP} {E : α → β → γ → List (Nat × Value)} {G : α → β → γ → Prop} {m : α → β → γ → Nat} {M : Nat} (x' : α) (y' : β) (z' : γ) (hG : G x' y' z') (hm : m x' y' z' < M) (hs : sub (E x' y' z') env) (hl : (L x' y' z').Sublist l) :
    HQ N w0 l env .normal (Exit.then (fun a' w' => ∃ x' y' z', G x' y' z' ∧ m x' y' z' < M ∧ St N w0 (L x' y' z') (E x' y' z') a' w') Q) := fun a w st => ⟨x', y', z', hG, hm, st.less hs hl⟩
theorem hc_meet3 {α β γ : Type} {c1 c2 : Code} (L : α → β → γ → List HP) (E : α → β → γ → List (Nat × Value)) (G : α → β → γ → Prop) (h : HC P N w0 l env c1 (Exit.then (fun a' w' => ∃ x' y' z', G x' y' z' ∧ St N w0 (L x' y' z') (E x' y' z') a' w') Q)) (k : ∀ x y z, G x y z → HC P N w0 (L x y z) (E x y z) c2 Q) : HC P N w0 l env (.seq c1 c2) Q := by
  intro a w st
  refine wp_seq (wp_mono (h a w st) fun e a' w' h => ?_)
  cases e with
  | normal => obtain ⟨x', y', z', hz, sz⟩ := h; exact k x' y' z' hz a' w' sz
  | exit id => exact h
  | goto l => exact h
  | ret => exact h
  | panic ch => exact h
  | outgrown => exact h
theorem hq_meet3 {α β γ : Type} {L : α → β → γ → List HP} {E : α → β → γ → List (Nat × Value)} {G : α → β → γ → Prop} (x' : α) (y' : β) (z' : γ) (hG : G x' y' z') (hs : sub (E x' y' z') env) (hl : (L x' y' z').Sublist l) :
    HQ N w0 l env .normal (Exit.then (fun a' w' => ∃ x' y' z', G x' y' z' ∧ St N w0 (L x' y' z') (E x' y' z') a' w') Q) := fun a w st => ⟨x', y', z', hG, st.less hs hl⟩
theorem hc_loop4 {α β γ δ : Type} {c : Code} (L : α → β → γ → δ → List HP) (E : α → β → γ → δ → List (Nat × Value)) (G : α → β → γ → δ → Prop) (m : α → β → γ → δ → Nat) (x0 : α) (y0 : β) (z0 : γ) (u0 : δ) (hG : G x0 y0 z0 u0) (hs : sub (E x0 y0 z0 u0) env) (hl : (L x0 y0 z0 u0).Sublist l)
    (round : ∀ x y z u, G x y z u → HC P N w0 (L x y z u) (E x y z u) c (Exit.then (fun a' w' => ∃ x' y' z' u', G x' y' z' u' ∧ m x' y' z' u' < m x y z u ∧ St N w0 (L x' y' z' u') (E x' y' z' u') a' w') Q)) : HC P N w0 l env (.loop c) Q :=
  hc_loop (fun q : α × β × γ × δ => L q.1 q.2.1 q.2.2.1 q.2.2.2) (fun q => E q.1 q.2.1 q.2.2.1 q.2.2.2) (fun q => G q.1 q.2.1 q.2.2.1 q.2.2.2) (fun q => m q.1 q.2.1 q.2.2.1 q.2.2.2) (x0, y0, z0, u0) hG hs hl (fun q hq a w st => wp_mono (round q.1 q.2.1 q.2.2.1 q.2.2.2 hq a w st) fun e a' w' h => by
    cases e with
    | normal => obtain ⟨x', y', z', u', h1, h2, h3⟩ := h; exact ⟨(x', y', z', u'), h1, h2, h3⟩
    | exit id => exact h
    | goto l => exact h
    | ret => exact h
    | panic ch => exact h
    | outgrown => exact h)
theorem hq_round4 {α β γ δ : Type} {L : α → β → γ → δ → List HP} {E : α → β → γ → δ → List (Nat × Value)} {G : α → β → γ → δ → Prop} {m : α → β → γ → δ → Nat} {M : Nat} (x' : α) (y' : β) (z' : γ) (u' : δ) (hG : G x' y' z' u') (hm : m x' y' z' u' < M) (hs : sub (E x' y' z' u') env) (hl : (L x' y' z' u').Sublist l) :
    HQ N w0 l env .normal (Exit.then (fun a' w' => ∃ x' y' z' u', G x' y' z' u' ∧ m x' y' z' u' < M ∧ St N w0 (L x' y' z' u') (E x' y' z' u') a' w') Q) := fun a w st => ⟨x', y', z', u', hG, hm, st.less hs hl⟩
theorem hc_meet4 {α β γ δ : Type} {c1 c2 : Code} (L : α → β → γ → δ → List HP) (E : α → β → γ → δ → List (Nat × Value)) (G : α → β → γ → δ → Prop) (h : HC P N w0 l env c1 (Exit.then (fun a' w' => ∃ x' y' z' u', G x' y' z' u' ∧ St N w0 (L x' y' z' u') (E x' y' z' u') a' w') Q)) (k : ∀ x y z u, G x y z u → HC P N w0 (L x y z u) (E x y z u) c2 Q) : HC P N w0 l env (.seq c1 c2) Q := by
  intro a w st
  refine wp_seq (wp_mono (h a w st) fun e a' w' h => ?_)
  cases e with
  | normal => obtain ⟨x', y', z', u', hz, sz⟩ := h; exact k x' y' z' u' hz a' w' sz
  | exit id => exact h
  | goto l => exact h
  | ret => exact h
  | panic ch => exact h
  | outgrown => exact h
theorem hq_meet4 {α β γ δ : Type} {L : α → β → γ → δ → List HP} {E : α → β → γ → δ → List (Nat × Value)} {G : α → β → γ → δ → Prop} (x' : α) (y' : β) (z' : γ) (u' : δ) (hG : G x' y' z' u') (hs : sub (E x' y' z' u') env) (hl : (L x' y' z' u').Sublist l) :
    HQ N w0 l env .normal (Exit.then (fun a' w' => ∃ x' y' z' u', G x' y' z' u' ∧ St N w0 (L x' y' z' u') (E x' y' z' u') a' w') Q) := fun a w st => ⟨x', y', z', u', hG, st.less hs hl⟩
/-- a nil slice is a row of one's own, too -/
theorem Mem.nilRow {w0 w : World} {l : List HP} (h : Mem w0 l w) (e s : Nat) : Mem w0 (rowE e s (.slice none 0 0) 0 [] :: l) w := by
  have : Mem w [rowE e s (.slice none 0 0) 0 []] w := by
    refine ⟨Below.refl _ _, ?_, ?_, ?_, by simp⟩
    · intro p hp; rw [List.mem_singleton] at hp; subst hp; exact World.ownsRow_nil ..
    · intro p hp; rw [List.mem_singleton] at hp; subst hp; exact rowE_ok _ _ _ _ _
    · intro p hp b hf; rw [List.mem_singleton] at hp; subst hp; cases hf
  exact h.app this
theorem hl_nilRow {rest : List Oper} {ops : Array Oper} (e s : Nat) (k : HL P N ops w0 (rowE e s (.slice none 0 0) 0 [] :: l) env rest Q) : HL P N ops w0 l env rest Q := fun a w st => k a w (st.to (st.mem.nilRow e s))
/-- a call that turns one part of the caller's memory -/
theorem hl_callM {ops : Array Oper} {rest : List Oper} {d : Nat} {f : FuncId} {xs : Array Operand} {ats : Array TypeId} {vs : List Value} {p : HP} {R : Value → HP → Prop} {ty : TypeId} {pos : String} {af : Array Edge} {gd : Option (Nat × Bool)} (i : Nat) (hN : Nat.blt d N = true) (hw : want ops env gd = some true)
    (hgo : goesB P f = true) (hvs : evs env xs.toList = some vs) (hi : l[i]? = some p)
    (hc : ∀ l' w, Mem w0 (p :: l') w → Calls P f vs.toArray w fun e w' => ∃ v p', e = .returned v ∧ R v p' ∧ Mem w0 (p' :: l') w') (k : ∀ v p', R v p' → HL P N ops w0 (l.set i p') ((d, v) :: env) rest Q) : HL P N ops w0 l env ({ dst := some d, op := .call { callee := .value (.func f), args := xs, argTypes := ats }, type := ty, pos := pos, after := af, guard := gd } :: rest) Q := fun a w st => by
  obtain ⟨r, h1, -⟩ := perm_set (p' := p) hi
  refine hl_call (vs := vs.toArray) rfl hN hw (fun a => execOp_call_go a (some d) f xs ats ty pos af gd) (fun a w st => ?_) (fun w => run_go hgo _ w) (fun w hm => (hc r w (hm.perm h1)).mono fun e w' h => ?_) a w st
  · have := evs_map st _ _ hvs
    rw [Array.empty_append, Array.append_empty]
    apply Array.toList_inj.1
    simpa using this
  · obtain ⟨v, p', rfl, hR, hm'⟩ := h
    have h2 : (p' :: r).Perm (l.set i p') := by
      obtain ⟨r', h3, h4⟩ := perm_set (p' := p') hi
      have : r.Perm r' := by
        have := h1.symm.trans h3
        exact (List.perm_cons p).1 this
      exact (this.cons p').trans h4
    exact ⟨v, _, rfl, hm'.perm h2, k v p' hR⟩
end
end Go.Proofs.Yteccnnpcigkmhaa
