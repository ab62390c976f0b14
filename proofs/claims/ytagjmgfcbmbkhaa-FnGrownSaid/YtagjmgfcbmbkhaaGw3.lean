/- Texts of the law FnGrown, part 3: what it uses. -/
import Derived.Test.YtagjmgfcbmbkhaaGw2
set_option linter.unusedVariables false
set_option linter.unusedSimpArgs false
namespace Go.Proofs.Ytagjmgfcbmbkhaa
open Go.RowKit Go.ChangeShapes
open Go.RowKit
open Go.Maps
theorem src_loc {d : Dev} {k : Int} (hv : devB d = true) (n0 : 0 ≤ k) (n1 : k ≤ allI d - 1) : ∀ y ∈ srcI d k, Loc d k y := by
  obtain ⟨p0, p1, p2, p3, ht⟩ := place_rng hv n0 n1
  obtain ⟨-, -, ⟨l1, l2⟩, -⟩ := (devB_iff d).1 hv
  intro y hy
  unfold srcI at hy
  split at hy
  · split at hy
    · rw [pinO_mem] at hy
      obtain ⟨r, hr, q, hq, -, s, hs, c1, c2, c3⟩ := hy
      rw [List.mem_range] at hr hq hs
      have hw := wireNodeI_nonneg c2
      subst c3
      rw [hw]
      refine loc_wire ht (by omega) (by omega) (by omega) (by omega) (by omega) (by omega) c1 ?_ (fun h => absurd h (by omega))
      unfold wireNodeI at c2
      split at c2
      · assumption
      · omega
    · split at hy
      · cases hy
      · obtain ⟨dg0, dg1, dg2, dg3⟩ := wire_rng hv (by omega) p3
        rw [wireO_mem] at hy
        rcases hy with ⟨p, hp, c1, rfl⟩ | ⟨r, hr, hne, q, hq, c1, rfl⟩
        · exact loc_out ht (by omega) (by omega) c1
        · rw [List.mem_range] at hr
          have hq' : 0 ≤ q ∧ q ≤ d.T - 1 := by
            rcases List.mem_cons.1 hq with rfl | hq
            · exact ⟨dg2, dg3⟩
            · rw [List.mem_singleton] at hq
              subst hq
              have := Int.emod_nonneg ((k % perI d - 7) % d.T + 1) (show d.T ≠ 0 by omega)
              have := Int.emod_lt_of_pos ((k % perI d - 7) % d.T + 1) (show 0 < d.T by omega)
              omega
          obtain ⟨b1, b2⟩ := stepI_back ht (show 0 ≤ ((r : Int) + 2) % 4 by omega) (by omega) (show 0 ≤ 1 + q % 2 by omega) (by omega) c1
          rw [show (((r : Int) + 2) % 4 + 2) % 4 = r by omega] at b1
          have h2 : 0 ≤ stepI d (stepI d (k / perI d) (((r : Int) + 2) % 4) (1 + q % 2)) r (1 + q % 2) := by omega
          unfold wireNodeI
          rw [if_pos h2]
          exact loc_wire ht (by omega) (by omega) hq'.1 hq'.2 (by omega) (by omega) c1 h2 (fun _ => ⟨rfl, hne⟩)
  · cases hy
theorem fold_sum {α : Type} (f : List Int → α → List Int) (c : α → Nat) (hf : ∀ xs a, (f xs a).length ≤ xs.length + c a) : ∀ (l : List α) (xs : List Int), (l.foldl f xs).length ≤ xs.length + (l.map c).sum
  | [], xs => by simp
  | a :: l, xs => by
    have h1 := fold_sum f c hf l (f xs a)
    have h2 := hf xs a
    simp only [List.foldl_cons, List.map_cons, List.sum_cons]
    omega
theorem pinR_len (d : Dev) (t p r : Int) (xs : List Int) (l1 : 1 ≤ d.T) (l2 : d.T ≤ 4) : (pinR d t p r xs d.T.toNat).length ≤ xs.length + 4 := by
  have h := fold_sum (fun xs (k : Nat) => if 1 < d.T ∧ ((k : Int) + p) % 2 ≠ 0 then xs else pinK d t r k xs (1 + k % 2)) (fun k => if 1 < d.T ∧ ((k : Int) + p) % 2 ≠ 0 then 0 else 1 + k % 2) (fun xs k => by
    split
    · omega
    · have := fold_bound (pinS d t r k) 1 (fun xs s => by
        unfold pinS
        split
        · omega
        · split
          · exact insI_len _ _
          · omega) (List.range (1 + k % 2)) xs
      rw [List.length_range] at this
      unfold pinK; omega) (List.range d.T.toNat) xs
  have h2 : ((List.range d.T.toNat).map (fun (k : Nat) => if 1 < d.T ∧ ((k : Int) + p) % 2 ≠ 0 then 0 else 1 + k % 2)).sum ≤ 4 := by
    obtain e | e | e | e : d.T = 1 ∨ d.T = 2 ∨ d.T = 3 ∨ d.T = 4 := by omega
    · rw [show List.range d.T.toNat = [0] by rw [e]; rfl]
      simp only [List.map_cons, List.map_nil, List.sum_cons, List.sum_nil]
      (repeat' split) <;> omega
    · rw [show List.range d.T.toNat = [0, 1] by rw [e]; rfl]
      simp only [List.map_cons, List.map_nil, List.sum_cons, List.sum_nil]
      (repeat' split) <;> omega
    · rw [show List.range d.T.toNat = [0, 1, 2] by rw [e]; rfl]
      simp only [List.map_cons, List.map_nil, List.sum_cons, List.sum_nil]
      (repeat' split) <;> omega
    · rw [show List.range d.T.toNat = [0, 1, 2, 3] by rw [e]; rfl]
      simp only [List.map_cons, List.map_nil, List.sum_cons, List.sum_nil]
      (repeat' split) <;> omega
  exact Nat.le_trans h (by omega)
theorem src_len16 (d : Dev) (k : Int) : (srcI d k).length ≤ 16 := by
  unfold srcI
  split
  · rename_i h
    obtain ⟨hv, -, -⟩ := nodeOk_rng h
    obtain ⟨-, -, ⟨l1, l2⟩, -⟩ := (devB_iff d).1 hv
    split
    · have := fold_bound (fun xs (r : Nat) => pinR d (k / perI d) (k % perI d) r xs d.T.toNat) 4 (fun xs r => pinR_len d _ _ _ xs l1 l2) (List.range 4) []
      simpa [pinO] using this
    · split
      · simp
      · have h1 := fold_bound (wireR d (k / perI d) ((k % perI d - 7) / d.T) ((k % perI d - 7) % d.T)) 2 (fun xs r => by
          unfold wireR
          split
          · omega
          · have := fold_bound (wireW d (k / perI d) r) 1 (fun xs q => by
              unfold wireW
              split
              · exact insI_len _ _
              · omega) ([(k % perI d - 7) % d.T, ((k % perI d - 7) % d.T + 1) % d.T].take 2) xs
            unfold wireK
            simpa using this) (List.range 4) (outO d (k / perI d) 2)
        have h2 := fold_bound (outS d (k / perI d)) 1 (fun xs q => by
          unfold outS
          split
          · exact insI_len _ _
          · omega) (List.range 2) []
        have h2' : (outO d (k / perI d) 2).length ≤ 2 := by simpa [outO] using h2
        have h1' : (wireO d (k / perI d) ((k % perI d - 7) / d.T) ((k % perI d - 7) % d.T) 4).length ≤ (outO d (k / perI d) 2).length + 8 := by simpa [wireO] using h1
        omega
  · simp
theorem src_no (d : Dev) (k : Int) (h : nodeOkI d k ≠ true) : srcI d k = [] := if_neg h
open Go.RowKit
theorem hasB_no (xs : List Int) (x : Int) (h : ∀ i, i < xs.length → xs.getD i 0 ≠ x) : hasB xs x = false := by
  unfold hasB
  rw [Bool.eq_false_iff]
  intro hc
  rw [List.contains_iff_mem] at hc
  obtain ⟨i, hi, he⟩ := List.mem_iff_getElem.1 hc
  have := h i hi
  rw [List.getD_eq_getElem?_getD, List.getElem?_eq_getElem hi] at this
  exact this he
theorem hasB_at (xs : List Int) (x : Int) (i : Nat) (hi : i < xs.length) (h : xs.getD i 0 = x) : hasB xs x = true := by
  unfold hasB
  rw [List.contains_iff_mem]
  rw [List.getD_eq_getElem?_getD, List.getElem?_eq_getElem hi] at h
  rw [← h]; exact List.getElem_mem hi
open Go.RowKit
def isWireI (d : Dev) (n : Int) : Bool := nodeOkI d n && decide (7 ≤ n % perI d)
theorem isWire_rng {d : Dev} {n : Int} (h : isWireI d n = true) : devB d = true ∧ 0 ≤ n ∧ n ≤ allI d - 1 ∧ 7 ≤ n % perI d ∧ nodeOkI d n = true := by
  unfold isWireI at h
  rw [Bool.and_eq_true, decide_eq_true_eq] at h
  obtain ⟨a, b, c⟩ := nodeOk_rng h.1
  exact ⟨a, b, c, h.2, h.1⟩
open Go.RowKit
theorem loc_mod {x m : Int} (h : 0 < m) : 0 ≤ x % m ∧ x % m ≤ m - 1 := ⟨Int.emod_nonneg _ (by omega), by have := Int.emod_lt_of_pos x h; omega⟩
/-- the number in a value -/
def intOf_o : Value → Int
  | .int _ n => n
  | _ => 0
theorem flat_app1 {α : Type} (f : α → List Value) (es : List α) (e : α) (xs : List Value) (h : xs = f e) : es.flatMap f ++ xs = (es ++ [e]).flatMap f := by
  rw [List.flatMap_append, h]; simp
/-- rows of one-cell structs -/
theorem flat_map1 {α : Type} (f : α → List Value) (g : α → Value) (hf : ∀ a, f a = [g a]) (es : List α) : es.flatMap f = es.map g := by
  induction es with
  | nil => rfl
  | cons a es ih => rw [List.flatMap_cons, List.map_cons, ih, hf]; rfl
theorem flat_one {α : Type} (f : α → List Value) (g : α → Value) (hf : ∀ a, f a = [g a]) (es : List α) (d : α) {j : Nat} (h : j < es.length) : (es.flatMap f)[j * 1]? = some (g (es.getD j d)) := by
  rw [flat_map1 f g hf, Nat.mul_one, List.getElem?_map, List.getD_eq_getElem?_getD, List.getElem?_eq_getElem h]; rfl
theorem flat_set1 {α : Type} (f : α → List Value) (g : α → Value) (hf : ∀ a, f a = [g a]) (es : List α) (e : α) {j : Nat} {u : Value} (hu : u = g e) : (es.flatMap f).set (j * 1) u = (es.set j e).flatMap f := by
  rw [flat_map1 f g hf, flat_map1 f g hf, Nat.mul_one, List.map_set, hu]
theorem nodup_shift (n k : Nat) : ((List.range k).map (n + ·)).Nodup := by
  rw [List.Nodup, List.pairwise_map]
  exact List.nodup_range.imp (fun h e => h (by omega))
theorem range_getD {α : Type} (P0 : List (List α)) : (List.range P0.length).map (fun a => P0.getD a []) = P0 := by
  apply List.ext_getElem (by simp)
  intro i h1 h2
  simp [List.getD_eq_getElem?_getD, List.getElem?_eq_getElem h2]
def tauOk3 (os : List Oper) (m K : Nat) (dps qd : List (List Nat)) (tau : List (Option Nat)) (fl : List Nat) : Bool :=
  (List.range m).all (fun i => (qd.getD i []).all (fun j => (dps.getD i []).contains j && (List.range m).all (fun k => tau.getD k none != some j)) && decide ((qd.getD i []).Nodup)) &&
  (List.range m).all (fun i => match tau.getD i none with | none => true | some h => ((Nat.ble os.length h && Nat.blt h (os.length + K)) || (dps.getD i []).contains h) && (List.range m).all (fun k => k == i || tau.getD k none != some h)) &&
  fl.all (fun j => (Nat.blt j m || (Nat.ble os.length j && Nat.blt j (os.length + K))) && (List.range m).all (fun k => tau.getD k none != some j)) && decide fl.Nodup
def envOf3 (dsts : List (Option Nat)) (vf : Nat → Value) (is : List Nat) : List (Nat × Value) := is.filterMap fun i => (dsts.getD i none).map fun d => (d, vf i)
def drawOk3 (os : List Oper) (m : Nat) (dps : List (List Nat)) (dsts : List (Option Nat)) : Bool :=
  Nat.ble m os.length &&
  (List.range os.length).all (fun i => (depsOf os i).all (fun j => Nat.blt j i)) &&
  (List.range os.length).all (fun k => Nat.blt k m || (List.range m).all (fun j => ((msk ((List.range os.length).map (depsOf os)) []).getD k 0).testBit j)) &&
  (List.range (os.length - m)).all (fun t => Region.ready .any os.toArray (List.replicate (m + t) true ++ List.replicate (os.length - (m + t)) false).toArray == [m + t]) &&
  (os.take m).map (·.dst) == dsts && (List.range m).all (fun i => (List.range m).all (fun j => i == j || dsts.getD i none == none || dsts.getD i none != dsts.getD j none)) &&
  (List.range m).all (fun i => (dps.getD i []).all (fun j => ((msk ((List.range os.length).map (depsOf os)) []).getD i 0).testBit j) && decide ((dps.getD i []).Nodup))
section
variable {P : Program} {N : Nat} {w0 : World} {l : List HP} {env : List (Nat × Value)} {Q : Post} {os : List Oper} {m : Nat} {dps : List (List Nat)} {dsts : List (Option Nat)} {R : Nat → List Value → Value → List HP → Prop}
/-- where the quiet part stands -/
structure Mid3 (N : Nat) (w0 : World) (l : List HP) (env : List (Nat × Value)) (os : List Oper) (m : Nat) (dps : List (List Nat)) (dsts : List (Option Nat)) (R : Nat → List Value → Value → List HP → Prop) (tau : List (Option Nat)) (P0 : List (List HP)) (listed : Array Bool) (ord held : List Nat) (vf : Nat → Value) (pf : Nat → List HP) (a : Act) (w : World) : Prop where
  size : listed.size = os.length
  iff : ∀ i, i < os.length → (listed.getD i true = true ↔ i ∈ ord)
  low : ∀ i ∈ ord, i < m
  closed : ∀ i ∈ ord, ∀ j ∈ depsOf os i, j ∈ ord
  nodup : ord.Nodup
  dcl : ∀ i ∈ ord, ∀ j ∈ dps.getD i [], j ∈ ord
  rel : ∀ i ∈ ord, R i ((dps.getD i []).map vf) (vf i) (pf i)
  hn : held.Nodup
  hin : ∀ i ∈ held, i ∈ ord ∨ (os.length ≤ i ∧ i < os.length + P0.length)
  hall : ∀ i, (i ∈ ord ∨ (os.length ≤ i ∧ i < os.length + P0.length)) → (∀ j ∈ ord, tau.getD j none ≠ some i) → i ∈ held
  hP : ∀ k, k < P0.length → pf (os.length + k) = P0.getD k []
  mem : Mem w0 (held.flatMap pf ++ l) w
  asize : a.tmps.size = N
  defers : a.defers = []
  env : ∀ d v, lk env d = some v → a.tmps[d]? = some v
  slots : ∀ i ∈ ord, ∀ d, dsts[i]? = some (some d) → a.tmps[d]? = some (vf i)
theorem Mid3.st {tau P0 listed ord held vf pf a w} (h : Mid3 N w0 l env os m dps dsts R tau P0 listed ord held vf pf a w) (hm : m ≤ dsts.length) {is : List Nat} (hs : ∀ j ∈ is, j ∈ ord) {L : List HP} (hM : Mem w0 L w) : St N w0 L (envOf3 dsts vf is ++ env) a w := by
  refine ⟨hM, h.asize, h.defers, fun d v hd => ?_⟩
  rcases lk_append _ _ _ _ hd with h1 | h1
  · unfold envOf3 at h1
    rw [List.mem_filterMap] at h1
    obtain ⟨i, hi, he⟩ := h1
    rw [Option.map_eq_some_iff] at he
    obtain ⟨d', hd', he⟩ := he
    simp only [Prod.mk.injEq] at he
    obtain ⟨rfl, rfl⟩ := he
    have : dsts[i]? = some (some d') := by
      rw [List.getD_eq_getElem?_getD] at hd'
      cases hx : dsts[i]? with
      | none => rw [hx] at hd'; cases hd'
      | some y => rw [hx] at hd'; exact congrArg some hd'
    exact h.slots i (hs i hi) _ this
  · exact h.env d v h1
theorem hc_drawn3 {id : Nat} (hmix : P.follows .mixedOrders = true) (m : Nat) (dps : List (List Nat)) (dsts : List (Option Nat)) (R : Nat → List Value → Value → List HP → Prop) (qd : List (List Nat)) (tau : List (Option Nat)) (P0 : List (List HP)) (fl : List Nat) (hok : drawOk3 os m dps dsts = true) (htau : tauOk3 os m P0.length dps qd tau fl = true) (hfresh : dsts.all (fun d => match d with | some d => (lk env d).isNone | none => true) = true) (hN : dsts.all (fun d => match d with | some d => Nat.blt d N | none => true) = true)
    (due : ∀ i o, os[i]? = some o → i < m → ∀ vf pf, (∀ k, k < P0.length → pf (os.length + k) = P0.getD k []) → (∀ j ∈ dps.getD i [], R j ((dps.getD j []).map vf) (vf j) (pf j)) → Obl2 P os.toArray N w0 (tau.getD i none) pf ((qd.getD i []).flatMap pf ++ l) (envOf3 dsts vf (dps.getD i []) ++ env) o (R i ((dps.getD i []).map vf)))
    (fin : ∀ vf pf, (∀ k, k < P0.length → pf (os.length + k) = P0.getD k []) → (∀ i, i < m → R i ((dps.getD i []).map vf) (vf i) (pf i)) → HL P N os.toArray w0 (fl.flatMap pf ++ l) (envOf3 dsts vf (List.range m) ++ env) (os.drop m) Q) : HC P N w0 (P0.flatten ++ l) env (.region id os.toArray true) Q := by
  intro a w st
  refine wp_region_any hmix ?_
  simp only [drawOk3, Bool.and_eq_true, Nat.ble_eq, List.all_eq_true, List.mem_range, Bool.or_eq_true, Nat.blt_eq, beq_iff_eq, decide_eq_true_eq, Array.all_eq_true', bne_iff_ne] at hok
  obtain ⟨⟨⟨⟨⟨⟨hml, hback⟩, hcov⟩, hready⟩, hdst⟩, hdn⟩, hdp⟩ := hok
  simp only [tauOk3, Bool.and_eq_true, List.all_eq_true, List.mem_range, Bool.or_eq_true, Nat.blt_eq, Nat.ble_eq, beq_iff_eq, bne_iff_ne, decide_eq_true_eq, List.contains_iff_mem] at htau
  obtain ⟨⟨⟨hqd, hth⟩, hfl⟩, hfn⟩ := htau
  have hml' : m ≤ dsts.length := by have := congrArg List.length hdst; simp at this; omega
  have hlen : dsts.length = m := by have := congrArg List.length hdst; simp at this; omega
  have hrdy : ∀ k, m ≤ k → k < os.length → Region.ready .any os.toArray (preT os.length k) = [k] := fun k h1 h2 => by
    have := hready (k - m) (by omega)
    rw [show m + (k - m) = k by omega] at this
    exact this
  have hmsk : ∀ i j, ((msk ((List.range os.length).map (depsOf os)) []).getD i 0).testBit j = true → Dep os i j := msk_dep os _ _ (fun t ds ht d hd => by
    rw [List.getElem?_map] at ht
    by_cases h : t < os.length
    · rw [List.getElem?_range h] at ht; simp at ht; subst ht; simpa using hd
    · rw [List.getElem?_eq_none (by simp; omega)] at ht; cases ht) (fun i j h => by simp at h)
  have dstAt : ∀ i, i < m → ∀ o, os[i]? = some o → o.dst = dsts.getD i none := fun i hi o ho => by
    have h1 : ((os.take m).map (·.dst))[i]? = some o.dst := by rw [List.getElem?_map, List.getElem?_take, if_pos hi, ho]; rfl
    rw [hdst] at h1
    rw [List.getD_eq_getElem?_getD, h1]; rfl
  -- what may come up
  have key : ∀ (f : Nat) (listed : Array Bool) (ord held : List Nat) (vf : Nat → Value) (pf : Nat → List HP) (a : Act) (w : World), f + ord.length = os.length → Mid3 N w0 l env os m dps dsts R tau P0 listed ord held vf pf a w → wpAny P .any os.toArray Q f listed a w := by
    intro f
    induction f with
    | zero =>
      intro listed ord held vf pf a w hf h
      -- all are listed: m = the length
      have hall : ∀ i, i < os.length → i ∈ ord := by
        intro i hi
        have hsub : ord.Perm (List.range os.length) ∨ True := .inr trivial
        obtain ⟨r, hr⟩ := pick_perm ord (List.range os.length) h.nodup (fun j hj => by have := h.low j hj; simp; omega)
        have hl := hr.length_eq
        simp at hl
        have : r = [] := List.length_eq_zero_iff.1 (by omega)
        subst this
        have := hr.mem_iff.1 (List.mem_range.2 hi)
        simpa using this
      have hm2 : m = os.length := by
        by_cases hc : m < os.length
        · have := h.low m (hall m hc); omega
        · omega
      have hp : listed = preT os.length m := by
        apply Array.ext
        · rw [h.size, preT_size _ _ hml]
        · intro i h1 h2
          have hi : i < os.length := by rw [h.size] at h1; exact h1
          have e1 := (h.iff i hi).2 (hall i hi)
          have e2 := preT_get os.length m i hml hi
          rw [Array.getD_eq_getD_getElem?, Array.getElem?_eq_getElem h1] at e1
          rw [Array.getD_eq_getD_getElem?, Array.getElem?_eq_getElem h2] at e2
          simp only [Option.getD_some] at e1 e2
          rw [e1, e2]; simp; omega
      rw [hp]
      refine tail_any hrdy 0 m (Nat.le_refl _) (by omega) a w ?_
      exact fin vf pf h.hP (fun i hi => h.rel i (hall i (by omega))) a w (h.st hml' (fun j hj => hall j (by rw [List.mem_range] at hj; omega)) (h.mem.pick hfn (fun j hj => h.hall j ((hfl j hj).1.imp (fun hlt => hall j (by omega)) (fun x => x)) (fun k hk => (hfl j hj).2 k (h.low k hk)))))
    | succ f ih =>
      intro listed ord held vf pf a w hf h
      by_cases hall : ∀ i, i < m → i ∈ ord
      · -- the tail's turn
        have hp : listed = preT os.length m := by
          apply Array.ext
          · rw [h.size, preT_size _ _ hml]
          · intro i h1 h2
            have hi : i < os.length := by rw [h.size] at h1; exact h1
            have e1 := h.iff i hi
            have e2 := preT_get os.length m i hml hi
            rw [Array.getD_eq_getD_getElem?, Array.getElem?_eq_getElem h1] at e1
            rw [Array.getD_eq_getD_getElem?, Array.getElem?_eq_getElem h2] at e2
            simp only [Option.getD_some] at e1 e2
            rw [e2, Bool.eq_iff_iff, e1, decide_eq_true_eq]
            exact ⟨fun hx => h.low i hx, fun hx => hall i hx⟩
        have hord : ord.length = m := by
          obtain ⟨r, hr⟩ := pick_perm ord (List.range m) h.nodup (fun j hj => by have := h.low j hj; simpa using this)
          obtain ⟨r', hr'⟩ := pick_perm (List.range m) ord List.nodup_range (fun j hj => hall j (by simpa using hj))
          have h1 := hr.length_eq
          have h2 := hr'.length_eq
          simp at h1 h2
          omega
        rw [hp]
        refine tail_any hrdy (f + 1) m (Nat.le_refl _) (by omega) a w ?_
        exact fin vf pf h.hP (fun i hi => h.rel i (hall i hi)) a w (h.st hml' (fun j hj => hall j (by simpa using hj)) (h.mem.pick hfn (fun j hj => h.hall j ((hfl j hj).1.imp (fun hlt => hall j hlt) (fun x => x)) (fun k hk => (hfl j hj).2 k (h.low k hk)))))
      · -- some quiet one is not done yet
        have hsome : ∃ i, i < m ∧ i ∉ ord := by
          by_cases hx : ∃ i, i < m ∧ i ∉ ord
          · exact hx
          · exact absurd (fun i hi => Decidable.byContradiction fun hn => hx ⟨i, hi, hn⟩) hall
        have mem_rdy : ∀ i, i ∈ Region.ready .any os.toArray listed ↔ i < os.length ∧ i ∉ ord ∧ ∀ j ∈ depsOf os i, j ∈ ord := by
          intro i
          unfold Region.ready
          rw [List.mem_filter, List.mem_range]
          simp only [List.size_toArray]
          constructor
          · rintro ⟨hi, hb⟩
            rw [Bool.and_eq_true] at hb
            have hno : i ∉ ord := fun hx => by rw [(h.iff i hi).2 hx] at hb; simp at hb
            refine ⟨hi, hno, fun j hj => ?_⟩
            have ho : os.toArray[i]? = some os[i] := by simp [hi]
            rw [ho] at hb
            simp only [Option.map_some, Option.getD_some, Array.all_eq_true'] at hb
            unfold depsOf at hj
            rw [List.getElem?_eq_getElem hi] at hj
            simp only [List.mem_map, List.mem_filter] at hj
            obtain ⟨e, ⟨he, hbd⟩, rfl⟩ := hj
            have hb2 := hb.2 e (by simpa using he)
            rw [hbd] at hb2
            simp at hb2
            have hlt := hback i hi e.on (by unfold depsOf; rw [List.getElem?_eq_getElem hi]; exact List.mem_map.2 ⟨e, List.mem_filter.2 ⟨he, hbd⟩, rfl⟩)
            refine (h.iff e.on (by omega)).1 ?_
            have hs : e.on < listed.size := by rw [h.size]; omega
            rw [Array.getD_eq_getD_getElem?, Array.getElem?_eq_getElem hs] 
            simp only [Option.getD_some]
            rw [Array.getElem?_eq_getElem hs] at hb2
            simpa using hb2
          · rintro ⟨hi, hno, hd⟩
            refine ⟨hi, ?_⟩
            have ho : os.toArray[i]? = some os[i] := by simp [hi]
            rw [ho]
            simp only [Option.map_some, Option.getD_some, Bool.and_eq_true, Array.all_eq_true']
            refine ⟨?_, fun e he => ?_⟩
            · cases hb : listed.getD i true with
              | true => exact absurd ((h.iff i hi).1 hb) hno
              | false => rfl
            · rw [Bool.or_eq_true]
              by_cases hbd : Region.binds .any e = true
              rotate_left
              · left; simpa using hbd
              right
              have hon : e.on ∈ depsOf os i := by unfold depsOf; rw [List.getElem?_eq_getElem hi]; exact List.mem_map.2 ⟨e, List.mem_filter.2 ⟨by simpa using he, hbd⟩, rfl⟩
              have hlt := hback i hi e.on hon
              have := (h.iff e.on (by omega)).2 (hd e.on hon)
              have hs : e.on < listed.size := by rw [h.size]; omega
              rw [Array.getD_eq_getD_getElem?, Array.getElem?_eq_getElem hs] at this
              simp only [Option.getD_some] at this
              rw [Array.getD_eq_getD_getElem?, Array.getElem?_eq_getElem hs]
              simpa using this
        have hdep : ∀ k j, Dep os k j → (∀ d ∈ depsOf os k, d ∈ ord) → j ∈ ord := by
          intro k j hd
          induction hd with
          | one hj => intro hx; exact hx _ hj
          | more hk _ ih2 => intro hx; exact ih2 (fun d hd => h.closed _ (hx _ hk) d hd)
        have hlow : ∀ i ∈ Region.ready .any os.toArray listed, i < m := by
          intro i hi
          obtain ⟨h1, h2, h3⟩ := (mem_rdy i).1 hi
          by_cases hc : i < m
          · exact hc
          · exfalso
            obtain ⟨q, hq, hqn⟩ := hsome
            rcases hcov i h1 with h4 | h4
            · exact hc h4
            · exact hqn (hdep i q (hmsk i q (h4 q hq)) h3)
        refine ⟨fun h0 => ?_, fun i hi => ?_⟩
        · -- the least one that is not done may come up
          exfalso
          obtain ⟨q, hq, hqn⟩ := hsome
          obtain ⟨p, hp, hmin⟩ := exists_least (p := fun i => i < m ∧ i ∉ ord) ⟨q, hq, hqn⟩
          have : p ∈ Region.ready .any os.toArray listed := by
            rw [mem_rdy]
            refine ⟨by omega, hp.2, fun j hj => ?_⟩
            have hlt := hback p (by omega) j hj
            apply Decidable.byContradiction
            intro hn
            have := hmin j ⟨by omega, hn⟩
            omega
          rw [h0] at this
          cases this
        · have him := hlow i hi
          obtain ⟨h1, h2, h3⟩ := (mem_rdy i).1 hi
          have ho : os[i]? = some os[i] := List.getElem?_eq_getElem h1
          have hdps := hdp i him
          have hsub : ∀ j ∈ dps.getD i [], j ∈ ord := fun j hj => hdep i j (hmsk i j (hdps.1 j hj)) h3
          have hqi := hqd i him
          have hqheld : ∀ j ∈ qd.getD i [], j ∈ held := fun j hj => h.hall j (.inl (hsub j ((hqi.1 j hj).1))) (fun k hk => (hqi.1 j hj).2 k (h.low k hk))
          have hobl := due i os[i] ho him vf pf h.hP (fun j hj => h.rel j (hsub j hj))
          have hdd := dstAt i him _ ho
          have hdlt : ∀ d, dsts.getD i none = some d → d < N := fun d hd => by
            have := List.all_eq_true.1 hN (some d) (by rw [← hd, List.getD_eq_getElem?_getD, List.getElem?_eq_getElem (by omega)]; exact List.getElem_mem _)
            simpa [Nat.blt_eq] using this
          have hdnone : ∀ d, dsts.getD i none = some d → lk env d = none := fun d hd => by
            have := List.all_eq_true.1 hfresh (some d) (by rw [← hd, List.getD_eq_getElem?_getD, List.getElem?_eq_getElem (by omega)]; exact List.getElem_mem _)
            simpa using this
          have hne : ∀ j ∈ ord, j ≠ i := fun j hj e => h2 (e ▸ hj)
          have hneh : ∀ j ∈ held, j ≠ i := fun j hj e => by
            rcases h.hin j hj with h5 | h5
            · exact hne j h5 e
            · omega
          have next : ∀ (held' : List Nat) v post w', held'.Nodup → (∀ k ∈ held', k ∈ i :: ord ∨ (os.length ≤ k ∧ k < os.length + P0.length)) → (∀ k, (k ∈ i :: ord ∨ (os.length ≤ k ∧ k < os.length + P0.length)) → (∀ j ∈ i :: ord, tau.getD j none ≠ some k) → k ∈ held') → R i ((dps.getD i []).map vf) v post →
              Mem w0 (held'.flatMap (fun k => if k = i then post else pf k) ++ l) w' → wpAny P .any os.toArray Q f (listed.setIfInBounds i true) (a.put (dsts.getD i none) v) w' := by
            intro held' v post w' hh1 hh2 hh3 hv hm
            refine ih (listed.setIfInBounds i true) (i :: ord) held' (fun k => if k = i then v else vf k) (fun k => if k = i then post else pf k) _ w' (by simp; omega) ⟨?_, ?_, ?_, ?_, ?_, ?_, ?_, hh1, hh2, hh3, ?_, hm, ?_, ?_, ?_, ?_⟩
            · simp [h.size]
            · intro k hk
              by_cases hki : k = i
              · subst hki
                have hs : k < listed.size := by rw [h.size]; exact hk
                simp [Array.getD_eq_getD_getElem?, hs]
              · rw [getD_set_ne true (fun e => hki e.symm), h.iff k hk]
                simp [hki]
            · intro k hk; rcases List.mem_cons.1 hk with rfl | hk; exact him; exact h.low k hk
            · intro k hk j hj
              rcases List.mem_cons.1 hk with rfl | hk
              · exact List.mem_cons_of_mem _ (h3 j hj)
              · exact List.mem_cons_of_mem _ (h.closed k hk j hj)
            · exact List.nodup_cons.2 ⟨h2, h.nodup⟩
            · intro k hk j hj
              rcases List.mem_cons.1 hk with rfl | hk
              · exact List.mem_cons_of_mem _ (hsub j hj)
              · exact List.mem_cons_of_mem _ (h.dcl k hk j hj)
            · intro k hk
              rcases List.mem_cons.1 hk with rfl | hk
              · have e : (dps.getD k []).map (fun j => if j = k then v else vf j) = (dps.getD k []).map vf := List.map_congr_left fun j hj => if_neg (hne j (hsub j hj))
                rw [e, if_pos rfl, if_pos rfl]; exact hv
              · have e : (dps.getD k []).map (fun j => if j = i then v else vf j) = (dps.getD k []).map vf := List.map_congr_left fun j hj => if_neg (hne j (h.dcl k hk j hj))
                rw [e, if_neg (hne k hk), if_neg (hne k hk)]; exact h.rel k hk
            · intro k hk; rw [if_neg (by omega)]; exact h.hP k hk
            · cases hdi : dsts.getD i none <;> simp [Act.put, h.asize]
            · cases hdi : dsts.getD i none <;> exact h.defers
            · intro d u hd
              cases hdi : dsts.getD i none with
              | none => exact h.env d u hd
              | some d0 =>
                have hdne : d0 ≠ d := fun e => by rw [← e, hdnone _ hdi] at hd; cases hd
                simp only [Act.put]
                rw [Array.getElem?_setIfInBounds_ne hdne]
                exact h.env d u hd
            · intro k hk d hd
              cases hdi : dsts.getD i none with
              | none =>
                rcases List.mem_cons.1 hk with rfl | hk
                · rw [List.getD_eq_getElem?_getD, hd] at hdi; cases hdi
                · show a.tmps[d]? = _
                  rw [if_neg (hne k hk)]; exact h.slots k hk d hd
              | some d0 =>
                have hlt : d0 < a.tmps.size := by rw [h.asize]; exact hdlt _ hdi
                rcases List.mem_cons.1 hk with rfl | hk
                · have : d = d0 := by rw [List.getD_eq_getElem?_getD, hd] at hdi; exact Option.some.inj hdi
                  subst this
                  simp only [Act.put, if_true]
                  simp only [Array.getElem?_setIfInBounds_self_of_lt hlt]
                · have hdne : d0 ≠ d := by
                    intro e
                    have hk2 : k < dsts.length := (List.getElem?_eq_some_iff.1 hd).1
                    have hdk : dsts.getD k none = some d := by rw [List.getD_eq_getElem?_getD, hd]; rfl
                    rcases hdn i him k (by omega) with (hx | hx) | hx
                    · exact hne k hk hx.symm
                    · rw [hdi] at hx; cases hx
                    · exact hx (by rw [hdi, hdk, e])
                  simp only [Act.put]
                  rw [Array.getElem?_setIfInBounds_ne hdne, if_neg (hne k hk)]
                  exact h.slots k hk d hd
          unfold wpOp
          have hoa : os.toArray[i]? = some os[i] := by simp [h1]
          rw [hoa]
          simp only
          have hpost : ∀ (hs : List Nat) (post : List HP), (∀ k ∈ hs, k ≠ i) → (i :: hs).flatMap (fun k => if k = i then post else pf k) = post ++ hs.flatMap pf := fun hs post hx => by
            rw [List.flatMap_cons, if_pos rfl]
            congr 1
            rw [List.flatMap_def, List.flatMap_def]
            congr 1
            exact List.map_congr_left fun k hk => if_neg (hx k hk)
          cases ht : tau.getD i none with
          | none =>
            rw [ht] at hobl
            have hst := h.st hml' hsub (h.mem.pick hqi.2 hqheld)
            have next1 : ∀ v post w', R i ((dps.getD i []).map vf) v post → Mem w post w' → wpAny P .any os.toArray Q f (listed.setIfInBounds i true) (a.put (dsts.getD i none) v) w' := fun v post w' hv hm => by
              refine next (i :: held) v post w' (List.nodup_cons.2 ⟨fun hx => hneh i hx rfl, h.hn⟩) (fun k hk => ?_) (fun k hk hk2 => ?_) hv ?_
              · rcases List.mem_cons.1 hk with rfl | hk
                · exact .inl List.mem_cons_self
                · exact (h.hin k hk).imp (List.mem_cons_of_mem _) (fun x => x)
              · by_cases hki : k = i
                · rw [hki]; exact List.mem_cons_self
                · refine List.mem_cons_of_mem _ (h.hall k (hk.imp (fun hx => by rcases List.mem_cons.1 hx with hx | hx; exact absurd hx hki; exact hx) (fun x => x)) (fun j hj => hk2 j (List.mem_cons_of_mem _ hj)))
              · rw [hpost held post hneh, List.append_assoc]; exact h.mem.app hm
            rcases hobl with ⟨hw, hq⟩ | ⟨hw, hq⟩
            · rw [if_pos (hst.wanted hw)]
              refine .inl (hq a w hst Q _ fun v post w' hv hm => ?_)
              rw [hdd]
              exact next1 v post w' hv hm
            · rw [if_neg (by rw [hst.wanted hw]; decide), hdd]
              exact next1 undef [] w hq (Mem.refl w)
          | some hh =>
            rw [ht] at hobl
            have hth2 := hth i him
            rw [ht] at hth2
            simp only [Bool.and_eq_true, Bool.or_eq_true, Nat.ble_eq, Nat.blt_eq, beq_iff_eq, List.all_eq_true, List.mem_range, bne_iff_ne, List.contains_iff_mem] at hth2
            have hheld : hh ∈ held := h.hall hh (hth2.1.symm.imp (fun hx => hsub hh hx) (fun x => x)) (fun k hk => (hth2.2 k (h.low k hk)).resolve_left (hne k hk))
            have hperm := List.perm_cons_erase hheld
            have hmem : Mem w0 (pf hh ++ ((held.erase hh).flatMap pf ++ l)) w := by
              have := h.mem.perm ((hperm.flatMap_right pf).append_right l)
              rwa [List.flatMap_cons, List.append_assoc] at this
            have hnin : hh ∉ qd.getD i [] := fun hx => (hqi.1 hh hx).2 i him ht
            have hconv : ∀ w, Mem w0 ((held.erase hh).flatMap pf ++ l) w → Mem w0 ((qd.getD i []).flatMap pf ++ l) w := fun w hm => hm.pick hqi.2 (fun j hj => (List.mem_erase_of_ne (fun (e : j = hh) => hnin (by rw [← e]; exact hj))).2 (hqheld j hj))
            have hst := h.st hml' hsub hmem
            have hneh2 : ∀ k ∈ held.erase hh, k ≠ i := fun k hk => hneh k (List.mem_of_mem_erase hk)
            have next2 : ∀ v post w', R i ((dps.getD i []).map vf) v post → Mem w0 (post ++ ((held.erase hh).flatMap pf ++ l)) w' → wpAny P .any os.toArray Q f (listed.setIfInBounds i true) (a.put (dsts.getD i none) v) w' := fun v post w' hv hm => by
              refine next (i :: held.erase hh) v post w' (List.nodup_cons.2 ⟨fun hx => hneh2 i hx rfl, h.hn.erase hh⟩) (fun k hk => ?_) (fun k hk hk2 => ?_) hv ?_
              · rcases List.mem_cons.1 hk with rfl | hk
                · exact .inl List.mem_cons_self
                · exact (h.hin k (List.mem_of_mem_erase hk)).imp (List.mem_cons_of_mem _) (fun x => x)
              · by_cases hki : k = i
                · rw [hki]; exact List.mem_cons_self
                · have hkh : k ≠ hh := fun e => hk2 i List.mem_cons_self (by rw [ht, e])
                  exact List.mem_cons_of_mem _ ((List.mem_erase_of_ne hkh).2 (h.hall k (hk.imp (fun hx => by rcases List.mem_cons.1 hx with hx | hx; exact absurd hx hki; exact hx) (fun x => x)) (fun j hj => hk2 j (List.mem_cons_of_mem _ hj))))
              · rw [hpost _ post hneh2, List.append_assoc]; exact hm
            rcases hobl with ⟨hw, hq⟩ | ⟨hw, hq⟩
            · rw [if_pos (hst.wanted hw)]
              refine .inl (hq _ hconv a w hst Q _ fun v post w' hv hm => ?_)
              rw [hdd]
              exact next2 v post w' hv hm
            · rw [if_neg (by rw [hst.wanted hw]; decide), hdd]
              exact next2 undef (pf hh) w hq hmem
  refine key os.length (Array.replicate os.length false) [] ((List.range P0.length).map (os.length + ·)) (fun _ => undef) (fun k => if os.length ≤ k then P0.getD (k - os.length) [] else []) a _ (by simp) ⟨by simp, ?_, by simp, by simp, by simp, by simp, by simp, ?_, ?_, ?_, ?_, ?_, st.size, st.defers, st.env, by simp⟩
  · intro i hi; simp [hi]
  · exact nodup_shift _ _
  · intro i hi
    simp only [List.mem_map, List.mem_range] at hi
    obtain ⟨k, hk, rfl⟩ := hi
    exact .inr ⟨by omega, by omega⟩
  · rintro i (hi | ⟨h1, h2⟩) _
    · cases hi
    · simp only [List.mem_map, List.mem_range]; exact ⟨i - os.length, by omega, by omega⟩
  · intro k hk; rw [if_pos (by omega), Nat.add_sub_cancel_left]
  · have e : ((List.range P0.length).map (os.length + ·)).flatMap (fun k => if os.length ≤ k then P0.getD (k - os.length) [] else []) = P0.flatten := by
      rw [List.flatMap_map]
      have : (fun a : Nat => (if os.length ≤ os.length + a then P0.getD (os.length + a - os.length) [] else [])) = fun a => P0.getD a [] := by
        funext a; rw [if_pos (by omega), Nat.add_sub_cancel_left]
      rw [List.flatMap_def]
      rw [show (List.map (fun a : Nat => (if os.length ≤ os.length + a then P0.getD (os.length + a - os.length) [] else [])) (List.range P0.length)) = P0 from by rw [this]; exact range_getD P0]
    rw [e]; exact st.mem.drawn _
/-- each quiet operation's due, in the order of the text -/
def Dues3 (P : Program) (ops : Array Oper) (N : Nat) (w0 : World) (l : List HP) (env : List (Nat × Value)) (P0 : List (List HP)) (mu : Nat) (dsts : List (Option Nat)) (all qall : List (List Nat)) (tau : List (Option Nat)) (R : Nat → List Value → Value → List HP → Prop) : Nat → List (List Nat) → List Oper → Prop
  | _, _, [] => True
  | k, dss, o :: os => (∀ (vf : Nat → Value) (pf : Nat → List HP), (∀ k, k < P0.length → pf (mu + k) = P0.getD k []) → (∀ j ∈ all.getD k [], R j ((all.getD j []).map vf) (vf j) (pf j)) → Obl2 P ops N w0 (tau.getD k none) pf ((qall.getD k []).flatMap pf ++ l) (envOf3 dsts vf (all.getD k []) ++ env) o (R k ((all.getD k []).map vf))) ∧ Dues3 P ops N w0 l env P0 mu dsts all qall tau R (k + 1) dss os
theorem dues3_at {P : Program} {ops : Array Oper} {N : Nat} {w0 : World} {l : List HP} {env : List (Nat × Value)} {P0 : List (List HP)} {mu : Nat} {dsts : List (Option Nat)} {all qall : List (List Nat)} {tau : List (Option Nat)} {R : Nat → List Value → Value → List HP → Prop} : ∀ (os : List Oper) (dss : List (List Nat)) (k : Nat), Dues3 P ops N w0 l env P0 mu dsts all qall tau R k dss os → ∀ i o, os[i]? = some o → ∀ vf pf, (∀ k, k < P0.length → pf (mu + k) = P0.getD k []) → (∀ j ∈ all.getD (k + i) [], R j ((all.getD j []).map vf) (vf j) (pf j)) → Obl2 P ops N w0 (tau.getD (k + i) none) pf ((qall.getD (k + i) []).flatMap pf ++ l) (envOf3 dsts vf (all.getD (k + i) []) ++ env) o (R (k + i) ((all.getD (k + i) []).map vf))
  | [], _, _, _, i, o, ho, _, _, _, _ => by simp at ho
  | o' :: os, dss, k, h, 0, o, ho, vf, pf, hP, hR => by simp at ho; subst ho; exact h.1 vf pf hP hR
  | o' :: os, dss, k, h, i + 1, o, ho, vf, pf, hP, hR => by
    have e : k + 1 + i = k + (i + 1) := by omega
    have := dues3_at os dss (k + 1) h.2 i o (by simpa using ho) vf pf hP (by rw [e]; exact hR)
    rwa [e] at this
theorem hc_draw3 {id : Nat} (hmix : P.follows .mixedOrders = true) (m : Nat) (qs : List Nat) (quiet tail : List Oper) (dps : List (List Nat)) (dsts : List (Option Nat)) (R : Nat → List Value → Value → List HP → Prop) (qd : List (List Nat)) (tau : List (Option Nat)) (P0 : List (List HP)) (fl : List Nat) (mu : Nat)
    (hos : os = quiet ++ tail) (hq : (Nat.beq quiet.length m && (List.range m == qs) && Nat.beq os.length mu) = true) (hok : drawOk3 os m dps dsts = true) (htau : tauOk3 os m P0.length dps qd tau fl = true) (hfresh : dsts.all (fun d => match d with | some d => (lk env d).isNone | none => true) = true) (hN : dsts.all (fun d => match d with | some d => Nat.blt d N | none => true) = true)
    (due : Dues3 P os.toArray N w0 l env P0 mu dsts dps qd tau R 0 [] quiet)
    (fin : ∀ vf pf, (∀ k, k < P0.length → pf (mu + k) = P0.getD k []) → (∀ i, i < m → R i ((dps.getD i []).map vf) (vf i) (pf i)) → HL P N os.toArray w0 (fl.flatMap pf ++ l) (envOf3 dsts vf qs ++ env) tail Q) : HC P N w0 (P0.flatten ++ l) env (.region id os.toArray true) Q := by
  simp only [Bool.and_eq_true, Nat.beq_eq, beq_iff_eq] at hq
  obtain ⟨⟨hq1, hq2⟩, hq3⟩ := hq
  refine hc_drawn3 hmix m dps dsts R qd tau P0 fl hok htau hfresh hN (fun i o ho hi vf pf hP hR => ?_) (fun vf pf hP hR => ?_)
  · have ho' : quiet[i]? = some o := by rw [hos, List.getElem?_append_left (by omega)] at ho; exact ho
    have := dues3_at quiet [] 0 due i o ho' vf pf (by rw [← hq3]; exact hP) (by rw [Nat.zero_add]; exact hR)
    rwa [Nat.zero_add] at this
  · rw [hq2, hos, List.drop_left' hq1, ← hos]; exact fin vf pf (by rw [← hq3]; exact hP) hR
/-- a whole struct stored into a variable -/
theorem rm_storeBoxN {P0 X : List HP} {o : Oper} {t b off : Nat} {x y : Operand} {cs cs' : Array Value} {tb : TypeId} {us : List Value} (i : Nat) (hd : o.dst = none) (ho : o.op = .store t x y) (hs : (P.info? t).map (·.size) = some us.length)
    (hx : ev env x = some (.pointer (some ⟨b, off, none⟩))) (hy : ev env y = some (.agg us.toArray)) (hi : P0[i]? = some (boxE b cs tb)) (h1 : ∀ u ∈ us, u.oneCell' = true) (hlt : Nat.ble (off + us.length) cs.size = true) (hcs : putN cs off us = cs') :
    RunM P N w0 P0 X env o (fun v post => post = P0.set i (boxE b cs' tb)) := fun L hL a w st Q K hK => by
  subst hcs
  rw [Nat.ble_eq] at hlt
  have hil : i < P0.length := (List.getElem?_eq_some_iff.1 hi).1
  obtain ⟨w', hr, hm⟩ := run_storeN (P := P) (off := off) us 0 cs (P0 ++ L) w st.mem (by rw [List.getElem?_append_left hil]; exact hi) h1 (by omega)
  have hce : (Value.agg us.toArray).cells = us.toArray := rfl
  have hrun : (execOp a.eval o).run P w = .ok .skip w' := by simp [execOp, ho, st.eval hx, st.eval hy, Instr.storeAt, Instr.sureAddr, storeVar, hce, run_size hs, hr]
  unfold Oper.wp
  rw [hrun, Oper.upon_skip]
  exact hK undef _ w' rfl (by rw [List.set_append_left _ _ hil] at hm; exact hm)
/-- append to a row of the call's own -/
theorem rm_append {X : List HP} {o : Oper} {d t e s bytes n m : Nat} {x y : Operand} {v u z : Value} {xs news : List Value} (ho : o.op = .call { callee := .builtin .append, args := #[x, y], argTypes := #[t, t] })
    (hu : P.underlying t = some (.slice e)) (hinf : (P.info? e).map (fun i => (i.zero, i.size, i.bytes)) = some (some z, s, bytes)) (hzs : (Nat.beq z.cells.size s && Nat.blt 0 s && Nat.ble bytes 1000) = true)
    (hx : ev env x = some v) (hy : ev env y = some u) (hr : Rd w0 X u s m news) (h1 : ∀ q ∈ news, q.oneCell' = true) (hnm : n + m ≤ 100000000000)
    {n' : Nat} {xs' : List Value} (hn' : n + m = n') (hx' : xs ++ news = xs') : RunM P N w0 [rowE e s v n xs] X env o (fun v' post => ∃ p', post = [p'] ∧ p' = rowE e s v' n' xs') := fun L hL a w st Q K hK => by
  obtain ⟨inf, hi', hz, hs, hby⟩ := info_parts hinf
  simp only [Bool.and_eq_true, Nat.beq_eq, Nat.blt_eq, Nat.ble_eq] at hzs
  obtain ⟨⟨hz1, hz2⟩, hz3⟩ := hzs
  obtain ⟨ad, cap, rfl, hl, hm, hc⟩ := hr w (hL w (st.mem.sub (List.sublist_append_right _ _)))
  have hown : w.ownsRow 0 e s v n xs := st.mem.holds _ (mem_at (i := 0) rfl)
  have hrun : ∃ v' w', (Builtin.append_ #[t, t] o.type #[v, .slice ad m cap]).run P w = .ok v' w' ∧ w'.ownsRow 0 e s v' (n + m) (xs ++ news) ∧ w.grownBy w' v.ownBlock ∧ (v'.ownBlock = v.ownBlock ∨ v'.ownBlock = some w.heap.size) := by
    by_cases hm0 : m = 0
    · subst hm0
      have hn : news = [] := List.eq_nil_of_length_eq_zero (by simpa using hl)
      subst hn
      refine ⟨v, w, ?_, by simpa using hown, World.grownBy.refl _ _, .inl rfl⟩
      rcases hown.2 with ⟨rfl, rfl⟩ | ⟨g, cap', cur, rfl, _, hg, hnc, hcm, hcs, htake⟩
      · cases ad <;> simp [Builtin.append_, run_underlying hu, sizeOf, typeInfo, hi', Builtin.lenOf, Builtin.firstCells, loadCells, loadCellsFrom]
      · cases ad <;> simp [Builtin.append_, run_underlying hu, sizeOf, typeInfo, hi', Builtin.lenOf, Builtin.firstCells, loadCells, loadCellsFrom, hnc, storeCells]
    · obtain ⟨b, off, rfl, hc'⟩ := hc (by omega)
      have hb : (n + m) * bytes ≤ 140737488355328 := by have := Nat.mul_le_mul hnm hz3; omega
      obtain ⟨v', w', e1, e2, e3, _, e5⟩ := run_append_own_at (P := P) w 0 t o.type e inf z s bytes hu hi' hz hs hby hz1 hz2 v n xs hown ⟨b, off, none⟩ m cap news hl (fun j q hj => by rw [add_lit]; exact hc' j q hj) h1 (by unfold maxLen; omega) hb (Nat.zero_le _)
      exact ⟨v', w', e1, e2, e3, e5⟩
  obtain ⟨v', w', e1, e2, e3, e4⟩ := hrun
  have hr : (execOp a.eval o).run P w = .ok (.value v') w' := by
    simp only [execOp, ho, resolve, invoke, builtin, Sem.run_bind, Sem.run_pure, Result.andThen_ok, List.map_toArray, List.map_cons, List.map_nil, st.eval hx, st.eval hy, e1]
  unfold Oper.wp
  rw [hr, Oper.upon_value]
  subst hn' hx'
  exact hK v' _ w' ⟨_, rfl, rfl⟩ (Mem.append (i := 0) rfl st.mem e2 e3 e4)
end
/-- block g is a cursor -/
def curE (g : Nat) (a : Option Addr) (len cap : Nat) : HP := ⟨fun k => k = g, fun w => (∃ i : Nat, i ≤ len ∧ w.cell? ⟨g, 1, none⟩ = some (.int .i64 (i : Int))) ∧ (∃ h : Int, w.cell? ⟨g, 2, none⟩ = some (.int .i64 h)) ∧
  w.cell? ⟨g, 0, none⟩ = some (.slice a len cap) ∧ w.frozen? ⟨g, 1, none⟩ = false ∧ w.frozen? ⟨g, 2, none⟩ = false⟩
theorem cell_heap {w w' : World} {g o : Nat} (h : w'.heap[g]? = w.heap[g]?) : w'.cell? ⟨g, o, none⟩ = w.cell? ⟨g, o, none⟩ := by simp [World.cell?, h]
theorem frozen_heap {w w' : World} {g o : Nat} (h : w'.heap[g]? = w.heap[g]?) : w'.frozen? ⟨g, o, none⟩ = w.frozen? ⟨g, o, none⟩ := by simp [World.frozen?, h]
theorem curE_ok (g : Nat) (a : Option Addr) (len cap : Nat) : (curE g a len cap).Ok := fun w w' _ hb h => by
  have e := hb g rfl
  have c := fun o => cell_heap (o := o) e
  have f := fun o => frozen_heap (o := o) e
  simp only [curE] at h ⊢
  rw [c 0, c 1, c 2, f 1, f 2]; exact h
theorem cur_of {w0 w : World} {l : List HP} {g : Nat} {a : Option Addr} {len cap : Nat} {z : List Int} (hm : Mem w0 (curE g a len cap :: l) w) (hb : BRow .u8 w0 a len cap z) : Cur w w0.heap.size g a len cap z := by
  obtain ⟨h1, h2, h3, h4, h5⟩ := hm.holds _ List.mem_cons_self
  exact ⟨h1, h2, h3, h4, h5, hb.below hm.bel, (hm.new _ List.mem_cons_self g rfl).1, hb.old⟩
theorem cur_turn {w0 w w' : World} {l : List HP} {B g : Nat} {a : Option Addr} {len cap : Nat} {z : List Int} (hm : Mem w0 (curE g a len cap :: l) w) (hc : Cur w' B g a len cap z) (hg : w.grownBy w' (some g)) : Mem w0 (curE g a len cap :: l) w' :=
  hm.turn hg.os hg.tape hg.output hg.size (fun b hb hf => hg.block b hb (fun e => hf (by cases e; rfl))) (curE_ok g a len cap) (fun b hb => .inl hb) (fun b hb => by cases hb; exact hc.lt) ⟨hc.1, hc.2.1, hc.2.2.1, hc.2.2.2.1, hc.2.2.2.2.1⟩
/-- an old contract over a cursor, as one that turns the caller's memory -/
theorem cur_mut {f : FuncId} {vs : Array Value} {R : Ending → Prop} {R' : Value → Prop} {w0 : World} {l : List HP} {w : World} {g : Nat} {a : Option Addr} {len cap : Nat} {z : List Int} (hm : Mem w0 (curE g a len cap :: l) w) (hb : BRow .u8 w0 a len cap z)
    (h : ∀ w B, Cur w B g a len cap z → Calls Try.prog f vs w fun e w' => R e ∧ Cur w' B g a len cap z ∧ w.grownBy w' (some g)) (hR : ∀ e, R e → ∃ v, e = .returned v ∧ R' v) :
    Calls Try.prog f vs w (fun e_ w_ => ∃ v_ p_, e_ = .returned v_ ∧ (R' v_ ∧ p_ = curE g a len cap) ∧ Mem w0 (p_ :: l) w_) :=
  (h w _ (cur_of hm hb)).mono fun e w' ⟨he, hc, hg⟩ => by
    obtain ⟨v, hv, hr⟩ := hR e he
    exact ⟨v, _, hv, ⟨hr, rfl⟩, cur_turn hm hc hg⟩
theorem device_mut {w0 : World} {l : List HP} {w : World} {g : Nat} {a : Option Addr} {len cap : Nat} {z : List Int} (hm : Mem w0 (curE g a len cap :: l) w) (hb : BRow .u8 w0 a len cap z) :
    Calls Try.prog 32 #[.pointer (some ⟨g, 0, none⟩)] w (fun e_ w_ => ∃ v_ p_, e_ = .returned v_ ∧ ((∃ d : Dev, Drawn d ∧ v_ = .agg #[.int .i64 d.W, .int .i64 d.H, .int .i64 d.T, .int .i64 d.R]) ∧ p_ = curE g a len cap) ∧ Mem w0 (p_ :: l) w_) :=
  cur_mut (R' := fun v => ∃ d : Dev, Drawn d ∧ v = .agg #[.int .i64 d.W, .int .i64 d.H, .int .i64 d.T, .int .i64 d.R]) hm hb (fun w B hc => l26Device_any B g a len cap z w hc) (fun e ⟨d, hd, he⟩ => ⟨_, he, d, hd, rfl⟩)
/-- a new cursor -/
theorem new_ret {w : World} {a : Option Addr} {len cap : Nat} {z : List Int} (hb : BRow .u8 w a len cap z) (hlen : len ≤ 1048576) :
    Calls Try.prog 31 #[.slice a len cap] w (Ret w (fun v post => ∃ g, v = .pointer (some ⟨g, 0, none⟩) ∧ post = [curE g a len cap])) :=
  (l01New_any a len cap z w hlen hb).mono fun e w' ⟨g, he, hc, hbel⟩ => by
    refine ⟨_, [curE g a len cap], he, ⟨g, rfl, rfl⟩, hbel, ?_, ?_, ?_, by simp⟩
    · intro p hp; rw [List.mem_singleton] at hp; subst hp; exact ⟨hc.1, hc.2.1, hc.2.2.1, hc.2.2.2.1, hc.2.2.2.2.1⟩
    · intro p hp; rw [List.mem_singleton] at hp; subst hp; exact curE_ok g a len cap
    · intro p hp b hf; rw [List.mem_singleton] at hp; subst hp; cases hf; exact ⟨hc.base, hc.lt⟩
open Go.RowKit
theorem byte_mut {w0 : World} {l : List HP} {w : World} {g : Nat} {a : Option Addr} {len cap : Nat} {z : List Int} (hm : Mem w0 (curE g a len cap :: l) w) (hb : BRow .u8 w0 a len cap z) :
    Calls Try.prog 67 #[.pointer (some ⟨g, 0, none⟩)] w (fun e_ w_ => ∃ v_ p_, e_ = .returned v_ ∧ ((∃ x : Int, v_ = .int .i64 x ∧ 0 ≤ x ∧ x < 256) ∧ p_ = curE g a len cap) ∧ Mem w0 (p_ :: l) w_) :=
  cur_mut (R' := fun v => ∃ x : Int, v = .int .i64 x ∧ 0 ≤ x ∧ x < 256) hm hb (fun w B hc => l01Byte_any B g a len cap z w hc) (fun e ⟨x, hx, he⟩ => ⟨_, he, (x : Int), rfl, by omega, by omega⟩)
set_option maxHeartbeats 4000000 in
set_option maxRecDepth 100000 in
theorem belowN_mut (g : Nat) (a : Option Addr) (len cap : Nat) (z : List Int) (n : Int) (w0 : World) (l : List HP) (w : World) (hm0 : Mem w0 (curE g a len cap :: l) w) (hb : BRow .u8 w0 a len cap z) (hn : 1 ≤ n ∧ n ≤ 4294967296) :
  Calls Try.prog 33 #[.pointer (some ⟨g, 0, none⟩), .int .i64 n] w (fun e_ w_ => ∃ v_ p_, e_ = .returned v_ ∧ (fun u_ p_ => (∃ x : Int, u_ = .int .i64 x ∧ 0 ≤ x ∧ x < n) ∧ p_ = curE g a len cap) v_ p_ ∧ Mem w0 (p_ :: l) w_) := by
 refine calls_hcM (N := 37) (args := [.pointer (some ⟨g, 0, none⟩), .int .i64 n]) Try.func33 rfl rfl hm0 ?_
 refine hc_less _ (sx 0 rfl (sx 1 rfl (sub_nil _))) (.refl _) ?_
 refine hc_seq ?_
 refine hc_region ?_
 refine hl_v rfl rfl rfl (rv_ev rfl) ?_
 refine hl_less (sx 0 rfl (sx 1 rfl (sx 4 rfl (sub_nil _)))) (.refl _) ?_
 refine hl_nil ?_
 refine hq_then ?_
 refine hc_seq ?_
 refine hc_seq ?_
 refine hc_region ?_
 refine hl_v rfl rfl rfl (rv_ev rfl) ?_
 refine hl_leq rfl rfl rfl rfl rfl rfl (fun h1 => absurd h1 (by omega)) (fun h1 => ?_)
 refine hl_less (sx 0 rfl (sx 1 rfl (sx 4 rfl (sx 10 rfl (sub_nil _))))) (.refl _) ?_
 refine hl_nil ?_
 refine hq_then ?_
 refine hc_false rfl ?_
 refine hc_skip ?_
 refine hq_then ?_
 refine hc_seq ?_
 refine hc_seq ?_
 refine hc_region ?_
 refine hl_v rfl rfl rfl (rv_ev rfl) ?_
 refine hl_leq rfl rfl rfl rfl rfl rfl (fun h2 => ?_) (fun h2 => ?_)
 ·
  refine hl_less (sx 0 rfl (sx 1 rfl (sx 4 rfl (sx 10 rfl (sx 12 rfl (sub_nil _)))))) (.refl _) ?_
  refine hl_nil ?_
  refine hq_then ?_
  refine hc_true rfl ?_
  refine hc_seq ?_
  refine hc_region ?_
  refine hl_v rfl rfl rfl (rv_ev rfl) ?_
  refine hl_callM (R := (fun u_ p_ => (∃ x : Int, u_ = .int .i64 x ∧ 0 ≤ x ∧ x < 256) ∧ p_ = curE g a len cap)) 0 rfl rfl (by kernel_rfl) rfl rfl (fun l' w hm => byte_mut hm hb) ?_
  intro v3 p4 hR5
  obtain ⟨⟨xhR5, rfl, xhR50, xhR51⟩, rfl⟩ := hR5
  refine hl_eqL (l' := (curE g a len cap :: l)) rfl ?_
  refine hl_v rfl rfl rfl (rv_ev rfl) ?_
  refine hl_v rfl rfl rfl (rv_rem rfl rfl rfl (by constructor <;> omega)) ?_
  refine hl_v rfl rfl rfl (rv_ev rfl) ?_
  refine hl_less (sx 0 rfl (sx 1 rfl (sx 4 rfl (sx 10 rfl (sx 12 rfl (sub_nil _)))))) (.refl _) ?_
  refine hl_nil ?_
  refine hq_then ?_
  refine hc_ret ?_
  refine hq_then_ret ?_
  exact hq_retMut (p' := curE g a len cap) rfl rfl (.refl _) ⟨⟨_, rfl, Int.emod_nonneg _ (by omega), Int.emod_lt_of_pos _ (by omega)⟩, rfl⟩
 ·
  refine hl_less (sx 0 rfl (sx 1 rfl (sx 4 rfl (sx 10 rfl (sx 12 rfl (sub_nil _)))))) (.refl _) ?_
  refine hl_nil ?_
  refine hq_then ?_
  refine hc_false rfl ?_
  refine hc_skip ?_
  refine hq_then ?_
  refine hc_seq ?_
  refine hc_region ?_
  refine hl_v rfl rfl rfl (rv_ev rfl) ?_
  refine hl_callM (R := (fun u_ p_ => (∃ x : Int, u_ = .int .i64 x ∧ 0 ≤ x ∧ x < 256) ∧ p_ = curE g a len cap)) 0 rfl rfl (by kernel_rfl) rfl rfl (fun l' w hm => byte_mut hm hb) ?_
  intro v6 p7 hR8
  obtain ⟨⟨xhR8, rfl, xhR80, xhR81⟩, rfl⟩ := hR8
  refine hl_eqL (l' := (curE g a len cap :: l)) rfl ?_
  refine hl_v rfl rfl rfl (rv_ev rfl) ?_
  refine hl_less (sx 0 rfl (sx 1 rfl (sx 4 rfl (sx 5 rfl (sx 10 rfl (sx 12 rfl (sub_nil _))))))) (.refl _) ?_
  refine hl_nil ?_
  refine hq_then ?_
  refine hc_seq ?_
  refine hc_region ?_
  refine hl_v rfl rfl rfl (rv_ev rfl) ?_
  refine hl_callM (R := (fun u_ p_ => (∃ x : Int, u_ = .int .i64 x ∧ 0 ≤ x ∧ x < 256) ∧ p_ = curE g a len cap)) 0 rfl rfl (by kernel_rfl) rfl rfl (fun l' w hm => byte_mut hm hb) ?_
  intro v9 p10 hR11
  obtain ⟨⟨xhR11, rfl, xhR110, xhR111⟩, rfl⟩ := hR11
  refine hl_eqL (l' := (curE g a len cap :: l)) rfl ?_
  refine hl_v rfl rfl rfl (rv_ev rfl) ?_
  refine hl_less (sx 0 rfl (sx 1 rfl (sx 4 rfl (sx 5 rfl (sx 6 rfl (sx 10 rfl (sx 12 rfl (sub_nil _)))))))) (.refl _) ?_
  refine hl_nil ?_
  refine hq_then ?_
  refine hc_seq ?_
  refine hc_region ?_
  refine hl_v rfl rfl rfl (rv_ev rfl) ?_
  refine hl_callM (R := (fun u_ p_ => (∃ x : Int, u_ = .int .i64 x ∧ 0 ≤ x ∧ x < 256) ∧ p_ = curE g a len cap)) 0 rfl rfl (by kernel_rfl) rfl rfl (fun l' w hm => byte_mut hm hb) ?_
  intro v12 p13 hR14
  obtain ⟨⟨xhR14, rfl, xhR140, xhR141⟩, rfl⟩ := hR14
  refine hl_eqL (l' := (curE g a len cap :: l)) rfl ?_
  refine hl_v rfl rfl rfl (rv_ev rfl) ?_
  refine hl_less (sx 0 rfl (sx 1 rfl (sx 4 rfl (sx 5 rfl (sx 6 rfl (sx 7 rfl (sx 10 rfl (sx 12 rfl (sub_nil _))))))))) (.refl _) ?_
  refine hl_nil ?_
  refine hq_then ?_
  refine hc_seq ?_
  refine hc_region ?_
  refine hl_v rfl rfl rfl (rv_ev rfl) ?_
  refine hl_callM (R := (fun u_ p_ => (∃ x : Int, u_ = .int .i64 x ∧ 0 ≤ x ∧ x < 256) ∧ p_ = curE g a len cap)) 0 rfl rfl (by kernel_rfl) rfl rfl (fun l' w hm => byte_mut hm hb) ?_
  intro v15 p16 hR17
  obtain ⟨⟨xhR17, rfl, xhR170, xhR171⟩, rfl⟩ := hR17
  refine hl_eqL (l' := (curE g a len cap :: l)) rfl ?_
  refine hl_v rfl rfl rfl (rv_ev rfl) ?_
  refine hl_less (sx 0 rfl (sx 1 rfl (sx 4 rfl (sx 5 rfl (sx 6 rfl (sx 7 rfl (sx 8 rfl (sx 10 rfl (sx 12 rfl (sub_nil _)))))))))) (.refl _) ?_
  refine hl_nil ?_
  refine hq_then ?_
  refine hc_seq ?_
  refine hc_region ?_
  refine hl_v rfl rfl rfl (rv_ev rfl) ?_
  refine hl_v rfl rfl rfl (rv_mul rfl rfl rfl (by constructor <;> omega)) ?_
  refine hl_v rfl rfl rfl (rv_ev rfl) ?_
  refine hl_v rfl rfl rfl (rv_mul rfl rfl rfl (by constructor <;> omega)) ?_
  refine hl_v rfl rfl rfl (rv_add rfl rfl rfl (by constructor <;> omega)) ?_
  refine hl_v rfl rfl rfl (rv_ev rfl) ?_
  refine hl_v rfl rfl rfl (rv_mul rfl rfl rfl (by constructor <;> omega)) ?_
  refine hl_v rfl rfl rfl (rv_add rfl rfl rfl (by constructor <;> omega)) ?_
  refine hl_v rfl rfl rfl (rv_ev rfl) ?_
  refine hl_v rfl rfl rfl (rv_add rfl rfl rfl (by constructor <;> omega)) ?_
  refine hl_v rfl rfl rfl (rv_ev rfl) ?_
  refine hl_v rfl rfl rfl (rv_rem rfl rfl rfl (by constructor <;> omega)) ?_
  refine hl_v rfl rfl rfl (rv_ev rfl) ?_
  refine hl_less (sx 0 rfl (sx 1 rfl (sx 4 rfl (sx 5 rfl (sx 6 rfl (sx 7 rfl (sx 8 rfl (sx 10 rfl (sx 12 rfl (sub_nil _)))))))))) (.refl _) ?_
  refine hl_nil ?_
  refine hq_then ?_
  refine hc_ret ?_
  exact hq_retMut (p' := curE g a len cap) rfl rfl (.refl _) ⟨⟨_, rfl, Int.emod_nonneg _ (by omega), Int.emod_lt_of_pos _ (by omega)⟩, rfl⟩
structure Rt where
  nv : Value
  fv : Value
  ns : List Int
  fs : List Int
def Rt.cells (r : Rt) : List Value := [r.nv, r.fv]
abbrev Rt.agg (r : Rt) : Value := .agg #[r.nv, r.fv]
abbrev rtE (r : Rt) : HP := bigE [rowE 3 1 r.nv r.ns.length (r.ns.map (Value.int .i64)), rowE 3 1 r.fv r.fs.length (r.fs.map (Value.int .i64))]
structure RdsRt (w : World) (v : Value) (rs : List Rt) : Prop where
  row : RdsW w v 2 rs.length (rs.flatMap Rt.cells)
  ns : ∀ r ∈ rs, RdsW w r.nv 1 r.ns.length (r.ns.map (Value.int .i64))
  fs : ∀ r ∈ rs, RdsW w r.fv 1 r.fs.length (r.fs.map (Value.int .i64))
theorem RdsRt.below {w w' : World} {v : Value} {rs : List Rt} (h : RdsRt w v rs) (hb : Below w.heap.size w w') : RdsRt w' v rs := ⟨h.row.below hb, fun r hr => (h.ns r hr).below hb, fun r hr => (h.fs r hr).below hb⟩
theorem rt_rds {w0 : World} {l : List HP} {r : Rt} (i : Nat) (hi : l[i]? = some (rtE r)) (w : World) (hm : Mem w0 l w) : RdsW w r.nv 1 r.ns.length (r.ns.map (Value.int .i64)) ∧ RdsW w r.fv 1 r.fs.length (r.fs.map (Value.int .i64)) := by
  obtain ⟨b1, -⟩ := hm.holds _ (mem_at hi)
  exact ⟨rdsW_own (b1 _ (List.mem_cons_self)).2, rdsW_own (b1 _ (List.mem_cons_of_mem _ List.mem_cons_self)).2⟩
structure NsOk (N : Nat) (ns : List Int) : Prop where
  nd : ns.Nodup
  rng : ∀ x ∈ ns, 0 ≤ x ∧ x < N
  len : ns.length ≤ 1000000
theorem take_snocI (ns : List Int) {j : Nat} (h : j < ns.length) : ns.take (j + 1) = ns.take j ++ [ns.getD j 0] := by
  rw [List.take_succ_eq_append_getElem h, List.getD_eq_getElem?_getD, List.getElem?_eq_getElem h]; rfl
theorem seen_no {N : Nat} {ns : List Int} (h : NsOk N ns) {j : Nat} (hj : j < ns.length) : (ns.take j).reverse.contains (ns.getD j 0) = false := by
  rw [Bool.eq_false_iff]
  intro hc
  rw [List.contains_iff_mem, List.mem_reverse] at hc
  have h1 := h.nd
  rw [← List.take_append_drop (j + 1) ns, take_snocI ns hj, List.append_assoc, List.nodup_append] at h1
  exact h1.2.2 _ hc _ (by simp) rfl
theorem seen_rev (ns : List Int) {j : Nat} (h : j < ns.length) : ns.getD j 0 :: (ns.take j).reverse = (ns.take (j + 1)).reverse := by rw [take_snocI ns h, List.reverse_append]; rfl
theorem countP_mem : ∀ (ns : List Int) (N : Nat), ns.Nodup → (∀ x ∈ ns, 0 ≤ x ∧ x < N) → (List.range N).countP (fun k => ns.contains ((k : Nat) : Int)) = ns.length
  | [], N, _, _ => by simp
  | a :: ns, N, hn, hr => by
    rw [List.nodup_cons] at hn
    have ih := countP_mem ns N hn.2 (fun x hx => hr x (List.mem_cons_of_mem _ hx))
    have ha := hr a List.mem_cons_self
    have key : ∀ M : Nat, (List.range M).countP (fun k => (a :: ns).contains ((k : Nat) : Int)) = (List.range M).countP (fun k => ns.contains ((k : Nat) : Int)) + if a < (M : Int) then 1 else 0 := by
      intro M
      induction M with
      | zero => simp; omega
      | succ M ihM =>
        rw [List.range_succ, List.countP_append, List.countP_append, ihM]
        simp only [List.countP_cons, List.countP_nil, List.contains_iff_mem, List.mem_cons]
        by_cases hM : (M : Int) = a
        · have h1 : ¬ a < (M : Int) := by omega
          have h2 : a < ((M + 1 : Nat) : Int) := by omega
          have h3 : ¬ (M : Int) ∈ ns := by rw [hM]; exact hn.1
          simp only [h1, h2, h3, hM, hn.1, if_true, if_false, true_or]; simp
        · by_cases hc : a < (M : Int)
          · have h2 : a < ((M + 1 : Nat) : Int) := by omega
            simp only [hc, h2, hM, if_true, false_or]; simp; omega
          · have h2 : ¬ a < ((M + 1 : Nat) : Int) := by omega
            simp only [hc, h2, hM, if_false, false_or]; simp
    rw [key N, ih, if_pos ha.2, List.length_cons]
/-- a tree that grew along sources -/
structure Tree (d : Dev) (s : Int) (ns fs ks : List Int) : Prop where
  len : ns.length = fs.length
  l0 : 1 ≤ ns.length
  l1 : ns.length ≤ 7
  root : ns.getD 0 0 = s
  from0 : fs.getD 0 0 = 0
  rng : ∀ x ∈ ns, 0 ≤ x ∧ x < allI d
  nd : ns.Nodup
  step : ∀ k, 0 < k → k < ns.length → 0 ≤ fs.getD k 0 ∧ fs.getD k 0 < k ∧ hasB (srcI d (ns.getD k 0)) (ns.getD (fs.getD k 0).toNat 0) = true
  sinks : ks = (ns.drop 1).filter fun x => decide (x % perI d < 5)
theorem tree_one {d : Dev} {s : Int} (h : 0 ≤ s ∧ s < allI d) : Tree d s [s] [0] [] := ⟨rfl, by simp, by simp, rfl, rfl, by simpa using h, by simp, fun k h0 h1 => by simp at h1; omega, rfl⟩
theorem tree_app {d : Dev} {s x f : Int} {ns fs ks : List Int} (h : Tree d s ns fs ks) (hl : ns.length ≤ 6) (hx : 0 ≤ x ∧ x < allI d) (hn : hasB ns x = false) (hf : 0 ≤ f ∧ f < ns.length) (hs : hasB (srcI d x) (ns.getD f.toNat 0) = true) :
    Tree d s (ns ++ [x]) (fs ++ [f]) (if x % perI d < 5 then ks ++ [x] else ks) := by
  have hlen := h.len
  have hl0 := h.l0
  have gl : ∀ (xs : List Int) (y : Int) (k : Nat), k < xs.length → (xs ++ [y]).getD k 0 = xs.getD k 0 := fun xs y k hk => by rw [List.getD_eq_getElem?_getD, List.getElem?_append_left hk, ← List.getD_eq_getElem?_getD]
  have ge : ∀ (xs : List Int) (y : Int) (k : Nat), k = xs.length → (xs ++ [y]).getD k 0 = y := fun xs y k hk => by rw [hk, List.getD_eq_getElem?_getD, List.getElem?_append_right (Nat.le_refl _), Nat.sub_self]; rfl
  refine ⟨by simp [hlen], by simp, by simp; omega, by rw [gl _ _ _ (by omega)]; exact h.root, by rw [gl _ _ _ (by omega)]; exact h.from0, fun y hy => ?_, ?_, fun k k0 k1_o => ?_, ?_⟩
  · rcases List.mem_append.1 hy with hy | hy
    · exact h.rng y hy
    · rw [List.mem_singleton] at hy; subst hy; exact hx
  · rw [List.nodup_append]
    refine ⟨h.nd, by simp, fun a ha b hb => ?_⟩
    rw [List.mem_singleton] at hb; subst hb
    intro e; subst e
    unfold hasB at hn
    rw [Bool.eq_false_iff] at hn
    exact hn (List.contains_iff_mem.2 ha)
  · rw [List.length_append, List.length_singleton] at k1_o
    by_cases hk : k = ns.length
    · rw [ge fs f k (by omega), ge ns x k hk, gl ns x _ (by omega)]
      exact ⟨hf.1, by omega, hs⟩
    · have := h.step k k0 (by omega)
      rw [gl fs f k (by omega), gl ns x k (by omega), gl ns x _ (by omega)]
      exact this
  · rw [List.drop_append_of_le_length (by omega), List.filter_append, ← h.sinks]
    by_cases hc : x % perI d < 5
    · rw [if_pos hc]; simp [List.filter_cons, hc]
    · rw [if_neg hc]; simp [List.filter_cons, hc]
theorem Tree.nsok {d : Dev} {s : Int} {ns fs ks : List Int} (h : Tree d s ns fs ks) (hd : 0 ≤ allI d) : NsOk (allI d).toNat ns := ⟨h.nd, fun x hx => by have := h.rng x hx; omega, by have := h.l1; omega⟩
theorem inr_in {x lo hi : Int} (h : lo ≤ x ∧ x ≤ hi) : inR x lo hi = true := (inR_iff _ _ _).2 h
set_option maxHeartbeats 4000000 in
set_option maxRecDepth 100000 in
theorem implrouteNodes_yes (d : Dev) (w : World) (hd : devB d = true) :
  Calls Try.prog 64 #[.agg #[.int .i64 d.W, .int .i64 d.H, .int .i64 d.T, .int .i64 d.R]] w (Ans w (.int .i64 (allI d))) := by
 obtain ⟨q1, q2⟩ := per_rng hd
 obtain ⟨ra1, ra2⟩ := all_rng hd
 obtain ⟨ar1, ar2⟩ := area_le hd
 obtain ⟨⟨dw1, dw2⟩, ⟨dh1, dh2⟩, ⟨l1, l2⟩, -⟩ := (devB_iff d).1 hd
 have hall : allI d = d.W * d.H * perI d := rfl
 rw [hall] at ra1 ra2
 refine calls_hc (N := 11) (args := [.agg #[.int .i64 d.W, .int .i64 d.H, .int .i64 d.T, .int .i64 d.R]]) Try.func64 rfl rfl ?_
 refine hc_less _ (sx 0 rfl (sub_nil _)) (.refl _) ?_
 refine hc_seq ?_
 refine hc_region ?_
 refine hl_box rfl rfl rfl (rq_box rfl rfl) ?_
 intro b1
 refine hl_v rfl rfl rfl (rv_ev rfl) ?_
 refine hl_less (sx 0 rfl (sx 1 rfl (sx 2 rfl (sub_nil _)))) (.refl _) ?_
 refine hl_nil ?_
 refine hq_then ?_
 refine hc_seq ?_
 refine hc_draw (by kernel_rfl) 8 [0, 1, 2, 3, 4, 5, 6, 7] (List.take 8 _) (List.drop 8 _) [[], [0], [], [2], [1, 3], [], [5], [4, 6]] [3, 4, 5, 6, 7, 8, 9, 10] (fun i_ vs_ v_ p_ => match i_ with | 0 => v_ = .pointer (some ⟨b1, 0 + 0, none⟩) ∧ p_ = [] | 1 => v_ = .int .i64 d.W ∧ p_ = [] | 2 => v_ = .pointer (some ⟨b1, 0 + 1, none⟩) ∧ p_ = [] | 3 => v_ = .int .i64 d.H ∧ p_ = [] | 4 => v_ = .int .i64 (d.W * d.H) ∧ p_ = [] | 5 => v_ = .agg #[.int .i64 d.W, .int .i64 d.H, .int .i64 d.T, .int .i64 d.R] ∧ p_ = [] | 6 => v_ = .int .i64 (perI d) ∧ p_ = [] | 7 => v_ = .int .i64 ((d.W * d.H) * (perI d)) ∧ p_ = [] | _ => True) (List.take_append_drop 8 _).symm (by kernel_rfl) (by kernel_rfl) rfl rfl ?_ ?_
 ·
  refine ⟨?_, ?_, ?_, ?_, ?_, ?_, ?_, ?_, trivial⟩
  ·
   intro vf pf hR
   refine Or.inl ⟨rfl, ?_⟩
   refine rq_less (sx 1 rfl (sub_nil _)) (List.sublist_append_right _ _) ?_
   exact rq_v (rv_field (k0 := 0) rfl (by kernel_rfl) rfl)
  ·
   intro vf pf hR
   have e0 : (vf 0) = .pointer (some ⟨b1, 0 + 0, none⟩) ∧ (pf 0) = [] := hR 0 (by decide)
   refine Or.inl ⟨rfl, ?_⟩
   refine rq_less (sx 3 (congrArg some e0.1) (sub_nil _)) (List.sublist_append_right _ _) ?_
   exact rq_v (rv_load rfl (by kernel_rfl) rfl (box_cell 0 rfl rfl))
  ·
   intro vf pf hR
   refine Or.inl ⟨rfl, ?_⟩
   refine rq_less (sx 1 rfl (sub_nil _)) (List.sublist_append_right _ _) ?_
   exact rq_v (rv_field (k0 := 1) rfl (by kernel_rfl) rfl)
  ·
   intro vf pf hR
   have e2 : (vf 2) = .pointer (some ⟨b1, 0 + 1, none⟩) ∧ (pf 2) = [] := hR 2 (by decide)
   refine Or.inl ⟨rfl, ?_⟩
   refine rq_less (sx 5 (congrArg some e2.1) (sub_nil _)) (List.sublist_append_right _ _) ?_
   exact rq_v (rv_load rfl (by kernel_rfl) rfl (box_cell 0 rfl rfl))
  ·
   intro vf pf hR
   have e1 : (vf 1) = .int .i64 d.W ∧ (pf 1) = [] := hR 1 (by decide)
   have e3 : (vf 3) = .int .i64 d.H ∧ (pf 3) = [] := hR 3 (by decide)
   refine Or.inl ⟨rfl, ?_⟩
   refine rq_less (sx 4 (congrArg some e1.1) (sx 6 (congrArg some e3.1) (sub_nil _))) (List.sublist_append_right _ _) ?_
   exact rq_v (rv_mul rfl rfl rfl (by constructor <;> omega))
  ·
   intro vf pf hR
   refine Or.inl ⟨rfl, ?_⟩
   refine rq_less (sx 1 rfl (sub_nil _)) (List.sublist_append_right _ _) ?_
   exact rq_v (rv_loadN (cs := [.int .i64 d.W, .int .i64 d.H, .int .i64 d.T, .int .i64 d.R]) rfl (by kernel_rfl) (by kernel_rfl) rfl rfl (box_part 0 rfl 0 rfl))
  ·
   intro vf pf hR
   have e5 : (vf 5) = .agg #[.int .i64 d.W, .int .i64 d.H, .int .i64 d.T, .int .i64 d.R] ∧ (pf 5) = [] := hR 5 (by decide)
   refine Or.inl ⟨rfl, ?_⟩
   refine rq_less (sx 8 (congrArg some e5.1) (sub_nil _)) (List.sublist_append_right _ _) ?_
   exact (rq_call (by kernel_rfl) rfl (fun w hm => ret_ans (implPer_any d hd w)))
  ·
   intro vf pf hR
   have e4 : (vf 4) = .int .i64 (d.W * d.H) ∧ (pf 4) = [] := hR 4 (by decide)
   have e6 : (vf 6) = .int .i64 (perI d) ∧ (pf 6) = [] := hR 6 (by decide)
   refine Or.inl ⟨rfl, ?_⟩
   refine rq_less (sx 7 (congrArg some e4.1) (sx 9 (congrArg some e6.1) (sub_nil _))) (List.sublist_append_right _ _) ?_
   exact rq_v (rv_mul rfl rfl rfl (by constructor <;> omega))
 ·
  intro vf pf hR
  have e7 : (vf 7) = .int .i64 ((d.W * d.H) * (perI d)) ∧ (pf 7) = [] := hR 7 (by decide)
  refine hl_less (l' := [boxE b1 #[.int .i64 d.W, .int .i64 d.H, .int .i64 d.T, .int .i64 d.R] 25]) (sx 0 rfl (sx 1 rfl (sx 2 rfl (sx 10 (congrArg some e7.1) (sub_nil _))))) (List.sublist_append_right _ _) ?_
  simp only [List.drop_succ_cons, List.drop_zero]
  refine hl_v rfl rfl rfl (rv_ev rfl) ?_
  refine hl_less (sx 0 rfl (sx 1 rfl (sx 2 rfl (sub_nil _)))) (.refl _) ?_
  refine hl_nil ?_
  refine hq_then ?_
  refine hc_ret ?_
  exact hq_ans rfl rfl rfl
theorem hq_one {N : Nat} {w0 : World} {l : List HP} {env : List (Nat × Value)} {Q : Post} {ex : Exit} {i e s n : Nat} {v : Value} {xs : List Value} (hi : l[i]? = some (rowE e s v n xs)) (k : v.oneCell' = true → HQ N w0 l env ex Q) : HQ N w0 l env ex Q := fun a w st => k (rdsW_own (st.mem.holds _ (mem_at hi))).one a w st
set_option maxHeartbeats 4000000 in
set_option maxRecDepth 100000 in
theorem l13Has_ans (xs : List Int) (x : Int) (v : Value) (w : World) (hv : RdsW w v 1 xs.length (xs.map (Value.int .i64))) (hlen : xs.length ≤ 1000000000) :
  Calls Try.prog 68 #[v, .int .i64 x] w (Ans w (.bool (hasB xs x))) := by
 refine calls_hc (N := 18) (args := [v, .int .i64 x]) Try.func68 rfl rfl ?_
 refine hc_less _ (sx 0 rfl (sx 1 rfl (sub_nil _))) (.refl _) ?_
 refine hc_seq ?_
 refine hc_region ?_
 refine hl_v rfl rfl rfl (rv_ev rfl) ?_
 refine hl_less (sx 0 rfl (sx 1 rfl (sx 4 rfl (sub_nil _)))) (.refl _) ?_
 refine hl_nil ?_
 refine hq_then ?_
 refine hc_seq ?_
 refine hc_seq ?_
 refine hc_region ?_
 refine hl_v rfl rfl rfl (rv_ev rfl) ?_
 refine hl_less (sx 0 rfl (sx 1 rfl (sx 4 rfl (sx 5 rfl (sub_nil _))))) (.refl _) ?_
 refine hl_nil ?_
 refine hq_then ?_
 refine hc_block ?_
 refine hc_loop1 (α := Nat) (fun j => []) (fun j => [(0, v), (1, .int .i64 x), (4, .bool false), (5, .int .i64 (j : Int))]) (fun j => j ≤ xs.length ∧ ∀ i, i < j → xs.getD i 0 ≠ x) (fun j => xs.length - j) 0 ⟨by omega, fun i hi => absurd hi (by omega)⟩ (sx 0 rfl (sx 1 rfl (sx 4 rfl (sx 5 rfl (sub_nil _))))) (.slnil) ?_
 intro j hi1
 obtain ⟨hk1, hk2⟩ := hi1
 refine hc_seq ?_
 refine hc_seq ?_
 refine hc_region ?_
 refine hl_v rfl rfl rfl (rv_ev rfl) ?_
 refine hl_v rfl rfl rfl (rv_ev rfl) ?_
 refine hl_v rfl rfl rfl (rv_len rfl Try.underlying26 rfl (rd_old hv)) ?_
 refine hl_lss rfl rfl rfl rfl rfl rfl (fun h2 => ?_) (fun h2 => ?_)
 ·
  refine hl_less (sx 0 rfl (sx 1 rfl (sx 4 rfl (sx 5 rfl (sx 9 rfl (sub_nil _)))))) (.refl _) ?_
  refine hl_nil ?_
  refine hq_then ?_
  refine hc_true rfl ?_
  refine hc_skip ?_
  refine hq_then ?_
  refine hc_seq ?_
  refine hc_block ?_
  refine hc_seq ?_
  refine hc_region ?_
  refine hl_v rfl rfl rfl (rv_ev rfl) ?_
  refine hl_v rfl rfl rfl (rv_ev rfl) ?_
  refine hl_v rfl rfl rfl (rv_index (s := 1) rfl Try.underlying26 (by kernel_rfl) rfl rfl (rd_old hv) (by omega) (by first | omega | (simp only [List.length_set]; omega))) ?_
  refine hl_v rfl rfl rfl (rv_loadEl (u := .int .i64 (xs.getD j 0)) rfl (by kernel_rfl) rfl (rd_old hv) (ints_at1 (show _ < xs.length by first | omega | (simp only [List.length_set]; omega)))) ?_
  refine hl_v rfl rfl rfl (rv_ev rfl) ?_
  refine hl_eql rfl rfl rfl rfl rfl rfl (fun h3 => ?_) (fun h3 => ?_)
  ·
   refine hl_less (sx 0 rfl (sx 1 rfl (sx 4 rfl (sx 5 rfl (sx 9 rfl (sx 17 rfl (sub_nil _))))))) (.refl _) ?_
   refine hl_nil ?_
   refine hq_then ?_
   refine hc_true rfl ?_
   refine hc_seq ?_
   refine hc_region ?_
   refine hl_v rfl rfl rfl (rv_ev rfl) ?_
   refine hl_less (sx 0 rfl (sx 1 rfl (sx 4 rfl (sx 5 rfl (sx 9 rfl (sx 17 rfl (sub_nil _))))))) (.refl _) ?_
   refine hl_nil ?_
   refine hq_then ?_
   refine hc_ret ?_
   refine hq_block_ret ?_
   refine hq_then_ret ?_
   refine hq_then_ret ?_
   refine hq_block_ret ?_
   refine hq_then_ret ?_
   exact hq_ans rfl rfl (congrArg _ (hasB_at xs x j (by omega) (by assumption)).symm)
  ·
   refine hl_less (sx 0 rfl (sx 1 rfl (sx 4 rfl (sx 5 rfl (sx 9 rfl (sx 17 rfl (sub_nil _))))))) (.refl _) ?_
   refine hl_nil ?_
   refine hq_then ?_
   refine hc_false rfl ?_
   refine hc_skip ?_
   refine hq_block_normal ?_
   refine hq_then ?_
   refine hc_region ?_
   refine hl_v rfl rfl rfl (rv_ev rfl) ?_
   refine hl_v rfl rfl rfl (rv_add rfl rfl rfl (by constructor <;> omega)) ?_
   refine hl_v rfl rfl rfl (rv_ev rfl) ?_
   refine hl_less (sx 0 rfl (sx 1 rfl (sx 4 rfl (sx 5 rfl (sx 9 rfl (sx 17 rfl (sub_nil _))))))) (.refl _) ?_
   refine hl_nil ?_
   exact hq_round1 (j + 1) ⟨by omega, fun i hi => by by_cases hij : i = j; (subst hij; assumption); exact hk2 i (by omega)⟩ (by omega) (sx 0 rfl (sx 1 rfl (sx 4 rfl (sx 5 rfl (sub_nil _))))) (.slnil)
 ·
  refine hl_less (sx 0 rfl (sx 1 rfl (sx 4 rfl (sx 5 rfl (sx 9 rfl (sub_nil _)))))) (.refl _) ?_
  refine hl_nil ?_
  refine hq_then ?_
  refine hc_false rfl ?_
  refine hc_exit ?_
  refine hq_then_exit ?_
  refine hq_then_exit ?_
  refine hq_block_exit ?_
  refine hq_then ?_
  refine hc_seq ?_
  refine hc_region ?_
  refine hl_v rfl rfl rfl (rv_ev rfl) ?_
  refine hl_less (sx 0 rfl (sx 1 rfl (sx 4 rfl (sx 5 rfl (sx 9 rfl (sub_nil _)))))) (.refl _) ?_
  refine hl_nil ?_
  refine hq_then ?_
  refine hc_ret ?_
  exact hq_ans rfl rfl (congrArg _ (hasB_no xs x (fun i hi => hk2 i (by omega))).symm)
set_option maxHeartbeats 4000000 in
set_option maxRecDepth 100000 in
theorem l32Walk_mut (g : Nat) (a : Option Addr) (len cap : Nat) (z : List Int) (d : Dev) (s0 : Int) (w0 : World) (l : List HP) (w : World) (hm0 : Mem w0 (curE g a len cap :: l) w) (hb : BRow .u8 w0 a len cap z) (hd : devB d = true) (hs : 0 ≤ s0 ∧ s0 < allI d) :
  Calls Try.prog 34 #[.pointer (some ⟨g, 0, none⟩), .agg #[.int .i64 d.W, .int .i64 d.H, .int .i64 d.T, .int .i64 d.R], .int .i64 s0] w (fun e_ w_ => ∃ v_ p_, e_ = .returned v_ ∧ (fun u_ p_ => ∃ (r : Rt) (sv : Value) (ks : List Int), u_ = .tuple #[r.agg, sv] ∧ p_ = bigE [curE g a len cap, rtE r, rowE 3 1 sv ks.length (ks.map (Value.int .i64))] ∧ (r.nv.oneCell' = true ∧ r.fv.oneCell' = true ∧ sv.oneCell' = true) ∧ Tree d s0 r.ns r.fs ks) v_ p_ ∧ Mem w0 (p_ :: l) w_) := by
 obtain ⟨ra1, ra2⟩ := all_rng hd
 obtain ⟨q1, q2⟩ := per_rng hd
 refine calls_hcM (N := 98) (args := [.pointer (some ⟨g, 0, none⟩), .agg #[.int .i64 d.W, .int .i64 d.H, .int .i64 d.T, .int .i64 d.R], .int .i64 s0]) Try.func34 rfl rfl hm0 ?_
 refine hc_less _ (sx 0 rfl (sx 1 rfl (sx 2 rfl (sub_nil _)))) (.refl _) ?_
 refine hc_seq ?_
 refine hc_region ?_
 refine hl_box rfl rfl rfl (rq_box rfl rfl) ?_
 intro b1
 refine hl_box rfl rfl rfl (rq_alloc (z := .agg #[.slice none 0 0, .slice none 0 0]) rfl (by kernel_rfl)) ?_
 intro b2
 refine hl_v rfl rfl rfl (rv_ev rfl) ?_
 refine hl_less (sx 0 rfl (sx 1 rfl (sx 2 rfl (sx 4 rfl (sx 6 rfl (sx 7 rfl (sub_nil _))))))) (.refl _) ?_
 refine hl_nil ?_
 refine hq_then ?_
 refine hc_seq ?_
 refine hc_region ?_
 refine hl_v rfl rfl rfl (rv_ev rfl) ?_
 refine hl_row rfl rfl rfl (rq_buildSlice (z := .int .i64 0) (s := 1) (cs := ([s0].map (Value.int .i64))) rfl Try.underlying26 (by kernel_rfl) (by decide) rfl (by kernel_rfl) rfl) ?_
 intro g3
 refine hl_row rfl rfl rfl (rq_buildSlice (z := .int .i64 0) (s := 1) (cs := ([0].map (Value.int .i64))) rfl Try.underlying26 (by kernel_rfl) (by decide) rfl (by kernel_rfl) rfl) ?_
 intro g4
 refine hl_v rfl rfl rfl (rv_build (cs := #[.slice (some ⟨g3, 0, none⟩) 1 1, .slice (some ⟨g4, 0, none⟩) 1 1]) rfl rfl (by kernel_rfl)) ?_
 refine hl_box rfl rfl rfl (rq_alloc (z := .agg #[.slice none 0 0, .slice none 0 0]) rfl (by kernel_rfl)) ?_
 intro b5
 refine hl_storeBoxN (i := 0) (off := 0) (us := [.slice (some ⟨g3, 0, none⟩) 1 1, .slice (some ⟨g4, 0, none⟩) 1 1]) (l' := (boxE b5 #[.slice (some ⟨g3, 0, none⟩) 1 1, .slice (some ⟨g4, 0, none⟩) 1 1] 28 :: rowE 3 1 (.slice (some ⟨g4, 0, none⟩) 1 1) 1 ([0].map (Value.int .i64)) :: rowE 3 1 (.slice (some ⟨g3, 0, none⟩) 1 1) 1 ([s0].map (Value.int .i64)) :: boxE b2 #[.slice none 0 0, .slice none 0 0] 28 :: boxE b1 #[.int .i64 d.W, .int .i64 d.H, .int .i64 d.T, .int .i64 d.R] 25 :: curE g a len cap :: l)) rfl rfl rfl (by kernel_rfl) rfl rfl rfl (all_cons rfl (all_cons rfl all_nil)) rfl rfl rfl ?_
 refine hl_less (sx 0 rfl (sx 1 rfl (sx 2 rfl (sx 4 rfl (sx 6 rfl (sx 7 rfl (sx 8 rfl (sub_nil _)))))))) (.refl _) ?_
 refine hl_nil ?_
 refine hq_then ?_
 refine hc_seq ?_
 refine hc_region ?_
 refine hl_row rfl rfl rfl (rq_slice0 (s := 1) rfl Try.underlying26 (by kernel_rfl)) ?_
 intro g6
 refine hl_v rfl rfl rfl (rv_ev rfl) ?_
 refine hl_less (sx 0 rfl (sx 1 rfl (sx 2 rfl (sx 4 rfl (sx 6 rfl (sx 7 rfl (sx 8 rfl (sx 9 rfl (sub_nil _))))))))) (.refl _) ?_
 refine hl_nil ?_
 refine hq_then ?_
 refine hc_seq ?_
 refine hc_region ?_
 refine hl_v rfl rfl rfl (rv_loadN (cs := [.int .i64 d.W, .int .i64 d.H, .int .i64 d.T, .int .i64 d.R]) rfl (by kernel_rfl) (by kernel_rfl) rfl rfl (box_part 5 rfl 0 rfl)) ?_
 refine hl_callV rfl rfl rfl (rq_call (by kernel_rfl) rfl (fun w hm => ret_ans (specRouteNodes_yes d hd w))) ?_
 refine hl_v rfl rfl rfl (rv_ev rfl) ?_
 refine hl_less (sx 0 rfl (sx 1 rfl (sx 2 rfl (sx 4 rfl (sx 6 rfl (sx 7 rfl (sx 8 rfl (sx 9 rfl (sx 10 rfl (sub_nil _)))))))))) (.refl _) ?_
 refine hl_nil ?_
 refine hq_then ?_
 refine hc_seq ?_
 refine hc_seq ?_
 refine hc_region ?_
 refine hl_v rfl rfl rfl (rv_ev rfl) ?_
 refine hl_callM (R := (fun u_ p_ => (∃ x_ : Int, u_ = .int .i64 x_ ∧ 0 ≤ x_ ∧ x_ < 7) ∧ p_ = curE g a len cap)) 6 rfl rfl (by kernel_rfl) rfl rfl (fun l' w hm => belowN_mut g a len cap z 7 _ _ _ hm hb (by constructor <;> omega)) ?_
 intro v7 p8 hR9
 obtain ⟨⟨xhR9, rfl, xhR90, xhR91⟩, rfl⟩ := hR9
 refine hl_eqL (l' := (rowE 3 1 (.slice (some ⟨g6, 0, none⟩) 0 0) 0 ([]) :: boxE b5 #[.slice (some ⟨g3, 0, none⟩) 1 1, .slice (some ⟨g4, 0, none⟩) 1 1] 28 :: rowE 3 1 (.slice (some ⟨g4, 0, none⟩) 1 1) 1 ([0].map (Value.int .i64)) :: rowE 3 1 (.slice (some ⟨g3, 0, none⟩) 1 1) 1 ([s0].map (Value.int .i64)) :: boxE b2 #[.slice none 0 0, .slice none 0 0] 28 :: boxE b1 #[.int .i64 d.W, .int .i64 d.H, .int .i64 d.T, .int .i64 d.R] 25 :: curE g a len cap :: l)) rfl ?_
 refine hl_v rfl rfl rfl (rv_ev rfl) ?_
 refine hl_less (sx 0 rfl (sx 1 rfl (sx 2 rfl (sx 4 rfl (sx 6 rfl (sx 7 rfl (sx 8 rfl (sx 9 rfl (sx 10 rfl (sx 11 rfl (sub_nil _))))))))))) (.refl _) ?_
 refine hl_nil ?_
 refine hq_then ?_
 refine hc_block ?_
 refine hc_loop4 (α := Int) (β := Rt) (γ := Value) (δ := List Int) (fun q r sv ks => (rowE 3 1 sv ks.length (ks.map (Value.int .i64)) :: boxE b5 #[r.nv, r.fv] 28 :: rowE 3 1 r.fv r.fs.length (r.fs.map (Value.int .i64)) :: rowE 3 1 r.nv r.ns.length (r.ns.map (Value.int .i64)) :: boxE b2 #[.slice none 0 0, .slice none 0 0] 28 :: boxE b1 #[.int .i64 d.W, .int .i64 d.H, .int .i64 d.T, .int .i64 d.R] 25 :: curE g a len cap :: l)) (fun q r sv ks => [(0, .pointer (some ⟨g, 0, none⟩)), (1, .agg #[.int .i64 d.W, .int .i64 d.H, .int .i64 d.T, .int .i64 d.R]), (2, .int .i64 s0), (4, .pointer (some ⟨b1, 0, none⟩)), (6, .pointer (some ⟨b2, 0, none⟩)), (7, .slice none 0 0), (8, .pointer (some ⟨b5, 0, none⟩)), (9, sv), (10, .int .i64 (allI d)), (11, .int .i64 q)]) (fun q r sv ks => (0 ≤ q ∧ q ≤ 6) ∧ (r.ns.length : Int) + q ≤ 7 ∧ Tree d s0 r.ns r.fs ks) (fun q r sv ks => q.toNat) _ ⟨.slice (some ⟨g3, 0, none⟩) 1 1, .slice (some ⟨g4, 0, none⟩) 1 1, [s0], [0]⟩ _ [] ⟨by omega, by dsimp only; simp only [List.length_singleton]; omega, tree_one hs⟩ (sx 0 rfl (sx 1 rfl (sx 2 rfl (sx 4 rfl (sx 6 rfl (sx 7 rfl (sx 8 rfl (sx 9 rfl (sx 10 rfl (sx 11 rfl (sub_nil _))))))))))) ((.cons_cons _ (.cons_cons _ (.cons_cons _ (.cons_cons _ (.cons_cons _ (.cons_cons _ (.cons_cons _ (.refl _))))))))) ?_
 intro q r sv ks hi10
 obtain ⟨hq, hlq, htr⟩ := hi10
 have ht1 := htr.len
 have ht2 := htr.l0
 have ht3 := htr.l1
 have ht4 : ks.length ≤ 7 := by rw [htr.sinks]; have := List.length_filter_le (fun x => decide (x % perI d < 5)) (r.ns.drop 1); rw [List.length_drop] at this; omega
 refine hc_seq ?_
 refine hc_seq ?_
 refine hc_region ?_
 refine hl_v rfl rfl rfl (rv_ev rfl) ?_
 refine hl_gtr rfl rfl rfl rfl rfl rfl (fun h11 => ?_) (fun h11 => ?_)
 ·
  refine hl_v rfl rfl rfl (rv_ev rfl) ?_
  refine hl_v rfl rfl rfl (rv_ev rfl) ?_
  refine hl_gtr rfl rfl rfl rfl rfl rfl (fun h12 => ?_) (fun h12 => ?_)
  ·
   refine hl_v rfl rfl rfl (rv_ev rfl) ?_
   refine hl_less (sx 0 rfl (sx 1 rfl (sx 2 rfl (sx 4 rfl (sx 6 rfl (sx 7 rfl (sx 8 rfl (sx 9 rfl (sx 10 rfl (sx 11 rfl (sx 32 rfl (sub_nil _)))))))))))) (.refl _) ?_
   refine hl_nil ?_
   refine hq_then ?_
   refine hc_true rfl ?_
   refine hc_skip ?_
   refine hq_then ?_
   refine hc_seq ?_
   refine hc_block ?_
   refine hc_seq ?_
   refine hc_region ?_
   refine hl_v rfl rfl rfl (rv_ev rfl) ?_
   refine hl_v rfl rfl rfl (rv_ev rfl) ?_
   refine hl_callM (R := (fun u_ p_ => (∃ x_ : Int, u_ = .int .i64 x_ ∧ 0 ≤ x_ ∧ x_ < allI d) ∧ p_ = curE g a len cap)) 6 rfl rfl (by kernel_rfl) rfl rfl (fun l' w hm => belowN_mut g a len cap z (allI d) _ _ _ hm hb (by constructor <;> omega)) ?_
   intro v13 p14 hR15
   obtain ⟨⟨xhR15, rfl, xhR150, xhR151⟩, rfl⟩ := hR15
   refine hl_eqL (l' := (rowE 3 1 sv ks.length (ks.map (Value.int .i64)) :: boxE b5 #[r.nv, r.fv] 28 :: rowE 3 1 r.fv r.fs.length (r.fs.map (Value.int .i64)) :: rowE 3 1 r.nv r.ns.length (r.ns.map (Value.int .i64)) :: boxE b2 #[.slice none 0 0, .slice none 0 0] 28 :: boxE b1 #[.int .i64 d.W, .int .i64 d.H, .int .i64 d.T, .int .i64 d.R] 25 :: curE g a len cap :: l)) rfl ?_
   refine hl_v rfl rfl rfl (rv_ev rfl) ?_
   refine hl_less (sx 0 rfl (sx 1 rfl (sx 2 rfl (sx 4 rfl (sx 6 rfl (sx 7 rfl (sx 8 rfl (sx 9 rfl (sx 10 rfl (sx 11 rfl (sx 12 rfl (sx 32 rfl (sub_nil _))))))))))))) (.refl _) ?_
   refine hl_nil ?_
   refine hq_then ?_
   refine hc_seq ?_
   refine hc_region ?_
   refine hl_v rfl rfl rfl (rv_ev rfl) ?_
   refine hl_less (sx 0 rfl (sx 1 rfl (sx 2 rfl (sx 4 rfl (sx 6 rfl (sx 7 rfl (sx 8 rfl (sx 9 rfl (sx 10 rfl (sx 11 rfl (sx 12 rfl (sx 13 rfl (sx 32 rfl (sub_nil _)))))))))))))) (.refl _) ?_
   refine hl_nil ?_
   refine hq_then ?_
   refine hc_block ?_
   refine hc_loop1 (α := Int) (fun j => (rowE 3 1 sv ks.length (ks.map (Value.int .i64)) :: boxE b5 #[r.nv, r.fv] 28 :: rowE 3 1 r.fv r.fs.length (r.fs.map (Value.int .i64)) :: rowE 3 1 r.nv r.ns.length (r.ns.map (Value.int .i64)) :: boxE b2 #[.slice none 0 0, .slice none 0 0] 28 :: boxE b1 #[.int .i64 d.W, .int .i64 d.H, .int .i64 d.T, .int .i64 d.R] 25 :: curE g a len cap :: l)) (fun j => [(0, .pointer (some ⟨g, 0, none⟩)), (1, .agg #[.int .i64 d.W, .int .i64 d.H, .int .i64 d.T, .int .i64 d.R]), (2, .int .i64 s0), (4, .pointer (some ⟨b1, 0, none⟩)), (6, .pointer (some ⟨b2, 0, none⟩)), (7, .slice none 0 0), (8, .pointer (some ⟨b5, 0, none⟩)), (9, sv), (10, .int .i64 (allI d)), (11, .int .i64 q), (12, .int .i64 xhR15), (13, .int .i64 j), (32, .bool true)]) (fun j => 0 ≤ j ∧ j ≤ allI d) (fun j => (allI d - j).toNat) 0 ⟨by omega, by omega⟩ (sx 0 rfl (sx 1 rfl (sx 2 rfl (sx 4 rfl (sx 6 rfl (sx 7 rfl (sx 8 rfl (sx 9 rfl (sx 10 rfl (sx 11 rfl (sx 12 rfl (sx 13 rfl (sx 32 rfl (sub_nil _)))))))))))))) ((.cons_cons _ (.cons_cons _ (.cons_cons _ (.cons_cons _ (.cons_cons _ (.cons_cons _ (.cons_cons _ (.refl _))))))))) ?_
   intro j hi16
   have hj := hi16
   refine hc_seq ?_
   refine hc_seq ?_
   refine hc_region ?_
   refine hl_v rfl rfl rfl (rv_ev rfl) ?_
   refine hl_v rfl rfl rfl (rv_ev rfl) ?_
   refine hl_lss rfl rfl rfl rfl rfl rfl (fun h17 => ?_) (fun h17 => ?_)
   ·
    refine hl_less (sx 0 rfl (sx 1 rfl (sx 2 rfl (sx 4 rfl (sx 6 rfl (sx 7 rfl (sx 8 rfl (sx 9 rfl (sx 10 rfl (sx 11 rfl (sx 12 rfl (sx 13 rfl (sx 32 rfl (sx 40 rfl (sub_nil _))))))))))))))) (.refl _) ?_
    refine hl_nil ?_
    refine hq_then ?_
    refine hc_true rfl ?_
    refine hc_skip ?_
    refine hq_then ?_
    refine hc_seq ?_
    refine hc_block ?_
    refine hc_seq ?_
    refine hc_region ?_
    refine hl_v rfl rfl rfl (rv_ev rfl) ?_
    refine hl_v rfl rfl rfl (rv_ev rfl) ?_
    refine hl_v rfl rfl rfl (rv_add rfl rfl rfl (by constructor <;> omega)) ?_
    refine hl_v rfl rfl rfl (rv_ev rfl) ?_
    refine hl_v rfl rfl rfl (rv_rem rfl rfl rfl (by constructor <;> omega)) ?_
    refine hl_v rfl rfl rfl (rv_ev rfl) ?_
    obtain ⟨x, hx⟩ : ∃ x, (xhR15 + j) % (allI d) = x := ⟨_, rfl⟩
    rw [hx]
    obtain ⟨x0, x1⟩ : 0 ≤ x ∧ x ≤ allI d - 1 := hx ▸ loc_mod (by omega)
    have hsl : (srcS d x).length ≤ 16 := by rw [src_eq]; exact src_len16 _ _
    refine hl_less (sx 0 rfl (sx 1 rfl (sx 2 rfl (sx 4 rfl (sx 6 rfl (sx 7 rfl (sx 8 rfl (sx 9 rfl (sx 10 rfl (sx 11 rfl (sx 12 rfl (sx 13 rfl (sx 14 rfl (sx 32 rfl (sx 40 rfl (sub_nil _)))))))))))))))) (.refl _) ?_
    refine hl_nil ?_
    refine hq_then ?_
    refine hc_seq ?_
    refine hc_region ?_
    refine hl_v rfl rfl rfl (rv_ev rfl) ?_
    refine hl_less (sx 0 rfl (sx 1 rfl (sx 2 rfl (sx 4 rfl (sx 6 rfl (sx 7 rfl (sx 8 rfl (sx 9 rfl (sx 10 rfl (sx 11 rfl (sx 12 rfl (sx 13 rfl (sx 14 rfl (sx 15 rfl (sx 32 rfl (sx 40 rfl (sub_nil _))))))))))))))))) (.refl _) ?_
    refine hl_nil ?_
    refine hq_then ?_
    refine hc_seq ?_
    refine hc_region ?_
    refine hl_v rfl rfl rfl (rv_loadN (cs := [.int .i64 d.W, .int .i64 d.H, .int .i64 d.T, .int .i64 d.R]) rfl (by kernel_rfl) (by kernel_rfl) rfl rfl (box_part 5 rfl 0 rfl)) ?_
    refine hl_v rfl rfl rfl (rv_ev rfl) ?_
    refine hl_q rfl rfl rfl (rq_call (by kernel_rfl) rfl (fun w hm => specSources_ret d _ w)) ?_
    intro v18 p19 hR20
    subst hR20
    refine hl_v rfl rfl rfl (rv_ev rfl) ?_
    refine hl_less (sx 0 rfl (sx 1 rfl (sx 2 rfl (sx 4 rfl (sx 6 rfl (sx 7 rfl (sx 8 rfl (sx 9 rfl (sx 10 rfl (sx 11 rfl (sx 12 rfl (sx 13 rfl (sx 14 rfl (sx 15 rfl (sx 16 rfl (sx 32 rfl (sx 40 rfl (sub_nil _)))))))))))))))))) (.refl _) ?_
    refine hl_nil ?_
    refine hq_then ?_
    refine hc_seq ?_
    refine hc_seq ?_
    refine hc_region ?_
    refine hl_v rfl rfl rfl (rv_ev rfl) ?_
    refine hl_less (sx 0 rfl (sx 1 rfl (sx 2 rfl (sx 4 rfl (sx 6 rfl (sx 7 rfl (sx 8 rfl (sx 9 rfl (sx 10 rfl (sx 11 rfl (sx 12 rfl (sx 13 rfl (sx 14 rfl (sx 15 rfl (sx 16 rfl (sx 17 rfl (sx 32 rfl (sx 40 rfl (sub_nil _))))))))))))))))))) (.refl _) ?_
    refine hl_nil ?_
    refine hq_then ?_
    refine hc_block ?_
    refine hc_loop2 (α := Nat) (β := Int) (fun i at_ => (rowE 3 1 v18 ((srcS d x).length) ((srcS d x).map (Value.int .i64)) :: rowE 3 1 sv ks.length (ks.map (Value.int .i64)) :: boxE b5 #[r.nv, r.fv] 28 :: rowE 3 1 r.fv r.fs.length (r.fs.map (Value.int .i64)) :: rowE 3 1 r.nv r.ns.length (r.ns.map (Value.int .i64)) :: boxE b2 #[.slice none 0 0, .slice none 0 0] 28 :: boxE b1 #[.int .i64 d.W, .int .i64 d.H, .int .i64 d.T, .int .i64 d.R] 25 :: curE g a len cap :: l)) (fun i at_ => [(0, .pointer (some ⟨g, 0, none⟩)), (1, .agg #[.int .i64 d.W, .int .i64 d.H, .int .i64 d.T, .int .i64 d.R]), (2, .int .i64 s0), (4, .pointer (some ⟨b1, 0, none⟩)), (6, .pointer (some ⟨b2, 0, none⟩)), (7, .slice none 0 0), (8, .pointer (some ⟨b5, 0, none⟩)), (9, sv), (10, .int .i64 (allI d)), (11, .int .i64 q), (12, .int .i64 xhR15), (13, .int .i64 j), (14, .int .i64 x), (15, .int .i64 at_), (16, v18), (17, .int .i64 (i : Int)), (32, .bool true), (40, .bool true)]) (fun i at_ => i ≤ r.ns.length ∧ (at_ = -1 ∨ ((0 ≤ at_ ∧ at_ < r.ns.length) ∧ hasB (srcI d x) (r.ns.getD at_.toNat 0) = true))) (fun i at_ => r.ns.length - i) 0 (-1) ⟨by omega, .inl rfl⟩ (sx 0 rfl (sx 1 rfl (sx 2 rfl (sx 4 rfl (sx 6 rfl (sx 7 rfl (sx 8 rfl (sx 9 rfl (sx 10 rfl (sx 11 rfl (sx 12 rfl (sx 13 rfl (sx 14 rfl (sx 15 rfl (sx 16 rfl (sx 17 rfl (sx 32 rfl (sx 40 rfl (sub_nil _))))))))))))))))))) ((.cons_cons _ (.cons_cons _ (.cons_cons _ (.cons_cons _ (.cons_cons _ (.cons_cons _ (.cons_cons _ (.cons_cons _ (.refl _)))))))))) ?_
    intro i at_ hi21
    obtain ⟨hi1, hat⟩ := hi21
    refine hc_seq ?_
    refine hc_seq ?_
    refine hc_region ?_
    refine hl_v rfl rfl rfl (rv_ev rfl) ?_
    refine hl_v rfl rfl rfl (rv_field (k0 := 0) rfl (by kernel_rfl) rfl) ?_
    refine hl_v rfl rfl rfl (rv_load rfl (by kernel_rfl) rfl (box_cell 2 rfl rfl)) ?_
    refine hl_v rfl rfl rfl (rv_len rfl Try.underlying26 rfl (rd_row 4 rfl)) ?_
    refine hl_lss rfl rfl rfl rfl rfl rfl (fun h22 => ?_) (fun h22 => ?_)
    ·
     refine hl_less (sx 0 rfl (sx 1 rfl (sx 2 rfl (sx 4 rfl (sx 6 rfl (sx 7 rfl (sx 8 rfl (sx 9 rfl (sx 10 rfl (sx 11 rfl (sx 12 rfl (sx 13 rfl (sx 14 rfl (sx 15 rfl (sx 16 rfl (sx 17 rfl (sx 32 rfl (sx 40 rfl (sx 55 rfl (sub_nil _)))))))))))))))))))) (.refl _) ?_
     refine hl_nil ?_
     refine hq_then ?_
     refine hc_true rfl ?_
     refine hc_skip ?_
     refine hq_then ?_
     refine hc_seq ?_
     refine hc_block ?_
     refine hc_seq ?_
     refine hc_region ?_
     refine hl_v rfl rfl rfl (rv_ev rfl) ?_
     refine hl_v rfl rfl rfl (rv_field (k0 := 0) rfl (by kernel_rfl) rfl) ?_
     refine hl_v rfl rfl rfl (rv_load rfl (by kernel_rfl) rfl (box_cell 2 rfl rfl)) ?_
     refine hl_v rfl rfl rfl (rv_ev rfl) ?_
     refine hl_v rfl rfl rfl (rv_index (s := 1) rfl Try.underlying26 (by kernel_rfl) rfl rfl (rd_row 4 rfl) (by omega) (by first | omega | (simp only [List.length_set]; omega))) ?_
     refine hl_v rfl rfl rfl (rv_loadEl (u := .int .i64 (r.ns.getD i 0)) rfl (by kernel_rfl) rfl (rd_row 4 rfl) (ints_at1 (show _ < r.ns.length by first | omega | (simp only [List.length_set]; omega)))) ?_
     refine hl_callV rfl rfl rfl (rq_call (by kernel_rfl) rfl (fun w hm => ret_ans (l13Has_ans (srcS d x) (r.ns.getD i 0) _ w ((rd_row 0 rfl) w hm) (by omega)))) ?_
     refine hl_bool (fun h23 => ?_) (fun h23 => ?_)
     ·
      refine hl_less (sx 0 rfl (sx 1 rfl (sx 2 rfl (sx 4 rfl (sx 6 rfl (sx 7 rfl (sx 8 rfl (sx 9 rfl (sx 10 rfl (sx 11 rfl (sx 12 rfl (sx 13 rfl (sx 14 rfl (sx 15 rfl (sx 16 rfl (sx 17 rfl (sx 32 rfl (sx 40 rfl (sx 55 rfl (sx 64 rfl (sub_nil _))))))))))))))))))))) (.refl _) ?_
      refine hl_nil ?_
      refine hq_then ?_
      refine hc_true rfl ?_
      refine hc_region ?_
      refine hl_v rfl rfl rfl (rv_ev rfl) ?_
      refine hl_v rfl rfl rfl (rv_ev rfl) ?_
      refine hl_less (sx 0 rfl (sx 1 rfl (sx 2 rfl (sx 4 rfl (sx 6 rfl (sx 7 rfl (sx 8 rfl (sx 9 rfl (sx 10 rfl (sx 11 rfl (sx 12 rfl (sx 13 rfl (sx 14 rfl (sx 15 rfl (sx 16 rfl (sx 17 rfl (sx 32 rfl (sx 40 rfl (sx 55 rfl (sx 64 rfl (sub_nil _))))))))))))))))))))) (.refl _) ?_
      refine hl_nil ?_
      refine hq_block_normal ?_
      refine hq_then ?_
      refine hc_region ?_
      refine hl_v rfl rfl rfl (rv_ev rfl) ?_
      refine hl_v rfl rfl rfl (rv_add rfl rfl rfl (by constructor <;> omega)) ?_
      refine hl_v rfl rfl rfl (rv_ev rfl) ?_
      refine hl_less (sx 0 rfl (sx 1 rfl (sx 2 rfl (sx 4 rfl (sx 6 rfl (sx 7 rfl (sx 8 rfl (sx 9 rfl (sx 10 rfl (sx 11 rfl (sx 12 rfl (sx 13 rfl (sx 14 rfl (sx 15 rfl (sx 16 rfl (sx 17 rfl (sx 32 rfl (sx 40 rfl (sx 55 rfl (sx 64 rfl (sub_nil _))))))))))))))))))))) (.refl _) ?_
      refine hl_nil ?_
      exact hq_round2 (i + 1) (i : Int) ⟨by omega, .inr ⟨by omega, by rw [← src_eq]; assumption⟩⟩ (by omega) (sx 0 rfl (sx 1 rfl (sx 2 rfl (sx 4 rfl (sx 6 rfl (sx 7 rfl (sx 8 rfl (sx 9 rfl (sx 10 rfl (sx 11 rfl (sx 12 rfl (sx 13 rfl (sx 14 rfl (sx 15 rfl (sx 16 rfl (sx 17 rfl (sx 32 rfl (sx 40 rfl (sub_nil _))))))))))))))))))) ((.cons_cons _ (.cons_cons _ (.cons_cons _ (.cons_cons _ (.cons_cons _ (.cons_cons _ (.cons_cons _ (.cons_cons _ (.refl _))))))))))
     ·
      refine hl_less (sx 0 rfl (sx 1 rfl (sx 2 rfl (sx 4 rfl (sx 6 rfl (sx 7 rfl (sx 8 rfl (sx 9 rfl (sx 10 rfl (sx 11 rfl (sx 12 rfl (sx 13 rfl (sx 14 rfl (sx 15 rfl (sx 16 rfl (sx 17 rfl (sx 32 rfl (sx 40 rfl (sx 55 rfl (sx 64 rfl (sub_nil _))))))))))))))))))))) (.refl _) ?_
      refine hl_nil ?_
      refine hq_then ?_
      refine hc_false rfl ?_
      refine hc_skip ?_
      refine hq_block_normal ?_
      refine hq_then ?_
      refine hc_region ?_
      refine hl_v rfl rfl rfl (rv_ev rfl) ?_
      refine hl_v rfl rfl rfl (rv_add rfl rfl rfl (by constructor <;> omega)) ?_
      refine hl_v rfl rfl rfl (rv_ev rfl) ?_
      refine hl_less (sx 0 rfl (sx 1 rfl (sx 2 rfl (sx 4 rfl (sx 6 rfl (sx 7 rfl (sx 8 rfl (sx 9 rfl (sx 10 rfl (sx 11 rfl (sx 12 rfl (sx 13 rfl (sx 14 rfl (sx 15 rfl (sx 16 rfl (sx 17 rfl (sx 32 rfl (sx 40 rfl (sx 55 rfl (sx 64 rfl (sub_nil _))))))))))))))))))))) (.refl _) ?_
      refine hl_nil ?_
      exact hq_round2 (i + 1) at_ ⟨by omega, hat⟩ (by omega) (sx 0 rfl (sx 1 rfl (sx 2 rfl (sx 4 rfl (sx 6 rfl (sx 7 rfl (sx 8 rfl (sx 9 rfl (sx 10 rfl (sx 11 rfl (sx 12 rfl (sx 13 rfl (sx 14 rfl (sx 15 rfl (sx 16 rfl (sx 17 rfl (sx 32 rfl (sx 40 rfl (sub_nil _))))))))))))))))))) ((.cons_cons _ (.cons_cons _ (.cons_cons _ (.cons_cons _ (.cons_cons _ (.cons_cons _ (.cons_cons _ (.cons_cons _ (.refl _))))))))))
    ·
     refine hl_less (sx 0 rfl (sx 1 rfl (sx 2 rfl (sx 4 rfl (sx 6 rfl (sx 7 rfl (sx 8 rfl (sx 9 rfl (sx 10 rfl (sx 11 rfl (sx 12 rfl (sx 13 rfl (sx 14 rfl (sx 15 rfl (sx 16 rfl (sx 17 rfl (sx 32 rfl (sx 40 rfl (sx 55 rfl (sub_nil _)))))))))))))))))))) (.refl _) ?_
     refine hl_nil ?_
     refine hq_then ?_
     refine hc_false rfl ?_
     refine hc_exit ?_
     refine hq_then_exit ?_
     refine hq_then_exit ?_
     refine hq_block_exit ?_
     refine hq_then ?_
     refine hc_seq ?_
     refine hc_region ?_
     refine hl_v rfl rfl rfl (rv_ev rfl) ?_
     refine hl_geq rfl rfl rfl rfl rfl rfl (fun h24 => ?_) (fun h24 => ?_)
     ·
      refine hl_v rfl rfl rfl (rv_ev rfl) ?_
      refine hl_v rfl rfl rfl (rv_field (k0 := 0) rfl (by kernel_rfl) rfl) ?_
      refine hl_v rfl rfl rfl (rv_load rfl (by kernel_rfl) rfl (box_cell 2 rfl rfl)) ?_
      refine hl_v rfl rfl rfl (rv_ev rfl) ?_
      refine hl_callV rfl rfl rfl (rq_call (by kernel_rfl) rfl (fun w hm => ret_ans (l13Has_ans r.ns x _ w ((rd_row 4 rfl) w hm) (by omega)))) ?_
      refine hl_bool (fun h25 => ?_) (fun h25 => ?_)
      ·
       refine hl_v rfl rfl rfl (rv_ev rfl) ?_
       refine hl_v rfl rfl rfl (rv_ev rfl) ?_
       refine hl_less (sx 0 rfl (sx 1 rfl (sx 2 rfl (sx 4 rfl (sx 6 rfl (sx 7 rfl (sx 8 rfl (sx 9 rfl (sx 10 rfl (sx 11 rfl (sx 12 rfl (sx 13 rfl (sx 14 rfl (sx 15 rfl (sx 16 rfl (sx 17 rfl (sx 32 rfl (sx 40 rfl (sx 55 rfl (sx 74 rfl (sub_nil _))))))))))))))))))))) (.refl _) ?_
       refine hl_nil ?_
       refine hq_then ?_
       refine hc_false rfl ?_
       refine hc_skip ?_
       refine hq_block_normal ?_
       refine hq_then ?_
       refine hc_region ?_
       refine hl_v rfl rfl rfl (rv_ev rfl) ?_
       refine hl_v rfl rfl rfl (rv_add rfl rfl rfl (by constructor <;> omega)) ?_
       refine hl_v rfl rfl rfl (rv_ev rfl) ?_
       refine hl_less (sx 0 rfl (sx 1 rfl (sx 2 rfl (sx 4 rfl (sx 6 rfl (sx 7 rfl (sx 8 rfl (sx 9 rfl (sx 10 rfl (sx 11 rfl (sx 12 rfl (sx 13 rfl (sx 14 rfl (sx 15 rfl (sx 16 rfl (sx 17 rfl (sx 32 rfl (sx 40 rfl (sx 55 rfl (sx 74 rfl (sub_nil _))))))))))))))))))))) (.refl _) ?_
       refine hl_nil ?_
       exact hq_round1 (j + 1) (by omega) (by omega) (sx 0 rfl (sx 1 rfl (sx 2 rfl (sx 4 rfl (sx 6 rfl (sx 7 rfl (sx 8 rfl (sx 9 rfl (sx 10 rfl (sx 11 rfl (sx 12 rfl (sx 13 rfl (sx 32 rfl (sub_nil _)))))))))))))) ((.cons _ (.cons_cons _ (.cons_cons _ (.cons_cons _ (.cons_cons _ (.cons_cons _ (.cons_cons _ (.cons_cons _ (.refl _))))))))))
      ·
       refine hl_v rfl rfl rfl (rv_ev rfl) ?_
       refine hl_v rfl rfl rfl (rv_ev rfl) ?_
       refine hl_less (sx 0 rfl (sx 1 rfl (sx 2 rfl (sx 4 rfl (sx 6 rfl (sx 7 rfl (sx 8 rfl (sx 9 rfl (sx 10 rfl (sx 11 rfl (sx 12 rfl (sx 13 rfl (sx 14 rfl (sx 15 rfl (sx 16 rfl (sx 17 rfl (sx 32 rfl (sx 40 rfl (sx 55 rfl (sx 74 rfl (sub_nil _))))))))))))))))))))) (.refl _) ?_
       refine hl_nil ?_
       refine hq_then ?_
       refine hc_true rfl ?_
       refine hc_seq ?_
       refine hc_region ?_
       refine hl_v rfl rfl rfl (rv_field (k0 := 0) rfl (by kernel_rfl) rfl) ?_
       refine hl_v rfl rfl rfl (rv_load rfl (by kernel_rfl) rfl (box_cell 2 rfl rfl)) ?_
       refine hl_v rfl rfl rfl (rv_ev rfl) ?_
       refine hl_row rfl rfl rfl (rq_buildSlice (z := .int .i64 0) (s := 1) (cs := ([x].map (Value.int .i64))) rfl Try.underlying26 (by kernel_rfl) (by decide) rfl (by kernel_rfl) rfl) ?_
       intro g26
       refine hl_append (i := 5) (z := .int .i64 0) (bytes := 8) (n' := (r.ns ++ ([x])).length) (xs' := ((r.ns ++ ([x])).map (Value.int .i64))) (L := fun v27 => (rowE 3 1 (.slice (some ⟨g26, 0, none⟩) 1 1) 1 ([x].map (Value.int .i64)) :: rowE 3 1 v18 ((srcS d x).length) ((srcS d x).map (Value.int .i64)) :: rowE 3 1 sv ks.length (ks.map (Value.int .i64)) :: boxE b5 #[r.nv, r.fv] 28 :: rowE 3 1 r.fv r.fs.length (r.fs.map (Value.int .i64)) :: rowE 3 1 v27 ((r.ns ++ ([x])).length) ((r.ns ++ ([x])).map (Value.int .i64)) :: boxE b2 #[.slice none 0 0, .slice none 0 0] 28 :: boxE b1 #[.int .i64 d.W, .int .i64 d.H, .int .i64 d.T, .int .i64 d.R] 25 :: curE g a len cap :: l)) rfl rfl rfl rfl Try.underlying26 (by kernel_rfl) (by kernel_rfl) rfl rfl rfl (rd_row 0 rfl) (ints_one _) (by first | omega | (simp; omega)) (len_app r.ns ([x])) (ints_app r.ns ([x])) (fun _ => rfl) ?_
       intro v27
       refine hl_v rfl rfl rfl (rv_field (k0 := 0) rfl (by kernel_rfl) rfl) ?_
       refine hl_one (i := 5) rfl (fun ho28 => ?_)
       refine hl_storeBox (i := 3) (l' := (rowE 3 1 (.slice (some ⟨g26, 0, none⟩) 1 1) 1 ([x].map (Value.int .i64)) :: rowE 3 1 v18 ((srcS d x).length) ((srcS d x).map (Value.int .i64)) :: rowE 3 1 sv ks.length (ks.map (Value.int .i64)) :: boxE b5 #[v27, r.fv] 28 :: rowE 3 1 r.fv r.fs.length (r.fs.map (Value.int .i64)) :: rowE 3 1 v27 ((r.ns ++ ([x])).length) ((r.ns ++ ([x])).map (Value.int .i64)) :: boxE b2 #[.slice none 0 0, .slice none 0 0] 28 :: boxE b1 #[.int .i64 d.W, .int .i64 d.H, .int .i64 d.T, .int .i64 d.R] 25 :: curE g a len cap :: l)) rfl rfl rfl (by kernel_rfl) rfl rfl ho28 rfl rfl rfl ?_
       refine hl_less (sx 0 rfl (sx 1 rfl (sx 2 rfl (sx 4 rfl (sx 6 rfl (sx 7 rfl (sx 8 rfl (sx 9 rfl (sx 10 rfl (sx 11 rfl (sx 12 rfl (sx 13 rfl (sx 14 rfl (sx 15 rfl (sx 16 rfl (sx 17 rfl (sx 32 rfl (sx 40 rfl (sx 55 rfl (sx 74 rfl (sub_nil _))))))))))))))))))))) (.refl _) ?_
       refine hl_nil ?_
       refine hq_then ?_
       refine hc_seq ?_
       refine hc_region ?_
       refine hl_v rfl rfl rfl (rv_field (k0 := 1) rfl (by kernel_rfl) rfl) ?_
       refine hl_v rfl rfl rfl (rv_load rfl (by kernel_rfl) rfl (box_cell 3 rfl rfl)) ?_
       refine hl_v rfl rfl rfl (rv_ev rfl) ?_
       refine hl_row rfl rfl rfl (rq_buildSlice (z := .int .i64 0) (s := 1) (cs := ([at_].map (Value.int .i64))) rfl Try.underlying26 (by kernel_rfl) (by decide) rfl (by kernel_rfl) rfl) ?_
       intro g29
       refine hl_append (i := 5) (z := .int .i64 0) (bytes := 8) (n' := (r.fs ++ ([at_])).length) (xs' := ((r.fs ++ ([at_])).map (Value.int .i64))) (L := fun v30 => (rowE 3 1 (.slice (some ⟨g29, 0, none⟩) 1 1) 1 ([at_].map (Value.int .i64)) :: rowE 3 1 (.slice (some ⟨g26, 0, none⟩) 1 1) 1 ([x].map (Value.int .i64)) :: rowE 3 1 v18 ((srcS d x).length) ((srcS d x).map (Value.int .i64)) :: rowE 3 1 sv ks.length (ks.map (Value.int .i64)) :: boxE b5 #[v27, r.fv] 28 :: rowE 3 1 v30 ((r.fs ++ ([at_])).length) ((r.fs ++ ([at_])).map (Value.int .i64)) :: rowE 3 1 v27 ((r.ns ++ ([x])).length) ((r.ns ++ ([x])).map (Value.int .i64)) :: boxE b2 #[.slice none 0 0, .slice none 0 0] 28 :: boxE b1 #[.int .i64 d.W, .int .i64 d.H, .int .i64 d.T, .int .i64 d.R] 25 :: curE g a len cap :: l)) rfl rfl rfl rfl Try.underlying26 (by kernel_rfl) (by kernel_rfl) rfl rfl rfl (rd_row 0 rfl) (ints_one _) (by first | omega | (simp; omega)) (len_app r.fs ([at_])) (ints_app r.fs ([at_])) (fun _ => rfl) ?_
       intro v30
       refine hl_v rfl rfl rfl (rv_field (k0 := 1) rfl (by kernel_rfl) rfl) ?_
       refine hl_one (i := 5) rfl (fun ho31 => ?_)
       refine hl_storeBox (i := 4) (l' := (rowE 3 1 (.slice (some ⟨g29, 0, none⟩) 1 1) 1 ([at_].map (Value.int .i64)) :: rowE 3 1 (.slice (some ⟨g26, 0, none⟩) 1 1) 1 ([x].map (Value.int .i64)) :: rowE 3 1 v18 ((srcS d x).length) ((srcS d x).map (Value.int .i64)) :: rowE 3 1 sv ks.length (ks.map (Value.int .i64)) :: boxE b5 #[v27, v30] 28 :: rowE 3 1 v30 ((r.fs ++ ([at_])).length) ((r.fs ++ ([at_])).map (Value.int .i64)) :: rowE 3 1 v27 ((r.ns ++ ([x])).length) ((r.ns ++ ([x])).map (Value.int .i64)) :: boxE b2 #[.slice none 0 0, .slice none 0 0] 28 :: boxE b1 #[.int .i64 d.W, .int .i64 d.H, .int .i64 d.T, .int .i64 d.R] 25 :: curE g a len cap :: l)) rfl rfl rfl (by kernel_rfl) rfl rfl ho31 rfl rfl rfl ?_
       refine hl_less (sx 0 rfl (sx 1 rfl (sx 2 rfl (sx 4 rfl (sx 6 rfl (sx 7 rfl (sx 8 rfl (sx 9 rfl (sx 10 rfl (sx 11 rfl (sx 12 rfl (sx 13 rfl (sx 14 rfl (sx 15 rfl (sx 16 rfl (sx 17 rfl (sx 32 rfl (sx 40 rfl (sx 55 rfl (sx 74 rfl (sub_nil _))))))))))))))))))))) (.refl _) ?_
       refine hl_nil ?_
       refine hq_then ?_
       refine hc_seq ?_
       refine hc_seq ?_
       refine hc_region ?_
       refine hl_v rfl rfl rfl (rv_ev rfl) ?_
       refine hl_v rfl rfl rfl (rv_loadN (cs := [.int .i64 d.W, .int .i64 d.H, .int .i64 d.T, .int .i64 d.R]) rfl (by kernel_rfl) (by kernel_rfl) rfl rfl (box_part 8 rfl 0 rfl)) ?_
       refine hl_callV rfl rfl rfl (rq_call (by kernel_rfl) rfl (fun w hm => ret_ans (specPer_any d hd w))) ?_
       refine hl_v rfl rfl rfl (rv_rem rfl rfl rfl (by constructor <;> omega)) ?_
       refine hl_lss rfl rfl rfl rfl rfl rfl (fun h32 => ?_) (fun h32 => ?_)
       ·
        refine hl_less (sx 0 rfl (sx 1 rfl (sx 2 rfl (sx 4 rfl (sx 6 rfl (sx 7 rfl (sx 8 rfl (sx 9 rfl (sx 10 rfl (sx 11 rfl (sx 12 rfl (sx 13 rfl (sx 14 rfl (sx 15 rfl (sx 16 rfl (sx 17 rfl (sx 32 rfl (sx 40 rfl (sx 55 rfl (sx 74 rfl (sx 91 rfl (sub_nil _)))))))))))))))))))))) (.refl _) ?_
        refine hl_nil ?_
        refine hq_then ?_
        refine hc_true rfl ?_
        refine hc_region ?_
        refine hl_v rfl rfl rfl (rv_ev rfl) ?_
        refine hl_v rfl rfl rfl (rv_ev rfl) ?_
        refine hl_row rfl rfl rfl (rq_buildSlice (z := .int .i64 0) (s := 1) (cs := ([x].map (Value.int .i64))) rfl Try.underlying26 (by kernel_rfl) (by decide) rfl (by kernel_rfl) rfl) ?_
        intro g33
        refine hl_append (i := 4) (z := .int .i64 0) (bytes := 8) (n' := (ks ++ ([x])).length) (xs' := ((ks ++ ([x])).map (Value.int .i64))) (L := fun v34 => (rowE 3 1 (.slice (some ⟨g33, 0, none⟩) 1 1) 1 ([x].map (Value.int .i64)) :: rowE 3 1 (.slice (some ⟨g29, 0, none⟩) 1 1) 1 ([at_].map (Value.int .i64)) :: rowE 3 1 (.slice (some ⟨g26, 0, none⟩) 1 1) 1 ([x].map (Value.int .i64)) :: rowE 3 1 v18 ((srcS d x).length) ((srcS d x).map (Value.int .i64)) :: rowE 3 1 v34 ((ks ++ ([x])).length) ((ks ++ ([x])).map (Value.int .i64)) :: boxE b5 #[v27, v30] 28 :: rowE 3 1 v30 ((r.fs ++ ([at_])).length) ((r.fs ++ ([at_])).map (Value.int .i64)) :: rowE 3 1 v27 ((r.ns ++ ([x])).length) ((r.ns ++ ([x])).map (Value.int .i64)) :: boxE b2 #[.slice none 0 0, .slice none 0 0] 28 :: boxE b1 #[.int .i64 d.W, .int .i64 d.H, .int .i64 d.T, .int .i64 d.R] 25 :: curE g a len cap :: l)) rfl rfl rfl rfl Try.underlying26 (by kernel_rfl) (by kernel_rfl) rfl rfl rfl (rd_row 0 rfl) (ints_one _) (by first | omega | (simp; omega)) (len_app ks ([x])) (ints_app ks ([x])) (fun _ => rfl) ?_
        intro v34
        refine hl_v rfl rfl rfl (rv_ev rfl) ?_
        refine hl_less (sx 0 rfl (sx 1 rfl (sx 2 rfl (sx 4 rfl (sx 6 rfl (sx 7 rfl (sx 8 rfl (sx 9 rfl (sx 10 rfl (sx 11 rfl (sx 12 rfl (sx 13 rfl (sx 14 rfl (sx 15 rfl (sx 16 rfl (sx 17 rfl (sx 32 rfl (sx 40 rfl (sx 55 rfl (sx 74 rfl (sx 91 rfl (sub_nil _)))))))))))))))))))))) (.refl _) ?_
        refine hl_nil ?_
        refine hq_then ?_
        refine hc_exit ?_
        refine hq_block_past rfl ?_
        refine hq_then_exit ?_
        refine hq_then_exit ?_
        refine hq_block_exit ?_
        refine hq_block_normal ?_
        refine hq_then ?_
        refine hc_region ?_
        refine hl_v rfl rfl rfl (rv_ev rfl) ?_
        refine hl_v rfl rfl rfl (rv_sub rfl rfl rfl (by constructor <;> omega)) ?_
        refine hl_v rfl rfl rfl (rv_ev rfl) ?_
        refine hl_less (sx 0 rfl (sx 1 rfl (sx 2 rfl (sx 4 rfl (sx 6 rfl (sx 7 rfl (sx 8 rfl (sx 9 rfl (sx 10 rfl (sx 11 rfl (sx 12 rfl (sx 13 rfl (sx 14 rfl (sx 15 rfl (sx 16 rfl (sx 17 rfl (sx 32 rfl (sx 40 rfl (sx 55 rfl (sx 74 rfl (sx 91 rfl (sub_nil _)))))))))))))))))))))) (.refl _) ?_
        refine hl_nil ?_
        exact hq_round4 (q - 1) ⟨v27, v30, r.ns ++ ([x]), r.fs ++ ([at_])⟩ v34 (ks ++ ([x])) ⟨by omega, by dsimp only; simp only [List.length_append, List.length_singleton]; omega, by have h9 := tree_app htr (by omega) (by omega) (by assumption) (hat.resolve_left (by omega)).1 (hat.resolve_left (by omega)).2; rw [if_pos (by omega)] at h9; exact h9⟩ (by omega) (sx 0 rfl (sx 1 rfl (sx 2 rfl (sx 4 rfl (sx 6 rfl (sx 7 rfl (sx 8 rfl (sx 9 rfl (sx 10 rfl (sx 11 rfl (sub_nil _))))))))))) ((.cons _ (.cons _ (.cons _ (.cons _ (.cons_cons _ (.cons_cons _ (.cons_cons _ (.cons_cons _ (.cons_cons _ (.cons_cons _ (.cons_cons _ (.refl _)))))))))))))
       ·
        refine hl_less (sx 0 rfl (sx 1 rfl (sx 2 rfl (sx 4 rfl (sx 6 rfl (sx 7 rfl (sx 8 rfl (sx 9 rfl (sx 10 rfl (sx 11 rfl (sx 12 rfl (sx 13 rfl (sx 14 rfl (sx 15 rfl (sx 16 rfl (sx 17 rfl (sx 32 rfl (sx 40 rfl (sx 55 rfl (sx 74 rfl (sx 91 rfl (sub_nil _)))))))))))))))))))))) (.refl _) ?_
        refine hl_nil ?_
        refine hq_then ?_
        refine hc_false rfl ?_
        refine hc_skip ?_
        refine hq_then ?_
        refine hc_exit ?_
        refine hq_block_past rfl ?_
        refine hq_then_exit ?_
        refine hq_then_exit ?_
        refine hq_block_exit ?_
        refine hq_block_normal ?_
        refine hq_then ?_
        refine hc_region ?_
        refine hl_v rfl rfl rfl (rv_ev rfl) ?_
        refine hl_v rfl rfl rfl (rv_sub rfl rfl rfl (by constructor <;> omega)) ?_
        refine hl_v rfl rfl rfl (rv_ev rfl) ?_
        refine hl_less (sx 0 rfl (sx 1 rfl (sx 2 rfl (sx 4 rfl (sx 6 rfl (sx 7 rfl (sx 8 rfl (sx 9 rfl (sx 10 rfl (sx 11 rfl (sx 12 rfl (sx 13 rfl (sx 14 rfl (sx 15 rfl (sx 16 rfl (sx 17 rfl (sx 32 rfl (sx 40 rfl (sx 55 rfl (sx 74 rfl (sx 91 rfl (sub_nil _)))))))))))))))))))))) (.refl _) ?_
        refine hl_nil ?_
        exact hq_round4 (q - 1) ⟨v27, v30, r.ns ++ ([x]), r.fs ++ ([at_])⟩ sv ks ⟨by omega, by dsimp only; simp only [List.length_append, List.length_singleton]; omega, by have h9 := tree_app htr (by omega) (by omega) (by assumption) (hat.resolve_left (by omega)).1 (hat.resolve_left (by omega)).2; rw [if_neg (by omega)] at h9; exact h9⟩ (by omega) (sx 0 rfl (sx 1 rfl (sx 2 rfl (sx 4 rfl (sx 6 rfl (sx 7 rfl (sx 8 rfl (sx 9 rfl (sx 10 rfl (sx 11 rfl (sub_nil _))))))))))) ((.cons _ (.cons _ (.cons _ (.cons_cons _ (.cons_cons _ (.cons_cons _ (.cons_cons _ (.cons_cons _ (.cons_cons _ (.cons_cons _ (.refl _))))))))))))
     ·
      refine hl_v rfl rfl rfl (rv_ev rfl) ?_
      refine hl_skip rfl rfl rfl ?_
      refine hl_skip rfl rfl rfl ?_
      refine hl_skip rfl rfl rfl ?_
      refine hl_skip rfl rfl rfl ?_
      refine hl_skip rfl rfl rfl ?_
      refine hl_v rfl rfl rfl (rv_ev rfl) ?_
      refine hl_less (sx 0 rfl (sx 1 rfl (sx 2 rfl (sx 4 rfl (sx 6 rfl (sx 7 rfl (sx 8 rfl (sx 9 rfl (sx 10 rfl (sx 11 rfl (sx 12 rfl (sx 13 rfl (sx 14 rfl (sx 15 rfl (sx 16 rfl (sx 17 rfl (sx 32 rfl (sx 40 rfl (sx 55 rfl (sx 74 rfl (sub_nil _))))))))))))))))))))) (.refl _) ?_
      refine hl_nil ?_
      refine hq_then ?_
      refine hc_false rfl ?_
      refine hc_skip ?_
      refine hq_block_normal ?_
      refine hq_then ?_
      refine hc_region ?_
      refine hl_v rfl rfl rfl (rv_ev rfl) ?_
      refine hl_v rfl rfl rfl (rv_add rfl rfl rfl (by constructor <;> omega)) ?_
      refine hl_v rfl rfl rfl (rv_ev rfl) ?_
      refine hl_less (sx 0 rfl (sx 1 rfl (sx 2 rfl (sx 4 rfl (sx 6 rfl (sx 7 rfl (sx 8 rfl (sx 9 rfl (sx 10 rfl (sx 11 rfl (sx 12 rfl (sx 13 rfl (sx 14 rfl (sx 15 rfl (sx 16 rfl (sx 17 rfl (sx 32 rfl (sx 40 rfl (sx 55 rfl (sx 74 rfl (sub_nil _))))))))))))))))))))) (.refl _) ?_
      refine hl_nil ?_
      exact hq_round1 (j + 1) (by omega) (by omega) (sx 0 rfl (sx 1 rfl (sx 2 rfl (sx 4 rfl (sx 6 rfl (sx 7 rfl (sx 8 rfl (sx 9 rfl (sx 10 rfl (sx 11 rfl (sx 12 rfl (sx 13 rfl (sx 32 rfl (sub_nil _)))))))))))))) ((.cons _ (.cons_cons _ (.cons_cons _ (.cons_cons _ (.cons_cons _ (.cons_cons _ (.cons_cons _ (.cons_cons _ (.refl _))))))))))
   ·
    refine hl_less (sx 0 rfl (sx 1 rfl (sx 2 rfl (sx 4 rfl (sx 6 rfl (sx 7 rfl (sx 8 rfl (sx 9 rfl (sx 10 rfl (sx 11 rfl (sx 12 rfl (sx 13 rfl (sx 32 rfl (sx 40 rfl (sub_nil _))))))))))))))) (.refl _) ?_
    refine hl_nil ?_
    refine hq_then ?_
    refine hc_false rfl ?_
    refine hc_exit ?_
    refine hq_then_exit ?_
    refine hq_then_exit ?_
    refine hq_block_exit ?_
    refine hq_block_normal ?_
    refine hq_then ?_
    refine hc_region ?_
    refine hl_v rfl rfl rfl (rv_ev rfl) ?_
    refine hl_v rfl rfl rfl (rv_sub rfl rfl rfl (by constructor <;> omega)) ?_
    refine hl_v rfl rfl rfl (rv_ev rfl) ?_
    refine hl_less (sx 0 rfl (sx 1 rfl (sx 2 rfl (sx 4 rfl (sx 6 rfl (sx 7 rfl (sx 8 rfl (sx 9 rfl (sx 10 rfl (sx 11 rfl (sx 12 rfl (sx 13 rfl (sx 32 rfl (sx 40 rfl (sub_nil _))))))))))))))) (.refl _) ?_
    refine hl_nil ?_
    exact hq_round4 (q - 1) ⟨r.nv, r.fv, r.ns, r.fs⟩ sv ks ⟨by omega, by dsimp only; omega, htr⟩ (by omega) (sx 0 rfl (sx 1 rfl (sx 2 rfl (sx 4 rfl (sx 6 rfl (sx 7 rfl (sx 8 rfl (sx 9 rfl (sx 10 rfl (sx 11 rfl (sub_nil _))))))))))) ((.cons_cons _ (.cons_cons _ (.cons_cons _ (.cons_cons _ (.cons_cons _ (.cons_cons _ (.cons_cons _ (.refl _)))))))))
  ·
   refine hl_v rfl rfl rfl (rv_ev rfl) ?_
   refine hl_less (sx 0 rfl (sx 1 rfl (sx 2 rfl (sx 4 rfl (sx 6 rfl (sx 7 rfl (sx 8 rfl (sx 9 rfl (sx 10 rfl (sx 11 rfl (sx 32 rfl (sub_nil _)))))))))))) (.refl _) ?_
   refine hl_nil ?_
   refine hq_then ?_
   refine hc_false rfl ?_
   refine hc_exit ?_
   refine hq_then_exit ?_
   refine hq_then_exit ?_
   refine hq_block_exit ?_
   refine hq_then ?_
   refine hc_seq ?_
   refine hc_region ?_
   refine hl_v rfl rfl rfl (rv_loadN (cs := [r.nv, r.fv]) rfl (by kernel_rfl) (by kernel_rfl) rfl rfl (box_part 1 rfl 0 rfl)) ?_
   refine hl_v rfl rfl rfl (rv_ev rfl) ?_
   refine hl_one (i := 2) rfl (fun ho35 => ?_)
   refine hl_one (i := 3) rfl (fun ho36 => ?_)
   refine hl_storeBoxN (i := 4) (off := 0) (us := [r.nv, r.fv]) (l' := (rowE 3 1 sv ks.length (ks.map (Value.int .i64)) :: boxE b5 #[r.nv, r.fv] 28 :: rowE 3 1 r.fv r.fs.length (r.fs.map (Value.int .i64)) :: rowE 3 1 r.nv r.ns.length (r.ns.map (Value.int .i64)) :: boxE b2 #[r.nv, r.fv] 28 :: boxE b1 #[.int .i64 d.W, .int .i64 d.H, .int .i64 d.T, .int .i64 d.R] 25 :: curE g a len cap :: l)) rfl rfl rfl (by kernel_rfl) rfl rfl rfl (all_cons ho36 (all_cons ho35 all_nil)) rfl rfl rfl ?_
   refine hl_v rfl rfl rfl (rv_ev rfl) ?_
   refine hl_less (sx 0 rfl (sx 1 rfl (sx 2 rfl (sx 4 rfl (sx 6 rfl (sx 7 rfl (sx 8 rfl (sx 9 rfl (sx 10 rfl (sx 11 rfl (sx 32 rfl (sub_nil _)))))))))))) (.refl _) ?_
   refine hl_nil ?_
   refine hq_then ?_
   refine hc_ret ?_
   refine hq_one (i := 3) rfl (fun ornv => ?_)
   refine hq_one (i := 2) rfl (fun orfv => ?_)
   refine hq_one (i := 0) rfl (fun osv => ?_)
   refine hq_conv (rowE 3 1 r.nv r.ns.length (r.ns.map (Value.int .i64)) :: rowE 3 1 r.fv r.fs.length (r.fs.map (Value.int .i64)) :: rowE 3 1 sv ks.length (ks.map (Value.int .i64)) :: curE g a len cap :: boxE b2 #[r.nv, r.fv] 28 :: l) (conv_pick (src := [rowE 3 1 sv ks.length (ks.map (Value.int .i64)), boxE b5 #[r.nv, r.fv] 28, rowE 3 1 r.fv r.fs.length (r.fs.map (Value.int .i64)), rowE 3 1 r.nv r.ns.length (r.ns.map (Value.int .i64)), boxE b2 #[r.nv, r.fv] 28, boxE b1 #[.int .i64 d.W, .int .i64 d.H, .int .i64 d.T, .int .i64 d.R] 25, curE g a len cap]) (dst := [rowE 3 1 r.nv r.ns.length (r.ns.map (Value.int .i64)), rowE 3 1 r.fv r.fs.length (r.fs.map (Value.int .i64)), rowE 3 1 sv ks.length (ks.map (Value.int .i64)), curE g a len cap, boxE b2 #[r.nv, r.fv] 28]) (l := l) [3, 2, 0, 6, 4] (by decide) rfl) ?_
   refine hq_conv (bigE [curE g a len cap, rtE r, rowE 3 1 sv ks.length (ks.map (Value.int .i64))] :: boxE b2 #[r.nv, r.fv] 28 :: l) (fun w hm => by
     have h1 : Mem _ ([rowE 3 1 r.nv r.ns.length (r.ns.map (Value.int .i64)), rowE 3 1 r.fv r.fs.length (r.fs.map (Value.int .i64))] ++ (rowE 3 1 sv ks.length (ks.map (Value.int .i64)) :: curE g a len cap :: boxE b2 #[r.nv, r.fv] 28 :: l)) w := hm
     have h2 : Mem _ (rtE r :: rowE 3 1 sv ks.length (ks.map (Value.int .i64)) :: curE g a len cap :: boxE b2 #[r.nv, r.fv] 28 :: l) w := h1.big
     have h3 : Mem _ (curE g a len cap :: rtE r :: rowE 3 1 sv ks.length (ks.map (Value.int .i64)) :: boxE b2 #[r.nv, r.fv] 28 :: l) w := h2.perm ((List.Perm.cons _ (.swap _ _ _)).trans (.swap _ _ _))
     exact Mem.big (ps := [curE g a len cap, rtE r, rowE 3 1 sv ks.length (ks.map (Value.int .i64))]) h3) ?_
   exact hq_ret (rs := [.cell 6 28, .tmp 7]) (vs := [.agg #[r.nv, r.fv], sv]) rfl ⟨⟨b2, 0, [r.nv, r.fv], rfl, rfl, by kernel_rfl, by kernel_rfl, box_part 1 rfl 0 rfl⟩, rfl, trivial⟩ rfl (fun w hm => ⟨_, bigE [curE g a len cap, rtE r, rowE 3 1 sv ks.length (ks.map (Value.int .i64))], rfl, ⟨r, sv, ks, rfl, rfl, ⟨ornv, orfv, osv⟩, htr⟩, hm.sub (.cons_cons _ (.cons _ (.refl _)))⟩)
 ·
  refine hl_v rfl rfl rfl (rv_ev rfl) ?_
  refine hl_skip rfl rfl rfl ?_
  refine hl_skip rfl rfl rfl ?_
  refine hl_v rfl rfl rfl (rv_ev rfl) ?_
  refine hl_less (sx 0 rfl (sx 1 rfl (sx 2 rfl (sx 4 rfl (sx 6 rfl (sx 7 rfl (sx 8 rfl (sx 9 rfl (sx 10 rfl (sx 11 rfl (sx 32 rfl (sub_nil _)))))))))))) (.refl _) ?_
  refine hl_nil ?_
  refine hq_then ?_
  refine hc_false rfl ?_
  refine hc_exit ?_
  refine hq_then_exit ?_
  refine hq_then_exit ?_
  refine hq_block_exit ?_
  refine hq_then ?_
  refine hc_seq ?_
  refine hc_region ?_
  refine hl_v rfl rfl rfl (rv_loadN (cs := [r.nv, r.fv]) rfl (by kernel_rfl) (by kernel_rfl) rfl rfl (box_part 1 rfl 0 rfl)) ?_
  refine hl_v rfl rfl rfl (rv_ev rfl) ?_
  refine hl_one (i := 2) rfl (fun ho37 => ?_)
  refine hl_one (i := 3) rfl (fun ho38 => ?_)
  refine hl_storeBoxN (i := 4) (off := 0) (us := [r.nv, r.fv]) (l' := (rowE 3 1 sv ks.length (ks.map (Value.int .i64)) :: boxE b5 #[r.nv, r.fv] 28 :: rowE 3 1 r.fv r.fs.length (r.fs.map (Value.int .i64)) :: rowE 3 1 r.nv r.ns.length (r.ns.map (Value.int .i64)) :: boxE b2 #[r.nv, r.fv] 28 :: boxE b1 #[.int .i64 d.W, .int .i64 d.H, .int .i64 d.T, .int .i64 d.R] 25 :: curE g a len cap :: l)) rfl rfl rfl (by kernel_rfl) rfl rfl rfl (all_cons ho38 (all_cons ho37 all_nil)) rfl rfl rfl ?_
  refine hl_v rfl rfl rfl (rv_ev rfl) ?_
  refine hl_less (sx 0 rfl (sx 1 rfl (sx 2 rfl (sx 4 rfl (sx 6 rfl (sx 7 rfl (sx 8 rfl (sx 9 rfl (sx 10 rfl (sx 11 rfl (sx 32 rfl (sub_nil _)))))))))))) (.refl _) ?_
  refine hl_nil ?_
  refine hq_then ?_
  refine hc_ret ?_
  refine hq_one (i := 3) rfl (fun ornv => ?_)
  refine hq_one (i := 2) rfl (fun orfv => ?_)
  refine hq_one (i := 0) rfl (fun osv => ?_)
  refine hq_conv (rowE 3 1 r.nv r.ns.length (r.ns.map (Value.int .i64)) :: rowE 3 1 r.fv r.fs.length (r.fs.map (Value.int .i64)) :: rowE 3 1 sv ks.length (ks.map (Value.int .i64)) :: curE g a len cap :: boxE b2 #[r.nv, r.fv] 28 :: l) (conv_pick (src := [rowE 3 1 sv ks.length (ks.map (Value.int .i64)), boxE b5 #[r.nv, r.fv] 28, rowE 3 1 r.fv r.fs.length (r.fs.map (Value.int .i64)), rowE 3 1 r.nv r.ns.length (r.ns.map (Value.int .i64)), boxE b2 #[r.nv, r.fv] 28, boxE b1 #[.int .i64 d.W, .int .i64 d.H, .int .i64 d.T, .int .i64 d.R] 25, curE g a len cap]) (dst := [rowE 3 1 r.nv r.ns.length (r.ns.map (Value.int .i64)), rowE 3 1 r.fv r.fs.length (r.fs.map (Value.int .i64)), rowE 3 1 sv ks.length (ks.map (Value.int .i64)), curE g a len cap, boxE b2 #[r.nv, r.fv] 28]) (l := l) [3, 2, 0, 6, 4] (by decide) rfl) ?_
  refine hq_conv (bigE [curE g a len cap, rtE r, rowE 3 1 sv ks.length (ks.map (Value.int .i64))] :: boxE b2 #[r.nv, r.fv] 28 :: l) (fun w hm => by
    have h1 : Mem _ ([rowE 3 1 r.nv r.ns.length (r.ns.map (Value.int .i64)), rowE 3 1 r.fv r.fs.length (r.fs.map (Value.int .i64))] ++ (rowE 3 1 sv ks.length (ks.map (Value.int .i64)) :: curE g a len cap :: boxE b2 #[r.nv, r.fv] 28 :: l)) w := hm
    have h2 : Mem _ (rtE r :: rowE 3 1 sv ks.length (ks.map (Value.int .i64)) :: curE g a len cap :: boxE b2 #[r.nv, r.fv] 28 :: l) w := h1.big
    have h3 : Mem _ (curE g a len cap :: rtE r :: rowE 3 1 sv ks.length (ks.map (Value.int .i64)) :: boxE b2 #[r.nv, r.fv] 28 :: l) w := h2.perm ((List.Perm.cons _ (.swap _ _ _)).trans (.swap _ _ _))
    exact Mem.big (ps := [curE g a len cap, rtE r, rowE 3 1 sv ks.length (ks.map (Value.int .i64))]) h3) ?_
  exact hq_ret (rs := [.cell 6 28, .tmp 7]) (vs := [.agg #[r.nv, r.fv], sv]) rfl ⟨⟨b2, 0, [r.nv, r.fv], rfl, rfl, by kernel_rfl, by kernel_rfl, box_part 1 rfl 0 rfl⟩, rfl, trivial⟩ rfl (fun w hm => ⟨_, bigE [curE g a len cap, rtE r, rowE 3 1 sv ks.length (ks.map (Value.int .i64))], rfl, ⟨r, sv, ks, rfl, rfl, ⟨ornv, orfv, osv⟩, htr⟩, hm.sub (.cons_cons _ (.cons _ (.refl _)))⟩)
open Go.RowKit
theorem tok_in {d : Dev} {t : Int} (hd : devB d = true) (h0 : 0 ≤ t) (h1 : t < d.W * d.H) : tOk d t = true := (tOk_iff _ _).2 ⟨hd, h0, by omega⟩
theorem out0 {d : Dev} {t : Int} (hd : devB d = true) (h0 : 0 ≤ t) (h1 : t < d.W * d.H) : outPinI d t 0 = t * perI d + 5 ∧ 0 ≤ outPinI d t 0 ∧ outPinI d t 0 < allI d ∧ outPinI d t 0 % perI d = 5 ∧ outPinI d t 0 / perI d = t := by
  obtain ⟨q1, q2⟩ := per_rng hd
  have h2 := outPins_rng d t
  have e : outPinI d t 0 = t * perI d + 5 := by unfold outPinI; rw [if_pos ⟨tok_in hd h0 h1, by omega, by omega⟩]; omega
  obtain ⟨f1, f2⟩ := xy_of (W := perI d) (x := 5) (y := t) (by omega) (by omega) (by omega)
  have m := per_mul hd h0 (show t ≤ d.W * d.H - 1 by omega)
  have e7 : t * perI d ≤ (d.W * d.H - 1) * perI d := Int.mul_le_mul_of_nonneg_right (by omega) (by omega)
  have e6 : (d.W * d.H - 1) * perI d = allI d - perI d := by rw [Int.sub_mul, Int.one_mul]; rfl
  rw [e]
  exact ⟨rfl, by omega, by omega, f1, f2⟩
theorem opin_ans (d : Dev) (t : Int) (w : World) (hd : devB d = true) (h0 : 0 ≤ t) (h1 : t < d.W * d.H) :
    Calls Try.prog 23 #[.agg #[.int .i64 d.W, .int .i64 d.H, .int .i64 d.T, .int .i64 d.R], .int .i64 t, .int .i64 0] w (Ans w (.int .i64 (outPinI d t 0))) := specOutPin_ans d t 0 w (tok_in hd h0 h1) (by omega) (by omega)
set_option maxHeartbeats 4000000 in
set_option maxRecDepth 100000 in
theorem DrawWalk_ret (a : Option Addr) (len cap : Nat) (z : List Int) (w : World) (hb : BRow .u8 w a len cap z) (hlen : len ≤ 1048576) :
  Calls Try.prog 9 #[.slice a len cap] w (Ret w (fun v' post => ∃ (d : Dev) (s0 : Int) (r : Rt) (sv : Value) (ks : List Int), Drawn d ∧ (∃ t, (0 ≤ t ∧ t < d.W * d.H) ∧ s0 = outPinI d t 0) ∧ v' = .tuple #[.agg #[.int .i64 d.W, .int .i64 d.H, .int .i64 d.T, .int .i64 d.R], .int .i64 s0, sv, r.agg] ∧ post = [rtE r, rowE 3 1 sv ks.length (ks.map (Value.int .i64))] ∧ (r.nv.oneCell' = true ∧ r.fv.oneCell' = true ∧ sv.oneCell' = true) ∧ Tree d s0 r.ns r.fs ks)) := by
 refine calls_hc (N := 35) (args := [.slice a len cap]) Try.func9 rfl rfl ?_
 refine hc_less _ (sx 0 rfl (sub_nil _)) (.refl _) ?_
 refine hc_seq ?_
 refine hc_region ?_
 refine hl_box rfl rfl rfl (rq_alloc (z := .agg #[.int .i64 0, .int .i64 0, .int .i64 0, .int .i64 0]) rfl (by kernel_rfl)) ?_
 intro b1
 refine hl_v rfl rfl rfl (rv_ev rfl) ?_
 refine hl_v rfl rfl rfl (rv_ev rfl) ?_
 refine hl_box rfl rfl rfl (rq_alloc (z := .agg #[.slice none 0 0, .slice none 0 0]) rfl (by kernel_rfl)) ?_
 intro b2
 refine hl_less (sx 0 rfl (sx 2 rfl (sx 3 rfl (sx 4 rfl (sx 5 rfl (sub_nil _)))))) (.refl _) ?_
 refine hl_nil ?_
 refine hq_then ?_
 refine hc_seq ?_
 refine hc_region ?_
 refine hl_v rfl rfl rfl (rv_ev rfl) ?_
 refine hl_q rfl rfl rfl (rq_call (by kernel_rfl) rfl (fun w hm => new_ret (hb.below hm.bel) hlen)) ?_
 intro v3 p4 hR5
 obtain ⟨ghR5, rfl, rfl⟩ := hR5
 refine hl_v rfl rfl rfl (rv_ev rfl) ?_
 refine hl_less (sx 0 rfl (sx 2 rfl (sx 3 rfl (sx 4 rfl (sx 5 rfl (sx 6 rfl (sub_nil _))))))) (.refl _) ?_
 refine hl_nil ?_
 refine hq_then ?_
 refine hc_seq ?_
 refine hc_region ?_
 refine hl_v rfl rfl rfl (rv_ev rfl) ?_
 refine hl_callM (R := (fun u_ p_ => (∃ d : Dev, Drawn d ∧ u_ = .agg #[.int .i64 d.W, .int .i64 d.H, .int .i64 d.T, .int .i64 d.R]) ∧ p_ = curE ghR5 a len cap)) 0 rfl rfl (by kernel_rfl) rfl rfl (fun l' w hm => device_mut hm hb) ?_
 intro v6 p7 hR8
 obtain ⟨⟨d, hdr, rfl⟩, rfl⟩ := hR8
 have hd := hdr.ok
 obtain ⟨dr1, dr2, dr3, dr4, dr5, dr6, -⟩ := id hdr
 have har : 0 ≤ (d.W - 1) * (d.H - 1) ∧ 0 ≤ (5 - d.W) * d.H := ⟨Int.mul_nonneg (by omega) (by omega), Int.mul_nonneg (by omega) (by omega)⟩
 have e1 : (d.W - 1) * (d.H - 1) = d.W * d.H - d.W - d.H + 1 := by rw [Int.sub_mul, Int.mul_sub]; omega
 have e2 : (5 - d.W) * d.H = 5 * d.H - d.W * d.H := by rw [Int.sub_mul]
 rw [e1, e2] at har
 obtain ⟨ra1, ra2⟩ := all_rng hd
 obtain ⟨q1, q2⟩ := per_rng hd
 refine hl_eqL (l' := [curE ghR5 a len cap, boxE b2 #[.slice none 0 0, .slice none 0 0] 28, boxE b1 #[.int .i64 0, .int .i64 0, .int .i64 0, .int .i64 0] 25]) rfl ?_
 refine hl_box rfl rfl rfl (rq_alloc (z := .agg #[.int .i64 0, .int .i64 0, .int .i64 0, .int .i64 0]) rfl (by kernel_rfl)) ?_
 intro b9
 refine hl_storeBoxN (i := 0) (off := 0) (us := [.int .i64 d.W, .int .i64 d.H, .int .i64 d.T, .int .i64 d.R]) (l' := [boxE b9 #[.int .i64 d.W, .int .i64 d.H, .int .i64 d.T, .int .i64 d.R] 25, curE ghR5 a len cap, boxE b2 #[.slice none 0 0, .slice none 0 0] 28, boxE b1 #[.int .i64 0, .int .i64 0, .int .i64 0, .int .i64 0] 25]) rfl rfl rfl (by kernel_rfl) rfl rfl rfl (all_cons rfl (all_cons rfl (all_cons rfl (all_cons rfl all_nil)))) rfl rfl rfl ?_
 refine hl_less (sx 0 rfl (sx 2 rfl (sx 3 rfl (sx 4 rfl (sx 5 rfl (sx 6 rfl (sx 7 rfl (sub_nil _)))))))) (.refl _) ?_
 refine hl_nil ?_
 refine hq_then ?_
 refine hc_seq ?_
 refine hc_conv [curE ghR5 a len cap, boxE b9 #[.int .i64 d.W, .int .i64 d.H, .int .i64 d.T, .int .i64 d.R] 25, boxE b2 #[.slice none 0 0, .slice none 0 0] 28, boxE b1 #[.int .i64 0, .int .i64 0, .int .i64 0, .int .i64 0] 25] (conv_pick (src := [boxE b9 #[.int .i64 d.W, .int .i64 d.H, .int .i64 d.T, .int .i64 d.R] 25, curE ghR5 a len cap, boxE b2 #[.slice none 0 0, .slice none 0 0] 28, boxE b1 #[.int .i64 0, .int .i64 0, .int .i64 0, .int .i64 0] 25]) (dst := [curE ghR5 a len cap, boxE b9 #[.int .i64 d.W, .int .i64 d.H, .int .i64 d.T, .int .i64 d.R] 25, boxE b2 #[.slice none 0 0, .slice none 0 0] 28, boxE b1 #[.int .i64 0, .int .i64 0, .int .i64 0, .int .i64 0] 25]) (l := []) [1, 0, 2, 3] (by decide) rfl) ?_
 refine hc_draw2 (l := [boxE b9 #[.int .i64 d.W, .int .i64 d.H, .int .i64 d.T, .int .i64 d.R] 25, boxE b2 #[.slice none 0 0, .slice none 0 0] 28, boxE b1 #[.int .i64 0, .int .i64 0, .int .i64 0, .int .i64 0] 25]) (by kernel_rfl) 9 [0, 1, 2, 3, 4, 5, 6, 7, 8] (List.take 9 _) (List.drop 9 _) [[], [], [], [2], [], [4], [3, 5], [1, 6], [0, 7]] [15, 16, 17, 18, 19, 20, 21, 22, 23] (fun i_ vs_ v_ p_ => match i_ with | 0 => v_ = .agg #[.int .i64 d.W, .int .i64 d.H, .int .i64 d.T, .int .i64 d.R] ∧ p_ = [] | 1 => v_ = .pointer (some ⟨ghR5, 0, none⟩) ∧ p_ = [] | 2 => v_ = .pointer (some ⟨b9, 0 + 0, none⟩) ∧ p_ = [] | 3 => v_ = .int .i64 d.W ∧ p_ = [] | 4 => v_ = .pointer (some ⟨b9, 0 + 1, none⟩) ∧ p_ = [] | 5 => v_ = .int .i64 d.H ∧ p_ = [] | 6 => v_ = .int .i64 (d.W * d.H) ∧ p_ = [] | 7 => (∃ pm_, p_ = [pm_] ∧ (fun u_ p_ => (∃ x_ : Int, u_ = .int .i64 x_ ∧ 0 ≤ x_ ∧ x_ < d.W * d.H) ∧ p_ = curE ghR5 a len cap) v_ pm_) | 8 => v_ = .int .i64 (outPinI d (intOf_o (List.getD vs_ 1 undef)) 0) ∧ p_ = [] | _ => True) [[], [], [], [2], [], [4], [3, 5], [1, 6], [0, 7]] [none, none, none, none, none, none, none, some 10, none] [curE ghR5 a len cap] [0, 1, 2, 3, 4, 5, 6, 7, 8] 10 (List.take_append_drop 9 _).symm (by kernel_rfl) (by kernel_rfl) (by kernel_rfl) rfl rfl ?_ ?_
 ·
  refine ⟨?_, ?_, ?_, ?_, ?_, ?_, ?_, ?_, ?_, trivial⟩
  ·
   intro vf pf hmu hR
   refine Or.inl ⟨rfl, ?_⟩
   show RunQ _ _ _ (([] : List Nat).flatMap pf ++ _) (envOf _ vf [] ++ _) _ _
   refine rq_less (sx 7 rfl (sub_nil _)) (List.sublist_append_right _ _) ?_
   exact rq_v (rv_loadN (cs := [.int .i64 d.W, .int .i64 d.H, .int .i64 d.T, .int .i64 d.R]) rfl (by kernel_rfl) (by kernel_rfl) rfl rfl (box_part 0 rfl 0 rfl))
  ·
   intro vf pf hmu hR
   refine Or.inl ⟨rfl, ?_⟩
   show RunQ _ _ _ (([] : List Nat).flatMap pf ++ _) (envOf _ vf [] ++ _) _ _
   refine rq_less (sx 6 rfl (sub_nil _)) (List.sublist_append_right _ _) ?_
   exact rq_v (rv_ev rfl)
  ·
   intro vf pf hmu hR
   refine Or.inl ⟨rfl, ?_⟩
   show RunQ _ _ _ (([] : List Nat).flatMap pf ++ _) (envOf _ vf [] ++ _) _ _
   refine rq_less (sx 7 rfl (sub_nil _)) (List.sublist_append_right _ _) ?_
   exact rq_v (rv_field (k0 := 0) rfl (by kernel_rfl) rfl)
  ·
   intro vf pf hmu hR
   have e2 : (vf 2) = .pointer (some ⟨b9, 0 + 0, none⟩) ∧ (pf 2) = [] := hR 2 (by decide)
   refine Or.inl ⟨rfl, ?_⟩
   show RunQ _ _ _ (([2] : List Nat).flatMap pf ++ _) (envOf _ vf [2] ++ _) _ _
   refine rq_less (sx 17 (congrArg some e2.1) (sub_nil _)) (List.sublist_append_right _ _) ?_
   exact rq_v (rv_load rfl (by kernel_rfl) rfl (box_cell 0 rfl rfl))
  ·
   intro vf pf hmu hR
   refine Or.inl ⟨rfl, ?_⟩
   show RunQ _ _ _ (([] : List Nat).flatMap pf ++ _) (envOf _ vf [] ++ _) _ _
   refine rq_less (sx 7 rfl (sub_nil _)) (List.sublist_append_right _ _) ?_
   exact rq_v (rv_field (k0 := 1) rfl (by kernel_rfl) rfl)
  ·
   intro vf pf hmu hR
   have e4 : (vf 4) = .pointer (some ⟨b9, 0 + 1, none⟩) ∧ (pf 4) = [] := hR 4 (by decide)
   refine Or.inl ⟨rfl, ?_⟩
   show RunQ _ _ _ (([4] : List Nat).flatMap pf ++ _) (envOf _ vf [4] ++ _) _ _
   refine rq_less (sx 19 (congrArg some e4.1) (sub_nil _)) (List.sublist_append_right _ _) ?_
   exact rq_v (rv_load rfl (by kernel_rfl) rfl (box_cell 0 rfl rfl))
  ·
   intro vf pf hmu hR
   have e3 : (vf 3) = .int .i64 d.W ∧ (pf 3) = [] := hR 3 (by decide)
   have e5 : (vf 5) = .int .i64 d.H ∧ (pf 5) = [] := hR 5 (by decide)
   refine Or.inl ⟨rfl, ?_⟩
   show RunQ _ _ _ (([3, 5] : List Nat).flatMap pf ++ _) (envOf _ vf [3, 5] ++ _) _ _
   refine rq_less (sx 18 (congrArg some e3.1) (sx 20 (congrArg some e5.1) (sub_nil _))) (List.sublist_append_right _ _) ?_
   exact rq_v (rv_mul rfl rfl rfl (by constructor <;> omega))
  ·
   intro vf pf hmu hR
   have e1 : (vf 1) = .pointer (some ⟨ghR5, 0, none⟩) ∧ (pf 1) = [] := hR 1 (by decide)
   have e6 : (vf 6) = .int .i64 (d.W * d.H) ∧ (pf 6) = [] := hR 6 (by decide)
   refine Or.inl ⟨rfl, ?_⟩
   show RunM _ _ _ (pf 10) (([1, 6] : List Nat).flatMap pf ++ _) (envOf _ vf [1, 6] ++ _) _ _
   rw [hmu]
   refine rm_less (X' := [boxE b9 #[.int .i64 d.W, .int .i64 d.H, .int .i64 d.T, .int .i64 d.R] 25, boxE b2 #[.slice none 0 0, .slice none 0 0] 28, boxE b1 #[.int .i64 0, .int .i64 0, .int .i64 0, .int .i64 0] 25]) (sx 16 (congrArg some e1.1) (sx 21 (congrArg some e6.1) (sub_nil _))) (by first | (simp only [e1.2, e6.2, List.flatMap_cons, List.flatMap_nil, List.append_nil, List.nil_append, List.cons_append]; exact List.Sublist.refl _) | simp [e1.2, e6.2]) ?_
   exact rq_callM (R := (fun u_ p_ => (∃ x_ : Int, u_ = .int .i64 x_ ∧ 0 ≤ x_ ∧ x_ < d.W * d.H) ∧ p_ = curE ghR5 a len cap)) (by kernel_rfl) rfl (fun L w hX hm => belowN_mut ghR5 a len cap z (d.W * d.H) _ _ _ hm hb (by constructor <;> omega))
  ·
   intro vf pf hmu hR
   have e0 : (vf 0) = .agg #[.int .i64 d.W, .int .i64 d.H, .int .i64 d.T, .int .i64 d.R] ∧ (pf 0) = [] := hR 0 (by decide)
   have e7 : (∃ pm_, (pf 7) = [pm_] ∧ (fun u_ p_ => (∃ x_ : Int, u_ = .int .i64 x_ ∧ 0 ≤ x_ ∧ x_ < d.W * d.H) ∧ p_ = curE ghR5 a len cap) (vf 7) pm_) := hR 7 (by decide)
   obtain ⟨p11, p7, hR12⟩ := e7
   obtain ⟨v10, v7⟩ : ∃ x, vf 7 = x := ⟨_, rfl⟩
   rw [v7] at hR12
   obtain ⟨⟨xhR12, rfl, xhR120, xhR121⟩, rfl⟩ := hR12
   refine Or.inl ⟨rfl, ?_⟩
   show RunQ _ _ _ (([0, 7] : List Nat).flatMap pf ++ _) (envOf _ vf [0, 7] ++ _) _ _
   refine rq_less (l' := [curE ghR5 a len cap, boxE b9 #[.int .i64 d.W, .int .i64 d.H, .int .i64 d.T, .int .i64 d.R] 25, boxE b2 #[.slice none 0 0, .slice none 0 0] 28, boxE b1 #[.int .i64 0, .int .i64 0, .int .i64 0, .int .i64 0] 25]) (sx 15 (congrArg some e0.1) (sx 22 (congrArg some v7) (sub_nil _))) (by first | (simp only [p7, v7, e0.2, List.flatMap_cons, List.flatMap_nil, List.append_nil, List.nil_append, List.cons_append]; exact List.Sublist.refl _) | simp [p7, v7, e0.2]) ?_
   exact rq_mono ((rq_call (by kernel_rfl) rfl (fun w hm => ret_ans (opin_ans d xhR12 w hd (by omega) (by omega))))) (fun _ _ h => ⟨h.1.trans (by show _ = (.int .i64 (outPinI d (intOf_o (vf 7)) 0) : Value); first | (rw [v7]; done) | (rw [v7]; rfl)), h.2⟩)
 ·
  intro vf pf hmu hR
  have e7 : (∃ pm_, (pf 7) = [pm_] ∧ (fun u_ p_ => (∃ x_ : Int, u_ = .int .i64 x_ ∧ 0 ≤ x_ ∧ x_ < d.W * d.H) ∧ p_ = curE ghR5 a len cap) (vf 7) pm_) := hR 7 (by decide)
  obtain ⟨p11, p7, hR12⟩ := e7
  obtain ⟨v10, v7⟩ : ∃ x, vf 7 = x := ⟨_, rfl⟩
  rw [v7] at hR12
  obtain ⟨⟨xhR12, rfl, xhR120, xhR121⟩, rfl⟩ := hR12
  have e8 : (vf 8) = .int .i64 (outPinI d (intOf_o (vf 7)) 0) ∧ (pf 8) = [] := hR 8 (by decide)
  rw [v7] at e8
  have q0 : (vf 0) = .agg #[.int .i64 d.W, .int .i64 d.H, .int .i64 d.T, .int .i64 d.R] ∧ (pf 0) = [] := hR 0 (by decide)
  have q1 : (vf 1) = .pointer (some ⟨ghR5, 0, none⟩) ∧ (pf 1) = [] := hR 1 (by decide)
  have q2 : (vf 2) = .pointer (some ⟨b9, 0 + 0, none⟩) ∧ (pf 2) = [] := hR 2 (by decide)
  have q3 : (vf 3) = .int .i64 d.W ∧ (pf 3) = [] := hR 3 (by decide)
  have q4 : (vf 4) = .pointer (some ⟨b9, 0 + 1, none⟩) ∧ (pf 4) = [] := hR 4 (by decide)
  have q5 : (vf 5) = .int .i64 d.H ∧ (pf 5) = [] := hR 5 (by decide)
  have q6 : (vf 6) = .int .i64 (d.W * d.H) ∧ (pf 6) = [] := hR 6 (by decide)
  have q8 : (vf 8) = .int .i64 (outPinI d (intOf_o (vf 7)) 0) ∧ (pf 8) = [] := hR 8 (by decide)
  refine hl_less (l' := [curE ghR5 a len cap, boxE b9 #[.int .i64 d.W, .int .i64 d.H, .int .i64 d.T, .int .i64 d.R] 25, boxE b2 #[.slice none 0 0, .slice none 0 0] 28, boxE b1 #[.int .i64 0, .int .i64 0, .int .i64 0, .int .i64 0] 25]) (sx 0 rfl (sx 2 rfl (sx 3 rfl (sx 4 rfl (sx 5 rfl (sx 6 rfl (sx 7 rfl (sx 23 (congrArg some e8.1) (sub_nil _))))))))) (by first | (simp only [p7, v7, q0.2, q1.2, q2.2, q3.2, q4.2, q5.2, q6.2, q8.2, List.flatMap_cons, List.flatMap_nil, List.append_nil, List.nil_append, List.cons_append]; exact List.Sublist.refl _) | simp [p7, v7, q0.2, q1.2, q2.2, q3.2, q4.2, q5.2, q6.2, q8.2]) ?_
  simp only [List.drop_succ_cons, List.drop_zero]
  refine hl_v rfl rfl rfl (rv_ev rfl) ?_
  refine hl_less (sx 0 rfl (sx 2 rfl (sx 3 rfl (sx 4 rfl (sx 5 rfl (sx 6 rfl (sx 7 rfl (sx 8 rfl (sub_nil _))))))))) (.refl _) ?_
  refine hl_nil ?_
  refine hq_then ?_
  refine hc_seq ?_
  refine hc_region ?_
  obtain ⟨hs1, hs2, hs3, hs4, hs5⟩ := out0 hd (t := xhR12) (by omega) (by omega)
  refine hl_v rfl rfl rfl (rv_ev rfl) ?_
  refine hl_v rfl rfl rfl (rv_loadN (cs := [.int .i64 d.W, .int .i64 d.H, .int .i64 d.T, .int .i64 d.R]) rfl (by kernel_rfl) (by kernel_rfl) rfl rfl (box_part 1 rfl 0 rfl)) ?_
  refine hl_v rfl rfl rfl (rv_ev rfl) ?_
  refine hl_callM (R := (fun u_ p_ => ∃ (r : Rt) (sv : Value) (ks : List Int), u_ = .tuple #[r.agg, sv] ∧ p_ = bigE [curE ghR5 a len cap, rtE r, rowE 3 1 sv ks.length (ks.map (Value.int .i64))] ∧ (r.nv.oneCell' = true ∧ r.fv.oneCell' = true ∧ sv.oneCell' = true) ∧ Tree d (outPinI d xhR12 0) r.ns r.fs ks)) 0 rfl rfl (by kernel_rfl) rfl rfl (fun l' w hm => l32Walk_mut ghR5 a len cap z d (outPinI d xhR12 0) _ _ _ hm hb hd ⟨by omega, by omega⟩) ?_
  intro v13 p14 hR15
  obtain ⟨r, sv, ks, rfl, rfl, ⟨o1r, o2r, o3r⟩, htr⟩ := hR15
  refine hl_eqL (l' := [bigE [curE ghR5 a len cap, rtE r, rowE 3 1 sv ks.length (ks.map (Value.int .i64))], boxE b9 #[.int .i64 d.W, .int .i64 d.H, .int .i64 d.T, .int .i64 d.R] 25, boxE b2 #[.slice none 0 0, .slice none 0 0] 28, boxE b1 #[.int .i64 0, .int .i64 0, .int .i64 0, .int .i64 0] 25]) rfl ?_
  refine hl_v rfl rfl rfl (rv_ev rfl) ?_
  refine hl_v rfl rfl rfl (rv_ev rfl) ?_
  refine hl_v rfl rfl rfl (rv_ev rfl) ?_
  refine hl_box rfl rfl rfl (rq_alloc (z := .agg #[.slice none 0 0, .slice none 0 0]) rfl (by kernel_rfl)) ?_
  intro b16
  refine hl_storeBoxN (i := 0) (off := 0) (us := [r.nv, r.fv]) (l' := [boxE b16 #[r.nv, r.fv] 28, bigE [curE ghR5 a len cap, rtE r, rowE 3 1 sv ks.length (ks.map (Value.int .i64))], boxE b9 #[.int .i64 d.W, .int .i64 d.H, .int .i64 d.T, .int .i64 d.R] 25, boxE b2 #[.slice none 0 0, .slice none 0 0] 28, boxE b1 #[.int .i64 0, .int .i64 0, .int .i64 0, .int .i64 0] 25]) rfl rfl rfl (by kernel_rfl) rfl rfl rfl (all_cons o1r (all_cons o2r all_nil)) rfl rfl rfl ?_
  refine hl_v rfl rfl rfl (rv_ev rfl) ?_
  refine hl_less (sx 0 rfl (sx 2 rfl (sx 3 rfl (sx 4 rfl (sx 5 rfl (sx 6 rfl (sx 7 rfl (sx 8 rfl (sx 9 rfl (sx 10 rfl (sub_nil _))))))))))) (.refl _) ?_
  refine hl_nil ?_
  refine hq_then ?_
  refine hc_seq ?_
  refine hc_less _ (sx 0 rfl (sx 2 rfl (sx 5 rfl (sx 6 rfl (sx 7 rfl (sx 8 rfl (sx 9 rfl (sx 10 rfl (sub_nil _))))))))) (.refl _) ?_
  refine hc_conv [boxE b1 #[.int .i64 0, .int .i64 0, .int .i64 0, .int .i64 0] 25, boxE b16 #[r.nv, r.fv] 28, bigE [curE ghR5 a len cap, rtE r, rowE 3 1 sv ks.length (ks.map (Value.int .i64))], boxE b9 #[.int .i64 d.W, .int .i64 d.H, .int .i64 d.T, .int .i64 d.R] 25, boxE b2 #[.slice none 0 0, .slice none 0 0] 28] (conv_pick (src := [boxE b16 #[r.nv, r.fv] 28, bigE [curE ghR5 a len cap, rtE r, rowE 3 1 sv ks.length (ks.map (Value.int .i64))], boxE b9 #[.int .i64 d.W, .int .i64 d.H, .int .i64 d.T, .int .i64 d.R] 25, boxE b2 #[.slice none 0 0, .slice none 0 0] 28, boxE b1 #[.int .i64 0, .int .i64 0, .int .i64 0, .int .i64 0] 25]) (dst := [boxE b1 #[.int .i64 0, .int .i64 0, .int .i64 0, .int .i64 0] 25, boxE b16 #[r.nv, r.fv] 28, bigE [curE ghR5 a len cap, rtE r, rowE 3 1 sv ks.length (ks.map (Value.int .i64))], boxE b9 #[.int .i64 d.W, .int .i64 d.H, .int .i64 d.T, .int .i64 d.R] 25, boxE b2 #[.slice none 0 0, .slice none 0 0] 28]) (l := []) [4, 0, 1, 2, 3] (by decide) rfl) ?_
  refine hc_draw3 (l := [boxE b16 #[r.nv, r.fv] 28, bigE [curE ghR5 a len cap, rtE r, rowE 3 1 sv ks.length (ks.map (Value.int .i64))], boxE b9 #[.int .i64 d.W, .int .i64 d.H, .int .i64 d.T, .int .i64 d.R] 25, boxE b2 #[.slice none 0 0, .slice none 0 0] 28]) (by kernel_rfl) 7 [0, 1, 2, 3, 4, 5, 6] (List.take 7 _) (List.drop 7 _) [[], [], [], [], [0], [1], [2]] [some 31, some 32, some 33, some 34, none, some 3, some 4] (fun i_ vs_ v_ p_ => match i_ with | 0 => v_ = .agg #[.int .i64 d.W, .int .i64 d.H, .int .i64 d.T, .int .i64 d.R] ∧ p_ = [] | 1 => v_ = .int .i64 (outPinI d xhR12 0) ∧ p_ = [] | 2 => v_ = sv ∧ p_ = [] | 3 => v_ = .agg #[r.nv, r.fv] ∧ p_ = [] | 4 => p_ = [boxE b1 #[.int .i64 d.W, .int .i64 d.H, .int .i64 d.T, .int .i64 d.R] 25] | 5 => v_ = .int .i64 (outPinI d xhR12 0) ∧ p_ = [] | 6 => v_ = sv ∧ p_ = [] | _ => True) [[], [], [], [], [0], [1], [2]] [none, none, none, none, some 8, none, none] [[boxE b1 #[.int .i64 0, .int .i64 0, .int .i64 0, .int .i64 0] 25]] [0, 1, 2, 3, 4, 5, 6] 8 (List.take_append_drop 7 _).symm (by kernel_rfl) (by kernel_rfl) (by kernel_rfl) rfl rfl ?_ ?_
  ·
   refine ⟨?_, ?_, ?_, ?_, ?_, ?_, ?_, trivial⟩
   ·
    intro vf pf hmu hR
    refine Or.inl ⟨rfl, ?_⟩
    show RunQ _ _ _ (([] : List Nat).flatMap pf ++ _) (envOf3 _ vf [] ++ _) _ _
    refine rq_less (sx 7 rfl (sub_nil _)) (List.sublist_append_right _ _) ?_
    exact rq_v (rv_loadN (cs := [.int .i64 d.W, .int .i64 d.H, .int .i64 d.T, .int .i64 d.R]) rfl (by kernel_rfl) (by kernel_rfl) rfl rfl (box_part 2 rfl 0 rfl))
   ·
    intro vf pf hmu hR
    refine Or.inl ⟨rfl, ?_⟩
    show RunQ _ _ _ (([] : List Nat).flatMap pf ++ _) (envOf3 _ vf [] ++ _) _ _
    refine rq_less (sx 8 rfl (sub_nil _)) (List.sublist_append_right _ _) ?_
    exact rq_v (rv_ev rfl)
   ·
    intro vf pf hmu hR
    refine Or.inl ⟨rfl, ?_⟩
    show RunQ _ _ _ (([] : List Nat).flatMap pf ++ _) (envOf3 _ vf [] ++ _) _ _
    refine rq_less (sx 10 rfl (sub_nil _)) (List.sublist_append_right _ _) ?_
    exact rq_v (rv_ev rfl)
   ·
    intro vf pf hmu hR
    refine Or.inl ⟨rfl, ?_⟩
    show RunQ _ _ _ (([] : List Nat).flatMap pf ++ _) (envOf3 _ vf [] ++ _) _ _
    refine rq_less (sx 9 rfl (sub_nil _)) (List.sublist_append_right _ _) ?_
    exact rq_v (rv_loadN (cs := [r.nv, r.fv]) rfl (by kernel_rfl) (by kernel_rfl) rfl rfl (box_part 0 rfl 0 rfl))
   ·
    intro vf pf hmu hR
    have e0 : (vf 0) = .agg #[.int .i64 d.W, .int .i64 d.H, .int .i64 d.T, .int .i64 d.R] ∧ (pf 0) = [] := hR 0 (by decide)
    refine Or.inl ⟨rfl, ?_⟩
    show RunM _ _ _ (pf 8) (([0] : List Nat).flatMap pf ++ _) (envOf3 _ vf [0] ++ _) _ _
    have hmu0 : pf 8 = [boxE b1 #[.int .i64 0, .int .i64 0, .int .i64 0, .int .i64 0] 25] := hmu 0 (show 0 < 1 by omega)
    rw [hmu0]
    refine rm_less (X' := [boxE b16 #[r.nv, r.fv] 28, bigE [curE ghR5 a len cap, rtE r, rowE 3 1 sv ks.length (ks.map (Value.int .i64))], boxE b9 #[.int .i64 d.W, .int .i64 d.H, .int .i64 d.T, .int .i64 d.R] 25, boxE b2 #[.slice none 0 0, .slice none 0 0] 28]) (sx 2 rfl (sx 31 (congrArg some e0.1) (sub_nil _))) (by first | (simp only [e0.2, List.flatMap_cons, List.flatMap_nil, List.append_nil, List.nil_append, List.cons_append]; exact List.Sublist.refl _) | simp [e0.2]) ?_
    exact rm_mono (rm_storeBoxN (us := [.int .i64 d.W, .int .i64 d.H, .int .i64 d.T, .int .i64 d.R]) (off := 0) 0 rfl rfl (by kernel_rfl) rfl rfl rfl (all_cons rfl (all_cons rfl (all_cons rfl (all_cons rfl all_nil)))) rfl rfl) (fun v_ p_ h => by show p_ = [boxE b1 #[.int .i64 d.W, .int .i64 d.H, .int .i64 d.T, .int .i64 d.R] 25]; exact h)
   ·
    intro vf pf hmu hR
    have e1 : (vf 1) = .int .i64 (outPinI d xhR12 0) ∧ (pf 1) = [] := hR 1 (by decide)
    refine Or.inl ⟨rfl, ?_⟩
    show RunQ _ _ _ (([1] : List Nat).flatMap pf ++ _) (envOf3 _ vf [1] ++ _) _ _
    refine rq_less (sx 32 (congrArg some e1.1) (sub_nil _)) (List.sublist_append_right _ _) ?_
    exact rq_v (rv_ev rfl)
   ·
    intro vf pf hmu hR
    have e2 : (vf 2) = sv ∧ (pf 2) = [] := hR 2 (by decide)
    refine Or.inl ⟨rfl, ?_⟩
    show RunQ _ _ _ (([2] : List Nat).flatMap pf ++ _) (envOf3 _ vf [2] ++ _) _ _
    refine rq_less (sx 33 (congrArg some e2.1) (sub_nil _)) (List.sublist_append_right _ _) ?_
    exact rq_v (rv_ev rfl)
  ·
   intro vf pf hmu hR
   have e3 : (vf 3) = .agg #[r.nv, r.fv] ∧ (pf 3) = [] := hR 3 (by decide)
   have e4 : (pf 4) = [boxE b1 #[.int .i64 d.W, .int .i64 d.H, .int .i64 d.T, .int .i64 d.R] 25] := hR 4 (by decide)
   have p4 := e4
   have e5 : (vf 5) = .int .i64 (outPinI d xhR12 0) ∧ (pf 5) = [] := hR 5 (by decide)
   have e6 : (vf 6) = sv ∧ (pf 6) = [] := hR 6 (by decide)
   have q0 : (vf 0) = .agg #[.int .i64 d.W, .int .i64 d.H, .int .i64 d.T, .int .i64 d.R] ∧ (pf 0) = [] := hR 0 (by decide)
   have q1 : (vf 1) = .int .i64 (outPinI d xhR12 0) ∧ (pf 1) = [] := hR 1 (by decide)
   have q2 : (vf 2) = sv ∧ (pf 2) = [] := hR 2 (by decide)
   have q3 : (vf 3) = .agg #[r.nv, r.fv] ∧ (pf 3) = [] := hR 3 (by decide)
   have q5 : (vf 5) = .int .i64 (outPinI d xhR12 0) ∧ (pf 5) = [] := hR 5 (by decide)
   have q6 : (vf 6) = sv ∧ (pf 6) = [] := hR 6 (by decide)
   refine hl_less (l' := [boxE b1 #[.int .i64 d.W, .int .i64 d.H, .int .i64 d.T, .int .i64 d.R] 25, boxE b16 #[r.nv, r.fv] 28, bigE [curE ghR5 a len cap, rtE r, rowE 3 1 sv ks.length (ks.map (Value.int .i64))], boxE b9 #[.int .i64 d.W, .int .i64 d.H, .int .i64 d.T, .int .i64 d.R] 25, boxE b2 #[.slice none 0 0, .slice none 0 0] 28]) (sx 0 rfl (sx 2 rfl (sx 3 (congrArg some e5.1) (sx 4 (congrArg some e6.1) (sx 5 rfl (sx 6 rfl (sx 7 rfl (sx 8 rfl (sx 9 rfl (sx 10 rfl (sx 34 (congrArg some e3.1) (sub_nil _)))))))))))) (by first | (simp only [p4, q0.2, q1.2, q2.2, q3.2, q5.2, q6.2, List.flatMap_cons, List.flatMap_nil, List.append_nil, List.nil_append, List.cons_append]; exact List.Sublist.refl _) | simp [p4, q0.2, q1.2, q2.2, q3.2, q5.2, q6.2]) ?_
   simp only [List.drop_succ_cons, List.drop_zero]
   refine hl_storeBoxN (i := 4) (off := 0) (us := [r.nv, r.fv]) (l' := [boxE b1 #[.int .i64 d.W, .int .i64 d.H, .int .i64 d.T, .int .i64 d.R] 25, boxE b16 #[r.nv, r.fv] 28, bigE [curE ghR5 a len cap, rtE r, rowE 3 1 sv ks.length (ks.map (Value.int .i64))], boxE b9 #[.int .i64 d.W, .int .i64 d.H, .int .i64 d.T, .int .i64 d.R] 25, boxE b2 #[r.nv, r.fv] 28]) rfl rfl rfl (by kernel_rfl) rfl rfl rfl (all_cons o1r (all_cons o2r all_nil)) rfl rfl rfl ?_
   refine hl_less (sx 0 rfl (sx 2 rfl (sx 3 rfl (sx 4 rfl (sx 5 rfl (sx 6 rfl (sx 7 rfl (sx 8 rfl (sx 9 rfl (sx 10 rfl (sub_nil _))))))))))) (.refl _) ?_
   refine hl_nil ?_
   refine hq_then ?_
   refine hc_ret ?_
   refine hq_conv [bigE [curE ghR5 a len cap, rtE r, rowE 3 1 sv ks.length (ks.map (Value.int .i64))], boxE b1 #[.int .i64 d.W, .int .i64 d.H, .int .i64 d.T, .int .i64 d.R] 25, boxE b16 #[r.nv, r.fv] 28, boxE b9 #[.int .i64 d.W, .int .i64 d.H, .int .i64 d.T, .int .i64 d.R] 25, boxE b2 #[r.nv, r.fv] 28] (conv_pick (src := [boxE b1 #[.int .i64 d.W, .int .i64 d.H, .int .i64 d.T, .int .i64 d.R] 25, boxE b16 #[r.nv, r.fv] 28, bigE [curE ghR5 a len cap, rtE r, rowE 3 1 sv ks.length (ks.map (Value.int .i64))], boxE b9 #[.int .i64 d.W, .int .i64 d.H, .int .i64 d.T, .int .i64 d.R] 25, boxE b2 #[r.nv, r.fv] 28]) (dst := [bigE [curE ghR5 a len cap, rtE r, rowE 3 1 sv ks.length (ks.map (Value.int .i64))], boxE b1 #[.int .i64 d.W, .int .i64 d.H, .int .i64 d.T, .int .i64 d.R] 25, boxE b16 #[r.nv, r.fv] 28, boxE b9 #[.int .i64 d.W, .int .i64 d.H, .int .i64 d.T, .int .i64 d.R] 25, boxE b2 #[r.nv, r.fv] 28]) (l := []) [2, 0, 1, 3, 4] (by decide) rfl) ?_
   refine hq_conv [curE ghR5 a len cap, rtE r, rowE 3 1 sv ks.length (ks.map (Value.int .i64)), boxE b1 #[.int .i64 d.W, .int .i64 d.H, .int .i64 d.T, .int .i64 d.R] 25, boxE b16 #[r.nv, r.fv] 28, boxE b9 #[.int .i64 d.W, .int .i64 d.H, .int .i64 d.T, .int .i64 d.R] 25, boxE b2 #[r.nv, r.fv] 28] conv_unbig ?_
   exact hq_retM (rs := [.cell 2 25, .tmp 3, .tmp 4, .cell 5 28]) (vs := [.agg #[.int .i64 d.W, .int .i64 d.H, .int .i64 d.T, .int .i64 d.R], .int .i64 (outPinI d xhR12 0), sv, .agg #[r.nv, r.fv]]) (post := [rtE r, rowE 3 1 sv ks.length (ks.map (Value.int .i64))]) rfl ⟨⟨b1, 0, [.int .i64 d.W, .int .i64 d.H, .int .i64 d.T, .int .i64 d.R], rfl, rfl, by kernel_rfl, by kernel_rfl, box_part 3 rfl 0 rfl⟩, rfl, rfl, ⟨b2, 0, [r.nv, r.fv], rfl, rfl, by kernel_rfl, by kernel_rfl, box_part 6 rfl 0 rfl⟩, trivial⟩ rfl ((.cons _ (.cons_cons _ (.cons_cons _ (.cons _ (.cons _ (.cons _ (.cons _ .slnil)))))))) ⟨d, outPinI d xhR12 0, r, sv, ks, hdr, ⟨_, ⟨by omega, by omega⟩, rfl⟩, rfl, rfl, ⟨o1r, o2r, o3r⟩, htr⟩
theorem hasB_mem {xs : List Int} {x : Int} : hasB xs x = true ↔ x ∈ xs := by unfold hasB; exact List.contains_iff_mem
theorem getD_inX {l : List Int} {k : Nat} (h : k < l.length) : l.getD k 0 ∈ l := by
  rw [List.getD_eq_getElem?_getD, List.getElem?_eq_getElem h]; exact List.getElem_mem h
theorem mem_getD {l : List Int} {x : Int} (h : x ∈ l) : ∃ k, k < l.length ∧ l.getD k 0 = x := by
  obtain ⟨k, hk, rfl⟩ := List.mem_iff_getElem.1 h
  exact ⟨k, hk, by rw [List.getD_eq_getElem?_getD, List.getElem?_eq_getElem hk]; rfl⟩
theorem gl_o {l m : List Int} {k : Nat} (h : k < l.length) : (l ++ m).getD k 0 = l.getD k 0 := by
  rw [List.getD_eq_getElem?_getD, List.getElem?_append_left h, ← List.getD_eq_getElem?_getD]
theorem gr {l m : List Int} {k : Nat} (h : l.length ≤ k) : (l ++ m).getD k 0 = m.getD (k - l.length) 0 := by
  rw [List.getD_eq_getElem?_getD, List.getElem?_append_right h, ← List.getD_eq_getElem?_getD]
theorem node_out {d : Dev} {t : Int} (hd : devB d = true) (h0 : 0 ≤ t) (h1 : t < d.W * d.H) : nodeOkI d (outPinI d t 0) = true := by
  obtain ⟨e1, e2, e3, e4, e5⟩ := out0 hd h0 h1
  have h2 := outPins_rng d t
  rw [nodeOk_in hd (inR_true (by omega) (by omega)), e4, e5, nodeB_out (by omega) (by omega)]
  exact decide_eq_true (by omega)
structure RtOk (d : Dev) (s0 : Int) (ns fs ks : List Int) : Prop where
  tr : Tree d s0 ns fs ks
  ok : nodeOkI d s0 = true
  out : s0 % perI d = 5
theorem RtOk.node {d : Dev} {s0 : Int} {ns fs ks : List Int} (h : RtOk d s0 ns fs ks) {k : Nat} (hk : k < ns.length) : nodeOkI d (ns.getD k 0) = true := by
  by_cases h0 : k = 0
  · rw [h0, h.tr.root]; exact h.ok
  · have h1 := (h.tr.step k (by omega) hk).2.2
    apply Decidable.byContradiction
    intro hc
    rw [src_no d _ hc] at h1
    exact absurd h1 (by simp [hasB])
theorem Tree.cons {d : Dev} {s0 : Int} {ns fs ks : List Int} (h : Tree d s0 ns fs ks) : ns = s0 :: ns.drop 1 := by
  have h0 := h.l0
  have hr := h.root
  cases ns with
  | nil => simp at h0
  | cons a t => have : a = s0 := by simpa using hr
                subst this; rfl
theorem RtOk.inpin {d : Dev} {s0 : Int} {ns fs ks : List Int} (h : RtOk d s0 ns fs ks) {x : Int} : x ∈ ks ↔ x ∈ ns ∧ x % perI d < 5 := by
  rw [h.tr.sinks, List.mem_filter, decide_eq_true_eq]
  constructor
  · rintro ⟨h1, h2⟩; exact ⟨List.mem_of_mem_drop h1, h2⟩
  · rintro ⟨h1, h2⟩
    refine ⟨?_, h2⟩
    rw [h.tr.cons] at h1
    rcases List.mem_cons.1 h1 with h1 | h1
    · rw [h1, h.out] at h2; omega
    · exact h1
theorem RtOk.nd {d : Dev} {s0 : Int} {ns fs ks : List Int} (h : RtOk d s0 ns fs ks) : ks.Nodup := by
  rw [h.tr.sinks]; exact (h.tr.nd.sublist (List.drop_sublist _ _)).filter _
/-- what RouteOk answers for a tree -/
def okR (d : Dev) (ns qs : List Int) : Bool := (ns.all fun x => !(decide (x % perI d < 5)) || hasB qs x) && qs.all (fun x => hasB ns x)
theorem okR_yes {d : Dev} {ns qs : List Int} (h1 : ∀ k, k < ns.length → ns.getD k 0 % perI d < 5 → hasB qs (ns.getD k 0) = true) (h2 : ∀ k, k < qs.length → hasB ns (qs.getD k 0) = true) : okR d ns qs = true := by
  unfold okR
  rw [Bool.and_eq_true, List.all_eq_true, List.all_eq_true]
  refine ⟨fun x hx => ?_, fun x hx => ?_⟩
  · obtain ⟨k, hk, rfl⟩ := mem_getD hx
    by_cases hc : ns.getD k 0 % perI d < 5
    · rw [h1 k hk hc]; simp
    · rw [decide_eq_false hc]; rfl
  · obtain ⟨k, hk, rfl⟩ := mem_getD hx
    exact h2 k hk
theorem okR_in {d : Dev} {ns qs : List Int} {k : Nat} (hk : k < ns.length) (h1 : ns.getD k 0 % perI d < 5) (h2 : hasB qs (ns.getD k 0) = false) : okR d ns qs = false := by
  rw [Bool.eq_false_iff]
  intro hc
  unfold okR at hc
  rw [Bool.and_eq_true, List.all_eq_true] at hc
  have := hc.1 _ (getD_inX hk)
  rw [decide_eq_true h1, h2] at this
  exact absurd this (by decide)
theorem okR_out {d : Dev} {ns qs : List Int} {k : Nat} (hk : k < qs.length) (h2 : hasB ns (qs.getD k 0) = false) : okR d ns qs = false := by
  rw [Bool.eq_false_iff]
  intro hc
  unfold okR at hc
  rw [Bool.and_eq_true, List.all_eq_true, List.all_eq_true] at hc
  have := hc.2 _ (getD_inX hk)
  rw [h2] at this
  exact absurd this (by decide)
theorem filt_part {α : Type} (p : α → Bool) : ∀ l : List α, (l.filter p).length + (l.filter (fun x => !(p x))).length = l.length
  | [] => rfl
  | a :: l => by
    have ih := filt_part p l
    cases h : p a <;> simp [List.filter_cons, h] <;> omega
/-- wires among the first -/
def wcnt (d : Dev) (ns : List Int) (k : Nat) : Int := (((ns.take k).filter (isWireI d)).length : Int)
theorem wcnt_all {d : Dev} {s0 : Int} {ns fs ks : List Int} (h : RtOk d s0 ns fs ks) (hd : devB d = true) : wcnt d ns ns.length + ks.length + 1 = ns.length := by
  have hc := h.tr.cons
  have hl := congrArg List.length hc
  rw [List.length_cons] at hl
  unfold wcnt
  rw [List.take_length]
  have hw : ns.filter (isWireI d) = (ns.drop 1).filter (isWireI d) := by
    have hn : ¬ isWireI d s0 = true := by
      intro hw
      have := (isWire_rng hw).2.2.2.1
      rw [h.out] at this
      omega
    rw [hc, List.filter_cons_of_neg hn]; rfl
  have hs : ks.length = ((ns.drop 1).filter (fun x => !(isWireI d x))).length := by
    rw [h.tr.sinks]
    congr 1
    apply List.filter_congr
    intro x hx
    obtain ⟨k, hk, e⟩ := mem_getD hx
    rw [List.length_drop] at hk
    have e2 : (ns.drop 1).getD k 0 = ns.getD (k + 1) 0 := by rw [List.getD_eq_getElem?_getD, List.getElem?_drop, List.getD_eq_getElem?_getD, Nat.add_comm]
    have hn := h.node (k := k + 1) (by omega)
    have hst := (h.tr.step (k + 1) (by omega) (by omega)).2.2
    rw [← e2, e] at hn hst
    obtain ⟨hp1, hp2⟩ := per_rng hd
    by_cases h7 : 7 ≤ x % perI d
    · have hw : isWireI d x = true := by unfold isWireI; rw [hn, decide_eq_true h7]; rfl
      rw [hw, decide_eq_false (by omega)]; rfl
    · have hw : isWireI d x = false := by unfold isWireI; rw [decide_eq_false h7]; simp
      by_cases h5 : x % perI d < 5
      · rw [hw, decide_eq_true h5]; rfl
      · exfalso
        unfold srcI at hst
        rw [if_pos hn, if_neg h5, if_pos (by omega)] at hst
        exact absurd hst (by simp [hasB])
  rw [hw, hs]
  have := filt_part (isWireI d) (ns.drop 1)
  omega
structure Qu where
  d : Int
  n : Int
abbrev qu0 : Qu := ⟨0, 0⟩
def quC (r : Qu) : List Value := [.int .i64 r.d, .int .i64 r.n]
/-- the value at an int place -/
abbrev gI (l : List Int) (x : Int) : Int := l.getD x.toNat 0
theorem getD_ofset {l : List Int} {i j : Nat} {x : Int} (h : i < l.length) : (l.set i x).getD j 0 = if i = j then x else l.getD j 0 := by
  by_cases e : i = j
  · subst e; rw [if_pos rfl, getD_set_self' h]
  · rw [if_neg e, List.getD_eq_getElem?_getD, List.getElem?_set_ne e, ← List.getD_eq_getElem?_getD]
theorem gI_set {l : List Int} {n x y : Int} (h0 : 0 ≤ n) (h1 : n < l.length) (h2 : 0 ≤ y) : gI (l.set n.toNat x) y = if y = n then x else gI l y := by
  unfold gI
  rw [getD_ofset (by omega)]
  by_cases e : y = n
  · subst e; rw [if_pos rfl, if_pos rfl]
  · rw [if_neg e, if_neg (by omega)]
/-- how many are known -/
def cntK : List Int → Nat
  | [] => 0
  | a :: l => (if a = -1 then 0 else 1) + cntK l
theorem cntK_le : ∀ l : List Int, cntK l ≤ l.length
  | [] => Nat.le_refl _
  | a :: l => by have := cntK_le l; simp only [cntK, List.length_cons]; split <;> omega
theorem cntK_set : ∀ (l : List Int) (i : Nat) (x : Int), i < l.length → x ≠ -1 → cntK (l.set i x) = cntK l + if l.getD i 0 = -1 then 1 else 0
  | [], i, x, h, _ => by simp at h
  | a :: l, 0, x, h, hx => by
    simp only [List.set_cons_zero, cntK, hx, if_false, List.getD_cons_zero]
    split <;> omega
  | a :: l, i + 1, x, h, hx => by
    have := cntK_set l i x (by simpa using h) hx
    simp only [List.set_cons_succ, cntK, List.getD_cons_succ, this]
    omega
/-- the weight of what is still to fall -/
def wgt (B : Nat) (a : Int) : Nat := if a < 0 then B else a.toNat
def sumW (B : Nat) : List Int → Nat
  | [] => 0
  | a :: l => wgt B a + sumW B l
theorem sumW_set (B : Nat) : ∀ (l : List Int) (i : Nat) (x : Int), i < l.length → sumW B (l.set i x) + wgt B (l.getD i 0) = sumW B l + wgt B x
  | [], i, x, h => by simp at h
  | a :: l, 0, x, h => by simp only [List.set_cons_zero, sumW, List.getD_cons_zero]; omega
  | a :: l, i + 1, x, h => by
    have := sumW_set B l i x (by simpa using h)
    simp only [List.set_cons_succ, sumW, List.getD_cons_succ]; omega
theorem sumW_rep (B n : Nat) : sumW B (List.replicate n (-1)) = n * B := by
  induction n with
  | zero => simp [sumW]
  | succ n ih => rw [List.replicate_succ, sumW, ih, Nat.add_mul]; simp [wgt]; omega
/-- sources, sinks and costs of N nodes -/
structure GrS (N : Nat) (S K : Int → List Int) (cs : List Int) : Prop where
  n1 : N ≤ 828
  cl : cs.length = N
  cr : ∀ k : Int, 0 ≤ k → k < N → 1 ≤ gI cs k ∧ gI cs k ≤ 100000
  sr : ∀ k : Int, 0 ≤ k → k < N → ∀ s ∈ S k, 0 ≤ s ∧ s < N
  kr : ∀ x : Int, 0 ≤ x → x < N → ∀ n, n ∈ K x ↔ (0 ≤ n ∧ n < N) ∧ x ∈ S n
theorem GrS.bnd {N : Nat} {S K : Int → List Int} {cs : List Int} (h : GrS N S K cs) : N * (100000 * N + 1) ≤ 80000000000 := by
  have h1 := h.n1
  have := Nat.mul_le_mul h1 (show 100000 * N + 1 ≤ 82800001 by omega)
  omega
/-- what holds within the walk; R: the sinks that a known node has been followed to -/
structure DI (N : Nat) (S : Int → List Int) (cs st s0 : List Int) (R : Int → List Int) (out : List Int) (td : List Qu) (M : Nat) : Prop where
  len : out.length = N
  rng : ∀ k : Int, 0 ≤ k → k < N → gI out k = -1 ∨ (0 ≤ gI out k ∧ gI out k ≤ 100000 * (cntK out : Int))
  sts : ∀ s ∈ s0, gI out s = 0
  tdo : ∀ e ∈ td, (0 ≤ e.n ∧ e.n < N) ∧ 0 ≤ gI out e.n ∧ gI out e.n ≤ e.d ∧ e.d ≤ 100000 * N
  tig : ∀ k : Int, 0 ≤ k → k < N → ¬ k ∈ st → 0 ≤ gI out k → ∃ s ∈ S k, 0 ≤ gI out s ∧ gI out s + gI cs k ≤ gI out k
  set : ∀ y : Int, 0 ≤ y → y < N → 0 ≤ gI out y → (∃ e ∈ td, e.n = y ∧ e.d = gI out y) ∨ ∀ n ∈ R y, 0 ≤ gI out n ∧ gI out n ≤ gI out y + gI cs n
  mea : sumW (100000 * N + 1) out + td.length ≤ M
theorem DI.up {N : Nat} {S : Int → List Int} {cs st s0 : List Int} {R : Int → List Int} {out : List Int} {td : List Qu} {M : Nat} (h : DI N S cs st s0 R out td M) {k : Int} (h0 : 0 ≤ k) (h1 : k < N) : gI out k = -1 ∨ (0 ≤ gI out k ∧ gI out k ≤ 100000 * (N : Int)) := by
  have := cntK_le out
  have hl := h.len
  rcases h.rng k h0 h1 with h2 | ⟨h2, h3⟩
  · exact .inl h2
  · exact .inr ⟨h2, by omega⟩
theorem DI.perm {N : Nat} {S : Int → List Int} {cs st s0 : List Int} {R : Int → List Int} {out : List Int} {td td' : List Qu} {M : Nat} (h : DI N S cs st s0 R out td M) (hp : td.Perm td') : DI N S cs st s0 R out td' M :=
  ⟨h.len, h.rng, h.sts, fun e he => h.tdo e (hp.mem_iff.2 he), h.tig, fun y h0 h1 h2 => (h.set y h0 h1 h2).imp_left (fun ⟨e, he, h3⟩ => ⟨e, hp.mem_iff.1 he, h3⟩), by have := hp.length_eq; have := h.mea; omega⟩
/-- a shorter way is found -/
theorem DI.better {N : Nat} {S K : Int → List Int} {cs st s0 : List Int} {R : Int → List Int} {out : List Int} {td : List Qu} {M : Nat} (g : GrS N S K cs) (h : DI N S cs st s0 R out td M) {x n : Int} (hx0 : 0 ≤ x) (hx1 : x < N) (hx : 0 ≤ gI out x) (hn0 : 0 ≤ n) (hn1 : n < N) (hs : x ∈ S n)
    (hRn : ∀ y : Int, 0 ≤ y → y < N → ∀ m ∈ R y, 0 ≤ m) (hb : gI out n = -1 ∨ gI out x + gI cs n < gI out n) : DI N S cs st s0 (fun y => if y = x then R x ++ [n] else R y) (out.set n.toNat (gI out x + gI cs n)) (td ++ [⟨gI out x + gI cs n, n⟩]) M := by
  have hl := h.len
  have hc := g.cr n hn0 hn1
  have hne : x ≠ n := by intro e; subst e; omega
  have hk := h.rng n hn0 hn1
  have hkx := h.rng x hx0 hx1
  have G : ∀ y : Int, 0 ≤ y → gI (out.set n.toNat (gI out x + gI cs n)) y = if y = n then gI out x + gI cs n else gI out y := fun y hy => gI_set hn0 (by omega) hy
  have hcs := cntK_set out n.toNat (gI out x + gI cs n) (by omega) (by omega)
  have hle : (cntK (out.set n.toNat (gI out x + gI cs n))) ≤ N := by have := cntK_le (out.set n.toNat (gI out x + gI cs n)); rw [List.length_set] at this; omega
  have hval : gI out x + gI cs n ≤ 100000 * (cntK (out.set n.toNat (gI out x + gI cs n)) : Int) := by
    rcases hb with hb | hb
    · have hb' : out.getD n.toNat 0 = -1 := hb
      rw [hcs, if_pos hb']; omega
    · rw [hcs]; omega
  refine ⟨by rw [List.length_set]; exact hl, fun k k0 k1 => ?_, fun s hs0 => ?_, fun e he => ?_, fun k k0 k1 hkst hk0 => ?_, fun y y0 y1 hy => ?_, ?_⟩
  · rw [G k k0]
    by_cases e : k = n
    · rw [if_pos e]; exact .inr ⟨by omega, hval⟩
    · rw [if_neg e]
      rcases h.rng k k0 k1 with h2 | ⟨h2, h3⟩
      · exact .inl h2
      · exact .inr ⟨h2, by rw [hcs]; omega⟩
  · have hz := h.sts s hs0
    by_cases hs1 : 0 ≤ s
    · rw [G s hs1]
      by_cases e : s = n
      · subst e; omega
      · rw [if_neg e]; exact hz
    · show (out.set n.toNat _).getD s.toNat 0 = 0
      rw [getD_ofset (by omega)]
      have hz' : out.getD s.toNat 0 = 0 := hz
      by_cases e : n.toNat = s.toNat
      · have e2 : gI out n = 0 := by unfold gI; rw [e]; exact hz'
        omega
      · rw [if_neg e]; exact hz'
  · rcases List.mem_append.1 he with he | he
    · obtain ⟨a1, a2, a3, a4⟩ := h.tdo e he
      rw [G e.n a1.1]
      by_cases e' : e.n = n
      · rw [if_pos e']; rw [e'] at a2 a3; exact ⟨a1, by omega, by omega, a4⟩
      · rw [if_neg e']; exact ⟨a1, a2, a3, a4⟩
    · rw [List.mem_singleton] at he; subst he
      refine ⟨⟨hn0, hn1⟩, ?_⟩
      show 0 ≤ gI _ n ∧ gI _ n ≤ gI out x + gI cs n ∧ _
      rw [G n hn0, if_pos rfl]
      exact ⟨by omega, Int.le_refl _, by show gI out x + gI cs n ≤ _; omega⟩
  · rw [G k k0] at hk0 ⊢
    by_cases e : k = n
    · subst e
      rw [if_pos rfl]
      refine ⟨x, hs, ?_⟩
      rw [G x hx0, if_neg hne]; exact ⟨hx, Int.le_refl _⟩
    · rw [if_neg e] at hk0 ⊢
      obtain ⟨s, hs1, hs2, hs3⟩ := h.tig k k0 k1 hkst hk0
      have hsr := g.sr k k0 k1 s hs1
      refine ⟨s, hs1, ?_⟩
      rw [G s hsr.1]
      by_cases e' : s = n
      · subst e'; rw [if_pos rfl]; omega
      · rw [if_neg e']; exact ⟨hs2, hs3⟩
  · rw [G y y0] at hy ⊢
    by_cases e : y = n
    · subst e
      rw [if_pos rfl]
      exact .inl ⟨_, List.mem_append_right _ (List.mem_singleton.2 rfl), rfl, rfl⟩
    · rw [if_neg e] at hy ⊢
      rcases h.set y y0 y1 hy with ⟨q, hq, hq1, hq2⟩ | hR
      · exact .inl ⟨q, List.mem_append_left _ hq, hq1, hq2⟩
      · refine .inr fun m hm => ?_
        by_cases hyx : y = x
        · subst hyx
          rw [if_pos rfl] at hm
          rcases List.mem_append.1 hm with hm | hm
          · have := hR m hm
            have hm0 := hRn y y0 y1 m hm
            rw [G m hm0]
            by_cases e' : m = n
            · subst e'; rw [if_pos rfl]; omega
            · rw [if_neg e']; exact this
          · rw [List.mem_singleton] at hm; subst hm
            rw [G m hn0, if_pos rfl]; omega
        · rw [if_neg hyx] at hm
          have := hR m hm
          have hm0 := hRn y y0 y1 m hm
          rw [G m hm0]
          by_cases e' : m = n
          · subst e'; rw [if_pos rfl]; omega
          · rw [if_neg e']; exact this
  · have := sumW_set (100000 * N + 1) out n.toNat (gI out x + gI cs n) (by omega)
    have hm := h.mea
    rw [List.length_append, List.length_singleton]
    have e1 : wgt (100000 * N + 1) (gI out x + gI cs n) + 1 ≤ wgt (100000 * N + 1) (out.getD n.toNat 0) := by
      unfold wgt
      rw [if_neg (by omega)]
      rcases hb with hb | hb
      · have hb' : out.getD n.toNat 0 = -1 := hb
        rw [hb', if_pos (by omega)]; omega
      · have hb' : gI out x + gI cs n < out.getD n.toNat 0 := hb
        rw [if_neg (by omega)]; omega
    omega
/-- none is found -/
theorem DI.worse {N : Nat} {S : Int → List Int} {cs st s0 : List Int} {R : Int → List Int} {out : List Int} {td : List Qu} {M : Nat} (h : DI N S cs st s0 R out td M) {x n : Int} (hn0 : 0 ≤ n) (hn1 : n < N)
    (hb : gI out n ≠ -1 ∧ gI out n ≤ gI out x + gI cs n) : DI N S cs st s0 (fun y => if y = x then R x ++ [n] else R y) out td M :=
  ⟨h.len, h.rng, h.sts, h.tdo, h.tig, fun y y0 y1 hy => (h.set y y0 y1 hy).imp_right fun hR m hm => by
    by_cases e : y = x
    · subst e
      rw [if_pos rfl] at hm
      rcases List.mem_append.1 hm with hm | hm
      · exact hR m hm
      · rw [List.mem_singleton] at hm; subst hm
        have := h.rng m hn0 hn1
        omega
    · rw [if_neg e] at hm; exact hR m hm, h.mea⟩
/-- one entry is taken up -/
theorem DI.take {N : Nat} {S : Int → List Int} {cs st s0 : List Int} {R : Int → List Int} {out : List Int} {e : Qu} {td : List Qu} {M : Nat} (h : DI N S cs st s0 R out (e :: td) M) : DI N S cs st s0 (fun y => if y = e.n then [] else R y) out td (M - 1) :=
  ⟨h.len, h.rng, h.sts, fun q hq => h.tdo q (List.mem_cons_of_mem _ hq), h.tig, fun y y0 y1 hy => by
    by_cases hye : y = e.n
    · subst hye; rw [if_pos rfl]; exact .inr fun m hm => absurd hm (by simp)
    · rw [if_neg hye]
      refine (h.set y y0 y1 hy).imp_left fun ⟨q, hq, h1, h2⟩ => ⟨q, ?_, h1, h2⟩
      rcases List.mem_cons.1 hq with hq | hq
      · subst hq; exact absurd h1.symm hye
      · exact hq, by have := h.mea; simp only [List.length_cons] at this; omega⟩
/-- an old entry is dropped -/
theorem DI.drop {N : Nat} {S : Int → List Int} {cs st s0 : List Int} {R : Int → List Int} {out : List Int} {e : Qu} {td : List Qu} {M : Nat} (h : DI N S cs st s0 R out (e :: td) M) (hd : gI out e.n < e.d) : DI N S cs st s0 R out td (M - 1) :=
  ⟨h.len, h.rng, h.sts, fun q hq => h.tdo q (List.mem_cons_of_mem _ hq), h.tig, fun y y0 y1 hy => by
    rcases h.set y y0 y1 hy with ⟨q, hq, h1, h2⟩ | hR
    · refine .inl ⟨q, ?_, h1, h2⟩
      rcases List.mem_cons.1 hq with hq | hq
      · subst hq; rw [h1] at hd; omega
      · exact hq
    · exact .inr hR, by have := h.mea; simp only [List.length_cons] at this; omega⟩
theorem DI.cong {N : Nat} {S : Int → List Int} {cs st s0 : List Int} {R R' : Int → List Int} {out : List Int} {td : List Qu} {M : Nat} (h : DI N S cs st s0 R out td M) (hR : ∀ y : Int, 0 ≤ y → y < N → ∀ n ∈ R' y, n ∈ R y) : DI N S cs st s0 R' out td M :=
  ⟨h.len, h.rng, h.sts, h.tdo, h.tig, fun y y0 y1 hy => (h.set y y0 y1 hy).imp_right fun h1 n hn => h1 n (hR y y0 y1 n hn), h.mea⟩
/-- the starts are laid -/
structure DS (N : Nat) (cs st s0 : List Int) (out : List Int) (td : List Qu) : Prop where
  len : out.length = N
  rng : ∀ k : Int, 0 ≤ k → k < N → gI out k = -1 ∨ gI out k = 0
  sts : ∀ s ∈ s0, gI out s = 0
  zer : ∀ k : Int, 0 ≤ k → k < N → gI out k = 0 → k ∈ st ∧ ∃ e ∈ td, e.n = k ∧ e.d = 0
  tdo : ∀ e ∈ td, (0 ≤ e.n ∧ e.n < N) ∧ gI out e.n = 0 ∧ e.d = 0
  mea : sumW (100000 * N + 1) out + td.length ≤ N * (100000 * N + 1)
theorem gI_rep {N : Nat} {k : Int} (h0 : 0 ≤ k) (h1 : k < N) : gI (List.replicate N (-1)) k = -1 := by
  unfold gI
  rw [List.getD_eq_getElem?_getD, List.getElem?_replicate, if_pos (by omega)]; rfl
theorem ds_start (N : Nat) (cs st : List Int) : DS N cs st [] (List.replicate N (-1)) [] :=
  ⟨by simp, fun k h0 h1 => .inl (gI_rep h0 h1), fun s hs => absurd hs (by simp), fun k h0 h1 h2 => by rw [gI_rep h0 h1] at h2; omega, fun e he => absurd he (by simp), by rw [sumW_rep]; simp⟩
theorem DS.more {N : Nat} {cs st s0 out : List Int} {td td' : List Qu} (h : DS N cs st s0 out td) {s : Int} (hs0 : 0 ≤ s) (hs1 : s < N) (hst : s ∈ st) (hz : gI out s ≠ 0) (hp : (td ++ [Qu.mk 0 s]).Perm td') : DS N cs st (s0 ++ [s]) (out.set s.toNat 0) td' := by
  have hl := h.len
  have G : ∀ y : Int, 0 ≤ y → gI (out.set s.toNat 0) y = if y = s then 0 else gI out y := fun y hy => gI_set hs0 (by omega) hy
  have hm1 : gI out s = -1 := (h.rng s hs0 hs1).resolve_right hz
  refine ⟨by rw [List.length_set]; exact hl, fun k k0 k1 => ?_, fun q hq => ?_, fun k k0 k1 hk => ?_, fun e he => ?_, ?_⟩
  · rw [G k k0]
    by_cases e : k = s
    · rw [if_pos e]; exact .inr rfl
    · rw [if_neg e]; exact h.rng k k0 k1
  · show (out.set s.toNat 0).getD q.toNat 0 = 0
    rw [getD_ofset (by omega)]
    rcases List.mem_append.1 hq with hq | hq
    · have := h.sts q hq
      split
      · rfl
      · exact this
    · rw [List.mem_singleton] at hq; subst hq; rw [if_pos rfl]
  · rw [G k k0] at hk
    by_cases e : k = s
    · subst e; exact ⟨hst, _, hp.mem_iff.1 (List.mem_append_right _ (List.mem_singleton.2 rfl)), rfl, rfl⟩
    · rw [if_neg e] at hk
      obtain ⟨h1, q, h2, h3⟩ := h.zer k k0 k1 hk
      exact ⟨h1, q, hp.mem_iff.1 (List.mem_append_left _ h2), h3⟩
  · rcases List.mem_append.1 (hp.mem_iff.2 he) with he | he
    · obtain ⟨a, b, c⟩ := h.tdo e he
      refine ⟨a, ?_, c⟩
      rw [G _ a.1]; split
      · rfl
      · exact b
    · rw [List.mem_singleton] at he; subst he
      exact ⟨⟨hs0, hs1⟩, by show gI _ s = 0; rw [G s hs0, if_pos rfl], rfl⟩
  · have e1 := sumW_set (100000 * N + 1) out s.toNat 0 (by omega)
    have e2 := hp.length_eq
    have hm := h.mea
    have hm2 : out.getD s.toNat 0 = -1 := hm1
    rw [hm2] at e1
    simp only [wgt, List.length_append, List.length_singleton] at e1 e2
    simp at e1
    omega
theorem DS.again {N : Nat} {cs st s0 out : List Int} {td : List Qu} (h : DS N cs st s0 out td) {s : Int} (hz : gI out s = 0) : DS N cs st (s0 ++ [s]) out td :=
  ⟨h.len, h.rng, fun q hq => by
    rcases List.mem_append.1 hq with hq | hq
    · exact h.sts q hq
    · rw [List.mem_singleton] at hq; subst hq; exact hz, h.zer, h.tdo, h.mea⟩
theorem DS.di {N : Nat} {S R : Int → List Int} {cs st out : List Int} {td : List Qu} (h : DS N cs st st out td) : DI N S cs st st R out td (N * (100000 * N + 1)) :=
  ⟨h.len, fun k k0 k1 => by rcases h.rng k k0 k1 with h1 | h1 <;> omega, h.sts, fun e he => by obtain ⟨a, b, c⟩ := h.tdo e he; exact ⟨a, by omega, by omega, by omega⟩,
    fun k k0 k1 hk hk0 => by
      rcases h.rng k k0 k1 with h1 | h1
      · omega
      · exact absurd (h.zer k k0 k1 h1).1 hk,
    fun y y0 y1 hy => by
      rcases h.rng y y0 y1 with h1 | h1
      · omega
      · obtain ⟨-, q, h2, h3, h4⟩ := h.zer y y0 y1 h1
        exact .inl ⟨q, h2, h3, by omega⟩, h.mea⟩
/-- what the distances are -/
structure DistOk (N : Nat) (S : Int → List Int) (cs st : List Int) (D : List Int) : Prop where
  len : D.length = N
  rng : ∀ k : Int, 0 ≤ k → k < N → gI D k = -1 ∨ (0 ≤ gI D k ∧ gI D k ≤ 100000 * (N : Int))
  sts : ∀ s ∈ st, gI D s = 0
  rel : ∀ n : Int, 0 ≤ n → n < N → ∀ s ∈ S n, 0 ≤ gI D s → 0 ≤ gI D n ∧ gI D n ≤ gI D s + gI cs n
  tig : ∀ k : Int, 0 ≤ k → k < N → ¬ k ∈ st → 0 ≤ gI D k → ∃ s ∈ S k, 0 ≤ gI D s ∧ gI D k = gI D s + gI cs k
theorem DI.done {N : Nat} {S K : Int → List Int} {cs st : List Int} {out : List Int} {M : Nat} (g : GrS N S K cs) (h : DI N S cs st st K out [] M) : DistOk N S cs st out := by
  have rel : ∀ n : Int, 0 ≤ n → n < N → ∀ s ∈ S n, 0 ≤ gI out s → 0 ≤ gI out n ∧ gI out n ≤ gI out s + gI cs n := fun n n0 n1 s hs h0 => by
    have hr := g.sr n n0 n1 s hs
    rcases h.set s hr.1 hr.2 h0 with ⟨e, he, -⟩ | hR
    · exact absurd he (by simp)
    · exact hR n ((g.kr s hr.1 hr.2 n).2 ⟨⟨n0, n1⟩, hs⟩)
  exact ⟨h.len, fun k k0 k1 => h.up k0 k1, h.sts, rel, fun k k0 k1 hk hk0 => by
    obtain ⟨s, hs, h1, h2⟩ := h.tig k k0 k1 hk hk0
    have := rel k k0 k1 s hs h1
    exact ⟨s, hs, h1, by omega⟩⟩
theorem swap_perm {α : Type} (d : α) : ∀ (es : List α) (p i : Nat), p < i → i < es.length → ((es.set p (es.getD i d)).set i (es.getD p d)).Perm es := by
  intro es p i hp hi
  have h1 : es = es.take p ++ es.getD p d :: ((es.drop (p + 1)).take (i - p - 1) ++ es.getD i d :: es.drop (i + 1)) := by
    apply List.ext_getElem?
    intro k
    rw [List.getElem?_append]
    rw [List.length_take, Nat.min_eq_left (by omega)]
    by_cases k1 : k < p
    · rw [if_pos k1, List.getElem?_take, if_pos k1]
    · rw [if_neg k1]
      by_cases k2 : k = p
      · subst k2; rw [Nat.sub_self, List.getElem?_cons_zero]; exact getD_at (by omega)
      · obtain ⟨q, hq⟩ : ∃ q, k - p = q + 1 := ⟨k - p - 1, by omega⟩
        rw [hq, List.getElem?_cons_succ, List.getElem?_append, List.length_take, List.length_drop, Nat.min_eq_left (by omega)]
        by_cases k3 : q < i - p - 1
        · rw [if_pos k3, List.getElem?_take, if_pos k3, List.getElem?_drop]; congr 1; omega
        · rw [if_neg k3]
          by_cases k4 : q = i - p - 1
          · rw [k4, Nat.sub_self, List.getElem?_cons_zero, ← getD_at hi]; congr 1; omega
          · obtain ⟨r, hr⟩ : ∃ r, q - (i - p - 1) = r + 1 := ⟨q - (i - p - 1) - 1, by omega⟩
            rw [hr, List.getElem?_cons_succ, List.getElem?_drop]; congr 1; omega
  have h2 : (es.set p (es.getD i d)).set i (es.getD p d) = es.take p ++ es.getD i d :: ((es.drop (p + 1)).take (i - p - 1) ++ es.getD p d :: es.drop (i + 1)) := by
    apply List.ext_getElem?
    intro k
    rw [List.getElem?_append]
    rw [List.length_take, Nat.min_eq_left (by omega)]
    by_cases k1 : k < p
    · rw [if_pos k1, List.getElem?_take, if_pos k1, List.getElem?_set_ne (by omega), List.getElem?_set_ne (by omega)]
    · rw [if_neg k1]
      by_cases k2 : k = p
      · subst k2; rw [Nat.sub_self, List.getElem?_cons_zero, List.getElem?_set_ne (by omega), List.getElem?_set_self (by omega)]
      · obtain ⟨q, hq⟩ : ∃ q, k - p = q + 1 := ⟨k - p - 1, by omega⟩
        rw [hq, List.getElem?_cons_succ, List.getElem?_append, List.length_take, List.length_drop, Nat.min_eq_left (by omega)]
        by_cases k3 : q < i - p - 1
        · rw [if_pos k3, List.getElem?_take, if_pos k3, List.getElem?_drop, List.getElem?_set_ne (by omega), List.getElem?_set_ne (by omega)]; congr 1; omega
        · rw [if_neg k3]
          by_cases k4 : q = i - p - 1
          · rw [k4, Nat.sub_self, List.getElem?_cons_zero, show k = i by omega, List.getElem?_set_self (by rw [List.length_set]; omega)]
          · obtain ⟨r, hr⟩ : ∃ r, q - (i - p - 1) = r + 1 := ⟨q - (i - p - 1) - 1, by omega⟩
            rw [hr, List.getElem?_cons_succ, List.getElem?_drop, List.getElem?_set_ne (by omega), List.getElem?_set_ne (by omega)]; congr 1; omega
  rw [h2]
  generalize es.getD p d = a at *
  generalize es.getD i d = b at *
  conv => rhs; rw [h1]
  refine List.Perm.append_left _ ?_
  refine (List.Perm.cons b List.perm_middle).trans ?_
  refine (List.Perm.swap _ _ _).trans (List.Perm.cons a ?_)
  exact List.perm_middle.symm
theorem pop_perm {α : Type} (d : α) : ∀ (es : List α), 0 < es.length → (es.getD 0 d :: (es.set 0 (es.getD (es.length - 1) d)).take (es.length - 1)).Perm es := by
  intro es h
  cases es with
  | nil => simp at h
  | cons a t =>
    cases t with
    | nil => simp
    | cons b t =>
      have e1 : (a :: b :: t).getD ((a :: b :: t).length - 1) d = (b :: t).getD (b :: t).length.pred d := by simp
      have e2 : (b :: t) = (b :: t).take t.length ++ [(b :: t).getD t.length d] := by
        rw [List.getD_eq_getElem?_getD, List.getElem?_eq_getElem (show t.length < (b :: t).length by simp)]
        show _ = _ ++ [(b :: t)[t.length]]
        rw [← List.take_succ_eq_append_getElem (by simp)]
        rw [List.take_of_length_le (by simp)]
      rw [e1]
      show (a :: ((b :: t).getD t.length d :: (b :: t)).take (t.length + 1)).Perm _
      rw [List.take_succ_cons]
      refine List.Perm.cons a ?_
      conv => rhs; rw [e2]
      exact (List.perm_append_comm (l₁ := (b :: t).take t.length) (l₂ := [(b :: t).getD t.length d])).symm
theorem take_snocZ {l : List Int} {k : Nat} (h : k < l.length) : l.take (k + 1) = l.take k ++ [l.getD k 0] := by
  rw [List.take_succ_eq_append_getElem h, List.getD_eq_getElem?_getD, List.getElem?_eq_getElem h]; rfl
theorem getD_memZ {l : List Int} {k : Nat} (h : k < l.length) : l.getD k 0 ∈ l := by
  rw [List.getD_eq_getElem?_getD, List.getElem?_eq_getElem h]; exact List.getElem_mem h
/-- what has been followed: node x up to its j-th sink -/
def upTo (K : Int → List Int) (x : Int) (j : Nat) : Int → List Int := fun y => if y = x then (K x).take j else K y
theorem DI.first {N : Nat} {S K : Int → List Int} {cs st : List Int} {out : List Int} {e : Qu} {td : List Qu} {M : Nat} (h : DI N S cs st st K out (e :: td) M) : DI N S cs st st (upTo K e.n 0) out td (M - 1) :=
  h.take.cong fun y y0 y1 n hn => by
    unfold upTo at hn
    by_cases hy : y = e.n
    · rw [if_pos hy] at hn; simp at hn
    · rw [if_neg hy] at hn ⊢; exact hn
theorem DI.last {N : Nat} {S K : Int → List Int} {cs st : List Int} {x : Int} {j : Nat} {out : List Int} {td : List Qu} {M : Nat} (h : DI N S cs st st (upTo K x j) out td M) (hj : (K x).length ≤ j) : DI N S cs st st K out td M :=
  h.cong fun y y0 y1 n hn => by
    unfold upTo
    by_cases hy : y = x
    · subst hy; rw [if_pos rfl, List.take_of_length_le hj]; exact hn
    · rw [if_neg hy]; exact hn
theorem upTo_more {K : Int → List Int} {x : Int} {j : Nat} (hj : j < (K x).length) : ∀ y : Int, ∀ n ∈ upTo K x (j + 1) y, n ∈ (if y = x then upTo K x j x ++ [(K x).getD j 0] else upTo K x j y) := fun y n hn => by
  unfold upTo at hn ⊢
  by_cases hy : y = x
  · rw [if_pos hy] at hn ⊢; rw [if_pos rfl, ← take_snocZ hj]; exact hn
  · rw [if_neg hy] at hn; rw [if_neg hy, if_neg hy]; exact hn
theorem DI.lower {N : Nat} {S K : Int → List Int} {cs st : List Int} {out : List Int} {td td' : List Qu} {M : Nat} {x n c : Int} {j : Nat} (g : GrS N S K cs) (h : DI N S cs st st (upTo K x j) out td M) (hx0 : 0 ≤ x) (hx1 : x < N) (hx : 0 ≤ gI out x) (hj : j < (K x).length) (hn : n = (K x).getD j 0)
    (hc : c = gI out x + gI cs n) (hb : gI out n = -1 ∨ c < gI out n) (hp : td'.Perm (td ++ [Qu.mk c n])) : DI N S cs st st (upTo K x (j + 1)) (out.set n.toNat c) td' M ∧ gI (out.set n.toNat c) x = gI out x := by
  subst hc
  obtain ⟨⟨hn0, hn1⟩, hs⟩ := (g.kr x hx0 hx1 n).1 (hn ▸ getD_memZ hj)
  have hcst := g.cr n hn0 hn1
  have hne : x ≠ n := by intro e; subst e; omega
  refine ⟨((h.better g hx0 hx1 hx hn0 hn1 hs (fun y y0 y1 m hm => ?_) hb).perm hp.symm).cong (fun y y0 y1 m hm => by rw [hn]; exact upTo_more hj y m hm), ?_⟩
  · unfold upTo at hm
    by_cases hy : y = x
    · rw [if_pos hy] at hm
      exact ((g.kr x hx0 hx1 m).1 (List.mem_of_mem_take hm)).1.1
    · rw [if_neg hy] at hm
      exact ((g.kr y y0 y1 m).1 hm).1.1
  · rw [gI_set hn0 (by rw [h.len]; exact hn1) hx0, if_neg hne]
theorem DI.higher {N : Nat} {S K : Int → List Int} {cs st : List Int} {out : List Int} {td : List Qu} {M : Nat} {x n : Int} {j : Nat} (g : GrS N S K cs) (h : DI N S cs st st (upTo K x j) out td M) (hx0 : 0 ≤ x) (hx1 : x < N) (hj : j < (K x).length) (hn : n = (K x).getD j 0)
    (hb : gI out n ≠ -1 ∧ gI out n ≤ gI out x + gI cs n) : DI N S cs st st (upTo K x (j + 1)) out td M := by
  obtain ⟨⟨hn0, hn1⟩, hs⟩ := (g.kr x hx0 hx1 n).1 (hn ▸ getD_memZ hj)
  exact (h.worse hn0 hn1 hb).cong (fun y y0 y1 m hm => by rw [hn]; exact upTo_more hj y m hm)
theorem fillM_set {N k : Nat} (h : k < N) : (List.replicate k (-1 : Int) ++ List.replicate (N - k) 0).set k (-1) = List.replicate (k + 1) (-1) ++ List.replicate (N - (k + 1)) 0 := by
  rw [List.set_append_right _ _ (by simp), List.length_replicate, Nat.sub_self, show N - k = (N - (k + 1)) + 1 by omega, List.replicate_succ, List.set_cons_zero, List.replicate_succ', List.append_assoc]; rfl
theorem fillM_end (N : Nat) : List.replicate N (-1 : Int) ++ List.replicate (N - N) 0 = List.replicate N (-1) := by simp
theorem fillM_len {N k : Nat} (h : k ≤ N) : (List.replicate k (-1 : Int) ++ List.replicate (N - k) 0).length = N := by simp; omega
theorem DI.top {N : Nat} {S : Int → List Int} {cs st s0 : List Int} {R : Int → List Int} {out : List Int} {e : Qu} {td : List Qu} {M : Nat} (h : DI N S cs st s0 R out (e :: td) M) : (0 ≤ e.n ∧ e.n < N) ∧ 0 ≤ gI out e.n ∧ gI out e.n ≤ e.d ∧ e.d ≤ 100000 * N ∧ 1 ≤ M := by
  have := h.tdo e List.mem_cons_self
  have := h.mea
  simp only [List.length_cons] at this
  exact ⟨(h.tdo e List.mem_cons_self).1, (h.tdo e List.mem_cons_self).2.1, (h.tdo e List.mem_cons_self).2.2.1, (h.tdo e List.mem_cons_self).2.2.2, by omega⟩
structure IR where
  v : Value
  xs : List Int
abbrev ir0 : IR := ⟨.slice none 0 0, []⟩
def irC (r : IR) : List Value := [r.v]
abbrev irPart (r : IR) : HP := rowE 3 1 r.v r.xs.length (r.xs.map (Value.int .i64))
abbrev irsE (v : Value) (rs : List IR) : HP := bigE [bigE (rs.map irPart), rowE 26 1 v rs.length (rs.flatMap irC)]
structure RdsIr (w : World) (v : Value) (rs : List IR) : Prop where
  row : RdsW w v 1 rs.length (rs.flatMap irC)
  xs : ∀ r ∈ rs, RdsW w r.v 1 r.xs.length (r.xs.map (Value.int .i64))
theorem RdsIr.below {w w' : World} {v : Value} {rs : List IR} (h : RdsIr w v rs) (hb : Below w.heap.size w w') : RdsIr w' v rs := ⟨h.row.below hb, fun r hr => (h.xs r hr).below hb⟩
theorem RdsIr.at {w : World} {v : Value} {rs : List IR} (h : RdsIr w v rs) {k : Nat} (hk : k < rs.length) : RdsW w (rs.getD k ir0).v 1 (rs.getD k ir0).xs.length ((rs.getD k ir0).xs.map (Value.int .i64)) := h.xs _ (getD_mem' hk)
theorem ir_rds {w0 : World} {l : List HP} {v : Value} {rs : List IR} (i : Nat) (hi : l[i]? = some (irsE v rs)) (w : World) (hm : Mem w0 l w) : RdsIr w v rs := by
  obtain ⟨b1, -⟩ := hm.holds _ (mem_at hi)
  have c1 := (b1 _ (List.mem_cons_self)).2
  have c2 := (b1 _ (List.mem_cons_of_mem _ List.mem_cons_self)).2
  exact ⟨rdsW_own c2, fun r hr => rdsW_own (c1.1 (irPart r) (List.mem_map.2 ⟨r, hr, rfl⟩)).2⟩
/-- a prefix of an own row -/
theorem Mem.cutRow {w0 w : World} {l : List HP} {e s n m : Nat} {v : Value} {xs : List Value} (h : Mem w0 (rowE e s v n xs :: l) w) (hm : m ≤ n) : Mem w0 (rowE e s (slV v 0 m s) m (xs.take (m * s)) :: l) w := by
  have hown : w.ownsRow 0 e s v n xs := h.holds _ List.mem_cons_self
  have key : w.ownsRow 0 e s (slV v 0 m s) m (xs.take (m * s)) ∧ (slV v 0 m s).ownBlock = v.ownBlock := by
    obtain ⟨hl, hc⟩ := hown
    have hle : m * s ≤ n * s := Nat.mul_le_mul_right s hm
    rcases hc with ⟨rfl, rfl⟩ | ⟨g, cap, cur, rfl, hb, hg, h1, h2, h3, h4⟩
    · have : m = 0 := by omega
      subst this
      exact ⟨⟨by simp, .inl ⟨rfl, rfl⟩⟩, rfl⟩
    · have hv : slV (.slice (some ⟨g, 0, none⟩) n cap) 0 m s = .slice (some ⟨g, 0, none⟩) m cap := by
        show sliced (some ⟨g, 0, none⟩) 0 m cap s = _
        unfold sliced
        have e : (⟨g, 0, none⟩ : Addr).add (0 * s) = ⟨g, 0, none⟩ := by rw [add_lit, Nat.zero_mul]
        rw [Option.map_some, e]
        simp
      rw [hv]
      refine ⟨⟨by rw [List.length_take]; omega, .inr ⟨g, cap, cur, rfl, hb, hg, by omega, h2, h3, ?_⟩⟩, rfl⟩
      rw [← h4, List.take_take, Nat.min_eq_left hle]
  refine h.turn rfl rfl rfl (Nat.le_refl _) (fun b _ _ => rfl) (rowE_ok _ _ _ _ _) (fun b hf => .inl ?_) (fun b hf => ?_) key.1
  · show v.ownBlock = some b
    rw [← key.2]; exact hf
  · have : (rowE e s v n xs).foot b := by show v.ownBlock = some b; rw [← key.2]; exact hf
    exact (h.new _ List.mem_cons_self b this).2
theorem conv_setPart {w0 : World} {ps l : List HP} {j : Nat} {p' : HP} (h : j < ps.length) : Conv w0 (p' :: bigE ps :: l) (bigE (ps.set j p') :: l) := fun w hm => by
  have h1 : Mem w0 (bigE ps :: p' :: l) w := hm.perm (.swap _ _ _)
  have h2 := conv_focus (j := j) (p := ps[j]) (List.getElem?_eq_getElem h) w h1
  have h3 : Mem w0 (bigE (ps.eraseIdx j) :: p' :: l) w := h2.sub (List.sublist_cons_self _ _)
  exact conv_unfocus h w (h3.perm (.swap _ _ _))
theorem conv_irSet {w0 : World} {l : List HP} {es : List IR} {j : Nat} {e' : IR} (h : j < es.length) : Conv w0 (irPart e' :: bigE (es.map irPart) :: l) (bigE ((es.set j e').map irPart) :: l) := fun w hm => by
  rw [List.map_set]; exact conv_setPart (by rw [List.length_map]; exact h) w hm
theorem conv_irFocus {w0 : World} {l : List HP} {es : List IR} {j : Nat} (h : j < es.length) : Conv w0 (bigE (es.map irPart) :: l) (irPart (es.getD j ir0) :: bigE ((es.map irPart).eraseIdx j) :: l) :=
  conv_focus (by rw [List.getElem?_map, getD_at h (d := ir0)]; rfl)
theorem conv_irUnfocus {w0 : World} {l : List HP} {es : List IR} {j : Nat} {e' : IR} (h : j < es.length) : Conv w0 (irPart e' :: bigE ((es.map irPart).eraseIdx j) :: l) (bigE ((es.set j e').map irPart) :: l) := fun w hm => by
  rw [List.map_set]; exact conv_unfocus (by rw [List.length_map]; exact h) w hm
theorem Mem.irNil {w0 w : World} {l : List HP} (h : Mem w0 l w) (n : Nat) : Mem w0 (bigE ((List.replicate n ir0).map irPart) :: l) w := by
  refine Mem.big ?_
  rw [List.map_replicate]
  exact h.bigNil _ _ n
theorem getD_rep {α : Type} {d : α} {n i : Nat} : (List.replicate n d).getD i d = d := by
  rw [List.getD_eq_getElem?_getD, List.getElem?_replicate]; split <;> rfl
theorem getD_ofset' {α : Type} {d : α} {l : List α} {i j : Nat} {x : α} (h : i < l.length) : (l.set i x).getD j d = if i = j then x else l.getD j d := by
  by_cases e : i = j
  · subst e; rw [if_pos rfl, getD_set_self' h]
  · rw [if_neg e, List.getD_eq_getElem?_getD, List.getElem?_set_ne e, ← List.getD_eq_getElem?_getD]
/-- the sources of the first k nodes -/
structure SOk (d : Dev) (N k : Nat) (es : List IR) : Prop where
  len : es.length = N
  src : ∀ i : Nat, i < k → (es.getD i ir0).xs = srcI d i
theorem s_start (d : Dev) (N : Nat) : SOk d N 0 (List.replicate N ir0) := ⟨by simp, fun i h => absurd h (by omega)⟩
theorem SOk.step {d : Dev} {N k : Nat} {es : List IR} (h : SOk d N k es) (hk : k < N) {v : Value} : SOk d N (k + 1) (es.set k (IR.mk v (srcI d k))) := by
  have hl := h.len
  refine ⟨by rw [List.length_set]; exact h.len, fun i hi => ?_⟩
  rw [getD_ofset' (by omega)]
  by_cases e : k = i
  · subst e; rw [if_pos rfl]
  · rw [if_neg e]; exact h.src i (by omega)
/-- the sinks, as far as node n's i-th source -/
structure KOk (d : Dev) (N n i : Nat) (ks : List IR) : Prop where
  len : ks.length = N
  mem : ∀ x : Nat, x < N → ∀ m : Int, m ∈ (ks.getD x ir0).xs ↔ (0 ≤ m ∧ m < n ∧ (x : Int) ∈ srcI d m) ∨ (m = n ∧ (x : Int) ∈ (srcI d n).take i)
  sz : ∀ x : Nat, x < N → (ks.getD x ir0).xs.length ≤ 16 * n + i
theorem k_start (d : Dev) (N : Nat) : KOk d N 0 0 (List.replicate N ir0) := ⟨by simp, fun x hx m => by rw [getD_rep]; simp; omega, fun x hx => by rw [getD_rep]; simp⟩
theorem KOk.step {d : Dev} {N n i : Nat} {ks : List IR} (h : KOk d N n i ks) (hi : i < (srcI d n).length) {s : Int} (hs : (srcI d n).getD i 0 = s) (h0 : 0 ≤ s) (h1 : s < N) {v : Value} : KOk d N n (i + 1) (ks.set s.toNat (IR.mk v ((ks.getD s.toNat ir0).xs ++ [(n : Int)]))) := by
  have hl := h.len
  have ht := take_snocZ hi
  refine ⟨by rw [List.length_set]; exact h.len, fun x hx m => ?_, fun x hx => ?_⟩
  · rw [getD_ofset' (by omega), ht, hs]
    by_cases e : s.toNat = x
    · rw [if_pos e]
      show m ∈ _ ++ [(n : Int)] ↔ _
      rw [List.mem_append, e, h.mem x hx m, List.mem_append, List.mem_singleton, List.mem_singleton]
      have : (x : Int) = s := by omega
      simp only [this, or_true, and_true]
      constructor
      · rintro ((h2 | ⟨h2, h3⟩) | h2)
        · exact .inl h2
        · exact .inr h2
        · exact .inr h2
      · rintro (h2 | h2)
        · exact .inl (.inl h2)
        · exact .inr h2
    · rw [if_neg e, h.mem x hx m, List.mem_append, List.mem_singleton]
      have : ¬ (x : Int) = s := by omega
      simp only [this, or_false]
  · rw [getD_ofset' (by omega)]
    split
    · have := h.sz s.toNat (by omega)
      rw [List.length_append, List.length_singleton]; omega
    · have := h.sz x hx; omega
theorem KOk.next {d : Dev} {N n i : Nat} {ks : List IR} (h : KOk d N n i ks) (hi : i = (srcI d n).length) : KOk d N (n + 1) 0 ks := by
  subst hi
  refine ⟨h.len, fun x hx m => ?_, fun x hx => ?_⟩
  · rw [h.mem x hx m, List.take_length]
    constructor
    · rintro (⟨h1, h2, h3⟩ | ⟨h1, h2⟩)
      · exact .inl ⟨h1, by omega, h3⟩
      · subst h1; exact .inl ⟨by omega, by omega, h2⟩
    · rintro (⟨h1, h2, h3⟩ | ⟨h1, h2⟩)
      · by_cases e : m = n
        · subst e; exact .inr ⟨rfl, h3⟩
        · exact .inl ⟨h1, by omega, h3⟩
      · simp at h2
  · have := h.sz x hx
    have := src_len16 d (n : Int)
    omega
/-- a graph -/
structure Gr where
  sv : Value
  kv : Value
  so : List IR
  ks : List IR
abbrev grE (b : Nat) (g : Gr) : HP := bigE [boxE b #[g.sv, g.kv] 101, irsE g.sv g.so, irsE g.kv g.ks]
structure RdsGr (w : World) (b : Nat) (g : Gr) : Prop where
  c0 : w.cell? ⟨b, 0, none⟩ = some g.sv
  c1 : w.cell? ⟨b, 1, none⟩ = some g.kv
  so : RdsIr w g.sv g.so
  ks : RdsIr w g.kv g.ks
theorem RdsGr.lt {w : World} {b : Nat} {g : Gr} (h : RdsGr w b g) : b < w.heap.size := World.block_lt_of_cell? _ _ h.c0
theorem RdsGr.below {w w' : World} {b : Nat} {g : Gr} (h : RdsGr w b g) (hb : Below w.heap.size w w') : RdsGr w' b g := ⟨(hb.cell (p := ⟨b, 0, none⟩) h.lt).trans h.c0, (hb.cell (p := ⟨b, 1, none⟩) h.lt).trans h.c1, h.so.below hb, h.ks.below hb⟩
theorem gr_rds {w0 : World} {l : List HP} {b : Nat} {g : Gr} (i : Nat) (hi : l[i]? = some (grE b g)) (w : World) (hm : Mem w0 l w) : RdsGr w b g := by
  obtain ⟨b1, -⟩ := hm.holds _ (mem_at hi)
  have c1 := (b1 _ (List.mem_cons_self)).2
  have c2 := (b1 _ (List.mem_cons_of_mem _ List.mem_cons_self)).2
  have c3 := (b1 _ (List.mem_cons_of_mem _ (List.mem_cons_of_mem _ List.mem_cons_self))).2
  have R : ∀ (v : Value) (rs : List IR), (irsE v rs).holds w → RdsIr w v rs := fun v rs h => by
    obtain ⟨d1, -⟩ := h
    have e1 := (d1 _ (List.mem_cons_self)).2
    have e2 := (d1 _ (List.mem_cons_of_mem _ List.mem_cons_self)).2
    exact ⟨rdsW_own e2, fun r hr => rdsW_own (e1.1 (irPart r) (List.mem_map.2 ⟨r, hr, rfl⟩)).2⟩
  exact ⟨(cell_of_heap c1).trans rfl, (cell_of_heap c1).trans rfl, R _ _ c2, R _ _ c3⟩
structure GrOk (d : Dev) (N : Nat) (g : Gr) : Prop where
  so : SOk d N N g.so
  ks : KOk d N N 0 g.ks
def kOf (ks : List IR) (x : Int) : List Int := (ks.getD x.toNat ir0).xs
theorem src_rng {d : Dev} {k s : Int} (h : s ∈ srcI d k) : 0 ≤ s ∧ s < allI d := by
  have hk : nodeOkI d k = true := by
    apply Decidable.byContradiction
    intro hc
    rw [src_no d k hc] at h; simp at h
  obtain ⟨hd, k0, k1_o⟩ := nodeOk_rng hk
  obtain ⟨-, h0, h1⟩ := nodeOk_rng (src_loc hd k0 k1_o s h).1
  omega
theorem GrOk.srcs {d : Dev} {N : Nat} {g : Gr} (h : GrOk d N g) (hd : devB d = true) (hN : (N : Int) = allI d) {cs : List Int} (hc : cs.length = N) (hcr : ∀ k, k < cs.length → 1 ≤ cs.getD k 0 ∧ cs.getD k 0 ≤ 100000) : GrS N (srcI d) (kOf g.ks) cs := by
  obtain ⟨ra1, ra2⟩ := all_rng hd
  refine ⟨by omega, hc, fun k k0 k1_o => hcr k.toNat (by omega), fun k k0 k1_o s hs => ?_, fun x x0 x1 n => ?_⟩
  · have := src_rng hs; omega
  · unfold kOf
    rw [h.ks.mem x.toNat (by omega) n, Int.toNat_of_nonneg x0]
    simp
    constructor
    · rintro ⟨h1, h2, h3⟩; exact ⟨⟨h1, h2⟩, h3⟩
    · rintro ⟨⟨h1, h2⟩, h3⟩; exact ⟨h1, h2, h3⟩
def tauOk4 (os : List Oper) (m K : Nat) (dps qd : List (List Nat)) (tau : List (Option Nat)) (fl : List Nat) : Bool :=
  (List.range m).all (fun i => (qd.getD i []).all (fun j => ((dps.getD i []).contains j || (Nat.ble os.length j && Nat.blt j (os.length + K))) && (List.range m).all (fun k => tau.getD k none != some j || (k != i && ((msk ((List.range os.length).map (depsOf os)) []).getD k 0).testBit i))) && decide ((qd.getD i []).Nodup)) &&
  (List.range m).all (fun i => match tau.getD i none with | none => true | some h => ((Nat.ble os.length h && Nat.blt h (os.length + K)) || (dps.getD i []).contains h) && (List.range m).all (fun k => k == i || tau.getD k none != some h)) &&
  fl.all (fun j => (Nat.blt j m || (Nat.ble os.length j && Nat.blt j (os.length + K))) && (List.range m).all (fun k => tau.getD k none != some j)) && decide fl.Nodup
section
variable {P : Program} {N : Nat} {w0 : World} {l : List HP} {env : List (Nat × Value)} {Q : Post} {os : List Oper} {m : Nat} {dps : List (List Nat)} {dsts : List (Option Nat)} {R : Nat → List Value → Value → List HP → Prop}
/-- where the quiet part stands -/
structure Mid4 (N : Nat) (w0 : World) (l : List HP) (env : List (Nat × Value)) (os : List Oper) (m : Nat) (dps : List (List Nat)) (dsts : List (Option Nat)) (R : Nat → List Value → Value → List HP → Prop) (tau : List (Option Nat)) (P0 : List (List HP)) (listed : Array Bool) (ord held : List Nat) (vf : Nat → Value) (pf : Nat → List HP) (a : Act) (w : World) : Prop where
  size : listed.size = os.length
  iff : ∀ i, i < os.length → (listed.getD i true = true ↔ i ∈ ord)
  low : ∀ i ∈ ord, i < m
  closed : ∀ i ∈ ord, ∀ j ∈ depsOf os i, j ∈ ord
  nodup : ord.Nodup
  dcl : ∀ i ∈ ord, ∀ j ∈ dps.getD i [], j ∈ ord
  rel : ∀ i ∈ ord, R i ((dps.getD i []).map vf) (vf i) (pf i)
  hn : held.Nodup
  hin : ∀ i ∈ held, i ∈ ord ∨ (os.length ≤ i ∧ i < os.length + P0.length)
  hall : ∀ i, (i ∈ ord ∨ (os.length ≤ i ∧ i < os.length + P0.length)) → (∀ j ∈ ord, tau.getD j none ≠ some i) → i ∈ held
  hP : ∀ k, k < P0.length → pf (os.length + k) = P0.getD k []
  mem : Mem w0 (held.flatMap pf ++ l) w
  asize : a.tmps.size = N
  defers : a.defers = []
  env : ∀ d v, lk env d = some v → a.tmps[d]? = some v
  slots : ∀ i ∈ ord, ∀ d, dsts[i]? = some (some d) → a.tmps[d]? = some (vf i)
theorem Mid4.st {tau P0 listed ord held vf pf a w} (h : Mid4 N w0 l env os m dps dsts R tau P0 listed ord held vf pf a w) (hm : m ≤ dsts.length) {is : List Nat} (hs : ∀ j ∈ is, j ∈ ord) {L : List HP} (hM : Mem w0 L w) : St N w0 L (envOf3 dsts vf is ++ env) a w := by
  refine ⟨hM, h.asize, h.defers, fun d v hd => ?_⟩
  rcases lk_append _ _ _ _ hd with h1 | h1
  · unfold envOf3 at h1
    rw [List.mem_filterMap] at h1
    obtain ⟨i, hi, he⟩ := h1
    rw [Option.map_eq_some_iff] at he
    obtain ⟨d', hd', he⟩ := he
    simp only [Prod.mk.injEq] at he
    obtain ⟨rfl, rfl⟩ := he
    have : dsts[i]? = some (some d') := by
      rw [List.getD_eq_getElem?_getD] at hd'
      cases hx : dsts[i]? with
      | none => rw [hx] at hd'; cases hd'
      | some y => rw [hx] at hd'; exact congrArg some hd'
    exact h.slots i (hs i hi) _ this
  · exact h.env d v h1
theorem hc_drawn4 {id : Nat} (hmix : P.follows .mixedOrders = true) (m : Nat) (dps : List (List Nat)) (dsts : List (Option Nat)) (R : Nat → List Value → Value → List HP → Prop) (qd : List (List Nat)) (tau : List (Option Nat)) (P0 : List (List HP)) (fl : List Nat) (hok : drawOk3 os m dps dsts = true) (htau : tauOk4 os m P0.length dps qd tau fl = true) (hfresh : dsts.all (fun d => match d with | some d => (lk env d).isNone | none => true) = true) (hN : dsts.all (fun d => match d with | some d => Nat.blt d N | none => true) = true)
    (due : ∀ i o, os[i]? = some o → i < m → ∀ vf pf, (∀ k, k < P0.length → pf (os.length + k) = P0.getD k []) → (∀ j ∈ dps.getD i [], R j ((dps.getD j []).map vf) (vf j) (pf j)) → Obl2 P os.toArray N w0 (tau.getD i none) pf ((qd.getD i []).flatMap pf ++ l) (envOf3 dsts vf (dps.getD i []) ++ env) o (R i ((dps.getD i []).map vf)))
    (fin : ∀ vf pf, (∀ k, k < P0.length → pf (os.length + k) = P0.getD k []) → (∀ i, i < m → R i ((dps.getD i []).map vf) (vf i) (pf i)) → HL P N os.toArray w0 (fl.flatMap pf ++ l) (envOf3 dsts vf (List.range m) ++ env) (os.drop m) Q) : HC P N w0 (P0.flatten ++ l) env (.region id os.toArray true) Q := by
  intro a w st
  refine wp_region_any hmix ?_
  simp only [drawOk3, Bool.and_eq_true, Nat.ble_eq, List.all_eq_true, List.mem_range, Bool.or_eq_true, Nat.blt_eq, beq_iff_eq, decide_eq_true_eq, Array.all_eq_true', bne_iff_ne] at hok
  obtain ⟨⟨⟨⟨⟨⟨hml, hback⟩, hcov⟩, hready⟩, hdst⟩, hdn⟩, hdp⟩ := hok
  simp only [tauOk4, Bool.and_eq_true, List.all_eq_true, List.mem_range, Bool.or_eq_true, Nat.blt_eq, Nat.ble_eq, beq_iff_eq, bne_iff_ne, decide_eq_true_eq, List.contains_iff_mem] at htau
  obtain ⟨⟨⟨hqd, hth⟩, hfl⟩, hfn⟩ := htau
  have hml' : m ≤ dsts.length := by have := congrArg List.length hdst; simp at this; omega
  have hlen : dsts.length = m := by have := congrArg List.length hdst; simp at this; omega
  have hrdy : ∀ k, m ≤ k → k < os.length → Region.ready .any os.toArray (preT os.length k) = [k] := fun k h1 h2 => by
    have := hready (k - m) (by omega)
    rw [show m + (k - m) = k by omega] at this
    exact this
  have hmsk : ∀ i j, ((msk ((List.range os.length).map (depsOf os)) []).getD i 0).testBit j = true → Dep os i j := msk_dep os _ _ (fun t ds ht d hd => by
    rw [List.getElem?_map] at ht
    by_cases h : t < os.length
    · rw [List.getElem?_range h] at ht; simp at ht; subst ht; simpa using hd
    · rw [List.getElem?_eq_none (by simp; omega)] at ht; cases ht) (fun i j h => by simp at h)
  have dstAt : ∀ i, i < m → ∀ o, os[i]? = some o → o.dst = dsts.getD i none := fun i hi o ho => by
    have h1 : ((os.take m).map (·.dst))[i]? = some o.dst := by rw [List.getElem?_map, List.getElem?_take, if_pos hi, ho]; rfl
    rw [hdst] at h1
    rw [List.getD_eq_getElem?_getD, h1]; rfl
  -- what may come up
  have key : ∀ (f : Nat) (listed : Array Bool) (ord held : List Nat) (vf : Nat → Value) (pf : Nat → List HP) (a : Act) (w : World), f + ord.length = os.length → Mid4 N w0 l env os m dps dsts R tau P0 listed ord held vf pf a w → wpAny P .any os.toArray Q f listed a w := by
    intro f
    induction f with
    | zero =>
      intro listed ord held vf pf a w hf h
      -- all are listed: m = the length
      have hall : ∀ i, i < os.length → i ∈ ord := by
        intro i hi
        have hsub : ord.Perm (List.range os.length) ∨ True := .inr trivial
        obtain ⟨r, hr⟩ := pick_perm ord (List.range os.length) h.nodup (fun j hj => by have := h.low j hj; simp; omega)
        have hl := hr.length_eq
        simp at hl
        have : r = [] := List.length_eq_zero_iff.1 (by omega)
        subst this
        have := hr.mem_iff.1 (List.mem_range.2 hi)
        simpa using this
      have hm2 : m = os.length := by
        by_cases hc : m < os.length
        · have := h.low m (hall m hc); omega
        · omega
      have hp : listed = preT os.length m := by
        apply Array.ext
        · rw [h.size, preT_size _ _ hml]
        · intro i h1 h2
          have hi : i < os.length := by rw [h.size] at h1; exact h1
          have e1 := (h.iff i hi).2 (hall i hi)
          have e2 := preT_get os.length m i hml hi
          rw [Array.getD_eq_getD_getElem?, Array.getElem?_eq_getElem h1] at e1
          rw [Array.getD_eq_getD_getElem?, Array.getElem?_eq_getElem h2] at e2
          simp only [Option.getD_some] at e1 e2
          rw [e1, e2]; simp; omega
      rw [hp]
      refine tail_any hrdy 0 m (Nat.le_refl _) (by omega) a w ?_
      exact fin vf pf h.hP (fun i hi => h.rel i (hall i (by omega))) a w (h.st hml' (fun j hj => hall j (by rw [List.mem_range] at hj; omega)) (h.mem.pick hfn (fun j hj => h.hall j ((hfl j hj).1.imp (fun hlt => hall j (by omega)) (fun x => x)) (fun k hk => (hfl j hj).2 k (h.low k hk)))))
    | succ f ih =>
      intro listed ord held vf pf a w hf h
      by_cases hall : ∀ i, i < m → i ∈ ord
      · -- the tail's turn
        have hp : listed = preT os.length m := by
          apply Array.ext
          · rw [h.size, preT_size _ _ hml]
          · intro i h1 h2
            have hi : i < os.length := by rw [h.size] at h1; exact h1
            have e1 := h.iff i hi
            have e2 := preT_get os.length m i hml hi
            rw [Array.getD_eq_getD_getElem?, Array.getElem?_eq_getElem h1] at e1
            rw [Array.getD_eq_getD_getElem?, Array.getElem?_eq_getElem h2] at e2
            simp only [Option.getD_some] at e1 e2
            rw [e2, Bool.eq_iff_iff, e1, decide_eq_true_eq]
            exact ⟨fun hx => h.low i hx, fun hx => hall i hx⟩
        have hord : ord.length = m := by
          obtain ⟨r, hr⟩ := pick_perm ord (List.range m) h.nodup (fun j hj => by have := h.low j hj; simpa using this)
          obtain ⟨r', hr'⟩ := pick_perm (List.range m) ord List.nodup_range (fun j hj => hall j (by simpa using hj))
          have h1 := hr.length_eq
          have h2 := hr'.length_eq
          simp at h1 h2
          omega
        rw [hp]
        refine tail_any hrdy (f + 1) m (Nat.le_refl _) (by omega) a w ?_
        exact fin vf pf h.hP (fun i hi => h.rel i (hall i hi)) a w (h.st hml' (fun j hj => hall j (by simpa using hj)) (h.mem.pick hfn (fun j hj => h.hall j ((hfl j hj).1.imp (fun hlt => hall j hlt) (fun x => x)) (fun k hk => (hfl j hj).2 k (h.low k hk)))))
      · -- some quiet one is not done yet
        have hsome : ∃ i, i < m ∧ i ∉ ord := by
          by_cases hx : ∃ i, i < m ∧ i ∉ ord
          · exact hx
          · exact absurd (fun i hi => Decidable.byContradiction fun hn => hx ⟨i, hi, hn⟩) hall
        have mem_rdy : ∀ i, i ∈ Region.ready .any os.toArray listed ↔ i < os.length ∧ i ∉ ord ∧ ∀ j ∈ depsOf os i, j ∈ ord := by
          intro i
          unfold Region.ready
          rw [List.mem_filter, List.mem_range]
          simp only [List.size_toArray]
          constructor
          · rintro ⟨hi, hb⟩
            rw [Bool.and_eq_true] at hb
            have hno : i ∉ ord := fun hx => by rw [(h.iff i hi).2 hx] at hb; simp at hb
            refine ⟨hi, hno, fun j hj => ?_⟩
            have ho : os.toArray[i]? = some os[i] := by simp [hi]
            rw [ho] at hb
            simp only [Option.map_some, Option.getD_some, Array.all_eq_true'] at hb
            unfold depsOf at hj
            rw [List.getElem?_eq_getElem hi] at hj
            simp only [List.mem_map, List.mem_filter] at hj
            obtain ⟨e, ⟨he, hbd⟩, rfl⟩ := hj
            have hb2 := hb.2 e (by simpa using he)
            rw [hbd] at hb2
            simp at hb2
            have hlt := hback i hi e.on (by unfold depsOf; rw [List.getElem?_eq_getElem hi]; exact List.mem_map.2 ⟨e, List.mem_filter.2 ⟨he, hbd⟩, rfl⟩)
            refine (h.iff e.on (by omega)).1 ?_
            have hs : e.on < listed.size := by rw [h.size]; omega
            rw [Array.getD_eq_getD_getElem?, Array.getElem?_eq_getElem hs] 
            simp only [Option.getD_some]
            rw [Array.getElem?_eq_getElem hs] at hb2
            simpa using hb2
          · rintro ⟨hi, hno, hd⟩
            refine ⟨hi, ?_⟩
            have ho : os.toArray[i]? = some os[i] := by simp [hi]
            rw [ho]
            simp only [Option.map_some, Option.getD_some, Bool.and_eq_true, Array.all_eq_true']
            refine ⟨?_, fun e he => ?_⟩
            · cases hb : listed.getD i true with
              | true => exact absurd ((h.iff i hi).1 hb) hno
              | false => rfl
            · rw [Bool.or_eq_true]
              by_cases hbd : Region.binds .any e = true
              rotate_left
              · left; simpa using hbd
              right
              have hon : e.on ∈ depsOf os i := by unfold depsOf; rw [List.getElem?_eq_getElem hi]; exact List.mem_map.2 ⟨e, List.mem_filter.2 ⟨by simpa using he, hbd⟩, rfl⟩
              have hlt := hback i hi e.on hon
              have := (h.iff e.on (by omega)).2 (hd e.on hon)
              have hs : e.on < listed.size := by rw [h.size]; omega
              rw [Array.getD_eq_getD_getElem?, Array.getElem?_eq_getElem hs] at this
              simp only [Option.getD_some] at this
              rw [Array.getD_eq_getD_getElem?, Array.getElem?_eq_getElem hs]
              simpa using this
        have hdep : ∀ k j, Dep os k j → (∀ d ∈ depsOf os k, d ∈ ord) → j ∈ ord := by
          intro k j hd
          induction hd with
          | one hj => intro hx; exact hx _ hj
          | more hk _ ih2 => intro hx; exact ih2 (fun d hd => h.closed _ (hx _ hk) d hd)
        have hlow : ∀ i ∈ Region.ready .any os.toArray listed, i < m := by
          intro i hi
          obtain ⟨h1, h2, h3⟩ := (mem_rdy i).1 hi
          by_cases hc : i < m
          · exact hc
          · exfalso
            obtain ⟨q, hq, hqn⟩ := hsome
            rcases hcov i h1 with h4 | h4
            · exact hc h4
            · exact hqn (hdep i q (hmsk i q (h4 q hq)) h3)
        refine ⟨fun h0 => ?_, fun i hi => ?_⟩
        · -- the least one that is not done may come up
          exfalso
          obtain ⟨q, hq, hqn⟩ := hsome
          obtain ⟨p, hp, hmin⟩ := exists_least (p := fun i => i < m ∧ i ∉ ord) ⟨q, hq, hqn⟩
          have : p ∈ Region.ready .any os.toArray listed := by
            rw [mem_rdy]
            refine ⟨by omega, hp.2, fun j hj => ?_⟩
            have hlt := hback p (by omega) j hj
            apply Decidable.byContradiction
            intro hn
            have := hmin j ⟨by omega, hn⟩
            omega
          rw [h0] at this
          cases this
        · have him := hlow i hi
          obtain ⟨h1, h2, h3⟩ := (mem_rdy i).1 hi
          have ho : os[i]? = some os[i] := List.getElem?_eq_getElem h1
          have hdps := hdp i him
          have hsub : ∀ j ∈ dps.getD i [], j ∈ ord := fun j hj => hdep i j (hmsk i j (hdps.1 j hj)) h3
          have hqi := hqd i him
          have hqheld : ∀ j ∈ qd.getD i [], j ∈ held := fun j hj => h.hall j ((hqi.1 j hj).1.imp (hsub j) (fun x => x)) (fun k hk => by
            rcases (hqi.1 j hj).2 k (h.low k hk) with h5 | ⟨-, h6⟩
            · exact h5
            · exact absurd (hdep k i (hmsk k i h6) (h.closed k hk)) h2)
          have hobl := due i os[i] ho him vf pf h.hP (fun j hj => h.rel j (hsub j hj))
          have hdd := dstAt i him _ ho
          have hdlt : ∀ d, dsts.getD i none = some d → d < N := fun d hd => by
            have := List.all_eq_true.1 hN (some d) (by rw [← hd, List.getD_eq_getElem?_getD, List.getElem?_eq_getElem (by omega)]; exact List.getElem_mem _)
            simpa [Nat.blt_eq] using this
          have hdnone : ∀ d, dsts.getD i none = some d → lk env d = none := fun d hd => by
            have := List.all_eq_true.1 hfresh (some d) (by rw [← hd, List.getD_eq_getElem?_getD, List.getElem?_eq_getElem (by omega)]; exact List.getElem_mem _)
            simpa using this
          have hne : ∀ j ∈ ord, j ≠ i := fun j hj e => h2 (e ▸ hj)
          have hneh : ∀ j ∈ held, j ≠ i := fun j hj e => by
            rcases h.hin j hj with h5 | h5
            · exact hne j h5 e
            · omega
          have next : ∀ (held' : List Nat) v post w', held'.Nodup → (∀ k ∈ held', k ∈ i :: ord ∨ (os.length ≤ k ∧ k < os.length + P0.length)) → (∀ k, (k ∈ i :: ord ∨ (os.length ≤ k ∧ k < os.length + P0.length)) → (∀ j ∈ i :: ord, tau.getD j none ≠ some k) → k ∈ held') → R i ((dps.getD i []).map vf) v post →
              Mem w0 (held'.flatMap (fun k => if k = i then post else pf k) ++ l) w' → wpAny P .any os.toArray Q f (listed.setIfInBounds i true) (a.put (dsts.getD i none) v) w' := by
            intro held' v post w' hh1 hh2 hh3 hv hm
            refine ih (listed.setIfInBounds i true) (i :: ord) held' (fun k => if k = i then v else vf k) (fun k => if k = i then post else pf k) _ w' (by simp; omega) ⟨?_, ?_, ?_, ?_, ?_, ?_, ?_, hh1, hh2, hh3, ?_, hm, ?_, ?_, ?_, ?_⟩
            · simp [h.size]
            · intro k hk
              by_cases hki : k = i
              · subst hki
                have hs : k < listed.size := by rw [h.size]; exact hk
                simp [Array.getD_eq_getD_getElem?, hs]
              · rw [getD_set_ne true (fun e => hki e.symm), h.iff k hk]
                simp [hki]
            · intro k hk; rcases List.mem_cons.1 hk with rfl | hk; exact him; exact h.low k hk
            · intro k hk j hj
              rcases List.mem_cons.1 hk with rfl | hk
              · exact List.mem_cons_of_mem _ (h3 j hj)
              · exact List.mem_cons_of_mem _ (h.closed k hk j hj)
            · exact List.nodup_cons.2 ⟨h2, h.nodup⟩
            · intro k hk j hj
              rcases List.mem_cons.1 hk with rfl | hk
              · exact List.mem_cons_of_mem _ (hsub j hj)
              · exact List.mem_cons_of_mem _ (h.dcl k hk j hj)
            · intro k hk
              rcases List.mem_cons.1 hk with rfl | hk
              · have e : (dps.getD k []).map (fun j => if j = k then v else vf j) = (dps.getD k []).map vf := List.map_congr_left fun j hj => if_neg (hne j (hsub j hj))
                rw [e, if_pos rfl, if_pos rfl]; exact hv
              · have e : (dps.getD k []).map (fun j => if j = i then v else vf j) = (dps.getD k []).map vf := List.map_congr_left fun j hj => if_neg (hne j (h.dcl k hk j hj))
                rw [e, if_neg (hne k hk), if_neg (hne k hk)]; exact h.rel k hk
            · intro k hk; rw [if_neg (by omega)]; exact h.hP k hk
            · cases hdi : dsts.getD i none <;> simp [Act.put, h.asize]
            · cases hdi : dsts.getD i none <;> exact h.defers
            · intro d u hd
              cases hdi : dsts.getD i none with
              | none => exact h.env d u hd
              | some d0 =>
                have hdne : d0 ≠ d := fun e => by rw [← e, hdnone _ hdi] at hd; cases hd
                simp only [Act.put]
                rw [Array.getElem?_setIfInBounds_ne hdne]
                exact h.env d u hd
            · intro k hk d hd
              cases hdi : dsts.getD i none with
              | none =>
                rcases List.mem_cons.1 hk with rfl | hk
                · rw [List.getD_eq_getElem?_getD, hd] at hdi; cases hdi
                · show a.tmps[d]? = _
                  rw [if_neg (hne k hk)]; exact h.slots k hk d hd
              | some d0 =>
                have hlt : d0 < a.tmps.size := by rw [h.asize]; exact hdlt _ hdi
                rcases List.mem_cons.1 hk with rfl | hk
                · have : d = d0 := by rw [List.getD_eq_getElem?_getD, hd] at hdi; exact Option.some.inj hdi
                  subst this
                  simp only [Act.put, if_true]
                  simp only [Array.getElem?_setIfInBounds_self_of_lt hlt]
                · have hdne : d0 ≠ d := by
                    intro e
                    have hk2 : k < dsts.length := (List.getElem?_eq_some_iff.1 hd).1
                    have hdk : dsts.getD k none = some d := by rw [List.getD_eq_getElem?_getD, hd]; rfl
                    rcases hdn i him k (by omega) with (hx | hx) | hx
                    · exact hne k hk hx.symm
                    · rw [hdi] at hx; cases hx
                    · exact hx (by rw [hdi, hdk, e])
                  simp only [Act.put]
                  rw [Array.getElem?_setIfInBounds_ne hdne, if_neg (hne k hk)]
                  exact h.slots k hk d hd
          unfold wpOp
          have hoa : os.toArray[i]? = some os[i] := by simp [h1]
          rw [hoa]
          simp only
          have hpost : ∀ (hs : List Nat) (post : List HP), (∀ k ∈ hs, k ≠ i) → (i :: hs).flatMap (fun k => if k = i then post else pf k) = post ++ hs.flatMap pf := fun hs post hx => by
            rw [List.flatMap_cons, if_pos rfl]
            congr 1
            rw [List.flatMap_def, List.flatMap_def]
            congr 1
            exact List.map_congr_left fun k hk => if_neg (hx k hk)
          cases ht : tau.getD i none with
          | none =>
            rw [ht] at hobl
            have hst := h.st hml' hsub (h.mem.pick hqi.2 hqheld)
            have next1 : ∀ v post w', R i ((dps.getD i []).map vf) v post → Mem w post w' → wpAny P .any os.toArray Q f (listed.setIfInBounds i true) (a.put (dsts.getD i none) v) w' := fun v post w' hv hm => by
              refine next (i :: held) v post w' (List.nodup_cons.2 ⟨fun hx => hneh i hx rfl, h.hn⟩) (fun k hk => ?_) (fun k hk hk2 => ?_) hv ?_
              · rcases List.mem_cons.1 hk with rfl | hk
                · exact .inl List.mem_cons_self
                · exact (h.hin k hk).imp (List.mem_cons_of_mem _) (fun x => x)
              · by_cases hki : k = i
                · rw [hki]; exact List.mem_cons_self
                · refine List.mem_cons_of_mem _ (h.hall k (hk.imp (fun hx => by rcases List.mem_cons.1 hx with hx | hx; exact absurd hx hki; exact hx) (fun x => x)) (fun j hj => hk2 j (List.mem_cons_of_mem _ hj)))
              · rw [hpost held post hneh, List.append_assoc]; exact h.mem.app hm
            rcases hobl with ⟨hw, hq⟩ | ⟨hw, hq⟩
            · rw [if_pos (hst.wanted hw)]
              refine .inl (hq a w hst Q _ fun v post w' hv hm => ?_)
              rw [hdd]
              exact next1 v post w' hv hm
            · rw [if_neg (by rw [hst.wanted hw]; decide), hdd]
              exact next1 undef [] w hq (Mem.refl w)
          | some hh =>
            rw [ht] at hobl
            have hth2 := hth i him
            rw [ht] at hth2
            simp only [Bool.and_eq_true, Bool.or_eq_true, Nat.ble_eq, Nat.blt_eq, beq_iff_eq, List.all_eq_true, List.mem_range, bne_iff_ne, List.contains_iff_mem] at hth2
            have hheld : hh ∈ held := h.hall hh (hth2.1.symm.imp (fun hx => hsub hh hx) (fun x => x)) (fun k hk => (hth2.2 k (h.low k hk)).resolve_left (hne k hk))
            have hperm := List.perm_cons_erase hheld
            have hmem : Mem w0 (pf hh ++ ((held.erase hh).flatMap pf ++ l)) w := by
              have := h.mem.perm ((hperm.flatMap_right pf).append_right l)
              rwa [List.flatMap_cons, List.append_assoc] at this
            have hnin : hh ∉ qd.getD i [] := fun hx => by
              rcases (hqi.1 hh hx).2 i him with h5 | ⟨h5, -⟩
              · exact h5 ht
              · exact h5 rfl
            have hconv : ∀ w, Mem w0 ((held.erase hh).flatMap pf ++ l) w → Mem w0 ((qd.getD i []).flatMap pf ++ l) w := fun w hm => hm.pick hqi.2 (fun j hj => (List.mem_erase_of_ne (fun (e : j = hh) => hnin (by rw [← e]; exact hj))).2 (hqheld j hj))
            have hst := h.st hml' hsub hmem
            have hneh2 : ∀ k ∈ held.erase hh, k ≠ i := fun k hk => hneh k (List.mem_of_mem_erase hk)
            have next2 : ∀ v post w', R i ((dps.getD i []).map vf) v post → Mem w0 (post ++ ((held.erase hh).flatMap pf ++ l)) w' → wpAny P .any os.toArray Q f (listed.setIfInBounds i true) (a.put (dsts.getD i none) v) w' := fun v post w' hv hm => by
              refine next (i :: held.erase hh) v post w' (List.nodup_cons.2 ⟨fun hx => hneh2 i hx rfl, h.hn.erase hh⟩) (fun k hk => ?_) (fun k hk hk2 => ?_) hv ?_
              · rcases List.mem_cons.1 hk with rfl | hk
                · exact .inl List.mem_cons_self
                · exact (h.hin k (List.mem_of_mem_erase hk)).imp (List.mem_cons_of_mem _) (fun x => x)
              · by_cases hki : k = i
                · rw [hki]; exact List.mem_cons_self
                · have hkh : k ≠ hh := fun e => hk2 i List.mem_cons_self (by rw [ht, e])
                  exact List.mem_cons_of_mem _ ((List.mem_erase_of_ne hkh).2 (h.hall k (hk.imp (fun hx => by rcases List.mem_cons.1 hx with hx | hx; exact absurd hx hki; exact hx) (fun x => x)) (fun j hj => hk2 j (List.mem_cons_of_mem _ hj))))
              · rw [hpost _ post hneh2, List.append_assoc]; exact hm
            rcases hobl with ⟨hw, hq⟩ | ⟨hw, hq⟩
            · rw [if_pos (hst.wanted hw)]
              refine .inl (hq _ hconv a w hst Q _ fun v post w' hv hm => ?_)
              rw [hdd]
              exact next2 v post w' hv hm
            · rw [if_neg (by rw [hst.wanted hw]; decide), hdd]
              exact next2 undef (pf hh) w hq hmem
  refine key os.length (Array.replicate os.length false) [] ((List.range P0.length).map (os.length + ·)) (fun _ => undef) (fun k => if os.length ≤ k then P0.getD (k - os.length) [] else []) a _ (by simp) ⟨by simp, ?_, by simp, by simp, by simp, by simp, by simp, ?_, ?_, ?_, ?_, ?_, st.size, st.defers, st.env, by simp⟩
  · intro i hi; simp [hi]
  · exact nodup_shift _ _
  · intro i hi
    simp only [List.mem_map, List.mem_range] at hi
    obtain ⟨k, hk, rfl⟩ := hi
    exact .inr ⟨by omega, by omega⟩
  · rintro i (hi | ⟨h1, h2⟩) _
    · cases hi
    · simp only [List.mem_map, List.mem_range]; exact ⟨i - os.length, by omega, by omega⟩
  · intro k hk; rw [if_pos (by omega), Nat.add_sub_cancel_left]
  · have e : ((List.range P0.length).map (os.length + ·)).flatMap (fun k => if os.length ≤ k then P0.getD (k - os.length) [] else []) = P0.flatten := by
      rw [List.flatMap_map]
      have : (fun a : Nat => (if os.length ≤ os.length + a then P0.getD (os.length + a - os.length) [] else [])) = fun a => P0.getD a [] := by
        funext a; rw [if_pos (by omega), Nat.add_sub_cancel_left]
      rw [List.flatMap_def]
      rw [show (List.map (fun a : Nat => (if os.length ≤ os.length + a then P0.getD (os.length + a - os.length) [] else [])) (List.range P0.length)) = P0 from by rw [this]; exact range_getD P0]
    rw [e]; exact st.mem.drawn _
/-- each quiet operation's due, in the order of the text -/
def Dues4 (P : Program) (ops : Array Oper) (N : Nat) (w0 : World) (l : List HP) (env : List (Nat × Value)) (P0 : List (List HP)) (mu : Nat) (dsts : List (Option Nat)) (all qall : List (List Nat)) (tau : List (Option Nat)) (R : Nat → List Value → Value → List HP → Prop) : Nat → List (List Nat) → List Oper → Prop
  | _, _, [] => True
  | k, dss, o :: os => (∀ (vf : Nat → Value) (pf : Nat → List HP), (∀ k, k < P0.length → pf (mu + k) = P0.getD k []) → (∀ j ∈ all.getD k [], R j ((all.getD j []).map vf) (vf j) (pf j)) → Obl2 P ops N w0 (tau.getD k none) pf ((qall.getD k []).flatMap pf ++ l) (envOf3 dsts vf (all.getD k []) ++ env) o (R k ((all.getD k []).map vf))) ∧ Dues4 P ops N w0 l env P0 mu dsts all qall tau R (k + 1) dss os
theorem dues4_at {P : Program} {ops : Array Oper} {N : Nat} {w0 : World} {l : List HP} {env : List (Nat × Value)} {P0 : List (List HP)} {mu : Nat} {dsts : List (Option Nat)} {all qall : List (List Nat)} {tau : List (Option Nat)} {R : Nat → List Value → Value → List HP → Prop} : ∀ (os : List Oper) (dss : List (List Nat)) (k : Nat), Dues4 P ops N w0 l env P0 mu dsts all qall tau R k dss os → ∀ i o, os[i]? = some o → ∀ vf pf, (∀ k, k < P0.length → pf (mu + k) = P0.getD k []) → (∀ j ∈ all.getD (k + i) [], R j ((all.getD j []).map vf) (vf j) (pf j)) → Obl2 P ops N w0 (tau.getD (k + i) none) pf ((qall.getD (k + i) []).flatMap pf ++ l) (envOf3 dsts vf (all.getD (k + i) []) ++ env) o (R (k + i) ((all.getD (k + i) []).map vf))
  | [], _, _, _, i, o, ho, _, _, _, _ => by simp at ho
  | o' :: os, dss, k, h, 0, o, ho, vf, pf, hP, hR => by simp at ho; subst ho; exact h.1 vf pf hP hR
  | o' :: os, dss, k, h, i + 1, o, ho, vf, pf, hP, hR => by
    have e : k + 1 + i = k + (i + 1) := by omega
    have := dues4_at os dss (k + 1) h.2 i o (by simpa using ho) vf pf hP (by rw [e]; exact hR)
    rwa [e] at this
theorem hc_draw4 {id : Nat} (hmix : P.follows .mixedOrders = true) (m : Nat) (qs : List Nat) (quiet tail : List Oper) (dps : List (List Nat)) (dsts : List (Option Nat)) (R : Nat → List Value → Value → List HP → Prop) (qd : List (List Nat)) (tau : List (Option Nat)) (P0 : List (List HP)) (fl : List Nat) (mu : Nat)
    (hos : os = quiet ++ tail) (hq : (Nat.beq quiet.length m && (List.range m == qs) && Nat.beq os.length mu) = true) (hok : drawOk3 os m dps dsts = true) (htau : tauOk4 os m P0.length dps qd tau fl = true) (hfresh : dsts.all (fun d => match d with | some d => (lk env d).isNone | none => true) = true) (hN : dsts.all (fun d => match d with | some d => Nat.blt d N | none => true) = true)
    (due : Dues4 P os.toArray N w0 l env P0 mu dsts dps qd tau R 0 [] quiet)
    (fin : ∀ vf pf, (∀ k, k < P0.length → pf (mu + k) = P0.getD k []) → (∀ i, i < m → R i ((dps.getD i []).map vf) (vf i) (pf i)) → HL P N os.toArray w0 (fl.flatMap pf ++ l) (envOf3 dsts vf qs ++ env) tail Q) : HC P N w0 (P0.flatten ++ l) env (.region id os.toArray true) Q := by
  simp only [Bool.and_eq_true, Nat.beq_eq, beq_iff_eq] at hq
  obtain ⟨⟨hq1, hq2⟩, hq3⟩ := hq
  refine hc_drawn4 hmix m dps dsts R qd tau P0 fl hok htau hfresh hN (fun i o ho hi vf pf hP hR => ?_) (fun vf pf hP hR => ?_)
  · have ho' : quiet[i]? = some o := by rw [hos, List.getElem?_append_left (by omega)] at ho; exact ho
    have := dues4_at quiet [] 0 due i o ho' vf pf (by rw [← hq3]; exact hP) (by rw [Nat.zero_add]; exact hR)
    rwa [Nat.zero_add] at this
  · rw [hq2, hos, List.drop_left' hq1, ← hos]; exact fin vf pf (by rw [← hq3]; exact hP) hR
/-- a whole struct stored into an element of a row of the call's own -/
theorem rm_storeElN {P0 X : List HP} {o : Oper} {t e size n j : Nat} {x y : Operand} {xs : List Value} {v : Value} {us : List Value} (i : Nat) (hd : o.dst = none) (ho : o.op = .store t x y) (hs : (P.info? t).map (·.size) = some us.length)
    (hx : ev env x = some (elP v j)) (hy : ev env y = some (.agg us.toArray)) (h1 : ∀ u ∈ us, u.oneCell' = true) (hi : P0[i]? = some (rowE e size v n xs)) (hpos : 0 < n) (hlt : j + us.length ≤ n * size)
    {n' : Nat} {xs' : List Value} (hn' : n = n') (hx' : putL xs j us = xs') : RunM P N w0 P0 X env o (fun v_ post => post = P0.set i (rowE e size v n' xs')) := fun L hL a w st Q K hK => by
  subst hn' hx'
  have hil : i < P0.length := (List.getElem?_eq_some_iff.1 hi).1
  have hb : w.ownsRow 0 e size v n xs := st.mem.holds _ (List.mem_append_left _ (List.mem_of_getElem? hi))
  obtain ⟨g, cap, rfl⟩ : ∃ g cap, v = .slice (some ⟨g, 0, none⟩) n cap := by
    rcases hb.2 with ⟨rfl, rfl⟩ | ⟨g, cap', cur, rfl, _⟩
    · omega
    · exact ⟨g, cap', rfl⟩
  obtain ⟨w', hr, hm⟩ := run_storeR (P := P) (j := j) us 0 xs (P0 ++ L) w st.mem (by rw [List.getElem?_append_left hil]; exact hi) h1 (by omega)
  have hce : (Value.agg us.toArray).cells = us.toArray := rfl
  have hrun : (execOp a.eval o).run P w = .ok .skip w' := by simp [execOp, ho, st.eval hx, elP, st.eval hy, Instr.storeAt, Instr.sureAddr, storeVar, hce, run_size hs, hr]
  unfold Oper.wp
  rw [hrun, Oper.upon_skip]
  exact hK undef _ w' rfl (by rw [List.set_append_left _ _ hil] at hm; exact hm)
end
section
variable {P : Program} {N : Nat} {w0 : World} {l : List HP} {env : List (Nat × Value)} {o : Oper}
theorem run_eql_sn (w : World) (t e : TypeId) (a : Option Addr) (l c : Nat) (h : P.underlying t = some (.slice e)) : (binOp .eql t (.slice a l c) (.slice none 0 0)).run P w = .ok (.bool a.isNone) w := by
  simp only [binOp]
  simp [run_equal_slice_nil w t e a l c h]
theorem rv_eqlNil {t t' e : TypeId} {x y : Operand} {v : Value} {s n : Nat} {cs : List Value} (ho : o.op = .binOp .eql t x y t') (hu : P.underlying t = some (.slice e)) (hx : ev env x = some v) (hy : ev env y = some (.slice none 0 0)) (hr : Rd w0 l v s n cs) (hn : 0 < n) : RunV P N w0 l env o (.bool false) := fun a w st => by
  obtain ⟨ad, cap, rfl, hl, hm, hc⟩ := hr w st.mem
  obtain ⟨b, off, rfl, -⟩ := hc hn
  have h := run_eql_sn (P := P) w t e (some ⟨b, off, none⟩) n cap hu
  simp [execOp, ho, st.eval hx, st.eval hy, eqGuard, h]
end
open Go.RowKit
theorem flat_take {α : Type} (f : α → List Value) (s : Nat) (hs : ∀ a, (f a).length = s) : ∀ (es : List α) (m : Nat), (es.flatMap f).take (m * s) = (es.take m).flatMap f
  | [], m => by simp
  | a :: es, 0 => by simp
  | a :: es, m + 1 => by
    rw [List.flatMap_cons, List.take_succ_cons, List.flatMap_cons, ← flat_take f s hs es m, List.take_append, hs, show (m + 1) * s - s = m * s by rw [Nat.add_mul]; omega, List.take_of_length_le (by rw [hs, Nat.add_mul]; omega)]
theorem Mem.cutFlat {α : Type} (f : α → List Value) {w0 w : World} {l : List HP} {e s m : Nat} {v : Value} {es : List α} (hs : ∀ a, (f a).length = s) (hm : m ≤ es.length) (h : Mem w0 (rowE e s v es.length (es.flatMap f) :: l) w) : Mem w0 (rowE e s (slV v 0 m s) (es.take m).length ((es.take m).flatMap f) :: l) w := by
  have := h.cutRow (m := m) hm
  rw [flat_take f s hs] at this
  rwa [List.length_take, Nat.min_eq_left hm]
theorem pop_perm2 {es : List Qu} (h : 0 < es.length) {k : Nat} (hk : k = es.length - 1) : (es.getD 0 qu0 :: (es.set 0 (es.getD k qu0)).take k).Perm es := by subst hk; exact pop_perm qu0 es h
set_option maxHeartbeats 4000000 in
set_option maxRecDepth 100000 in
theorem pushQueue_mut (es : List Qu) (v : Value) (x : Qu) (w0 : World) (l : List HP) (w : World) (hm0 : Mem w0 (rowE 96 2 v es.length (es.flatMap quC) :: l) w) (hl : es.length ≤ 90000000000) :
  Calls Try.prog 77 #[v, .agg #[.int .i64 x.d, .int .i64 x.n]] w (fun e_ w_ => ∃ v_ p_, e_ = .returned v_ ∧ (fun v_ p_ => ∃ es' : List Qu, p_ = rowE 96 2 v_ (es').length ((es').flatMap quC) ∧ es'.Perm (es ++ [x])) v_ p_ ∧ Mem w0 (p_ :: l) w_) := by
 refine calls_hcM (N := 46) (args := [v, .agg #[.int .i64 x.d, .int .i64 x.n]]) Try.func77 rfl rfl hm0 ?_
 refine hc_less _ (sx 0 rfl (sx 1 rfl (sub_nil _))) (.refl _) ?_
 refine hc_seq ?_
 refine hc_region ?_
 refine hl_box rfl rfl rfl (rq_box rfl rfl) ?_
 intro b1
 refine hl_v rfl rfl rfl (rv_ev rfl) ?_
 refine hl_less (sx 0 rfl (sx 1 rfl (sx 3 rfl (sx 4 rfl (sub_nil _))))) (.refl _) ?_
 refine hl_nil ?_
 refine hq_then ?_
 refine hc_seq ?_
 refine hc_region ?_
 refine hl_v rfl rfl rfl (rv_ev rfl) ?_
 refine hl_v rfl rfl rfl (rv_loadN (cs := [.int .i64 x.d, .int .i64 x.n]) rfl (by kernel_rfl) (by kernel_rfl) rfl rfl (box_part 0 rfl 0 rfl)) ?_
 refine hl_row rfl rfl rfl (rq_buildSlice (z := .agg #[.int .i64 0, .int .i64 0]) (s := 2) (cs := ([x.d, x.n].map (Value.int .i64))) rfl Try.underlying93 (by kernel_rfl) (by decide) rfl (by kernel_rfl) rfl) ?_
 intro g2
 refine hl_append (i := 2) (z := .agg #[.int .i64 0, .int .i64 0]) (bytes := 16) (n' := (es ++ [x]).length) (xs' := ((es ++ [x]).flatMap quC)) (L := fun v3 => (rowE 96 2 (.slice (some ⟨g2, 0, none⟩) 1 1) 1 ([x.d, x.n].map (Value.int .i64)) :: boxE b1 #[.int .i64 x.d, .int .i64 x.n] 96 :: rowE 96 2 v3 ((es ++ [x]).length) ((es ++ [x]).flatMap quC) :: l)) rfl rfl rfl rfl Try.underlying93 (by kernel_rfl) (by kernel_rfl) rfl rfl rfl (rd_row 0 rfl) (ints_one _) (by first | omega | (simp only [List.length_append, List.length_cons, List.length_nil]; omega)) (len_app es [x]) (flat_app1 quC es x _ rfl) (fun _ => rfl) ?_
 intro v3
 refine hl_v rfl rfl rfl (rv_ev rfl) ?_
 refine hl_less (sx 0 rfl (sx 1 rfl (sx 3 rfl (sx 4 rfl (sub_nil _))))) (.refl _) ?_
 refine hl_nil ?_
 refine hq_then ?_
 refine hc_seq ?_
 refine hc_seq ?_
 refine hc_region ?_
 refine hl_v rfl rfl rfl (rv_ev rfl) ?_
 refine hl_v rfl rfl rfl (rv_len rfl Try.underlying93 rfl (rd_row 2 rfl)) ?_
 refine hl_v rfl rfl rfl (rv_sub rfl rfl rfl (by constructor <;> (simp only [List.length_append, List.length_singleton]; omega))) ?_
 refine hl_v rfl rfl rfl (rv_ev rfl) ?_
 refine hl_less (sx 0 rfl (sx 1 rfl (sx 3 rfl (sx 4 rfl (sx 5 rfl (sub_nil _)))))) (.refl _) ?_
 refine hl_nil ?_
 refine hq_then ?_
 refine hc_block ?_
 refine hc_loop2 (α := Nat) (β := List Qu) (fun j es2 => (rowE 96 2 (.slice (some ⟨g2, 0, none⟩) 1 1) 1 ([x.d, x.n].map (Value.int .i64)) :: boxE b1 #[.int .i64 x.d, .int .i64 x.n] 96 :: rowE 96 2 v3 es2.length (es2.flatMap quC) :: l)) (fun j es2 => [(0, v3), (1, .agg #[.int .i64 x.d, .int .i64 x.n]), (3, .pointer (some ⟨b1, 0, none⟩)), (4, .slice none 0 0), (5, .int .i64 (j : Int))]) (fun j es2 => j < es2.length ∧ es2.length = es.length + 1 ∧ es2.Perm (es ++ [x])) (fun j es2 => j) es.length (es ++ [x]) ⟨by simp, by simp, .refl _⟩ (sx 0 rfl (sx 1 rfl (sx 3 rfl (sx 4 rfl (sx 5 (by simp; rfl) (sub_nil _)))))) ((.cons_cons _ (.cons_cons _ (.cons_cons _ (.refl _))))) ?_
 intro j es2 hi4
 obtain ⟨hj, hel, hpm⟩ := hi4
 refine hc_seq ?_
 refine hc_seq ?_
 refine hc_region ?_
 refine hl_v rfl rfl rfl (rv_ev rfl) ?_
 refine hl_gtr rfl rfl rfl rfl rfl rfl (fun h5 => ?_) (fun h5 => ?_)
 ·
  refine hl_less (sx 0 rfl (sx 1 rfl (sx 3 rfl (sx 4 rfl (sx 5 rfl (sx 15 rfl (sub_nil _))))))) (.refl _) ?_
  refine hl_nil ?_
  refine hq_then ?_
  refine hc_true rfl ?_
  refine hc_skip ?_
  refine hq_then ?_
  refine hc_block ?_
  refine hc_seq ?_
  refine hc_region ?_
  refine hl_v rfl rfl rfl (rv_ev rfl) ?_
  refine hl_v rfl rfl rfl (rv_sub rfl rfl rfl (by constructor <;> omega)) ?_
  refine hl_v rfl rfl rfl (rv_quo rfl rfl rfl (by refine ⟨?_, ?_, ?_⟩ <;> omega)) ?_
  refine hl_v rfl rfl rfl (rv_ev rfl) ?_
  refine hl_less (sx 0 rfl (sx 1 rfl (sx 3 rfl (sx 4 rfl (sx 5 rfl (sx 6 rfl (sx 15 rfl (sub_nil _)))))))) (.refl _) ?_
  refine hl_nil ?_
  refine hq_then ?_
  refine hc_seq ?_
  refine hc_seq ?_
  rcases Bool.eq_false_or_eq_true (decide ((es2.getD ((((j : Int) - 1) / 2).toNat) qu0).d ≤ (es2.getD j qu0).d)) with hb6 | hb6
  ·
   have hb6p : (es2.getD ((((j : Int) - 1) / 2).toNat) qu0).d ≤ (es2.getD j qu0).d := of_decide_eq_true hb6
   refine hc_draw (by kernel_rfl) 11 [0, 1, 2, 3, 4, 5, 6, 7, 8, 9, 10] (List.take 11 _) (List.drop 11 _) [[], [], [0, 1], [2], [3], [], [], [5, 6], [7], [8], [4, 9]] [19, 20, 21, 22, 23, 24, 25, 26, 27, 28, 29] (fun i_ vs_ v_ p_ => match i_ with | 0 => v_ = v3 ∧ p_ = [] | 1 => v_ = .int .i64 (((j : Int) - 1) / 2) ∧ p_ = [] | 2 => v_ = elP v3 ((((j : Int) - 1) / 2).toNat * 2) ∧ p_ = [] | 3 => v_ = elP v3 ((((j : Int) - 1) / 2).toNat * 2 + 0) ∧ p_ = [] | 4 => v_ = .int .i64 ((es2.getD ((((j : Int) - 1) / 2).toNat) qu0).d) ∧ p_ = [] | 5 => v_ = v3 ∧ p_ = [] | 6 => v_ = .int .i64 (j : Int) ∧ p_ = [] | 7 => v_ = elP v3 (((j : Int)).toNat * 2) ∧ p_ = [] | 8 => v_ = elP v3 (((j : Int)).toNat * 2 + 0) ∧ p_ = [] | 9 => v_ = .int .i64 ((es2.getD j qu0).d) ∧ p_ = [] | 10 => v_ = .bool true ∧ p_ = [] | _ => True) (List.take_append_drop 11 _).symm (by kernel_rfl) (by kernel_rfl) rfl rfl ?_ ?_
   ·
    refine ⟨?_, ?_, ?_, ?_, ?_, ?_, ?_, ?_, ?_, ?_, ?_, trivial⟩
    ·
     intro vf pf hR
     refine Or.inl ⟨rfl, ?_⟩
     refine rq_less (sx 0 rfl (sub_nil _)) (List.sublist_append_right _ _) ?_
     exact rq_v (rv_ev rfl)
    ·
     intro vf pf hR
     refine Or.inl ⟨rfl, ?_⟩
     refine rq_less (sx 6 rfl (sub_nil _)) (List.sublist_append_right _ _) ?_
     exact rq_v (rv_ev rfl)
    ·
     intro vf pf hR
     have e0 : (vf 0) = v3 ∧ (pf 0) = [] := hR 0 (by decide)
     have e1 : (vf 1) = .int .i64 (((j : Int) - 1) / 2) ∧ (pf 1) = [] := hR 1 (by decide)
     refine Or.inl ⟨rfl, ?_⟩
     refine rq_less (sx 19 (congrArg some e0.1) (sx 20 (congrArg some e1.1) (sub_nil _))) (List.sublist_append_right _ _) ?_
     exact rq_v (rv_index (s := 2) rfl Try.underlying93 (by kernel_rfl) rfl rfl (rd_row 2 rfl) (by omega) (by first | omega | (simp only [List.length_set]; omega)))
    ·
     intro vf pf hR
     have e2 : (vf 2) = elP v3 ((((j : Int) - 1) / 2).toNat * 2) ∧ (pf 2) = [] := hR 2 (by decide)
     refine Or.inl ⟨rfl, ?_⟩
     refine rq_less (sx 21 (congrArg some e2.1) (sub_nil _)) (List.sublist_append_right _ _) ?_
     exact rq_v (rv_fieldEl (k0 := 0) rfl (by kernel_rfl) rfl (rd_row 2 rfl) (by first | omega | (simp only [List.length_set]; omega)))
    ·
     intro vf pf hR
     have e3 : (vf 3) = elP v3 ((((j : Int) - 1) / 2).toNat * 2 + 0) ∧ (pf 3) = [] := hR 3 (by decide)
     refine Or.inl ⟨rfl, ?_⟩
     refine rq_less (sx 22 (congrArg some e3.1) (sub_nil _)) (List.sublist_append_right _ _) ?_
     exact rq_v (rv_loadEl (u := .int .i64 ((es2.getD ((((j : Int) - 1) / 2).toNat) qu0).d)) rfl (by kernel_rfl) rfl (rd_row 2 rfl) ((flat_at quC 2 (fun _ => rfl) es2 qu0 (show (((j : Int) - 1) / 2).toNat < _ by first | omega | (simp only [List.length_set]; omega)) (by decide)).trans rfl))
    ·
     intro vf pf hR
     refine Or.inl ⟨rfl, ?_⟩
     refine rq_less (sx 0 rfl (sub_nil _)) (List.sublist_append_right _ _) ?_
     exact rq_v (rv_ev rfl)
    ·
     intro vf pf hR
     refine Or.inl ⟨rfl, ?_⟩
     refine rq_less (sx 5 rfl (sub_nil _)) (List.sublist_append_right _ _) ?_
     exact rq_v (rv_ev rfl)
    ·
     intro vf pf hR
     have e5 : (vf 5) = v3 ∧ (pf 5) = [] := hR 5 (by decide)
     have e6 : (vf 6) = .int .i64 (j : Int) ∧ (pf 6) = [] := hR 6 (by decide)
     refine Or.inl ⟨rfl, ?_⟩
     refine rq_less (sx 24 (congrArg some e5.1) (sx 25 (congrArg some e6.1) (sub_nil _))) (List.sublist_append_right _ _) ?_
     exact rq_v (rv_index (s := 2) rfl Try.underlying93 (by kernel_rfl) rfl rfl (rd_row 2 rfl) (by omega) (by first | omega | (simp only [List.length_set]; omega)))
    ·
     intro vf pf hR
     have e7 : (vf 7) = elP v3 (((j : Int)).toNat * 2) ∧ (pf 7) = [] := hR 7 (by decide)
     refine Or.inl ⟨rfl, ?_⟩
     refine rq_less (sx 26 (congrArg some e7.1) (sub_nil _)) (List.sublist_append_right _ _) ?_
     exact rq_v (rv_fieldEl (k0 := 0) rfl (by kernel_rfl) rfl (rd_row 2 rfl) (by first | omega | (simp only [List.length_set]; omega)))
    ·
     intro vf pf hR
     have e8 : (vf 8) = elP v3 (((j : Int)).toNat * 2 + 0) ∧ (pf 8) = [] := hR 8 (by decide)
     refine Or.inl ⟨rfl, ?_⟩
     refine rq_less (sx 27 (congrArg some e8.1) (sub_nil _)) (List.sublist_append_right _ _) ?_
     exact rq_v (rv_loadEl (u := .int .i64 ((es2.getD j qu0).d)) rfl (by kernel_rfl) rfl (rd_row 2 rfl) ((flat_at quC 2 (fun _ => rfl) es2 qu0 (show j < _ by first | omega | (simp only [List.length_set]; omega)) (by decide)).trans rfl))
    ·
     intro vf pf hR
     have e4 : (vf 4) = .int .i64 ((es2.getD ((((j : Int) - 1) / 2).toNat) qu0).d) ∧ (pf 4) = [] := hR 4 (by decide)
     have e9 : (vf 9) = .int .i64 ((es2.getD j qu0).d) ∧ (pf 9) = [] := hR 9 (by decide)
     refine Or.inl ⟨rfl, ?_⟩
     refine rq_less (sx 23 (congrArg some e4.1) (sx 28 (congrArg some e9.1) (sub_nil _))) (List.sublist_append_right _ _) ?_
     exact rq_mono (rq_v (rv_cmp rfl rfl rfl rfl)) (fun _ _ h => ⟨h.1.trans (congrArg Value.bool hb6), h.2⟩)
   ·
    intro vf pf hR
    have e10 : (vf 10) = .bool true ∧ (pf 10) = [] := hR 10 (by decide)
    refine hl_less (l' := (rowE 96 2 (.slice (some ⟨g2, 0, none⟩) 1 1) 1 ([x.d, x.n].map (Value.int .i64)) :: boxE b1 #[.int .i64 x.d, .int .i64 x.n] 96 :: rowE 96 2 v3 es2.length (es2.flatMap quC) :: l)) (sx 0 rfl (sx 1 rfl (sx 3 rfl (sx 4 rfl (sx 5 rfl (sx 6 rfl (sx 15 rfl (sx 29 (congrArg some e10.1) (sub_nil _))))))))) (List.sublist_append_right _ _) ?_
    simp only [List.drop_succ_cons, List.drop_zero]
    refine hl_less (sx 0 rfl (sx 1 rfl (sx 3 rfl (sx 4 rfl (sx 5 rfl (sx 6 rfl (sx 15 rfl (sx 29 rfl (sub_nil _))))))))) (.refl _) ?_
    refine hl_nil ?_
    refine hq_then ?_
    refine hc_true rfl ?_
    refine hc_exit ?_
    refine hq_then_exit ?_
    refine hq_block_past rfl ?_
    refine hq_then_exit ?_
    refine hq_block_exit ?_
    refine hq_then ?_
    refine hc_seq ?_
    refine hc_region ?_
    refine hl_v rfl rfl rfl (rv_ev rfl) ?_
    refine hl_v rfl rfl rfl (rv_ev rfl) ?_
    refine hl_less (sx 0 rfl (sx 1 rfl (sx 3 rfl (sx 4 rfl (sx 5 rfl (sx 6 rfl (sx 15 rfl (sx 29 rfl (sub_nil _))))))))) (.refl _) ?_
    refine hl_nil ?_
    refine hq_then ?_
    refine hc_ret ?_
    exact hq_retMut (p' := rowE 96 2 v3 es2.length (es2.flatMap quC)) rfl rfl ((.cons _ (.cons _ (.cons_cons _ (.refl _))))) ⟨es2, rfl, hpm⟩
  ·
   have hb6p : ¬ ((es2.getD ((((j : Int) - 1) / 2).toNat) qu0).d ≤ (es2.getD j qu0).d) := of_decide_eq_false hb6
   refine hc_draw (by kernel_rfl) 11 [0, 1, 2, 3, 4, 5, 6, 7, 8, 9, 10] (List.take 11 _) (List.drop 11 _) [[], [], [0, 1], [2], [3], [], [], [5, 6], [7], [8], [4, 9]] [19, 20, 21, 22, 23, 24, 25, 26, 27, 28, 29] (fun i_ vs_ v_ p_ => match i_ with | 0 => v_ = v3 ∧ p_ = [] | 1 => v_ = .int .i64 (((j : Int) - 1) / 2) ∧ p_ = [] | 2 => v_ = elP v3 ((((j : Int) - 1) / 2).toNat * 2) ∧ p_ = [] | 3 => v_ = elP v3 ((((j : Int) - 1) / 2).toNat * 2 + 0) ∧ p_ = [] | 4 => v_ = .int .i64 ((es2.getD ((((j : Int) - 1) / 2).toNat) qu0).d) ∧ p_ = [] | 5 => v_ = v3 ∧ p_ = [] | 6 => v_ = .int .i64 (j : Int) ∧ p_ = [] | 7 => v_ = elP v3 (((j : Int)).toNat * 2) ∧ p_ = [] | 8 => v_ = elP v3 (((j : Int)).toNat * 2 + 0) ∧ p_ = [] | 9 => v_ = .int .i64 ((es2.getD j qu0).d) ∧ p_ = [] | 10 => v_ = .bool false ∧ p_ = [] | _ => True) (List.take_append_drop 11 _).symm (by kernel_rfl) (by kernel_rfl) rfl rfl ?_ ?_
   ·
    refine ⟨?_, ?_, ?_, ?_, ?_, ?_, ?_, ?_, ?_, ?_, ?_, trivial⟩
    ·
     intro vf pf hR
     refine Or.inl ⟨rfl, ?_⟩
     refine rq_less (sx 0 rfl (sub_nil _)) (List.sublist_append_right _ _) ?_
     exact rq_v (rv_ev rfl)
    ·
     intro vf pf hR
     refine Or.inl ⟨rfl, ?_⟩
     refine rq_less (sx 6 rfl (sub_nil _)) (List.sublist_append_right _ _) ?_
     exact rq_v (rv_ev rfl)
    ·
     intro vf pf hR
     have e0 : (vf 0) = v3 ∧ (pf 0) = [] := hR 0 (by decide)
     have e1 : (vf 1) = .int .i64 (((j : Int) - 1) / 2) ∧ (pf 1) = [] := hR 1 (by decide)
     refine Or.inl ⟨rfl, ?_⟩
     refine rq_less (sx 19 (congrArg some e0.1) (sx 20 (congrArg some e1.1) (sub_nil _))) (List.sublist_append_right _ _) ?_
     exact rq_v (rv_index (s := 2) rfl Try.underlying93 (by kernel_rfl) rfl rfl (rd_row 2 rfl) (by omega) (by first | omega | (simp only [List.length_set]; omega)))
    ·
     intro vf pf hR
     have e2 : (vf 2) = elP v3 ((((j : Int) - 1) / 2).toNat * 2) ∧ (pf 2) = [] := hR 2 (by decide)
     refine Or.inl ⟨rfl, ?_⟩
     refine rq_less (sx 21 (congrArg some e2.1) (sub_nil _)) (List.sublist_append_right _ _) ?_
     exact rq_v (rv_fieldEl (k0 := 0) rfl (by kernel_rfl) rfl (rd_row 2 rfl) (by first | omega | (simp only [List.length_set]; omega)))
    ·
     intro vf pf hR
     have e3 : (vf 3) = elP v3 ((((j : Int) - 1) / 2).toNat * 2 + 0) ∧ (pf 3) = [] := hR 3 (by decide)
     refine Or.inl ⟨rfl, ?_⟩
     refine rq_less (sx 22 (congrArg some e3.1) (sub_nil _)) (List.sublist_append_right _ _) ?_
     exact rq_v (rv_loadEl (u := .int .i64 ((es2.getD ((((j : Int) - 1) / 2).toNat) qu0).d)) rfl (by kernel_rfl) rfl (rd_row 2 rfl) ((flat_at quC 2 (fun _ => rfl) es2 qu0 (show (((j : Int) - 1) / 2).toNat < _ by first | omega | (simp only [List.length_set]; omega)) (by decide)).trans rfl))
    ·
     intro vf pf hR
     refine Or.inl ⟨rfl, ?_⟩
     refine rq_less (sx 0 rfl (sub_nil _)) (List.sublist_append_right _ _) ?_
     exact rq_v (rv_ev rfl)
    ·
     intro vf pf hR
     refine Or.inl ⟨rfl, ?_⟩
     refine rq_less (sx 5 rfl (sub_nil _)) (List.sublist_append_right _ _) ?_
     exact rq_v (rv_ev rfl)
    ·
     intro vf pf hR
     have e5 : (vf 5) = v3 ∧ (pf 5) = [] := hR 5 (by decide)
     have e6 : (vf 6) = .int .i64 (j : Int) ∧ (pf 6) = [] := hR 6 (by decide)
     refine Or.inl ⟨rfl, ?_⟩
     refine rq_less (sx 24 (congrArg some e5.1) (sx 25 (congrArg some e6.1) (sub_nil _))) (List.sublist_append_right _ _) ?_
     exact rq_v (rv_index (s := 2) rfl Try.underlying93 (by kernel_rfl) rfl rfl (rd_row 2 rfl) (by omega) (by first | omega | (simp only [List.length_set]; omega)))
    ·
     intro vf pf hR
     have e7 : (vf 7) = elP v3 (((j : Int)).toNat * 2) ∧ (pf 7) = [] := hR 7 (by decide)
     refine Or.inl ⟨rfl, ?_⟩
     refine rq_less (sx 26 (congrArg some e7.1) (sub_nil _)) (List.sublist_append_right _ _) ?_
     exact rq_v (rv_fieldEl (k0 := 0) rfl (by kernel_rfl) rfl (rd_row 2 rfl) (by first | omega | (simp only [List.length_set]; omega)))
    ·
     intro vf pf hR
     have e8 : (vf 8) = elP v3 (((j : Int)).toNat * 2 + 0) ∧ (pf 8) = [] := hR 8 (by decide)
     refine Or.inl ⟨rfl, ?_⟩
     refine rq_less (sx 27 (congrArg some e8.1) (sub_nil _)) (List.sublist_append_right _ _) ?_
     exact rq_v (rv_loadEl (u := .int .i64 ((es2.getD j qu0).d)) rfl (by kernel_rfl) rfl (rd_row 2 rfl) ((flat_at quC 2 (fun _ => rfl) es2 qu0 (show j < _ by first | omega | (simp only [List.length_set]; omega)) (by decide)).trans rfl))
    ·
     intro vf pf hR
     have e4 : (vf 4) = .int .i64 ((es2.getD ((((j : Int) - 1) / 2).toNat) qu0).d) ∧ (pf 4) = [] := hR 4 (by decide)
     have e9 : (vf 9) = .int .i64 ((es2.getD j qu0).d) ∧ (pf 9) = [] := hR 9 (by decide)
     refine Or.inl ⟨rfl, ?_⟩
     refine rq_less (sx 23 (congrArg some e4.1) (sx 28 (congrArg some e9.1) (sub_nil _))) (List.sublist_append_right _ _) ?_
     exact rq_mono (rq_v (rv_cmp rfl rfl rfl rfl)) (fun _ _ h => ⟨h.1.trans (congrArg Value.bool hb6), h.2⟩)
   ·
    intro vf pf hR
    have e10 : (vf 10) = .bool false ∧ (pf 10) = [] := hR 10 (by decide)
    refine hl_less (l' := (rowE 96 2 (.slice (some ⟨g2, 0, none⟩) 1 1) 1 ([x.d, x.n].map (Value.int .i64)) :: boxE b1 #[.int .i64 x.d, .int .i64 x.n] 96 :: rowE 96 2 v3 es2.length (es2.flatMap quC) :: l)) (sx 0 rfl (sx 1 rfl (sx 3 rfl (sx 4 rfl (sx 5 rfl (sx 6 rfl (sx 15 rfl (sx 29 (congrArg some e10.1) (sub_nil _))))))))) (List.sublist_append_right _ _) ?_
    simp only [List.drop_succ_cons, List.drop_zero]
    refine hl_less (sx 0 rfl (sx 1 rfl (sx 3 rfl (sx 4 rfl (sx 5 rfl (sx 6 rfl (sx 15 rfl (sx 29 rfl (sub_nil _))))))))) (.refl _) ?_
    refine hl_nil ?_
    refine hq_then ?_
    refine hc_false rfl ?_
    refine hc_skip ?_
    refine hq_then ?_
    refine hc_seq ?_
    refine hc_conv (rowE 96 2 v3 es2.length (es2.flatMap quC) :: rowE 96 2 (.slice (some ⟨g2, 0, none⟩) 1 1) 1 ([x.d, x.n].map (Value.int .i64)) :: boxE b1 #[.int .i64 x.d, .int .i64 x.n] 96 :: l) (conv_pick (src := [rowE 96 2 (.slice (some ⟨g2, 0, none⟩) 1 1) 1 ([x.d, x.n].map (Value.int .i64)), boxE b1 #[.int .i64 x.d, .int .i64 x.n] 96, rowE 96 2 v3 es2.length (es2.flatMap quC)]) (dst := [rowE 96 2 v3 es2.length (es2.flatMap quC), rowE 96 2 (.slice (some ⟨g2, 0, none⟩) 1 1) 1 ([x.d, x.n].map (Value.int .i64)), boxE b1 #[.int .i64 x.d, .int .i64 x.n] 96]) (l := l) [2, 0, 1] (by decide) rfl) ?_
    refine hc_draw4 (l := (rowE 96 2 (.slice (some ⟨g2, 0, none⟩) 1 1) 1 ([x.d, x.n].map (Value.int .i64)) :: boxE b1 #[.int .i64 x.d, .int .i64 x.n] 96 :: l)) (by kernel_rfl) 14 [0, 1, 2, 3, 4, 5, 6, 7, 8, 9, 10, 11, 12, 13] (List.take 14 _) (List.drop 14 _) [[], [], [], [], [], [], [4, 5], [6], [], [], [8, 9], [10], [0, 1], [7, 12]] [some 30, some 31, some 32, some 33, some 34, some 35, some 36, some 37, some 38, some 39, some 40, some 41, some 42, none] (fun i_ vs_ v_ p_ => match i_ with | 0 => v_ = v3 ∧ p_ = [] | 1 => v_ = .int .i64 (((j : Int) - 1) / 2) ∧ p_ = [] | 2 => v_ = v3 ∧ p_ = [] | 3 => v_ = .int .i64 (j : Int) ∧ p_ = [] | 4 => v_ = v3 ∧ p_ = [] | 5 => v_ = .int .i64 (j : Int) ∧ p_ = [] | 6 => v_ = elP v3 (((j : Int)).toNat * 2) ∧ p_ = [] | 7 => v_ = .agg #[.int .i64 ((es2.getD j qu0).d), .int .i64 ((es2.getD j qu0).n)] ∧ p_ = [] | 8 => v_ = v3 ∧ p_ = [] | 9 => v_ = .int .i64 (((j : Int) - 1) / 2) ∧ p_ = [] | 10 => v_ = elP v3 ((((j : Int) - 1) / 2).toNat * 2) ∧ p_ = [] | 11 => v_ = .agg #[.int .i64 ((es2.getD ((((j : Int) - 1) / 2).toNat) qu0).d), .int .i64 ((es2.getD ((((j : Int) - 1) / 2).toNat) qu0).n)] ∧ p_ = [] | 12 => v_ = elP v3 ((((j : Int) - 1) / 2).toNat * 2) ∧ p_ = [] | 13 => p_ = [rowE 96 2 v3 ((es2.set ((((j : Int) - 1) / 2).toNat) (es2.getD j qu0)).length) ((es2.set ((((j : Int) - 1) / 2).toNat) (es2.getD j qu0)).flatMap quC)] | _ => True) [[], [], [], [], [], [], [4, 5, 16], [6, 16], [], [], [8, 9, 16], [10, 16], [0, 1, 16], [7, 12]] [none, none, none, none, none, none, none, none, none, none, none, none, none, some 16] [[rowE 96 2 v3 es2.length (es2.flatMap quC)]] [0, 1, 2, 3, 4, 5, 6, 7, 8, 9, 10, 11, 12, 13] 16 (List.take_append_drop 14 _).symm (by kernel_rfl) (by kernel_rfl) (by kernel_rfl) rfl rfl ?_ ?_
    ·
     refine ⟨?_, ?_, ?_, ?_, ?_, ?_, ?_, ?_, ?_, ?_, ?_, ?_, ?_, ?_, trivial⟩
     ·
      intro vf pf hmu hR
      refine Or.inl ⟨rfl, ?_⟩
      show RunQ _ _ _ (([] : List Nat).flatMap pf ++ _) (envOf3 _ vf [] ++ _) _ _
      refine rq_less (sx 0 rfl (sub_nil _)) (List.sublist_append_right _ _) ?_
      exact rq_v (rv_ev rfl)
     ·
      intro vf pf hmu hR
      refine Or.inl ⟨rfl, ?_⟩
      show RunQ _ _ _ (([] : List Nat).flatMap pf ++ _) (envOf3 _ vf [] ++ _) _ _
      refine rq_less (sx 6 rfl (sub_nil _)) (List.sublist_append_right _ _) ?_
      exact rq_v (rv_ev rfl)
     ·
      intro vf pf hmu hR
      refine Or.inl ⟨rfl, ?_⟩
      show RunQ _ _ _ (([] : List Nat).flatMap pf ++ _) (envOf3 _ vf [] ++ _) _ _
      refine rq_less (sx 0 rfl (sub_nil _)) (List.sublist_append_right _ _) ?_
      exact rq_v (rv_ev rfl)
     ·
      intro vf pf hmu hR
      refine Or.inl ⟨rfl, ?_⟩
      show RunQ _ _ _ (([] : List Nat).flatMap pf ++ _) (envOf3 _ vf [] ++ _) _ _
      refine rq_less (sx 5 rfl (sub_nil _)) (List.sublist_append_right _ _) ?_
      exact rq_v (rv_ev rfl)
     ·
      intro vf pf hmu hR
      refine Or.inl ⟨rfl, ?_⟩
      show RunQ _ _ _ (([] : List Nat).flatMap pf ++ _) (envOf3 _ vf [] ++ _) _ _
      refine rq_less (sx 0 rfl (sub_nil _)) (List.sublist_append_right _ _) ?_
      exact rq_v (rv_ev rfl)
     ·
      intro vf pf hmu hR
      refine Or.inl ⟨rfl, ?_⟩
      show RunQ _ _ _ (([] : List Nat).flatMap pf ++ _) (envOf3 _ vf [] ++ _) _ _
      refine rq_less (sx 5 rfl (sub_nil _)) (List.sublist_append_right _ _) ?_
      exact rq_v (rv_ev rfl)
     ·
      intro vf pf hmu hR
      have e4 : (vf 4) = v3 ∧ (pf 4) = [] := hR 4 (by decide)
      have e5 : (vf 5) = .int .i64 (j : Int) ∧ (pf 5) = [] := hR 5 (by decide)
      refine Or.inl ⟨rfl, ?_⟩
      show RunQ _ _ _ (([4, 5, 16] : List Nat).flatMap pf ++ _) (envOf3 _ vf [4, 5] ++ _) _ _
      have hmu0 : pf 16 = [rowE 96 2 v3 es2.length (es2.flatMap quC)] := hmu 0 (show 0 < 1 by omega)
      refine rq_less (l' := (rowE 96 2 v3 es2.length (es2.flatMap quC) :: rowE 96 2 (.slice (some ⟨g2, 0, none⟩) 1 1) 1 ([x.d, x.n].map (Value.int .i64)) :: boxE b1 #[.int .i64 x.d, .int .i64 x.n] 96 :: l)) (sx 34 (congrArg some e4.1) (sx 35 (congrArg some e5.1) (sub_nil _))) (by first | (simp only [hmu0, e4.2, e5.2, List.flatMap_cons, List.flatMap_nil, List.append_nil, List.nil_append, List.cons_append]; exact List.Sublist.refl _) | simp [hmu0, e4.2, e5.2]) ?_
      exact rq_v (rv_index (s := 2) rfl Try.underlying93 (by kernel_rfl) rfl rfl (rd_row 0 rfl) (by omega) (by first | omega | (simp only [List.length_set]; omega)))
     ·
      intro vf pf hmu hR
      have e6 : (vf 6) = elP v3 (((j : Int)).toNat * 2) ∧ (pf 6) = [] := hR 6 (by decide)
      refine Or.inl ⟨rfl, ?_⟩
      show RunQ _ _ _ (([6, 16] : List Nat).flatMap pf ++ _) (envOf3 _ vf [6] ++ _) _ _
      have hmu0 : pf 16 = [rowE 96 2 v3 es2.length (es2.flatMap quC)] := hmu 0 (show 0 < 1 by omega)
      refine rq_less (l' := (rowE 96 2 v3 es2.length (es2.flatMap quC) :: rowE 96 2 (.slice (some ⟨g2, 0, none⟩) 1 1) 1 ([x.d, x.n].map (Value.int .i64)) :: boxE b1 #[.int .i64 x.d, .int .i64 x.n] 96 :: l)) (sx 36 (congrArg some e6.1) (sub_nil _)) (by first | (simp only [hmu0, e6.2, List.flatMap_cons, List.flatMap_nil, List.append_nil, List.nil_append, List.cons_append]; exact List.Sublist.refl _) | simp [hmu0, e6.2]) ?_
      exact rq_v (rv_loadElN (us := [.int .i64 ((es2.getD j qu0).d), .int .i64 ((es2.getD j qu0).n)]) rfl (by kernel_rfl) (by kernel_rfl) rfl (rd_row 0 rfl) (by omega) rfl (flat_atN quC 2 (fun _ => rfl) es2 qu0 (show j < _ by first | omega | (simp only [List.length_set]; omega)) rfl))
     ·
      intro vf pf hmu hR
      refine Or.inl ⟨rfl, ?_⟩
      show RunQ _ _ _ (([] : List Nat).flatMap pf ++ _) (envOf3 _ vf [] ++ _) _ _
      refine rq_less (sx 0 rfl (sub_nil _)) (List.sublist_append_right _ _) ?_
      exact rq_v (rv_ev rfl)
     ·
      intro vf pf hmu hR
      refine Or.inl ⟨rfl, ?_⟩
      show RunQ _ _ _ (([] : List Nat).flatMap pf ++ _) (envOf3 _ vf [] ++ _) _ _
      refine rq_less (sx 6 rfl (sub_nil _)) (List.sublist_append_right _ _) ?_
      exact rq_v (rv_ev rfl)
     ·
      intro vf pf hmu hR
      have e8 : (vf 8) = v3 ∧ (pf 8) = [] := hR 8 (by decide)
      have e9 : (vf 9) = .int .i64 (((j : Int) - 1) / 2) ∧ (pf 9) = [] := hR 9 (by decide)
      refine Or.inl ⟨rfl, ?_⟩
      show RunQ _ _ _ (([8, 9, 16] : List Nat).flatMap pf ++ _) (envOf3 _ vf [8, 9] ++ _) _ _
      have hmu0 : pf 16 = [rowE 96 2 v3 es2.length (es2.flatMap quC)] := hmu 0 (show 0 < 1 by omega)
      refine rq_less (l' := (rowE 96 2 v3 es2.length (es2.flatMap quC) :: rowE 96 2 (.slice (some ⟨g2, 0, none⟩) 1 1) 1 ([x.d, x.n].map (Value.int .i64)) :: boxE b1 #[.int .i64 x.d, .int .i64 x.n] 96 :: l)) (sx 38 (congrArg some e8.1) (sx 39 (congrArg some e9.1) (sub_nil _))) (by first | (simp only [hmu0, e8.2, e9.2, List.flatMap_cons, List.flatMap_nil, List.append_nil, List.nil_append, List.cons_append]; exact List.Sublist.refl _) | simp [hmu0, e8.2, e9.2]) ?_
      exact rq_v (rv_index (s := 2) rfl Try.underlying93 (by kernel_rfl) rfl rfl (rd_row 0 rfl) (by omega) (by first | omega | (simp only [List.length_set]; omega)))
     ·
      intro vf pf hmu hR
      have e10 : (vf 10) = elP v3 ((((j : Int) - 1) / 2).toNat * 2) ∧ (pf 10) = [] := hR 10 (by decide)
      refine Or.inl ⟨rfl, ?_⟩
      show RunQ _ _ _ (([10, 16] : List Nat).flatMap pf ++ _) (envOf3 _ vf [10] ++ _) _ _
      have hmu0 : pf 16 = [rowE 96 2 v3 es2.length (es2.flatMap quC)] := hmu 0 (show 0 < 1 by omega)
      refine rq_less (l' := (rowE 96 2 v3 es2.length (es2.flatMap quC) :: rowE 96 2 (.slice (some ⟨g2, 0, none⟩) 1 1) 1 ([x.d, x.n].map (Value.int .i64)) :: boxE b1 #[.int .i64 x.d, .int .i64 x.n] 96 :: l)) (sx 40 (congrArg some e10.1) (sub_nil _)) (by first | (simp only [hmu0, e10.2, List.flatMap_cons, List.flatMap_nil, List.append_nil, List.nil_append, List.cons_append]; exact List.Sublist.refl _) | simp [hmu0, e10.2]) ?_
      exact rq_v (rv_loadElN (us := [.int .i64 ((es2.getD ((((j : Int) - 1) / 2).toNat) qu0).d), .int .i64 ((es2.getD ((((j : Int) - 1) / 2).toNat) qu0).n)]) rfl (by kernel_rfl) (by kernel_rfl) rfl (rd_row 0 rfl) (by omega) rfl (flat_atN quC 2 (fun _ => rfl) es2 qu0 (show (((j : Int) - 1) / 2).toNat < _ by first | omega | (simp only [List.length_set]; omega)) rfl))
     ·
      intro vf pf hmu hR
      have e0 : (vf 0) = v3 ∧ (pf 0) = [] := hR 0 (by decide)
      have e1 : (vf 1) = .int .i64 (((j : Int) - 1) / 2) ∧ (pf 1) = [] := hR 1 (by decide)
      refine Or.inl ⟨rfl, ?_⟩
      show RunQ _ _ _ (([0, 1, 16] : List Nat).flatMap pf ++ _) (envOf3 _ vf [0, 1] ++ _) _ _
      have hmu0 : pf 16 = [rowE 96 2 v3 es2.length (es2.flatMap quC)] := hmu 0 (show 0 < 1 by omega)
      refine rq_less (l' := (rowE 96 2 v3 es2.length (es2.flatMap quC) :: rowE 96 2 (.slice (some ⟨g2, 0, none⟩) 1 1) 1 ([x.d, x.n].map (Value.int .i64)) :: boxE b1 #[.int .i64 x.d, .int .i64 x.n] 96 :: l)) (sx 30 (congrArg some e0.1) (sx 31 (congrArg some e1.1) (sub_nil _))) (by first | (simp only [hmu0, e0.2, e1.2, List.flatMap_cons, List.flatMap_nil, List.append_nil, List.nil_append, List.cons_append]; exact List.Sublist.refl _) | simp [hmu0, e0.2, e1.2]) ?_
      exact rq_v (rv_index (s := 2) rfl Try.underlying93 (by kernel_rfl) rfl rfl (rd_row 0 rfl) (by omega) (by first | omega | (simp only [List.length_set]; omega)))
     ·
      intro vf pf hmu hR
      have e7 : (vf 7) = .agg #[.int .i64 ((es2.getD j qu0).d), .int .i64 ((es2.getD j qu0).n)] ∧ (pf 7) = [] := hR 7 (by decide)
      have e12 : (vf 12) = elP v3 ((((j : Int) - 1) / 2).toNat * 2) ∧ (pf 12) = [] := hR 12 (by decide)
      refine Or.inl ⟨rfl, ?_⟩
      show RunM _ _ _ (pf 16) (([7, 12] : List Nat).flatMap pf ++ _) (envOf3 _ vf [7, 12] ++ _) _ _
      have hmu0 : pf 16 = [rowE 96 2 v3 es2.length (es2.flatMap quC)] := hmu 0 (show 0 < 1 by omega)
      rw [hmu0]
      refine rm_less (X' := (rowE 96 2 (.slice (some ⟨g2, 0, none⟩) 1 1) 1 ([x.d, x.n].map (Value.int .i64)) :: boxE b1 #[.int .i64 x.d, .int .i64 x.n] 96 :: l)) (sx 37 (congrArg some e7.1) (sx 42 (congrArg some e12.1) (sub_nil _))) (by first | (simp only [e7.2, e12.2, List.flatMap_cons, List.flatMap_nil, List.append_nil, List.nil_append, List.cons_append]; exact List.Sublist.refl _) | simp [e7.2, e12.2]) ?_
      exact rm_mono (rm_storeElN (us := [.int .i64 ((es2.getD j qu0).d), .int .i64 ((es2.getD j qu0).n)]) (n' := (es2.set ((((j : Int) - 1) / 2).toNat) (es2.getD j qu0)).length) (xs' := ((es2.set ((((j : Int) - 1) / 2).toNat) (es2.getD j qu0)).flatMap quC)) 0 rfl rfl (by kernel_rfl) rfl rfl (all_cons rfl (all_cons rfl all_nil)) rfl (by first | omega | (simp only [List.length_set]; omega)) (by simp only [List.length_cons, List.length_nil]; first | omega | (simp only [List.length_set]; omega)) List.length_set.symm (flat_put quC 2 (fun _ => rfl) _ (es2.getD j qu0) (by first | omega | (simp only [List.length_set]; omega)))) (fun v_ p_ h => by show p_ = [rowE 96 2 v3 ((es2.set ((((j : Int) - 1) / 2).toNat) (es2.getD j qu0)).length) ((es2.set ((((j : Int) - 1) / 2).toNat) (es2.getD j qu0)).flatMap quC)]; exact h)
    ·
     intro vf pf hmu hR
     have e2 : (vf 2) = v3 ∧ (pf 2) = [] := hR 2 (by decide)
     have e3 : (vf 3) = .int .i64 (j : Int) ∧ (pf 3) = [] := hR 3 (by decide)
     have e11 : (vf 11) = .agg #[.int .i64 ((es2.getD ((((j : Int) - 1) / 2).toNat) qu0).d), .int .i64 ((es2.getD ((((j : Int) - 1) / 2).toNat) qu0).n)] ∧ (pf 11) = [] := hR 11 (by decide)
     have e13 : (pf 13) = [rowE 96 2 v3 ((es2.set ((((j : Int) - 1) / 2).toNat) (es2.getD j qu0)).length) ((es2.set ((((j : Int) - 1) / 2).toNat) (es2.getD j qu0)).flatMap quC)] := hR 13 (by decide)
     have p13 := e13
     have q0 : (vf 0) = v3 ∧ (pf 0) = [] := hR 0 (by decide)
     have q1 : (vf 1) = .int .i64 (((j : Int) - 1) / 2) ∧ (pf 1) = [] := hR 1 (by decide)
     have q2 : (vf 2) = v3 ∧ (pf 2) = [] := hR 2 (by decide)
     have q3 : (vf 3) = .int .i64 (j : Int) ∧ (pf 3) = [] := hR 3 (by decide)
     have q4 : (vf 4) = v3 ∧ (pf 4) = [] := hR 4 (by decide)
     have q5 : (vf 5) = .int .i64 (j : Int) ∧ (pf 5) = [] := hR 5 (by decide)
     have q6 : (vf 6) = elP v3 (((j : Int)).toNat * 2) ∧ (pf 6) = [] := hR 6 (by decide)
     have q7 : (vf 7) = .agg #[.int .i64 ((es2.getD j qu0).d), .int .i64 ((es2.getD j qu0).n)] ∧ (pf 7) = [] := hR 7 (by decide)
     have q8 : (vf 8) = v3 ∧ (pf 8) = [] := hR 8 (by decide)
     have q9 : (vf 9) = .int .i64 (((j : Int) - 1) / 2) ∧ (pf 9) = [] := hR 9 (by decide)
     have q10 : (vf 10) = elP v3 ((((j : Int) - 1) / 2).toNat * 2) ∧ (pf 10) = [] := hR 10 (by decide)
     have q11 : (vf 11) = .agg #[.int .i64 ((es2.getD ((((j : Int) - 1) / 2).toNat) qu0).d), .int .i64 ((es2.getD ((((j : Int) - 1) / 2).toNat) qu0).n)] ∧ (pf 11) = [] := hR 11 (by decide)
     have q12 : (vf 12) = elP v3 ((((j : Int) - 1) / 2).toNat * 2) ∧ (pf 12) = [] := hR 12 (by decide)
     refine hl_less (l' := (rowE 96 2 v3 ((es2.set ((((j : Int) - 1) / 2).toNat) (es2.getD j qu0)).length) ((es2.set ((((j : Int) - 1) / 2).toNat) (es2.getD j qu0)).flatMap quC) :: rowE 96 2 (.slice (some ⟨g2, 0, none⟩) 1 1) 1 ([x.d, x.n].map (Value.int .i64)) :: boxE b1 #[.int .i64 x.d, .int .i64 x.n] 96 :: l)) (sx 0 rfl (sx 1 rfl (sx 3 rfl (sx 4 rfl (sx 5 rfl (sx 6 rfl (sx 15 rfl (sx 29 rfl (sx 32 (congrArg some e2.1) (sx 33 (congrArg some e3.1) (sx 41 (congrArg some e11.1) (sub_nil _)))))))))))) (by first | (simp only [p13, q0.2, q1.2, q2.2, q3.2, q4.2, q5.2, q6.2, q7.2, q8.2, q9.2, q10.2, q11.2, q12.2, List.flatMap_cons, List.flatMap_nil, List.append_nil, List.nil_append, List.cons_append]; exact List.Sublist.refl _) | simp [p13, q0.2, q1.2, q2.2, q3.2, q4.2, q5.2, q6.2, q7.2, q8.2, q9.2, q10.2, q11.2, q12.2]) ?_
     simp only [List.drop_succ_cons, List.drop_zero]
     refine hl_v rfl rfl rfl (rv_index (s := 2) rfl Try.underlying93 (by kernel_rfl) rfl rfl (rd_row 0 rfl) (by omega) (by first | omega | (simp only [List.length_set]; omega))) ?_
     refine hl_storeElN (i := 0) (us := [.int .i64 ((es2.getD ((((j : Int) - 1) / 2).toNat) qu0).d), .int .i64 ((es2.getD ((((j : Int) - 1) / 2).toNat) qu0).n)]) (n' := ((es2.set ((((j : Int) - 1) / 2).toNat) (es2.getD j qu0)).set j (es2.getD ((((j : Int) - 1) / 2).toNat) qu0)).length) (xs' := (((es2.set ((((j : Int) - 1) / 2).toNat) (es2.getD j qu0)).set j (es2.getD ((((j : Int) - 1) / 2).toNat) qu0)).flatMap quC)) (l' := (rowE 96 2 v3 (((es2.set ((((j : Int) - 1) / 2).toNat) (es2.getD j qu0)).set j (es2.getD ((((j : Int) - 1) / 2).toNat) qu0)).length) (((es2.set ((((j : Int) - 1) / 2).toNat) (es2.getD j qu0)).set j (es2.getD ((((j : Int) - 1) / 2).toNat) qu0)).flatMap quC) :: rowE 96 2 (.slice (some ⟨g2, 0, none⟩) 1 1) 1 ([x.d, x.n].map (Value.int .i64)) :: boxE b1 #[.int .i64 x.d, .int .i64 x.n] 96 :: l)) rfl rfl rfl (by kernel_rfl) rfl rfl (all_cons rfl (all_cons rfl all_nil)) rfl (by first | omega | (simp only [List.length_set]; omega)) (by simp only [List.length_cons, List.length_nil]; first | omega | (simp only [List.length_set]; omega)) List.length_set.symm (flat_put quC 2 (fun _ => rfl) _ (es2.getD ((((j : Int) - 1) / 2).toNat) qu0) (by first | omega | (simp only [List.length_set]; omega))) rfl ?_
     refine hl_less (sx 0 rfl (sx 1 rfl (sx 3 rfl (sx 4 rfl (sx 5 rfl (sx 6 rfl (sx 15 rfl (sx 29 rfl (sub_nil _))))))))) (.refl _) ?_
     refine hl_nil ?_
     refine hq_then ?_
     refine hc_region ?_
     refine hl_v rfl rfl rfl (rv_ev rfl) ?_
     refine hl_v rfl rfl rfl (rv_ev rfl) ?_
     refine hl_less (sx 0 rfl (sx 1 rfl (sx 3 rfl (sx 4 rfl (sx 5 rfl (sx 6 rfl (sx 15 rfl (sx 29 rfl (sub_nil _))))))))) (.refl _) ?_
     refine hl_nil ?_
     refine hq_block_normal ?_
     refine hq_conv (rowE 96 2 (.slice (some ⟨g2, 0, none⟩) 1 1) 1 ([x.d, x.n].map (Value.int .i64)) :: boxE b1 #[.int .i64 x.d, .int .i64 x.n] 96 :: rowE 96 2 v3 (((es2.set ((((j : Int) - 1) / 2).toNat) (es2.getD j qu0)).set j (es2.getD ((((j : Int) - 1) / 2).toNat) qu0)).length) (((es2.set ((((j : Int) - 1) / 2).toNat) (es2.getD j qu0)).set j (es2.getD ((((j : Int) - 1) / 2).toNat) qu0)).flatMap quC) :: l) (conv_pick (src := [rowE 96 2 v3 (((es2.set ((((j : Int) - 1) / 2).toNat) (es2.getD j qu0)).set j (es2.getD ((((j : Int) - 1) / 2).toNat) qu0)).length) (((es2.set ((((j : Int) - 1) / 2).toNat) (es2.getD j qu0)).set j (es2.getD ((((j : Int) - 1) / 2).toNat) qu0)).flatMap quC), rowE 96 2 (.slice (some ⟨g2, 0, none⟩) 1 1) 1 ([x.d, x.n].map (Value.int .i64)), boxE b1 #[.int .i64 x.d, .int .i64 x.n] 96]) (dst := [rowE 96 2 (.slice (some ⟨g2, 0, none⟩) 1 1) 1 ([x.d, x.n].map (Value.int .i64)), boxE b1 #[.int .i64 x.d, .int .i64 x.n] 96, rowE 96 2 v3 (((es2.set ((((j : Int) - 1) / 2).toNat) (es2.getD j qu0)).set j (es2.getD ((((j : Int) - 1) / 2).toNat) qu0)).length) (((es2.set ((((j : Int) - 1) / 2).toNat) (es2.getD j qu0)).set j (es2.getD ((((j : Int) - 1) / 2).toNat) qu0)).flatMap quC)]) (l := l) [1, 2, 0] (by decide) rfl) ?_
     exact hq_round2 ((j - 1) / 2) ((es2.set ((((j : Int) - 1) / 2).toNat) (es2.getD j qu0)).set j (es2.getD ((((j : Int) - 1) / 2).toNat) qu0)) ⟨by simp only [List.length_set]; omega, by simp only [List.length_set]; omega, (swap_perm qu0 es2 _ _ (by omega) (by omega)).trans hpm⟩ (by omega) (sx 0 rfl (sx 1 rfl (sx 3 rfl (sx 4 rfl (sx 5 (by rw [show (((j - 1) / 2 : Nat) : Int) = ((j : Int) - 1) / 2 by omega]; rfl) (sub_nil _)))))) ((.cons_cons _ (.cons_cons _ (.cons_cons _ (.refl _)))))
 ·
  refine hl_less (sx 0 rfl (sx 1 rfl (sx 3 rfl (sx 4 rfl (sx 5 rfl (sx 15 rfl (sub_nil _))))))) (.refl _) ?_
  refine hl_nil ?_
  refine hq_then ?_
  refine hc_false rfl ?_
  refine hc_exit ?_
  refine hq_then_exit ?_
  refine hq_then_exit ?_
  refine hq_block_exit ?_
  refine hq_then ?_
  refine hc_seq ?_
  refine hc_region ?_
  refine hl_v rfl rfl rfl (rv_ev rfl) ?_
  refine hl_v rfl rfl rfl (rv_ev rfl) ?_
  refine hl_less (sx 0 rfl (sx 1 rfl (sx 3 rfl (sx 4 rfl (sx 5 rfl (sx 15 rfl (sub_nil _))))))) (.refl _) ?_
  refine hl_nil ?_
  refine hq_then ?_
  refine hc_ret ?_
  exact hq_retMut (p' := rowE 96 2 v3 es2.length (es2.flatMap quC)) rfl rfl ((.cons _ (.cons _ (.cons_cons _ (.refl _))))) ⟨es2, rfl, hpm⟩
end Go.Proofs.Ytagjmgfcbmbkhaa
