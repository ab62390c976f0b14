/- Texts of the law FnConnsComplete, part 5: what it uses. -/
import Derived.Test.YteikplehipifkaaCnc4
set_option linter.unusedVariables false
set_option linter.unusedSimpArgs false
set_option maxHeartbeats 4000000
set_option maxRecDepth 100000
namespace Go.Proofs.Yteikplehipifkaa
open Go.RowKit Go.ChangeShapes
open Go.RowKit
theorem zoh (xs ys : List Int) : ∀ i, i ≤ xs.length → (setL xs ys i).Pairwise (· < ·) ∧ (∀ x, x ∈ setL xs ys i ↔ x ∈ (sortR xs).take i ∧ 0 < x ∧ hasB ys x = false)
  | 0, _ => ⟨.nil, fun x => by simp [setL]⟩
  | i + 1, hi => by
    obtain ⟨h1, h2⟩ := zoh xs ys i (by omega)
    have hl := zgf xs
    have hsr := zlj xs
    have htk := zdb (l := sortR xs) (k := i) 0 (by omega)
    have hle : ∀ x ∈ (sortR xs).take i, x ≤ (sortR xs).getD i 0 := fun x hx => by
      obtain ⟨j, hj, e⟩ := zwj (0 : Int) hx
      rw [List.length_take] at hj
      have hj' : j < i := by omega
      have := List.pairwise_iff_getElem.1 hsr j i (by omega) (by omega) hj'
      rw [← e, List.getD_eq_getElem?_getD, List.getElem?_take, if_pos hj', List.getElem?_eq_getElem (by omega), List.getD_eq_getElem?_getD, List.getElem?_eq_getElem (by omega)]
      exact this
    show (setA ys (setL xs ys i) ((sortR xs).getD i 0)).Pairwise _ ∧ ∀ x, x ∈ setA ys (setL xs ys i) ((sortR xs).getD i 0) ↔ _
    rw [htk]
    generalize hx0 : (sortR xs).getD i 0 = x0 at hle ⊢
    generalize hacc : setL xs ys i = acc at h1 h2 ⊢
    have hlast : acc.length ≠ 0 → acc.getD ((acc.length : Int) - 1).toNat 0 ∈ acc := fun h => zbl (by omega)
    have hmax : ∀ y ∈ acc, y ≤ acc.getD ((acc.length : Int) - 1).toNat 0 := fun y hy => by
      obtain ⟨j, hj, e⟩ := zwj (0 : Int) hy
      by_cases ej : j = acc.length - 1
      · rw [← e, ej, show ((acc.length : Int) - 1).toNat = acc.length - 1 by omega]; exact Int.le_refl _
      · have := List.pairwise_iff_getElem.1 h1 j (acc.length - 1) (by omega) (by omega) (by omega)
        rw [← e, List.getD_eq_getElem?_getD, List.getElem?_eq_getElem hj, show ((acc.length : Int) - 1).toNat = acc.length - 1 by omega, List.getD_eq_getElem?_getD, List.getElem?_eq_getElem (show acc.length - 1 < acc.length by omega)]
        exact Int.le_of_lt this
    unfold setA
    split
    · rename_i hc
      obtain ⟨⟨c1, c2⟩, c3⟩ := hc
      have hlt : ∀ y ∈ acc, y < x0 := fun y hy => by
        have hy1 := hle y ((h2 y).1 hy).1
        by_cases e : y = x0
        · rcases c3 with c3 | c3
          · rw [List.length_eq_zero_iff.1 c3] at hy; cases hy
          · have hm1 := hmax y hy
            have hm2 := hle _ ((h2 _).1 (hlast (fun h0 => by rw [List.length_eq_zero_iff.1 h0] at hy; cases hy))).1
            exact absurd (by omega) c3
        · omega
      refine ⟨List.pairwise_append.2 ⟨h1, List.pairwise_singleton _ _, fun y hy z hz => by rw [List.mem_singleton] at hz; subst hz; exact hlt y hy⟩, fun x => ?_⟩
      rw [List.mem_append, List.mem_append, List.mem_singleton, h2 x]
      constructor
      · rintro (⟨a, b⟩ | rfl)
        · exact ⟨.inl a, b⟩
        · exact ⟨.inr rfl, c1, c2⟩
      · rintro ⟨a | rfl, b⟩
        · exact .inl ⟨a, b⟩
        · exact .inr rfl
    · rename_i hc
      refine ⟨h1, fun x => ?_⟩
      rw [List.mem_append, List.mem_singleton, h2 x]
      constructor
      · rintro ⟨a, b⟩; exact ⟨.inl a, b⟩
      · rintro ⟨a | rfl, b⟩
        · exact ⟨a, b⟩
        · have h0 : acc.length ≠ 0 ∧ acc.getD ((acc.length : Int) - 1).toNat 0 = x := by
            apply Classical.byContradiction; intro hn
            refine hc ⟨b, ?_⟩
            by_cases e : acc.length = 0
            · exact .inl e
            · exact .inr (fun h => hn ⟨e, h⟩)
          have := hlast h0.1
          rw [h0.2] at this
          exact ⟨((h2 x).1 this).1, b⟩
theorem zps (xs ys : List Int) : (setK xs ys).Pairwise (· < ·) := (zoh xs ys xs.length (Nat.le_refl _)).1
theorem zhc {xs ys : List Int} {x : Int} : x ∈ setK xs ys ↔ x ∈ xs ∧ 0 < x ∧ x ∉ ys := by
  unfold setK
  rw [(zoh xs ys xs.length (Nat.le_refl _)).2 x, List.take_of_length_le (by rw [zgf]; exact Nat.le_refl _), (zof xs).mem_iff, ← Bool.not_eq_true, zkh]
def allUse (n : Ln) : List Int := n.ls.flatMap Lt.xs ++ n.ss.flatMap Sq.xs ++ n.os
theorem zjg {zs xs : List Int} {q : Nat} (hq : q < zs.length) (hx : ∀ j, j < xs.length → 0 ≤ xs.getD j 0) : ∀ k, k ≤ xs.length → (incT zs xs k).getD q 0 = zs.getD q 0 + ((xs.take k).count (q : Int) : Int)
  | 0, _ => by simp [incT]
  | k + 1, hk => by
    have ih := zjg hq hx k (by omega)
    have h0 := hx k (by omega)
    show (List.set _ _ _).getD q 0 = _
    rw [zkj, zdb 0 (show k < xs.length by omega), List.count_append, zib]
    by_cases e : (xs.getD k 0).toNat = q
    · have e2 : xs.getD k 0 = (q : Int) := by omega
      rw [if_pos ⟨e, by omega⟩, e, ih, e2, List.count_singleton_self]; omega
    · rw [if_neg (fun h => e h.1), ih, List.count_eq_zero.2 (show (q : Int) ∉ [xs.getD k 0] by rw [List.mem_singleton]; omega)]; omega
theorem rep0Q (n q : Nat) : (List.replicate n (0 : Int)).getD q 0 = 0 := by have := zfd n 0 q; omega
theorem zsh {n : Ln} (hok : LnOk n) {q : Nat} (hq : q < n.cnt.toNat) : ∀ i, i ≤ n.ls.length → (usA n i).getD q 0 = (((n.ls.take i).flatMap Lt.xs).count (q : Int) : Int)
  | 0, _ => by show (List.replicate _ _).getD q 0 = _; rw [rep0Q]; simp
  | i + 1, hi => by
    show (incT (usA n i) _ _).getD q 0 = _
    rw [zjg (by rw [zob]; exact hq) (fun j hj => ((hok.lt i (by omega)).1.2 j hj).1) _ (Nat.le_refl _), zsh hok hq i (by omega), List.take_of_length_le (Nat.le_refl _), zdb lt0 (show i < n.ls.length by omega), List.flatMap_append, List.count_append]
    simp
theorem zsg {n : Ln} (hok : LnOk n) {q : Nat} (hq : q < n.cnt.toNat) : ∀ i, i ≤ n.ss.length → (usB n i).getD q 0 = ((n.ls.flatMap Lt.xs ++ (n.ss.take i).flatMap Sq.xs).count (q : Int) : Int)
  | 0, _ => by
    show (usA n n.ls.length).getD q 0 = _
    rw [zsh hok hq _ (Nat.le_refl _), List.take_of_length_le (Nat.le_refl _)]; simp
  | i + 1, hi => by
    show (incT (usB n i) _ _).getD q 0 = _
    rw [zjg (by rw [zle]; exact hq) (fun j hj => ((hok.sq i (by omega)).2 j hj).1) _ (Nat.le_refl _), zsg hok hq i (by omega), List.take_of_length_le (Nat.le_refl _), zdb sq0 (show i < n.ss.length by omega), List.flatMap_append, ← List.append_assoc, List.count_append (l₁ := _ ++ _)]
    simp
theorem zsf {n : Ln} (hok : LnOk n) {q : Nat} (hq : q < n.cnt.toNat) : (usK n).getD q 0 = ((allUse n).count (q : Int) : Int) := by
  unfold usK
  rw [zjg (by rw [zle]; exact hq) (fun j hj => (hok.ou j hj).1) _ (Nat.le_refl _), zsg hok hq _ (Nat.le_refl _), List.take_of_length_le (Nat.le_refl _), List.take_of_length_le (Nat.le_refl _)]
  unfold allUse
  rw [List.count_append (l₁ := _ ++ _)]; omega
theorem zlq {α : Type} {g : α → List Int} {d : α} {v : Int} {L : List α} {i : Nat} (hi : i < L.length) (h : v ∈ g (L.getD i d)) : 1 ≤ (L.flatMap g).count v := List.count_pos_iff.2 (List.mem_flatMap.2 ⟨_, zbl hi, h⟩)
theorem zjd {α : Type} {g : α → List Int} (d : α) {v : Int} : ∀ {L : List α} {i j : Nat}, i < j → j < L.length → v ∈ g (L.getD i d) → v ∈ g (L.getD j d) → 2 ≤ (L.flatMap g).count v
  | a :: L, 0, j + 1, _, hj, h1, h2 => by
    have hj' : j < L.length := by simpa using hj
    rw [List.flatMap_cons, List.count_append]
    have := List.count_pos_iff.2 (show v ∈ g a from h1)
    have := zlq hj' (show v ∈ g (L.getD j d) from h2)
    omega
  | a :: L, i + 1, j + 1, hij, hj, h1, h2 => by
    have := zjd d (L := L) (i := i) (j := j) (by omega) (by simpa using hj) h1 h2
    rw [List.flatMap_cons, List.count_append]; omega
theorem zmq {α : Type} {g : α → List Int} (d : α) {v : Int} {L : List α} {i j : Nat} (hij : i ≠ j) (hi : i < L.length) (hj : j < L.length) (h1 : v ∈ g (L.getD i d)) (h2 : v ∈ g (L.getD j d)) : 2 ≤ (L.flatMap g).count v := by
  rcases Nat.lt_or_gt_of_ne hij with h | h
  · exact zjd d h hj h1 h2
  · exact zjd d h hi h2 h1
theorem zgr {α : Type} {f g : α → List Int} {x y : Int} : ∀ {L : List α}, (∀ b ∈ L, (f b).count x = (g b).count y) → (L.flatMap f).count x = (L.flatMap g).count y
  | [], _ => rfl
  | a :: L, h => by
    rw [List.flatMap_cons, List.flatMap_cons, List.count_append, List.count_append, h a (by simp), zgr (L := L) fun b hb => h b (by simp [hb])]
def bI (b : Bk) : List Int := if b.kd = 0 then [b.it] else []
def bO (b : Bk) : List Int := if b.kd = 1 then [b.it] else []
def bF (e : Le) : List Int := if 0 ≤ e.f then [e.f] else []
def bU (e : Le) : List Int := if 0 ≤ e.u then [e.u] else []
def bR (b : Bk) : List Int := if b.kd = 2 then [b.it] else []
def bS (b : Bk) : List Int := bR b ++ b.es.flatMap bF
def bL (b : Bk) : List Int := b.es.flatMap bU
structure PkOk (n : Ln) (bs : List Bk) : Prop where
  len : bs.length ≤ 64
  bl : ∀ b ∈ bs, BlP n b
  ci : ∀ x : Int, 0 ≤ x → x < n.ins → (bs.flatMap bI).count x = 1
  co : ∀ x : Int, 0 ≤ x → x < n.os.length → (bs.flatMap bO).count x = 1
  cs : ∀ x : Int, 0 ≤ x → x < n.ss.length → (bs.flatMap bS).count x = 1
  cl : ∀ x : Int, 0 ≤ x → x < n.ls.length → (bs.flatMap bL).count x = 1
theorem zqb (n : Ln) (es : List Le) : ∀ k, k ≤ es.length → outL n es k = (es.take k).map (outK n)
  | 0, _ => rfl
  | k + 1, hk => by
    show outL n es k ++ _ = _
    rw [zqb n es k (by omega), zdb le0 (show k < es.length by omega), List.map_append]; rfl
theorem BlP.kind {n : Ln} {b : Bk} (h : BlP n b) : b.kd = 0 ∨ b.kd = 1 ∨ b.kd = 2 ∨ b.kd = 3 := by
  rcases h.1 with ⟨p, -⟩ | ⟨p, -⟩ | ⟨p, -⟩ | ⟨p, -⟩
  · exact .inl p
  · exact .inr (.inl p)
  · exact .inr (.inr (.inl p))
  · exact .inr (.inr (.inr p))
theorem zje {n : Ln} {b : Bk} (h : BlP n b) : outNd n b = if b.kd = 0 then [1 + b.it] else if b.kd = 1 then [] else if b.kd = 2 then [1 + n.ins + b.it] else b.es.map (outK n) := by
  unfold outNd
  rw [if_neg (not_not_intro h.1), zqb n b.es _ (Nat.le_refl _), List.take_of_length_le (Nat.le_refl _)]
theorem pinN_eq {n : Ln} {b : Bk} (h : BlP n b) : pinN n b = if b.kd = 0 then [] else if b.kd = 1 then [n.os.getD b.it.toNat 0] else if b.kd = 2 then (n.ss.getD b.it.toNat sq0).xs else pinsK n b.es := by
  unfold pinN
  rw [if_neg (not_not_intro h.1)]
theorem BlP.le {n : Ln} {b : Bk} (h : BlP n b) (hk : b.kd = 3) {e : Le} (he : e ∈ b.es) : LeP n e := by
  obtain ⟨k, hk', rfl⟩ := zwj le0 he
  rcases h.1 with ⟨p, -⟩ | ⟨p, -⟩ | ⟨p, -⟩ | ⟨p, q⟩
  · omega
  · omega
  · omega
  · exact q k hk'
theorem BlP.nes {n : Ln} {b : Bk} (h : BlP n b) (hk : b.kd ≠ 3) : b.es = [] := List.length_eq_zero_iff.1 (h.2.2 hk).1
theorem bU_one {n : Ln} {e : Le} (h : LeP n e) : ∀ {v : Int}, n.fst ≤ v → 0 ≤ n.ins → ([outK n e].count v = (if e.f < 0 then [e.u] else []).count (v - n.fst)) := fun {v} hv hi => by
  obtain ⟨⟨⟨a, b⟩, ⟨c, d⟩, g⟩, -, -⟩ := h
  unfold outK
  have hf : n.fst = 1 + n.ins + (n.ss.length : Int) := rfl
  by_cases e0 : 0 ≤ e.f
  · rw [if_pos e0, if_neg (by omega), List.count_eq_zero.2 (by rw [List.mem_singleton]; omega)]; rfl
  · rw [if_neg e0, if_pos (by omega), List.count_singleton, List.count_singleton]
    have : (n.fst + e.u == v) = (e.u == v - n.fst) := by
      by_cases h9 : n.fst + e.u = v
      · rw [beq_iff_eq.2 h9, beq_iff_eq.2 (by omega)]
      · rw [beq_eq_false_iff_ne.2 h9, beq_eq_false_iff_ne.2 (by omega)]
    rw [this]
theorem zqi {α : Type} (f : α → Int) (L : List α) : L.map f = L.flatMap (fun a => [f a]) := by
  induction L with
  | nil => rfl
  | cons a L ih => rw [List.map_cons, List.flatMap_cons, ih]; rfl
theorem zpi (x y a b : Int) (h : (a = x) ↔ (b = y)) : [a].count x = [b].count y := by
  rw [List.count_singleton, List.count_singleton]
  have : (a == x) = (b == y) := by
    by_cases h9 : a = x
    · rw [beq_iff_eq.2 h9, beq_iff_eq.2 (h.1 h9)]
    · rw [beq_eq_false_iff_ne.2 h9, beq_eq_false_iff_ne.2 (fun e => h9 (h.2 e))]
  rw [this]
theorem out_in {n : Ln} (hok : LnOk n) {bs : List Bk} (h : PkOk n bs) {v : Int} (h1 : 1 ≤ v) (h2 : v ≤ n.ins) : (bs.flatMap (outNd n)).count v = 1 := by
  rw [← h.ci (v - 1) (by omega) (by omega)]
  refine zgr fun b hb => ?_
  have hb := h.bl b hb
  have hr := hb.rng
  have hf : n.fst = 1 + n.ins + (n.ss.length : Int) := rfl
  rw [zje hb]; unfold bI
  split
  · exact zpi _ _ _ _ (by omega)
  · split
    · rfl
    · split
      · rw [List.count_eq_zero.2 (by rw [List.mem_singleton]; omega)]; rfl
      · have h3 : b.kd = 3 := by have := hb.kind; omega
        rw [List.count_eq_zero.2 ?_]; rfl
        intro hm
        obtain ⟨e, he, hv⟩ := List.mem_map.1 hm
        obtain ⟨⟨a, b⟩, ⟨c, d⟩, g⟩ := (hb.le h3 he).1
        unfold outK at hv; split at hv <;> omega
theorem out_sq {n : Ln} (hok : LnOk n) {bs : List Bk} (h : PkOk n bs) {v : Int} (h1 : n.ins < v) (h2 : v < n.fst) : (bs.flatMap (outNd n)).count v = 1 := by
  have hi := hok.sz.i.1
  have hf : n.fst = 1 + n.ins + (n.ss.length : Int) := rfl
  rw [← h.cs (v - 1 - n.ins) (by omega) (by omega)]
  refine zgr fun b hb => ?_
  have hb := h.bl b hb
  have hr := hb.rng
  rw [zje hb]; unfold bS bR
  by_cases e0 : b.kd = 0
  · rw [if_pos e0, if_neg (by omega), hb.nes (by omega), List.count_eq_zero.2 (by rw [List.mem_singleton]; omega)]; rfl
  · rw [if_neg e0]
    by_cases e1 : b.kd = 1
    · rw [if_pos e1, if_neg (by omega), hb.nes (by omega)]; rfl
    · rw [if_neg e1]
      by_cases e2 : b.kd = 2
      · rw [if_pos e2, if_pos e2, hb.nes (by omega)]
        exact zpi _ _ _ _ (by omega)
      · rw [if_neg e2, if_neg e2, List.nil_append, zqi]
        have h3 : b.kd = 3 := by have := hb.kind; omega
        refine zgr fun e he => ?_
        obtain ⟨⟨a, b⟩, ⟨c, d⟩, g⟩ := (hb.le h3 he).1
        unfold outK bF
        split
        · exact zpi _ _ _ _ (by omega)
        · rw [List.count_eq_zero.2 (by rw [List.mem_singleton]; omega)]; rfl
def bV (e : Le) : List Int := if e.f < 0 then [e.u] else []
theorem out_lt {n : Ln} (hok : LnOk n) {bs : List Bk} (h : PkOk n bs) {v : Int} (h1 : n.fst ≤ v) : (bs.flatMap (outNd n)).count v = ((bs.flatMap Bk.es).flatMap bV).count (v - n.fst) := by
  have hi := hok.sz.i.1
  have hf : n.fst = 1 + n.ins + (n.ss.length : Int) := rfl
  rw [List.flatMap_assoc]
  refine zgr fun b hb => ?_
  have hb := h.bl b hb
  have hr := hb.rng
  rw [zje hb]
  by_cases e0 : b.kd = 0
  · rw [if_pos e0, hb.nes (by omega), List.count_eq_zero.2 (by rw [List.mem_singleton]; omega)]; rfl
  · rw [if_neg e0]
    by_cases e1 : b.kd = 1
    · rw [if_pos e1, hb.nes (by omega)]; rfl
    · rw [if_neg e1]
      by_cases e2 : b.kd = 2
      · rw [if_pos e2, hb.nes (by omega), List.count_eq_zero.2 (by rw [List.mem_singleton]; omega)]; rfl
      · rw [if_neg e2, zqi]
        have h3 : b.kd = 3 := by have := hb.kind; omega
        exact zgr fun e he => bU_one (hb.le h3 he) h1 hi
theorem bV_sub (L : List Le) (x : Int) (hx : 0 ≤ x) : (L.flatMap bV).count x ≤ (L.flatMap bU).count x := by
  induction L with
  | nil => exact Nat.le_refl _
  | cons e L ih =>
    rw [List.flatMap_cons, List.flatMap_cons, List.count_append, List.count_append]
    refine Nat.add_le_add ?_ ih
    unfold bV bU
    by_cases h1 : e.f < 0
    · rw [if_pos h1]
      by_cases h2 : 0 ≤ e.u
      · rw [if_pos h2]; exact Nat.le_refl _
      · rw [List.count_eq_zero.2 (by rw [List.mem_singleton]; omega)]; exact Nat.zero_le _
    · rw [if_neg h1]; exact Nat.zero_le _
theorem bF_sub (bs : List Bk) (x : Int) : ((bs.flatMap Bk.es).flatMap bF).count x ≤ (bs.flatMap bS).count x := by
  induction bs with
  | nil => exact Nat.le_refl _
  | cons b bs ih =>
    rw [List.flatMap_cons, List.flatMap_cons, List.flatMap_append, List.count_append, List.count_append]
    have : (b.es.flatMap bF).count x ≤ (bS b).count x := by unfold bS; rw [List.count_append]; omega
    omega
theorem zsx {n : Ln} (hok : LnOk n) {bs : List Bk} (h : PkOk n bs) {v : Int} (hv : 0 < v) {b : Bk} (hb : b ∈ bs) (hp : v ∈ pinN n b) : (bs.flatMap (outNd n)).count v = 1 := by
  have hbp := h.bl b hb
  have hr := hbp.rng
  have hcn : n.cnt = n.fst + (n.ls.length : Int) := rfl
  have hf : n.fst = 1 + n.ins + (n.ss.length : Int) := rfl
  have hi := hok.sz.i.1
  -- where the pin's node comes from
  have hsrc : (b.kd = 1 ∧ v ∈ n.os) ∨ (∃ j, j < n.ss.length ∧ v ∈ (n.ss.getD j sq0).xs ∧ ((n.ss.getD j sq0).kd = 1 ∨ ∃ e ∈ b.es, e.f = (j : Int) ∧ e.u < 0)) ∨ (∃ i, i < n.ls.length ∧ v ∈ (n.ls.getD i lt0).xs) := by
    rw [pinN_eq hbp] at hp
    split at hp
    · cases hp
    · split at hp
      · rename_i e1
        rw [List.mem_singleton] at hp
        exact .inl ⟨e1, by rw [hp]; exact zbl (by have := hr.2.1 e1; omega)⟩
      · split at hp
        · rename_i e0 e1 e2
          exact .inr (.inl ⟨b.it.toNat, by have := hr.2.2.1 e2; omega, hp, .inl ((hbp.2.2 (by omega)).2 e2)⟩)
        · rename_i e0 e1 e2
          have h3 : b.kd = 3 := by have := hbp.kind; omega
          have hp2 := (zhc.1 hp).1
          have hin : ∀ k, k ≤ b.es.length → v ∈ insL n b.es k → ∃ e ∈ b.es, v ∈ insK n e := by
            intro k
            induction k with
            | zero => intro _ h9; cases h9
            | succ k ih =>
              intro hk h9
              rcases List.mem_append.1 (show v ∈ insL n b.es k ++ insK n (b.es.getD k le0) from h9) with h9 | h9
              · exact ih (by omega) h9
              · exact ⟨_, zbl (by omega), h9⟩
          obtain ⟨e, he, hve⟩ := hin _ (Nat.le_refl _) hp2
          obtain ⟨⟨a, b'⟩, ⟨c, d⟩, g⟩ := (hbp.le h3 he).1
          unfold insK at hve
          split at hve
          · exact .inr (.inr ⟨e.u.toNat, by omega, (zhc.1 hve).1⟩)
          · exact .inr (.inl ⟨e.f.toNat, by omega, (zhc.1 hve).1, .inr ⟨e, he, by omega, by omega⟩⟩)
  have hvc : v < n.cnt := by
    rcases hsrc with ⟨-, h9⟩ | ⟨j, hj, h9, -⟩ | ⟨i, hi9, h9⟩
    · obtain ⟨k, hk, e⟩ := zwj (0 : Int) h9; have := hok.ou k hk; omega
    · obtain ⟨k, hk, e⟩ := zwj (0 : Int) h9; have := (hok.sq j hj).2 k hk; omega
    · obtain ⟨k, hk, e⟩ := zwj (0 : Int) h9; have := (hok.lt i hi9).1.2 k hk; omega
  by_cases c1 : v ≤ n.ins
  · exact out_in hok h (by omega) c1
  by_cases c2 : v < n.fst
  · exact out_sq hok h (by omega) c2
  -- a LUT's node
  rw [out_lt hok h (by omega)]
  have hcl := h.cl (v - n.fst) (by omega) (by omega)
  have hLL : (bs.flatMap bL) = (bs.flatMap Bk.es).flatMap bU := by rw [List.flatMap_assoc]; rfl
  rw [hLL] at hcl
  have hle := bV_sub (bs.flatMap Bk.es) (v - n.fst) (by omega)
  have hmem := List.count_pos_iff.1 (show 0 < ((bs.flatMap Bk.es).flatMap bU).count (v - n.fst) by omega)
  obtain ⟨e, he, hu⟩ := List.mem_flatMap.1 hmem
  have heu : 0 ≤ e.u ∧ e.u = v - n.fst := by
    unfold bU at hu; split at hu
    · rw [List.mem_singleton] at hu; exact ⟨by omega, hu.symm⟩
    · cases hu
  by_cases hef : e.f < 0
  · have : 0 < ((bs.flatMap Bk.es).flatMap bV).count (v - n.fst) := List.count_pos_iff.2 (List.mem_flatMap.2 ⟨e, he, by unfold bV; rw [if_pos hef, List.mem_singleton]; omega⟩)
    omega
  · exfalso
    obtain ⟨c, hc, hec⟩ := List.mem_flatMap.1 he
    have hcp := h.bl c hc
    have hc3 : c.kd = 3 := Classical.byContradiction fun h9 => by rw [hcp.nes h9] at hec; cases hec
    obtain ⟨⟨⟨ea, eb⟩, ⟨ec, ed⟩, eg⟩, e6, e7⟩ := hcp.le hc3 hec
    obtain ⟨e8, e9⟩ := e7 heu.1 (by omega)
    have hk0 := e6 (by omega)
    rw [zsf hok (by omega), show (((n.fst + e.u).toNat : Nat) : Int) = v by omega] at e9
    have hx : v ∈ (n.ss.getD e.f.toNat sq0).xs := by
      rw [show v = (n.ss.getD e.f.toNat sq0).xs.getD 0 0 by rw [e8]; omega]
      refine zbl ?_
      rcases (hok.sq e.f.toNat (by omega)).1.kind with ⟨-, -, q⟩ | ⟨q, -⟩ <;> omega
    have hs1 := zlq (g := Sq.xs) (L := n.ss) (show e.f.toNat < n.ss.length by omega) hx
    have hall : (allUse n).count v = 1 := by omega
    unfold allUse at hall
    rw [List.count_append, List.count_append] at hall
    rcases hsrc with ⟨-, h9⟩ | ⟨j, hj, h9, h10⟩ | ⟨i, hi9, h9⟩
    · have := List.count_pos_iff.2 h9; omega
    · have hne : j ≠ e.f.toNat := fun hje => by
        rcases h10 with h10 | ⟨e', he', h11, h12⟩
        · rw [hje] at h10; omega
        · -- the same flip-flop in two elements
          have he2 : e' ∈ bs.flatMap Bk.es := List.mem_flatMap.2 ⟨b, hb, he'⟩
          obtain ⟨p, hp1, hp2⟩ := zwj le0 he
          obtain ⟨q, hq1, hq2⟩ := zwj le0 he2
          have hpq : p ≠ q := fun hpq => by rw [hpq, hq2] at hp2; rw [hp2] at h12; omega
          have h2 := zmq (g := bF) (v := e.f) le0 hpq hp1 hq1 (by rw [hp2]; unfold bF; rw [if_pos (by omega)]; simp) (by rw [hq2]; unfold bF; rw [if_pos (by omega), List.mem_singleton]; omega)
          have hcs := h.cs e.f (by omega) (by omega)
          have hsub : ((bs.flatMap Bk.es).flatMap bF).count e.f ≤ (bs.flatMap bS).count e.f := bF_sub bs e.f
          omega
      have := zmq (g := Sq.xs) (v := v) sq0 hne hj (by omega) h9 hx
      omega
    · have := zlq (g := Lt.xs) (L := n.ls) hi9 h9; omega
theorem zno {α : Type} (zs : List α) (j q : Nat) (v d : α) : (zs.set j v).getD q d = if j = q ∧ j < zs.length then v else zs.getD q d := by
  rw [List.getD_eq_getElem?_getD, List.getD_eq_getElem?_getD, List.getElem?_set]
  by_cases h : j = q
  · subst h
    by_cases h2 : j < zs.length
    · simp [h2]
    · simp [h2]
  · simp [h]
def luF (n : Ln) (i : Nat) : Int := if n.fst ≤ (n.ss.getD i sq0).xs.getD 0 0 ∧ (usK n).getD ((n.ss.getD i sq0).xs.getD 0 0).toNat 0 = 1 then (n.ss.getD i sq0).xs.getD 0 0 - n.fst else -1
def lesA (n : Ln) : Nat → List Le
  | 0 => []
  | i + 1 => if (n.ss.getD i sq0).kd = 0 then lesA n i ++ [⟨luF n i, (i : Int)⟩] else lesA n i
def lesB (n : Ln) : Nat → List Le
  | 0 => lesA n n.ss.length
  | k + 1 => if (k : Int) ∈ (lesA n n.ss.length).map Le.u then lesB n k else lesB n k ++ [⟨(k : Int), -1⟩]
def lesK (n : Ln) : List Le := lesB n n.ls.length
theorem zot (n : Ln) : ∀ i, (lesA n i).length ≤ i
  | 0 => Nat.le_refl _
  | i + 1 => by
    have := zot n i
    unfold lesA; split
    · rw [List.length_append, List.length_singleton]; omega
    · omega
theorem zos (n : Ln) : ∀ k, (lesB n k).length ≤ n.ss.length + k
  | 0 => zot n _
  | k + 1 => by
    have := zos n k
    unfold lesB; split
    · omega
    · rw [List.length_append, List.length_singleton]; omega
theorem ztf {n : Ln} (hok : LnOk n) {i : Nat} (hi : i < n.ss.length) (hk : (n.ss.getD i sq0).kd = 0) : -1 ≤ luF n i ∧ luF n i < n.ls.length := by
  have hcn : n.cnt = n.fst + (n.ls.length : Int) := rfl
  have hx := (hok.sq i hi).2 0 (by rcases (hok.sq i hi).1.kind with ⟨-, -, q⟩ | ⟨q, -⟩ <;> omega)
  unfold luF; split <;> omega
theorem zjf {n : Ln} {e : Le} : ∀ {i : Nat}, e ∈ lesA n i → ∃ j, j < i ∧ (n.ss.getD j sq0).kd = 0 ∧ e = ⟨luF n j, (j : Int)⟩
  | i + 1, h => by
    unfold lesA at h
    split at h
    · rcases List.mem_append.1 h with h | h
      · obtain ⟨j, h1, h2⟩ := zjf h; exact ⟨j, by omega, h2⟩
      · exact ⟨i, by omega, by assumption, List.mem_singleton.1 h⟩
    · obtain ⟨j, h1, h2⟩ := zjf h; exact ⟨j, by omega, h2⟩
theorem zlu {n : Ln} {e : Le} : ∀ {k : Nat}, e ∈ lesB n k → e ∈ lesA n n.ss.length ∨ ∃ j, j < k ∧ e = ⟨(j : Int), -1⟩
  | 0, h => .inl h
  | k + 1, h => by
    unfold lesB at h
    split at h
    · rcases zlu h with h | ⟨j, h1, h2⟩
      · exact .inl h
      · exact .inr ⟨j, by omega, h2⟩
    · rcases List.mem_append.1 h with h | h
      · rcases zlu h with h | ⟨j, h1, h2⟩
        · exact .inl h
        · exact .inr ⟨j, by omega, h2⟩
      · exact .inr ⟨k, by omega, List.mem_singleton.1 h⟩
theorem zor {n : Ln} (hok : LnOk n) {e : Le} (h : e ∈ lesK n) : LeP n e := by
  rcases zlu h with h | ⟨j, h1, rfl⟩
  · obtain ⟨j, h1, h2, rfl⟩ := zjf h
    have hr := ztf hok h1 h2
    refine ⟨⟨hr, ⟨by show (-1 : Int) ≤ j; omega, by show (j : Int) < _; omega⟩, .inr (by show (0 : Int) ≤ j; omega)⟩, fun _ => by show (n.ss.getD (j : Int).toNat sq0).kd = 0; rw [Int.toNat_natCast]; exact h2, fun h3 _ => ?_⟩
    have h3' : 0 ≤ luF n j := h3
    show (n.ss.getD (j : Int).toNat sq0).xs.getD 0 0 = n.fst + luF n j ∧ (usK n).getD (n.fst + luF n j).toNat 0 = 1
    rw [Int.toNat_natCast]
    unfold luF at h3' ⊢
    split at h3'
    · rename_i hc
      rw [if_pos hc]
      exact ⟨by omega, by rw [show n.fst + ((n.ss.getD j sq0).xs.getD 0 0 - n.fst) = (n.ss.getD j sq0).xs.getD 0 0 by omega]; exact hc.2⟩
    · omega
  · exact ⟨⟨⟨by show (-1 : Int) ≤ j; omega, by show (j : Int) < _; omega⟩, ⟨by show (-1 : Int) ≤ -1; omega, by show (-1 : Int) < _; omega⟩, .inl (by show (0 : Int) ≤ j; omega)⟩, fun h9 => absurd h9 (by show ¬ (0 : Int) ≤ -1; omega), fun _ h9 => absurd h9 (by show ¬ (0 : Int) ≤ -1; omega)⟩
theorem zwp (n : Ln) (y : Nat) : ∀ i, ((lesA n i).flatMap bF).count (y : Int) = if y < i ∧ (n.ss.getD y sq0).kd = 0 then 1 else 0
  | 0 => by rw [if_neg (by omega)]; rfl
  | i + 1 => by
    have ih := zwp n y i
    unfold lesA
    by_cases hk : (n.ss.getD i sq0).kd = 0
    · rw [if_pos hk, List.flatMap_append, List.count_append, ih, List.flatMap_cons, List.flatMap_nil, List.append_nil]
      unfold bF
      rw [if_pos (show (0 : Int) ≤ (Le.mk (luF n i) (i : Int)).f from (by show (0 : Int) ≤ (i : Int); omega)), List.count_singleton]
      by_cases e : i = y
      · subst e; rw [if_neg (by omega), if_pos (by exact beq_self_eq_true _), if_pos ⟨by omega, hk⟩]
      · rw [if_neg (show ¬ (((Le.mk (luF n i) (i : Int)).f == (y : Int)) = true) by rw [beq_iff_eq]; show ¬ (i : Int) = y; omega)]
        by_cases h : y < i ∧ (n.ss.getD y sq0).kd = 0
        · rw [if_pos h, if_pos ⟨by omega, h.2⟩]
        · rw [if_neg h, if_neg (fun h9 => h ⟨by omega, h9.2⟩)]
    · rw [if_neg hk, ih]
      by_cases h : y < i ∧ (n.ss.getD y sq0).kd = 0
      · rw [if_pos h, if_pos ⟨by omega, h.2⟩]
      · rw [if_neg h, if_neg (fun h9 => h ⟨by
          by_cases e : y = i
          · subst e; exact absurd h9.2 hk
          · omega, h9.2⟩)]
theorem zwn (n : Ln) (y : Nat) : ∀ k, ((lesB n k).flatMap bF).count (y : Int) = if y < n.ss.length ∧ (n.ss.getD y sq0).kd = 0 then 1 else 0
  | 0 => zwp n y _
  | k + 1 => by
    have ih := zwn n y k
    unfold lesB; split
    · exact ih
    · rw [List.flatMap_append, List.count_append, ih]; rfl
theorem zte {n : Ln} {i : Nat} {x : Nat} (h : luF n i = (x : Int)) : n.fst + (x : Int) = (n.ss.getD i sq0).xs.getD 0 0 ∧ (usK n).getD (n.fst + (x : Int)).toNat 0 = 1 := by
  unfold luF at h
  split at h
  · rename_i hc
    have he : n.fst + (x : Int) = (n.ss.getD i sq0).xs.getD 0 0 := by omega
    exact ⟨he, by rw [he]; exact hc.2⟩
  · omega
theorem zwo {n : Ln} (hok : LnOk n) (x : Nat) : ∀ i, i ≤ n.ss.length → ((lesA n i).flatMap bU).count (x : Int) = if (x : Int) ∈ (lesA n i).map Le.u then 1 else 0
  | 0, _ => by rw [if_neg (by intro h; cases h)]; rfl
  | i + 1, hi => by
    have ih := zwo hok x i (by omega)
    have hi0 := hok.sz.i.1
    have hf : n.fst = 1 + n.ins + (n.ss.length : Int) := rfl
    have hcn : n.cnt = n.fst + (n.ls.length : Int) := rfl
    unfold lesA
    by_cases hk : (n.ss.getD i sq0).kd = 0
    · rw [if_pos hk, List.flatMap_append, List.count_append, ih, List.flatMap_cons, List.flatMap_nil, List.append_nil, List.map_append]
      by_cases e : luF n i = (x : Int)
      · have hno : (x : Int) ∉ (lesA n i).map Le.u := fun hm => by
          obtain ⟨e', he', hu⟩ := List.mem_map.1 hm
          obtain ⟨j, hj, hkj, rfl⟩ := zjf he'
          obtain ⟨a1, a2⟩ := zte e
          obtain ⟨b1, b2⟩ := zte (i := j) hu
          have hr := ztf hok (show i < n.ss.length by omega) hk
          rw [zsf hok (by omega), show (((n.fst + (x : Int)).toNat : Nat) : Int) = n.fst + (x : Int) by omega] at a2
          have m1 : n.fst + (x : Int) ∈ (n.ss.getD i sq0).xs := by
            rw [a1]; exact zbl (by rcases (hok.sq i (by omega)).1.kind with ⟨-, -, q⟩ | ⟨q, -⟩ <;> omega)
          have m2 : n.fst + (x : Int) ∈ (n.ss.getD j sq0).xs := by
            rw [b1]; exact zbl (by rcases (hok.sq j (by omega)).1.kind with ⟨-, -, q⟩ | ⟨q, -⟩ <;> omega)
          have := zjd (g := Sq.xs) sq0 hj (show i < n.ss.length by omega) m2 m1
          unfold allUse at a2
          rw [List.count_append, List.count_append] at a2; omega
        rw [if_neg hno, if_pos (List.mem_append.2 (.inr (by show (x : Int) ∈ [luF n i]; rw [e, List.mem_singleton])))]
        unfold bU
        rw [if_pos (show (0 : Int) ≤ (Le.mk (luF n i) (i : Int)).u by show 0 ≤ luF n i; omega)]
        show 0 + [luF n i].count (x : Int) = 1
        rw [e, List.count_singleton_self]
      · have hz : (bU (Le.mk (luF n i) (i : Int))).count (x : Int) = 0 := by
          unfold bU; split
          · exact List.count_eq_zero.2 (by show (x : Int) ∉ [luF n i]; rw [List.mem_singleton]; exact fun h9 => e h9.symm)
          · rfl
        rw [hz]
        have hm : (x : Int) ∈ (lesA n i).map Le.u ++ [Le.mk (luF n i) (i : Int)].map Le.u ↔ (x : Int) ∈ (lesA n i).map Le.u := by
          rw [List.mem_append]
          exact ⟨fun h => h.resolve_right (by show (x : Int) ∉ [luF n i]; rw [List.mem_singleton]; exact fun h9 => e h9.symm), .inl⟩
        by_cases h : (x : Int) ∈ (lesA n i).map Le.u
        · rw [if_pos h, if_pos (hm.2 h)]
        · rw [if_neg h, if_neg (fun h9 => h (hm.1 h9))]
    · rw [if_neg hk]; exact ih
theorem zwm {n : Ln} (hok : LnOk n) (x : Nat) : ∀ k, ((lesB n k).flatMap bU).count (x : Int) = if x < k ∨ (x : Int) ∈ (lesA n n.ss.length).map Le.u then 1 else 0
  | 0 => by
    rw [show ((lesB n 0).flatMap bU).count (x : Int) = _ from zwo hok x n.ss.length (Nat.le_refl _)]
    by_cases h : (x : Int) ∈ (lesA n n.ss.length).map Le.u
    · rw [if_pos h, if_pos (.inr h)]
    · rw [if_neg h, if_neg (fun h9 => h9.elim (by omega) h)]
  | k + 1 => by
    have ih := zwm hok x k
    unfold lesB
    by_cases hm : (k : Int) ∈ (lesA n n.ss.length).map Le.u
    · rw [if_pos hm, ih]
      by_cases e : x = k
      · subst e; rw [if_pos (.inr hm), if_pos (.inr hm)]
      · by_cases h : x < k ∨ (x : Int) ∈ (lesA n n.ss.length).map Le.u
        · rw [if_pos h, if_pos (h.imp (by omega) id)]
        · rw [if_neg h, if_neg (fun h9 => h (h9.imp (by omega) id))]
    · rw [if_neg hm, List.flatMap_append, List.count_append, ih, List.flatMap_cons, List.flatMap_nil, List.append_nil]
      unfold bU
      rw [if_pos (show (0 : Int) ≤ (Le.mk (k : Int) (-1)).u by show (0 : Int) ≤ (k : Int); omega)]
      show _ + [(k : Int)].count (x : Int) = _
      rw [List.count_singleton]
      by_cases e : x = k
      · subst e
        rw [if_neg (fun h9 => h9.elim (by omega) hm), if_pos (beq_self_eq_true _), if_pos (.inl (by omega))]
      · rw [if_neg (show ¬ (((k : Int) == (x : Int)) = true) by rw [beq_iff_eq]; omega)]
        by_cases h : x < k ∨ (x : Int) ∈ (lesA n n.ss.length).map Le.u
        · rw [if_pos h, if_pos (h.imp (by omega) id)]
        · rw [if_neg h, if_neg (fun h9 => h (h9.imp (by omega) id))]
def blN (k i : Int) : Bk := ⟨k, i, .slice none 0 0, []⟩
def pkA (n : Ln) : Nat → List Bk
  | 0 => []
  | i + 1 => pkA n i ++ [blN 0 (i : Int)]
def pkB (n : Ln) : Nat → List Bk
  | 0 => pkA n n.ins.toNat
  | j + 1 => pkB n j ++ [blN 1 (j : Int)]
def pkC (n : Ln) : Nat → List Bk
  | 0 => pkB n n.os.length
  | k + 1 => if (n.ss.getD k sq0).kd = 1 then pkC n k ++ [blN 2 (k : Int)] else pkC n k
theorem zsv {n : Ln} {b : Bk} : ∀ {m : Nat}, b ∈ pkA n m → ∃ i, i < m ∧ b = blN 0 (i : Int)
  | m + 1, h => by
    rcases List.mem_append.1 h with h | h
    · obtain ⟨i, h1, h2⟩ := zsv h; exact ⟨i, by omega, h2⟩
    · exact ⟨m, by omega, List.mem_singleton.1 h⟩
theorem zom {n : Ln} {b : Bk} : ∀ {m : Nat}, b ∈ pkB n m → (∃ i, i < n.ins.toNat ∧ b = blN 0 (i : Int)) ∨ ∃ i, i < m ∧ b = blN 1 (i : Int)
  | 0, h => .inl (zsv h)
  | m + 1, h => by
    rcases List.mem_append.1 h with h | h
    · rcases zom h with h | ⟨i, h1, h2⟩
      · exact .inl h
      · exact .inr ⟨i, by omega, h2⟩
    · exact .inr ⟨m, by omega, List.mem_singleton.1 h⟩
theorem zol {n : Ln} {b : Bk} : ∀ {m : Nat}, b ∈ pkC n m → ((∃ i, i < n.ins.toNat ∧ b = blN 0 (i : Int)) ∨ ∃ i, i < n.os.length ∧ b = blN 1 (i : Int)) ∨ ∃ i, i < m ∧ (n.ss.getD i sq0).kd = 1 ∧ b = blN 2 (i : Int)
  | 0, h => .inl (zom h)
  | m + 1, h => by
    unfold pkC at h
    split at h
    · rcases List.mem_append.1 h with h | h
      · rcases zol h with h | ⟨i, h1, h2⟩
        · exact .inl h
        · exact .inr ⟨i, by omega, h2⟩
      · exact .inr ⟨m, by omega, by assumption, List.mem_singleton.1 h⟩
    · rcases zol h with h | ⟨i, h1, h2⟩
      · exact .inl h
      · exact .inr ⟨i, by omega, h2⟩
theorem zwf {n : Ln} {b : Bk} (h : b ∈ pkC n n.ss.length) : BlP n b ∧ b.es = [] := by
  rcases zol h with (⟨i, h1, rfl⟩ | ⟨i, h1, rfl⟩) | ⟨i, h1, h2, rfl⟩
  · exact ⟨⟨.inl ⟨rfl, by show (0 : Int) ≤ i; omega, by show (i : Int) < _; omega⟩, fun h9 => absurd h9 (by decide : ¬ (0 : Int) = 3), fun _ => ⟨rfl, fun h9 => absurd h9 (by decide : ¬ (0 : Int) = 2)⟩⟩, rfl⟩
  · exact ⟨⟨.inr (.inl ⟨rfl, by show (0 : Int) ≤ i; omega, by show (i : Int) < _; omega⟩), fun h9 => absurd h9 (by decide : ¬ (1 : Int) = 3), fun _ => ⟨rfl, fun h9 => absurd h9 (by decide : ¬ (1 : Int) = 2)⟩⟩, rfl⟩
  · exact ⟨⟨.inr (.inr (.inl ⟨rfl, by show (0 : Int) ≤ i; omega, by show (i : Int) < _; omega⟩)), fun h9 => absurd h9 (by decide : ¬ (2 : Int) = 3), fun _ => ⟨rfl, fun _ => by show (n.ss.getD (i : Int).toNat sq0).kd = 1; rw [Int.toNat_natCast]; exact h2⟩⟩, rfl⟩
theorem pkA_I (n : Ln) (x : Nat) : ∀ m, ((pkA n m).flatMap bI).count (x : Int) = if x < m then 1 else 0
  | 0 => by rw [if_neg (by omega)]; rfl
  | m + 1 => by
    show ((pkA n m ++ _).flatMap bI).count _ = _
    rw [List.flatMap_append, List.count_append, pkA_I n x m]
    show _ + [(m : Int)].count (x : Int) = _
    rw [List.count_singleton]
    by_cases e : m = x
    · subst e; rw [if_neg (by omega), if_pos (beq_self_eq_true _), if_pos (by omega)]
    · rw [if_neg (show ¬ (((m : Int) == (x : Int)) = true) by rw [beq_iff_eq]; omega)]
      by_cases h : x < m
      · rw [if_pos h, if_pos (by omega)]
      · rw [if_neg h, if_neg (by omega)]
theorem pkB_I (n : Ln) (x : Nat) : ∀ m, ((pkB n m).flatMap bI).count (x : Int) = if x < n.ins.toNat then 1 else 0
  | 0 => pkA_I n x _
  | m + 1 => by
    show ((pkB n m ++ _).flatMap bI).count _ = _
    rw [List.flatMap_append, List.count_append, pkB_I n x m]; rfl
theorem pkC_I (n : Ln) (x : Nat) : ∀ m, ((pkC n m).flatMap bI).count (x : Int) = if x < n.ins.toNat then 1 else 0
  | 0 => pkB_I n x _
  | m + 1 => by
    have ih := pkC_I n x m
    unfold pkC; split
    · rw [List.flatMap_append, List.count_append, ih]; rfl
    · exact ih
theorem pkA_O (n : Ln) (x : Int) : ∀ m, ((pkA n m).flatMap bO).count x = 0
  | 0 => rfl
  | m + 1 => by
    show ((pkA n m ++ _).flatMap bO).count _ = _
    rw [List.flatMap_append, List.count_append, pkA_O n x m]; rfl
theorem pkB_O (n : Ln) (x : Nat) : ∀ m, ((pkB n m).flatMap bO).count (x : Int) = if x < m then 1 else 0
  | 0 => by rw [if_neg (by omega)]; exact pkA_O n _ _
  | m + 1 => by
    show ((pkB n m ++ _).flatMap bO).count _ = _
    rw [List.flatMap_append, List.count_append, pkB_O n x m]
    show _ + [(m : Int)].count (x : Int) = _
    rw [List.count_singleton]
    by_cases e : m = x
    · subst e; rw [if_neg (by omega), if_pos (beq_self_eq_true _), if_pos (by omega)]
    · rw [if_neg (show ¬ (((m : Int) == (x : Int)) = true) by rw [beq_iff_eq]; omega)]
      by_cases h : x < m
      · rw [if_pos h, if_pos (by omega)]
      · rw [if_neg h, if_neg (by omega)]
theorem pkC_O (n : Ln) (x : Nat) : ∀ m, ((pkC n m).flatMap bO).count (x : Int) = if x < n.os.length then 1 else 0
  | 0 => pkB_O n x _
  | m + 1 => by
    have ih := pkC_O n x m
    unfold pkC; split
    · rw [List.flatMap_append, List.count_append, ih]; rfl
    · exact ih
theorem zvh {α : Type} {g : α → List Int} {x : Int} {L : List α} (h : ∀ b ∈ L, (g b).count x = 0) : (L.flatMap g).count x = 0 := by
  rw [List.count_eq_zero]
  intro hm
  obtain ⟨b, hb, hx⟩ := List.mem_flatMap.1 hm
  exact List.count_eq_zero.1 (h b hb) hx
theorem pkC_S (n : Ln) (x : Nat) : ∀ m, ((pkC n m).flatMap bS).count (x : Int) = if x < m ∧ (n.ss.getD x sq0).kd = 1 then 1 else 0
  | 0 => by
    rw [if_neg (by omega)]
    refine zvh fun b hb => ?_
    rcases zom (show b ∈ pkB n n.os.length from hb) with ⟨i, -, rfl⟩ | ⟨i, -, rfl⟩ <;> rfl
  | m + 1 => by
    have ih := pkC_S n x m
    unfold pkC
    by_cases hk : (n.ss.getD m sq0).kd = 1
    · rw [if_pos hk, List.flatMap_append, List.count_append, ih]
      show _ + [(m : Int)].count (x : Int) = _
      rw [List.count_singleton]
      by_cases e : m = x
      · subst e; rw [if_neg (by omega), if_pos (beq_self_eq_true _), if_pos ⟨by omega, hk⟩]
      · rw [if_neg (show ¬ (((m : Int) == (x : Int)) = true) by rw [beq_iff_eq]; omega)]
        by_cases h : x < m ∧ (n.ss.getD x sq0).kd = 1
        · rw [if_pos h, if_pos ⟨by omega, h.2⟩]
        · rw [if_neg h, if_neg (fun h9 => h ⟨by omega, h9.2⟩)]
    · rw [if_neg hk, ih]
      by_cases h : x < m ∧ (n.ss.getD x sq0).kd = 1
      · rw [if_pos h, if_pos ⟨by omega, h.2⟩]
      · rw [if_neg h, if_neg (fun h9 => h ⟨by
          by_cases e : x = m
          · subst e; exact absurd h9.2 hk
          · omega, h9.2⟩)]
def LbP (n : Ln) (es : List Le) (i : Nat) (D : List Bl) (bs : List Bk) : Prop := ∃ (L : List Bk) (J : List Nat), bs = pkC n n.ss.length ++ L ∧ (∀ b ∈ L, b.kd = 3 ∧ BlP n b) ∧ L.flatMap Bk.es = J.map (fun q => es.getD q le0) ∧ J.Nodup ∧ ∀ q, q ∈ J ↔ q < es.length ∧ (q < i ∨ (D.getD q bl0).b = true)
theorem LbP.start {n : Ln} {es : List Le} {m : Nat} : LbP n es 0 (List.replicate m bl0) (pkC n n.ss.length) := ⟨[], [], by simp, (fun b hb => by cases hb), rfl, .nil, fun q => ⟨fun h => (by cases h), fun ⟨h1, h2⟩ => h2.elim (by omega) (fun h => by
  have : (List.replicate m bl0).getD q bl0 = bl0 := by
    rw [List.getD_eq_getElem?_getD]
    by_cases hq : q < m
    · rw [List.getElem?_eq_getElem (by rw [List.length_replicate]; exact hq), Option.getD_some, List.getElem_replicate]
    · rw [List.getElem?_eq_none (by rw [List.length_replicate]; omega)]; rfl
  rw [this] at h; cases h)⟩⟩
theorem LbP.skip {n : Ln} {es : List Le} {i : Nat} {D : List Bl} {bs : List Bk} (h : LbP n es i D bs) (hi : (D.getD i bl0).b = true) : LbP n es (i + 1) D bs := by
  obtain ⟨L, J, h1, h2, h3, h4, h5⟩ := h
  refine ⟨L, J, h1, h2, h3, h4, fun q => (h5 q).trans ⟨fun h => ⟨h.1, h.2.imp (by omega) id⟩, fun h => ⟨h.1, ?_⟩⟩⟩
  rcases h.2 with h9 | h9
  · by_cases e : q = i
    · subst e; exact .inr hi
    · exact .inl (by omega)
  · exact .inr h9
theorem zqj {n : Ln} {es : List Le} {v : Value} (h1 : ∀ e ∈ es, LeP n e) (h2 : 1 ≤ es.length ∧ es.length ≤ 2) (h3 : (pinsK n es).length ≤ 5) : BlP n (Bk.mk 3 0 v es) := ⟨.inr (.inr (.inr ⟨rfl, fun k hk => h1 _ (zbl hk)⟩)), fun _ => ⟨rfl, h2, h3⟩, fun h => absurd rfl h⟩
theorem pins1 {n : Ln} (hok : LnOk n) {e : Le} (he : LeP n e) : (pinsK n [e]).length ≤ 5 := by
  have h1 := zll (insL n [e] 1) (outL n [e] 1)
  have h2 := zoz hok (es := [e]) (fun k hk => by obtain rfl : k = 0 := (by have : k < 1 := hk; omega); exact he.1) 1 (Nat.le_refl _)
  show (setK (insL n [e] 1) (outL n [e] 1)).length ≤ 5
  omega
theorem LbP.one {n : Ln} (hok : LnOk n) {es : List Le} {i : Nat} {D : List Bl} {bs : List Bk} (h : LbP n es i D bs) (hes : ∀ e ∈ es, LeP n e) (hi : i < es.length) (hd : (D.getD i bl0).b = false) (v : Value) : LbP n es (i + 1) D (bs ++ [Bk.mk 3 0 v [es.getD i le0]]) := by
  obtain ⟨L, J, h1, h2, h3, h4, h5⟩ := h
  have hni : i ∉ J := fun h9 => by
    rcases ((h5 i).1 h9).2 with h8 | h8
    · omega
    · rw [hd] at h8; cases h8
  refine ⟨L ++ [Bk.mk 3 0 v [es.getD i le0]], J ++ [i], by rw [h1, List.append_assoc], fun b hb => ?_, by rw [List.flatMap_append, List.map_append, h3]; rfl, ?_, fun q => ?_⟩
  · rcases List.mem_append.1 hb with hb | hb
    · exact h2 b hb
    · rw [List.mem_singleton] at hb; subst hb
      exact ⟨rfl, zqj (fun e he => by rw [List.mem_singleton] at he; subst he; exact hes _ (zbl hi)) ⟨Nat.le_refl 1, (by decide : (1 : Nat) ≤ 2)⟩ (pins1 hok (hes _ (zbl hi)))⟩
  · rw [List.nodup_append]; exact ⟨h4, (List.nodup_cons.2 ⟨List.not_mem_nil, .nil⟩), fun a ha b hb => by rw [List.mem_singleton] at hb; subst hb; exact fun e => hni (e ▸ ha)⟩
  · rw [List.mem_append, List.mem_singleton, h5 q]
    constructor
    · rintro (⟨a, b⟩ | rfl)
      · exact ⟨a, b.imp (by omega) id⟩
      · exact ⟨hi, .inl (by omega)⟩
    · rintro ⟨a, b⟩
      by_cases e : q = i
      · exact .inr e
      · exact .inl ⟨a, b.imp (by omega) id⟩
theorem LbP.two {n : Ln} {es : List Le} {i : Nat} {D : List Bl} {bs : List Bk} (h : LbP n es i D bs) (hes : ∀ e ∈ es, LeP n e) (hi : i < es.length) (hd : (D.getD i bl0).b = false) {k : Nat} (hk : i < k ∧ k < es.length) (hkd : (D.getD k bl0).b = false) (hkD : k < D.length) (hp : (pinsK n [es.getD i le0, es.getD k le0]).length ≤ 5) (v : Value) : LbP n es (i + 1) (D.set k ⟨true⟩) (bs ++ [Bk.mk 3 0 v [es.getD i le0, es.getD k le0]]) := by
  obtain ⟨L, J, h1, h2, h3, h4, h5⟩ := h
  have hni : i ∉ J := fun h9 => by
    rcases ((h5 i).1 h9).2 with h8 | h8
    · omega
    · rw [hd] at h8; cases h8
  have hnk : k ∉ J := fun h9 => by
    rcases ((h5 k).1 h9).2 with h8 | h8
    · omega
    · rw [hkd] at h8; cases h8
  refine ⟨L ++ [Bk.mk 3 0 v [es.getD i le0, es.getD k le0]], J ++ [i, k], by rw [h1, List.append_assoc], fun b hb => ?_, by rw [List.flatMap_append, List.map_append, h3]; rfl, ?_, fun q => ?_⟩
  · rcases List.mem_append.1 hb with hb | hb
    · exact h2 b hb
    · rw [List.mem_singleton] at hb; subst hb
      exact ⟨rfl, zqj (fun e he => by
        rcases List.mem_cons.1 he with rfl | he
        · exact hes _ (zbl hi)
        · rw [List.mem_singleton] at he; subst he; exact hes _ (zbl hk.2)) ⟨(by decide : (1 : Nat) ≤ 2), Nat.le_refl 2⟩ hp⟩
  · rw [List.nodup_append]
    refine ⟨h4, List.nodup_cons.2 ⟨by rw [List.mem_singleton]; omega, (List.nodup_cons.2 ⟨List.not_mem_nil, .nil⟩)⟩, fun a ha b hb => ?_⟩
    rcases List.mem_cons.1 hb with rfl | hb
    · exact fun e => hni (e ▸ ha)
    · rw [List.mem_singleton] at hb; subst hb; exact fun e => hnk (e ▸ ha)
  · rw [List.mem_append, List.mem_cons, List.mem_singleton, h5 q, zno]
    constructor
    · rintro (⟨a, b⟩ | rfl | rfl)
      · refine ⟨a, b.imp (by omega) fun h9 => ?_⟩
        split
        · rfl
        · exact h9
      · exact ⟨hi, .inl (by omega)⟩
      · exact ⟨hk.2, .inr (by rw [if_pos ⟨rfl, hkD⟩])⟩
    · rintro ⟨a, b⟩
      by_cases e : q = i
      · exact .inr (.inl e)
      · by_cases e2 : q = k
        · exact .inr (.inr e2)
        · rw [if_neg (fun h9 => e2 h9.1.symm)] at b
          exact .inl ⟨a, b.imp (by omega) id⟩
theorem LbP.fin {n : Ln} (hok : LnOk n) {D : List Bl} {bs : List Bk} (h : LbP n (lesK n) (lesK n).length D bs) (hl : bs.length ≤ 64) : PkOk n bs := by
  obtain ⟨L, J, h1, h2, h3, h4, h5⟩ := h
  have hi0 := hok.sz.i.1
  have hperm : J.Perm (List.range (lesK n).length) := (List.perm_ext_iff_of_nodup h4 List.nodup_range).2 fun q => by
    rw [h5 q, List.mem_range]; exact ⟨fun h => h.1, fun h => ⟨h, .inl h⟩⟩
  have hes : (L.flatMap Bk.es).Perm (lesK n) := by
    rw [h3]
    refine (hperm.map _).trans (.of_eq ?_)
    apply List.ext_getElem
    · simp
    · intro k a b
      rw [List.getElem_map, List.getElem_range, List.getD_eq_getElem?_getD, List.getElem?_eq_getElem b]; rfl
  have hF : ∀ x : Int, (L.flatMap bS).count x = ((lesK n).flatMap bF).count x := fun x => by
    rw [← (hes.flatMap_right bF).count_eq, List.flatMap_assoc]
    refine zgr fun b hb => ?_
    unfold bS bR
    rw [if_neg (by rw [(h2 b hb).1]; decide), List.nil_append]
  have hU : ∀ x : Int, (L.flatMap bL).count x = ((lesK n).flatMap bU).count x := fun x => by
    rw [← (hes.flatMap_right bU).count_eq, List.flatMap_assoc]; rfl
  have hI : ∀ x : Int, (L.flatMap bI).count x = 0 := fun x => zvh fun b hb => by unfold bI; rw [if_neg (by rw [(h2 b hb).1]; decide)]; rfl
  have hO : ∀ x : Int, (L.flatMap bO).count x = 0 := fun x => zvh fun b hb => by unfold bO; rw [if_neg (by rw [(h2 b hb).1]; decide)]; rfl
  refine ⟨hl, fun b hb => ?_, fun x x0 x1 => ?_, fun x x0 x1 => ?_, fun x x0 x1 => ?_, fun x x0 x1 => ?_⟩
  · rw [h1] at hb
    rcases List.mem_append.1 hb with hb | hb
    · exact (zwf hb).1
    · exact (h2 b hb).2
  · obtain ⟨m, rfl⟩ := Int.eq_ofNat_of_zero_le x0
    rw [h1, List.flatMap_append, List.count_append, hI, pkC_I, if_pos (by omega)]
  · obtain ⟨m, rfl⟩ := Int.eq_ofNat_of_zero_le x0
    rw [h1, List.flatMap_append, List.count_append, hO, pkC_O, if_pos (by omega)]
  · obtain ⟨m, rfl⟩ := Int.eq_ofNat_of_zero_le x0
    have hm : m < n.ss.length := by omega
    rw [h1, List.flatMap_append, List.count_append, hF, pkC_S, show ((lesK n).flatMap bF).count ((m : Nat) : Int) = _ from zwn n m _]
    rcases (hok.sq m hm).1.kind with ⟨q, -⟩ | ⟨q, -⟩
    · rw [if_neg (by omega), if_pos ⟨hm, q⟩]
    · rw [if_pos ⟨hm, q⟩, if_neg (by omega)]
  · obtain ⟨m, rfl⟩ := Int.eq_ofNat_of_zero_le x0
    rw [h1, List.flatMap_append, List.count_append, hU, show ((lesK n).flatMap bU).count ((m : Nat) : Int) = _ from zwm hok m _, if_pos (.inl (by omega))]
    rw [zvh fun b hb => by unfold bL; rw [(zwf hb).2]; rfl]
theorem pk_nil : PkOk (Ln.mk 0 (.slice none 0 0) (.slice none 0 0) (.slice none 0 0) [] [] []) [] := ⟨by decide, (fun b hb => by cases hb), fun x h0 h1 => absurd h1 (by show ¬ x < 0; omega), fun x h0 h1 => absurd h1 (by show ¬ x < ((0 : Nat) : Int); omega), fun x h0 h1 => absurd h1 (by show ¬ x < ((0 : Nat) : Int); omega), fun x h0 h1 => absurd h1 (by show ¬ x < ((0 : Nat) : Int); omega)⟩
open Go.RowKit
theorem ztj {n : Ln} {i : Nat} (h : (n.ss.getD i sq0).kd ≠ 0) : lesA n i = lesA n (i + 1) := (if_neg h).symm
theorem zia {n : Ln} {i : Nat} (h : (n.ss.getD i sq0).kd = 0) : lesA n (i + 1) = lesA n i ++ [⟨luF n i, (i : Int)⟩] := if_pos h
theorem ztg {n : Ln} {i : Nat} (h1 : 0 ≤ (n.ss.getD i sq0).xs.getD 0 0 - n.fst) (h2 : (usK n).getD ((n.ss.getD i sq0).xs.getD 0 0).toNat 0 = 1) : luF n i = (n.ss.getD i sq0).xs.getD 0 0 - n.fst := if_pos ⟨by omega, h2⟩
theorem zlt {n : Ln} {i : Nat} (h : (n.ss.getD i sq0).xs.getD 0 0 - n.fst < 0 ∨ (usK n).getD ((n.ss.getD i sq0).xs.getD 0 0).toNat 0 ≠ 1) : luF n i = -1 := if_neg (fun h9 => h.elim (by omega) (fun h8 => h8 h9.2))
def TkP (n : Ln) (i : Nat) (tk : List Bl) : Prop := tk.length = n.ls.length ∧ ∀ k, k < n.ls.length → ((tk.getD k bl0).b = true ↔ (k : Int) ∈ (lesA n i).map Le.u)
theorem TkP.start (n : Ln) : TkP n 0 (List.replicate n.ls.length bl0) := ⟨List.length_replicate, fun k hk => by
  rw [List.getD_eq_getElem?_getD, List.getElem?_eq_getElem (by rw [List.length_replicate]; exact hk), Option.getD_some, List.getElem_replicate]
  exact ⟨fun h => (by cases h), fun h => (by cases h)⟩⟩
theorem TkP.no {n : Ln} {i : Nat} {tk : List Bl} (h : TkP n i tk) (hk : (n.ss.getD i sq0).kd ≠ 0) : TkP n (i + 1) tk := by unfold TkP; rw [← ztj hk]; exact h
theorem TkP.neg {n : Ln} {i : Nat} {tk : List Bl} (h : TkP n i tk) (hk : (n.ss.getD i sq0).kd = 0) (hl : luF n i = -1) : TkP n (i + 1) tk := by
  unfold TkP; rw [zia hk, hl]
  refine ⟨h.1, fun k hk => (h.2 k hk).trans ?_⟩
  rw [List.map_append, List.mem_append]
  exact ⟨.inl, fun h9 => h9.resolve_right (by show (k : Int) ∉ [-1]; rw [List.mem_singleton]; omega)⟩
theorem TkP.pos {n : Ln} {i : Nat} {tk : List Bl} (h : TkP n i tk) (hk : (n.ss.getD i sq0).kd = 0) {x : Int} (hl : luF n i = x) (hx : 0 ≤ x ∧ x < n.ls.length) : TkP n (i + 1) (tk.set x.toNat ⟨true⟩) := by
  unfold TkP; rw [zia hk, hl]
  refine ⟨by rw [List.length_set]; exact h.1, fun k hk => ?_⟩
  rw [zno, List.map_append, List.mem_append, ← h.2 k hk]
  have h1 := h.1
  by_cases e : x.toNat = k
  · rw [if_pos ⟨e, by omega⟩]; exact ⟨fun _ => .inr (by show (k : Int) ∈ [x]; rw [List.mem_singleton]; omega), fun _ => rfl⟩
  · rw [if_neg (fun h9 => e h9.1)]; exact ⟨.inl, fun h9 => h9.resolve_right (by show (k : Int) ∉ [x]; rw [List.mem_singleton]; omega)⟩
theorem zuw {n : Ln} {k : Nat} {tk : List Bl} (h : TkP n n.ss.length tk) (hk : k < n.ls.length) (hb : (tk.getD k bl0).b = true) : lesB n k = lesB n (k + 1) := (if_pos ((h.2 k hk).1 hb)).symm
theorem lesB_no {n : Ln} {k : Nat} {tk : List Bl} (h : TkP n n.ss.length tk) (hk : k < n.ls.length) (hb : (tk.getD k bl0).b = false) : lesB n k ++ [⟨(k : Int), -1⟩] = lesB n (k + 1) := (if_neg (fun h9 => by rw [(h.2 k hk).2 h9] at hb; cases hb)).symm
theorem zov (n : Ln) (w : World) (hr : RdsLn w n) (hok : LnOk n) :
   Calls Try.prog 106 #[.agg #[.int .i64 n.ins, n.sv, n.lv, n.ov]] w (Ret w (fun v' post => post = [rowE 70 2 v' (lesK n).length ((lesK n).flatMap leC)])) := by
 have hso := sml hr.ou
 have hss := hr.sq.small
 have hsl := hr.lt.small
 have hcnt : n.cnt = 1 + n.ins + n.ss.length + n.ls.length := rfl
 have hfst : n.fst = 1 + n.ins + n.ss.length := rfl
 obtain ⟨⟨si0, si1⟩, s2, s3, s4⟩ := hok.sz
 have hul := zoa n
 refine zbf (N := 87) (args := [.agg #[.int .i64 n.ins, n.sv, n.lv, n.ov]]) Try.func106 rfl rfl (srQ ?_)
 refine zdj rfl (zch rfl rfl) ?_
 intro b1
 refine zaz 1 rfl (srQ ?_)
 refine zdk rfl (zbz (s := 2) rfl Try.underlying37 rfl) ?_
 intro g2
 refine zaz 1 rfl (srQ (hvQ rfl (zao (cs := [.int .i64 n.ins, n.sv, n.lv, n.ov]) rfl rfl rfl rfl rfl (zaj 1 rfl 0 rfl)) ?_))
 refine zfg rfl rfl rfl (zaq rfl rfl (fun w hm => zfw n w (hr.below hm.bel) hok)) ?_
 intro v3 p4 hR5
 subst hR5
 refine zaz 1 rfl (srQ (hvQ rfl (fdQ 2 rfl rfl rfl) (hvQ rfl (zad rfl rfl rfl (zaa 2 rfl rfl)) (hvQ rfl (lnQ rfl rfl rfl (zab ((hr).lt.row))) ?_))))
 refine zdk rfl (zdw (z := .bool false) (s := 1) (bytes := 1) (n := (List.replicate n.ls.length bl0).length) (cs := ((List.replicate n.ls.length bl0).flatMap blC)) rfl Try.underlying130 rfl (by decide) rfl rfl (by first | (rw [List.length_replicate]; done) | (rw [List.length_replicate]; omega)) (by first | (rw [List.length_replicate]; done) | (rw [List.length_replicate]; omega)) (by rw [List.length_replicate]; omega) (zex blC 1 (fun _ => rfl) bl0 _ rfl n.ls.length)) ?_
 intro g6
 refine zaz 1 rfl (zac (zbd 1 rfl (zax ?_)))
 refine zrs (α := Nat) (β := Value) (γ := List Le) (δ := List Bl) [0, 1, 2, 4, 5] rfl (fun i gu es tk => [rowE 4 1 (.slice (some ⟨g6, 0, none⟩) ((List.replicate n.ls.length bl0).length) ((List.replicate n.ls.length bl0).length)) tk.length (tk.flatMap blC), rowE 3 1 v3 ((usK n).length) ((usK n).map (Value.int .i64)), rowE 70 2 gu es.length (es.flatMap leC), boxE b1 #[.int .i64 n.ins, n.sv, n.lv, n.ov] 30]) (fun i gu es tk => [(3, gu), (6, .int .i64 (i : Int))]) (fun i gu es tk => i ≤ n.ss.length ∧ es = lesA n i ∧ TkP n i tk) (fun i gu es tk => n.ss.length - i) 0 _ [] (List.replicate n.ls.length bl0) ⟨Nat.zero_le _, rfl, TkP.start n⟩ (saQ rfl) (pfQ rfl) ?_
 intro i gu es tk hi7
 obtain ⟨hi, hle, htk⟩ := hi7
 have hel : es.length ≤ i := by rw [hle]; exact zot n i
 have htl := htk.1
 refine zac (zac (reQ 1 rfl (hvQ rfl (fdQ 1 rfl rfl rfl) (hvQ rfl (zad rfl rfl rfl (zaa 3 rfl rfl)) (hvQ rfl (lnQ rfl rfl rfl (zab ((hr).sq.row))) ?_)))))
 refine zbj rfl rfl rfl rfl rfl rfl (fun h8 => ?_) (fun h8 => ?_)
 ·
  refine ntQ (zak rfl (zcq (sbQ (zeh (hvQ rfl (fdQ 1 rfl rfl rfl) (hvQ rfl (zad rfl rfl rfl (zaa 3 rfl rfl)) (zap 1 rfl ?_)))))))
  refine hvQ rfl (riQ 3 rfl rfl rfl rfl (zab ((hr).sq.row))) (hvQ rfl (zbe (k0 := 0) rfl rfl rfl (zab ((hr).sq.row)) (by omega)) ?_)
  refine hvQ rfl (zar (u := .int .i64 ((n.ss.getD i sq0).kd)) rfl rfl rfl (zab ((hr).sq.row)) ((zce sqC 3 (fun _ => rfl) n.ss sq0 (show i < _ by omega) (by decide)).trans rfl)) (zfj rfl rfl rfl rfl rfl rfl (fun h9 => ?_) (fun h9 => ?_))
  ·
   refine ntQ (zak rfl ?_)
   refine zba (zdg ?_)
   refine zag (zaw (reQ 1 rfl (hvQ rfl (vaQ rfl rfl rfl) (enQ 1 rfl ?_))))
   exact zct (i + 1) gu es tk ⟨by omega, hle.trans (ztj (by assumption)), htk.no (by assumption)⟩ (by omega) (saQ rfl) (pfQ rfl)
  refine (zbu (zaw (zal rfl (zfe (zaw (zac (zay (zap 1 rfl (hvQ rfl (zcw (cs := #[.int .i64 (-1), .int .i64 (i : Int)]) rfl rfl rfl) ?_)))))))))
  refine zdj rfl (zbx (z := .agg #[.int .i64 0, .int .i64 0]) rfl rfl) ?_
  intro b10
  refine zcc (cs' := #[.int .i64 (-1), .int .i64 (i : Int)]) (i := 0) (off := 0) (us := [.int .i64 (-1), .int .i64 (i : Int)]) rfl rfl rfl rfl rfl rfl rfl (zah rfl (zah rfl zbr)) rfl rfl rfl (ntQ (zac ?_))
  have hsq9 := (hok.sq i (by omega)).1.kind
  have hx9 := (hok.sq i (by omega)).2 0 (by omega)
  have hcn9 : n.cnt = n.fst + (n.ls.length : Int) := rfl
  refine zby 11 [[], [0], [], [1, 2], [3], [4], [5], [6], [], [8], [7, 9]] [33, 34, 35, 36, 37, 38, 39, 40, 41, 42, 43] [.pointer (some ⟨b1, 0 + 1, none⟩), n.sv, .int .i64 (i : Int), elP n.sv (((i : Int)).toNat * 3), elP n.sv (((i : Int)).toNat * 3 + 2), (n.ss.getD i sq0).iv, elP ((n.ss.getD i sq0).iv) ((0 : Int).toNat * 1), .int .i64 (((n.ss.getD i sq0).xs).getD 0 0), .agg #[.int .i64 n.ins, n.sv, n.lv, n.ov], .int .i64 n.fst, .int .i64 ((((n.ss.getD i sq0).xs).getD 0 0) - n.fst)] (by kernel_rfl) rfl ?_ ?_
  ·
   exact ⟨iaQ rfl (fdQ 1 rfl rfl rfl) rfl, iaQ rfl (zad rfl rfl rfl (zaa 4 rfl rfl)) rfl, iaQ rfl (zas rfl) rfl, iaQ rfl (riQ 3 rfl rfl rfl rfl (zab ((hr).sq.row))) rfl, iaQ rfl (zbe (k0 := 2) rfl rfl rfl (zab ((hr).sq.row)) (by omega)) rfl, iaQ rfl (zar (u := (n.ss.getD i sq0).iv) rfl rfl rfl (zab ((hr).sq.row)) ((zce sqC 3 (fun _ => rfl) n.ss sq0 (show i < _ by omega) (by decide)).trans rfl)) rfl, iaQ rfl (riQ 1 rfl rfl rfl rfl (zab ((hr).sq.at (d := sq0) (k := i) (by omega)))) rfl, iaQ rfl (zar (u := .int .i64 (((n.ss.getD i sq0).xs).getD 0 0)) rfl rfl rfl (zab ((hr).sq.at (d := sq0) (k := i) (by omega))) (zbn (show _ < ((n.ss.getD i sq0).xs).length by omega))) rfl, iaQ rfl (zao (cs := [.int .i64 n.ins, n.sv, n.lv, n.ov]) rfl rfl rfl rfl rfl (zaj 4 rfl 0 rfl)) rfl, .inl ⟨rfl, zaq rfl rfl (fun w hm => zav (zej n w (hr.below hm.bel) hok.sz))⟩, iaQ rfl (vsQ rfl rfl rfl) rfl, trivial⟩
  simp only [List.drop_succ_cons, List.drop_zero]
  refine zaz 1 rfl (zac (zac (reQ 1 rfl ?_)))
  refine zdi rfl rfl rfl rfl rfl rfl (fun h11 => ?_) (fun h11 => ?_)
  ·
   refine zap 2 rfl (hvQ rfl (fdQ 1 rfl rfl rfl) (hvQ rfl (zad rfl rfl rfl (zaa 4 rfl rfl)) (zap 1 rfl (hvQ rfl (riQ 3 rfl rfl rfl rfl (zab ((hr).sq.row))) (hvQ rfl (zbe (k0 := 2) rfl rfl rfl (zab ((hr).sq.row)) (by omega)) ?_)))))
   refine hvQ rfl (zar (u := (n.ss.getD i sq0).iv) rfl rfl rfl (zab ((hr).sq.row)) ((zce sqC 3 (fun _ => rfl) n.ss sq0 (show i < _ by omega) (by decide)).trans rfl)) (hvQ rfl (riQ 1 rfl rfl rfl rfl (zab ((hr).sq.at (d := sq0) (k := i) (by omega)))) (hvQ rfl (zar (u := .int .i64 (((n.ss.getD i sq0).xs).getD 0 0)) rfl rfl rfl (zab ((hr).sq.at (d := sq0) (k := i) (by omega))) (zbn (show _ < ((n.ss.getD i sq0).xs).length by omega))) (hvQ rfl (riQ 1 rfl rfl rfl rfl (zae 2 rfl)) (hvQ rfl (zar (u := .int .i64 ((usK n).getD ((((n.ss.getD i sq0).xs).getD 0 0).toNat) 0)) rfl rfl rfl (zae 2 rfl) (zbn (show _ < (usK n).length by omega))) ?_))))
   refine zbp rfl rfl rfl rfl rfl rfl (fun h12 => ?_) (fun h12 => ?_)
   ·
    refine zaz 1 rfl (zak rfl (zac (reQ 1 rfl (hvQ rfl (fdQ 0 rfl rfl rfl) ?_))))
    refine zez (i := 0) (cs' := #[.int .i64 ((((n.ss.getD i sq0).xs).getD 0 0) - n.fst), .int .i64 (i : Int)]) rfl rfl rfl rfl rfl rfl rfl rfl rfl rfl rfl (ntQ (reQ 2 rfl (hvQ rfl (riQ 1 rfl rfl rfl rfl (zae 1 rfl)) ?_)))
    refine zda (i := 1) (n' := (tk.set (((((n.ss.getD i sq0).xs).getD 0 0) - n.fst).toNat) { tk.getD (((((n.ss.getD i sq0).xs).getD 0 0) - n.fst).toNat) bl0 with b := true }).length) rfl rfl rfl rfl rfl rfl rfl rfl (by first | omega | (simp only [List.length_set]; omega)) List.length_set.symm (zdl blC (fun r => .bool r.b) (fun _ => rfl) _ ({ tk.getD (((((n.ss.getD i sq0).xs).getD 0 0) - n.fst).toNat) bl0 with b := true }) rfl) rfl (zbu (zaw (zay (zap 1 rfl (hvQ rfl (zao (cs := [.int .i64 ((((n.ss.getD i sq0).xs).getD 0 0) - n.fst), .int .i64 (i : Int)]) rfl rfl rfl rfl rfl (zaj 0 rfl 0 rfl)) ?_)))))
    refine zdk rfl (zat (z := .agg #[.int .i64 0, .int .i64 0]) (s := 2) (cs := ([(((n.ss.getD i sq0).xs).getD 0 0) - n.fst, (i : Int)].map (Value.int .i64))) rfl Try.underlying37 rfl (by decide) rfl (by kernel_rfl) rfl) ?_
    intro g13
    refine zcd (i := 4) (z := .agg #[.int .i64 0, .int .i64 0]) (bytes := 16) rfl rfl rfl rfl Try.underlying37 (by kernel_rfl) rfl rfl rfl rfl (zae 0 rfl) (zbm _) (by first | omega | (simp only [List.length_append, List.length_cons, List.length_nil]; omega)) (zbv es [(Le.mk ((((n.ss.getD i sq0).xs).getD 0 0) - n.fst) (i : Int))]) (zcx leC es (Le.mk ((((n.ss.getD i sq0).xs).getD 0 0) - n.fst) (i : Int)) _ rfl) (fun _ => rfl) ?_
    intro v14
    refine enQ 1 rfl (zcv (reQ 1 rfl (hvQ rfl (vaQ rfl rfl rfl) (enQ 1 rfl ?_))))
    exact zct (i + 1) v14 (es ++ [(Le.mk ((((n.ss.getD i sq0).xs).getD 0 0) - n.fst) (i : Int))]) (tk.set (((((n.ss.getD i sq0).xs).getD 0 0) - n.fst).toNat) { tk.getD (((((n.ss.getD i sq0).xs).getD 0 0) - n.fst).toNat) bl0 with b := true }) ⟨by omega, by rw [hle, zia (by assumption), ztg (by omega) (by assumption)], htk.pos (by assumption) (ztg (by omega) (by assumption)) ⟨by omega, by omega⟩⟩ (by omega) (saQ rfl) (slQ [2, 0, 0, 0] rfl)
   refine zap 1 rfl (zbu (zaw (zal rfl (zfe (zaw (zay (zap 1 rfl (hvQ rfl (zao (cs := [.int .i64 (-1), .int .i64 (i : Int)]) rfl rfl rfl rfl rfl (zaj 0 rfl 0 rfl)) ?_))))))))
   refine zdk rfl (zat (z := .agg #[.int .i64 0, .int .i64 0]) (s := 2) (cs := ([-1, (i : Int)].map (Value.int .i64))) rfl Try.underlying37 rfl (by decide) rfl (by kernel_rfl) rfl) ?_
   intro g15
   refine zcd (i := 4) (z := .agg #[.int .i64 0, .int .i64 0]) (bytes := 16) rfl rfl rfl rfl Try.underlying37 (by kernel_rfl) rfl rfl rfl rfl (zae 0 rfl) (zbm _) (by first | omega | (simp only [List.length_append, List.length_cons, List.length_nil]; omega)) (zbv es [(Le.mk (-1) (i : Int))]) (zcx leC es (Le.mk (-1) (i : Int)) _ rfl) (fun _ => rfl) ?_
   intro v16
   refine enQ 1 rfl (zcv (reQ 1 rfl (hvQ rfl (vaQ rfl rfl rfl) (enQ 1 rfl ?_))))
   exact zct (i + 1) v16 (es ++ [(Le.mk (-1) (i : Int))]) tk ⟨by omega, by rw [hle, zia (by assumption), zlt (by first | exact .inl (by omega) | exact .inr (by assumption))], htk.neg (by assumption) (zlt (by first | exact .inl (by omega) | exact .inr (by assumption)))⟩ (by omega) (saQ rfl) (slQ [2, 0, 0, 0] rfl)
  refine zap 14 rfl (?_)
  refine zbu (zaw (zal rfl (zfe (zaw (zay (zap 1 rfl (hvQ rfl (zao (cs := [.int .i64 (-1), .int .i64 (i : Int)]) rfl rfl rfl rfl rfl (zaj 0 rfl 0 rfl)) ?_)))))))
  refine zdk rfl (zat (z := .agg #[.int .i64 0, .int .i64 0]) (s := 2) (cs := ([-1, (i : Int)].map (Value.int .i64))) rfl Try.underlying37 rfl (by decide) rfl (by kernel_rfl) rfl) ?_
  intro g17
  refine zcd (i := 4) (z := .agg #[.int .i64 0, .int .i64 0]) (bytes := 16) rfl rfl rfl rfl Try.underlying37 (by kernel_rfl) rfl rfl rfl rfl (zae 0 rfl) (zbm _) (by first | omega | (simp only [List.length_append, List.length_cons, List.length_nil]; omega)) (zbv es [(Le.mk (-1) (i : Int))]) (zcx leC es (Le.mk (-1) (i : Int)) _ rfl) (fun _ => rfl) ?_
  intro v18
  refine enQ 1 rfl (zcv (reQ 1 rfl (hvQ rfl (vaQ rfl rfl rfl) (enQ 1 rfl ?_))))
  exact zct (i + 1) v18 (es ++ [(Le.mk (-1) (i : Int))]) tk ⟨by omega, by rw [hle, zia (by assumption), zlt (by first | exact .inl (by omega) | exact .inr (by assumption))], htk.neg (by assumption) (zlt (by first | exact .inl (by omega) | exact .inr (by assumption)))⟩ (by omega) (saQ rfl) (slQ [2, 0, 0, 0] rfl)
 refine ntQ (zal rfl ?_)
 refine zba (zdq ?_)
 refine zag (zaw (zac (zbd 1 rfl (zax ?_))))
 refine zgn (α := Nat) (β := Value) (γ := List Le) [0, 1, 2, 4, 5, 21] rfl (fun k gv fs => [rowE 4 1 (.slice (some ⟨g6, 0, none⟩) ((List.replicate n.ls.length bl0).length) ((List.replicate n.ls.length bl0).length)) tk.length (tk.flatMap blC), rowE 3 1 v3 ((usK n).length) ((usK n).map (Value.int .i64)), rowE 70 2 gv fs.length (fs.flatMap leC), boxE b1 #[.int .i64 n.ins, n.sv, n.lv, n.ov] 30]) (fun k gv fs => [(3, gv), (9, .int .i64 (k : Int))]) (fun k gv fs => k ≤ n.ls.length ∧ fs = lesB n k) (fun k gv fs => n.ls.length - k) 0 _ es ⟨Nat.zero_le _, by rw [hle, show i = n.ss.length by omega]; rfl⟩ (saQ rfl) (pfQ rfl) ?_
 intro k gv fs hi19
 obtain ⟨hk, hlf⟩ := hi19
 have hfl : fs.length ≤ n.ss.length + k := by rw [hlf]; exact zos n k
 have htk9 : TkP n n.ss.length tk := by rw [show n.ss.length = i by omega]; exact htk
 refine zac (zac (reQ 1 rfl (hvQ rfl (fdQ 2 rfl rfl rfl) (hvQ rfl (zad rfl rfl rfl (zaa 3 rfl rfl)) (hvQ rfl (lnQ rfl rfl rfl (zab ((hr).lt.row))) ?_)))))
 refine zbj rfl rfl rfl rfl rfl rfl (fun h20 => ?_) (fun h20 => ?_)
 ·
  refine ntQ (zak rfl (zcq (sbQ (zac (reQ 2 rfl (hvQ rfl (riQ 1 rfl rfl rfl rfl (zae 0 rfl)) ?_))))))
  refine hvQ rfl (zar (u := .bool ((tk.getD k bl0).b)) rfl rfl rfl (zae 0 rfl) (zcu blC (fun r => .bool r.b) (fun _ => rfl) tk bl0 (show k < _ by omega))) (zca (fun h21 => ?_) (fun h21 => ?_))
  ·
   refine zaz 1 rfl (fsQ rfl (zcv (reQ 1 rfl (hvQ rfl (vaQ rfl rfl rfl) (enQ 1 rfl ?_)))))
   exact zbi (k + 1) gv fs ⟨by omega, hlf.trans (zuw htk9 (by omega) (by assumption))⟩ (by omega) (saQ rfl) (pfQ rfl)
  refine zap 1 rfl (zbu (zaw (zak rfl (zay (zap 2 rfl (hvQ rfl (zcw (cs := #[.int .i64 (k : Int), .int .i64 (-1)]) rfl rfl rfl) ?_))))))
  refine zdk rfl (zat (z := .agg #[.int .i64 0, .int .i64 0]) (s := 2) (cs := ([(k : Int), -1].map (Value.int .i64))) rfl Try.underlying37 rfl (by decide) rfl (by kernel_rfl) rfl) ?_
  intro g22
  refine zcd (i := 3) (z := .agg #[.int .i64 0, .int .i64 0]) (bytes := 16) rfl rfl rfl rfl Try.underlying37 (by kernel_rfl) rfl rfl rfl rfl (zae 0 rfl) (zbm _) (by first | omega | (simp only [List.length_append, List.length_cons, List.length_nil]; omega)) (zbv fs [(Le.mk (k : Int) (-1))]) (zcx leC fs (Le.mk (k : Int) (-1)) _ rfl) (fun _ => rfl) ?_
  intro v23
  refine enQ 1 rfl (zcv (reQ 1 rfl (hvQ rfl (vaQ rfl rfl rfl) (enQ 1 rfl ?_))))
  exact zbi (k + 1) v23 (fs ++ [(Le.mk (k : Int) (-1))]) ⟨by omega, by rw [hlf]; exact lesB_no htk9 (by omega) (by assumption)⟩ (by omega) (saQ rfl) (slQ [1, 0, 0, 0] rfl)
 refine ntQ (zal rfl ?_)
 refine zba (zdq ?_)
 refine zag (zaw (zbd 2 rfl ?_))
 exact zau (zck (post := [rowE 70 2 gv fs.length (fs.flatMap leC)]) rfl rfl (slQ [2] rfl) (by rw [hlf, show k = n.ls.length by omega]; rfl))
theorem zui (n : Ln) (w : World) (hr : RdsLn w n) (hok : LnOk n) :
   Calls Try.prog 63 #[.agg #[.int .i64 n.ins, n.sv, n.lv, n.ov]] w (Ret w (fun u_ p_ => ∃ (ps : List HP) (bs : List Bk) (bv : Value) (ok : Bool), u_ = .tuple #[bv, .bool ok] ∧ p_ = [bigE ps] ∧ (∀ w, (bigE ps).holds w → RdsBk w bv bs) ∧ bv.oneCell' = true ∧ BsOk bs ∧ bs.length ≤ 64 ∧ (ok = true → PkOk n bs))) := by
 have hso := sml hr.ou
 have hss := hr.sq.small
 have hsl := hr.lt.small
 have hcnt : n.cnt = 1 + n.ins + n.ss.length + n.ls.length := rfl
 have hfst : n.fst = 1 + n.ins + n.ss.length := rfl
 obtain ⟨⟨si0, si1⟩, s2, s3, s4⟩ := hok.sz
 have hle : LesIn n (lesK n) := fun k hk => (zor hok (zbl hk)).1
 have hel : (lesK n).length ≤ 412 := by have h9 := zos n n.ls.length; show (lesB n n.ls.length).length ≤ 412; omega
 refine zbf (N := 152) (args := [.agg #[.int .i64 n.ins, n.sv, n.lv, n.ov]]) Try.func63 rfl rfl (srQ ?_)
 refine zdj rfl (zch rfl rfl) ?_
 intro b1
 refine zaz 2 rfl (srQ ?_)
 refine zdk rfl (zbz (s := 3) rfl Try.underlying31 rfl) ?_
 intro g2
 refine zaz 1 rfl (zeh (hvQ rfl (zao (cs := [.int .i64 n.ins, n.sv, n.lv, n.ov]) rfl rfl rfl rfl rfl (zaj 1 rfl 0 rfl)) ?_))
 refine zds rfl (zaq rfl rfl (fun w hm => zav (by have h9 := zfl n w (hr.below hm.bel); rw [zdu hok] at h9; exact h9))) (zaz 1 rfl (zal rfl (zcq (zac (zbd 1 rfl ?_)))))
 refine zax ?_
 refine zgn (α := Nat) (β := Value) (γ := List Bk) [0, 1, 2, 3, 19] rfl (fun i gu bs => [rowE 39 3 gu bs.length (bs.flatMap bkC), boxE b1 #[.int .i64 n.ins, n.sv, n.lv, n.ov] 30]) (fun i gu bs => [(4, gu), (5, .int .i64 (i : Int))]) (fun i gu bs => i ≤ n.ins.toNat ∧ bs.length ≤ 0 + i ∧ BsNil bs ∧ bs = pkA n i) (fun i gu bs => n.ins.toNat - i) 0 _ [] ⟨Nat.zero_le _, Nat.zero_le _, BsNil.nil, rfl⟩ (saQ rfl) (pfQ rfl) ?_
 intro i gu bs hi3
 obtain ⟨hi, hlbs, hnbs, hqbs⟩ := hi3
 refine zac (zac (reQ 1 rfl (hvQ rfl (fdQ 0 rfl rfl rfl) (hvQ rfl (zad rfl rfl rfl (zaa 1 rfl rfl)) ?_))))
 refine zbj rfl rfl rfl rfl rfl rfl (fun h4 => ?_) (fun h4 => ?_)
 ·
  refine (zbu (zaw (zak rfl (zfe (zaw (zac (zax (zay (zap 2 rfl (hvQ rfl (zcw (cs := #[.int .i64 0, .int .i64 (i : Int), .slice none 0 0]) rfl rfl rfl) ?_))))))))))
  refine zdk rfl (zat (z := .agg #[.int .i64 0, .int .i64 0, .slice none 0 0]) (s := 3) (cs := [.int .i64 0, .int .i64 (i : Int), .slice none 0 0]) rfl Try.underlying31 rfl (by decide) rfl (by kernel_rfl) rfl) ?_
  intro g5
  refine zcd (i := 1) (z := .agg #[.int .i64 0, .int .i64 0, .slice none 0 0]) (bytes := 40) rfl rfl rfl rfl Try.underlying31 (by kernel_rfl) rfl rfl rfl rfl (zae 0 rfl) (by simp [Value.oneCell']) (by first | omega | (simp only [List.length_append, List.length_cons, List.length_nil]; omega)) (zbv bs [(Bk.mk 0 (i : Int) (.slice none 0 0) [])]) (zcx bkC bs (Bk.mk 0 (i : Int) (.slice none 0 0) []) _ rfl) (fun _ => rfl) ?_
  intro v6
  refine enQ 1 rfl (zcv (reQ 1 rfl (hvQ rfl (vaQ rfl rfl rfl) (enQ 1 rfl ?_))))
  exact zbi (i + 1) v6 (bs ++ [(Bk.mk 0 (i : Int) (.slice none 0 0) [])]) ⟨by omega, by (try rw [List.length_append, List.length_singleton]); omega, by first | assumption | exact hnbs.app (by decide), by rw [hqbs]; rfl⟩ (by omega) (saQ rfl) (slQ [1, 0] rfl)
 refine ntQ (zal rfl ?_)
 refine zba (zdq ?_)
 refine zag (zaw (zac (zbd 1 rfl (zax ?_))))
 refine zgn (α := Nat) (β := Value) (γ := List Bk) [0, 1, 2, 3, 19, 24] rfl (fun j gv cs => [rowE 39 3 gv cs.length (cs.flatMap bkC), boxE b1 #[.int .i64 n.ins, n.sv, n.lv, n.ov] 30]) (fun j gv cs => [(4, gv), (6, .int .i64 (j : Int))]) (fun j gv cs => j ≤ n.os.length ∧ cs.length ≤ 20 + j ∧ BsNil cs ∧ cs = pkB n j) (fun j gv cs => n.os.length - j) 0 _ bs ⟨Nat.zero_le _, by omega, by assumption, by rw [hqbs, show i = n.ins.toNat by omega]; rfl⟩ (saQ rfl) (pfQ rfl) ?_
 intro j gv cs hi7
 obtain ⟨hj, hlcs, hncs, hqcs⟩ := hi7
 refine zac (zac (reQ 1 rfl (hvQ rfl (fdQ 3 rfl rfl rfl) (hvQ rfl (zad rfl rfl rfl (zaa 1 rfl rfl)) (hvQ rfl (lnQ rfl rfl rfl (zab ((hr).ou))) ?_)))))
 refine zbj rfl rfl rfl rfl rfl rfl (fun h8 => ?_) (fun h8 => ?_)
 ·
  refine (zbu (zaw (zak rfl (zfe (zaw (zac (zax (zay (zap 2 rfl (hvQ rfl (zcw (cs := #[.int .i64 1, .int .i64 (j : Int), .slice none 0 0]) rfl rfl rfl) ?_))))))))))
  refine zdk rfl (zat (z := .agg #[.int .i64 0, .int .i64 0, .slice none 0 0]) (s := 3) (cs := [.int .i64 1, .int .i64 (j : Int), .slice none 0 0]) rfl Try.underlying31 rfl (by decide) rfl (by kernel_rfl) rfl) ?_
  intro g9
  refine zcd (i := 1) (z := .agg #[.int .i64 0, .int .i64 0, .slice none 0 0]) (bytes := 40) rfl rfl rfl rfl Try.underlying31 (by kernel_rfl) rfl rfl rfl rfl (zae 0 rfl) (by simp [Value.oneCell']) (by first | omega | (simp only [List.length_append, List.length_cons, List.length_nil]; omega)) (zbv cs [(Bk.mk 1 (j : Int) (.slice none 0 0) [])]) (zcx bkC cs (Bk.mk 1 (j : Int) (.slice none 0 0) []) _ rfl) (fun _ => rfl) ?_
  intro v10
  refine enQ 1 rfl (zcv (reQ 1 rfl (hvQ rfl (vaQ rfl rfl rfl) (enQ 1 rfl ?_))))
  exact zbi (j + 1) v10 (cs ++ [(Bk.mk 1 (j : Int) (.slice none 0 0) [])]) ⟨by omega, by (try rw [List.length_append, List.length_singleton]); omega, by first | assumption | exact hncs.app (by decide), by rw [hqcs]; rfl⟩ (by omega) (saQ rfl) (slQ [1, 0] rfl)
 refine ntQ (zal rfl ?_)
 refine zba (zdq ?_)
 refine zag (zaw (zac (zbd 1 rfl (zax ?_))))
 refine zgn (α := Nat) (β := Value) (γ := List Bk) [0, 1, 2, 3, 19, 24, 36] rfl (fun k gw ds => [rowE 39 3 gw ds.length (ds.flatMap bkC), boxE b1 #[.int .i64 n.ins, n.sv, n.lv, n.ov] 30]) (fun k gw ds => [(4, gw), (7, .int .i64 (k : Int))]) (fun k gw ds => k ≤ n.ss.length ∧ ds.length ≤ 36 + k ∧ BsNil ds ∧ ds = pkC n k) (fun k gw ds => n.ss.length - k) 0 _ cs ⟨Nat.zero_le _, by omega, by assumption, by rw [hqcs, show j = n.os.length by omega]; rfl⟩ (saQ rfl) (pfQ rfl) ?_
 intro k gw ds hi11
 obtain ⟨hk, hlds, hnds, hqds⟩ := hi11
 refine zac (zac (reQ 1 rfl (hvQ rfl (fdQ 1 rfl rfl rfl) (hvQ rfl (zad rfl rfl rfl (zaa 1 rfl rfl)) (hvQ rfl (lnQ rfl rfl rfl (zab ((hr).sq.row))) ?_)))))
 refine zbj rfl rfl rfl rfl rfl rfl (fun h12 => ?_) (fun h12 => ?_)
 ·
  refine ntQ (zak rfl (zcq (sbQ (srQ (hvQ rfl (fdQ 1 rfl rfl rfl) (hvQ rfl (zad rfl rfl rfl (zaa 1 rfl rfl)) (zap 1 rfl (hvQ rfl (riQ 3 rfl rfl rfl rfl (zab ((hr).sq.row))) ?_))))))))
  refine hvQ rfl (zbe (k0 := 0) rfl rfl rfl (zab ((hr).sq.row)) (by omega)) (hvQ rfl (zar (u := .int .i64 ((n.ss.getD k sq0).kd)) rfl rfl rfl (zab ((hr).sq.row)) ((zce sqC 3 (fun _ => rfl) n.ss sq0 (show k < _ by omega) (by decide)).trans rfl)) ?_)
  refine zbp rfl rfl rfl rfl rfl rfl (fun h13 => ?_) (fun h13 => ?_)
  ·
   refine (zbu (zaw (zak rfl (zay (zap 2 rfl (hvQ rfl (zcw (cs := #[.int .i64 2, .int .i64 (k : Int), .slice none 0 0]) rfl rfl rfl) ?_))))))
   refine zdk rfl (zat (z := .agg #[.int .i64 0, .int .i64 0, .slice none 0 0]) (s := 3) (cs := [.int .i64 2, .int .i64 (k : Int), .slice none 0 0]) rfl Try.underlying31 rfl (by decide) rfl (by kernel_rfl) rfl) ?_
   intro g14
   refine zcd (i := 1) (z := .agg #[.int .i64 0, .int .i64 0, .slice none 0 0]) (bytes := 40) rfl rfl rfl rfl Try.underlying31 (by kernel_rfl) rfl rfl rfl rfl (zae 0 rfl) (by simp [Value.oneCell']) (by first | omega | (simp only [List.length_append, List.length_cons, List.length_nil]; omega)) (zbv ds [(Bk.mk 2 (k : Int) (.slice none 0 0) [])]) (zcx bkC ds (Bk.mk 2 (k : Int) (.slice none 0 0) []) _ rfl) (fun _ => rfl) ?_
   intro v15
   refine enQ 1 rfl (zcv (reQ 1 rfl (hvQ rfl (vaQ rfl rfl rfl) (enQ 1 rfl ?_))))
   exact zbi (k + 1) v15 (ds ++ [(Bk.mk 2 (k : Int) (.slice none 0 0) [])]) ⟨by omega, by (try rw [List.length_append, List.length_singleton]); omega, by first | assumption | exact hnds.app (by decide), by (rw [hqds]; exact (if_pos (by assumption)).symm)⟩ (by omega) (saQ rfl) (slQ [1, 0] rfl)
  refine ntQ (fsQ rfl (zcv (reQ 1 rfl (hvQ rfl (vaQ rfl rfl rfl) (enQ 1 rfl ?_)))))
  exact zbi (k + 1) gw ds ⟨by omega, by (try rw [List.length_append, List.length_singleton]); omega, by first | assumption | exact hnds.app (by decide), by (rw [hqds]; exact (if_neg (by omega)).symm)⟩ (by omega) (saQ rfl) (pfQ rfl)
 refine ntQ (zal rfl ?_)
 refine zba (zdq ?_)
 refine zag (zaw (srQ (hvQ rfl (zao (cs := [.int .i64 n.ins, n.sv, n.lv, n.ov]) rfl rfl rfl rfl rfl (zaj 1 rfl 0 rfl)) ?_)))
 refine zfg rfl rfl rfl (zaq rfl rfl (fun w hm => zov n w (hr.below hm.bel) hok)) ?_
 intro v16 p17 hR18
 subst hR18
 refine zaz 1 rfl (zac (reQ 1 rfl (hvQ rfl (lnQ rfl rfl rfl (zae 0 rfl)) ?_)))
 refine zdk rfl (zdw (z := .bool false) (s := 1) (bytes := 1) (n := (List.replicate ((lesK n).length) bl0).length) (cs := ((List.replicate ((lesK n).length) bl0).flatMap blC)) rfl Try.underlying130 rfl (by decide) rfl rfl (by first | (rw [List.length_replicate]; done) | (rw [List.length_replicate]; omega)) (by first | (rw [List.length_replicate]; done) | (rw [List.length_replicate]; omega)) (by rw [List.length_replicate]; omega) (zex blC 1 (fun _ => rfl) bl0 _ rfl ((lesK n).length))) ?_
 intro g19
 refine zaz 1 rfl (zac (zbd 1 rfl (zax ?_)))
 refine zep _ zfh ?_
 refine zrs (α := Nat) (β := Value × List Bk) (γ := List Bl) (δ := List HP) [0, 1, 2, 3, 8, 9, 19, 24, 36, 48] rfl (fun i U D ps => [bigE ps, rowE 4 1 (.slice (some ⟨g19, 0, none⟩) ((List.replicate ((lesK n).length) bl0).length) ((List.replicate ((lesK n).length) bl0).length)) D.length (D.flatMap blC), rowE 70 2 v16 ((lesK n).length) ((lesK n).flatMap leC), rowE 39 3 U.1 U.2.length (U.2.flatMap bkC), boxE b1 #[.int .i64 n.ins, n.sv, n.lv, n.ov] 30]) (fun i U D ps => [(4, U.1), (10, .int .i64 (i : Int))]) (fun i U D ps => i ≤ (lesK n).length ∧ U.2.length ≤ 64 ∧ BsOk U.2 ∧ D.length = (lesK n).length ∧ (∀ w, (bigE ps).holds w → EsR w U.2) ∧ LbP n (lesK n) i D U.2) (fun i U D ps => (lesK n).length - i) 0 (_, ds) (List.replicate (lesK n).length bl0) [] ⟨Nat.zero_le _, by show (ds).length ≤ 64; omega, hnds.ok, List.length_replicate, fun w _ => hnds.es w, by rw [hqds, show k = n.ss.length by omega]; exact LbP.start⟩ (saQ rfl) (pfQ rfl) ?_
 intro i U D ps hi20
 obtain ⟨hi, hul, hbo, hdl, hps, hLB⟩ := hi20
 refine zac (zac (reQ 2 rfl (hvQ rfl (lnQ rfl rfl rfl (zae 2 rfl)) ?_)))
 refine zbj rfl rfl rfl rfl rfl rfl (fun h21 => ?_) (fun h21 => ?_)
 ·
  refine ntQ (zak rfl (zcq (sbQ (zac (zac (reQ 2 rfl (hvQ rfl (riQ 1 rfl rfl rfl rfl (zae 1 rfl)) ?_)))))))
  refine hvQ rfl (zar (u := .bool ((D.getD i bl0).b)) rfl rfl rfl (zae 1 rfl) (zcu blC (fun r => .bool r.b) (fun _ => rfl) D bl0 (show i < _ by omega))) (zca (fun h22 => ?_) (fun h22 => ?_))
  ·
   refine ntQ (zak rfl ?_)
   refine zba (zdg ?_)
   refine zag (zaw (reQ 1 rfl (hvQ rfl (vaQ rfl rfl rfl) (enQ 1 rfl ?_))))
   exact zct (i + 1) (U.1, U.2) D ps ⟨by omega, hul, hbo, hdl, hps, hLB.skip (by assumption)⟩ (by omega) (saQ rfl) (pfQ rfl)
  refine ntQ (zal rfl (zcq (zac (zac (reQ 1 rfl (hvQ rfl (lnQ rfl rfl rfl (zae 3 rfl)) ?_))))))
  refine zbp rfl rfl rfl rfl rfl rfl (fun h23 => ?_) (fun h23 => ?_)
  ·
   refine ntQ (zak rfl (srQ ?_))
   refine zdk rfl (zbz (s := 3) rfl Try.underlying31 rfl) ?_
   intro g24
   refine zaz 2 rfl ?_
   refine zau (zai ?_)
   refine zan (zge ?_)
   refine zan (zai ?_)
   refine zbw 6 [5, 4, 3, 2, 1, 0] rfl rfl (by decide) ?_
   refine zcz 1 rfl ?_
   exact zdm (rs := [.tmp 2, .tmp 3]) (vs := [.slice (some ⟨g24, 0, none⟩) 0 0, .bool false]) (post := [bigE [rowE 39 3 (.slice (some ⟨g24, 0, none⟩) 0 0) 0 ([])]]) rfl ⟨rfl, rfl, trivial⟩ rfl (slQ [0] rfl) ⟨_, [], _, _, rfl, rfl, fun w hw => ⟨zcf (zbh hw List.mem_cons_self), (fun b hb => by cases hb)⟩, rfl, (fun b hb => by cases hb), by decide, fun h => (by cases h)⟩
  refine ntQ (zal rfl (zcq (zbd 1 rfl (srQ ?_))))
  refine zaz 1 rfl (zac (zac (reQ 1 rfl (hvQ rfl (vaQ rfl rfl rfl) (zaz 1 rfl (zax ?_))))))
  refine zgn (α := Nat) (β := Int) (γ := Int) [0, 1, 2, 3, 4, 8, 9, 10, 19, 24, 36, 48, 71, 77, 80] rfl (fun k best most => [bigE ps, rowE 4 1 (.slice (some ⟨g19, 0, none⟩) ((List.replicate ((lesK n).length) bl0).length) ((List.replicate ((lesK n).length) bl0).length)) D.length (D.flatMap blC), rowE 70 2 v16 ((lesK n).length) ((lesK n).flatMap leC), rowE 39 3 U.1 U.2.length (U.2.flatMap bkC), boxE b1 #[.int .i64 n.ins, n.sv, n.lv, n.ov] 30]) (fun k best most => [(11, .int .i64 best), (12, .int .i64 most), (13, .int .i64 (k : Int))]) (fun k best most => (i + 1 ≤ k ∧ k ≤ (lesK n).length) ∧ (best = -1 ∨ ((i < best ∧ best < (lesK n).length) ∧ (D.getD best.toNat bl0).b = false ∧ (pinsK n [(lesK n).getD i le0, (lesK n).getD best.toNat le0]).length ≤ 5))) (fun k best most => (lesK n).length - k) (i + 1) _ _ ⟨by omega, .inl rfl⟩ (saQ rfl) (pfQ rfl) ?_
  intro k best most hi25
  obtain ⟨⟨hk0, hk1⟩, hb⟩ := hi25
  refine zac (zac (reQ 2 rfl (hvQ rfl (lnQ rfl rfl rfl (zae 2 rfl)) ?_)))
  refine zbj rfl rfl rfl rfl rfl rfl (fun h26 => ?_) (fun h26 => ?_)
  ·
   refine ntQ (zak rfl (zcq (sbQ (zac (zac ?_)))))
   rcases Bool.eq_false_or_eq_true ((D.getD k bl0).b) with hb27 | hb27
   ·
    refine zby 19 [[], [], [0, 1], [2], [3], [4], [4], [4], [4], [4], [4], [4], [4], [4], [4], [4], [4], [4], [4, 17]] [90, 91, 92, 93, 94, 95, 96, 97, 98, 99, 100, 101, 102, 103, 104, 105, 106, 107, 108] [.slice (some ⟨g19, 0, none⟩) ((List.replicate ((lesK n).length) bl0).length) ((List.replicate ((lesK n).length) bl0).length), .int .i64 (k : Int), elP (.slice (some ⟨g19, 0, none⟩) ((List.replicate ((lesK n).length) bl0).length) ((List.replicate ((lesK n).length) bl0).length)) (((k : Int)).toNat * 1), .bool true, .bool true, undef, undef, undef, undef, undef, undef, undef, undef, undef, undef, undef, undef, undef, .bool true] (by kernel_rfl) rfl ?_ ?_
    ·
     exact ⟨iaQ rfl (zas rfl) rfl, iaQ rfl (zas rfl) rfl, iaQ rfl (riQ 1 rfl rfl rfl rfl (zae 1 rfl)) rfl, .inl ⟨rfl, zek (zar (u := .bool ((D.getD k bl0).b)) rfl rfl rfl (zae 1 rfl) (zcu blC (fun r => .bool r.b) (fun _ => rfl) D bl0 (show k < _ by omega))) hb27⟩, iaQ rfl (zas rfl) rfl, .inr ⟨rfl, rfl⟩, .inr ⟨rfl, rfl⟩, .inr ⟨rfl, rfl⟩, .inr ⟨rfl, rfl⟩, .inr ⟨rfl, rfl⟩, .inr ⟨rfl, rfl⟩, .inr ⟨rfl, rfl⟩, .inr ⟨rfl, rfl⟩, .inr ⟨rfl, rfl⟩, .inr ⟨rfl, rfl⟩, .inr ⟨rfl, rfl⟩, .inr ⟨rfl, rfl⟩, .inr ⟨rfl, rfl⟩, iaQ rfl (zas rfl) rfl, trivial⟩
    simp only [List.drop_succ_cons, List.drop_zero]
    refine ntQ (zak rfl ?_)
    refine zba (zdg ?_)
    refine zag (zaw (reQ 1 rfl (hvQ rfl (vaQ rfl rfl rfl) (enQ 1 rfl ?_))))
    exact zbi (k + 1) _ _ ⟨by omega, by first | exact hb | exact .inr ⟨⟨by omega, by omega⟩, by rw [Int.toNat_natCast]; assumption, by rw [Int.toNat_natCast]; omega⟩⟩ (by omega) (saQ rfl) (pfQ rfl)
   rcases Bool.eq_false_or_eq_true (decide (5 < ((pinsK n [(lesK n).getD i le0, (lesK n).getD k le0]).length : Int))) with hb32 | hb32
   ·
    have hb32p : 5 < ((pinsK n [(lesK n).getD i le0, (lesK n).getD k le0]).length : Int) := of_decide_eq_true hb32
    refine zdf rfl 19 [0, 1, 2, 3, 4, 5, 6, 7, 8, 9, 10, 11, 12, 13, 14, 15, 16, 17, 18] (List.take 19 _) (List.drop 19 _) [[], [], [0, 1], [2], [3], [4], [4], [4], [4, 6, 7], [4, 8], [4], [4], [4, 10, 11], [4, 12], [4, 9, 13], [4, 5, 14], [4, 15], [4, 15, 16], [4, 17]] [90, 91, 92, 93, 94, 95, 96, 97, 98, 99, 100, 101, 102, 103, 104, 105, 106, 107, 108] (fun i_ vs_ v_ p_ => match i_ with | 0 => v_ = .slice (some ⟨g19, 0, none⟩) ((List.replicate ((lesK n).length) bl0).length) ((List.replicate ((lesK n).length) bl0).length) ∧ p_ = [] | 1 => v_ = .int .i64 (k : Int) ∧ p_ = [] | 2 => v_ = elP (.slice (some ⟨g19, 0, none⟩) ((List.replicate ((lesK n).length) bl0).length) ((List.replicate ((lesK n).length) bl0).length)) (((k : Int)).toNat * 1) ∧ p_ = [] | 3 => v_ = .bool false ∧ p_ = [] | 4 => v_ = .bool false ∧ p_ = [] | 5 => v_ = .agg #[.int .i64 n.ins, n.sv, n.lv, n.ov] ∧ p_ = [] | 6 => v_ = v16 ∧ p_ = [] | 7 => v_ = .int .i64 (i : Int) ∧ p_ = [] | 8 => v_ = elP v16 (((i : Int)).toNat * 2) ∧ p_ = [] | 9 => v_ = .agg #[.int .i64 (((lesK n).getD i le0).u), .int .i64 (((lesK n).getD i le0).f)] ∧ p_ = [] | 10 => v_ = v16 ∧ p_ = [] | 11 => v_ = .int .i64 (k : Int) ∧ p_ = [] | 12 => v_ = elP v16 (((k : Int)).toNat * 2) ∧ p_ = [] | 13 => v_ = .agg #[.int .i64 (((lesK n).getD k le0).u), .int .i64 (((lesK n).getD k le0).f)] ∧ p_ = [] | 14 => IsRow 70 2 2 ([((lesK n).getD i le0).u, ((lesK n).getD i le0).f, ((lesK n).getD k le0).u, ((lesK n).getD k le0).f].map (Value.int .i64)) v_ p_ | 15 => (fun v' post => post = [rowE 3 1 v' ((pinsK n [(lesK n).getD i le0, (lesK n).getD k le0])).length (((pinsK n [(lesK n).getD i le0, (lesK n).getD k le0])).map (Value.int .i64))]) v_ p_ | 16 => v_ = .int .i64 ((pinsK n [(lesK n).getD i le0, (lesK n).getD k le0]).length : Int) ∧ p_ = [] | 17 => v_ = .bool true ∧ p_ = [] | 18 => v_ = .bool true ∧ p_ = [] | _ => True) (List.take_append_drop 19 _).symm (by kernel_rfl) (by kernel_rfl) rfl rfl ?_ ?_
    ·
     refine ⟨?_, ?_, ?_, ?_, ?_, ?_, ?_, ?_, ?_, ?_, ?_, ?_, ?_, ?_, ?_, ?_, ?_, ?_, ?_, trivial⟩
     ·
      intro vf pf hR
      exact ovQ rfl (zam [9] rfl) (zbg (zas rfl))
     ·
      intro vf pf hR
      exact ovQ rfl (zam [13] rfl) (zbg (zas rfl))
     ·
      intro vf pf hR
      have e0 := hR 0 (by decide)
      have e1 := hR 1 (by decide)
      exact olQ rfl (sk 90 (congrArg some e0.1) (sk 91 (congrArg some e1.1) (zaf _))) (zbg (riQ 1 rfl rfl rfl rfl (zae 1 rfl)))
     ·
      intro vf pf hR
      have e2 := hR 2 (by decide)
      exact olQ rfl (sk 92 (congrArg some e2.1) (zaf _)) (zcy (zbg (zar (u := .bool ((D.getD k bl0).b)) rfl rfl rfl (zae 1 rfl) (zcu blC (fun r => .bool r.b) (fun _ => rfl) D bl0 (show k < _ by omega)))) (fun _ _ h => ⟨h.1.trans (congrArg Value.bool hb27), h.2⟩))
     ·
      intro vf pf hR
      have e3 := hR 3 (by decide)
      exact ovQ rfl (sk 93 (congrArg some e3.1) (zaf _)) (zbg (zas rfl))
     ·
      intro vf pf hR
      have e4 := hR 4 (by decide)
      refine Or.inl ⟨zcj (congrArg some e4.1) rfl, ?_⟩
      exact zbo (zam [1] rfl) (List.sublist_append_right _ _) (zbg (zao (cs := [.int .i64 n.ins, n.sv, n.lv, n.ov]) rfl rfl rfl rfl rfl (zaj 4 rfl 0 rfl)))
     ·
      intro vf pf hR
      have e4 := hR 4 (by decide)
      refine Or.inl ⟨zcj (congrArg some e4.1) rfl, ?_⟩
      exact zcg (zam [8] rfl) (zbg (zas rfl))
     ·
      intro vf pf hR
      have e4 := hR 4 (by decide)
      refine Or.inl ⟨zcj (congrArg some e4.1) rfl, ?_⟩
      exact zcg (zam [10] rfl) (zbg (zas rfl))
     ·
      intro vf pf hR
      have e4 := hR 4 (by decide)
      have e6 := hR 6 (by decide)
      have e7 := hR 7 (by decide)
      refine Or.inl ⟨zcj (congrArg some e4.1) rfl, ?_⟩
      exact zbo (sk 96 (congrArg some e6.1) (sk 97 (congrArg some e7.1) (zaf _))) (List.sublist_append_right _ _) (zbg (riQ 2 rfl rfl rfl rfl (zae 2 rfl)))
     ·
      intro vf pf hR
      have e4 := hR 4 (by decide)
      have e8 := hR 8 (by decide)
      refine Or.inl ⟨zcj (congrArg some e4.1) rfl, ?_⟩
      exact zbo (sk 98 (congrArg some e8.1) (zaf _)) (List.sublist_append_right _ _) (zbg (zbt (us := [.int .i64 (((lesK n).getD i le0).u), .int .i64 (((lesK n).getD i le0).f)]) rfl rfl rfl rfl (zae 2 rfl) (by omega) rfl (zcp leC 2 (fun _ => rfl) (lesK n) le0 (show i < _ by omega) rfl)))
     ·
      intro vf pf hR
      have e4 := hR 4 (by decide)
      refine Or.inl ⟨zcj (congrArg some e4.1) rfl, ?_⟩
      exact zcg (zam [8] rfl) (zbg (zas rfl))
     ·
      intro vf pf hR
      have e4 := hR 4 (by decide)
      refine Or.inl ⟨zcj (congrArg some e4.1) rfl, ?_⟩
      exact zcg (zam [13] rfl) (zbg (zas rfl))
     ·
      intro vf pf hR
      have e4 := hR 4 (by decide)
      have e10 := hR 10 (by decide)
      have e11 := hR 11 (by decide)
      refine Or.inl ⟨zcj (congrArg some e4.1) rfl, ?_⟩
      exact zbo (sk 100 (congrArg some e10.1) (sk 101 (congrArg some e11.1) (zaf _))) (List.sublist_append_right _ _) (zbg (riQ 2 rfl rfl rfl rfl (zae 2 rfl)))
     ·
      intro vf pf hR
      have e4 := hR 4 (by decide)
      have e12 := hR 12 (by decide)
      refine Or.inl ⟨zcj (congrArg some e4.1) rfl, ?_⟩
      exact zbo (sk 102 (congrArg some e12.1) (zaf _)) (List.sublist_append_right _ _) (zbg (zbt (us := [.int .i64 (((lesK n).getD k le0).u), .int .i64 (((lesK n).getD k le0).f)]) rfl rfl rfl rfl (zae 2 rfl) (by omega) rfl (zcp leC 2 (fun _ => rfl) (lesK n) le0 (show k < _ by omega) rfl)))
     ·
      intro vf pf hR
      have e4 := hR 4 (by decide)
      have e9 := hR 9 (by decide)
      have e13 := hR 13 (by decide)
      refine Or.inl ⟨zcj (congrArg some e4.1) rfl, ?_⟩
      exact zbo (sk 99 (congrArg some e9.1) (sk 103 (congrArg some e13.1) (zaf _))) (List.sublist_append_right _ _) (zat (z := .agg #[.int .i64 0, .int .i64 0]) (s := 2) (cs := ([((lesK n).getD i le0).u, ((lesK n).getD i le0).f, ((lesK n).getD k le0).u, ((lesK n).getD k le0).f].map (Value.int .i64))) rfl Try.underlying37 rfl (by decide) rfl (by kernel_rfl) rfl)
     ·
      intro vf pf hR
      have e4 := hR 4 (by decide)
      have e5 := hR 5 (by decide)
      have e14 : IsRow 70 2 2 ([((lesK n).getD i le0).u, ((lesK n).getD i le0).f, ((lesK n).getD k le0).u, ((lesK n).getD k le0).f].map (Value.int .i64)) (vf 14) (pf 14) := hR 14 (by decide)
      obtain ⟨g33, vE14, pE14⟩ := e14
      refine Or.inl ⟨zcj (congrArg some e4.1) rfl, ?_⟩
      exact zci (sk 95 (congrArg some e5.1) (sk 104 (congrArg some vE14) (zaf _))) (by simp only [pE14, vE14, e4.2, e5.2, fS] <;> rfl) (zaq rfl rfl (fun w hm => zgo n [(lesK n).getD i le0, (lesK n).getD k le0] _ w (hr.below hm.bel) hok (zae 0 rfl w hm) (by simp only [List.length_cons, List.length_nil]; omega) (hle.two (by omega) (by omega))))
     ·
      intro vf pf hR
      have e4 := hR 4 (by decide)
      have e15 : (fun v' post => post = [rowE 3 1 v' ((pinsK n [(lesK n).getD i le0, (lesK n).getD k le0])).length (((pinsK n [(lesK n).getD i le0, (lesK n).getD k le0])).map (Value.int .i64))]) (vf 15) (pf 15) := hR 15 (by decide)
      obtain ⟨v34, vE15⟩ : ∃ x, vf 15 = x := ⟨_, rfl⟩
      obtain ⟨p35, pE15⟩ : ∃ x, pf 15 = x := ⟨_, rfl⟩
      have hR36 := e15
      rw [vE15, pE15] at hR36
      subst hR36
      refine Or.inl ⟨zcj (congrArg some e4.1) rfl, ?_⟩
      exact zci (sk 105 (congrArg some vE15) (zaf _)) (by simp only [pE15, vE15, e4.2, fS] <;> rfl) (zbg (lnQ rfl rfl rfl (zae 0 rfl)))
     ·
      intro vf pf hR
      have e4 := hR 4 (by decide)
      have e15 : (fun v' post => post = [rowE 3 1 v' ((pinsK n [(lesK n).getD i le0, (lesK n).getD k le0])).length (((pinsK n [(lesK n).getD i le0, (lesK n).getD k le0])).map (Value.int .i64))]) (vf 15) (pf 15) := hR 15 (by decide)
      obtain ⟨v34, vE15⟩ : ∃ x, vf 15 = x := ⟨_, rfl⟩
      obtain ⟨p35, pE15⟩ : ∃ x, pf 15 = x := ⟨_, rfl⟩
      have hR36 := e15
      rw [vE15, pE15] at hR36
      subst hR36
      have e16 := hR 16 (by decide)
      refine Or.inl ⟨zcj (congrArg some e4.1) rfl, ?_⟩
      exact zci (sk 106 (congrArg some e16.1) (zaf _)) (by simp only [pE15, vE15, e4.2, e16.2, fS] <;> rfl) (zcy (zbg (zde rfl rfl rfl rfl)) (fun _ _ h => ⟨h.1.trans (congrArg Value.bool hb32), h.2⟩))
     intro vf pf hR
     have e4 := hR 4 (by decide)
     have e17 := hR 17 (by decide)
     exact ovQ rfl (sk 94 (congrArg some e4.1) (sk 107 (congrArg some e17.1) (zaf _))) (zbg (zas rfl))
    intro vf pf hR
    have e14 : IsRow 70 2 2 ([((lesK n).getD i le0).u, ((lesK n).getD i le0).f, ((lesK n).getD k le0).u, ((lesK n).getD k le0).f].map (Value.int .i64)) (vf 14) (pf 14) := hR 14 (by decide)
    obtain ⟨g33, vE14, pE14⟩ := e14
    have e15 : (fun v' post => post = [rowE 3 1 v' ((pinsK n [(lesK n).getD i le0, (lesK n).getD k le0])).length (((pinsK n [(lesK n).getD i le0, (lesK n).getD k le0])).map (Value.int .i64))]) (vf 15) (pf 15) := hR 15 (by decide)
    obtain ⟨v34, vE15⟩ : ∃ x, vf 15 = x := ⟨_, rfl⟩
    obtain ⟨p35, pE15⟩ : ∃ x, pf 15 = x := ⟨_, rfl⟩
    have hR36 := e15
    rw [vE15, pE15] at hR36
    subst hR36
    have e18 := hR 18 (by decide)
    have q0 := hR 0 (by decide)
    have q1 := hR 1 (by decide)
    have q2 := hR 2 (by decide)
    have q3 := hR 3 (by decide)
    have q4 := hR 4 (by decide)
    have q5 := hR 5 (by decide)
    have q6 := hR 6 (by decide)
    have q7 := hR 7 (by decide)
    have q8 := hR 8 (by decide)
    have q9 := hR 9 (by decide)
    have q10 := hR 10 (by decide)
    have q11 := hR 11 (by decide)
    have q12 := hR 12 (by decide)
    have q13 := hR 13 (by decide)
    have q16 := hR 16 (by decide)
    have q17 := hR 17 (by decide)
    have q18 := hR 18 (by decide)
    refine zco (zbk [87, 80, 77, 71, 48, 36, 24, 19, 13, 12, 11, 10, 9, 8, 4, 3, 2, 1, 0] _ (sk 108 (congrArg some e18.1) (zaf _)) rfl) (by simp only [pE14, vE14, pE15, vE15, q0.2, q1.2, q2.2, q3.2, q4.2, q5.2, q6.2, q7.2, q8.2, q9.2, q10.2, q11.2, q12.2, q13.2, q16.2, q17.2, q18.2, fS] <;> rfl) ?_
    simp only [List.drop_succ_cons, List.drop_zero]
    refine ntQ (zak rfl ?_)
    refine zba (zdg ?_)
    refine zag (zaw (reQ 1 rfl (hvQ rfl (vaQ rfl rfl rfl) (enQ 1 rfl ?_))))
    exact zbi (k + 1) _ _ ⟨by omega, by first | exact hb | exact .inr ⟨⟨by omega, by omega⟩, by rw [Int.toNat_natCast]; assumption, by rw [Int.toNat_natCast]; omega⟩⟩ (by omega) (saQ rfl) (slQ [2, 0, 0, 0, 0] rfl)
   have hb32p : ¬ (5 < ((pinsK n [(lesK n).getD i le0, (lesK n).getD k le0]).length : Int)) := of_decide_eq_false hb32
   refine zdf rfl 19 [0, 1, 2, 3, 4, 5, 6, 7, 8, 9, 10, 11, 12, 13, 14, 15, 16, 17, 18] (List.take 19 _) (List.drop 19 _) [[], [], [0, 1], [2], [3], [4], [4], [4], [4, 6, 7], [4, 8], [4], [4], [4, 10, 11], [4, 12], [4, 9, 13], [4, 5, 14], [4, 15], [4, 15, 16], [4, 17]] [90, 91, 92, 93, 94, 95, 96, 97, 98, 99, 100, 101, 102, 103, 104, 105, 106, 107, 108] (fun i_ vs_ v_ p_ => match i_ with | 0 => v_ = .slice (some ⟨g19, 0, none⟩) ((List.replicate ((lesK n).length) bl0).length) ((List.replicate ((lesK n).length) bl0).length) ∧ p_ = [] | 1 => v_ = .int .i64 (k : Int) ∧ p_ = [] | 2 => v_ = elP (.slice (some ⟨g19, 0, none⟩) ((List.replicate ((lesK n).length) bl0).length) ((List.replicate ((lesK n).length) bl0).length)) (((k : Int)).toNat * 1) ∧ p_ = [] | 3 => v_ = .bool false ∧ p_ = [] | 4 => v_ = .bool false ∧ p_ = [] | 5 => v_ = .agg #[.int .i64 n.ins, n.sv, n.lv, n.ov] ∧ p_ = [] | 6 => v_ = v16 ∧ p_ = [] | 7 => v_ = .int .i64 (i : Int) ∧ p_ = [] | 8 => v_ = elP v16 (((i : Int)).toNat * 2) ∧ p_ = [] | 9 => v_ = .agg #[.int .i64 (((lesK n).getD i le0).u), .int .i64 (((lesK n).getD i le0).f)] ∧ p_ = [] | 10 => v_ = v16 ∧ p_ = [] | 11 => v_ = .int .i64 (k : Int) ∧ p_ = [] | 12 => v_ = elP v16 (((k : Int)).toNat * 2) ∧ p_ = [] | 13 => v_ = .agg #[.int .i64 (((lesK n).getD k le0).u), .int .i64 (((lesK n).getD k le0).f)] ∧ p_ = [] | 14 => IsRow 70 2 2 ([((lesK n).getD i le0).u, ((lesK n).getD i le0).f, ((lesK n).getD k le0).u, ((lesK n).getD k le0).f].map (Value.int .i64)) v_ p_ | 15 => (fun v' post => post = [rowE 3 1 v' ((pinsK n [(lesK n).getD i le0, (lesK n).getD k le0])).length (((pinsK n [(lesK n).getD i le0, (lesK n).getD k le0])).map (Value.int .i64))]) v_ p_ | 16 => v_ = .int .i64 ((pinsK n [(lesK n).getD i le0, (lesK n).getD k le0]).length : Int) ∧ p_ = [] | 17 => v_ = .bool false ∧ p_ = [] | 18 => v_ = .bool false ∧ p_ = [] | _ => True) (List.take_append_drop 19 _).symm (by kernel_rfl) (by kernel_rfl) rfl rfl ?_ ?_
   ·
    refine ⟨?_, ?_, ?_, ?_, ?_, ?_, ?_, ?_, ?_, ?_, ?_, ?_, ?_, ?_, ?_, ?_, ?_, ?_, ?_, trivial⟩
    ·
     intro vf pf hR
     exact ovQ rfl (zam [9] rfl) (zbg (zas rfl))
    ·
     intro vf pf hR
     exact ovQ rfl (zam [13] rfl) (zbg (zas rfl))
    ·
     intro vf pf hR
     have e0 := hR 0 (by decide)
     have e1 := hR 1 (by decide)
     exact olQ rfl (sk 90 (congrArg some e0.1) (sk 91 (congrArg some e1.1) (zaf _))) (zbg (riQ 1 rfl rfl rfl rfl (zae 1 rfl)))
    ·
     intro vf pf hR
     have e2 := hR 2 (by decide)
     exact olQ rfl (sk 92 (congrArg some e2.1) (zaf _)) (zcy (zbg (zar (u := .bool ((D.getD k bl0).b)) rfl rfl rfl (zae 1 rfl) (zcu blC (fun r => .bool r.b) (fun _ => rfl) D bl0 (show k < _ by omega)))) (fun _ _ h => ⟨h.1.trans (congrArg Value.bool hb27), h.2⟩))
    ·
     intro vf pf hR
     have e3 := hR 3 (by decide)
     exact ovQ rfl (sk 93 (congrArg some e3.1) (zaf _)) (zbg (zas rfl))
    ·
     intro vf pf hR
     have e4 := hR 4 (by decide)
     refine Or.inl ⟨zcj (congrArg some e4.1) rfl, ?_⟩
     exact zbo (zam [1] rfl) (List.sublist_append_right _ _) (zbg (zao (cs := [.int .i64 n.ins, n.sv, n.lv, n.ov]) rfl rfl rfl rfl rfl (zaj 4 rfl 0 rfl)))
    ·
     intro vf pf hR
     have e4 := hR 4 (by decide)
     refine Or.inl ⟨zcj (congrArg some e4.1) rfl, ?_⟩
     exact zcg (zam [8] rfl) (zbg (zas rfl))
    ·
     intro vf pf hR
     have e4 := hR 4 (by decide)
     refine Or.inl ⟨zcj (congrArg some e4.1) rfl, ?_⟩
     exact zcg (zam [10] rfl) (zbg (zas rfl))
    ·
     intro vf pf hR
     have e4 := hR 4 (by decide)
     have e6 := hR 6 (by decide)
     have e7 := hR 7 (by decide)
     refine Or.inl ⟨zcj (congrArg some e4.1) rfl, ?_⟩
     exact zbo (sk 96 (congrArg some e6.1) (sk 97 (congrArg some e7.1) (zaf _))) (List.sublist_append_right _ _) (zbg (riQ 2 rfl rfl rfl rfl (zae 2 rfl)))
    ·
     intro vf pf hR
     have e4 := hR 4 (by decide)
     have e8 := hR 8 (by decide)
     refine Or.inl ⟨zcj (congrArg some e4.1) rfl, ?_⟩
     exact zbo (sk 98 (congrArg some e8.1) (zaf _)) (List.sublist_append_right _ _) (zbg (zbt (us := [.int .i64 (((lesK n).getD i le0).u), .int .i64 (((lesK n).getD i le0).f)]) rfl rfl rfl rfl (zae 2 rfl) (by omega) rfl (zcp leC 2 (fun _ => rfl) (lesK n) le0 (show i < _ by omega) rfl)))
    ·
     intro vf pf hR
     have e4 := hR 4 (by decide)
     refine Or.inl ⟨zcj (congrArg some e4.1) rfl, ?_⟩
     exact zcg (zam [8] rfl) (zbg (zas rfl))
    ·
     intro vf pf hR
     have e4 := hR 4 (by decide)
     refine Or.inl ⟨zcj (congrArg some e4.1) rfl, ?_⟩
     exact zcg (zam [13] rfl) (zbg (zas rfl))
    ·
     intro vf pf hR
     have e4 := hR 4 (by decide)
     have e10 := hR 10 (by decide)
     have e11 := hR 11 (by decide)
     refine Or.inl ⟨zcj (congrArg some e4.1) rfl, ?_⟩
     exact zbo (sk 100 (congrArg some e10.1) (sk 101 (congrArg some e11.1) (zaf _))) (List.sublist_append_right _ _) (zbg (riQ 2 rfl rfl rfl rfl (zae 2 rfl)))
    ·
     intro vf pf hR
     have e4 := hR 4 (by decide)
     have e12 := hR 12 (by decide)
     refine Or.inl ⟨zcj (congrArg some e4.1) rfl, ?_⟩
     exact zbo (sk 102 (congrArg some e12.1) (zaf _)) (List.sublist_append_right _ _) (zbg (zbt (us := [.int .i64 (((lesK n).getD k le0).u), .int .i64 (((lesK n).getD k le0).f)]) rfl rfl rfl rfl (zae 2 rfl) (by omega) rfl (zcp leC 2 (fun _ => rfl) (lesK n) le0 (show k < _ by omega) rfl)))
    ·
     intro vf pf hR
     have e4 := hR 4 (by decide)
     have e9 := hR 9 (by decide)
     have e13 := hR 13 (by decide)
     refine Or.inl ⟨zcj (congrArg some e4.1) rfl, ?_⟩
     exact zbo (sk 99 (congrArg some e9.1) (sk 103 (congrArg some e13.1) (zaf _))) (List.sublist_append_right _ _) (zat (z := .agg #[.int .i64 0, .int .i64 0]) (s := 2) (cs := ([((lesK n).getD i le0).u, ((lesK n).getD i le0).f, ((lesK n).getD k le0).u, ((lesK n).getD k le0).f].map (Value.int .i64))) rfl Try.underlying37 rfl (by decide) rfl (by kernel_rfl) rfl)
    ·
     intro vf pf hR
     have e4 := hR 4 (by decide)
     have e5 := hR 5 (by decide)
     have e14 : IsRow 70 2 2 ([((lesK n).getD i le0).u, ((lesK n).getD i le0).f, ((lesK n).getD k le0).u, ((lesK n).getD k le0).f].map (Value.int .i64)) (vf 14) (pf 14) := hR 14 (by decide)
     obtain ⟨g37, vE14, pE14⟩ := e14
     refine Or.inl ⟨zcj (congrArg some e4.1) rfl, ?_⟩
     exact zci (sk 95 (congrArg some e5.1) (sk 104 (congrArg some vE14) (zaf _))) (by simp only [pE14, vE14, e4.2, e5.2, fS] <;> rfl) (zaq rfl rfl (fun w hm => zgo n [(lesK n).getD i le0, (lesK n).getD k le0] _ w (hr.below hm.bel) hok (zae 0 rfl w hm) (by simp only [List.length_cons, List.length_nil]; omega) (hle.two (by omega) (by omega))))
    ·
     intro vf pf hR
     have e4 := hR 4 (by decide)
     have e15 : (fun v' post => post = [rowE 3 1 v' ((pinsK n [(lesK n).getD i le0, (lesK n).getD k le0])).length (((pinsK n [(lesK n).getD i le0, (lesK n).getD k le0])).map (Value.int .i64))]) (vf 15) (pf 15) := hR 15 (by decide)
     obtain ⟨v38, vE15⟩ : ∃ x, vf 15 = x := ⟨_, rfl⟩
     obtain ⟨p39, pE15⟩ : ∃ x, pf 15 = x := ⟨_, rfl⟩
     have hR40 := e15
     rw [vE15, pE15] at hR40
     subst hR40
     refine Or.inl ⟨zcj (congrArg some e4.1) rfl, ?_⟩
     exact zci (sk 105 (congrArg some vE15) (zaf _)) (by simp only [pE15, vE15, e4.2, fS] <;> rfl) (zbg (lnQ rfl rfl rfl (zae 0 rfl)))
    ·
     intro vf pf hR
     have e4 := hR 4 (by decide)
     have e15 : (fun v' post => post = [rowE 3 1 v' ((pinsK n [(lesK n).getD i le0, (lesK n).getD k le0])).length (((pinsK n [(lesK n).getD i le0, (lesK n).getD k le0])).map (Value.int .i64))]) (vf 15) (pf 15) := hR 15 (by decide)
     obtain ⟨v38, vE15⟩ : ∃ x, vf 15 = x := ⟨_, rfl⟩
     obtain ⟨p39, pE15⟩ : ∃ x, pf 15 = x := ⟨_, rfl⟩
     have hR40 := e15
     rw [vE15, pE15] at hR40
     subst hR40
     have e16 := hR 16 (by decide)
     refine Or.inl ⟨zcj (congrArg some e4.1) rfl, ?_⟩
     exact zci (sk 106 (congrArg some e16.1) (zaf _)) (by simp only [pE15, vE15, e4.2, e16.2, fS] <;> rfl) (zcy (zbg (zde rfl rfl rfl rfl)) (fun _ _ h => ⟨h.1.trans (congrArg Value.bool hb32), h.2⟩))
    intro vf pf hR
    have e4 := hR 4 (by decide)
    have e17 := hR 17 (by decide)
    exact ovQ rfl (sk 94 (congrArg some e4.1) (sk 107 (congrArg some e17.1) (zaf _))) (zbg (zas rfl))
   intro vf pf hR
   have e14 : IsRow 70 2 2 ([((lesK n).getD i le0).u, ((lesK n).getD i le0).f, ((lesK n).getD k le0).u, ((lesK n).getD k le0).f].map (Value.int .i64)) (vf 14) (pf 14) := hR 14 (by decide)
   obtain ⟨g37, vE14, pE14⟩ := e14
   have e15 : (fun v' post => post = [rowE 3 1 v' ((pinsK n [(lesK n).getD i le0, (lesK n).getD k le0])).length (((pinsK n [(lesK n).getD i le0, (lesK n).getD k le0])).map (Value.int .i64))]) (vf 15) (pf 15) := hR 15 (by decide)
   obtain ⟨v38, vE15⟩ : ∃ x, vf 15 = x := ⟨_, rfl⟩
   obtain ⟨p39, pE15⟩ : ∃ x, pf 15 = x := ⟨_, rfl⟩
   have hR40 := e15
   rw [vE15, pE15] at hR40
   subst hR40
   have e18 := hR 18 (by decide)
   have q0 := hR 0 (by decide)
   have q1 := hR 1 (by decide)
   have q2 := hR 2 (by decide)
   have q3 := hR 3 (by decide)
   have q4 := hR 4 (by decide)
   have q5 := hR 5 (by decide)
   have q6 := hR 6 (by decide)
   have q7 := hR 7 (by decide)
   have q8 := hR 8 (by decide)
   have q9 := hR 9 (by decide)
   have q10 := hR 10 (by decide)
   have q11 := hR 11 (by decide)
   have q12 := hR 12 (by decide)
   have q13 := hR 13 (by decide)
   have q16 := hR 16 (by decide)
   have q17 := hR 17 (by decide)
   have q18 := hR 18 (by decide)
   refine zco (zbk [87, 80, 77, 71, 48, 36, 24, 19, 13, 12, 11, 10, 9, 8, 4, 3, 2, 1, 0] _ (sk 108 (congrArg some e18.1) (zaf _)) rfl) (by simp only [pE14, vE14, pE15, vE15, q0.2, q1.2, q2.2, q3.2, q4.2, q5.2, q6.2, q7.2, q8.2, q9.2, q10.2, q11.2, q12.2, q13.2, q16.2, q17.2, q18.2, fS] <;> rfl) ?_
   simp only [List.drop_succ_cons, List.drop_zero]
   refine ntQ (zal rfl (zcq (zac ?_)))
   refine zby 10 [[], [], [], [1, 2], [3], [], [], [5, 6], [7], [0, 4, 8]] [109, 110, 111, 112, 113, 114, 115, 116, 117, 118] [.agg #[.int .i64 n.ins, n.sv, n.lv, n.ov], v16, .int .i64 (i : Int), elP v16 (((i : Int)).toNat * 2), .agg #[.int .i64 (((lesK n).getD i le0).u), .int .i64 (((lesK n).getD i le0).f)], v16, .int .i64 (k : Int), elP v16 (((k : Int)).toNat * 2), .agg #[.int .i64 (((lesK n).getD k le0).u), .int .i64 (((lesK n).getD k le0).f)], .int .i64 (comK n ((lesK n).getD i le0) ((lesK n).getD k le0))] (by kernel_rfl) rfl ?_ ?_
   ·
    exact ⟨iaQ rfl (zao (cs := [.int .i64 n.ins, n.sv, n.lv, n.ov]) rfl rfl rfl rfl rfl (zaj 6 rfl 0 rfl)) rfl, iaQ rfl (zas rfl) rfl, iaQ rfl (zas rfl) rfl, iaQ rfl (riQ 2 rfl rfl rfl rfl (zae 4 rfl)) rfl, iaQ rfl (zbt (us := [.int .i64 (((lesK n).getD i le0).u), .int .i64 (((lesK n).getD i le0).f)]) rfl rfl rfl rfl (zae 4 rfl) (by omega) rfl (zcp leC 2 (fun _ => rfl) (lesK n) le0 (show i < _ by omega) rfl)) rfl, iaQ rfl (zas rfl) rfl, iaQ rfl (zas rfl) rfl, iaQ rfl (riQ 2 rfl rfl rfl rfl (zae 4 rfl)) rfl, iaQ rfl (zbt (us := [.int .i64 (((lesK n).getD k le0).u), .int .i64 (((lesK n).getD k le0).f)]) rfl rfl rfl rfl (zae 4 rfl) (by omega) rfl (zcp leC 2 (fun _ => rfl) (lesK n) le0 (show k < _ by omega) rfl)) rfl, .inl ⟨rfl, zaq rfl rfl (fun w hm => zav (zlw n ((lesK n).getD i le0) ((lesK n).getD k le0) w (hr.below hm.bel) hok (hle _ (by omega)) (hle _ (by omega))))⟩, trivial⟩
   simp only [List.drop_succ_cons, List.drop_zero]
   refine zaz 1 rfl (zac (reQ 2 rfl ?_))
   refine zet rfl rfl rfl rfl rfl rfl (fun h41 => ?_) (fun h41 => ?_)
   ·
    refine ntQ (zak rfl (zbd 2 rfl (zay (enQ 2 rfl ?_))))
    refine incQ rfl rfl rfl rfl rfl rfl ?_
    exact zbi (k + 1) _ _ ⟨by omega, by first | exact hb | exact .inr ⟨⟨by omega, by omega⟩, by rw [Int.toNat_natCast]; assumption, by rw [Int.toNat_natCast]; omega⟩⟩ (by omega) (saQ rfl) (slQ [2, 0, 0, 0, 0] rfl)
   refine ntQ (fsQ rfl (zcv (reQ 1 rfl (hvQ rfl (vaQ rfl rfl rfl) (enQ 1 rfl ?_)))))
   exact zbi (k + 1) _ _ ⟨by omega, by first | exact hb | exact .inr ⟨⟨by omega, by omega⟩, by rw [Int.toNat_natCast]; assumption, by rw [Int.toNat_natCast]; omega⟩⟩ (by omega) (saQ rfl) (slQ [2, 0, 0, 0, 0] rfl)
  refine ntQ (zal rfl ?_)
  refine zba (zdq ?_)
  refine zag (zaw (zac (reQ 2 rfl (hvQ rfl (riQ 2 rfl rfl rfl rfl (zae 2 rfl)) ?_))))
  refine hvQ rfl (zbt (us := [.int .i64 (((lesK n).getD i le0).u), .int .i64 (((lesK n).getD i le0).f)]) rfl rfl rfl rfl (zae 2 rfl) (by omega) rfl (zcp leC 2 (fun _ => rfl) (lesK n) le0 (show i < _ by omega) rfl)) (zdk rfl (zat (z := .agg #[.int .i64 0, .int .i64 0]) (s := 2) (cs := ([((lesK n).getD i le0).u, ((lesK n).getD i le0).f].map (Value.int .i64))) rfl Try.underlying37 rfl (by decide) rfl (by kernel_rfl) rfl) ?_)
  intro g42
  refine hvQ rfl (zcw (cs := #[.int .i64 3, .int .i64 0, .slice (some ⟨g42, 0, none⟩) 1 1]) rfl rfl rfl) (zdj rfl (zbx (z := .agg #[.int .i64 0, .int .i64 0, .slice none 0 0]) rfl rfl) ?_)
  intro b43
  refine zcc (cs' := #[.int .i64 3, .int .i64 0, .slice (some ⟨g42, 0, none⟩) 1 1]) (i := 0) (off := 0) (us := [.int .i64 3, .int .i64 0, .slice (some ⟨g42, 0, none⟩) 1 1]) rfl rfl rfl rfl rfl rfl rfl (zah rfl (zah rfl (zah rfl zbr))) rfl rfl rfl (ntQ (zeh ?_))
  refine zev (l' := [boxE b43 #[.int .i64 3, .int .i64 0, .slice (some ⟨g42, 0, none⟩) 1 1] 39, rowE 70 2 (.slice (some ⟨g42, 0, none⟩) 1 1) (([(lesK n).getD i le0]).length) (([(lesK n).getD i le0]).flatMap leC), bigE ps, rowE 4 1 (.slice (some ⟨g19, 0, none⟩) ((List.replicate ((lesK n).length) bl0).length) ((List.replicate ((lesK n).length) bl0).length)) D.length (D.flatMap blC), rowE 70 2 v16 ((lesK n).length) ((lesK n).flatMap leC), rowE 39 3 U.1 U.2.length (U.2.flatMap bkC), boxE b1 #[.int .i64 n.ins, n.sv, n.lv, n.ov] 30]) rfl ?_
  refine zap 1 rfl (zdi rfl rfl rfl rfl rfl rfl (fun h44 => ?_) (fun h44 => ?_))
  ·
   refine ntQ (zak rfl (zac ?_))
   refine zdf rfl 7 [0, 1, 2, 3, 4, 5, 6] (List.take 7 _) (List.drop 7 _) [[], [0], [], [], [2, 3], [4], [5]] [132, 133, 134, 135, 136, 137, 138] (fun i_ vs_ v_ p_ => match i_ with | 0 => v_ = .pointer (some ⟨b43, 0 + 2, none⟩) ∧ p_ = [] | 1 => v_ = .slice (some ⟨g42, 0, none⟩) 1 1 ∧ p_ = [] | 2 => v_ = v16 ∧ p_ = [] | 3 => v_ = .int .i64 best ∧ p_ = [] | 4 => v_ = elP v16 ((best).toNat * 2) ∧ p_ = [] | 5 => v_ = .agg #[.int .i64 (((lesK n).getD ((best).toNat) le0).u), .int .i64 (((lesK n).getD ((best).toNat) le0).f)] ∧ p_ = [] | 6 => IsRow 70 2 1 ([((lesK n).getD ((best).toNat) le0).u, ((lesK n).getD ((best).toNat) le0).f].map (Value.int .i64)) v_ p_ | _ => True) (List.take_append_drop 7 _).symm (by kernel_rfl) (by kernel_rfl) rfl rfl ?_ ?_
   ·
    refine ⟨?_, ?_, ?_, ?_, ?_, ?_, ?_, trivial⟩
    ·
     intro vf pf hR
     exact ovQ rfl (zam [15] rfl) (zbg (fdQ 2 rfl rfl rfl))
    ·
     intro vf pf hR
     have e0 := hR 0 (by decide)
     exact olQ rfl (sk 132 (congrArg some e0.1) (zaf _)) (zbg (zad rfl rfl rfl (zaa 0 rfl rfl)))
    ·
     intro vf pf hR
     exact ovQ rfl (zam [8] rfl) (zbg (zas rfl))
    ·
     intro vf pf hR
     exact ovQ rfl (zam [11] rfl) (zbg (zas rfl))
    ·
     intro vf pf hR
     have e2 := hR 2 (by decide)
     have e3 := hR 3 (by decide)
     exact olQ rfl (sk 134 (congrArg some e2.1) (sk 135 (congrArg some e3.1) (zaf _))) (zbg (riQ 2 rfl rfl rfl rfl (zae 4 rfl)))
    ·
     intro vf pf hR
     have e4 := hR 4 (by decide)
     exact olQ rfl (sk 136 (congrArg some e4.1) (zaf _)) (zbg (zbt (us := [.int .i64 (((lesK n).getD ((best).toNat) le0).u), .int .i64 (((lesK n).getD ((best).toNat) le0).f)]) rfl rfl rfl rfl (zae 4 rfl) (by omega) rfl (zcp leC 2 (fun _ => rfl) (lesK n) le0 (show (best).toNat < _ by omega) rfl)))
    intro vf pf hR
    have e5 := hR 5 (by decide)
    exact olQ rfl (sk 137 (congrArg some e5.1) (zaf _)) (zat (z := .agg #[.int .i64 0, .int .i64 0]) (s := 2) (cs := ([((lesK n).getD ((best).toNat) le0).u, ((lesK n).getD ((best).toNat) le0).f].map (Value.int .i64))) rfl Try.underlying37 rfl (by decide) rfl (by kernel_rfl) rfl)
   intro vf pf hR
   have e1 := hR 1 (by decide)
   have e6 : IsRow 70 2 1 ([((lesK n).getD ((best).toNat) le0).u, ((lesK n).getD ((best).toNat) le0).f].map (Value.int .i64)) (vf 6) (pf 6) := hR 6 (by decide)
   obtain ⟨g45, vE6, pE6⟩ := e6
   have q0 := hR 0 (by decide)
   have q1 := hR 1 (by decide)
   have q2 := hR 2 (by decide)
   have q3 := hR 3 (by decide)
   have q4 := hR 4 (by decide)
   have q5 := hR 5 (by decide)
   refine zco (zbk [131, 87, 80, 77, 71, 48, 36, 24, 19, 15, 13, 12, 11, 10, 9, 8, 4, 3, 2, 1, 0] _ (sk 133 (congrArg some e1.1) (sk 138 (congrArg some vE6) (zaf _))) rfl) (by simp only [pE6, vE6, q0.2, q1.2, q2.2, q3.2, q4.2, q5.2, fS] <;> rfl) ?_
   simp only [List.drop_succ_cons, List.drop_zero]
   refine zcd (i := 2) (z := .agg #[.int .i64 0, .int .i64 0]) (bytes := 16) rfl rfl rfl rfl Try.underlying37 (by kernel_rfl) rfl rfl rfl rfl (zae 0 rfl) (zbm _) (by first | omega | (simp only [List.length_append, List.length_cons, List.length_nil]; omega)) (zbv ([(lesK n).getD i le0]) [(Le.mk (((lesK n).getD ((best).toNat) le0).u) (((lesK n).getD ((best).toNat) le0).f))]) (zcx leC ([(lesK n).getD i le0]) (Le.mk (((lesK n).getD ((best).toNat) le0).u) (((lesK n).getD ((best).toNat) le0).f)) _ rfl) (fun _ => rfl) ?_
   intro v46
   refine hvQ rfl (fdQ 2 rfl rfl rfl) (zdn (i := 2) rfl (fun ho47 => ?_))
   refine zez (i := 1) (cs' := #[.int .i64 3, .int .i64 0, v46]) rfl rfl rfl rfl rfl rfl ho47 rfl rfl rfl rfl (ntQ (reQ 2 rfl (hvQ rfl (riQ 1 rfl rfl rfl rfl (zae 4 rfl)) ?_)))
   refine zda (i := 4) (n' := (D.set ((best).toNat) { D.getD ((best).toNat) bl0 with b := true }).length) rfl rfl rfl rfl rfl rfl rfl rfl (by first | omega | (simp only [List.length_set]; omega)) List.length_set.symm (zdl blC (fun r => .bool r.b) (fun _ => rfl) _ ({ D.getD ((best).toNat) bl0 with b := true }) rfl) rfl (ntQ (reQ 1 rfl (hvQ rfl (zao (cs := [.int .i64 3, .int .i64 0, v46]) rfl rfl rfl rfl rfl (zaj 1 rfl 0 rfl)) ?_)))
   refine zdk rfl (zat (z := .agg #[.int .i64 0, .int .i64 0, .slice none 0 0]) (s := 3) (cs := [.int .i64 3, .int .i64 0, v46]) rfl Try.underlying31 rfl (by decide) rfl (by kernel_rfl) rfl) ?_
   intro g48
   refine zcd (i := 7) (z := .agg #[.int .i64 0, .int .i64 0, .slice none 0 0]) (bytes := 40) rfl rfl rfl rfl Try.underlying31 (by kernel_rfl) rfl rfl rfl rfl (zae 0 rfl) (zah rfl (zah rfl (zah ho47 zbr))) (by first | omega | (simp only [List.length_append, List.length_cons, List.length_nil]; omega)) (zbv U.2 [(Bk.mk 3 0 v46 (([(lesK n).getD i le0]) ++ [(Le.mk (((lesK n).getD ((best).toNat) le0).u) (((lesK n).getD ((best).toNat) le0).f))]))]) (zcx bkC U.2 (Bk.mk 3 0 v46 (([(lesK n).getD i le0]) ++ [(Le.mk (((lesK n).getD ((best).toNat) le0).u) (((lesK n).getD ((best).toNat) le0).f))])) _ rfl) (fun _ => rfl) ?_
   intro v49
   refine enQ 1 rfl (zcv (reQ 1 rfl (hvQ rfl (vaQ rfl rfl rfl) (enQ 1 rfl ?_))))
   refine zbw 9 [8, 7, 6, 5, 3, 4] rfl rfl (by decide) ?_
   refine zcz 2 rfl ?_
   exact zct (i + 1) (v49, U.2 ++ [(Bk.mk 3 0 v46 (([(lesK n).getD i le0]) ++ [(Le.mk (((lesK n).getD ((best).toNat) le0).u) (((lesK n).getD ((best).toNat) le0).f))]))]) (D.set ((best).toNat) { D.getD ((best).toNat) bl0 with b := true }) [bigE ps, rowE 70 2 v46 ((([(lesK n).getD i le0]) ++ [(Le.mk (((lesK n).getD ((best).toNat) le0).u) (((lesK n).getD ((best).toNat) le0).f))]).length) ((([(lesK n).getD i le0]) ++ [(Le.mk (((lesK n).getD ((best).toNat) le0).u) (((lesK n).getD ((best).toNat) le0).f))]).flatMap leC)] ⟨by omega, by show List.length (_ ++ [_]) ≤ 64; rw [List.length_append, List.length_singleton]; omega, hbo.app ⟨by dsimp only; decide, by simp⟩, by first | assumption | (rw [List.length_set]; assumption), fun w hw => (hps w (zbh hw List.mem_cons_self)).app (zcf (zbh hw (List.mem_cons_of_mem _ List.mem_cons_self))), by have hb9 := hb.resolve_left (by omega); exact hLB.two (fun e he => zor hok he) (by omega) (by assumption) (k := best.toNat) ⟨by omega, by omega⟩ hb9.2.1 (by omega) hb9.2.2 _⟩ (by omega) (saQ rfl) (pfQ rfl)
  refine ntQ (zal rfl (zcq (reQ 1 rfl (hvQ rfl (zao (cs := [.int .i64 3, .int .i64 0, .slice (some ⟨g42, 0, none⟩) 1 1]) rfl rfl rfl rfl rfl (zaj 0 rfl 0 rfl)) ?_))))
  refine zdk rfl (zat (z := .agg #[.int .i64 0, .int .i64 0, .slice none 0 0]) (s := 3) (cs := [.int .i64 3, .int .i64 0, .slice (some ⟨g42, 0, none⟩) 1 1]) rfl Try.underlying31 rfl (by decide) rfl (by kernel_rfl) rfl) ?_
  intro g50
  refine zcd (i := 6) (z := .agg #[.int .i64 0, .int .i64 0, .slice none 0 0]) (bytes := 40) rfl rfl rfl rfl Try.underlying31 (by kernel_rfl) rfl rfl rfl rfl (zae 0 rfl) (by simp [Value.oneCell']) (by first | omega | (simp only [List.length_append, List.length_cons, List.length_nil]; omega)) (zbv U.2 [(Bk.mk 3 0 (.slice (some ⟨g42, 0, none⟩) 1 1) ([(lesK n).getD i le0]))]) (zcx bkC U.2 (Bk.mk 3 0 (.slice (some ⟨g42, 0, none⟩) 1 1) ([(lesK n).getD i le0])) _ rfl) (fun _ => rfl) ?_
  intro v51
  refine enQ 1 rfl (zcv (reQ 1 rfl (hvQ rfl (vaQ rfl rfl rfl) (enQ 1 rfl ?_))))
  refine zbw 8 [7, 6, 5, 4, 2, 3] rfl rfl (by decide) ?_
  refine zcz 2 rfl ?_
  exact zct (i + 1) (v51, U.2 ++ [(Bk.mk 3 0 (.slice (some ⟨g42, 0, none⟩) 1 1) ([(lesK n).getD i le0]))]) D [bigE ps, rowE 70 2 (.slice (some ⟨g42, 0, none⟩) 1 1) (([(lesK n).getD i le0]).length) (([(lesK n).getD i le0]).flatMap leC)] ⟨by omega, by show List.length (_ ++ [_]) ≤ 64; rw [List.length_append, List.length_singleton]; omega, hbo.app ⟨by dsimp only; decide, by simp⟩, by first | assumption | (rw [List.length_set]; assumption), fun w hw => (hps w (zbh hw List.mem_cons_self)).app (zcf (zbh hw (List.mem_cons_of_mem _ List.mem_cons_self))), hLB.one hok (fun e he => zor hok he) (by omega) (by assumption) _⟩ (by omega) (saQ rfl) (pfQ rfl)
 refine ntQ (zal rfl ?_)
 refine zba (zdq ?_)
 refine zag (zaw (zac (reQ 2 rfl (hvQ rfl (lnQ rfl rfl rfl (zae 3 rfl)) ?_))))
 refine zhn rfl rfl rfl rfl rfl rfl (fun h52 => ?_) (fun h52 => absurd h52 (by omega))
 refine zaz 2 rfl ?_
 refine zau (zed (fun w hm => (zae 3 rfl w hm).one) (fun ho => ?_))
 refine zbw 5 [4, 2, 1, 0, 3] rfl rfl (by decide) ?_
 refine zcz 2 rfl ?_
 exact zdm (rs := [.tmp 2, .tmp 3]) (vs := [U.1, .bool true]) (post := [bigE [rowE 39 3 U.1 U.2.length (U.2.flatMap bkC), bigE ps]]) rfl ⟨rfl, rfl, trivial⟩ rfl (slQ [0] rfl) ⟨_, U.2, _, _, rfl, rfl, fun w hw => ⟨zcf (zbh hw List.mem_cons_self), hps w (zbh hw (List.mem_cons_of_mem _ List.mem_cons_self))⟩, ho, hbo, hul, fun _ => LbP.fin hok (by rw [show i = (lesK n).length by omega] at hLB; exact hLB) hul⟩
def sinkB (ps : List Int) (x i : Int) : Nat → List Pn
  | 0 => []
  | k + 1 => sinkB ps x i k ++ if ps.getD k 0 = x then [Pn.mk i (k : Int)] else []
open Classical in
noncomputable def sinkA (n : Ln) (bs : List Bk) (x : Int) : Nat → List Pn
  | 0 => []
  | i + 1 => sinkA n bs x i ++ sinkB (pinN n (bs.getD i bk0)) x (i : Int) (pinN n (bs.getD i bk0)).length
abbrev Cx := Int × Int × Int × List Pn
def cx (c : Cn) : Cx := (c.nd, c.sb, c.sp, c.ks)
noncomputable def conB (n : Ln) (bs : List Bk) (c : Nat) : Nat → List Cx
  | 0 => []
  | p + 1 => conB n bs c p ++ if (sinkA n bs ((outNd n (bs.getD c bk0)).getD p 0) bs.length).length = 0 then [] else [((outNd n (bs.getD c bk0)).getD p 0, (c : Int), (p : Int), sinkA n bs ((outNd n (bs.getD c bk0)).getD p 0) bs.length)]
noncomputable def conA (n : Ln) (bs : List Bk) : Nat → List Cx
  | 0 => []
  | c + 1 => conA n bs c ++ conB n bs c (outNd n (bs.getD c bk0)).length
noncomputable def connsK (n : Ln) (bs : List Bk) : List Cx := conA n bs bs.length
theorem zmt {ps : List Int} {x i : Int} {q : Pn} : ∀ {m : Nat}, q ∈ sinkB ps x i m → ∃ k, k < m ∧ q = Pn.mk i (k : Int) ∧ ps.getD k 0 = x
  | m + 1, h => by
    rcases List.mem_append.1 h with h | h
    · obtain ⟨k, h1, h2⟩ := zmt h; exact ⟨k, by omega, h2⟩
    · split at h
      · rw [List.mem_singleton] at h; exact ⟨m, by omega, h, by assumption⟩
      · cases h
theorem zmw {n : Ln} {bs : List Bk} {x : Int} {q : Pn} : ∀ {m : Nat}, q ∈ sinkA n bs x m → ∃ i k, i < m ∧ k < (pinN n (bs.getD i bk0)).length ∧ q = Pn.mk (i : Int) (k : Int) ∧ (pinN n (bs.getD i bk0)).getD k 0 = x
  | m + 1, h => by
    rcases List.mem_append.1 h with h | h
    · obtain ⟨i, k, h1, h2⟩ := zmw h; exact ⟨i, k, by omega, h2⟩
    · obtain ⟨k, h1, h2⟩ := zmt h; exact ⟨m, k, by omega, h1, h2⟩
theorem zqy {n : Ln} {bs : List Bk} {c : Nat} {y : Cx} : ∀ {m : Nat}, y ∈ conB n bs c m → ∃ p, p < m ∧ y = ((outNd n (bs.getD c bk0)).getD p 0, (c : Int), (p : Int), sinkA n bs ((outNd n (bs.getD c bk0)).getD p 0) bs.length)
  | m + 1, h => by
    rcases List.mem_append.1 h with h | h
    · obtain ⟨k, h1, h2⟩ := zqy h; exact ⟨k, by omega, h2⟩
    · split at h
      · cases h
      · rw [List.mem_singleton] at h; exact ⟨m, by omega, h⟩
theorem zml {n : Ln} {bs : List Bk} {y : Cx} : ∀ {m : Nat}, y ∈ conA n bs m → ∃ c p, c < m ∧ p < (outNd n (bs.getD c bk0)).length ∧ y = ((outNd n (bs.getD c bk0)).getD p 0, (c : Int), (p : Int), sinkA n bs ((outNd n (bs.getD c bk0)).getD p 0) bs.length)
  | m + 1, h => by
    rcases List.mem_append.1 h with h | h
    · obtain ⟨c, p, h1, h2⟩ := zml h; exact ⟨c, p, by omega, h2⟩
    · obtain ⟨p, h1, h2⟩ := zqy h; exact ⟨m, p, by omega, h1, h2⟩
def atP (b p : Nat) (q : Pn) : Bool := decide (q.b = (b : Int) ∧ q.p = (p : Int))
theorem zmm {b p : Nat} {q : Pn} : atP b p q = true ↔ q.b = (b : Int) ∧ q.p = (p : Int) := by unfold atP; exact decide_eq_true_iff
theorem atP_one (b p i k : Nat) : [Pn.mk (i : Int) (k : Int)].countP (atP b p) = if i = b ∧ k = p then 1 else 0 := by
  rw [List.countP_cons, List.countP_nil]
  by_cases h : i = b ∧ k = p
  · rw [if_pos (zmm.2 ⟨by show (i : Int) = b; omega, by show (k : Int) = p; omega⟩), if_pos h]
  · rw [if_neg (fun h9 => h (by obtain ⟨e1, e2⟩ := zmm.1 h9; exact ⟨by have : (i : Int) = b := e1; omega, by have : (k : Int) = p := e2; omega⟩)), if_neg h]
theorem zmv (ps : List Int) (x : Int) (b p i : Nat) : ∀ m, (sinkB ps x (i : Int) m).countP (atP b p) = if i = b ∧ p < m ∧ ps.getD p 0 = x then 1 else 0
  | 0 => by rw [if_neg (by omega)]; rfl
  | m + 1 => by
    show (sinkB ps x (i : Int) m ++ _).countP _ = _
    rw [List.countP_append, zmv ps x b p i m]
    by_cases e : ps.getD m 0 = x
    · rw [if_pos e, atP_one]
      by_cases hm : m = p
      · subst hm
        by_cases hi : i = b
        · rw [if_neg (by omega), if_pos ⟨hi, rfl⟩, if_pos ⟨hi, by omega, e⟩]
        · rw [if_neg (by omega), if_neg (by omega), if_neg (by omega)]
      · rw [if_neg (show ¬ (i = b ∧ m = p) by omega)]
        by_cases h : i = b ∧ p < m ∧ ps.getD p 0 = x
        · rw [if_pos h, if_pos ⟨h.1, by omega, h.2.2⟩]
        · rw [if_neg h, if_neg (fun h9 => h ⟨h9.1, by omega, h9.2.2⟩)]
    · rw [if_neg e, List.countP_nil]
      by_cases h : i = b ∧ p < m ∧ ps.getD p 0 = x
      · rw [if_pos h, if_pos ⟨h.1, by omega, h.2.2⟩]
      · rw [if_neg h, if_neg (fun h9 => h ⟨h9.1, by
          by_cases hm : p = m
          · subst hm; exact absurd h9.2.2 e
          · omega, h9.2.2⟩)]
theorem zmx (n : Ln) (bs : List Bk) (x : Int) (b p : Nat) : ∀ m, (sinkA n bs x m).countP (atP b p) = if b < m ∧ p < (pinN n (bs.getD b bk0)).length ∧ (pinN n (bs.getD b bk0)).getD p 0 = x then 1 else 0
  | 0 => by rw [if_neg (by omega)]; rfl
  | m + 1 => by
    show (sinkA n bs x m ++ _).countP _ = _
    rw [List.countP_append, zmx n bs x b p m, zmv]
    by_cases hm : m = b
    · subst hm
      rw [if_neg (by omega)]
      by_cases h : p < (pinN n (bs.getD m bk0)).length ∧ (pinN n (bs.getD m bk0)).getD p 0 = x
      · rw [if_pos ⟨rfl, h⟩, if_pos ⟨by omega, h⟩]
      · rw [if_neg (fun h9 => h h9.2), if_neg (fun h9 => h h9.2)]
    · rw [if_neg (show ¬ (m = b ∧ _) from fun h9 => hm h9.1)]
      by_cases h : b < m ∧ p < (pinN n (bs.getD b bk0)).length ∧ (pinN n (bs.getD b bk0)).getD p 0 = x
      · rw [if_pos h, if_pos ⟨by omega, h.2⟩]
      · rw [if_neg h, if_neg (fun h9 => h ⟨by omega, h9.2⟩)]
theorem zra {n : Ln} {bs : List Bk} {b p : Nat} (hb : b < bs.length) (hp : p < (pinN n (bs.getD b bk0)).length) (c : Nat) : ∀ m, m ≤ (outNd n (bs.getD c bk0)).length → ((conB n bs c m).flatMap (fun y => y.2.2.2)).countP (atP b p) = ((outNd n (bs.getD c bk0)).take m).count ((pinN n (bs.getD b bk0)).getD p 0)
  | 0, _ => by simp [conB]
  | m + 1, hm => by
    show ((conB n bs c m ++ _).flatMap _).countP _ = _
    rw [List.flatMap_append, List.countP_append, zra hb hp c m (by omega), zdb 0 (show m < (outNd n (bs.getD c bk0)).length by omega), List.count_append]
    congr 1
    have hs := zmx n bs ((outNd n (bs.getD c bk0)).getD m 0) b p bs.length
    generalize (outNd n (bs.getD c bk0)).getD m 0 = x at hs ⊢
    have hr : ((if (sinkA n bs x bs.length).length = 0 then [] else [(x, (c : Int), (m : Int), sinkA n bs x bs.length)] : List Cx).flatMap (fun y => y.2.2.2)).countP (atP b p) = (sinkA n bs x bs.length).countP (atP b p) := by
      split
      · rename_i h0; rw [List.length_eq_zero_iff.1 h0]; rfl
      · rw [List.flatMap_cons, List.flatMap_nil, List.append_nil]
    rw [hr, hs, List.count_singleton]
    by_cases e : (pinN n (bs.getD b bk0)).getD p 0 = x
    · rw [if_pos ⟨hb, hp, e⟩, if_pos (by rw [beq_iff_eq]; exact e.symm)]
    · rw [if_neg (fun h9 => e h9.2.2), if_neg (by rw [beq_iff_eq]; exact fun h9 => e h9.symm)]
theorem zrb {n : Ln} {bs : List Bk} {b p : Nat} (hb : b < bs.length) (hp : p < (pinN n (bs.getD b bk0)).length) : ∀ m, m ≤ bs.length → ((conA n bs m).flatMap (fun y => y.2.2.2)).countP (atP b p) = ((bs.take m).flatMap (outNd n)).count ((pinN n (bs.getD b bk0)).getD p 0)
  | 0, _ => by simp [conA]
  | m + 1, hm => by
    show ((conA n bs m ++ _).flatMap _).countP _ = _
    rw [List.flatMap_append, List.countP_append, zrb hb hp m (by omega), zra hb hp m _ (Nat.le_refl _), List.take_of_length_le (Nat.le_refl _), zdb bk0 (show m < bs.length by omega), List.flatMap_append, List.count_append]
    simp
theorem cx_ks {cs : List Cn} {ys : List Cx} (h : cs.map cx = ys) : cs.flatMap Cn.ks = ys.flatMap (fun y => y.2.2.2) := by
  rw [← h, List.flatMap_map]; rfl
def snkN (cs : List Cn) (b p i : Nat) : Nat := ((cs.take i).flatMap Cn.ks).countP (atP b p)
theorem zmr {cs : List Cn} {b p i : Nat} (hi : i < cs.length) : snkN cs b p (i + 1) = snkN cs b p i + (cs.getD i cn0).ks.countP (atP b p) := by
  unfold snkN; rw [zdb cn0 hi, List.flatMap_append, List.countP_append]; simp
theorem zvl {xs : List Pn} {b p k : Nat} (hk : k < xs.length) (h : (xs.getD k pn0).b = (b : Int) ∧ (xs.getD k pn0).p = (p : Int)) : (xs.take (k + 1)).countP (atP b p) = (xs.take k).countP (atP b p) + 1 := by
  rw [zdb pn0 hk, List.countP_append, List.countP_cons, if_pos (zmm.2 h)]; rfl
theorem cntP_no {xs : List Pn} {b p k : Nat} (hk : k < xs.length) (h : ¬ ((xs.getD k pn0).b = (b : Int) ∧ (xs.getD k pn0).p = (p : Int))) : (xs.take (k + 1)).countP (atP b p) = (xs.take k).countP (atP b p) := by
  rw [zdb pn0 hk, List.countP_append, List.countP_cons, if_neg (fun h9 => h (zmm.1 h9))]; rfl
theorem out_pos {n : Ln} (hok : LnOk n) {b : Bk} (h : BlP n b) {v : Int} (hv : v ∈ outNd n b) : 0 < v := by
  have hr := h.rng
  have hi := hok.sz.i.1
  have hf : n.fst = 1 + n.ins + (n.ss.length : Int) := rfl
  rw [zje h] at hv
  split at hv
  · rw [List.mem_singleton] at hv; have := hr.1 (by assumption); omega
  · split at hv
    · cases hv
    · split at hv
      · rw [List.mem_singleton] at hv; have := hr.2.2.1 (by assumption); omega
      · obtain ⟨e, he, rfl⟩ := List.mem_map.1 hv
        obtain ⟨⟨a, b⟩, ⟨c, d⟩, g⟩ := (h.le (by have := h.kind; omega) he).1
        unfold outK; split <;> omega
theorem zsk {n : Ln} (hok : LnOk n) {bs : List Bk} (h : PkOk n bs) {cs : List Cn} (hc : cs.map cx = connsK n bs) {b p : Nat} (hb : b < bs.length) (hp : p < (pinN n (bs.getD b bk0)).length) : (snkN cs b p cs.length : Int) = if 0 < (pinN n (bs.getD b bk0)).getD p 0 then 1 else 0 := by
  unfold snkN
  rw [List.take_of_length_le (Nat.le_refl _), cx_ks hc]
  unfold connsK
  rw [zrb hb hp _ (Nat.le_refl _), List.take_of_length_le (Nat.le_refl _)]
  split
  · rename_i h0
    rw [zsx hok h h0 (zbl hb) (zbl hp)]; rfl
  · rename_i h0
    rw [List.count_eq_zero.2 fun hm => ?_]; rfl
    obtain ⟨c, hc', hv⟩ := List.mem_flatMap.1 hm
    exact h0 (out_pos hok (h.bl c hc') hv)
theorem snk_nd {n : Ln} {bs : List Bk} {cs : List Cn} (hc : cs.map cx = connsK n bs) {i k b p : Nat} (hi : i < cs.length) (hk : k < (cs.getD i cn0).ks.length) (h1 : ((cs.getD i cn0).ks.getD k pn0).b = (b : Int)) (h2 : ((cs.getD i cn0).ks.getD k pn0).p = (p : Int)) : (cs.getD i cn0).nd = (pinN n (bs.getD b bk0)).getD p 0 := by
  have hm : cx (cs.getD i cn0) ∈ connsK n bs := by rw [← hc]; exact List.mem_map_of_mem (zbl hi)
  obtain ⟨c, p', hc1, hp1, e⟩ := zml hm
  have e1 : (cs.getD i cn0).nd = _ := congrArg (fun y : Cx => y.1) e
  have e4 : (cs.getD i cn0).ks = _ := congrArg (fun y : Cx => y.2.2.2) e
  have hq := zbl (d := pn0) hk
  rw [e4] at hq
  obtain ⟨i', k', a1, a2, a3, a4⟩ := zmw hq
  rw [← e4] at a3
  rw [a3] at h1 h2
  have b1 : (i' : Int) = b := h1
  have b2 : (k' : Int) = p := h2
  obtain rfl : i' = b := by omega
  obtain rfl : k' = p := by omega
  rw [e1]; exact a4.symm
theorem src_at {n : Ln} {bs : List Bk} {cs : List Cn} (hc : cs.map cx = connsK n bs) {i : Nat} (hi : i < cs.length) : ∃ c p : Nat, c < bs.length ∧ p < (outNd n (bs.getD c bk0)).length ∧ (cs.getD i cn0).sb = (c : Int) ∧ (cs.getD i cn0).sp = (p : Int) ∧ (cs.getD i cn0).nd = (outNd n (bs.getD c bk0)).getD p 0 := by
  have hm : cx (cs.getD i cn0) ∈ connsK n bs := by rw [← hc]; exact List.mem_map_of_mem (zbl hi)
  obtain ⟨c, p', hc1, hp1, e⟩ := zml hm
  exact ⟨c, p', hc1, hp1, congrArg (fun y : Cx => y.2.1) e, congrArg (fun y : Cx => y.2.2.1) e, congrArg (fun y : Cx => y.1) e⟩
theorem cx_len {cs ds : List Cn} {ys : List Cx} (h : cs.map cx = ys) (h2 : ds.map cx = ys) : cs.length = ds.length := by
  have := congrArg List.length (h.trans h2.symm); rwa [List.length_map, List.length_map] at this
open Go.RowKit
theorem zne (g : Nat) (a : Option Addr) (len cap : Nat) (z : List Int) (w0 : World) (l : List HP) (w : World) (hm0 : Mem w0 (curE g a len cap :: l) w) (hb : BRow .u8 w0 a len cap z) :
   Calls Try.prog 27 #[.pointer (some ⟨g, 0, none⟩)] w (fun e_ w_ => ∃ v_ p_, e_ = .returned v_ ∧ (fun u_ p_ => ∃ (d : Dev) (n : Ln) (ps : List HP) (bs : List Bk) (bv : Value), u_ = .tuple #[.agg #[.int .i64 d.W, .int .i64 d.H, .int .i64 d.T, .int .i64 d.R], n.agg, bv] ∧ p_ = bigE [curE g a len cap, bigE ps] ∧ (∀ w, (bigE ps).holds w → RdsLn w n ∧ RdsBk w bv bs) ∧ (n.sv.oneCell' = true ∧ n.lv.oneCell' = true ∧ n.ov.oneCell' = true) ∧ bv.oneCell' = true ∧ LnOk n ∧ BsOk bs ∧ bs.length ≤ 64 ∧ devB d = true ∧ Fits d (bs.map Bk.kd) ∧ PkOk n bs) v_ p_ ∧ Mem w0 (p_ :: l) w_) := by
 refine zgj (N := 62) (args := [.pointer (some ⟨g, 0, none⟩)]) Try.func27 rfl rfl hm0 (srQ ?_)
 refine zdj rfl (zbx (z := .agg #[.int .i64 0, .int .i64 0, .int .i64 0, .int .i64 0]) rfl rfl) ?_
 intro b1
 refine zdj rfl (zbx (z := .agg #[.int .i64 0, .slice none 0 0, .slice none 0 0, .slice none 0 0]) rfl rfl) ?_
 intro b2
 refine zaz 1 rfl (zac (reQ 1 rfl ?_))
 refine zdt (R := (fun u_ p_ => (∃ x_ : Int, u_ = .int .i64 x_ ∧ 0 ≤ x_ ∧ x_ < 2) ∧ p_ = curE g a len cap)) 2 rfl rfl rfl rfl rfl (fun l' w hm => zdh g a len cap z 2 _ _ _ hm hb (by constructor <;> omega)) ?_
 intro v3 p4 hR5
 obtain ⟨⟨xhR5, rfl, xhR50, xhR51⟩, rfl⟩ := hR5
 refine zev (l' := (boxE b2 #[.int .i64 0, .slice none 0 0, .slice none 0 0, .slice none 0 0] 30 :: boxE b1 #[.int .i64 0, .int .i64 0, .int .i64 0, .int .i64 0] 25 :: curE g a len cap :: l)) rfl ?_
 refine hvQ rfl (vaQ rfl rfl rfl) (zap 1 rfl ?_)
 refine zdt (R := (fun u_ p_ => (∃ x_ : Int, u_ = .int .i64 x_ ∧ 0 ≤ x_ ∧ x_ < 2) ∧ p_ = curE g a len cap)) 2 rfl rfl rfl rfl rfl (fun l' w hm => zdh g a len cap z 2 _ _ _ hm hb (by constructor <;> omega)) ?_
 intro v6 p7 hR8
 obtain ⟨⟨xhR8, rfl, xhR80, xhR81⟩, rfl⟩ := hR8
 refine zev (l' := (boxE b2 #[.int .i64 0, .slice none 0 0, .slice none 0 0, .slice none 0 0] 30 :: boxE b1 #[.int .i64 0, .int .i64 0, .int .i64 0, .int .i64 0] 25 :: curE g a len cap :: l)) rfl ?_
 refine hvQ rfl (vaQ rfl rfl rfl) (zap 1 rfl ?_)
 refine zdt (R := (fun u_ p_ => (∃ x_ : Int, u_ = .int .i64 x_ ∧ 0 ≤ x_ ∧ x_ < 3) ∧ p_ = curE g a len cap)) 2 rfl rfl rfl rfl rfl (fun l' w hm => zdh g a len cap z 3 _ _ _ hm hb (by constructor <;> omega)) ?_
 intro v9 p10 hR11
 obtain ⟨⟨xhR11, rfl, xhR110, xhR111⟩, rfl⟩ := hR11
 refine zev (l' := (boxE b2 #[.int .i64 0, .slice none 0 0, .slice none 0 0, .slice none 0 0] 30 :: boxE b1 #[.int .i64 0, .int .i64 0, .int .i64 0, .int .i64 0] 25 :: curE g a len cap :: l)) rfl ?_
 refine hvQ rfl (vaQ rfl rfl rfl) (hvQ rfl (zcw (cs := #[.int .i64 (4 + xhR5), .int .i64 (4 + xhR8), .int .i64 (2 + xhR11), .int .i64 1]) rfl rfl rfl) ?_)
 refine zdj rfl (zbx (z := .agg #[.int .i64 0, .int .i64 0, .int .i64 0, .int .i64 0]) rfl rfl) ?_
 intro b12
 refine zcc (cs' := #[.int .i64 (4 + xhR5), .int .i64 (4 + xhR8), .int .i64 (2 + xhR11), .int .i64 1]) (i := 0) (off := 0) (us := [.int .i64 (4 + xhR5), .int .i64 (4 + xhR8), .int .i64 (2 + xhR11), .int .i64 1]) rfl rfl rfl rfl rfl rfl rfl (zah rfl (zah rfl (zah rfl (zah rfl zbr)))) rfl rfl rfl (ntQ (zeh ?_))
 have hdv9 : devB (Dev.mk (4 + xhR5) (4 + xhR8) (2 + xhR11) 1) = true := zkm ⟨by omega, by omega⟩ ⟨by omega, by omega⟩ ⟨by omega, by omega⟩
 refine zaz 1 rfl (zax ?_)
 refine zka (α := Nat) [0, 2, 3, 4, 5] rfl (fun t => (boxE b12 #[.int .i64 (4 + xhR5), .int .i64 (4 + xhR8), .int .i64 (2 + xhR11), .int .i64 1] 25 :: boxE b2 #[.int .i64 0, .slice none 0 0, .slice none 0 0, .slice none 0 0] 30 :: boxE b1 #[.int .i64 0, .int .i64 0, .int .i64 0, .int .i64 0] 25 :: curE g a len cap :: l)) (fun t => [(6, .int .i64 (t : Int))]) (fun t => t ≤ 4) (fun t => 4 - t) 0 (Nat.zero_le _) (saQ rfl) (.refl _) ?_
 intro t hi13
 have ht := hi13
 refine zac (zac (reQ 1 rfl ?_))
 refine zbj rfl rfl rfl rfl rfl rfl (fun h14 => ?_) (fun h14 => ?_)
 ·
  refine ntQ (zak rfl (zcq (sbQ (zac (reQ 1 rfl ?_)))))
  refine zdt (R := (fun u_ p_ => ∃ n : Nt, u_ = n.agg ∧ p_ = bigE [curE g a len cap, ntE n] ∧ (n.sv.oneCell' = true ∧ n.av.oneCell' = true ∧ n.ov.oneCell' = true) ∧ NtOk n ∧ n.ins ≤ 3 ∧ (n.ss.length : Int) ≤ 2 ∧ (n.gs.length : Int) ≤ 8)) 3 rfl rfl rfl rfl rfl (fun l' w hm => znh g a len cap z 3 2 8 _ _ _ hm hb (by decide) (by decide) (by decide)) ?_
  intro v15 p16 hR17
  obtain ⟨n, rfl, rfl, ⟨o1n, o2n, o3n⟩, hn, hnq1, hnq2, hnq3⟩ := hR17
  refine zev (l' := (boxE b12 #[.int .i64 (4 + xhR5), .int .i64 (4 + xhR8), .int .i64 (2 + xhR11), .int .i64 1] 25 :: boxE b2 #[.int .i64 0, .slice none 0 0, .slice none 0 0, .slice none 0 0] 30 :: boxE b1 #[.int .i64 0, .int .i64 0, .int .i64 0, .int .i64 0] 25 :: bigE [curE g a len cap, ntE n] :: l)) rfl ?_
  refine ztm 4 [2, 1, 0, 3] rfl rfl (by decide) ?_
  refine zpc (curE g a len cap :: ntE n :: boxE b12 #[.int .i64 (4 + xhR5), .int .i64 (4 + xhR8), .int .i64 (2 + xhR11), .int .i64 1] 25 :: boxE b2 #[.int .i64 0, .slice none 0 0, .slice none 0 0, .slice none 0 0] 30 :: boxE b1 #[.int .i64 0, .int .i64 0, .int .i64 0, .int .i64 0] 25 :: l) zhj ?_
  refine zfg rfl rfl rfl (zaq rfl rfl (fun w hm => zvw n w (nt_rds 1 rfl w hm) hn)) ?_
  intro v18 p19 hR20
  obtain ⟨qs, m, rfl, rfl, hqs, ⟨o1m, o2m, o3m⟩, hmok, hsk, hml⟩ := hR20
  refine zdj rfl (zbx (z := .agg #[.int .i64 0, .slice none 0 0, .slice none 0 0, .slice none 0 0]) rfl rfl) ?_
  intro b21
  refine zcc (cs' := #[.int .i64 m.ins, m.sv, m.av, m.ov]) (i := 0) (off := 0) (us := [.int .i64 m.ins, m.sv, m.av, m.ov]) rfl rfl rfl rfl rfl rfl rfl (zah rfl (zah o1m (zah o2m (zah o3m zbr)))) rfl rfl rfl (ntQ ?_)
  refine zhh (α := Nt) (β := List HP) (fun m qs => (boxE b21 #[.int .i64 m.ins, m.sv, m.av, m.ov] 86 :: bigE qs :: curE g a len cap :: boxE b12 #[.int .i64 (4 + xhR5), .int .i64 (4 + xhR8), .int .i64 (2 + xhR11), .int .i64 1] 25 :: boxE b2 #[.int .i64 0, .slice none 0 0, .slice none 0 0, .slice none 0 0] 30 :: boxE b1 #[.int .i64 0, .int .i64 0, .int .i64 0, .int .i64 0] 25 :: l)) (fun m qs => [(0, .pointer (some ⟨g, 0, none⟩)), (2, .pointer (some ⟨b1, 0, none⟩)), (3, .pointer (some ⟨b2, 0, none⟩)), (4, .slice none 0 0), (5, .pointer (some ⟨b12, 0, none⟩)), (6, .int .i64 (t : Int)), (7, .pointer (some ⟨b21, 0, none⟩)), (23, .bool true)]) (fun m qs => (∀ w, (bigE qs).holds w → RdsNt w m) ∧ (m.sv.oneCell' = true ∧ m.av.oneCell' = true ∧ m.ov.oneCell' = true) ∧ NtOk m ∧ m.gs.length ≤ 30) ?_ ?_
  ·
   refine zac (reQ 1 rfl ?_)
   refine zbp rfl rfl rfl rfl rfl rfl (fun h22 => ?_) (fun h22 => ?_)
   ·
    refine ntQ (zak rfl (zay ?_))
    refine zfg rfl rfl rfl (zaq rfl rfl (fun w hm => zmn w)) ?_
    intro v23 p24 hR25
    obtain ⟨qs2, m2, rfl, rfl, hqs2, ⟨o1m2, o2m2, o3m2⟩, hmok2, hml2⟩ := hR25
    refine zcc (cs' := #[.int .i64 m2.ins, m2.sv, m2.av, m2.ov]) (i := 1) (off := 0) (us := [.int .i64 m2.ins, m2.sv, m2.av, m2.ov]) rfl rfl rfl rfl rfl rfl rfl (zah rfl (zah o1m2 (zah o2m2 (zah o3m2 zbr)))) rfl rfl rfl (zbu ?_)
    refine zbw 8 [7, 6, 5, 3, 0, 1] rfl rfl (by decide) ?_
    exact zdv m2 qs2 ⟨hqs2, ⟨o1m2, o2m2, o3m2⟩, hmok2, hml2⟩ (saQ rfl) (.refl _)
   refine ntQ (fsQ rfl ?_)
   exact zdv m qs ⟨hqs, ⟨o1m, o2m, o3m⟩, hmok, by omega⟩ (saQ rfl) (.cons_cons _ (.cons_cons _ (.cons_cons _ (.cons _ (.refl _)))))
  intro m qs hm26
  obtain ⟨hqs, ⟨o1m, o2m, o3m⟩, hmok, hml9⟩ := hm26
  refine zac ?_
  refine zie (l := (boxE b21 #[.int .i64 m.ins, m.sv, m.av, m.ov] 86 :: bigE qs :: curE g a len cap :: boxE b12 #[.int .i64 (4 + xhR5), .int .i64 (4 + xhR8), .int .i64 (2 + xhR11), .int .i64 1] 25 :: boxE b2 #[.int .i64 0, .slice none 0 0, .slice none 0 0, .slice none 0 0] 30 :: boxE b1 #[.int .i64 0, .int .i64 0, .int .i64 0, .int .i64 0] 25 :: l)) rfl 9 [0, 1, 2, 3, 4, 5, 6, 7, 8] (List.take 9 _) (List.drop 9 _) [[], [], [1], [0, 2], [3], [3, 4], [3, 4], [], [3, 5, 7]] [some 33, some 34, some 35, some 36, some 32, some 37, some 38, some 8, none] (fun i_ vs_ v_ p_ => match i_ with | 0 => v_ = .agg #[.int .i64 m.ins, m.sv, m.av, m.ov] ∧ p_ = [] | 1 => v_ = .agg #[.int .i64 m.ins, m.sv, m.av, m.ov] ∧ p_ = [] | 2 => (fun u_ p_ => ∃ (ps : List HP) (rs : List CRow), p_ = [rowE 28 1 u_ rs.length (rs.flatMap crowC), bigE ps] ∧ (∀ w, (bigE ps).holds w → RdsAll w rs) ∧ rs.length = m.gs.length ∧ ∀ r ∈ rs, r.xs.length ≤ 400) v_ p_ | 3 => (fun u_ p_ => ∃ (ps : List HP) (m : Ln) (b : Bool), u_ = .tuple #[m.agg, .bool b] ∧ p_ = [bigE ps] ∧ (∀ w, (bigE ps).holds w → RdsLn w m) ∧ (m.sv.oneCell' = true ∧ m.lv.oneCell' = true ∧ m.ov.oneCell' = true) ∧ LnOk m) v_ p_ | 4 => v_ = .tuple #[.agg #[.int .i64 (tL0 (List.getD vs_ 0 undef)), (tLk 1 (List.getD vs_ 0 undef)), (tLk 2 (List.getD vs_ 0 undef)), (tLk 3 (List.getD vs_ 0 undef))], .bool (tLb (List.getD vs_ 0 undef))] ∧ p_ = [] | 5 => v_ = .agg #[.int .i64 (tL0 (List.getD vs_ 0 undef)), (tLk 1 (List.getD vs_ 0 undef)), (tLk 2 (List.getD vs_ 0 undef)), (tLk 3 (List.getD vs_ 0 undef))] ∧ p_ = [] | 6 => v_ = .bool (tLb (List.getD vs_ 0 undef)) ∧ p_ = [] | 7 => IsBox #[.int .i64 0, .slice none 0 0, .slice none 0 0, .slice none 0 0] 30 v_ p_ | 8 => p_ = [boxE (blkOf (List.getD vs_ 2 undef)) #[.int .i64 (tL0 (List.getD vs_ 0 undef)), (tLk 1 (List.getD vs_ 0 undef)), (tLk 2 (List.getD vs_ 0 undef)), (tLk 3 (List.getD vs_ 0 undef))] 30] | _ => True) [[], [], [1], [0, 2], [3], [3, 4], [3, 4], [], [3, 5]] [none, none, none, none, none, none, none, none, some 7] [] [0, 1, 2, 3, 4, 5, 6, 8] 10 (List.take_append_drop 9 _).symm (by kernel_rfl) (by kernel_rfl) (by kernel_rfl) rfl rfl ?_ ?_
  ·
   refine ⟨?_, ?_, ?_, ?_, ?_, ?_, ?_, ?_, ?_, trivial⟩
   ·
    intro vf pf hmu hR
    refine zeg [] [] rfl (zbo (zam [7] rfl) (List.sublist_append_right _ _) ?_)
    exact zbg (zao (cs := [.int .i64 m.ins, m.sv, m.av, m.ov]) rfl rfl rfl rfl rfl (zaj 0 rfl 0 rfl))
   ·
    intro vf pf hmu hR
    refine zeg [] [] rfl (zbo (zam [7] rfl) (List.sublist_append_right _ _) ?_)
    exact zbg (zao (cs := [.int .i64 m.ins, m.sv, m.av, m.ov]) rfl rfl rfl rfl rfl (zaj 0 rfl 0 rfl))
   ·
    intro vf pf hmu hR
    have e1 := hR 1 (by decide)
    refine zeg [1] [1] rfl (zbo (sk 34 (congrArg some e1.1) (zaf _)) (List.sublist_append_right _ _) ?_)
    exact zaq rfl rfl (fun w hm => zjc m w (hqs w (hm.holds _ (zcn (i := 1) rfl))) hmok)
   ·
    intro vf pf hmu hR
    have e0 := hR 0 (by decide)
    have e2 : (fun u_ p_ => ∃ (ps : List HP) (rs : List CRow), p_ = [rowE 28 1 u_ rs.length (rs.flatMap crowC), bigE ps] ∧ (∀ w, (bigE ps).holds w → RdsAll w rs) ∧ rs.length = m.gs.length ∧ ∀ r ∈ rs, r.xs.length ≤ 400) (vf 2) (pf 2) := hR 2 (by decide)
    obtain ⟨v27, vE2⟩ : ∃ x, vf 2 = x := ⟨_, rfl⟩
    obtain ⟨p28, pE2⟩ : ∃ x, pf 2 = x := ⟨_, rfl⟩
    have hR29 := e2
    rw [vE2, pE2] at hR29
    obtain ⟨ds, rs, rfl, hds, hrl, h400⟩ := hR29
    refine zeg [0, 2] [0, 2] rfl (zci (sk 33 (congrArg some e0.1) (sk 35 (congrArg some vE2) (zaf _))) (by simp only [pE2, vE2, e0.2, fS] <;> rfl) ?_)
    exact zaq rfl rfl (fun w hm => zrz m rs _ w (hqs w (hm.holds _ (zcn (i := 3) rfl))) hmok ⟨zae 0 rfl w hm, hds w (hm.holds _ (zcn (i := 1) rfl))⟩ h400 (by omega))
   ·
    intro vf pf hmu hR
    have e3 : (fun u_ p_ => ∃ (ps : List HP) (m : Ln) (b : Bool), u_ = .tuple #[m.agg, .bool b] ∧ p_ = [bigE ps] ∧ (∀ w, (bigE ps).holds w → RdsLn w m) ∧ (m.sv.oneCell' = true ∧ m.lv.oneCell' = true ∧ m.ov.oneCell' = true) ∧ LnOk m) (vf 3) (pf 3) := hR 3 (by decide)
    obtain ⟨v30, vE3⟩ : ∃ x, vf 3 = x := ⟨_, rfl⟩
    obtain ⟨p31, pE3⟩ : ∃ x, pf 3 = x := ⟨_, rfl⟩
    have hR32 := e3
    rw [vE3, pE3] at hR32
    obtain ⟨ls_, tl, tb, rfl, rfl, hls, ⟨o1t, o2t, o3t⟩, htl⟩ := hR32
    refine zeg [3] [3] rfl (zci (sk 36 (congrArg some vE3) (zaf _)) (by simp only [pE3, vE3, fS] <;> rfl) ?_)
    exact zcy (zbg (zas rfl)) (fun _ _ h => ⟨h.1.trans (by show _ = (.tuple #[.agg #[.int .i64 (tL0 (vf 3)), (tLk 1 (vf 3)), (tLk 2 (vf 3)), (tLk 3 (vf 3))], .bool (tLb (vf 3))] : Value); first | (rw [vE3]; done) | (rw [vE3]; rfl)), h.2⟩)
   ·
    intro vf pf hmu hR
    have e3 : (fun u_ p_ => ∃ (ps : List HP) (m : Ln) (b : Bool), u_ = .tuple #[m.agg, .bool b] ∧ p_ = [bigE ps] ∧ (∀ w, (bigE ps).holds w → RdsLn w m) ∧ (m.sv.oneCell' = true ∧ m.lv.oneCell' = true ∧ m.ov.oneCell' = true) ∧ LnOk m) (vf 3) (pf 3) := hR 3 (by decide)
    obtain ⟨v30, vE3⟩ : ∃ x, vf 3 = x := ⟨_, rfl⟩
    obtain ⟨p31, pE3⟩ : ∃ x, pf 3 = x := ⟨_, rfl⟩
    have hR32 := e3
    rw [vE3, pE3] at hR32
    obtain ⟨ls_, tl, tb, rfl, rfl, hls, ⟨o1t, o2t, o3t⟩, htl⟩ := hR32
    have e4 : (vf 4) = .tuple #[.agg #[.int .i64 (tL0 (vf 3)), (tLk 1 (vf 3)), (tLk 2 (vf 3)), (tLk 3 (vf 3))], .bool (tLb (vf 3))] ∧ (pf 4) = [] := hR 4 (by decide)
    rw [vE3] at e4
    refine zeg [3, 4] [3, 4] rfl (zci (sk 32 (congrArg some e4.1) (zaf _)) (by simp only [pE3, vE3, e4.2, fS] <;> rfl) ?_)
    exact zcy (zbg (zas rfl)) (fun _ _ h => ⟨h.1.trans (by show _ = (.agg #[.int .i64 (tL0 (vf 3)), (tLk 1 (vf 3)), (tLk 2 (vf 3)), (tLk 3 (vf 3))] : Value); first | (rw [vE3]; done) | (rw [vE3]; rfl)), h.2⟩)
   ·
    intro vf pf hmu hR
    have e3 : (fun u_ p_ => ∃ (ps : List HP) (m : Ln) (b : Bool), u_ = .tuple #[m.agg, .bool b] ∧ p_ = [bigE ps] ∧ (∀ w, (bigE ps).holds w → RdsLn w m) ∧ (m.sv.oneCell' = true ∧ m.lv.oneCell' = true ∧ m.ov.oneCell' = true) ∧ LnOk m) (vf 3) (pf 3) := hR 3 (by decide)
    obtain ⟨v30, vE3⟩ : ∃ x, vf 3 = x := ⟨_, rfl⟩
    obtain ⟨p31, pE3⟩ : ∃ x, pf 3 = x := ⟨_, rfl⟩
    have hR32 := e3
    rw [vE3, pE3] at hR32
    obtain ⟨ls_, tl, tb, rfl, rfl, hls, ⟨o1t, o2t, o3t⟩, htl⟩ := hR32
    have e4 : (vf 4) = .tuple #[.agg #[.int .i64 (tL0 (vf 3)), (tLk 1 (vf 3)), (tLk 2 (vf 3)), (tLk 3 (vf 3))], .bool (tLb (vf 3))] ∧ (pf 4) = [] := hR 4 (by decide)
    rw [vE3] at e4
    refine zeg [3, 4] [3, 4] rfl (zci (sk 32 (congrArg some e4.1) (zaf _)) (by simp only [pE3, vE3, e4.2, fS] <;> rfl) ?_)
    exact zcy (zbg (zas rfl)) (fun _ _ h => ⟨h.1.trans (by show _ = (.bool (tLb (vf 3)) : Value); first | (rw [vE3]; done) | (rw [vE3]; rfl)), h.2⟩)
   ·
    intro vf pf hmu hR
    refine zeg [] [] rfl (zbo (zaf _) (List.sublist_append_right _ _) ?_)
    exact zbx (z := .agg #[.int .i64 0, .slice none 0 0, .slice none 0 0, .slice none 0 0]) rfl rfl
   intro vf pf hmu hR
   have e3 : (fun u_ p_ => ∃ (ps : List HP) (m : Ln) (b : Bool), u_ = .tuple #[m.agg, .bool b] ∧ p_ = [bigE ps] ∧ (∀ w, (bigE ps).holds w → RdsLn w m) ∧ (m.sv.oneCell' = true ∧ m.lv.oneCell' = true ∧ m.ov.oneCell' = true) ∧ LnOk m) (vf 3) (pf 3) := hR 3 (by decide)
   obtain ⟨v30, vE3⟩ : ∃ x, vf 3 = x := ⟨_, rfl⟩
   obtain ⟨p31, pE3⟩ : ∃ x, pf 3 = x := ⟨_, rfl⟩
   have hR32 := e3
   rw [vE3, pE3] at hR32
   obtain ⟨ls_, tl, tb, rfl, rfl, hls, ⟨o1t, o2t, o3t⟩, htl⟩ := hR32
   have e5 : (vf 5) = .agg #[.int .i64 (tL0 (vf 3)), (tLk 1 (vf 3)), (tLk 2 (vf 3)), (tLk 3 (vf 3))] ∧ (pf 5) = [] := hR 5 (by decide)
   rw [vE3] at e5
   have e7 : IsBox #[.int .i64 0, .slice none 0 0, .slice none 0 0, .slice none 0 0] 30 (vf 7) (pf 7) := hR 7 (by decide)
   obtain ⟨b33, vE7, pE7⟩ := e7
   refine Or.inl ⟨rfl, ?_⟩
   show RunM _ _ _ (pf 7) (([3, 5] : List Nat).flatMap pf ++ _) (envOf3 _ vf [3, 5, 7] ++ _) _ _
   rw [pE7]
   exact zee (sk 8 (congrArg some vE7) (sk 37 (congrArg some e5.1) (zaf _))) (by simp only [pE3, vE3, e5.2, fS] <;> rfl) (zjr (zfi (us := [.int .i64 tl.ins, tl.sv, tl.lv, tl.ov]) (off := 0) 0 rfl rfl rfl rfl rfl rfl (zah rfl (zah o1t (zah o2t (zah o3t zbr)))) rfl rfl) (fun v_ p_ h => by show p_ = [boxE (blkOf (vf 7)) #[.int .i64 (tL0 (vf 3)), (tLk 1 (vf 3)), (tLk 2 (vf 3)), (tLk 3 (vf 3))] 30]; rw [vE3, vE7]; exact h))
  intro vf pf hmu hR
  have e2 : (fun u_ p_ => ∃ (ps : List HP) (rs : List CRow), p_ = [rowE 28 1 u_ rs.length (rs.flatMap crowC), bigE ps] ∧ (∀ w, (bigE ps).holds w → RdsAll w rs) ∧ rs.length = m.gs.length ∧ ∀ r ∈ rs, r.xs.length ≤ 400) (vf 2) (pf 2) := hR 2 (by decide)
  obtain ⟨v27, vE2⟩ : ∃ x, vf 2 = x := ⟨_, rfl⟩
  obtain ⟨p28, pE2⟩ : ∃ x, pf 2 = x := ⟨_, rfl⟩
  have hR29 := e2
  rw [vE2, pE2] at hR29
  obtain ⟨ds, rs, rfl, hds, hrl, h400⟩ := hR29
  have e3 : (fun u_ p_ => ∃ (ps : List HP) (m : Ln) (b : Bool), u_ = .tuple #[m.agg, .bool b] ∧ p_ = [bigE ps] ∧ (∀ w, (bigE ps).holds w → RdsLn w m) ∧ (m.sv.oneCell' = true ∧ m.lv.oneCell' = true ∧ m.ov.oneCell' = true) ∧ LnOk m) (vf 3) (pf 3) := hR 3 (by decide)
  obtain ⟨v30, vE3⟩ : ∃ x, vf 3 = x := ⟨_, rfl⟩
  obtain ⟨p31, pE3⟩ : ∃ x, pf 3 = x := ⟨_, rfl⟩
  have hR32 := e3
  rw [vE3, pE3] at hR32
  obtain ⟨ls_, tl, tb, rfl, rfl, hls, ⟨o1t, o2t, o3t⟩, htl⟩ := hR32
  have e6 : (vf 6) = .bool (tLb (vf 3)) ∧ (pf 6) = [] := hR 6 (by decide)
  rw [vE3] at e6
  have e7 : IsBox #[.int .i64 0, .slice none 0 0, .slice none 0 0, .slice none 0 0] 30 (vf 7) (pf 7) := hR 7 (by decide)
  obtain ⟨b33, vE7, pE7⟩ := e7
  have e8 : (pf 8) = [boxE (blkOf (vf 7)) #[.int .i64 (tL0 (vf 3)), (tLk 1 (vf 3)), (tLk 2 (vf 3)), (tLk 3 (vf 3))] 30] := hR 8 (by decide)
  rw [vE3, vE7] at e8
  have pE8 := e8
  have q0 := hR 0 (by decide)
  have q1 := hR 1 (by decide)
  have q4 := hR 4 (by decide)
  have q5 := hR 5 (by decide)
  have q6 := hR 6 (by decide)
  refine zco (zbk [7, 6, 5, 4, 3, 2, 0] _ (sk 8 (congrArg some vE7) (sk 23 rfl (sk 38 (congrArg some e6.1) (zaf _)))) rfl) (by simp only [pE2, vE2, pE3, vE3, pE8, q0.2, q1.2, q4.2, q5.2, q6.2, fS] <;> rfl) ?_
  simp only [List.drop_succ_cons, List.drop_zero]
  refine zaz 1 rfl (srQ (hvQ rfl (zao (cs := [.int .i64 tl.ins, tl.sv, tl.lv, tl.ov]) rfl rfl rfl rfl rfl (zaj 3 rfl 0 rfl)) ?_))
  refine zfg rfl rfl rfl (zaq rfl rfl (fun w hm => zui tl w (hls w (hm.holds _ (zcn (i := 2) rfl))) htl)) ?_
  intro v34 p35 hR36
  obtain ⟨kp, bs, bv, okp, rfl, rfl, hkp, o1b, hbo, hb64, hpk⟩ := hR36
  refine zap 3 rfl (zca (fun h37 => ?_) (fun h37 => ?_))
  ·
   refine zaz 2 rfl (zac ?_)
   refine zhq 11 [10, 9, 8, 6, 5, 4, 3, 2, 1, 0, 7] rfl rfl (by decide) ?_
   refine zif (l := (bigE kp :: rowE 28 1 v27 rs.length (rs.flatMap crowC) :: bigE ds :: bigE ls_ :: boxE b33 #[.int .i64 tl.ins, tl.sv, tl.lv, tl.ov] 30 :: boxE b21 #[.int .i64 m.ins, m.sv, m.av, m.ov] 86 :: bigE qs :: boxE b12 #[.int .i64 (4 + xhR5), .int .i64 (4 + xhR8), .int .i64 (2 + xhR11), .int .i64 1] 25 :: boxE b2 #[.int .i64 0, .slice none 0 0, .slice none 0 0, .slice none 0 0] 30 :: boxE b1 #[.int .i64 0, .int .i64 0, .int .i64 0, .int .i64 0] 25 :: l)) rfl 12 [0, 1, 2, 3, 4, 5, 6, 7, 8, 9, 10, 11] (List.take 12 _) (List.drop 12 _) [[], [0], [1], [1], [1], [1, 4], [1, 2, 3, 5], [1, 6], [1], [1, 8], [1, 6, 7, 9], [1, 6, 10]] [44, 45, 46, 47, 48, 49, 50, 51, 52, 53, 54, 55] (fun i_ vs_ v_ p_ => match i_ with | 0 => v_ = .bool true ∧ p_ = [] | 1 => v_ = .bool true ∧ p_ = [] | 2 => v_ = .pointer (some ⟨g, 0, none⟩) ∧ p_ = [] | 3 => v_ = .agg #[.int .i64 (4 + xhR5), .int .i64 (4 + xhR8), .int .i64 (2 + xhR11), .int .i64 1] ∧ p_ = [] | 4 => v_ = bv ∧ p_ = [] | 5 => (fun v' post => post = [rowE 3 1 v' ((bs.map Bk.kd)).length (((bs.map Bk.kd)).map (Value.int .i64))]) v_ p_ | 6 => (∃ pm_, p_ = [pm_] ∧ (fun u_ p_ => ∃ zs : List Int, p_ = bigE [curE g a len cap, rowE 3 1 u_ zs.length (zs.map (Value.int .i64))] ∧ (lenN u_ = zs.length ∧ u_.oneCell' = true) ∧ ((Fits (Dev.mk (4 + xhR5) (4 + xhR8) (2 + xhR11) 1) (bs.map Bk.kd) ∧ zs.length = (bs.map Bk.kd).length ∧ PlP (Dev.mk (4 + xhR5) (4 + xhR8) (2 + xhR11) 1) (bs.map Bk.kd) zs) ∨ (¬ Fits (Dev.mk (4 + xhR5) (4 + xhR8) (2 + xhR11) 1) (bs.map Bk.kd) ∧ zs = []))) v_ pm_) | 7 => v_ = .int .i64 (lenN (List.getD vs_ 1 undef) : Int) ∧ p_ = [] | 8 => v_ = bv ∧ p_ = [] | 9 => v_ = .int .i64 (bs.length : Int) ∧ p_ = [] | 10 => v_ = .bool ((lenN (List.getD vs_ 1 undef) : Int) == (bs.length : Int)) ∧ p_ = [] | 11 => v_ = .bool ((lenN (List.getD vs_ 1 undef) : Int) == (bs.length : Int)) ∧ p_ = [] | _ => True) [[], [0], [1], [1], [1], [1, 4], [1, 2, 3, 5], [1, 6], [1], [1, 8], [1, 6, 7, 9], [1, 6, 10]] [none, none, none, none, none, none, some 12, none, none, none, none, none] [curE g a len cap] [0, 1, 2, 3, 4, 5, 6, 7, 8, 9, 10, 11] 12 (List.take_append_drop 12 _).symm (by kernel_rfl) (by kernel_rfl) (by kernel_rfl) rfl rfl ?_ ?_
   ·
    refine ⟨?_, ?_, ?_, ?_, ?_, ?_, ?_, ?_, ?_, ?_, ?_, ?_, trivial⟩
    ·
     intro vf pf hmu hR
     refine dqQ [] [] rfl (zcg (zam [11] rfl) ?_)
     exact zbg (zas rfl)
    ·
     intro vf pf hmu hR
     have e0 := hR 0 (by decide)
     refine dqQ [0] [0] rfl (zcg (sk 44 (congrArg some e0.1) (zaf _)) ?_)
     exact zbg (zas rfl)
    ·
     intro vf pf hmu hR
     have e1 := hR 1 (by decide)
     refine Or.inl ⟨zcj (congrArg some e1.1) rfl, ?_⟩
     show RunQ _ _ _ (([1] : List Nat).flatMap pf ++ _) (envOf _ vf [1] ++ _) _ _
     exact zcg (zam [0] rfl) (zbg (zas rfl))
    ·
     intro vf pf hmu hR
     have e1 := hR 1 (by decide)
     refine Or.inl ⟨zcj (congrArg some e1.1) rfl, ?_⟩
     show RunQ _ _ _ (([1] : List Nat).flatMap pf ++ _) (envOf _ vf [1] ++ _) _ _
     exact zbo (zam [5] rfl) (List.sublist_append_right _ _) (zbg (zao (cs := [.int .i64 (4 + xhR5), .int .i64 (4 + xhR8), .int .i64 (2 + xhR11), .int .i64 1]) rfl rfl rfl rfl rfl (zaj 7 rfl 0 rfl)))
    ·
     intro vf pf hmu hR
     have e1 := hR 1 (by decide)
     refine Or.inl ⟨zcj (congrArg some e1.1) rfl, ?_⟩
     show RunQ _ _ _ (([1] : List Nat).flatMap pf ++ _) (envOf _ vf [1] ++ _) _ _
     exact zcg (zam [10] rfl) (zbg (zas rfl))
    ·
     intro vf pf hmu hR
     have e1 := hR 1 (by decide)
     have e4 := hR 4 (by decide)
     refine Or.inl ⟨zcj (congrArg some e1.1) rfl, ?_⟩
     show RunQ _ _ _ (([1, 4] : List Nat).flatMap pf ++ _) (envOf _ vf [1, 4] ++ _) _ _
     exact zbo (sk 48 (congrArg some e4.1) (zaf _)) (List.sublist_append_right _ _) (zaq rfl rfl (fun w hm => znf bs _ w (hkp w (hm.holds _ (zcn (i := 0) rfl))) (by omega)))
    ·
     intro vf pf hmu hR
     have e1 := hR 1 (by decide)
     have e2 := hR 2 (by decide)
     have e3 := hR 3 (by decide)
     have e5 : (fun v' post => post = [rowE 3 1 v' ((bs.map Bk.kd)).length (((bs.map Bk.kd)).map (Value.int .i64))]) (vf 5) (pf 5) := hR 5 (by decide)
     obtain ⟨v38, vE5⟩ : ∃ x, vf 5 = x := ⟨_, rfl⟩
     obtain ⟨p39, pE5⟩ : ∃ x, pf 5 = x := ⟨_, rfl⟩
     have hR40 := e5
     rw [vE5, pE5] at hR40
     subst hR40
     refine Or.inl ⟨zcj (congrArg some e1.1) rfl, ?_⟩
     show RunM _ _ _ (pf 12) (([1, 2, 3, 5] : List Nat).flatMap pf ++ _) (envOf _ vf [1, 2, 3, 5] ++ _) _ _
     rw [hmu]
     exact zee (sk 46 (congrArg some e2.1) (sk 47 (congrArg some e3.1) (sk 49 (congrArg some vE5) (zaf _)))) (by simp only [pE5, vE5, e1.2, e2.2, e3.2, fS] <;> rfl) (zff (R := (fun u_ p_ => ∃ zs : List Int, p_ = bigE [curE g a len cap, rowE 3 1 u_ zs.length (zs.map (Value.int .i64))] ∧ (lenN u_ = zs.length ∧ u_.oneCell' = true) ∧ ((Fits (Dev.mk (4 + xhR5) (4 + xhR8) (2 + xhR11) 1) (bs.map Bk.kd) ∧ zs.length = (bs.map Bk.kd).length ∧ PlP (Dev.mk (4 + xhR5) (4 + xhR8) (2 + xhR11) 1) (bs.map Bk.kd) zs) ∨ (¬ Fits (Dev.mk (4 + xhR5) (4 + xhR8) (2 + xhR11) 1) (bs.map Bk.kd) ∧ zs = [])))) rfl rfl (fun L w hX hm => zlv g a len cap z (Dev.mk (4 + xhR5) (4 + xhR8) (2 + xhR11) 1) (bs.map Bk.kd) v38 _ _ _ hm hb hdv9 (fun w hm9 => by have h9 := hX w hm9; exact zae 0 rfl w h9) (by rw [List.length_map]; omega)))
    ·
     intro vf pf hmu hR
     have e1 := hR 1 (by decide)
     have e6 : (∃ pm_, (pf 6) = [pm_] ∧ (fun u_ p_ => ∃ zs : List Int, p_ = bigE [curE g a len cap, rowE 3 1 u_ zs.length (zs.map (Value.int .i64))] ∧ (lenN u_ = zs.length ∧ u_.oneCell' = true) ∧ ((Fits (Dev.mk (4 + xhR5) (4 + xhR8) (2 + xhR11) 1) (bs.map Bk.kd) ∧ zs.length = (bs.map Bk.kd).length ∧ PlP (Dev.mk (4 + xhR5) (4 + xhR8) (2 + xhR11) 1) (bs.map Bk.kd) zs) ∨ (¬ Fits (Dev.mk (4 + xhR5) (4 + xhR8) (2 + xhR11) 1) (bs.map Bk.kd) ∧ zs = []))) (vf 6) pm_) := hR 6 (by decide)
     obtain ⟨p42, pE6, hR43⟩ := e6
     obtain ⟨v41, vE6⟩ : ∃ x, vf 6 = x := ⟨_, rfl⟩
     rw [vE6] at hR43
     obtain ⟨zrhR43, rfl, ⟨hlnhR43, honhR43⟩, hzhR43⟩ := hR43
     refine Or.inl ⟨zcj (congrArg some e1.1) rfl, ?_⟩
     show RunQ _ _ _ (([1, 6] : List Nat).flatMap pf ++ _) (envOf _ vf [1, 6] ++ _) _ _
     exact zci (sk 50 (congrArg some vE6) (zaf _)) (by simp only [pE6, vE6, e1.2, fS] <;> rfl) (zcy (zbg (lnQ rfl rfl rfl (rd_lenN (fun w hm => zcf (hold_at (hm.holds _ (zcn (i := 0) rfl)) (j := 1) rfl))))) (fun _ _ h => ⟨h.1.trans (by show _ = (.int .i64 (lenN (vf 6) : Int) : Value); first | (rw [vE6]; done) | (rw [vE6]; rfl)), h.2⟩))
    ·
     intro vf pf hmu hR
     have e1 := hR 1 (by decide)
     refine Or.inl ⟨zcj (congrArg some e1.1) rfl, ?_⟩
     show RunQ _ _ _ (([1] : List Nat).flatMap pf ++ _) (envOf _ vf [1] ++ _) _ _
     exact zcg (zam [10] rfl) (zbg (zas rfl))
    ·
     intro vf pf hmu hR
     have e1 := hR 1 (by decide)
     have e8 := hR 8 (by decide)
     refine Or.inl ⟨zcj (congrArg some e1.1) rfl, ?_⟩
     show RunQ _ _ _ (([1, 8] : List Nat).flatMap pf ++ _) (envOf _ vf [1, 8] ++ _) _ _
     exact zbo (sk 52 (congrArg some e8.1) (zaf _)) (List.sublist_append_right _ _) (zbg (lnQ rfl rfl rfl (fun w hm => (hkp w (hm.holds _ (zcn (i := 0) rfl))).row)))
    ·
     intro vf pf hmu hR
     have e1 := hR 1 (by decide)
     have e6 : (∃ pm_, (pf 6) = [pm_] ∧ (fun u_ p_ => ∃ zs : List Int, p_ = bigE [curE g a len cap, rowE 3 1 u_ zs.length (zs.map (Value.int .i64))] ∧ (lenN u_ = zs.length ∧ u_.oneCell' = true) ∧ ((Fits (Dev.mk (4 + xhR5) (4 + xhR8) (2 + xhR11) 1) (bs.map Bk.kd) ∧ zs.length = (bs.map Bk.kd).length ∧ PlP (Dev.mk (4 + xhR5) (4 + xhR8) (2 + xhR11) 1) (bs.map Bk.kd) zs) ∨ (¬ Fits (Dev.mk (4 + xhR5) (4 + xhR8) (2 + xhR11) 1) (bs.map Bk.kd) ∧ zs = []))) (vf 6) pm_) := hR 6 (by decide)
     obtain ⟨p42, pE6, hR43⟩ := e6
     obtain ⟨v41, vE6⟩ : ∃ x, vf 6 = x := ⟨_, rfl⟩
     rw [vE6] at hR43
     obtain ⟨zrhR43, rfl, ⟨hlnhR43, honhR43⟩, hzhR43⟩ := hR43
     have e7 : (vf 7) = .int .i64 (lenN (vf 6) : Int) ∧ (pf 7) = [] := hR 7 (by decide)
     rw [vE6] at e7
     have e9 := hR 9 (by decide)
     refine Or.inl ⟨zcj (congrArg some e1.1) rfl, ?_⟩
     show RunQ _ _ _ (([1, 6, 7, 9] : List Nat).flatMap pf ++ _) (envOf _ vf [1, 6, 7, 9] ++ _) _ _
     exact zci (sk 51 (congrArg some e7.1) (sk 53 (congrArg some e9.1) (zaf _))) (by simp only [pE6, vE6, e1.2, e7.2, e9.2, fS] <;> rfl) (zcy (zbg (zde rfl rfl rfl rfl)) (fun _ _ h => ⟨h.1.trans (by show _ = (.bool ((lenN (vf 6) : Int) == (bs.length : Int)) : Value); first | (rw [vE6]; done) | (rw [vE6]; rfl)), h.2⟩))
    intro vf pf hmu hR
    have e1 := hR 1 (by decide)
    have e6 : (∃ pm_, (pf 6) = [pm_] ∧ (fun u_ p_ => ∃ zs : List Int, p_ = bigE [curE g a len cap, rowE 3 1 u_ zs.length (zs.map (Value.int .i64))] ∧ (lenN u_ = zs.length ∧ u_.oneCell' = true) ∧ ((Fits (Dev.mk (4 + xhR5) (4 + xhR8) (2 + xhR11) 1) (bs.map Bk.kd) ∧ zs.length = (bs.map Bk.kd).length ∧ PlP (Dev.mk (4 + xhR5) (4 + xhR8) (2 + xhR11) 1) (bs.map Bk.kd) zs) ∨ (¬ Fits (Dev.mk (4 + xhR5) (4 + xhR8) (2 + xhR11) 1) (bs.map Bk.kd) ∧ zs = []))) (vf 6) pm_) := hR 6 (by decide)
    obtain ⟨p42, pE6, hR43⟩ := e6
    obtain ⟨v41, vE6⟩ : ∃ x, vf 6 = x := ⟨_, rfl⟩
    rw [vE6] at hR43
    obtain ⟨zrhR43, rfl, ⟨hlnhR43, honhR43⟩, hzhR43⟩ := hR43
    have e10 : (vf 10) = .bool ((lenN (vf 6) : Int) == (bs.length : Int)) ∧ (pf 10) = [] := hR 10 (by decide)
    rw [vE6] at e10
    refine dqQ [1, 6, 10] [1, 6, 10] rfl (zci (sk 45 (congrArg some e1.1) (sk 54 (congrArg some e10.1) (zaf _))) (by simp only [pE6, vE6, e1.2, e10.2, fS] <;> rfl) ?_)
    exact zcy (zbg (zas rfl)) (fun _ _ h => ⟨h.1.trans (by show _ = (.bool ((lenN (vf 6) : Int) == (bs.length : Int)) : Value); first | (rw [vE6]; done) | (rw [vE6]; rfl)), h.2⟩)
   intro vf pf hmu hR
   have e5 : (fun v' post => post = [rowE 3 1 v' ((bs.map Bk.kd)).length (((bs.map Bk.kd)).map (Value.int .i64))]) (vf 5) (pf 5) := hR 5 (by decide)
   obtain ⟨v38, vE5⟩ : ∃ x, vf 5 = x := ⟨_, rfl⟩
   obtain ⟨p39, pE5⟩ : ∃ x, pf 5 = x := ⟨_, rfl⟩
   have hR40 := e5
   rw [vE5, pE5] at hR40
   subst hR40
   have e6 : (∃ pm_, (pf 6) = [pm_] ∧ (fun u_ p_ => ∃ zs : List Int, p_ = bigE [curE g a len cap, rowE 3 1 u_ zs.length (zs.map (Value.int .i64))] ∧ (lenN u_ = zs.length ∧ u_.oneCell' = true) ∧ ((Fits (Dev.mk (4 + xhR5) (4 + xhR8) (2 + xhR11) 1) (bs.map Bk.kd) ∧ zs.length = (bs.map Bk.kd).length ∧ PlP (Dev.mk (4 + xhR5) (4 + xhR8) (2 + xhR11) 1) (bs.map Bk.kd) zs) ∨ (¬ Fits (Dev.mk (4 + xhR5) (4 + xhR8) (2 + xhR11) 1) (bs.map Bk.kd) ∧ zs = []))) (vf 6) pm_) := hR 6 (by decide)
   obtain ⟨p42, pE6, hR43⟩ := e6
   obtain ⟨v41, vE6⟩ : ∃ x, vf 6 = x := ⟨_, rfl⟩
   rw [vE6] at hR43
   obtain ⟨zrhR43, rfl, ⟨hlnhR43, honhR43⟩, hzhR43⟩ := hR43
   have e11 : (vf 11) = .bool ((lenN (vf 6) : Int) == (bs.length : Int)) ∧ (pf 11) = [] := hR 11 (by decide)
   rw [vE6] at e11
   have q0 := hR 0 (by decide)
   have q1 := hR 1 (by decide)
   have q2 := hR 2 (by decide)
   have q3 := hR 3 (by decide)
   have q4 := hR 4 (by decide)
   have q7 := hR 7 (by decide)
   have q8 := hR 8 (by decide)
   have q9 := hR 9 (by decide)
   have q10 := hR 10 (by decide)
   have q11 := hR 11 (by decide)
   refine zco (zbk [23, 11, 10, 8, 7, 6, 5, 4, 3, 2, 0] _ (sk 55 (congrArg some e11.1) (zaf _)) rfl) (by simp only [pE5, vE5, pE6, vE6, q0.2, q1.2, q2.2, q3.2, q4.2, q7.2, q8.2, q9.2, q10.2, q11.2, fS] <;> rfl) ?_
   simp only [List.drop_succ_cons, List.drop_zero]
   refine ntQ ?_
   refine hc_cond rfl (fun h44 => ?_) (fun h44 => ?_)
   ·
    refine zac ?_
    have hle9 : (lenN v41 : Int) = (bs.length : Int) := beq_iff_eq.1 (by assumption)
    refine zhq 12 [9, 8, 7, 6, 5, 4, 3, 2, 1, 0, 10, 11] rfl rfl (by decide) ?_
    refine zie (l := (rowE 3 1 v38 ((bs.map Bk.kd).length) ((bs.map Bk.kd).map (Value.int .i64)) :: bigE [curE g a len cap, rowE 3 1 v41 zrhR43.length (zrhR43.map (Value.int .i64))] :: bigE kp :: rowE 28 1 v27 rs.length (rs.flatMap crowC) :: bigE ds :: bigE ls_ :: boxE b33 #[.int .i64 tl.ins, tl.sv, tl.lv, tl.ov] 30 :: boxE b21 #[.int .i64 m.ins, m.sv, m.av, m.ov] 86 :: bigE qs :: boxE b12 #[.int .i64 (4 + xhR5), .int .i64 (4 + xhR8), .int .i64 (2 + xhR11), .int .i64 1] 25 :: l)) rfl 5 [0, 1, 2, 3, 4] (List.take 5 _) (List.drop 5 _) [[], [], [], [0], [1]] [some 56, some 57, some 58, none, none] (fun i_ vs_ v_ p_ => match i_ with | 0 => v_ = .agg #[.int .i64 (4 + xhR5), .int .i64 (4 + xhR8), .int .i64 (2 + xhR11), .int .i64 1] ∧ p_ = [] | 1 => v_ = .agg #[.int .i64 tl.ins, tl.sv, tl.lv, tl.ov] ∧ p_ = [] | 2 => v_ = bv ∧ p_ = [] | 3 => p_ = [boxE b1 #[.int .i64 (4 + xhR5), .int .i64 (4 + xhR8), .int .i64 (2 + xhR11), .int .i64 1] 25] | 4 => p_ = [boxE b2 #[.int .i64 tl.ins, tl.sv, tl.lv, tl.ov] 30] | _ => True) [[], [], [], [0], [1]] [none, none, none, some 6, some 7] [[boxE b1 #[.int .i64 0, .int .i64 0, .int .i64 0, .int .i64 0] 25], [boxE b2 #[.int .i64 0, .slice none 0 0, .slice none 0 0, .slice none 0 0] 30]] [0, 1, 2, 3, 4] 6 (List.take_append_drop 5 _).symm (by kernel_rfl) (by kernel_rfl) (by kernel_rfl) rfl rfl ?_ ?_
    ·
     refine ⟨?_, ?_, ?_, ?_, ?_, trivial⟩
     ·
      intro vf pf hmu hR
      refine zeg [] [] rfl (zbo (zam [5] rfl) (List.sublist_append_right _ _) ?_)
      exact zbg (zao (cs := [.int .i64 (4 + xhR5), .int .i64 (4 + xhR8), .int .i64 (2 + xhR11), .int .i64 1]) rfl rfl rfl rfl rfl (zaj 9 rfl 0 rfl))
     ·
      intro vf pf hmu hR
      refine zeg [] [] rfl (zbo (zam [8] rfl) (List.sublist_append_right _ _) ?_)
      exact zbg (zao (cs := [.int .i64 tl.ins, tl.sv, tl.lv, tl.ov]) rfl rfl rfl rfl rfl (zaj 6 rfl 0 rfl))
     ·
      intro vf pf hmu hR
      refine zeg [] [] rfl (zcg (zam [10] rfl) ?_)
      exact zbg (zas rfl)
     ·
      intro vf pf hmu hR
      have e0 := hR 0 (by decide)
      refine Or.inl ⟨rfl, ?_⟩
      show RunM _ _ _ (pf 6) (([0] : List Nat).flatMap pf ++ _) (envOf3 _ vf [0] ++ _) _ _
      have hmu0 : pf 6 = [boxE b1 #[.int .i64 0, .int .i64 0, .int .i64 0, .int .i64 0] 25] := hmu 0 (show 0 < 2 by omega)
      rw [hmu0]
      exact zee (sk 2 rfl (sk 56 (congrArg some e0.1) (zaf _))) (by simp only [e0.2, fS] <;> rfl) (zjr (zfi (us := [.int .i64 (4 + xhR5), .int .i64 (4 + xhR8), .int .i64 (2 + xhR11), .int .i64 1]) (off := 0) 0 rfl rfl rfl rfl rfl rfl (zah rfl (zah rfl (zah rfl (zah rfl zbr)))) rfl rfl) (fun v_ p_ h => by show p_ = [boxE b1 #[.int .i64 (4 + xhR5), .int .i64 (4 + xhR8), .int .i64 (2 + xhR11), .int .i64 1] 25]; exact h))
     intro vf pf hmu hR
     have e1 := hR 1 (by decide)
     refine Or.inl ⟨rfl, ?_⟩
     show RunM _ _ _ (pf 7) (([1] : List Nat).flatMap pf ++ _) (envOf3 _ vf [1] ++ _) _ _
     have hmu1 : pf 7 = [boxE b2 #[.int .i64 0, .slice none 0 0, .slice none 0 0, .slice none 0 0] 30] := hmu 1 (show 1 < 2 by omega)
     rw [hmu1]
     exact zee (sk 3 rfl (sk 57 (congrArg some e1.1) (zaf _))) (by simp only [e1.2, fS] <;> rfl) (zjr (zfi (us := [.int .i64 tl.ins, tl.sv, tl.lv, tl.ov]) (off := 0) 0 rfl rfl rfl rfl rfl rfl (zah rfl (zah o1t (zah o2t (zah o3t zbr)))) rfl rfl) (fun v_ p_ h => by show p_ = [boxE b2 #[.int .i64 tl.ins, tl.sv, tl.lv, tl.ov] 30]; exact h))
    intro vf pf hmu hR
    have e2 := hR 2 (by decide)
    have e3 : (pf 3) = [boxE b1 #[.int .i64 (4 + xhR5), .int .i64 (4 + xhR8), .int .i64 (2 + xhR11), .int .i64 1] 25] := hR 3 (by decide)
    have pE3 := e3
    have e4 : (pf 4) = [boxE b2 #[.int .i64 tl.ins, tl.sv, tl.lv, tl.ov] 30] := hR 4 (by decide)
    have pE4 := e4
    have q0 := hR 0 (by decide)
    have q1 := hR 1 (by decide)
    have q2 := hR 2 (by decide)
    refine zco (zbk [55, 23, 11, 10, 8, 7, 6, 5, 4, 3, 2, 0] _ (sk 58 (congrArg some e2.1) (zaf _)) rfl) (by simp only [pE3, pE4, q0.2, q1.2, q2.2, fS] <;> rfl) ?_
    simp only [List.drop_succ_cons, List.drop_zero]
    refine zaz 1 rfl ?_
    refine zau (zan ?_)
    refine zge ?_
    refine zan (zai ?_)
    have hfit : Fits (Dev.mk (4 + xhR5) (4 + xhR8) (2 + xhR11) 1) (bs.map Bk.kd) := hzhR43.elim (fun q => q.1) (fun q => by
                                  have h2 := hlnhR43
                                  rw [q.2, List.length_nil] at h2
                                  have hbz : bs.length = 0 := by omega
                                  rw [List.length_eq_zero_iff.1 hbz]; exact zqt _)
    refine zbw 12 [11, 10, 9, 8, 7, 6, 5, 4, 2, 1, 0, 3] rfl rfl (by decide) ?_
    refine zgp (curE g a len cap :: rowE 3 1 v41 zrhR43.length (zrhR43.map (Value.int .i64)) :: boxE b1 #[.int .i64 (4 + xhR5), .int .i64 (4 + xhR8), .int .i64 (2 + xhR11), .int .i64 1] 25 :: boxE b2 #[.int .i64 tl.ins, tl.sv, tl.lv, tl.ov] 30 :: rowE 3 1 v38 ((bs.map Bk.kd).length) ((bs.map Bk.kd).map (Value.int .i64)) :: bigE kp :: rowE 28 1 v27 rs.length (rs.flatMap crowC) :: bigE ds :: bigE ls_ :: boxE b33 #[.int .i64 tl.ins, tl.sv, tl.lv, tl.ov] 30 :: boxE b21 #[.int .i64 m.ins, m.sv, m.av, m.ov] 86 :: bigE qs :: boxE b12 #[.int .i64 (4 + xhR5), .int .i64 (4 + xhR8), .int .i64 (2 + xhR11), .int .i64 1] 25 :: l) zhj ?_
    refine zbw 13 [12, 10, 9, 3, 2, 0, 5, 8] rfl rfl (by decide) ?_
    refine zcz 2 rfl ?_
    refine zbw 7 [6, 5, 4, 3, 2, 0, 1] rfl rfl (by decide) ?_
    refine zcz 2 rfl ?_
    exact zgz (rs := [.cell 2 25, .cell 3 30, .tmp 4]) (vs := [.agg #[.int .i64 (4 + xhR5), .int .i64 (4 + xhR8), .int .i64 (2 + xhR11), .int .i64 1], .agg #[.int .i64 tl.ins, tl.sv, tl.lv, tl.ov], bv]) rfl ⟨⟨b1, 0, [.int .i64 (4 + xhR5), .int .i64 (4 + xhR8), .int .i64 (2 + xhR11), .int .i64 1], rfl, rfl, by kernel_rfl, by kernel_rfl, zaj 1 rfl 0 rfl⟩, ⟨b2, 0, [.int .i64 tl.ins, tl.sv, tl.lv, tl.ov], rfl, rfl, by kernel_rfl, by kernel_rfl, zaj 2 rfl 0 rfl⟩, rfl, trivial⟩ rfl (fun w hm => ⟨_, bigE [curE g a len cap, bigE [bigE ls_, bigE kp]], rfl, ⟨(Dev.mk (4 + xhR5) (4 + xhR8) (2 + xhR11) 1), tl, _, bs, bv, rfl, rfl, fun w hw => ⟨hls w (zbh hw List.mem_cons_self), hkp w (zbh hw (List.mem_cons_of_mem _ List.mem_cons_self))⟩, ⟨o1t, o2t, o3t⟩, o1b, htl, hbo, hb64, hdv9, hfit, hpk h37⟩, hm.sub (.cons_cons _ (.cons _ (.cons _ (.cons _ (.cons _ (.cons _ (.refl _)))))))⟩)
   refine zfe (zcv (reQ 1 rfl (hvQ rfl (vaQ rfl rfl rfl) ?_)))
   have hdv9 : devB (Dev.mk (4 + xhR5) (4 + xhR8) (2 + xhR11) 1) = true := zkm ⟨by omega, by omega⟩ ⟨by omega, by omega⟩ ⟨by omega, by omega⟩
   refine enQ 1 rfl ?_
   refine zbw 12 [11, 10, 9, 8, 7, 6, 5, 4, 3, 2, 0, 1] rfl rfl (by decide) ?_
   refine zgp (curE g a len cap :: rowE 3 1 v41 zrhR43.length (zrhR43.map (Value.int .i64)) :: rowE 3 1 v38 ((bs.map Bk.kd).length) ((bs.map Bk.kd).map (Value.int .i64)) :: bigE kp :: rowE 28 1 v27 rs.length (rs.flatMap crowC) :: bigE ds :: bigE ls_ :: boxE b33 #[.int .i64 tl.ins, tl.sv, tl.lv, tl.ov] 30 :: boxE b21 #[.int .i64 m.ins, m.sv, m.av, m.ov] 86 :: bigE qs :: boxE b12 #[.int .i64 (4 + xhR5), .int .i64 (4 + xhR8), .int .i64 (2 + xhR11), .int .i64 1] 25 :: boxE b2 #[.int .i64 0, .slice none 0 0, .slice none 0 0, .slice none 0 0] 30 :: boxE b1 #[.int .i64 0, .int .i64 0, .int .i64 0, .int .i64 0] 25 :: l) zhj ?_
   refine zbw 13 [0, 12, 11, 10] rfl rfl (by decide) ?_
   exact zcr (t + 1) (by omega) (by omega) (saQ rfl) (.refl _)
  refine zaz 2 rfl (zac ?_)
  refine zby 12 [[], [0], [1], [1], [1], [1], [1], [1], [1], [1], [1], [1, 10]] [44, 45, 46, 47, 48, 49, 50, 51, 52, 53, 54, 55] [.bool false, .bool false, undef, undef, undef, undef, undef, undef, undef, undef, undef, .bool false] (by kernel_rfl) rfl ?_ ?_
  ·
   exact ⟨iaQ rfl (zas rfl) rfl, iaQ rfl (zas rfl) rfl, .inr ⟨rfl, rfl⟩, .inr ⟨rfl, rfl⟩, .inr ⟨rfl, rfl⟩, .inr ⟨rfl, rfl⟩, .inr ⟨rfl, rfl⟩, .inr ⟨rfl, rfl⟩, .inr ⟨rfl, rfl⟩, .inr ⟨rfl, rfl⟩, .inr ⟨rfl, rfl⟩, iaQ rfl (zas rfl) rfl, trivial⟩
  simp only [List.drop_succ_cons, List.drop_zero]
  refine ntQ (fsQ rfl (zcv (reQ 1 rfl (hvQ rfl (vaQ rfl rfl rfl) ?_))))
  have hdv9 : devB (Dev.mk (4 + xhR5) (4 + xhR8) (2 + xhR11) 1) = true := zkm ⟨by omega, by omega⟩ ⟨by omega, by omega⟩ ⟨by omega, by omega⟩
  refine enQ 1 rfl ?_
  refine zbw 11 [7, 10, 9, 8] rfl rfl (by decide) ?_
  exact zcr (t + 1) (by omega) (by omega) (saQ rfl) (.refl _)
 refine ntQ (zal rfl ?_)
 refine zba (zdq ?_)
 refine zag (zaw (srQ (hvQ rfl (zao (cs := [.int .i64 (4 + xhR5), .int .i64 (4 + xhR8), .int .i64 (2 + xhR11), .int .i64 1]) rfl rfl rfl rfl rfl (zaj 0 rfl 0 rfl)) (hvQ rfl (zcw (cs := #[.int .i64 0, .slice none 0 0, .slice none 0 0, .slice none 0 0]) rfl rfl rfl) ?_))))
 refine zdk rfl (zbz (s := 3) rfl Try.underlying31 rfl) ?_
 intro g45
 refine zcc (cs' := #[.int .i64 (4 + xhR5), .int .i64 (4 + xhR8), .int .i64 (2 + xhR11), .int .i64 1]) (i := 3) (off := 0) (us := [.int .i64 (4 + xhR5), .int .i64 (4 + xhR8), .int .i64 (2 + xhR11), .int .i64 1]) rfl rfl rfl rfl rfl rfl rfl (zah rfl (zah rfl (zah rfl (zah rfl zbr)))) rfl rfl rfl (zcc (cs' := #[.int .i64 0, .slice none 0 0, .slice none 0 0, .slice none 0 0]) (i := 2) (off := 0) (us := [.int .i64 0, .slice none 0 0, .slice none 0 0, .slice none 0 0]) rfl rfl rfl rfl rfl rfl rfl (zah rfl (zah rfl (zah rfl (zah rfl zbr)))) rfl rfl rfl ?_)
 refine zaz 1 rfl ?_
 refine zau (zbw 5 [4, 3, 2, 1, 0] rfl rfl (by decide) ?_)
 refine zcz 1 rfl ?_
 refine zbw 5 [3, 2, 1, 0, 4] rfl rfl (by decide) ?_
 refine zcz 2 rfl ?_
 exact zgz (rs := [.cell 2 25, .cell 3 30, .tmp 4]) (vs := [.agg #[.int .i64 (4 + xhR5), .int .i64 (4 + xhR8), .int .i64 (2 + xhR11), .int .i64 1], .agg #[.int .i64 0, .slice none 0 0, .slice none 0 0, .slice none 0 0], .slice (some ⟨g45, 0, none⟩) 0 0]) rfl ⟨⟨b1, 0, [.int .i64 (4 + xhR5), .int .i64 (4 + xhR8), .int .i64 (2 + xhR11), .int .i64 1], rfl, rfl, by kernel_rfl, by kernel_rfl, zaj 3 rfl 0 rfl⟩, ⟨b2, 0, [.int .i64 0, .slice none 0 0, .slice none 0 0, .slice none 0 0], rfl, rfl, by kernel_rfl, by kernel_rfl, zaj 2 rfl 0 rfl⟩, rfl, trivial⟩ rfl (fun w hm => ⟨_, bigE [curE g a len cap, bigE [rowE 39 3 (.slice (some ⟨g45, 0, none⟩) 0 0) 0 ([])]], rfl, ⟨(Dev.mk (4 + xhR5) (4 + xhR8) (2 + xhR11) 1), (Ln.mk 0 (.slice none 0 0) (.slice none 0 0) (.slice none 0 0) [] [] []), _, [], _, rfl, rfl, fun w hw => ⟨zrr w, ⟨zcf (zbh hw List.mem_cons_self), fun b hb => by cases hb⟩⟩, ⟨rfl, rfl, rfl⟩, rfl, ln_nil, (fun b hb => by cases hb), by decide, hdv9, zqt _, pk_nil⟩, hm.sub (.cons_cons _ (.cons _ (.cons _ (.cons _ (.refl _)))))⟩)
theorem znx (a : Option Addr) (len cap : Nat) (z : List Int) (w : World) (hb : BRow .u8 w a len cap z) (hlen : len ≤ 1048576) :
   Calls Try.prog 8 #[.slice a len cap] w (Ret w (fun u_ p_ => ∃ (d : Dev) (n : Ln) (ps : List HP) (bs : List Bk) (bv : Value), u_ = .tuple #[.agg #[.int .i64 d.W, .int .i64 d.H, .int .i64 d.T, .int .i64 d.R], n.agg, bv] ∧ p_ = [bigE ps] ∧ (∀ w, (bigE ps).holds w → RdsLn w n ∧ RdsBk w bv bs) ∧ (n.sv.oneCell' = true ∧ n.lv.oneCell' = true ∧ n.ov.oneCell' = true) ∧ bv.oneCell' = true ∧ LnOk n ∧ BsOk bs ∧ bs.length ≤ 64 ∧ devB d = true ∧ Fits d (bs.map Bk.kd) ∧ PkOk n bs)) := by
 refine zbf (N := 11) (args := [.slice a len cap]) Try.func8 rfl rfl (srQ ?_)
 refine zdj rfl (zbx (z := .agg #[.int .i64 0, .int .i64 0, .int .i64 0, .int .i64 0]) rfl rfl) ?_
 intro b1
 refine zdj rfl (zbx (z := .agg #[.int .i64 0, .slice none 0 0, .slice none 0 0, .slice none 0 0]) rfl rfl) ?_
 intro b2
 refine zaz 1 rfl (zac (reQ 1 rfl ?_))
 refine zfg rfl rfl rfl (zaq rfl rfl (fun w hm => new_ret (hb.below hm.bel) hlen)) ?_
 intro v3 p4 hR5
 obtain ⟨ghR5, rfl, rfl⟩ := hR5
 refine zdt (R := (fun u_ p_ => ∃ (d : Dev) (n : Ln) (ps : List HP) (bs : List Bk) (bv : Value), u_ = .tuple #[.agg #[.int .i64 d.W, .int .i64 d.H, .int .i64 d.T, .int .i64 d.R], n.agg, bv] ∧ p_ = bigE [curE ghR5 a len cap, bigE ps] ∧ (∀ w, (bigE ps).holds w → RdsLn w n ∧ RdsBk w bv bs) ∧ (n.sv.oneCell' = true ∧ n.lv.oneCell' = true ∧ n.ov.oneCell' = true) ∧ bv.oneCell' = true ∧ LnOk n ∧ BsOk bs ∧ bs.length ≤ 64 ∧ devB d = true ∧ Fits d (bs.map Bk.kd) ∧ PkOk n bs)) 0 rfl rfl rfl rfl rfl (fun l' w hm => zne ghR5 a len cap z _ _ _ hm hb) ?_
 intro v6 p7 hR8
 obtain ⟨d, n, dp, bs, bv, rfl, rfl, hdp, ⟨o1, o2, o3⟩, oB, hok, hbo, hb64, hdv, hfit, hpk⟩ := hR8
 refine zev (l' := [bigE [curE ghR5 a len cap, bigE dp], boxE b2 #[.int .i64 0, .slice none 0 0, .slice none 0 0, .slice none 0 0] 30, boxE b1 #[.int .i64 0, .int .i64 0, .int .i64 0, .int .i64 0] 25]) rfl ?_
 refine zap 3 rfl (zcc (cs' := #[.int .i64 d.W, .int .i64 d.H, .int .i64 d.T, .int .i64 d.R]) (i := 2) (off := 0) (us := [.int .i64 d.W, .int .i64 d.H, .int .i64 d.T, .int .i64 d.R]) rfl rfl rfl rfl rfl rfl rfl (zah rfl (zah rfl (zah rfl (zah rfl zbr)))) rfl rfl rfl ?_)
 refine zcc (cs' := #[.int .i64 n.ins, n.sv, n.lv, n.ov]) (i := 1) (off := 0) (us := [.int .i64 n.ins, n.sv, n.lv, n.ov]) rfl rfl rfl rfl rfl rfl rfl (zah rfl (zah o1 (zah o2 (zah o3 zbr)))) rfl rfl rfl (zaz 1 rfl ?_)
 refine zau (zbw 3 [2, 1, 0] rfl rfl (by decide) ?_)
 refine zgp [curE ghR5 a len cap, bigE dp, boxE b2 #[.int .i64 n.ins, n.sv, n.lv, n.ov] 30, boxE b1 #[.int .i64 d.W, .int .i64 d.H, .int .i64 d.T, .int .i64 d.R] 25] zhj ?_
 exact zdm (rs := [.cell 2 25, .cell 3 30, .tmp 4]) (vs := [.agg #[.int .i64 d.W, .int .i64 d.H, .int .i64 d.T, .int .i64 d.R], .agg #[.int .i64 n.ins, n.sv, n.lv, n.ov], bv]) (post := [bigE dp]) rfl ⟨⟨b1, 0, [.int .i64 d.W, .int .i64 d.H, .int .i64 d.T, .int .i64 d.R], rfl, rfl, by kernel_rfl, by kernel_rfl, zaj 3 rfl 0 rfl⟩, ⟨b2, 0, [.int .i64 n.ins, n.sv, n.lv, n.ov], rfl, rfl, by kernel_rfl, by kernel_rfl, zaj 2 rfl 0 rfl⟩, rfl, trivial⟩ rfl (slQ [1] rfl) ⟨d, n, dp, bs, _, rfl, rfl, hdp, ⟨o1, o2, o3⟩, oB, hok, hbo, hb64, hdv, hfit, hpk⟩
open Go.RowKit
theorem zub {n : Ln} {bs : List Bk} {c p : Nat} {W : List Cn} (hw : W.map cx = conA n bs c ++ conB n bs c p) {xs : List Pn} (hx : xs = sinkA n bs ((outNd n (bs.getD c bk0)).getD p 0) bs.length) (h : xs.length = 0) : W.map cx = conA n bs c ++ conB n bs c (p + 1) := by
  rw [hw]; show _ = conA n bs c ++ (conB n bs c p ++ if _ then _ else _)
  rw [if_pos (by rw [← hx]; exact h), List.append_nil]
theorem zqx {n : Ln} {bs : List Bk} {c p : Nat} {W : List Cn} (hw : W.map cx = conA n bs c ++ conB n bs c p) {xs : List Pn} (hx : xs = sinkA n bs ((outNd n (bs.getD c bk0)).getD p 0) bs.length) (h : xs.length ≠ 0) (v : Value) : (W ++ [Cn.mk ((outNd n (bs.getD c bk0)).getD p 0) (c : Int) (p : Int) v xs]).map cx = conA n bs c ++ conB n bs c (p + 1) := by
  rw [List.map_append, hw]; show _ = conA n bs c ++ (conB n bs c p ++ if _ then _ else _)
  rw [if_neg (by rw [← hx]; exact h), List.append_assoc, ← hx]; rfl
theorem zqz {n : Ln} {bs : List Bk} {c p : Nat} {W : List Cn} (hw : W.map cx = conA n bs c ++ conB n bs c p) (h : p = (outNd n (bs.getD c bk0)).length) : W.map cx = conA n bs (c + 1) := by
  rw [hw, h]; rfl
theorem zms {ps : List Int} {x i : Int} {k : Nat} {L ys : List Pn} (hy : ys = L ++ sinkB ps x i k) (h : ps.getD k 0 = x) : ys ++ [Pn.mk i (k : Int)] = L ++ sinkB ps x i (k + 1) := by
  rw [hy]; show _ = L ++ (sinkB ps x i k ++ if _ then _ else _)
  rw [if_pos h, List.append_assoc]
theorem zpq {ps : List Int} {x i : Int} {k : Nat} {L ys : List Pn} (hy : ys = L ++ sinkB ps x i k) (h : ps.getD k 0 ≠ x) : ys = L ++ sinkB ps x i (k + 1) := by
  rw [hy]; show _ = L ++ (sinkB ps x i k ++ if _ then _ else _)
  rw [if_neg h, List.append_nil]
theorem zmu {n : Ln} {bs : List Bk} {x : Int} {ps : List Int} {i k : Nat} {ys : List Pn} (hy : ys = sinkA n bs x i ++ sinkB ps x (i : Int) k) (hp : ps = pinN n (bs.getD i bk0)) (h : k = ps.length) : ys = sinkA n bs x (i + 1) := by
  rw [hy, h, hp]; rfl
theorem zny (n : Ln) (bs : List Bk) (v : Value) (w : World) (hr : RdsLn w n) (hok : LnOk n) (hbk : RdsBk w v bs) (hel : ∀ k, k < bs.length → (bs.getD k bk0).es.length ≤ 100) :
   Calls Try.prog 15 #[.agg #[.int .i64 n.ins, n.sv, n.lv, n.ov], v] w (Ret w (fun u_ p_ => ∃ (ps : List HP) (cs : List Cn), p_ = [bigE ps] ∧ (∀ w, (bigE ps).holds w → RdsCn w u_ cs) ∧ u_.oneCell' = true ∧ cs.length ≤ 2 * bs.length ∧ (cs.length = 0 ∨ cs.map cx = connsK n bs))) := by
 have hso := sml hr.ou
 have hss := hr.sq.small
 have hsl := hr.lt.small
 have hcnt : n.cnt = 1 + n.ins + n.ss.length + n.ls.length := rfl
 have hfst : n.fst = 1 + n.ins + n.ss.length := rfl
 obtain ⟨⟨si0, si1⟩, s2, s3, s4⟩ := hok.sz
 have hbs9 := sml hbk.row
 refine zbf (N := 106) (args := [.agg #[.int .i64 n.ins, n.sv, n.lv, n.ov], v]) Try.func15 rfl rfl (srQ ?_)
 refine zdj rfl (zch rfl rfl) ?_
 intro b1
 refine zaz 1 rfl (srQ ?_)
 refine zdk rfl (zbz (s := 4) rfl Try.underlying34 rfl) ?_
 intro g2
 refine zaz 1 rfl (zeh (hvQ rfl (zao (cs := [.int .i64 n.ins, n.sv, n.lv, n.ov]) rfl rfl rfl rfl rfl (zaj 1 rfl 0 rfl)) (zap 1 rfl ?_)))
 refine zfg rfl rfl rfl (zaq rfl rfl (fun w hm => zsb n bs v w (hr.below hm.bel) hok (hbk.below hm.bel) hel)) ?_
 intro v3 p4 hR5
 obtain ⟨xhR5, rfl, rfl, khR5⟩ := hR5
 refine zap 1 rfl (zca (fun h6 => ?_) (fun h6 => ?_))
 ·
  refine ntQ (zak rfl (zbd 2 rfl ?_))
  refine zau (zai ?_)
  refine zbw 2 [1, 0] rfl rfl (by decide) ?_
  refine zcz 1 rfl ?_
  exact zck (post := [bigE [rowE 44 4 (.slice (some ⟨g2, 0, none⟩) 0 0) 0 ([])]]) rfl rfl (slQ [0] rfl) ⟨_, [], rfl, fun w hw => ⟨zcf (zbh hw List.mem_cons_self), KsR.nil w⟩, rfl, Nat.zero_le _, .inl rfl⟩
 obtain ⟨hb64, hblp⟩ := khR5 (by simpa using h6)
 refine ntQ (zal rfl (zcq (srQ ?_)))
 refine zdk rfl (zbz (s := 1) rfl Try.underlying63 rfl) ?_
 intro g7
 refine zaz 1 rfl (zac (zbd 1 rfl (zax ?_)))
 refine zep _ zfh ?_
 refine zrs (α := Nat) (β := Value) (γ := List CRow) (δ := List HP) [0, 1, 2, 4, 5, 18] rfl (fun b gp rs bp => [bigE bp, rowE 28 1 gp rs.length (rs.flatMap crowC), rowE 44 4 (.slice (some ⟨g2, 0, none⟩) 0 0) 0 ([]), boxE b1 #[.int .i64 n.ins, n.sv, n.lv, n.ov] 30]) (fun b gp rs bp => [(6, gp), (7, .int .i64 (b : Int))]) (fun b gp rs bp => b ≤ bs.length ∧ rs.length = b ∧ (∀ q, q < b → (rs.getD q crow0).xs = pinN n (bs.getD q bk0)) ∧ ∀ w, (bigE bp).holds w → RdsAll w rs) (fun b gp rs bp => bs.length - b) 0 _ [] _ ⟨Nat.zero_le _, rfl, fun q hq => absurd hq (by omega), fun w _ => RdsAll.nil w⟩ (saQ rfl) (pfQ rfl) ?_
 intro b gp rs bp hi8
 obtain ⟨hb, hrl, hrp, hbp⟩ := hi8
 refine zac (zac (reQ 2 rfl (hvQ rfl (lnQ rfl rfl rfl (zab hbk.row)) ?_)))
 refine zbj rfl rfl rfl rfl rfl rfl (fun h9 => ?_) (fun h9 => ?_)
 ·
  refine ntQ (zak rfl (zcq (sbQ ?_)))
  refine zdf rfl 8 [0, 1, 2, 3, 4, 5, 6, 7] (List.take 8 _) (List.drop 8 _) [[], [], [], [], [2, 3], [4], [1, 5], [6]] [27, 28, 29, 30, 31, 32, 33, 34] (fun i_ vs_ v_ p_ => match i_ with | 0 => v_ = gp ∧ p_ = [] | 1 => v_ = .agg #[.int .i64 n.ins, n.sv, n.lv, n.ov] ∧ p_ = [] | 2 => v_ = v ∧ p_ = [] | 3 => v_ = .int .i64 (b : Int) ∧ p_ = [] | 4 => v_ = elP v (((b : Int)).toNat * 3) ∧ p_ = [] | 5 => v_ = .agg #[.int .i64 ((bs.getD b bk0).kd), .int .i64 ((bs.getD b bk0).it), (bs.getD b bk0).bv] ∧ p_ = [] | 6 => (fun v' post => post = [rowE 3 1 v' ((pinN n (bs.getD b bk0))).length (((pinN n (bs.getD b bk0))).map (Value.int .i64))]) v_ p_ | 7 => IsRow 28 1 1 ([(List.getD vs_ 0 undef)]) v_ p_ | _ => True) (List.take_append_drop 8 _).symm (by kernel_rfl) (by kernel_rfl) rfl rfl ?_ ?_
  ·
   refine ⟨?_, ?_, ?_, ?_, ?_, ?_, ?_, ?_, trivial⟩
   ·
    intro vf pf hR
    exact ovQ rfl (zam [6] rfl) (zbg (zas rfl))
   ·
    intro vf pf hR
    exact olQ rfl (zam [2] rfl) (zbg (zao (cs := [.int .i64 n.ins, n.sv, n.lv, n.ov]) rfl rfl rfl rfl rfl (zaj 3 rfl 0 rfl)))
   ·
    intro vf pf hR
    exact ovQ rfl (zam [1] rfl) (zbg (zas rfl))
   ·
    intro vf pf hR
    exact ovQ rfl (zam [7] rfl) (zbg (zas rfl))
   ·
    intro vf pf hR
    have e2 := hR 2 (by decide)
    have e3 := hR 3 (by decide)
    exact olQ rfl (sk 29 (congrArg some e2.1) (sk 30 (congrArg some e3.1) (zaf _))) (zbg (riQ 3 rfl rfl rfl rfl (zab hbk.row)))
   ·
    intro vf pf hR
    have e4 := hR 4 (by decide)
    exact olQ rfl (sk 31 (congrArg some e4.1) (zaf _)) (zbg (zbt (us := [.int .i64 ((bs.getD b bk0).kd), .int .i64 ((bs.getD b bk0).it), (bs.getD b bk0).bv]) rfl rfl rfl rfl (zab hbk.row) (by omega) rfl (zcp bkC 3 (fun _ => rfl) bs bk0 (show b < _ by omega) rfl)))
   ·
    intro vf pf hR
    have e1 := hR 1 (by decide)
    have e5 := hR 5 (by decide)
    exact olQ rfl (sk 28 (congrArg some e1.1) (sk 32 (congrArg some e5.1) (zaf _))) (zaq rfl rfl (fun w hm => ziy n (bs.getD b bk0) w (hr.below hm.bel) hok ((hbk.at (k := b) (by omega)).below hm.bel) (hel b (by omega))))
   intro vf pf hR
   have e6 : (fun v' post => post = [rowE 3 1 v' ((pinN n (bs.getD b bk0))).length (((pinN n (bs.getD b bk0))).map (Value.int .i64))]) (vf 6) (pf 6) := hR 6 (by decide)
   obtain ⟨v10, vE6⟩ : ∃ x, vf 6 = x := ⟨_, rfl⟩
   obtain ⟨p11, pE6⟩ : ∃ x, pf 6 = x := ⟨_, rfl⟩
   have hR12 := e6
   rw [vE6, pE6] at hR12
   subst hR12
   refine Or.inl ⟨rfl, ?_⟩
   exact zci (sk 33 (congrArg some vE6) (zaf _)) (by simp only [pE6, vE6, fS] <;> rfl) (zcy (zfv rfl Try.underlying63 (by kernel_rfl) rfl (fun w hm => (zae 0 rfl w hm).one)) (fun v_ p_ h => by show IsRow 28 1 1 ([(vf 6)]) v_ p_; rw [vE6]; exact h))
  intro vf pf hR
  have e0 := hR 0 (by decide)
  have e6 : (fun v' post => post = [rowE 3 1 v' ((pinN n (bs.getD b bk0))).length (((pinN n (bs.getD b bk0))).map (Value.int .i64))]) (vf 6) (pf 6) := hR 6 (by decide)
  obtain ⟨v10, vE6⟩ : ∃ x, vf 6 = x := ⟨_, rfl⟩
  obtain ⟨p11, pE6⟩ : ∃ x, pf 6 = x := ⟨_, rfl⟩
  have hR12 := e6
  rw [vE6, pE6] at hR12
  subst hR12
  have e7 : IsRow 28 1 1 ([(vf 6)]) (vf 7) (pf 7) := hR 7 (by decide)
  rw [vE6] at e7
  obtain ⟨g13, vE7, pE7⟩ := e7
  have q0 := hR 0 (by decide)
  have q1 := hR 1 (by decide)
  have q2 := hR 2 (by decide)
  have q3 := hR 3 (by decide)
  have q4 := hR 4 (by decide)
  have q5 := hR 5 (by decide)
  refine zco (zbk [24, 18, 7, 6, 5, 4, 2, 1, 0] _ (sk 27 (congrArg some e0.1) (sk 34 (congrArg some vE7) (zaf _))) rfl) (by simp only [pE6, vE6, pE7, vE7, q0.2, q1.2, q2.2, q3.2, q4.2, q5.2, fS] <;> rfl) ?_
  simp only [List.drop_succ_cons, List.drop_zero]
  refine zdn (i := 0) rfl (fun ho14 => ?_)
  refine zcd (i := 3) (z := .slice none 0 0) (bytes := 24) rfl rfl rfl rfl Try.underlying63 (by kernel_rfl) rfl rfl rfl rfl (zae 1 rfl) (zah ho14 zbr) (by first | omega | (simp only [List.length_append, List.length_cons, List.length_nil]; omega)) (zbv rs [(CRow.mk v10 (pinN n (bs.getD b bk0)))]) (zcx crowC rs (CRow.mk v10 (pinN n (bs.getD b bk0))) _ rfl) (fun _ => rfl) ?_
  intro v15
  refine enQ 1 rfl (zcv (reQ 1 rfl (hvQ rfl (vaQ rfl rfl rfl) (enQ 1 rfl ?_))))
  refine zbw 6 [5, 4, 3, 0, 2] rfl rfl (by decide) ?_
  refine zcz 2 rfl ?_
  exact zct (b + 1) v15 (rs ++ [(CRow.mk v10 (pinN n (bs.getD b bk0)))]) [bigE bp, rowE 3 1 v10 ((pinN n (bs.getD b bk0)).length) ((pinN n (bs.getD b bk0)).map (Value.int .i64))] ⟨by omega, by rw [List.length_append, List.length_singleton]; omega, fun q hq => by by_cases e : q < rs.length; (rw [zen e]; exact hrp q (by omega)); (obtain rfl : q = rs.length := by omega); (rw [zeo (Nat.le_refl _), Nat.sub_self, hrl]; rfl), fun w hw => RdsAll.cons (u := CRow.mk v10 (pinN n (bs.getD b bk0))) (hbp w (zbh hw List.mem_cons_self)) (zcf (zbh hw (List.mem_cons_of_mem _ List.mem_cons_self))) (fun q hq => (List.mem_append.1 hq).elim .inr (fun h => .inl (List.mem_singleton.1 h)))⟩ (by omega) (saQ rfl) (pfQ rfl)
 refine ntQ (zal rfl ?_)
 refine zba (zdq ?_)
 refine zag (zaw (zac (zbd 1 rfl (zax ?_))))
 refine zep _ zfh ?_
 refine zgn (α := Nat) (β := Value × List Cn) (γ := List HP) [0, 1, 2, 4, 6, 18, 24] rfl (fun c U ps => [bigE ps, bigE bp, rowE 28 1 gp rs.length (rs.flatMap crowC), rowE 44 4 U.1 U.2.length (U.2.flatMap cnC), boxE b1 #[.int .i64 n.ins, n.sv, n.lv, n.ov] 30]) (fun c U ps => [(5, U.1), (8, .int .i64 (c : Int))]) (fun c U ps => c ≤ bs.length ∧ U.2.length ≤ 2 * c ∧ U.2.map cx = conA n bs c ∧ ∀ w, (bigE ps).holds w → KsR w U.2) (fun c U ps => bs.length - c) 0 (_, []) _ ⟨Nat.zero_le _, Nat.zero_le _, rfl, fun w _ => KsR.nil w⟩ (saQ rfl) (pfQ rfl) ?_
 intro c U ps hi16
 obtain ⟨hc, hul, huq, huk⟩ := hi16
 refine zac (zac (reQ 2 rfl (hvQ rfl (lnQ rfl rfl rfl (zab hbk.row)) ?_)))
 refine zbj rfl rfl rfl rfl rfl rfl (fun h17 => ?_) (fun h17 => ?_)
 ·
  refine ntQ (zak rfl (zcq (sbQ (zac ?_))))
  refine zdf rfl 6 [0, 1, 2, 3, 4, 5] (List.take 6 _) (List.drop 6 _) [[], [], [], [1, 2], [3], [0, 4]] [42, 43, 44, 45, 46, 47] (fun i_ vs_ v_ p_ => match i_ with | 0 => v_ = .agg #[.int .i64 n.ins, n.sv, n.lv, n.ov] ∧ p_ = [] | 1 => v_ = v ∧ p_ = [] | 2 => v_ = .int .i64 (c : Int) ∧ p_ = [] | 3 => v_ = elP v (((c : Int)).toNat * 3) ∧ p_ = [] | 4 => v_ = .agg #[.int .i64 ((bs.getD c bk0).kd), .int .i64 ((bs.getD c bk0).it), (bs.getD c bk0).bv] ∧ p_ = [] | 5 => (fun v' post => post = [rowE 3 1 v' ((outNd n (bs.getD c bk0))).length (((outNd n (bs.getD c bk0))).map (Value.int .i64))]) v_ p_ | _ => True) (List.take_append_drop 6 _).symm (by kernel_rfl) (by kernel_rfl) rfl rfl ?_ ?_
  ·
   refine ⟨?_, ?_, ?_, ?_, ?_, ?_, trivial⟩
   ·
    intro vf pf hR
    exact olQ rfl (zam [2] rfl) (zbg (zao (cs := [.int .i64 n.ins, n.sv, n.lv, n.ov]) rfl rfl rfl rfl rfl (zaj 4 rfl 0 rfl)))
   ·
    intro vf pf hR
    exact ovQ rfl (zam [1] rfl) (zbg (zas rfl))
   ·
    intro vf pf hR
    exact ovQ rfl (zam [8] rfl) (zbg (zas rfl))
   ·
    intro vf pf hR
    have e1 := hR 1 (by decide)
    have e2 := hR 2 (by decide)
    exact olQ rfl (sk 43 (congrArg some e1.1) (sk 44 (congrArg some e2.1) (zaf _))) (zbg (riQ 3 rfl rfl rfl rfl (zab hbk.row)))
   ·
    intro vf pf hR
    have e3 := hR 3 (by decide)
    exact olQ rfl (sk 45 (congrArg some e3.1) (zaf _)) (zbg (zbt (us := [.int .i64 ((bs.getD c bk0).kd), .int .i64 ((bs.getD c bk0).it), (bs.getD c bk0).bv]) rfl rfl rfl rfl (zab hbk.row) (by omega) rfl (zcp bkC 3 (fun _ => rfl) bs bk0 (show c < _ by omega) rfl)))
   intro vf pf hR
   have e0 := hR 0 (by decide)
   have e4 := hR 4 (by decide)
   exact olQ rfl (sk 42 (congrArg some e0.1) (sk 46 (congrArg some e4.1) (zaf _))) (zaq rfl rfl (fun w hm => znw n (bs.getD c bk0) w (hr.below hm.bel) hok ((hbk.at (k := c) (by omega)).below hm.bel) (hel c (by omega))))
  intro vf pf hR
  have e5 : (fun v' post => post = [rowE 3 1 v' ((outNd n (bs.getD c bk0))).length (((outNd n (bs.getD c bk0))).map (Value.int .i64))]) (vf 5) (pf 5) := hR 5 (by decide)
  obtain ⟨v18, vE5⟩ : ∃ x, vf 5 = x := ⟨_, rfl⟩
  obtain ⟨p19, pE5⟩ : ∃ x, pf 5 = x := ⟨_, rfl⟩
  have hR20 := e5
  rw [vE5, pE5] at hR20
  subst hR20
  have q0 := hR 0 (by decide)
  have q1 := hR 1 (by decide)
  have q2 := hR 2 (by decide)
  have q3 := hR 3 (by decide)
  have q4 := hR 4 (by decide)
  refine zco (zbk [39, 24, 18, 8, 6, 5, 4, 2, 1, 0] _ (sk 47 (congrArg some vE5) (zaf _)) rfl) (by simp only [pE5, vE5, q0.2, q1.2, q2.2, q3.2, q4.2, fS] <;> rfl) ?_
  simp only [List.drop_succ_cons, List.drop_zero]
  refine zaz 1 rfl (srQ ?_)
  have hol9 := zjv (hblp c (by omega))
  refine zaz 1 rfl (zax ?_)
  refine zgn (α := Nat) (β := Value × List Cn) (γ := List HP) [0, 1, 2, 4, 6, 8, 9, 18, 24, 39] rfl (fun p W qs => [rowE 3 1 v18 ((outNd n (bs.getD c bk0)).length) ((outNd n (bs.getD c bk0)).map (Value.int .i64)), bigE qs, bigE bp, rowE 28 1 gp rs.length (rs.flatMap crowC), rowE 44 4 W.1 W.2.length (W.2.flatMap cnC), boxE b1 #[.int .i64 n.ins, n.sv, n.lv, n.ov] 30]) (fun p W qs => [(5, W.1), (10, .int .i64 (p : Int))]) (fun p W qs => p ≤ (outNd n (bs.getD c bk0)).length ∧ W.2.length ≤ 2 * c + p ∧ W.2.map cx = conA n bs c ++ conB n bs c p ∧ ∀ w, (bigE qs).holds w → KsR w W.2) (fun p W qs => (outNd n (bs.getD c bk0)).length - p) 0 U ps ⟨Nat.zero_le _, by omega, huq.trans (List.append_nil _).symm, huk⟩ (saQ rfl) (pfQ rfl) ?_
  intro p W qs hi21
  obtain ⟨hp, hvl, hvq, hvk⟩ := hi21
  refine zac (zac (reQ 2 rfl (hvQ rfl (lnQ rfl rfl rfl (zae 0 rfl)) ?_)))
  refine zbj rfl rfl rfl rfl rfl rfl (fun h22 => ?_) (fun h22 => ?_)
  ·
   refine ntQ (zak rfl (zcq (sbQ (zac (reQ 2 rfl (hvQ rfl (riQ 1 rfl rfl rfl rfl (zae 0 rfl)) (hvQ rfl (zar (u := .int .i64 ((outNd n (bs.getD c bk0)).getD p 0)) rfl rfl rfl (zae 0 rfl) (zbn (show _ < (outNd n (bs.getD c bk0)).length by omega))) (zap 2 rfl ?_))))))))
   refine hvQ rfl (zcw (cs := #[.int .i64 (c : Int), .int .i64 (p : Int)]) rfl rfl rfl) (hvQ rfl (zcw (cs := #[.int .i64 ((outNd n (bs.getD c bk0)).getD p 0), .int .i64 (c : Int), .int .i64 (p : Int), .slice none 0 0]) rfl rfl rfl) ?_)
   refine zdj rfl (zbx (z := .agg #[.int .i64 0, .int .i64 0, .int .i64 0, .slice none 0 0]) rfl rfl) ?_
   intro b23
   refine zcc (cs' := #[.int .i64 ((outNd n (bs.getD c bk0)).getD p 0), .int .i64 (c : Int), .int .i64 (p : Int), .slice none 0 0]) (i := 0) (off := 0) (us := [.int .i64 ((outNd n (bs.getD c bk0)).getD p 0), .int .i64 (c : Int), .int .i64 (p : Int), .slice none 0 0]) rfl rfl rfl rfl rfl rfl rfl (zah rfl (zah rfl (zah rfl (zah rfl zbr)))) rfl rfl rfl (ntQ (zac (zbd 1 rfl (zax ?_))))
   refine zep [rowE 41 2 (.slice none 0 0) (([] : List Pn).length) (([] : List Pn).flatMap pnC), boxE b23 #[.int .i64 ((outNd n (bs.getD c bk0)).getD p 0), .int .i64 (c : Int), .int .i64 (p : Int), .slice none 0 0] 44, rowE 3 1 v18 ((outNd n (bs.getD c bk0)).length) ((outNd n (bs.getD c bk0)).map (Value.int .i64)), bigE qs, bigE bp, rowE 28 1 gp rs.length (rs.flatMap crowC), rowE 44 4 W.1 W.2.length (W.2.flatMap cnC), boxE b1 #[.int .i64 n.ins, n.sv, n.lv, n.ov] 30] (fun w hm => hm.nilRow 41 2) ?_
   refine zgn (α := Nat) (β := Value) (γ := List Pn) [0, 1, 2, 4, 5, 6, 8, 9, 10, 11, 18, 24, 39, 51] rfl (fun i ui xs => [rowE 41 2 ui xs.length (xs.flatMap pnC), boxE b23 #[.int .i64 ((outNd n (bs.getD c bk0)).getD p 0), .int .i64 (c : Int), .int .i64 (p : Int), ui] 44, rowE 3 1 v18 ((outNd n (bs.getD c bk0)).length) ((outNd n (bs.getD c bk0)).map (Value.int .i64)), bigE qs, bigE bp, rowE 28 1 gp rs.length (rs.flatMap crowC), rowE 44 4 W.1 W.2.length (W.2.flatMap cnC), boxE b1 #[.int .i64 n.ins, n.sv, n.lv, n.ov] 30]) (fun i ui xs => [(12, .int .i64 (i : Int))]) (fun i ui xs => i ≤ bs.length ∧ xs.length ≤ 5 * i ∧ xs = sinkA n bs ((outNd n (bs.getD c bk0)).getD p 0) i) (fun i ui xs => bs.length - i) 0 _ [] ⟨Nat.zero_le _, Nat.zero_le _, rfl⟩ (saQ rfl) (pfQ rfl) ?_
   intro i ui xs hi24
   obtain ⟨hi, hxl, hxq⟩ := hi24
   refine zac (zac (reQ 2 rfl (hvQ rfl (lnQ rfl rfl rfl (zae 5 rfl)) ?_)))
   refine zbj rfl rfl rfl rfl rfl rfl (fun h25 => ?_) (fun h25 => ?_)
   ·
    refine ntQ (zak rfl (zcq (sbQ (zbd 1 rfl ?_))))
    refine zax ?_
    refine zgn (α := Nat) (β := Value) (γ := List Pn) [0, 1, 2, 4, 5, 6, 8, 9, 10, 11, 12, 18, 24, 39, 51, 65] rfl (fun k uk ys => [rowE 41 2 uk ys.length (ys.flatMap pnC), boxE b23 #[.int .i64 ((outNd n (bs.getD c bk0)).getD p 0), .int .i64 (c : Int), .int .i64 (p : Int), uk] 44, rowE 3 1 v18 ((outNd n (bs.getD c bk0)).length) ((outNd n (bs.getD c bk0)).map (Value.int .i64)), bigE qs, bigE bp, rowE 28 1 gp rs.length (rs.flatMap crowC), rowE 44 4 W.1 W.2.length (W.2.flatMap cnC), boxE b1 #[.int .i64 n.ins, n.sv, n.lv, n.ov] 30]) (fun k uk ys => [(13, .int .i64 (k : Int))]) (fun k uk ys => k ≤ (rs.getD i crow0).xs.length ∧ ys.length ≤ 5 * i + k ∧ ys = sinkA n bs ((outNd n (bs.getD c bk0)).getD p 0) i ++ sinkB (rs.getD i crow0).xs ((outNd n (bs.getD c bk0)).getD p 0) (i : Int) k) (fun k uk ys => (rs.getD i crow0).xs.length - k) 0 _ xs ⟨Nat.zero_le _, by omega, hxq.trans (List.append_nil _).symm⟩ (saQ rfl) (pfQ rfl) ?_
    intro k uk ys hi26
    obtain ⟨hk, hyl, hyq⟩ := hi26
    refine zeh ?_
    have hpl9 := zlo hok (hblp i (by omega))
    rw [← hrp i (by omega)] at hpl9
    refine zap 3 rfl (hvQ rfl (riQ 1 rfl rfl rfl rfl (zae 5 rfl)) ?_)
    refine hvQ rfl (zar (u := (rs.getD i crow0).v) rfl rfl rfl (zae 5 rfl) (zcu crowC (fun r => r.v) (fun _ => rfl) rs crow0 (show i < _ by omega))) (hvQ rfl (lnQ rfl rfl rfl (fun w hm => (hbp w (hm.holds _ (zcn (i := 4) rfl))).at (k := i) (by omega))) ?_)
    refine zbj rfl rfl rfl rfl rfl rfl (fun h27 => ?_) (fun h27 => ?_)
    ·
     refine ntQ (zak rfl (zcq (sbQ (zac ?_))))
     rcases Bool.eq_false_or_eq_true ((((rs.getD i crow0).xs).getD k 0) == ((outNd n (bs.getD c bk0)).getD p 0)) with hb28 | hb28
     ·
      have hb28p : ((rs.getD i crow0).xs).getD k 0 = (outNd n (bs.getD c bk0)).getD p 0 := beq_iff_eq.1 hb28
      refine zby 12 [[], [], [0, 1], [2], [], [3, 4], [5], [], [], [7, 8], [9], [6, 10]] [77, 78, 79, 80, 81, 82, 83, 84, 85, 86, 87, 88] [gp, .int .i64 (i : Int), elP gp (((i : Int)).toNat * 1), (rs.getD i crow0).v, .int .i64 (k : Int), elP ((rs.getD i crow0).v) (((k : Int)).toNat * 1), .int .i64 (((rs.getD i crow0).xs).getD k 0), v18, .int .i64 (p : Int), elP v18 (((p : Int)).toNat * 1), .int .i64 ((outNd n (bs.getD c bk0)).getD p 0), .bool true] (by kernel_rfl) rfl ?_ ?_
      ·
       exact ⟨iaQ rfl (zas rfl) rfl, iaQ rfl (zas rfl) rfl, iaQ rfl (riQ 1 rfl rfl rfl rfl (zae 5 rfl)) rfl, iaQ rfl (zar (u := (rs.getD i crow0).v) rfl rfl rfl (zae 5 rfl) (zcu crowC (fun r => r.v) (fun _ => rfl) rs crow0 (show i < _ by omega))) rfl, iaQ rfl (zas rfl) rfl, iaQ rfl (riQ 1 rfl rfl rfl rfl (fun w hm => (hbp w (hm.holds _ (zcn (i := 4) rfl))).at (k := i) (by omega))) rfl, iaQ rfl (zar (u := .int .i64 (((rs.getD i crow0).xs).getD k 0)) rfl rfl rfl (fun w hm => (hbp w (hm.holds _ (zcn (i := 4) rfl))).at (k := i) (by omega)) (zbn (show _ < ((rs.getD i crow0).xs).length by omega))) rfl, iaQ rfl (zas rfl) rfl, iaQ rfl (zas rfl) rfl, iaQ rfl (riQ 1 rfl rfl rfl rfl (zae 2 rfl)) rfl, iaQ rfl (zar (u := .int .i64 ((outNd n (bs.getD c bk0)).getD p 0)) rfl rfl rfl (zae 2 rfl) (zbn (show _ < (outNd n (bs.getD c bk0)).length by omega))) rfl, .inl ⟨rfl, zek (zde rfl rfl rfl rfl) hb28⟩, trivial⟩
      simp only [List.drop_succ_cons, List.drop_zero]
      refine (zbu (zaw (zak rfl (zay (hvQ rfl (fdQ 3 rfl rfl rfl) (hvQ rfl (zad rfl rfl rfl (zaa 1 rfl rfl)) (zap 2 rfl (hvQ rfl (zcw (cs := #[.int .i64 (i : Int), .int .i64 (k : Int)]) rfl rfl rfl) ?_))))))))
      refine zdk rfl (zat (z := .agg #[.int .i64 0, .int .i64 0]) (s := 2) (cs := ([(i : Int), (k : Int)].map (Value.int .i64))) rfl Try.underlying42 rfl (by decide) rfl (by kernel_rfl) rfl) ?_
      intro g29
      refine zcd (i := 1) (z := .agg #[.int .i64 0, .int .i64 0]) (bytes := 16) rfl rfl rfl rfl Try.underlying42 (by kernel_rfl) rfl rfl rfl rfl (zae 0 rfl) (zbm _) (by first | omega | (simp only [List.length_append, List.length_cons, List.length_nil]; omega)) (zbv ys [(Pn.mk (i : Int) (k : Int))]) (zcx pnC ys (Pn.mk (i : Int) (k : Int)) _ rfl) (fun _ => rfl) ?_
      intro v30
      refine hvQ rfl (fdQ 3 rfl rfl rfl) (zdn (i := 1) rfl (fun ho31 => ?_))
      refine zez (i := 2) (cs' := #[.int .i64 ((outNd n (bs.getD c bk0)).getD p 0), .int .i64 (c : Int), .int .i64 (p : Int), v30]) rfl rfl rfl rfl rfl rfl ho31 rfl rfl rfl rfl (zbu (zcv (reQ 1 rfl (hvQ rfl (vaQ rfl rfl rfl) (enQ 1 rfl ?_)))))
      exact zbi (k + 1) v30 (ys ++ [(Pn.mk (i : Int) (k : Int))]) ⟨by omega, by (try rw [List.length_append, List.length_singleton]); omega, zms hyq (by assumption)⟩ (by omega) (saQ rfl) (slQ [1, 0, 0, 0, 0, 0, 0, 0] rfl)
     have hb28p : ((rs.getD i crow0).xs).getD k 0 ≠ (outNd n (bs.getD c bk0)).getD p 0 := beq_eq_false_iff_ne.1 hb28
     refine zby 12 [[], [], [0, 1], [2], [], [3, 4], [5], [], [], [7, 8], [9], [6, 10]] [77, 78, 79, 80, 81, 82, 83, 84, 85, 86, 87, 88] [gp, .int .i64 (i : Int), elP gp (((i : Int)).toNat * 1), (rs.getD i crow0).v, .int .i64 (k : Int), elP ((rs.getD i crow0).v) (((k : Int)).toNat * 1), .int .i64 (((rs.getD i crow0).xs).getD k 0), v18, .int .i64 (p : Int), elP v18 (((p : Int)).toNat * 1), .int .i64 ((outNd n (bs.getD c bk0)).getD p 0), .bool false] (by kernel_rfl) rfl ?_ ?_
     ·
      exact ⟨iaQ rfl (zas rfl) rfl, iaQ rfl (zas rfl) rfl, iaQ rfl (riQ 1 rfl rfl rfl rfl (zae 5 rfl)) rfl, iaQ rfl (zar (u := (rs.getD i crow0).v) rfl rfl rfl (zae 5 rfl) (zcu crowC (fun r => r.v) (fun _ => rfl) rs crow0 (show i < _ by omega))) rfl, iaQ rfl (zas rfl) rfl, iaQ rfl (riQ 1 rfl rfl rfl rfl (fun w hm => (hbp w (hm.holds _ (zcn (i := 4) rfl))).at (k := i) (by omega))) rfl, iaQ rfl (zar (u := .int .i64 (((rs.getD i crow0).xs).getD k 0)) rfl rfl rfl (fun w hm => (hbp w (hm.holds _ (zcn (i := 4) rfl))).at (k := i) (by omega)) (zbn (show _ < ((rs.getD i crow0).xs).length by omega))) rfl, iaQ rfl (zas rfl) rfl, iaQ rfl (zas rfl) rfl, iaQ rfl (riQ 1 rfl rfl rfl rfl (zae 2 rfl)) rfl, iaQ rfl (zar (u := .int .i64 ((outNd n (bs.getD c bk0)).getD p 0)) rfl rfl rfl (zae 2 rfl) (zbn (show _ < (outNd n (bs.getD c bk0)).length by omega))) rfl, .inl ⟨rfl, zek (zde rfl rfl rfl rfl) hb28⟩, trivial⟩
     simp only [List.drop_succ_cons, List.drop_zero]
     refine ntQ (fsQ rfl (zcv (reQ 1 rfl (hvQ rfl (vaQ rfl rfl rfl) (enQ 1 rfl ?_)))))
     exact zbi (k + 1) uk ys ⟨by omega, by (try rw [List.length_append, List.length_singleton]); omega, zpq hyq (by assumption)⟩ (by omega) (saQ rfl) (pfQ rfl)
    refine ntQ (zal rfl ?_)
    refine zba (zdq ?_)
    refine zag (zcv (reQ 1 rfl (hvQ rfl (vaQ rfl rfl rfl) (enQ 1 rfl ?_))))
    exact zbi (i + 1) uk ys ⟨by omega, by omega, zmu hyq (hrp i (by omega)) (by omega)⟩ (by omega) (saQ rfl) (pfQ rfl)
   refine ntQ (zal rfl ?_)
   refine zba (zdq ?_)
   refine zag (zaw (srQ (hvQ rfl (fdQ 3 rfl rfl rfl) (hvQ rfl (zad rfl rfl rfl (zaa 1 rfl rfl)) (hvQ rfl (lnQ rfl rfl rfl (zae 0 rfl)) ?_)))))
   refine zet rfl rfl rfl rfl rfl rfl (fun h32 => ?_) (fun h32 => ?_)
   ·
    refine (zbu (zaw (zak rfl (zay (zap 1 rfl (hvQ rfl (zao (cs := [.int .i64 ((outNd n (bs.getD c bk0)).getD p 0), .int .i64 (c : Int), .int .i64 (p : Int), ui]) rfl rfl rfl rfl rfl (zaj 1 rfl 0 rfl)) ?_))))))
    refine zdk rfl (zat (z := .agg #[.int .i64 0, .int .i64 0, .int .i64 0, .slice none 0 0]) (s := 4) (cs := [.int .i64 ((outNd n (bs.getD c bk0)).getD p 0), .int .i64 (c : Int), .int .i64 (p : Int), ui]) rfl Try.underlying34 rfl (by decide) rfl (by kernel_rfl) rfl) ?_
    intro g33
    refine zdn (i := 1) rfl (fun ho34 => ?_)
    refine zcd (i := 7) (z := .agg #[.int .i64 0, .int .i64 0, .int .i64 0, .slice none 0 0]) (bytes := 48) rfl rfl rfl rfl Try.underlying34 (by kernel_rfl) rfl rfl rfl rfl (zae 0 rfl) (zah rfl (zah rfl (zah rfl (zah ho34 zbr)))) (by first | omega | (simp only [List.length_append, List.length_cons, List.length_nil]; omega)) (zbv W.2 [(Cn.mk ((outNd n (bs.getD c bk0)).getD p 0) (c : Int) (p : Int) ui xs)]) (zcx cnC W.2 (Cn.mk ((outNd n (bs.getD c bk0)).getD p 0) (c : Int) (p : Int) ui xs) _ rfl) (fun _ => rfl) ?_
    intro v35
    refine enQ 1 rfl (zcv (reQ 1 rfl (hvQ rfl (vaQ rfl rfl rfl) ?_)))
    have hol9 := zjv (hblp c (by omega))
    refine enQ 1 rfl ?_
    refine zbw 9 [8, 7, 6, 5, 3, 1, 4] rfl rfl (by decide) ?_
    refine zcz 2 rfl ?_
    refine zbw 6 [5, 4, 3, 2, 0, 1] rfl rfl (by decide) ?_
    exact zbi (p + 1) (v35, W.2 ++ [(Cn.mk ((outNd n (bs.getD c bk0)).getD p 0) (c : Int) (p : Int) ui xs)]) [bigE qs, rowE 41 2 ui xs.length (xs.flatMap pnC)] ⟨by omega, by show List.length (_ ++ [_]) ≤ _; rw [List.length_append, List.length_singleton]; omega, zqx (xs := xs) hvq (by rw [hxq, show i = bs.length by omega]) (by omega) _, fun w hw => (hvk w (zbh hw List.mem_cons_self)).app (zcf (zbh hw (List.mem_cons_of_mem _ List.mem_cons_self)))⟩ (by omega) (saQ rfl) (pfQ rfl)
   refine ntQ (fsQ rfl (zcv (reQ 1 rfl (hvQ rfl (vaQ rfl rfl rfl) ?_))))
   have hol9 := zjv (hblp c (by omega))
   refine enQ 1 rfl ?_
   exact zbi (p + 1) (W.1, W.2) qs ⟨by omega, by show (W.2).length ≤ _; omega, zub (xs := xs) hvq (by rw [hxq, show i = bs.length by omega]) (by omega), hvk⟩ (by omega) (saQ rfl) (slQ [2, 0, 0, 0, 0, 0] rfl)
  refine ntQ (zal rfl ?_)
  refine zba (zdq ?_)
  refine zag (zcv (reQ 1 rfl (hvQ rfl (vaQ rfl rfl rfl) (enQ 1 rfl ?_))))
  exact zbi (c + 1) (W.1, W.2) qs ⟨by omega, by show (W.2).length ≤ _; omega, zqz hvq (by omega), by assumption⟩ (by omega) (saQ rfl) (slQ [1, 0, 0, 0, 0] rfl)
 refine ntQ (zal rfl ?_)
 refine zba (zdq ?_)
 refine zag (zaw (zbd 2 rfl ?_))
 refine zau (zed (fun w hm => (zae 3 rfl w hm).one) (fun ho => ?_))
 refine zbw 5 [4, 2, 1, 0, 3] rfl rfl (by decide) ?_
 refine zcz 2 rfl ?_
 exact zck (post := [bigE [rowE 44 4 U.1 U.2.length (U.2.flatMap cnC), bigE ps]]) rfl rfl (slQ [0] rfl) ⟨_, U.2, rfl, fun w hw => ⟨zcf (zbh hw List.mem_cons_self), huk w (zbh hw (List.mem_cons_of_mem _ List.mem_cons_self))⟩, ho, by omega, .inr (huq.trans (by rw [show c = bs.length by omega]; rfl))⟩
def mvG (t pb x : Int) : Int := if x = t then pb else x
def mvL (zs : List Int) (b : Nat) (t : Int) : List Int := (zs.map (mvG t (zs.getD b 0))).set b t
theorem znn {xs : List Int} {x : Int} : hasB xs x = true ↔ x ∈ xs := by unfold hasB; exact List.contains_iff_mem
theorem zmk (xs : List Int) (v : Value) (w : World) (hv : RdsW w v 1 xs.length (xs.map (Value.int .i64))) (hlen : xs.length ≤ 1000000000) :
   Calls Try.prog 47 #[v] w (Ret w (fun v' post => post = [rowE 3 1 v' (xs).length ((xs).map (Value.int .i64))])) := by
 refine zbf (N := 6) (args := [v]) Try.func47 rfl rfl (zbd 1 rfl (srQ ?_))
 refine zdk rfl (zbz (s := 1) rfl Try.underlying28 rfl) ?_
 intro g1
 refine zap 1 rfl (zcd (i := 0) (z := .int .i64 0) (bytes := 8) (n' := xs.length) (xs' := (xs.map (Value.int .i64))) rfl rfl rfl rfl Try.underlying28 (by kernel_rfl) rfl rfl rfl rfl (zab hv) (zbm _) (by first | omega | (simp; done) | (simp; omega)) (Nat.zero_add _) (List.nil_append _) (fun _ => rfl) ?_)
 intro v2
 refine zaz 1 rfl ?_
 exact zau (zck (post := [rowE 3 1 v2 xs.length (xs.map (Value.int .i64))]) rfl rfl (pfQ rfl) rfl)
theorem zpd (xs : List Int) (x : Int) (v : Value) (w : World) (hv : RdsW w v 1 xs.length (xs.map (Value.int .i64))) (hlen : xs.length ≤ 1000000000) :
   Calls Try.prog 43 #[v, .int .i64 x] w (Ans w (.bool (hasB xs x))) := by
 refine zbf (N := 17) (args := [v, .int .i64 x]) Try.func43 rfl rfl (zbd 1 rfl (zac (zac (reQ 1 rfl (hvQ rfl (lnQ rfl rfl rfl (zab hv)) (zap 1 rfl (?_)))))))
 refine ntQ (zax ?_)
 refine zka (α := Nat) [0, 1, 4, 7, 8] rfl (fun j => []) (fun j => [(9, .int .i64 (j : Int))]) (fun j => j ≤ xs.length ∧ ∀ q, q < j → xs.getD q 0 ≠ x) (fun j => xs.length - j) 0 ⟨Nat.zero_le _, fun q hq => absurd hq (by omega)⟩ (saQ rfl) (.slnil) ?_
 intro j hi1
 obtain ⟨hj, hall⟩ := hi1
 refine srQ ?_
 refine zbj rfl rfl rfl rfl rfl rfl (fun h2 => ?_) (fun h2 => ?_)
 ·
  refine ntQ (tcQ rfl (zcq (sbQ (srQ (hvQ rfl (riQ 1 rfl rfl rfl rfl (zab hv)) (hvQ rfl (liQ rfl rfl rfl (zab hv)) (zap 1 rfl ?_)))))))
  refine ntQ (zac (reQ 2 rfl ?_))
  refine zbp rfl rfl rfl rfl rfl rfl (fun h3 => ?_) (fun h3 => ?_)
  ·
   refine ntQ (zak rfl (zbd 1 rfl ?_))
   refine zau (zan ?_)
   refine zge ?_
   refine zan (zai ?_)
   exact zbb rfl rfl (congrArg _ (znn.2 (by have h9 := zey (es := xs) (d := 0) (show j < xs.length by omega); rwa [show xs.getD j 0 = x by assumption] at h9)).symm)
  refine ntQ (fsQ rfl (zcv (zay (hvQ rfl (vaQ rfl rfl rfl) (enQ 1 rfl ?_)))))
  exact zcr (j + 1) ⟨by omega, fun q hq => by by_cases e : q = j; (subst e; assumption); exact hall q (by omega)⟩ (by omega) (saQ rfl) (.slnil)
 refine ntQ (fcQ rfl ?_)
 refine zba (zdq ?_)
 refine zag (zaw (zbd 1 rfl ?_))
 exact zau (zbb rfl rfl (congrArg _ (Bool.eq_false_iff.2 (fun h9 => by obtain ⟨q, hq, e⟩ := List.mem_iff_getElem.1 (znn.1 h9); exact hall q (by omega) (by rw [List.getD_eq_getElem?_getD, List.getElem?_eq_getElem hq]; exact e))).symm))
def liA (xs : List Int) : Nat → List Int
  | 0 => []
  | k + 1 => if xs.getD k 0 = 0 then liA xs k else insI (liA xs k) (xs.getD k 0)
theorem zti {xs : List Int} {k : Nat} (h : xs.getD k 0 ≠ 0) : insI (liA xs k) (xs.getD k 0) = liA xs (k + 1) := (if_neg h).symm
theorem zwk {xs : List Int} {k : Nat} (h : xs.getD k 0 = 0) : liA xs k = liA xs (k + 1) := (if_pos h).symm
theorem zqk {xs : List Int} (h : ∀ k, k < xs.length → 0 ≤ xs.getD k 0) : ∀ k, k ≤ xs.length → (liA xs k).Pairwise (· < ·) ∧ (∀ x, x ∈ liA xs k ↔ x ∈ xs.take k ∧ 0 < x) ∧ (liA xs k).length ≤ k
  | 0, _ => ⟨.nil, fun x => by simp [liA], Nat.le_refl _⟩
  | k + 1, hk => by
    obtain ⟨h1, h2, h3⟩ := zqk h k (by omega)
    have h0 := h k (by omega)
    rw [zdb 0 (show k < xs.length by omega)]
    unfold liA; split
    · rename_i e
      refine ⟨h1, fun x => ?_, by omega⟩
      rw [h2 x, List.mem_append, List.mem_singleton]
      exact ⟨fun ⟨a, b⟩ => ⟨.inl a, b⟩, fun ⟨a, b⟩ => ⟨a.resolve_right (by omega), b⟩⟩
    · rename_i e
      refine ⟨zke _ _ h1, fun x => ?_, by have := zkz (liA xs k) (xs.getD k 0); omega⟩
      rw [zlz, h2 x, List.mem_append, List.mem_singleton]
      constructor
      · rintro (rfl | ⟨a, b⟩)
        · exact ⟨.inr rfl, by omega⟩
        · exact ⟨.inl a, b⟩
      · rintro ⟨a | rfl, b⟩
        · exact .inr ⟨a, b⟩
        · exact .inl rfl
theorem zwl {xs : List Int} (h : ∀ k, k < xs.length → 0 ≤ xs.getD k 0) : liA xs xs.length = setK xs [] := by
  obtain ⟨h1, h2, -⟩ := zqk h xs.length (Nat.le_refl _)
  refine zhp _ _ h1 (zps _ _) fun x => ?_
  rw [h2 x, zhc, List.take_of_length_le (Nat.le_refl _)]
  exact ⟨fun ⟨a, b⟩ => ⟨a, b, List.not_mem_nil⟩, fun ⟨a, b, _⟩ => ⟨a, b⟩⟩
theorem liA_lt {n : Ln} (hok : LnOk n) {e : Le} (he : LeIn n e) (h : 0 ≤ e.u) : (∀ k, k < (n.ls.getD e.u.toNat lt0).xs.length → 0 ≤ (n.ls.getD e.u.toNat lt0).xs.getD k 0) ∧ liA (n.ls.getD e.u.toNat lt0).xs (n.ls.getD e.u.toNat lt0).xs.length = insK n e := by
  have h0 : ∀ k, k < (n.ls.getD e.u.toNat lt0).xs.length → 0 ≤ (n.ls.getD e.u.toNat lt0).xs.getD k 0 := fun k hk => ((hok.lt e.u.toNat (by have := he.1; omega)).1.2 k hk).1
  exact ⟨h0, by rw [zwl h0]; unfold insK; rw [if_pos h]⟩
theorem liA_sq {n : Ln} (hok : LnOk n) {e : Le} (he : LeIn n e) (h : e.u < 0) : (∀ k, k < (n.ss.getD e.f.toNat sq0).xs.length → 0 ≤ (n.ss.getD e.f.toNat sq0).xs.getD k 0) ∧ liA (n.ss.getD e.f.toNat sq0).xs (n.ss.getD e.f.toNat sq0).xs.length = insK n e := by
  obtain ⟨a, b, c⟩ := he
  have h0 : ∀ k, k < (n.ss.getD e.f.toNat sq0).xs.length → 0 ≤ (n.ss.getD e.f.toNat sq0).xs.getD k 0 := fun k hk => ((hok.sq e.f.toNat (by omega)).2 k hk).1
  exact ⟨h0, by rw [zwl h0]; unfold insK; rw [if_neg (by omega)]⟩
def piB (acc ys os : List Int) : Nat → List Int
  | 0 => acc
  | k + 1 => if hasB os (ys.getD k 0) = true then piB acc ys os k else insI (piB acc ys os k) (ys.getD k 0)
theorem piB_no {acc ys os : List Int} {k : Nat} (h : hasB os (ys.getD k 0) = true) : piB acc ys os k = piB acc ys os (k + 1) := (if_pos h).symm
theorem piB_yes {acc ys os : List Int} {k : Nat} (h : hasB os (ys.getD k 0) = false) : insI (piB acc ys os k) (ys.getD k 0) = piB acc ys os (k + 1) := (if_neg (by rw [h]; decide)).symm
theorem zsw {acc ys os : List Int} (ha : acc.Pairwise (· < ·)) : ∀ k, k ≤ ys.length → (piB acc ys os k).Pairwise (· < ·) ∧ (∀ x, x ∈ piB acc ys os k ↔ x ∈ acc ∨ (x ∈ ys.take k ∧ x ∉ os)) ∧ (piB acc ys os k).length ≤ acc.length + k
  | 0, _ => ⟨ha, fun x => by simp [piB], Nat.le_refl _⟩
  | k + 1, hk => by
    obtain ⟨h1, h2, h3⟩ := zsw (ys := ys) (os := os) ha k (by omega)
    rw [zdb 0 (show k < ys.length by omega)]
    unfold piB; split
    · rename_i e
      refine ⟨h1, fun x => ?_, by omega⟩
      rw [h2 x, List.mem_append, List.mem_singleton]
      refine ⟨fun h => h.imp id (fun ⟨a, b⟩ => ⟨.inl a, b⟩), fun h => h.imp id (fun ⟨a, b⟩ => ⟨a.resolve_right (fun h9 => b (by rw [h9]; exact zkh.1 e)), b⟩)⟩
    · rename_i e
      refine ⟨zke _ _ h1, fun x => ?_, by have := zkz (piB acc ys os k) (ys.getD k 0); omega⟩
      rw [zlz, h2 x, List.mem_append, List.mem_singleton]
      constructor
      · rintro (rfl | a | ⟨a, b⟩)
        · exact .inr ⟨.inr rfl, fun h9 => e (zkh.2 h9)⟩
        · exact .inl a
        · exact .inr ⟨.inl a, b⟩
      · rintro (a | ⟨a | rfl, b⟩)
        · exact .inr (.inl a)
        · exact .inr (.inr ⟨a, b⟩)
        · exact .inl rfl
def piA (n : Ln) (es : List Le) (os : List Int) : Nat → List Int
  | 0 => []
  | i + 1 => piB (piA n es os i) (insK n (es.getD i le0)) os (insK n (es.getD i le0)).length
theorem zqa {n : Ln} (hok : LnOk n) {es : List Le} (he : ∀ k, k < es.length → LeIn n (es.getD k le0)) (os : List Int) : ∀ i, i ≤ es.length → (piA n es os i).Pairwise (· < ·) ∧ (∀ x, x ∈ piA n es os i ↔ x ∈ insL n es i ∧ x ∉ os) ∧ (piA n es os i).length ≤ 4 * i
  | 0, _ => ⟨.nil, fun x => by simp [piA, insL], Nat.le_refl _⟩
  | i + 1, hi => by
    obtain ⟨h1, h2, h3⟩ := zqa hok he os i (by omega)
    obtain ⟨g1, g2, g3⟩ := zsw (ys := insK n (es.getD i le0)) (os := os) h1 _ (Nat.le_refl _)
    have h4 := zir hok (he i (by omega))
    refine ⟨g1, fun x => ?_, by show (piB _ _ _ _).length ≤ _; omega⟩
    show x ∈ piB _ _ _ _ ↔ x ∈ insL n es i ++ insK n (es.getD i le0) ∧ _
    rw [g2 x, h2 x, List.take_of_length_le (Nat.le_refl _), List.mem_append]
    constructor
    · rintro (⟨a, b⟩ | ⟨a, b⟩)
      · exact ⟨.inl a, b⟩
      · exact ⟨.inr a, b⟩
    · rintro ⟨a | a, b⟩
      · exact .inl ⟨a, b⟩
      · exact .inr ⟨a, b⟩
theorem zql (n : Ln) (es : List Le) {x : Int} : ∀ {k : Nat}, x ∈ insL n es k → 0 < x
  | k + 1, h => by
    rcases List.mem_append.1 (show x ∈ insL n es k ++ insK n (es.getD k le0) from h) with h | h
    · exact zql n es h
    · unfold insK at h; split at h <;> exact (zhc.1 h).2.1
theorem piA_eq {n : Ln} (hok : LnOk n) {es : List Le} (he : ∀ k, k < es.length → LeIn n (es.getD k le0)) : piA n es (outL n es es.length) es.length = pinsK n es := by
  obtain ⟨h1, h2, -⟩ := zqa hok he (outL n es es.length) es.length (Nat.le_refl _)
  refine zhp _ _ h1 (zps _ _) fun x => ?_
  rw [h2 x]; unfold pinsK
  rw [zhc]
  exact ⟨fun ⟨a, b⟩ => ⟨a, zql n es a, b⟩, fun ⟨a, _, b⟩ => ⟨a, b⟩⟩
def CntZ (zs L : List Int) : Prop := ∀ q, q < zs.length → zs.getD q 0 = (L.count (q : Int) : Int)
theorem CntZ.start (n : Nat) : CntZ (List.replicate n 0) [] := fun q _ => by rw [rep0Q]; rfl
theorem CntZ.inc {zs L : List Int} (h : CntZ zs L) {x : Int} (hx : 0 ≤ x ∧ x.toNat < zs.length) : CntZ (zs.set x.toNat (zs.getD x.toNat 0 + 1)) (L ++ [x]) := fun q hq => by
  rw [List.length_set] at hq
  rw [zkj, List.count_append, List.count_singleton]
  by_cases e : x.toNat = q
  · rw [if_pos ⟨e, by omega⟩, if_pos (by rw [beq_iff_eq]; omega), e, h q hq]; omega
  · rw [if_neg (fun h9 => e h9.1), if_neg (by rw [beq_iff_eq]; omega), h q hq]; omega
theorem CntZ.eq {zs L M : List Int} (h : CntZ zs L) (e : L = M) : CntZ zs M := e ▸ h
theorem CntZ.one {zs L : List Int} {m : Int} (h : CntZ zs L) (hl : (zs.length : Int) = m) (h1 : ∀ x, 0 ≤ x → x < m → L.count x = 1) : ∀ q, q < zs.length → zs.getD q 0 = 1 := fun q hq => by rw [h q hq, h1 (q : Int) (by omega) (by omega)]; rfl
theorem zdr {α : Type} (g : α → List Int) (d : α) {L : List α} {i : Nat} (hi : i < L.length) : (L.take (i + 1)).flatMap g = (L.take i).flatMap g ++ g (L.getD i d) := by
  rw [zdb d hi, List.flatMap_append]; simp
theorem zri {b : Bk} (h : b.kd = 0) : bI b = [b.it] := if_pos h
theorem zvs {b : Bk} (h : b.kd ≠ 0) : bI b = [] := if_neg h
theorem zrh {b : Bk} (h : b.kd = 1) : bO b = [b.it] := if_pos h
theorem zvr {b : Bk} (h : b.kd ≠ 1) : bO b = [] := if_neg h
theorem zrg {b : Bk} (h : b.kd = 2) : bR b = [b.it] := if_pos h
theorem zvq {b : Bk} (h : b.kd ≠ 2) : bR b = [] := if_neg h
theorem zrj {e : Le} (h : 0 ≤ e.f) : bF e = [e.f] := if_pos h
theorem zvt {e : Le} (h : e.f < 0) : bF e = [] := if_neg (by omega)
theorem zrf {e : Le} (h : 0 ≤ e.u) : bU e = [e.u] := if_pos h
theorem zvp {e : Le} (h : e.u < 0) : bU e = [] := if_neg (by omega)
theorem zic (n : Ln) (w : World) (hr : RdsLn w n) (hok : LnOk n) :
   Calls Try.prog 33 #[.agg #[.int .i64 n.ins, n.sv, n.lv, n.ov]] w (Ans w (.bool true)) := by
 have hso := sml hr.ou
 have hss := hr.sq.small
 have hsl := hr.lt.small
 have hcnt : n.cnt = 1 + n.ins + n.ss.length + n.ls.length := rfl
 have hfst : n.fst = 1 + n.ins + n.ss.length := rfl
 obtain ⟨⟨si0, si1⟩, s2, s3, s4⟩ := hok.sz
 refine zbf (N := 70) (args := [.agg #[.int .i64 n.ins, n.sv, n.lv, n.ov]]) Try.func33 rfl rfl (srQ ?_)
 refine zdj rfl (zch rfl rfl) ?_
 intro b1
 refine zaz 1 rfl (srQ (hvQ rfl (zao (cs := [.int .i64 n.ins, n.sv, n.lv, n.ov]) rfl rfl rfl rfl rfl (zaj 0 rfl 0 rfl)) ?_))
 refine zds rfl (zaq rfl rfl (fun w hm => zav (by have h9 := zjb n w (hr.below hm.bel); rw [zip hok.sz] at h9; exact h9))) (zaz 1 rfl (zac (zac (reQ 1 rfl ?_))))
 refine zbp rfl rfl rfl rfl rfl rfl (fun h2 => absurd h2 (by omega)) (fun h2 => ?_)
 refine zap 1 rfl (hvQ rfl (fdQ 3 rfl rfl rfl) (hvQ rfl (zad rfl rfl rfl (zaa 0 rfl rfl)) (zap 1 rfl ?_)))
 refine zds rfl (zaq rfl rfl (fun w hm => zav (by have h9 := zgd n.os n.cnt _ w ((zab ((hr).ou)) w hm) (by omega); rw [zdu hok.ou] at h9; exact h9))) (zaz 2 rfl (zal rfl (zcq (zeh (hvQ rfl (fdQ 1 rfl rfl rfl) (hvQ rfl (zad rfl rfl rfl (zaa 0 rfl rfl)) (hvQ rfl (lnQ rfl rfl rfl (zab ((hr).sq.row))) (zap 1 rfl ?_))))))))
 refine ntQ (zax ?_)
 refine zka (α := Nat) [0, 1, 2, 3, 18, 20, 21] rfl (fun k => [boxE b1 #[.int .i64 n.ins, n.sv, n.lv, n.ov] 30]) (fun k => [(22, .int .i64 (k : Int))]) (fun k => k ≤ n.ss.length) (fun k => n.ss.length - k) 0 (Nat.zero_le _) (saQ rfl) (pfQ rfl) ?_
 intro k hi3
 have hk := hi3
 refine srQ ?_
 refine zbj rfl rfl rfl rfl rfl rfl (fun h4 => ?_) (fun h4 => ?_)
 ·
  refine ntQ (tcQ rfl (zcq (sbQ (srQ (hvQ rfl (riQ 3 rfl rfl rfl rfl (zab ((hr).sq.row))) ?_)))))
  refine hvQ rfl (zbt (us := [.int .i64 ((n.ss.getD k sq0).kd), .int .i64 ((n.ss.getD k sq0).it), (n.ss.getD k sq0).iv]) rfl rfl rfl rfl (zab ((hr).sq.row)) (by omega) rfl (zcp sqC 3 (fun _ => rfl) n.ss sq0 (show k < _ by omega) rfl)) (zdj rfl (zbx (z := .agg #[.int .i64 0, .int .i64 0, .slice none 0 0]) rfl rfl) ?_)
  intro b5
  refine zcc (cs' := #[.int .i64 ((n.ss.getD k sq0).kd), .int .i64 ((n.ss.getD k sq0).it), (n.ss.getD k sq0).iv]) (i := 0) (off := 0) (us := [.int .i64 ((n.ss.getD k sq0).kd), .int .i64 ((n.ss.getD k sq0).it), (n.ss.getD k sq0).iv]) rfl rfl rfl rfl rfl rfl rfl (zah rfl (zah rfl (zah (hr.sq.at (d := sq0) (k := k) (by omega)).one zbr))) rfl rfl rfl (ntQ (srQ (hvQ rfl (zao (cs := [.int .i64 ((n.ss.getD k sq0).kd), .int .i64 ((n.ss.getD k sq0).it), (n.ss.getD k sq0).iv]) rfl rfl rfl rfl rfl (zaj 0 rfl 0 rfl)) ?_)))
  refine zds rfl (zaq rfl rfl (fun w hm => zav (by have h9 := zsn (n.ss.getD k sq0) w ((hr.sq.at (d := sq0) (k := k) (by omega)).below hm.bel); rw [zdu (hok.sq k (by omega)).1] at h9; exact h9))) (zap 2 rfl (hvQ rfl (fdQ 2 rfl rfl rfl) (hvQ rfl (zad rfl rfl rfl (zaa 0 rfl rfl)) (zap 1 rfl ?_))))
  refine zds rfl (zaq rfl rfl (fun w hm => zav (by have h9 := zgd ((n.ss.getD k sq0).xs) n.cnt _ w ((zab ((hr).sq.at (d := sq0) (k := k) (by omega))) w hm) (by omega); rw [zdu (hok.sq k (by omega)).2] at h9; exact h9))) (zaz 2 rfl (fsQ rfl (zcv (zay (hvQ rfl (vaQ rfl rfl rfl) (enQ 1 rfl ?_))))))
  exact zcr (k + 1) (by omega) (by omega) (saQ rfl) (slQ [1] rfl)
 refine ntQ (fcQ rfl ?_)
 refine zba (zdq ?_)
 refine zag (zaw (zeh (hvQ rfl (fdQ 2 rfl rfl rfl) (hvQ rfl (zad rfl rfl rfl (zaa 0 rfl rfl)) (hvQ rfl (lnQ rfl rfl rfl (zab ((hr).lt.row))) (zaz 1 rfl (zax ?_)))))))
 refine zka (α := Nat) [0, 1, 2, 3, 18, 20, 21, 22, 23, 38, 39] rfl (fun i => [boxE b1 #[.int .i64 n.ins, n.sv, n.lv, n.ov] 30]) (fun i => [(40, .int .i64 (i : Int))]) (fun i => i ≤ n.ls.length) (fun i => n.ls.length - i) 0 (Nat.zero_le _) (saQ rfl) (pfQ rfl) ?_
 intro i hi6
 have hi := hi6
 refine srQ ?_
 refine zbj rfl rfl rfl rfl rfl rfl (fun h7 => ?_) (fun h7 => ?_)
 ·
  refine ntQ (tcQ rfl (zcq (sbQ (zac (reQ 1 rfl (hvQ rfl (riQ 2 rfl rfl rfl rfl (zab ((hr).lt.row))) ?_))))))
  refine hvQ rfl (zbt (us := [(n.ls.getD i lt0).iv, .int .i64 ((n.ls.getD i lt0).ma)]) rfl rfl rfl rfl (zab ((hr).lt.row)) (by omega) rfl (zcp ltC 2 (fun _ => rfl) n.ls lt0 (show i < _ by omega) rfl)) (zdj rfl (zbx (z := .agg #[.slice none 0 0, .int .i64 0]) rfl rfl) ?_)
  intro b8
  refine zap 1 rfl (zcc (cs' := #[(n.ls.getD i lt0).iv, .int .i64 ((n.ls.getD i lt0).ma)]) (i := 0) (off := 0) (us := [(n.ls.getD i lt0).iv, .int .i64 ((n.ls.getD i lt0).ma)]) rfl rfl rfl rfl rfl rfl rfl (zah (hr.lt.at (d := lt0) (k := i) (by omega)).one (zah rfl zbr)) rfl rfl rfl ?_)
  refine ntQ (zac ?_)
  have hlt9 := (hok.lt i (by omega)).1.1
  have hb9 : (decide (4 < (((n.ls.getD i lt0).xs).length : Int))) = false := decide_eq_false (by omega)
  refine zby 24 [[], [0], [1], [2], [3], [4], [4, 5], [4], [4, 7], [4], [4, 8, 9], [4, 6, 10], [4, 11], [4, 12], [13], [14], [14, 15], [14, 16], [14], [14, 18], [14, 17, 19], [14, 20], [14, 21], [14, 22]] [45, 46, 47, 48, 49, 50, 51, 52, 53, 54, 55, 56, 57, 58, 59, 60, 61, 62, 63, 64, 65, 66, 67, 68] [.pointer (some ⟨b8, 0 + 0, none⟩), (n.ls.getD i lt0).iv, .int .i64 (((n.ls.getD i lt0).xs).length : Int), .bool false, .bool false, .pointer (some ⟨b8, 0 + 0, none⟩), (n.ls.getD i lt0).iv, .agg #[.int .i64 n.ins, n.sv, n.lv, n.ov], .int .i64 n.fst, .int .i64 (i : Int), .int .i64 (n.fst + (i : Int)), .bool true, .bool false, .bool false, .bool false, .pointer (some ⟨b8, 0 + 0, none⟩), (n.ls.getD i lt0).iv, .int .i64 (((n.ls.getD i lt0).xs).length : Int), .pointer (some ⟨b8, 0 + 1, none⟩), .int .i64 ((n.ls.getD i lt0).ma), .agg #[.int .i64 (((n.ls.getD i lt0).xs).length : Int), .int .i64 ((n.ls.getD i lt0).ma)], .bool true, .bool false, .bool false] (by kernel_rfl) rfl ?_ ?_
  ·
   exact ⟨iaQ rfl (fdQ 0 rfl rfl rfl) rfl, iaQ rfl (zad rfl rfl rfl (zaa 0 rfl rfl)) rfl, iaQ rfl (lnQ rfl rfl rfl (zab ((hr).lt.at (d := lt0) (k := i) (by omega)))) rfl, .inl ⟨rfl, zek (zde rfl rfl rfl rfl) hb9⟩, iaQ rfl (zas rfl) rfl, iaQ rfl (fdQ 0 rfl rfl rfl) rfl, iaQ rfl (zad rfl rfl rfl (zaa 0 rfl rfl)) rfl, iaQ rfl (zao (cs := [.int .i64 n.ins, n.sv, n.lv, n.ov]) rfl rfl rfl rfl rfl (zaj 1 rfl 0 rfl)) rfl, .inl ⟨rfl, zaq rfl rfl (fun w hm => zav (zfa n w (hr.below hm.bel) hok.sz))⟩, iaQ rfl (zas rfl) rfl, iaQ rfl (vaQ rfl rfl rfl) rfl, .inl ⟨rfl, zaq (by kernel_rfl) rfl (fun w hm => zav (by have h9 := zgd ((n.ls.getD i lt0).xs) (n.fst + (i : Int)) _ w ((zab ((hr).lt.at (d := lt0) (k := i) (by omega))) w hm) (by omega); rw [zdu (hok.lt i (by omega)).1.2] at h9; exact h9))⟩, iaQ rfl (zas rfl) rfl, iaQ rfl (zas rfl) rfl, iaQ rfl (zas rfl) rfl, iaQ rfl (fdQ 0 rfl rfl rfl) rfl, iaQ rfl (zad rfl rfl rfl (zaa 0 rfl rfl)) rfl, iaQ rfl (lnQ rfl rfl rfl (zab ((hr).lt.at (d := lt0) (k := i) (by omega)))) rfl, iaQ rfl (fdQ 1 rfl rfl rfl) rfl, iaQ rfl (zad rfl rfl rfl (zaa 0 rfl rfl)) rfl, iaQ rfl (zcw (cs := #[.int .i64 (((n.ls.getD i lt0).xs).length : Int), .int .i64 ((n.ls.getD i lt0).ma)]) rfl rfl rfl) rfl, .inl ⟨rfl, zaq (by kernel_rfl) rfl (fun w hm => zav (by have h9 := zmb (((n.ls.getD i lt0).xs).length : Int) ((n.ls.getD i lt0).ma) w; rw [zdu (hok.lt i (by omega)).2] at h9; exact h9))⟩, iaQ rfl (zas rfl) rfl, iaQ rfl (zas rfl) rfl, trivial⟩
  simp only [List.drop_succ_cons, List.drop_zero]
  refine ntQ (fsQ rfl (zcv (zay (hvQ rfl (vaQ rfl rfl rfl) (enQ 1 rfl ?_)))))
  exact zcr (i + 1) (by omega) (by omega) (saQ rfl) (slQ [1] rfl)
 refine ntQ (fcQ rfl ?_)
 refine zba (zdq ?_)
 refine zag (zaw (zbd 1 rfl ?_))
 exact zau (zbb rfl rfl rfl)
theorem zfm (n : Ln) (w : World) (hr : RdsLn w n) (hok : LnOk n) :
   Calls Try.prog 116 #[.agg #[.int .i64 n.ins, n.sv, n.lv, n.ov]] w (Ret w (fun v' post => post = [rowE 3 1 v' ((usK n)).length (((usK n)).map (Value.int .i64))])) := by
 have hso := sml hr.ou
 have hss := hr.sq.small
 have hsl := hr.lt.small
 have hcnt : n.cnt = 1 + n.ins + n.ss.length + n.ls.length := rfl
 have hfst : n.fst = 1 + n.ins + n.ss.length := rfl
 obtain ⟨⟨si0, si1⟩, s2, s3, s4⟩ := hok.sz
 refine zbf (N := 76) (args := [.agg #[.int .i64 n.ins, n.sv, n.lv, n.ov]]) Try.func116 rfl rfl (srQ ?_)
 refine zdj rfl (zch rfl rfl) ?_
 intro b1
 refine zaz 1 rfl (srQ (hvQ rfl (zao (cs := [.int .i64 n.ins, n.sv, n.lv, n.ov]) rfl rfl rfl rfl rfl (zaj 0 rfl 0 rfl)) ?_))
 refine zds rfl (zaq rfl rfl (fun w hm => zav (zis n w (hr.below hm.bel) hok.sz))) (zdk rfl (zdw (z := .int .i64 0) (s := 1) (bytes := 8) (n := (List.replicate (n.cnt).toNat (0 : Int)).length) (cs := ((List.replicate (n.cnt).toNat (0 : Int)).map (Value.int .i64))) rfl Try.underlying28 rfl (by decide) rfl rfl (by first | (rw [List.length_replicate]; done) | (rw [List.length_replicate]; omega)) (by first | (rw [List.length_replicate]; done) | (rw [List.length_replicate]; omega)) (by rw [List.length_replicate]; omega) (zec _)) ?_)
 intro g2
 refine zaz 1 rfl (zeh (hvQ rfl (fdQ 2 rfl rfl rfl) (hvQ rfl (zad rfl rfl rfl (zaa 1 rfl rfl)) (hvQ rfl (lnQ rfl rfl rfl (zab ((hr).lt.row))) (zaz 1 rfl ?_)))))
 refine zax ?_
 refine zhy (α := Nat) (β := List Int) [0, 1, 2, 3, 18, 19] rfl (fun i zs => [rowE 3 1 (.slice (some ⟨g2, 0, none⟩) ((List.replicate (n.cnt).toNat (0 : Int)).length) ((List.replicate (n.cnt).toNat (0 : Int)).length)) zs.length (zs.map (Value.int .i64)), boxE b1 #[.int .i64 n.ins, n.sv, n.lv, n.ov] 30]) (fun i zs => [(20, .int .i64 (i : Int))]) (fun i zs => i ≤ n.ls.length ∧ zs.length = n.cnt.toNat ∧ CntB zs (4 * i) ∧ zs = usA n i) (fun i zs => n.ls.length - i) 0 (List.replicate n.cnt.toNat (0 : Int)) ⟨Nat.zero_le _, List.length_replicate, zfd _ _, rfl⟩ (saQ rfl) (pfQ rfl) ?_
 intro i zs hi3
 obtain ⟨hi, hlzs, hczs, hezs⟩ := hi3
 refine srQ ?_
 refine zbj rfl rfl rfl rfl rfl rfl (fun h4 => ?_) (fun h4 => ?_)
 ·
  refine ntQ (tcQ rfl (zcq (sbQ (srQ (hvQ rfl (riQ 2 rfl rfl rfl rfl (zab ((hr).lt.row))) ?_)))))
  refine hvQ rfl (zbt (us := [(n.ls.getD i lt0).iv, .int .i64 ((n.ls.getD i lt0).ma)]) rfl rfl rfl rfl (zab ((hr).lt.row)) (by omega) rfl (zcp ltC 2 (fun _ => rfl) n.ls lt0 (show i < _ by omega) rfl)) (zdj rfl (zbx (z := .agg #[.slice none 0 0, .int .i64 0]) rfl rfl) ?_)
  intro b5
  refine zcc (cs' := #[(n.ls.getD i lt0).iv, .int .i64 ((n.ls.getD i lt0).ma)]) (i := 0) (off := 0) (us := [(n.ls.getD i lt0).iv, .int .i64 ((n.ls.getD i lt0).ma)]) rfl rfl rfl rfl rfl rfl rfl (zah (hr.lt.at (d := lt0) (k := i) (by omega)).one (zah rfl zbr)) rfl rfl rfl (ntQ (srQ (hvQ rfl (fdQ 0 rfl rfl rfl) (hvQ rfl (zad rfl rfl rfl (zaa 0 rfl rfl)) (hvQ rfl (lnQ rfl rfl rfl (zab ((hr).lt.at (d := lt0) (k := i) (by omega)))) (zaz 1 rfl (zax ?_)))))))
  refine zhy (α := Nat) (β := List Int) [0, 1, 2, 3, 18, 19, 20, 21, 25, 26] rfl (fun k us => [rowE 3 1 (.slice (some ⟨g2, 0, none⟩) ((List.replicate (n.cnt).toNat (0 : Int)).length) ((List.replicate (n.cnt).toNat (0 : Int)).length)) us.length (us.map (Value.int .i64)), boxE b1 #[.int .i64 n.ins, n.sv, n.lv, n.ov] 30]) (fun k us => [(27, .int .i64 (k : Int))]) (fun k us => k ≤ (n.ls.getD i lt0).xs.length ∧ us.length = n.cnt.toNat ∧ CntB us (4 * i + k) ∧ us = incT (usA n i) (n.ls.getD i lt0).xs k) (fun k us => (n.ls.getD i lt0).xs.length - k) 0 zs ⟨Nat.zero_le _, hlzs, zbc hczs (by omega), hezs⟩ (saQ rfl) (slQ [1, 0] rfl) ?_
  intro k us hi6
  obtain ⟨hk, hlus, hcus, heus⟩ := hi6
  refine srQ ?_
  refine zbj rfl rfl rfl rfl rfl rfl (fun h7 => ?_) (fun h7 => ?_)
  ·
   refine ntQ (tcQ rfl (zcq (sbQ (srQ (hvQ rfl (riQ 1 rfl rfl rfl rfl (zab ((hr).lt.at (d := lt0) (k := i) (by omega)))) (hvQ rfl (zar (u := .int .i64 (((n.ls.getD i lt0).xs).getD k 0)) rfl rfl rfl (zab ((hr).lt.at (d := lt0) (k := i) (by omega))) (zbn (show _ < ((n.ls.getD i lt0).xs).length by omega))) (zap 1 rfl ?_)))))))
   refine ntQ (reQ 2 rfl ?_)
   have hb9 := (hok.lt i (by omega)).1.2 k (by omega)
   have hl9 := (hok.lt i (by omega)).1.1
   have hc9 := hcus ((n.ls.getD i lt0).xs.getD k 0).toNat
   refine hvQ rfl (riQ 1 rfl rfl rfl rfl (zae 0 rfl)) (hvQ rfl (lzQ rfl rfl rfl (zae 0 rfl)) (hvQ rfl (vaQ rfl rfl rfl) (hvQ rfl (riQ 1 rfl rfl rfl rfl (zae 0 rfl)) ?_)))
   refine zda (i := 0) (n' := (us.set ((((n.ls.getD i lt0).xs).getD k 0).toNat) ((us.getD ((((n.ls.getD i lt0).xs).getD k 0).toNat) 0) + 1)).length) (xs' := ((us.set ((((n.ls.getD i lt0).xs).getD k 0).toNat) ((us.getD ((((n.ls.getD i lt0).xs).getD k 0).toNat) 0) + 1)).map (Value.int .i64))) rfl rfl rfl rfl rfl rfl rfl rfl (by first | omega | (simp only [List.length_set]; omega)) List.length_set.symm (zdd _ _ _) rfl (zbu (zcv (zay (hvQ rfl (vaQ rfl rfl rfl) (enQ 1 rfl ?_)))))
   exact zbq (k + 1) (us.set ((((n.ls.getD i lt0).xs).getD k 0).toNat) ((us.getD ((((n.ls.getD i lt0).xs).getD k 0).toNat) 0) + 1)) ⟨by omega, by first | assumption | (rw [List.length_set]; assumption), by first | exact zbs (by assumption) | exact zbc (by assumption) (by omega), by rw [heus]; rfl⟩ (by omega) (saQ rfl) (pfQ rfl)
  refine ntQ (fcQ rfl ?_)
  refine zba (zdq ?_)
  refine zag (zcv (zay ?_))
  have hl9 := (hok.lt i (by omega)).1.1
  refine hvQ rfl (vaQ rfl rfl rfl) (enQ 1 rfl ?_)
  exact zbq (i + 1) us ⟨by omega, by first | assumption | (rw [List.length_set]; assumption), by first | exact zbs (by assumption) | exact zbc (by assumption) (by omega), by rw [heus, show k = (n.ls.getD i lt0).xs.length by omega]; rfl⟩ (by omega) (saQ rfl) (pfQ rfl)
 refine ntQ (fcQ rfl ?_)
 refine zba (zdq ?_)
 refine zag (zaw (zeh (hvQ rfl (fdQ 1 rfl rfl rfl) (hvQ rfl (zad rfl rfl rfl (zaa 1 rfl rfl)) (hvQ rfl (lnQ rfl rfl rfl (zab ((hr).sq.row))) (zaz 1 rfl (zax ?_)))))))
 refine zhy (α := Nat) (β := List Int) [0, 1, 2, 3, 21, 40, 41] rfl (fun j vs => [rowE 3 1 (.slice (some ⟨g2, 0, none⟩) ((List.replicate (n.cnt).toNat (0 : Int)).length) ((List.replicate (n.cnt).toNat (0 : Int)).length)) vs.length (vs.map (Value.int .i64)), boxE b1 #[.int .i64 n.ins, n.sv, n.lv, n.ov] 30]) (fun j vs => [(42, .int .i64 (j : Int))]) (fun j vs => j ≤ n.ss.length ∧ vs.length = n.cnt.toNat ∧ CntB vs (1600 + 4 * j) ∧ vs = usB n j) (fun j vs => n.ss.length - j) 0 zs ⟨Nat.zero_le _, hlzs, zbc hczs (by omega), by rw [hezs, show i = n.ls.length by omega]; rfl⟩ (saQ rfl) (pfQ rfl) ?_
 intro j vs hi8
 obtain ⟨hj, hlvs, hcvs, hevs⟩ := hi8
 refine srQ ?_
 refine zbj rfl rfl rfl rfl rfl rfl (fun h9 => ?_) (fun h9 => ?_)
 ·
  refine ntQ (tcQ rfl (zcq (sbQ (srQ (hvQ rfl (riQ 3 rfl rfl rfl rfl (zab ((hr).sq.row))) ?_)))))
  refine hvQ rfl (zbt (us := [.int .i64 ((n.ss.getD j sq0).kd), .int .i64 ((n.ss.getD j sq0).it), (n.ss.getD j sq0).iv]) rfl rfl rfl rfl (zab ((hr).sq.row)) (by omega) rfl (zcp sqC 3 (fun _ => rfl) n.ss sq0 (show j < _ by omega) rfl)) (zdj rfl (zbx (z := .agg #[.int .i64 0, .int .i64 0, .slice none 0 0]) rfl rfl) ?_)
  intro b10
  refine zcc (cs' := #[.int .i64 ((n.ss.getD j sq0).kd), .int .i64 ((n.ss.getD j sq0).it), (n.ss.getD j sq0).iv]) (i := 0) (off := 0) (us := [.int .i64 ((n.ss.getD j sq0).kd), .int .i64 ((n.ss.getD j sq0).it), (n.ss.getD j sq0).iv]) rfl rfl rfl rfl rfl rfl rfl (zah rfl (zah rfl (zah (hr.sq.at (d := sq0) (k := j) (by omega)).one zbr))) rfl rfl rfl (ntQ (srQ (hvQ rfl (fdQ 2 rfl rfl rfl) (hvQ rfl (zad rfl rfl rfl (zaa 0 rfl rfl)) (hvQ rfl (lnQ rfl rfl rfl (zab ((hr).sq.at (d := sq0) (k := j) (by omega)))) (zaz 1 rfl (zax ?_)))))))
  refine zhy (α := Nat) (β := List Int) [0, 1, 2, 3, 21, 40, 41, 42, 43, 47, 48] rfl (fun q ws => [rowE 3 1 (.slice (some ⟨g2, 0, none⟩) ((List.replicate (n.cnt).toNat (0 : Int)).length) ((List.replicate (n.cnt).toNat (0 : Int)).length)) ws.length (ws.map (Value.int .i64)), boxE b1 #[.int .i64 n.ins, n.sv, n.lv, n.ov] 30]) (fun q ws => [(49, .int .i64 (q : Int))]) (fun q ws => q ≤ (n.ss.getD j sq0).xs.length ∧ ws.length = n.cnt.toNat ∧ CntB ws (1600 + 4 * j + q) ∧ ws = incT (usB n j) (n.ss.getD j sq0).xs q) (fun q ws => (n.ss.getD j sq0).xs.length - q) 0 vs ⟨Nat.zero_le _, hlvs, zbc hcvs (by omega), hevs⟩ (saQ rfl) (slQ [1, 0] rfl) ?_
  intro q ws hi11
  obtain ⟨hq, hlws, hcws, hews⟩ := hi11
  refine srQ ?_
  refine zbj rfl rfl rfl rfl rfl rfl (fun h12 => ?_) (fun h12 => ?_)
  ·
   refine ntQ (tcQ rfl (zcq (sbQ (srQ (hvQ rfl (riQ 1 rfl rfl rfl rfl (zab ((hr).sq.at (d := sq0) (k := j) (by omega)))) (hvQ rfl (zar (u := .int .i64 (((n.ss.getD j sq0).xs).getD q 0)) rfl rfl rfl (zab ((hr).sq.at (d := sq0) (k := j) (by omega))) (zbn (show _ < ((n.ss.getD j sq0).xs).length by omega))) (zap 1 rfl ?_)))))))
   refine ntQ (reQ 2 rfl ?_)
   have hb9 := (hok.sq j (by omega)).2 q (by omega)
   have hl9 := (hok.sq j (by omega)).1.kind
   have hc9 := hcws ((n.ss.getD j sq0).xs.getD q 0).toNat
   refine hvQ rfl (riQ 1 rfl rfl rfl rfl (zae 0 rfl)) (hvQ rfl (lzQ rfl rfl rfl (zae 0 rfl)) (hvQ rfl (vaQ rfl rfl rfl) (hvQ rfl (riQ 1 rfl rfl rfl rfl (zae 0 rfl)) ?_)))
   refine zda (i := 0) (n' := (ws.set ((((n.ss.getD j sq0).xs).getD q 0).toNat) ((ws.getD ((((n.ss.getD j sq0).xs).getD q 0).toNat) 0) + 1)).length) (xs' := ((ws.set ((((n.ss.getD j sq0).xs).getD q 0).toNat) ((ws.getD ((((n.ss.getD j sq0).xs).getD q 0).toNat) 0) + 1)).map (Value.int .i64))) rfl rfl rfl rfl rfl rfl rfl rfl (by first | omega | (simp only [List.length_set]; omega)) List.length_set.symm (zdd _ _ _) rfl (zbu (zcv (zay (hvQ rfl (vaQ rfl rfl rfl) (enQ 1 rfl ?_)))))
   exact zbq (q + 1) (ws.set ((((n.ss.getD j sq0).xs).getD q 0).toNat) ((ws.getD ((((n.ss.getD j sq0).xs).getD q 0).toNat) 0) + 1)) ⟨by omega, by first | assumption | (rw [List.length_set]; assumption), by first | exact zbs (by assumption) | exact zbc (by assumption) (by omega), by rw [hews]; rfl⟩ (by omega) (saQ rfl) (pfQ rfl)
  refine ntQ (fcQ rfl ?_)
  refine zba (zdq ?_)
  refine zag (zcv (zay ?_))
  have hl9 := (hok.sq j (by omega)).1.kind
  refine hvQ rfl (vaQ rfl rfl rfl) (enQ 1 rfl ?_)
  exact zbq (j + 1) ws ⟨by omega, by first | assumption | (rw [List.length_set]; assumption), by first | exact zbs (by assumption) | exact zbc (by assumption) (by omega), by rw [hews, show q = (n.ss.getD j sq0).xs.length by omega]; rfl⟩ (by omega) (saQ rfl) (pfQ rfl)
 refine ntQ (fcQ rfl ?_)
 refine zba (zdq ?_)
 refine zag (zaw (zeh (hvQ rfl (fdQ 3 rfl rfl rfl) (hvQ rfl (zad rfl rfl rfl (zaa 1 rfl rfl)) (hvQ rfl (lnQ rfl rfl rfl (zab ((hr).ou))) (zaz 1 rfl (zax ?_)))))))
 refine zhy (α := Nat) (β := List Int) [0, 1, 2, 3, 21, 43, 62, 63] rfl (fun k us => [rowE 3 1 (.slice (some ⟨g2, 0, none⟩) ((List.replicate (n.cnt).toNat (0 : Int)).length) ((List.replicate (n.cnt).toNat (0 : Int)).length)) us.length (us.map (Value.int .i64)), boxE b1 #[.int .i64 n.ins, n.sv, n.lv, n.ov] 30]) (fun k us => [(64, .int .i64 (k : Int))]) (fun k us => k ≤ n.os.length ∧ us.length = n.cnt.toNat ∧ CntB us (1650 + k) ∧ us = incT (usB n n.ss.length) n.os k) (fun k us => n.os.length - k) 0 vs ⟨Nat.zero_le _, hlvs, zbc hcvs (by omega), by rw [hevs, show j = n.ss.length by omega]; rfl⟩ (saQ rfl) (pfQ rfl) ?_
 intro k us hi13
 obtain ⟨hk, hlus, hcus, heus⟩ := hi13
 refine srQ ?_
 refine zbj rfl rfl rfl rfl rfl rfl (fun h14 => ?_) (fun h14 => ?_)
 ·
  refine ntQ (tcQ rfl (zcq (sbQ (srQ (hvQ rfl (riQ 1 rfl rfl rfl rfl (zab ((hr).ou))) (hvQ rfl (liQ rfl rfl rfl (zab ((hr).ou))) (zap 1 rfl ?_)))))))
  refine ntQ (reQ 2 rfl ?_)
  have hb9 := hok.ou k (by omega)
  have hc9 := hcus (n.os.getD k 0).toNat
  refine hvQ rfl (riQ 1 rfl rfl rfl rfl (zae 0 rfl)) (hvQ rfl (lzQ rfl rfl rfl (zae 0 rfl)) (hvQ rfl (vaQ rfl rfl rfl) (hvQ rfl (riQ 1 rfl rfl rfl rfl (zae 0 rfl)) ?_)))
  refine zda (i := 0) (n' := (us.set ((n.os.getD k 0).toNat) ((us.getD ((n.os.getD k 0).toNat) 0) + 1)).length) (xs' := ((us.set ((n.os.getD k 0).toNat) ((us.getD ((n.os.getD k 0).toNat) 0) + 1)).map (Value.int .i64))) rfl rfl rfl rfl rfl rfl rfl rfl (by first | omega | (simp only [List.length_set]; omega)) List.length_set.symm (zdd _ _ _) rfl (zbu (zcv (zay (hvQ rfl (vaQ rfl rfl rfl) (enQ 1 rfl ?_)))))
  exact zbq (k + 1) (us.set ((n.os.getD k 0).toNat) ((us.getD ((n.os.getD k 0).toNat) 0) + 1)) ⟨by omega, by first | assumption | (rw [List.length_set]; assumption), by first | exact zbs (by assumption) | exact zbc (by assumption) (by omega), by rw [heus]; rfl⟩ (by omega) (saQ rfl) (pfQ rfl)
 refine ntQ (fcQ rfl ?_)
 refine zba (zdq ?_)
 refine zag (zaw (zbd 2 rfl ?_))
 exact zau (zck (post := [rowE 3 1 (.slice (some ⟨g2, 0, none⟩) ((List.replicate (n.cnt).toNat (0 : Int)).length) ((List.replicate (n.cnt).toNat (0 : Int)).length)) us.length (us.map (Value.int .i64))]) rfl rfl (slQ [0] rfl) (by rw [heus, show k = n.os.length by omega]; rfl))
theorem zux (n : Ln) (e : Le) (w : World) (hr : RdsLn w n) (hok : LnOk n) (he : LeP n e) :
   Calls Try.prog 79 #[.agg #[.int .i64 n.ins, n.sv, n.lv, n.ov], .agg #[.int .i64 e.u, .int .i64 e.f]] w (Ans w (.bool true)) := by
 have hso := sml hr.ou
 have hss := hr.sq.small
 have hsl := hr.lt.small
 have hcnt : n.cnt = 1 + n.ins + n.ss.length + n.ls.length := rfl
 have hfst : n.fst = 1 + n.ins + n.ss.length := rfl
 obtain ⟨⟨si0, si1⟩, s2, s3, s4⟩ := hok.sz
 have hul := zoa n
 obtain ⟨⟨⟨p1, p2⟩, ⟨p3, p4⟩, p5⟩, p6, p7⟩ := he
 refine zbf (N := 79) (args := [.agg #[.int .i64 n.ins, n.sv, n.lv, n.ov], .agg #[.int .i64 e.u, .int .i64 e.f]]) Try.func79 rfl rfl (srQ ?_)
 refine zdj rfl (zch rfl rfl) ?_
 intro b1
 refine zdj rfl (zch rfl rfl) ?_
 intro b2
 refine zaz 1 rfl (zeh (hvQ rfl (fdQ 0 rfl rfl rfl) (hvQ rfl (zad rfl rfl rfl (zaa 0 rfl rfl)) (hvQ rfl (fdQ 2 rfl rfl rfl) (hvQ rfl (zad rfl rfl rfl (zaa 1 rfl rfl)) (hvQ rfl (lnQ rfl rfl rfl (zab ((hr).lt.row))) (hvQ rfl (vsQ rfl rfl rfl) ?_)))))))
 refine zds rfl (zaq rfl rfl (fun w hm => zav (zgb (zdy _ _ _ w)))) (zca (fun h3 => ?_) (fun h3 => absurd ((((zdc _ _ _).2 ⟨by omega, by omega⟩)).symm.trans h3) (by decide)))
 obtain ⟨h3a, h3b⟩ := (zdc _ _ _).1 h3
 refine zap 2 rfl (hvQ rfl (fdQ 1 rfl rfl rfl) (hvQ rfl (zad rfl rfl rfl (zaa 0 rfl rfl)) (hvQ rfl (fdQ 1 rfl rfl rfl) (hvQ rfl (zad rfl rfl rfl (zaa 1 rfl rfl)) (hvQ rfl (lnQ rfl rfl rfl (zab ((hr).sq.row))) (hvQ rfl (vsQ rfl rfl rfl) ?_))))))
 refine zds rfl (zaq rfl rfl (fun w hm => zav (zgb (zdy _ _ _ w)))) (zca (fun h4 => ?_) (fun h4 => absurd ((((zdc _ _ _).2 ⟨by omega, by omega⟩)).symm.trans h4) (by decide)))
 obtain ⟨h4a, h4b⟩ := (zdc _ _ _).1 h4
 refine zap 3 rfl (hvQ rfl (fdQ 0 rfl rfl rfl) (hvQ rfl (zad rfl rfl rfl (zaa 0 rfl rfl)) ?_))
 refine zbp rfl rfl rfl rfl rfl rfl (fun h5 => ?_) (fun h5 => ?_)
 ·
  refine zap 1 rfl (hvQ rfl (fdQ 1 rfl rfl rfl) (hvQ rfl (zad rfl rfl rfl (zaa 0 rfl rfl)) ?_))
  refine zbp rfl rfl rfl rfl rfl rfl (fun h6 => absurd h6 (by omega)) (fun h6 => ?_)
  refine zaz 2 rfl (zal rfl (zcq (zeh (hvQ rfl (fdQ 1 rfl rfl rfl) (hvQ rfl (zad rfl rfl rfl (zaa 0 rfl rfl)) ?_)))))
  refine zdi rfl rfl rfl rfl rfl rfl (fun h7 => ?_) (fun h7 => ?_)
  ·
   refine zap 1 rfl (hvQ rfl (fdQ 1 rfl rfl rfl) (hvQ rfl (zad rfl rfl rfl (zaa 1 rfl rfl)) (hvQ rfl (fdQ 1 rfl rfl rfl) (hvQ rfl (zad rfl rfl rfl (zaa 0 rfl rfl)) (hvQ rfl (riQ 3 rfl rfl rfl rfl (zab ((hr).sq.row))) (hvQ rfl (zbe (k0 := 0) rfl rfl rfl (zab ((hr).sq.row)) (by omega)) ?_))))))
   refine hvQ rfl (zar (u := .int .i64 ((n.ss.getD ((e.f).toNat) sq0).kd)) rfl rfl rfl (zab ((hr).sq.row)) ((zce sqC 3 (fun _ => rfl) n.ss sq0 (show (e.f).toNat < _ by omega) (by decide)).trans rfl)) ?_
   have p69 := p6 (by omega)
   refine zfj rfl rfl rfl rfl rfl rfl (fun h8 => absurd h8 (by omega)) (fun h8 => ?_)
   refine zaz 1 rfl (zal rfl (zcq (zeh (hvQ rfl (fdQ 0 rfl rfl rfl) (hvQ rfl (zad rfl rfl rfl (zaa 0 rfl rfl)) ?_)))))
   refine zdi rfl rfl rfl rfl rfl rfl (fun h9 => ?_) (fun h9 => ?_)
   ·
    refine zap 1 rfl (hvQ rfl (fdQ 1 rfl rfl rfl) (hvQ rfl (zad rfl rfl rfl (zaa 0 rfl rfl)) ?_))
    refine zdi rfl rfl rfl rfl rfl rfl (fun h10 => ?_) (fun h10 => ?_)
    ·
     refine zaz 1 rfl (zak rfl (zac ?_))
     refine zby 5 [[], [0], [], [2], [1, 3]] [55, 56, 57, 58, 59] [.agg #[.int .i64 n.ins, n.sv, n.lv, n.ov], .int .i64 n.fst, .pointer (some ⟨b2, 0 + 0, none⟩), .int .i64 e.u, .int .i64 (n.fst + e.u)] (by kernel_rfl) rfl ?_ ?_
     ·
      exact ⟨iaQ rfl (zao (cs := [.int .i64 n.ins, n.sv, n.lv, n.ov]) rfl rfl rfl rfl rfl (zaj 1 rfl 0 rfl)) rfl, .inl ⟨rfl, zaq rfl rfl (fun w hm => zav (zfa n w (hr.below hm.bel) hok.sz))⟩, iaQ rfl (fdQ 0 rfl rfl rfl) rfl, iaQ rfl (zad rfl rfl rfl (zaa 0 rfl rfl)) rfl, iaQ rfl (vaQ rfl rfl rfl) rfl, trivial⟩
     simp only [List.drop_succ_cons, List.drop_zero]
     refine zaz 1 rfl (srQ ?_)
     have hb9 := (hok.sq e.f.toNat (by omega)).1.kind
     have p79 := p7 (by omega) (by omega)
     refine hvQ rfl (fdQ 1 rfl rfl rfl) (hvQ rfl (zad rfl rfl rfl (zaa 1 rfl rfl)) (hvQ rfl (fdQ 1 rfl rfl rfl) (hvQ rfl (zad rfl rfl rfl (zaa 0 rfl rfl)) (hvQ rfl (riQ 3 rfl rfl rfl rfl (zab ((hr).sq.row))) (hvQ rfl (zbe (k0 := 2) rfl rfl rfl (zab ((hr).sq.row)) (by omega)) ?_)))))
     refine hvQ rfl (zar (u := (n.ss.getD ((e.f).toNat) sq0).iv) rfl rfl rfl (zab ((hr).sq.row)) ((zce sqC 3 (fun _ => rfl) n.ss sq0 (show (e.f).toNat < _ by omega) (by decide)).trans rfl)) (hvQ rfl (riQ 1 rfl rfl rfl rfl (zab (hr.sq.at (d := sq0) (k := ((e.f).toNat)) (by omega)))) (hvQ rfl (zar (u := .int .i64 (((n.ss.getD ((e.f).toNat) sq0).xs).getD 0 0)) rfl rfl rfl (zab (hr.sq.at (d := sq0) (k := ((e.f).toNat)) (by omega))) (zbn (show _ < ((n.ss.getD ((e.f).toNat) sq0).xs).length by omega))) (zap 1 rfl ?_)))
     refine zbp rfl rfl rfl rfl rfl rfl (fun h11 => ?_) (fun h11 => absurd h11 (by omega))
     refine zap 1 rfl (hvQ rfl (zao (cs := [.int .i64 n.ins, n.sv, n.lv, n.ov]) rfl rfl rfl rfl rfl (zaj 1 rfl 0 rfl)) ?_)
     refine zfg rfl rfl rfl (zaq rfl rfl (fun w hm => zfm n w (hr.below hm.bel) hok)) ?_
     intro v12 p13 hR14
     subst hR14
     refine zap 1 rfl (hvQ rfl (riQ 1 rfl rfl rfl rfl (zae 0 rfl)) (hvQ rfl (zar (u := .int .i64 ((usK n).getD ((n.fst + e.u).toNat) 0)) rfl rfl rfl (zae 0 rfl) (zbn (show _ < (usK n).length by omega))) ?_))
     refine zbp rfl rfl rfl rfl rfl rfl (fun h15 => ?_) (fun h15 => absurd h15 (by omega))
     refine zaz 2 rfl ?_
     refine zau (zai ?_)
     exact zbb rfl rfl rfl
    refine zaz 1 rfl (zal rfl (zcq (zbd 1 rfl ?_)))
    exact zau (zbb rfl rfl rfl)
   refine zaz 5 rfl (zal rfl (zcq (zac (reQ 1 rfl ?_))))
   refine ntQ ?_
   exact zau (zbb rfl rfl rfl)
  refine zaz 10 rfl (zal rfl ?_)
  refine zcq (zeh (hvQ rfl (fdQ 0 rfl rfl rfl) (hvQ rfl (zad rfl rfl rfl (zaa 0 rfl rfl)) ?_)))
  refine zdi rfl rfl rfl rfl rfl rfl (fun h16 => ?_) (fun h16 => ?_)
  ·
   refine zap 1 rfl (hvQ rfl (fdQ 1 rfl rfl rfl) (hvQ rfl (zad rfl rfl rfl (zaa 0 rfl rfl)) ?_))
   refine zdi rfl rfl rfl rfl rfl rfl (fun h17 => ?_) (fun h17 => ?_)
   ·
    refine zaz 1 rfl (zak rfl (zac ?_))
    refine zby 5 [[], [0], [], [2], [1, 3]] [55, 56, 57, 58, 59] [.agg #[.int .i64 n.ins, n.sv, n.lv, n.ov], .int .i64 n.fst, .pointer (some ⟨b2, 0 + 0, none⟩), .int .i64 e.u, .int .i64 (n.fst + e.u)] (by kernel_rfl) rfl ?_ ?_
    ·
     exact ⟨iaQ rfl (zao (cs := [.int .i64 n.ins, n.sv, n.lv, n.ov]) rfl rfl rfl rfl rfl (zaj 1 rfl 0 rfl)) rfl, .inl ⟨rfl, zaq rfl rfl (fun w hm => zav (zfa n w (hr.below hm.bel) hok.sz))⟩, iaQ rfl (fdQ 0 rfl rfl rfl) rfl, iaQ rfl (zad rfl rfl rfl (zaa 0 rfl rfl)) rfl, iaQ rfl (vaQ rfl rfl rfl) rfl, trivial⟩
    simp only [List.drop_succ_cons, List.drop_zero]
    refine zaz 1 rfl (srQ ?_)
    have hb9 := (hok.sq e.f.toNat (by omega)).1.kind
    have p79 := p7 (by omega) (by omega)
    refine hvQ rfl (fdQ 1 rfl rfl rfl) (hvQ rfl (zad rfl rfl rfl (zaa 1 rfl rfl)) (hvQ rfl (fdQ 1 rfl rfl rfl) (hvQ rfl (zad rfl rfl rfl (zaa 0 rfl rfl)) (hvQ rfl (riQ 3 rfl rfl rfl rfl (zab ((hr).sq.row))) (hvQ rfl (zbe (k0 := 2) rfl rfl rfl (zab ((hr).sq.row)) (by omega)) ?_)))))
    refine hvQ rfl (zar (u := (n.ss.getD ((e.f).toNat) sq0).iv) rfl rfl rfl (zab ((hr).sq.row)) ((zce sqC 3 (fun _ => rfl) n.ss sq0 (show (e.f).toNat < _ by omega) (by decide)).trans rfl)) (hvQ rfl (riQ 1 rfl rfl rfl rfl (zab (hr.sq.at (d := sq0) (k := ((e.f).toNat)) (by omega)))) (hvQ rfl (zar (u := .int .i64 (((n.ss.getD ((e.f).toNat) sq0).xs).getD 0 0)) rfl rfl rfl (zab (hr.sq.at (d := sq0) (k := ((e.f).toNat)) (by omega))) (zbn (show _ < ((n.ss.getD ((e.f).toNat) sq0).xs).length by omega))) (zap 1 rfl ?_)))
    refine zbp rfl rfl rfl rfl rfl rfl (fun h18 => ?_) (fun h18 => absurd h18 (by omega))
    refine zap 1 rfl (hvQ rfl (zao (cs := [.int .i64 n.ins, n.sv, n.lv, n.ov]) rfl rfl rfl rfl rfl (zaj 1 rfl 0 rfl)) ?_)
    refine zfg rfl rfl rfl (zaq rfl rfl (fun w hm => zfm n w (hr.below hm.bel) hok)) ?_
    intro v19 p20 hR21
    subst hR21
    refine zap 1 rfl (hvQ rfl (riQ 1 rfl rfl rfl rfl (zae 0 rfl)) (hvQ rfl (zar (u := .int .i64 ((usK n).getD ((n.fst + e.u).toNat) 0)) rfl rfl rfl (zae 0 rfl) (zbn (show _ < (usK n).length by omega))) ?_))
    refine zbp rfl rfl rfl rfl rfl rfl (fun h22 => ?_) (fun h22 => absurd h22 (by omega))
    refine zaz 2 rfl ?_
    refine zau (zai ?_)
    exact zbb rfl rfl rfl
   refine zaz 1 rfl (zal rfl (zcq (zbd 1 rfl ?_)))
   exact zau (zbb rfl rfl rfl)
  refine zaz 5 rfl (zal rfl (zcq (zac (reQ 1 rfl ?_))))
  refine ntQ ?_
  exact zau (zbb rfl rfl rfl)
 refine zaz 6 rfl (zal rfl (zcq (zeh ?_)))
 refine hvQ rfl (fdQ 1 rfl rfl rfl) (hvQ rfl (zad rfl rfl rfl (zaa 0 rfl rfl)) ?_)
 refine zdi rfl rfl rfl rfl rfl rfl (fun h23 => ?_) (fun h23 => ?_)
 ·
  refine zap 1 rfl (hvQ rfl (fdQ 1 rfl rfl rfl) (hvQ rfl (zad rfl rfl rfl (zaa 1 rfl rfl)) (hvQ rfl (fdQ 1 rfl rfl rfl) (hvQ rfl (zad rfl rfl rfl (zaa 0 rfl rfl)) (hvQ rfl (riQ 3 rfl rfl rfl rfl (zab ((hr).sq.row))) (hvQ rfl (zbe (k0 := 0) rfl rfl rfl (zab ((hr).sq.row)) (by omega)) ?_))))))
  refine hvQ rfl (zar (u := .int .i64 ((n.ss.getD ((e.f).toNat) sq0).kd)) rfl rfl rfl (zab ((hr).sq.row)) ((zce sqC 3 (fun _ => rfl) n.ss sq0 (show (e.f).toNat < _ by omega) (by decide)).trans rfl)) ?_
  have p69 := p6 (by omega)
  refine zfj rfl rfl rfl rfl rfl rfl (fun h24 => absurd h24 (by omega)) (fun h24 => ?_)
  refine zaz 1 rfl (zal rfl (zcq (zeh (hvQ rfl (fdQ 0 rfl rfl rfl) (hvQ rfl (zad rfl rfl rfl (zaa 0 rfl rfl)) ?_)))))
  refine zdi rfl rfl rfl rfl rfl rfl (fun h25 => ?_) (fun h25 => ?_)
  ·
   refine zap 1 rfl (hvQ rfl (fdQ 1 rfl rfl rfl) (hvQ rfl (zad rfl rfl rfl (zaa 0 rfl rfl)) ?_))
   refine zdi rfl rfl rfl rfl rfl rfl (fun h26 => ?_) (fun h26 => ?_)
   ·
    refine zaz 1 rfl (zak rfl (zac ?_))
    refine zby 5 [[], [0], [], [2], [1, 3]] [55, 56, 57, 58, 59] [.agg #[.int .i64 n.ins, n.sv, n.lv, n.ov], .int .i64 n.fst, .pointer (some ⟨b2, 0 + 0, none⟩), .int .i64 e.u, .int .i64 (n.fst + e.u)] (by kernel_rfl) rfl ?_ ?_
    ·
     exact ⟨iaQ rfl (zao (cs := [.int .i64 n.ins, n.sv, n.lv, n.ov]) rfl rfl rfl rfl rfl (zaj 1 rfl 0 rfl)) rfl, .inl ⟨rfl, zaq rfl rfl (fun w hm => zav (zfa n w (hr.below hm.bel) hok.sz))⟩, iaQ rfl (fdQ 0 rfl rfl rfl) rfl, iaQ rfl (zad rfl rfl rfl (zaa 0 rfl rfl)) rfl, iaQ rfl (vaQ rfl rfl rfl) rfl, trivial⟩
    simp only [List.drop_succ_cons, List.drop_zero]
    refine zaz 1 rfl (srQ ?_)
    have hb9 := (hok.sq e.f.toNat (by omega)).1.kind
    have p79 := p7 (by omega) (by omega)
    refine hvQ rfl (fdQ 1 rfl rfl rfl) (hvQ rfl (zad rfl rfl rfl (zaa 1 rfl rfl)) (hvQ rfl (fdQ 1 rfl rfl rfl) (hvQ rfl (zad rfl rfl rfl (zaa 0 rfl rfl)) (hvQ rfl (riQ 3 rfl rfl rfl rfl (zab ((hr).sq.row))) (hvQ rfl (zbe (k0 := 2) rfl rfl rfl (zab ((hr).sq.row)) (by omega)) ?_)))))
    refine hvQ rfl (zar (u := (n.ss.getD ((e.f).toNat) sq0).iv) rfl rfl rfl (zab ((hr).sq.row)) ((zce sqC 3 (fun _ => rfl) n.ss sq0 (show (e.f).toNat < _ by omega) (by decide)).trans rfl)) (hvQ rfl (riQ 1 rfl rfl rfl rfl (zab (hr.sq.at (d := sq0) (k := ((e.f).toNat)) (by omega)))) (hvQ rfl (zar (u := .int .i64 (((n.ss.getD ((e.f).toNat) sq0).xs).getD 0 0)) rfl rfl rfl (zab (hr.sq.at (d := sq0) (k := ((e.f).toNat)) (by omega))) (zbn (show _ < ((n.ss.getD ((e.f).toNat) sq0).xs).length by omega))) (zap 1 rfl ?_)))
    refine zbp rfl rfl rfl rfl rfl rfl (fun h27 => ?_) (fun h27 => absurd h27 (by omega))
    refine zap 1 rfl (hvQ rfl (zao (cs := [.int .i64 n.ins, n.sv, n.lv, n.ov]) rfl rfl rfl rfl rfl (zaj 1 rfl 0 rfl)) ?_)
    refine zfg rfl rfl rfl (zaq rfl rfl (fun w hm => zfm n w (hr.below hm.bel) hok)) ?_
    intro v28 p29 hR30
    subst hR30
    refine zap 1 rfl (hvQ rfl (riQ 1 rfl rfl rfl rfl (zae 0 rfl)) (hvQ rfl (zar (u := .int .i64 ((usK n).getD ((n.fst + e.u).toNat) 0)) rfl rfl rfl (zae 0 rfl) (zbn (show _ < (usK n).length by omega))) ?_))
    refine zbp rfl rfl rfl rfl rfl rfl (fun h31 => ?_) (fun h31 => absurd h31 (by omega))
    refine zaz 2 rfl ?_
    refine zau (zai ?_)
    exact zbb rfl rfl rfl
   refine zaz 1 rfl (zal rfl (zcq (zbd 1 rfl ?_)))
   exact zau (zbb rfl rfl rfl)
  refine zaz 5 rfl (zal rfl (zcq (zac (reQ 1 rfl ?_))))
  refine ntQ ?_
  exact zau (zbb rfl rfl rfl)
 refine zaz 10 rfl (zal rfl ?_)
 refine zcq (zeh (hvQ rfl (fdQ 0 rfl rfl rfl) (hvQ rfl (zad rfl rfl rfl (zaa 0 rfl rfl)) ?_)))
 refine zdi rfl rfl rfl rfl rfl rfl (fun h32 => ?_) (fun h32 => ?_)
 ·
  refine zap 1 rfl (hvQ rfl (fdQ 1 rfl rfl rfl) (hvQ rfl (zad rfl rfl rfl (zaa 0 rfl rfl)) ?_))
  refine zdi rfl rfl rfl rfl rfl rfl (fun h33 => ?_) (fun h33 => ?_)
  ·
   refine zaz 1 rfl (zak rfl (zac ?_))
   refine zby 5 [[], [0], [], [2], [1, 3]] [55, 56, 57, 58, 59] [.agg #[.int .i64 n.ins, n.sv, n.lv, n.ov], .int .i64 n.fst, .pointer (some ⟨b2, 0 + 0, none⟩), .int .i64 e.u, .int .i64 (n.fst + e.u)] (by kernel_rfl) rfl ?_ ?_
   ·
    exact ⟨iaQ rfl (zao (cs := [.int .i64 n.ins, n.sv, n.lv, n.ov]) rfl rfl rfl rfl rfl (zaj 1 rfl 0 rfl)) rfl, .inl ⟨rfl, zaq rfl rfl (fun w hm => zav (zfa n w (hr.below hm.bel) hok.sz))⟩, iaQ rfl (fdQ 0 rfl rfl rfl) rfl, iaQ rfl (zad rfl rfl rfl (zaa 0 rfl rfl)) rfl, iaQ rfl (vaQ rfl rfl rfl) rfl, trivial⟩
   simp only [List.drop_succ_cons, List.drop_zero]
   refine zaz 1 rfl (srQ ?_)
   have hb9 := (hok.sq e.f.toNat (by omega)).1.kind
   have p79 := p7 (by omega) (by omega)
   refine hvQ rfl (fdQ 1 rfl rfl rfl) (hvQ rfl (zad rfl rfl rfl (zaa 1 rfl rfl)) (hvQ rfl (fdQ 1 rfl rfl rfl) (hvQ rfl (zad rfl rfl rfl (zaa 0 rfl rfl)) (hvQ rfl (riQ 3 rfl rfl rfl rfl (zab ((hr).sq.row))) (hvQ rfl (zbe (k0 := 2) rfl rfl rfl (zab ((hr).sq.row)) (by omega)) ?_)))))
   refine hvQ rfl (zar (u := (n.ss.getD ((e.f).toNat) sq0).iv) rfl rfl rfl (zab ((hr).sq.row)) ((zce sqC 3 (fun _ => rfl) n.ss sq0 (show (e.f).toNat < _ by omega) (by decide)).trans rfl)) (hvQ rfl (riQ 1 rfl rfl rfl rfl (zab (hr.sq.at (d := sq0) (k := ((e.f).toNat)) (by omega)))) (hvQ rfl (zar (u := .int .i64 (((n.ss.getD ((e.f).toNat) sq0).xs).getD 0 0)) rfl rfl rfl (zab (hr.sq.at (d := sq0) (k := ((e.f).toNat)) (by omega))) (zbn (show _ < ((n.ss.getD ((e.f).toNat) sq0).xs).length by omega))) (zap 1 rfl ?_)))
   refine zbp rfl rfl rfl rfl rfl rfl (fun h34 => ?_) (fun h34 => absurd h34 (by omega))
   refine zap 1 rfl (hvQ rfl (zao (cs := [.int .i64 n.ins, n.sv, n.lv, n.ov]) rfl rfl rfl rfl rfl (zaj 1 rfl 0 rfl)) ?_)
   refine zfg rfl rfl rfl (zaq rfl rfl (fun w hm => zfm n w (hr.below hm.bel) hok)) ?_
   intro v35 p36 hR37
   subst hR37
   refine zap 1 rfl (hvQ rfl (riQ 1 rfl rfl rfl rfl (zae 0 rfl)) (hvQ rfl (zar (u := .int .i64 ((usK n).getD ((n.fst + e.u).toNat) 0)) rfl rfl rfl (zae 0 rfl) (zbn (show _ < (usK n).length by omega))) ?_))
   refine zbp rfl rfl rfl rfl rfl rfl (fun h38 => ?_) (fun h38 => absurd h38 (by omega))
   refine zaz 2 rfl ?_
   refine zau (zai ?_)
   exact zbb rfl rfl rfl
  refine zaz 1 rfl (zal rfl (zcq (zbd 1 rfl ?_)))
  exact zau (zbb rfl rfl rfl)
 refine zaz 5 rfl (zal rfl (zcq (zac (reQ 1 rfl ?_))))
 refine ntQ ?_
 exact zau (zbb rfl rfl rfl)
theorem zit (n : Ln) (e : Le) (w : World) (hr : RdsLn w n) (hok : LnOk n) (he : LeIn n e) :
   Calls Try.prog 66 #[.agg #[.int .i64 n.ins, n.sv, n.lv, n.ov], .agg #[.int .i64 e.u, .int .i64 e.f]] w (Ans w (.int .i64 (outK n e))) := by
 have hso := sml hr.ou
 have hss := hr.sq.small
 have hsl := hr.lt.small
 have hcnt : n.cnt = 1 + n.ins + n.ss.length + n.ls.length := rfl
 have hfst : n.fst = 1 + n.ins + n.ss.length := rfl
 obtain ⟨⟨si0, si1⟩, s2, s3, s4⟩ := hok.sz
 obtain ⟨⟨eu0, eu1⟩, ⟨ef0, ef1⟩, eo⟩ := he
 refine zbf (N := 19) (args := [.agg #[.int .i64 n.ins, n.sv, n.lv, n.ov], .agg #[.int .i64 e.u, .int .i64 e.f]]) Try.func66 rfl rfl (srQ ?_)
 refine zdj rfl (zch rfl rfl) ?_
 intro b1
 refine zdj rfl (zch rfl rfl) ?_
 intro b2
 refine zaz 1 rfl (zeh (hvQ rfl (fdQ 1 rfl rfl rfl) (hvQ rfl (zad rfl rfl rfl (zaa 0 rfl rfl)) ?_)))
 refine zdi rfl rfl rfl rfl rfl rfl (fun h3 => ?_) (fun h3 => ?_)
 ·
  refine ntQ (zak rfl (srQ (hvQ rfl (fdQ 0 rfl rfl rfl) (hvQ rfl (zad rfl rfl rfl (zaa 1 rfl rfl)) (hvQ rfl (vaQ rfl rfl rfl) (hvQ rfl (fdQ 1 rfl rfl rfl) (hvQ rfl (zad rfl rfl rfl (zaa 0 rfl rfl)) (hvQ rfl (vaQ rfl rfl rfl) (zap 1 rfl (?_))))))))))
  refine ntQ ?_
  refine zau (zai ?_)
  exact zbb rfl rfl (by unfold outK; rw [if_pos (by omega)])
 refine ntQ (zal rfl (zcq (zac ?_)))
 refine zby 5 [[], [0], [], [2], [1, 3]] [14, 15, 16, 17, 18] [.agg #[.int .i64 n.ins, n.sv, n.lv, n.ov], .int .i64 n.fst, .pointer (some ⟨b2, 0 + 0, none⟩), .int .i64 e.u, .int .i64 (n.fst + e.u)] (by kernel_rfl) rfl ?_ ?_
 ·
  exact ⟨iaQ rfl (zao (cs := [.int .i64 n.ins, n.sv, n.lv, n.ov]) rfl rfl rfl rfl rfl (zaj 1 rfl 0 rfl)) rfl, .inl ⟨rfl, zaq rfl rfl (fun w hm => zav (zfa n w (hr.below hm.bel) hok.sz))⟩, iaQ rfl (fdQ 0 rfl rfl rfl) rfl, iaQ rfl (zad rfl rfl rfl (zaa 0 rfl rfl)) rfl, iaQ rfl (vaQ rfl rfl rfl) rfl, trivial⟩
 simp only [List.drop_succ_cons, List.drop_zero]
 refine zaz 1 rfl ?_
 exact zau (zbb rfl rfl (by unfold outK; rw [if_neg (by omega)]; rfl))
theorem znd (n : Ln) (e : Le) (w : World) (hr : RdsLn w n) (hok : LnOk n) (he : LeIn n e) :
   Calls Try.prog 67 #[.agg #[.int .i64 n.ins, n.sv, n.lv, n.ov], .agg #[.int .i64 e.u, .int .i64 e.f]] w (Ret w (fun v' post => post = [rowE 3 1 v' ((insK n e)).length (((insK n e)).map (Value.int .i64))])) := by
 have hso := sml hr.ou
 have hss := hr.sq.small
 have hsl := hr.lt.small
 have hcnt : n.cnt = 1 + n.ins + n.ss.length + n.ls.length := rfl
 have hfst : n.fst = 1 + n.ins + n.ss.length := rfl
 obtain ⟨⟨si0, si1⟩, s2, s3, s4⟩ := hok.sz
 obtain ⟨⟨eu0, eu1⟩, ⟨ef0, ef1⟩, eo⟩ := (show LeIn n e from he)
 refine zbf (N := 39) (args := [.agg #[.int .i64 n.ins, n.sv, n.lv, n.ov], .agg #[.int .i64 e.u, .int .i64 e.f]]) Try.func67 rfl rfl (srQ ?_)
 refine zdj rfl (zch rfl rfl) ?_
 intro b1
 refine zdj rfl (zch rfl rfl) ?_
 intro b2
 refine zes 3 1 (zaz 1 rfl (zac (reQ 1 rfl ?_)))
 refine zes 3 1 (zaz 1 rfl (zeh (hvQ rfl (fdQ 0 rfl rfl rfl) (hvQ rfl (zad rfl rfl rfl (zaa 2 rfl rfl)) ?_))))
 refine zdi rfl rfl rfl rfl rfl rfl (fun h5 => ?_) (fun h5 => ?_)
 ·
  refine ntQ (zak rfl (zay ?_))
  have hb9 := (hok.lt e.u.toNat (by omega)).1.1
  refine hvQ rfl (fdQ 2 rfl rfl rfl) (hvQ rfl (zad rfl rfl rfl (zaa 3 rfl rfl)) (hvQ rfl (fdQ 0 rfl rfl rfl) (hvQ rfl (zad rfl rfl rfl (zaa 2 rfl rfl)) (hvQ rfl (riQ 2 rfl rfl rfl rfl (zab ((hr).lt.row))) (hvQ rfl (zbe (k0 := 0) rfl rfl rfl (zab ((hr).lt.row)) (by omega)) ?_)))))
  refine hvQ rfl (zar (u := (n.ls.getD ((e.u).toNat) lt0).iv) rfl rfl rfl (zab ((hr).lt.row)) ((zce ltC 2 (fun _ => rfl) n.ls lt0 (show (e.u).toNat < _ by omega) (by decide)).trans rfl)) (zaz 1 rfl (zac (zac (reQ 1 rfl (hvQ rfl (lnQ rfl rfl rfl (zab (hr.lt.at (d := lt0) (k := ((e.u).toNat)) (by omega)))) (zaz 1 rfl (zax ?_)))))))
  refine zgn (α := Nat) (β := Value) (γ := List Int) [0, 1, 2, 3, 4, 5, 11, 26, 27] rfl (fun k gu zs => [rowE 3 1 gu zs.length (zs.map (Value.int .i64)), rowE 3 1 (.slice none 0 0) 0 ([]), boxE b2 #[.int .i64 e.u, .int .i64 e.f] 70, boxE b1 #[.int .i64 n.ins, n.sv, n.lv, n.ov] 30]) (fun k gu zs => [(6, gu), (28, .int .i64 (k : Int))]) (fun k gu zs => k ≤ (n.ls.getD ((e.u).toNat) lt0).xs.length ∧ zs = liA (n.ls.getD ((e.u).toNat) lt0).xs k) (fun k gu zs => (n.ls.getD ((e.u).toNat) lt0).xs.length - k) 0 _ [] ⟨Nat.zero_le _, rfl⟩ (saQ rfl) (pfQ rfl) ?_
  intro k gu zs hi6
  obtain ⟨hk, hz⟩ := hi6
  obtain ⟨hx0, hxe⟩ := liA_lt hok he (by omega)
  have hzl : zs.length ≤ k := by rw [hz]; exact (zqk hx0 k hk).2.2
  refine srQ ?_
  refine zbj rfl rfl rfl rfl rfl rfl (fun h7 => ?_) (fun h7 => ?_)
  ·
   refine ntQ (tcQ rfl (zcq (sbQ (srQ (hvQ rfl (riQ 1 rfl rfl rfl rfl (zab (hr.lt.at (d := lt0) (k := ((e.u).toNat)) (by omega)))) (hvQ rfl (zar (u := .int .i64 (((n.ls.getD ((e.u).toNat) lt0).xs).getD k 0)) rfl rfl rfl (zab (hr.lt.at (d := lt0) (k := ((e.u).toNat)) (by omega))) (zbn (show _ < ((n.ls.getD ((e.u).toNat) lt0).xs).length by omega))) (zap 1 rfl ?_)))))))
   refine ntQ (zac (reQ 1 rfl ?_))
   refine zfj rfl rfl rfl rfl rfl rfl (fun h8 => ?_) (fun h8 => ?_)
   ·
    refine ntQ (zak rfl (reQ 2 rfl ?_))
    refine zdt (R := (fun v' p' => p' = rowE 3 1 v' (insI zs (((n.ls.getD ((e.u).toNat) lt0).xs).getD k 0)).length ((insI zs (((n.ls.getD ((e.u).toNat) lt0).xs).getD k 0)).map (Value.int .i64)))) 0 rfl rfl rfl rfl rfl (fun l' w hm => zfx _ zs _ (by first | omega | (simp; done)) w hm) ?_
    intro v9 p10 hR11
    subst hR11
    refine zev (l' := [rowE 3 1 v9 ((insI zs (((n.ls.getD ((e.u).toNat) lt0).xs).getD k 0)).length) ((insI zs (((n.ls.getD ((e.u).toNat) lt0).xs).getD k 0)).map (Value.int .i64)), rowE 3 1 (.slice none 0 0) 0 ([]), boxE b2 #[.int .i64 e.u, .int .i64 e.f] 70, boxE b1 #[.int .i64 n.ins, n.sv, n.lv, n.ov] 30]) rfl ?_
    refine enQ 1 rfl (zcv (zay (hvQ rfl (vaQ rfl rfl rfl) (enQ 1 rfl ?_))))
    exact zbi (k + 1) v9 (insI zs (((n.ls.getD ((e.u).toNat) lt0).xs).getD k 0)) ⟨by omega, by rw [hz]; exact zti (by assumption)⟩ (by omega) (saQ rfl) (pfQ rfl)
   refine ntQ (fsQ rfl (zcv (zay (hvQ rfl (vaQ rfl rfl rfl) (enQ 1 rfl ?_)))))
   exact zbi (k + 1) gu zs ⟨by omega, hz.trans (zwk (by assumption))⟩ (by omega) (saQ rfl) (pfQ rfl)
  refine ntQ (fcQ rfl ?_)
  refine zba (zdq ?_)
  refine zag (zaw (zbd 2 rfl ?_))
  exact zau (zck (post := [rowE 3 1 gu zs.length (zs.map (Value.int .i64))]) rfl rfl (slQ [0] rfl) (by rw [hz, show k = (n.ls.getD ((e.u).toNat) lt0).xs.length by omega, hxe]))
 refine ntQ (zal rfl (zay ?_))
 have hb9 := (hok.sq e.f.toNat (by omega)).1.kind
 refine hvQ rfl (fdQ 1 rfl rfl rfl) (hvQ rfl (zad rfl rfl rfl (zaa 3 rfl rfl)) (hvQ rfl (fdQ 1 rfl rfl rfl) (hvQ rfl (zad rfl rfl rfl (zaa 2 rfl rfl)) (hvQ rfl (riQ 3 rfl rfl rfl rfl (zab ((hr).sq.row))) (hvQ rfl (zbe (k0 := 2) rfl rfl rfl (zab ((hr).sq.row)) (by omega)) ?_)))))
 refine hvQ rfl (zar (u := (n.ss.getD ((e.f).toNat) sq0).iv) rfl rfl rfl (zab ((hr).sq.row)) ((zce sqC 3 (fun _ => rfl) n.ss sq0 (show (e.f).toNat < _ by omega) (by decide)).trans rfl)) (zaz 1 rfl (zac (zac (reQ 1 rfl (hvQ rfl (lnQ rfl rfl rfl (zab (hr.sq.at (d := sq0) (k := ((e.f).toNat)) (by omega)))) (zaz 1 rfl (zax ?_)))))))
 refine zgn (α := Nat) (β := Value) (γ := List Int) [0, 1, 2, 3, 4, 5, 11, 26, 27] rfl (fun k gu zs => [rowE 3 1 gu zs.length (zs.map (Value.int .i64)), rowE 3 1 (.slice none 0 0) 0 ([]), boxE b2 #[.int .i64 e.u, .int .i64 e.f] 70, boxE b1 #[.int .i64 n.ins, n.sv, n.lv, n.ov] 30]) (fun k gu zs => [(6, gu), (28, .int .i64 (k : Int))]) (fun k gu zs => k ≤ (n.ss.getD ((e.f).toNat) sq0).xs.length ∧ zs = liA (n.ss.getD ((e.f).toNat) sq0).xs k) (fun k gu zs => (n.ss.getD ((e.f).toNat) sq0).xs.length - k) 0 _ [] ⟨Nat.zero_le _, rfl⟩ (saQ rfl) (pfQ rfl) ?_
 intro k gu zs hi12
 obtain ⟨hk, hz⟩ := hi12
 obtain ⟨hx0, hxe⟩ := liA_sq hok he (by omega)
 have hzl : zs.length ≤ k := by rw [hz]; exact (zqk hx0 k hk).2.2
 refine srQ ?_
 refine zbj rfl rfl rfl rfl rfl rfl (fun h13 => ?_) (fun h13 => ?_)
 ·
  refine ntQ (tcQ rfl (zcq (sbQ (srQ (hvQ rfl (riQ 1 rfl rfl rfl rfl (zab (hr.sq.at (d := sq0) (k := ((e.f).toNat)) (by omega)))) (hvQ rfl (zar (u := .int .i64 (((n.ss.getD ((e.f).toNat) sq0).xs).getD k 0)) rfl rfl rfl (zab (hr.sq.at (d := sq0) (k := ((e.f).toNat)) (by omega))) (zbn (show _ < ((n.ss.getD ((e.f).toNat) sq0).xs).length by omega))) (zap 1 rfl ?_)))))))
  refine ntQ (zac (reQ 1 rfl ?_))
  refine zfj rfl rfl rfl rfl rfl rfl (fun h14 => ?_) (fun h14 => ?_)
  ·
   refine ntQ (zak rfl (reQ 2 rfl ?_))
   refine zdt (R := (fun v' p' => p' = rowE 3 1 v' (insI zs (((n.ss.getD ((e.f).toNat) sq0).xs).getD k 0)).length ((insI zs (((n.ss.getD ((e.f).toNat) sq0).xs).getD k 0)).map (Value.int .i64)))) 0 rfl rfl rfl rfl rfl (fun l' w hm => zfx _ zs _ (by first | omega | (simp; done)) w hm) ?_
   intro v15 p16 hR17
   subst hR17
   refine zev (l' := [rowE 3 1 v15 ((insI zs (((n.ss.getD ((e.f).toNat) sq0).xs).getD k 0)).length) ((insI zs (((n.ss.getD ((e.f).toNat) sq0).xs).getD k 0)).map (Value.int .i64)), rowE 3 1 (.slice none 0 0) 0 ([]), boxE b2 #[.int .i64 e.u, .int .i64 e.f] 70, boxE b1 #[.int .i64 n.ins, n.sv, n.lv, n.ov] 30]) rfl ?_
   refine enQ 1 rfl (zcv (zay (hvQ rfl (vaQ rfl rfl rfl) (enQ 1 rfl ?_))))
   exact zbi (k + 1) v15 (insI zs (((n.ss.getD ((e.f).toNat) sq0).xs).getD k 0)) ⟨by omega, by rw [hz]; exact zti (by assumption)⟩ (by omega) (saQ rfl) (pfQ rfl)
  refine ntQ (fsQ rfl (zcv (zay (hvQ rfl (vaQ rfl rfl rfl) (enQ 1 rfl ?_)))))
  exact zbi (k + 1) gu zs ⟨by omega, hz.trans (zwk (by assumption))⟩ (by omega) (saQ rfl) (pfQ rfl)
 refine ntQ (fcQ rfl ?_)
 refine zba (zdq ?_)
 refine zag (zaw (zbd 2 rfl ?_))
 exact zau (zck (post := [rowE 3 1 gu zs.length (zs.map (Value.int .i64))]) rfl rfl (slQ [0] rfl) (by rw [hz, show k = (n.ss.getD ((e.f).toNat) sq0).xs.length by omega, hxe]))
theorem zhm (n : Ln) (b : Bk) (w : World) (hr : RdsLn w n) (hok : LnOk n) (hbe : RdsW w b.bv 2 b.es.length (b.es.flatMap leC)) (hbl : b.es.length ≤ 100) (hb : BkIn n b) :
   Calls Try.prog 34 #[.agg #[.int .i64 n.ins, n.sv, n.lv, n.ov], .agg #[.int .i64 b.kd, .int .i64 b.it, b.bv]] w (Ans w (.bool true)) := by
 have hso := sml hr.ou
 have hss := hr.sq.small
 have hsl := hr.lt.small
 have hcnt : n.cnt = 1 + n.ins + n.ss.length + n.ls.length := rfl
 have hfst : n.fst = 1 + n.ins + n.ss.length := rfl
 obtain ⟨⟨si0, si1⟩, s2, s3, s4⟩ := hok.sz
 have hb1 := hbe.one
 refine zbf (N := 49) (args := [.agg #[.int .i64 n.ins, n.sv, n.lv, n.ov], .agg #[.int .i64 b.kd, .int .i64 b.it, b.bv]]) Try.func34 rfl rfl (srQ ?_)
 refine zdj rfl (zch rfl rfl) ?_
 intro b1
 refine zdj rfl (zch rfl rfl) ?_
 intro b2
 refine zaz 1 rfl (zeh (hvQ rfl (fdQ 0 rfl rfl rfl) (hvQ rfl (zad rfl rfl rfl (zaa 0 rfl rfl)) (ntQ (zax (zac ?_))))))
 refine zay (zbp rfl rfl rfl rfl rfl rfl (fun h3 => ?_) (fun h3 => ?_))
 ·
  refine zaz 1 rfl (zak rfl (srQ (hvQ rfl (fdQ 1 rfl rfl rfl) (hvQ rfl (zad rfl rfl rfl (zaa 0 rfl rfl)) (hvQ rfl (fdQ 0 rfl rfl rfl) (hvQ rfl (zad rfl rfl rfl (zaa 1 rfl rfl)) (hvQ rfl (vsQ rfl rfl rfl) ?_)))))))
  refine zds rfl (zaq rfl rfl (fun w hm => zav (zgb (zdy _ _ _ w)))) (zca (fun h4 => ?_) (fun h4 => ?_))
  ·
   obtain ⟨h4a, h4b⟩ := (zdc _ _ _).1 h4
   refine zaz 1 rfl ?_
   refine zau (zan ?_)
   exact zai (zbb rfl rfl rfl)
  have h4a := zea h4
  refine zaz 1 rfl ?_
  refine zau (zan ?_)
  refine zai ?_
  exfalso; rcases hb with ⟨p1, p2, p3⟩ | ⟨p1, p2, p3⟩ | ⟨p1, p2, p3⟩ | ⟨p1, p2⟩ <;> omega
 refine zaz 1 rfl (zal rfl (srQ ?_))
 refine zbp rfl rfl rfl rfl rfl rfl (fun h5 => ?_) (fun h5 => ?_)
 ·
  refine zaz 1 rfl (zak rfl (srQ (hvQ rfl (fdQ 1 rfl rfl rfl) (hvQ rfl (zad rfl rfl rfl (zaa 0 rfl rfl)) (hvQ rfl (fdQ 3 rfl rfl rfl) (hvQ rfl (zad rfl rfl rfl (zaa 1 rfl rfl)) (hvQ rfl (lnQ rfl rfl rfl (zab ((hr).ou))) (hvQ rfl (vsQ rfl rfl rfl) ?_))))))))
  refine zds rfl (zaq rfl rfl (fun w hm => zav (zgb (zdy _ _ _ w)))) (zca (fun h6 => ?_) (fun h6 => ?_))
  ·
   obtain ⟨h6a, h6b⟩ := (zdc _ _ _).1 h6
   refine zaz 1 rfl ?_
   refine zau (zan ?_)
   exact zai (zbb rfl rfl rfl)
  have h6a := zea h6
  refine zaz 1 rfl ?_
  refine zau (zan ?_)
  refine zai ?_
  exfalso; rcases hb with ⟨p1, p2, p3⟩ | ⟨p1, p2, p3⟩ | ⟨p1, p2, p3⟩ | ⟨p1, p2⟩ <;> omega
 refine zaz 1 rfl (zal rfl (srQ ?_))
 refine zbp rfl rfl rfl rfl rfl rfl (fun h7 => ?_) (fun h7 => ?_)
 ·
  refine zaz 1 rfl (zak rfl (srQ (hvQ rfl (fdQ 1 rfl rfl rfl) (hvQ rfl (zad rfl rfl rfl (zaa 0 rfl rfl)) (hvQ rfl (fdQ 1 rfl rfl rfl) (hvQ rfl (zad rfl rfl rfl (zaa 1 rfl rfl)) (hvQ rfl (lnQ rfl rfl rfl (zab ((hr).sq.row))) (hvQ rfl (vsQ rfl rfl rfl) ?_))))))))
  refine zds rfl (zaq rfl rfl (fun w hm => zav (zgb (zdy _ _ _ w)))) (zca (fun h8 => ?_) (fun h8 => ?_))
  ·
   obtain ⟨h8a, h8b⟩ := (zdc _ _ _).1 h8
   refine zaz 1 rfl ?_
   refine zau (zan ?_)
   exact zai (zbb rfl rfl rfl)
  have h8a := zea h8
  refine zaz 1 rfl ?_
  refine zau (zan ?_)
  refine zai ?_
  exfalso; rcases hb with ⟨p1, p2, p3⟩ | ⟨p1, p2, p3⟩ | ⟨p1, p2, p3⟩ | ⟨p1, p2⟩ <;> omega
 refine zaz 1 rfl (zal rfl (srQ ?_))
 refine zbp rfl rfl rfl rfl rfl rfl (fun h9 => ?_) (fun h9 => ?_)
 ·
  refine zaz 1 rfl (zak rfl (zeh (hvQ rfl (fdQ 2 rfl rfl rfl) (hvQ rfl (zad rfl rfl rfl (zaa 0 rfl rfl)) (hvQ rfl (lnQ rfl rfl rfl (zab hbe)) (enQ 1 rfl ?_))))))
  refine zaw (zax ?_)
  refine zka (α := Nat) [0, 1, 2, 3, 4, 8, 9, 17, 26, 35, 38, 39] rfl (fun k => [boxE b2 #[.int .i64 b.kd, .int .i64 b.it, b.bv] 39, boxE b1 #[.int .i64 n.ins, n.sv, n.lv, n.ov] 30]) (fun k => [(40, .int .i64 (k : Int))]) (fun k => k ≤ b.es.length) (fun k => b.es.length - k) 0 (Nat.zero_le _) (saQ rfl) (pfQ rfl) ?_
  intro k hi10
  have hk := hi10
  have p2 : ∀ k, k < b.es.length → LeP n (b.es.getD k le0) := by rcases hb with ⟨p1, p2, p3⟩ | ⟨p1, p2, p3⟩ | ⟨p1, p2, p3⟩ | ⟨p1, p2⟩ <;> first | omega | exact p2
  refine srQ ?_
  refine zbj rfl rfl rfl rfl rfl rfl (fun h11 => ?_) (fun h11 => ?_)
  ·
   refine ntQ (tcQ rfl (zcq (sbQ (srQ (hvQ rfl (riQ 2 rfl rfl rfl rfl (zab hbe)) ?_)))))
   refine hvQ rfl (zbt (us := [.int .i64 ((b.es.getD k le0).u), .int .i64 ((b.es.getD k le0).f)]) rfl rfl rfl rfl (zab hbe) (by omega) rfl (zcp leC 2 (fun _ => rfl) b.es le0 (show k < _ by omega) rfl)) (zdj rfl (zbx (z := .agg #[.int .i64 0, .int .i64 0]) rfl rfl) ?_)
   intro b12
   refine zcc (cs' := #[.int .i64 ((b.es.getD k le0).u), .int .i64 ((b.es.getD k le0).f)]) (i := 0) (off := 0) (us := [.int .i64 ((b.es.getD k le0).u), .int .i64 ((b.es.getD k le0).f)]) rfl rfl rfl rfl rfl rfl rfl (zah rfl (zah rfl zbr)) rfl rfl rfl (ntQ (srQ (hvQ rfl (zao (cs := [.int .i64 n.ins, n.sv, n.lv, n.ov]) rfl rfl rfl rfl rfl (zaj 2 rfl 0 rfl)) (hvQ rfl (zao (cs := [.int .i64 ((b.es.getD k le0).u), .int .i64 ((b.es.getD k le0).f)]) rfl rfl rfl rfl rfl (zaj 0 rfl 0 rfl)) ?_))))
   refine zds rfl (zaq rfl rfl (fun w hm => zav (zux n (b.es.getD k le0) w (hr.below hm.bel) hok (p2 k (by omega))))) (zaz 1 rfl (fsQ rfl (zcv (zay (hvQ rfl (vaQ rfl rfl rfl) (enQ 1 rfl ?_))))))
   exact zcr (k + 1) (by omega) (by omega) (saQ rfl) (slQ [1, 0] rfl)
  refine ntQ (fcQ rfl ?_)
  refine zba (zdq ?_)
  refine zag (zaw (zbd 1 rfl ?_))
  refine zau (zan ?_)
  exact zai (zbb rfl rfl rfl)
 refine zaz 1 rfl (fsQ rfl (zcv (zbd 1 rfl ?_)))
 refine zau ?_
 exfalso; rcases hb with ⟨p1, p2, p3⟩ | ⟨p1, p2, p3⟩ | ⟨p1, p2, p3⟩ | ⟨p1, p2⟩ <;> omega
theorem zhu (n : Ln) (b : Bk) (w : World) (hr : RdsLn w n) (hok : LnOk n) (hbe : RdsW w b.bv 2 b.es.length (b.es.flatMap leC)) (hbl : b.es.length ≤ 100) (hb : BkIn n b) :
   Calls Try.prog 29 #[.agg #[.int .i64 n.ins, n.sv, n.lv, n.ov], .agg #[.int .i64 b.kd, .int .i64 b.it, b.bv]] w (Ret w (fun v' post => post = [rowE 3 1 v' ((pinN n b)).length (((pinN n b)).map (Value.int .i64))])) := by
 have hso := sml hr.ou
 have hss := hr.sq.small
 have hsl := hr.lt.small
 have hcnt : n.cnt = 1 + n.ins + n.ss.length + n.ls.length := rfl
 have hfst : n.fst = 1 + n.ins + n.ss.length := rfl
 obtain ⟨⟨si0, si1⟩, s2, s3, s4⟩ := hok.sz
 have hb1 := hbe.one
 refine zbf (N := 75) (args := [.agg #[.int .i64 n.ins, n.sv, n.lv, n.ov], .agg #[.int .i64 b.kd, .int .i64 b.it, b.bv]]) Try.func29 rfl rfl (srQ ?_)
 refine zdj rfl (zch rfl rfl) ?_
 intro b1
 refine zdj rfl (zch rfl rfl) ?_
 intro b2
 refine zes 3 1 (zaz 1 rfl (zeh (hvQ rfl (fdQ 0 rfl rfl rfl) (hvQ rfl (zad rfl rfl rfl (zaa 1 rfl rfl)) (ntQ (zax (zac ?_)))))))
 refine zay (zbp rfl rfl rfl rfl rfl rfl (fun h4 => ?_) (fun h4 => ?_))
 ·
  refine zaz 1 rfl (zak rfl (srQ ?_))
  refine zes 3 1 (zaz 1 rfl ?_)
  refine zau (zan ?_)
  exact zai (zck (post := [rowE 3 1 (.slice none 0 0) 0 ([])]) rfl rfl (slQ [0] rfl) (by unfold pinN; first | (rw [if_neg (not_not_intro hb), if_pos (by omega)] <;> rfl) | (rw [if_neg (not_not_intro hb), if_neg (by omega), if_pos (by omega)] <;> rfl) | (rw [if_neg (not_not_intro hb), if_neg (by omega), if_neg (by omega), if_pos (by omega)] <;> rfl)))
 refine zaz 1 rfl (zal rfl (srQ ?_))
 refine zbp rfl rfl rfl rfl rfl rfl (fun h6 => ?_) (fun h6 => ?_)
 ·
  refine zaz 1 rfl (zak rfl (srQ ?_))
  have hrg : (b.kd = 0 → 0 ≤ b.it ∧ b.it < n.ins) ∧ (b.kd = 1 → 0 ≤ b.it ∧ b.it < n.os.length) ∧ (b.kd = 2 → 0 ≤ b.it ∧ b.it < n.ss.length) := by rcases hb with ⟨p1, p2, p3⟩ | ⟨p1, p2, p3⟩ | ⟨p1, p2, p3⟩ | ⟨p1, p2⟩ <;> omega
  refine hvQ rfl (fdQ 3 rfl rfl rfl) (hvQ rfl (zad rfl rfl rfl (zaa 2 rfl rfl)) (hvQ rfl (fdQ 1 rfl rfl rfl) (hvQ rfl (zad rfl rfl rfl (zaa 1 rfl rfl)) (hvQ rfl (riQ 1 rfl rfl rfl rfl (zab ((hr).ou))) (hvQ rfl (lzQ rfl rfl rfl (zab ((hr).ou))) ?_)))))
  refine zdk rfl (zat (z := .int .i64 0) (s := 1) (cs := ([n.os.getD ((b.it).toNat) 0].map (Value.int .i64))) rfl Try.underlying28 rfl (by decide) rfl (by kernel_rfl) rfl) ?_
  intro g7
  refine zaz 1 rfl ?_
  refine zau (zan ?_)
  exact zai (zck (post := [rowE 3 1 (.slice (some ⟨g7, 0, none⟩) 1 1) 1 ([n.os.getD ((b.it).toNat) 0].map (Value.int .i64))]) rfl rfl (slQ [0] rfl) (by unfold pinN; first | (rw [if_neg (not_not_intro hb), if_pos (by omega)] <;> rfl) | (rw [if_neg (not_not_intro hb), if_neg (by omega), if_pos (by omega)] <;> rfl) | (rw [if_neg (not_not_intro hb), if_neg (by omega), if_neg (by omega), if_pos (by omega)] <;> rfl)))
 refine zaz 1 rfl (zal rfl (srQ ?_))
 refine zbp rfl rfl rfl rfl rfl rfl (fun h8 => ?_) (fun h8 => ?_)
 ·
  refine zaz 1 rfl (zak rfl (srQ ?_))
  have hrg : (b.kd = 0 → 0 ≤ b.it ∧ b.it < n.ins) ∧ (b.kd = 1 → 0 ≤ b.it ∧ b.it < n.os.length) ∧ (b.kd = 2 → 0 ≤ b.it ∧ b.it < n.ss.length) := by rcases hb with ⟨p1, p2, p3⟩ | ⟨p1, p2, p3⟩ | ⟨p1, p2, p3⟩ | ⟨p1, p2⟩ <;> omega
  have hsq9 := (hok.sq b.it.toNat (by omega)).1.len
  refine hvQ rfl (fdQ 1 rfl rfl rfl) (hvQ rfl (zad rfl rfl rfl (zaa 2 rfl rfl)) (hvQ rfl (fdQ 1 rfl rfl rfl) (hvQ rfl (zad rfl rfl rfl (zaa 1 rfl rfl)) (hvQ rfl (riQ 3 rfl rfl rfl rfl (zab ((hr).sq.row))) (hvQ rfl (zbe (k0 := 2) rfl rfl rfl (zab ((hr).sq.row)) (by omega)) ?_)))))
  refine hvQ rfl (zar (u := (n.ss.getD ((b.it).toNat) sq0).iv) rfl rfl rfl (zab ((hr).sq.row)) ((zce sqC 3 (fun _ => rfl) n.ss sq0 (show (b.it).toNat < _ by omega) (by decide)).trans rfl)) (zfg rfl rfl rfl (zaq rfl rfl (fun w hm => zmk ((n.ss.getD ((b.it).toNat) sq0).xs) _ w ((zab ((hr.sq.at (d := sq0) (k := ((b.it).toNat)) (by omega)))) w hm) (by omega))) ?_)
  intro v9 p10 hR11
  subst hR11
  refine zaz 1 rfl ?_
  refine zau (zan ?_)
  exact zai (zck (post := [rowE 3 1 v9 (((n.ss.getD ((b.it).toNat) sq0).xs).length) (((n.ss.getD ((b.it).toNat) sq0).xs).map (Value.int .i64))]) rfl rfl (slQ [0] rfl) (by unfold pinN; first | (rw [if_neg (not_not_intro hb), if_pos (by omega)] <;> rfl) | (rw [if_neg (not_not_intro hb), if_neg (by omega), if_pos (by omega)] <;> rfl) | (rw [if_neg (not_not_intro hb), if_neg (by omega), if_neg (by omega), if_pos (by omega)] <;> rfl)))
 refine zaz 1 rfl (fsQ rfl (zcv (srQ ?_)))
 have hin9 : ∀ k, k < b.es.length → LeIn n (b.es.getD k le0) := by rcases hb with ⟨p1, p2, p3⟩ | ⟨p1, p2, p3⟩ | ⟨p1, p2, p3⟩ | ⟨p1, p2⟩ <;> first | omega | exact fun q hq => (p2 q hq).1
 refine zes 3 1 (zap 1 rfl ?_)
 refine zes 3 1 (zaz 1 rfl (zeh (hvQ rfl (fdQ 2 rfl rfl rfl) (hvQ rfl (zad rfl rfl rfl (zaa 3 rfl rfl)) (hvQ rfl (lnQ rfl rfl rfl (zab hbe)) (zaz 1 rfl ?_))))))
 refine zax ?_
 refine zhy (α := Nat) (β := Value) [0, 1, 2, 3, 4, 6, 14, 15, 17, 26, 37, 38] rfl (fun k gv => [rowE 3 1 (.slice none 0 0) 0 ([]), rowE 3 1 gv ((outL n b.es k).length) ((outL n b.es k).map (Value.int .i64)), rowE 3 1 (.slice none 0 0) 0 ([]), boxE b2 #[.int .i64 b.kd, .int .i64 b.it, b.bv] 39, boxE b1 #[.int .i64 n.ins, n.sv, n.lv, n.ov] 30]) (fun k gv => [(5, gv), (39, .int .i64 (k : Int))]) (fun k gv => k ≤ b.es.length) (fun k gv => b.es.length - k) 0 _ (Nat.zero_le _) (saQ rfl) (pfQ rfl) ?_
 intro k gv hi14
 have hk := hi14
 have hol := zhd n b.es k
 refine srQ ?_
 refine zbj rfl rfl rfl rfl rfl rfl (fun h15 => ?_) (fun h15 => ?_)
 ·
  refine ntQ (tcQ rfl (zcq (sbQ (srQ (hvQ rfl (riQ 2 rfl rfl rfl rfl (zab hbe)) ?_)))))
  refine hvQ rfl (zbt (us := [.int .i64 ((b.es.getD k le0).u), .int .i64 ((b.es.getD k le0).f)]) rfl rfl rfl rfl (zab hbe) (by omega) rfl (zcp leC 2 (fun _ => rfl) b.es le0 (show k < _ by omega) rfl)) (zdj rfl (zbx (z := .agg #[.int .i64 0, .int .i64 0]) rfl rfl) ?_)
  intro b16
  refine zcc (cs' := #[.int .i64 ((b.es.getD k le0).u), .int .i64 ((b.es.getD k le0).f)]) (i := 0) (off := 0) (us := [.int .i64 ((b.es.getD k le0).u), .int .i64 ((b.es.getD k le0).f)]) rfl rfl rfl rfl rfl rfl rfl (zah rfl (zah rfl zbr)) rfl rfl rfl (ntQ (zay ?_))
  have hle9 := hin9 k (by omega)
  refine zap 1 rfl (hvQ rfl (zao (cs := [.int .i64 n.ins, n.sv, n.lv, n.ov]) rfl rfl rfl rfl rfl (zaj 5 rfl 0 rfl)) (hvQ rfl (zao (cs := [.int .i64 ((b.es.getD k le0).u), .int .i64 ((b.es.getD k le0).f)]) rfl rfl rfl rfl rfl (zaj 0 rfl 0 rfl)) ?_))
  refine zds rfl (zaq rfl rfl (fun w hm => zav (zit n (b.es.getD k le0) w (hr.below hm.bel) hok hle9))) (zdk rfl (zat (z := .int .i64 0) (s := 1) (cs := ([outK n (b.es.getD k le0)].map (Value.int .i64))) rfl Try.underlying28 rfl (by decide) rfl (by kernel_rfl) rfl) ?_)
  intro g17
  refine zcd (i := 3) (z := .int .i64 0) (bytes := 8) rfl rfl rfl rfl Try.underlying28 (by kernel_rfl) rfl rfl rfl rfl (zae 0 rfl) (zbm _) (by first | omega | (simp; done) | (simp; omega)) (zbv (outL n b.es k) ([outK n (b.es.getD k le0)])) (zcm (outL n b.es k) ([outK n (b.es.getD k le0)])) (fun _ => rfl) ?_
  intro v18
  refine enQ 1 rfl (zcv (zay (hvQ rfl (vaQ rfl rfl rfl) (enQ 1 rfl ?_))))
  exact zbq (k + 1) v18 (by omega) (by omega) (saQ rfl) (slQ [2, 0, 0, 0, 0] rfl)
 refine ntQ (fcQ rfl ?_)
 refine zba (zdq ?_)
 refine zag (zaw (zeh (hvQ rfl (fdQ 2 rfl rfl rfl) (hvQ rfl (zad rfl rfl rfl (zaa 3 rfl rfl)) (hvQ rfl (lnQ rfl rfl rfl (zab hbe)) (zaz 1 rfl (zax ?_)))))))
 refine zgn (α := Nat) (β := Value) (γ := List Int) [0, 1, 2, 3, 4, 5, 14, 15, 17, 26, 37, 38, 39, 40, 51, 52] rfl (fun i gp zs => [rowE 3 1 gp zs.length (zs.map (Value.int .i64)), rowE 3 1 gv ((outL n b.es k).length) ((outL n b.es k).map (Value.int .i64)), rowE 3 1 (.slice none 0 0) 0 ([]), boxE b2 #[.int .i64 b.kd, .int .i64 b.it, b.bv] 39, boxE b1 #[.int .i64 n.ins, n.sv, n.lv, n.ov] 30]) (fun i gp zs => [(6, gp), (53, .int .i64 (i : Int))]) (fun i gp zs => i ≤ b.es.length ∧ zs = piA n b.es (outL n b.es k) i) (fun i gp zs => b.es.length - i) 0 _ [] ⟨Nat.zero_le _, rfl⟩ (saQ rfl) (pfQ rfl) ?_
 intro i gp zs hi19
 obtain ⟨hi, hz⟩ := hi19
 have hzl : zs.length ≤ 4 * i := by rw [hz]; exact (zqa hok hin9 (outL n b.es k) i hi).2.2
 have hza : (piA n b.es (outL n b.es k) i).Pairwise (· < ·) := (zqa hok hin9 (outL n b.es k) i hi).1
 refine srQ ?_
 refine zbj rfl rfl rfl rfl rfl rfl (fun h20 => ?_) (fun h20 => ?_)
 ·
  refine ntQ (tcQ rfl (zcq (sbQ (srQ (hvQ rfl (riQ 2 rfl rfl rfl rfl (zab hbe)) ?_)))))
  refine hvQ rfl (zbt (us := [.int .i64 ((b.es.getD i le0).u), .int .i64 ((b.es.getD i le0).f)]) rfl rfl rfl rfl (zab hbe) (by omega) rfl (zcp leC 2 (fun _ => rfl) b.es le0 (show i < _ by omega) rfl)) (zdj rfl (zbx (z := .agg #[.int .i64 0, .int .i64 0]) rfl rfl) ?_)
  intro b21
  refine zcc (cs' := #[.int .i64 ((b.es.getD i le0).u), .int .i64 ((b.es.getD i le0).f)]) (i := 0) (off := 0) (us := [.int .i64 ((b.es.getD i le0).u), .int .i64 ((b.es.getD i le0).f)]) rfl rfl rfl rfl rfl rfl rfl (zah rfl (zah rfl zbr)) rfl rfl rfl (ntQ (srQ ?_))
  have hle9 := hin9 i (by omega)
  have hil9 := zir hok hle9
  refine hvQ rfl (zao (cs := [.int .i64 n.ins, n.sv, n.lv, n.ov]) rfl rfl rfl rfl rfl (zaj 5 rfl 0 rfl)) (hvQ rfl (zao (cs := [.int .i64 ((b.es.getD i le0).u), .int .i64 ((b.es.getD i le0).f)]) rfl rfl rfl rfl rfl (zaj 0 rfl 0 rfl)) ?_)
  refine zfg rfl rfl rfl (zaq rfl rfl (fun w hm => znd n (b.es.getD i le0) w (hr.below hm.bel) hok hle9)) ?_
  intro v22 p23 hR24
  subst hR24
  refine hvQ rfl (lnQ rfl rfl rfl (zae 0 rfl)) (zaz 1 rfl (zax ?_))
  refine zgn (α := Nat) (β := Value) (γ := List Int) [0, 1, 2, 3, 4, 5, 10, 14, 15, 17, 26, 37, 38, 39, 40, 51, 52, 53, 54, 59, 60] rfl (fun q gq us => [rowE 3 1 v22 ((insK n (b.es.getD i le0)).length) ((insK n (b.es.getD i le0)).map (Value.int .i64)), boxE b21 #[.int .i64 ((b.es.getD i le0).u), .int .i64 ((b.es.getD i le0).f)] 70, rowE 3 1 gq us.length (us.map (Value.int .i64)), rowE 3 1 gv ((outL n b.es k).length) ((outL n b.es k).map (Value.int .i64)), rowE 3 1 (.slice none 0 0) 0 ([]), boxE b2 #[.int .i64 b.kd, .int .i64 b.it, b.bv] 39, boxE b1 #[.int .i64 n.ins, n.sv, n.lv, n.ov] 30]) (fun q gq us => [(6, gq), (61, .int .i64 (q : Int))]) (fun q gq us => q ≤ (insK n (b.es.getD i le0)).length ∧ us = piB zs (insK n (b.es.getD i le0)) (outL n b.es k) q) (fun q gq us => (insK n (b.es.getD i le0)).length - q) 0 _ zs ⟨Nat.zero_le _, rfl⟩ (saQ rfl) (pfQ rfl) ?_
  intro q gq us hi25
  obtain ⟨hq, hu⟩ := hi25
  have hul9 : us.length ≤ zs.length + q := by rw [hu]; exact (zsw (by rw [hz]; exact hza) q hq).2.2
  refine srQ ?_
  refine zbj rfl rfl rfl rfl rfl rfl (fun h26 => ?_) (fun h26 => ?_)
  ·
   refine ntQ (tcQ rfl (zcq (sbQ (srQ (hvQ rfl (riQ 1 rfl rfl rfl rfl (zae 0 rfl)) (hvQ rfl (zar (u := .int .i64 ((insK n (b.es.getD i le0)).getD q 0)) rfl rfl rfl (zae 0 rfl) (zbn (show _ < (insK n (b.es.getD i le0)).length by omega))) (zap 1 rfl ?_)))))))
   refine ntQ (zac (reQ 2 rfl ?_))
   refine zds rfl (zaq rfl rfl (fun w hm => zav (zpd (outL n b.es k) ((insK n (b.es.getD i le0)).getD q 0) _ w ((zae 3 rfl) w hm) (by omega)))) (zca (fun h27 => ?_) (fun h27 => ?_))
   ·
    refine zaz 1 rfl (fsQ rfl (zcv (zay (hvQ rfl (vaQ rfl rfl rfl) (enQ 1 rfl ?_)))))
    exact zbi (q + 1) gq us ⟨by omega, hu.trans (piB_no (by assumption))⟩ (by omega) (saQ rfl) (pfQ rfl)
   refine zaz 1 rfl (zak rfl (reQ 2 rfl ?_))
   refine zdt (R := (fun v' p' => p' = rowE 3 1 v' (insI us ((insK n (b.es.getD i le0)).getD q 0)).length ((insI us ((insK n (b.es.getD i le0)).getD q 0)).map (Value.int .i64)))) 2 rfl rfl rfl rfl rfl (fun l' w hm => zfx _ us _ (by first | omega | (simp; done)) w hm) ?_
   intro v28 p29 hR30
   subst hR30
   refine zev (l' := [rowE 3 1 v22 ((insK n (b.es.getD i le0)).length) ((insK n (b.es.getD i le0)).map (Value.int .i64)), boxE b21 #[.int .i64 ((b.es.getD i le0).u), .int .i64 ((b.es.getD i le0).f)] 70, rowE 3 1 v28 ((insI us ((insK n (b.es.getD i le0)).getD q 0)).length) ((insI us ((insK n (b.es.getD i le0)).getD q 0)).map (Value.int .i64)), rowE 3 1 gv ((outL n b.es k).length) ((outL n b.es k).map (Value.int .i64)), rowE 3 1 (.slice none 0 0) 0 ([]), boxE b2 #[.int .i64 b.kd, .int .i64 b.it, b.bv] 39, boxE b1 #[.int .i64 n.ins, n.sv, n.lv, n.ov] 30]) rfl ?_
   refine enQ 1 rfl (zcv (zay (hvQ rfl (vaQ rfl rfl rfl) (enQ 1 rfl ?_))))
   exact zbi (q + 1) v28 (insI us ((insK n (b.es.getD i le0)).getD q 0)) ⟨by omega, by rw [hu]; exact piB_yes (by assumption)⟩ (by omega) (saQ rfl) (pfQ rfl)
  refine ntQ (fcQ rfl ?_)
  refine zba (zdq ?_)
  refine zag (zcv (zay (hvQ rfl (vaQ rfl rfl rfl) (enQ 1 rfl ?_))))
  exact zbi (i + 1) gq us ⟨by omega, by rw [hu, show q = (insK n (b.es.getD i le0)).length by omega, hz]; rfl⟩ (by omega) (saQ rfl) (slQ [2, 0, 0, 0, 0] rfl)
 refine ntQ (fcQ rfl ?_)
 refine zba (zdq ?_)
 refine zag (zaw (zbd 2 rfl ?_))
 refine zau ?_
 have hke : k = b.es.length := by omega
 exact zck (post := [rowE 3 1 gp zs.length (zs.map (Value.int .i64))]) rfl rfl (slQ [0] rfl) (by rw [hz, show i = b.es.length by omega, hke, piA_eq hok hin9]; unfold pinN; rw [if_neg (not_not_intro hb), if_neg (by omega), if_neg (by omega), if_neg (by omega)])
theorem zhv (n : Ln) (b : Bk) (w : World) (hr : RdsLn w n) (hok : LnOk n) (hbe : RdsW w b.bv 2 b.es.length (b.es.flatMap leC)) (hbl : b.es.length ≤ 100) (hb : BkIn n b) :
   Calls Try.prog 30 #[.agg #[.int .i64 n.ins, n.sv, n.lv, n.ov], .agg #[.int .i64 b.kd, .int .i64 b.it, b.bv]] w (Ret w (fun v' post => post = [rowE 3 1 v' ((outNd n b)).length (((outNd n b)).map (Value.int .i64))])) := by
 have hso := sml hr.ou
 have hss := hr.sq.small
 have hsl := hr.lt.small
 have hcnt : n.cnt = 1 + n.ins + n.ss.length + n.ls.length := rfl
 have hfst : n.fst = 1 + n.ins + n.ss.length := rfl
 obtain ⟨⟨si0, si1⟩, s2, s3, s4⟩ := hok.sz
 have hb1 := hbe.one
 refine zbf (N := 42) (args := [.agg #[.int .i64 n.ins, n.sv, n.lv, n.ov], .agg #[.int .i64 b.kd, .int .i64 b.it, b.bv]]) Try.func30 rfl rfl (srQ ?_)
 refine zdj rfl (zch rfl rfl) ?_
 intro b1
 refine zdj rfl (zch rfl rfl) ?_
 intro b2
 refine zes 3 1 (zaz 1 rfl (zeh (hvQ rfl (fdQ 0 rfl rfl rfl) (hvQ rfl (zad rfl rfl rfl (zaa 1 rfl rfl)) (ntQ (zax (zac ?_)))))))
 refine zay (zbp rfl rfl rfl rfl rfl rfl (fun h4 => ?_) (fun h4 => ?_))
 ·
  refine zaz 1 rfl (zak rfl (srQ ?_))
  have hrg : (b.kd = 0 → 0 ≤ b.it ∧ b.it < n.ins) ∧ (b.kd = 1 → 0 ≤ b.it ∧ b.it < n.os.length) ∧ (b.kd = 2 → 0 ≤ b.it ∧ b.it < n.ss.length) := by rcases hb with ⟨p1, p2, p3⟩ | ⟨p1, p2, p3⟩ | ⟨p1, p2, p3⟩ | ⟨p1, p2⟩ <;> omega
  refine hvQ rfl (fdQ 1 rfl rfl rfl) (hvQ rfl (zad rfl rfl rfl (zaa 1 rfl rfl)) (hvQ rfl (vaQ rfl rfl rfl) ?_))
  refine zdk rfl (zat (z := .int .i64 0) (s := 1) (cs := ([1 + b.it].map (Value.int .i64))) rfl Try.underlying28 rfl (by decide) rfl (by kernel_rfl) rfl) ?_
  intro g5
  refine zaz 1 rfl ?_
  refine zau (zan ?_)
  exact zai (zck (post := [rowE 3 1 (.slice (some ⟨g5, 0, none⟩) 1 1) 1 ([1 + b.it].map (Value.int .i64))]) rfl rfl (slQ [0] rfl) (by unfold outNd; first | (rw [if_neg (not_not_intro hb), if_pos (by omega)] <;> rfl) | (rw [if_neg (not_not_intro hb), if_neg (by omega), if_pos (by omega)] <;> rfl) | (rw [if_neg (not_not_intro hb), if_neg (by omega), if_neg (by omega), if_pos (by omega)] <;> rfl)))
 refine zaz 1 rfl (zal rfl (srQ ?_))
 refine zbp rfl rfl rfl rfl rfl rfl (fun h6 => ?_) (fun h6 => ?_)
 ·
  refine zaz 1 rfl (zak rfl (srQ ?_))
  refine zes 3 1 (zaz 1 rfl ?_)
  refine zau (zan ?_)
  exact zai (zck (post := [rowE 3 1 (.slice none 0 0) 0 ([])]) rfl rfl (slQ [0] rfl) (by unfold outNd; first | (rw [if_neg (not_not_intro hb), if_pos (by omega)] <;> rfl) | (rw [if_neg (not_not_intro hb), if_neg (by omega), if_pos (by omega)] <;> rfl) | (rw [if_neg (not_not_intro hb), if_neg (by omega), if_neg (by omega), if_pos (by omega)] <;> rfl)))
 refine zaz 1 rfl (zal rfl (srQ ?_))
 refine zbp rfl rfl rfl rfl rfl rfl (fun h8 => ?_) (fun h8 => ?_)
 ·
  refine zaz 1 rfl (zak rfl (srQ ?_))
  have hrg : (b.kd = 0 → 0 ≤ b.it ∧ b.it < n.ins) ∧ (b.kd = 1 → 0 ≤ b.it ∧ b.it < n.os.length) ∧ (b.kd = 2 → 0 ≤ b.it ∧ b.it < n.ss.length) := by rcases hb with ⟨p1, p2, p3⟩ | ⟨p1, p2, p3⟩ | ⟨p1, p2, p3⟩ | ⟨p1, p2⟩ <;> omega
  refine hvQ rfl (fdQ 0 rfl rfl rfl) (hvQ rfl (zad rfl rfl rfl (zaa 2 rfl rfl)) (hvQ rfl (vaQ rfl rfl rfl) (hvQ rfl (fdQ 1 rfl rfl rfl) (hvQ rfl (zad rfl rfl rfl (zaa 1 rfl rfl)) (hvQ rfl (vaQ rfl rfl rfl) ?_)))))
  refine zdk rfl (zat (z := .int .i64 0) (s := 1) (cs := ([(1 + n.ins) + b.it].map (Value.int .i64))) rfl Try.underlying28 rfl (by decide) rfl (by kernel_rfl) rfl) ?_
  intro g9
  refine zaz 1 rfl ?_
  refine zau (zan ?_)
  exact zai (zck (post := [rowE 3 1 (.slice (some ⟨g9, 0, none⟩) 1 1) 1 ([(1 + n.ins) + b.it].map (Value.int .i64))]) rfl rfl (slQ [0] rfl) (by unfold outNd; first | (rw [if_neg (not_not_intro hb), if_pos (by omega)] <;> rfl) | (rw [if_neg (not_not_intro hb), if_neg (by omega), if_pos (by omega)] <;> rfl) | (rw [if_neg (not_not_intro hb), if_neg (by omega), if_neg (by omega), if_pos (by omega)] <;> rfl)))
 refine zaz 1 rfl (fsQ rfl (zcv (srQ ?_)))
 have hin9 : ∀ k, k < b.es.length → LeIn n (b.es.getD k le0) := by rcases hb with ⟨p1, p2, p3⟩ | ⟨p1, p2, p3⟩ | ⟨p1, p2, p3⟩ | ⟨p1, p2⟩ <;> first | omega | exact fun q hq => (p2 q hq).1
 refine zes 3 1 (zaz 1 rfl (zeh (hvQ rfl (fdQ 2 rfl rfl rfl) (hvQ rfl (zad rfl rfl rfl (zaa 2 rfl rfl)) (hvQ rfl (lnQ rfl rfl rfl (zab hbe)) (zaz 1 rfl ?_))))))
 refine zax ?_
 refine zhy (α := Nat) (β := Value) [0, 1, 2, 3, 4, 9, 10, 16, 18, 28, 29] rfl (fun k gv => [rowE 3 1 gv ((outL n b.es k).length) ((outL n b.es k).map (Value.int .i64)), rowE 3 1 (.slice none 0 0) 0 ([]), boxE b2 #[.int .i64 b.kd, .int .i64 b.it, b.bv] 39, boxE b1 #[.int .i64 n.ins, n.sv, n.lv, n.ov] 30]) (fun k gv => [(5, gv), (30, .int .i64 (k : Int))]) (fun k gv => k ≤ b.es.length) (fun k gv => b.es.length - k) 0 _ (Nat.zero_le _) (saQ rfl) (pfQ rfl) ?_
 intro k gv hi11
 have hk := hi11
 have hol := zhd n b.es k
 refine srQ ?_
 refine zbj rfl rfl rfl rfl rfl rfl (fun h12 => ?_) (fun h12 => ?_)
 ·
  refine ntQ (tcQ rfl (zcq (sbQ (srQ (hvQ rfl (riQ 2 rfl rfl rfl rfl (zab hbe)) ?_)))))
  refine hvQ rfl (zbt (us := [.int .i64 ((b.es.getD k le0).u), .int .i64 ((b.es.getD k le0).f)]) rfl rfl rfl rfl (zab hbe) (by omega) rfl (zcp leC 2 (fun _ => rfl) b.es le0 (show k < _ by omega) rfl)) (zdj rfl (zbx (z := .agg #[.int .i64 0, .int .i64 0]) rfl rfl) ?_)
  intro b13
  refine zcc (cs' := #[.int .i64 ((b.es.getD k le0).u), .int .i64 ((b.es.getD k le0).f)]) (i := 0) (off := 0) (us := [.int .i64 ((b.es.getD k le0).u), .int .i64 ((b.es.getD k le0).f)]) rfl rfl rfl rfl rfl rfl rfl (zah rfl (zah rfl zbr)) rfl rfl rfl (ntQ (zay ?_))
  have hle9 := hin9 k (by omega)
  refine zap 1 rfl (hvQ rfl (zao (cs := [.int .i64 n.ins, n.sv, n.lv, n.ov]) rfl rfl rfl rfl rfl (zaj 4 rfl 0 rfl)) (hvQ rfl (zao (cs := [.int .i64 ((b.es.getD k le0).u), .int .i64 ((b.es.getD k le0).f)]) rfl rfl rfl rfl rfl (zaj 0 rfl 0 rfl)) ?_))
  refine zds rfl (zaq rfl rfl (fun w hm => zav (zit n (b.es.getD k le0) w (hr.below hm.bel) hok hle9))) (zdk rfl (zat (z := .int .i64 0) (s := 1) (cs := ([outK n (b.es.getD k le0)].map (Value.int .i64))) rfl Try.underlying28 rfl (by decide) rfl (by kernel_rfl) rfl) ?_)
  intro g14
  refine zcd (i := 2) (z := .int .i64 0) (bytes := 8) rfl rfl rfl rfl Try.underlying28 (by kernel_rfl) rfl rfl rfl rfl (zae 0 rfl) (zbm _) (by first | omega | (simp; done) | (simp; omega)) (zbv (outL n b.es k) ([outK n (b.es.getD k le0)])) (zcm (outL n b.es k) ([outK n (b.es.getD k le0)])) (fun _ => rfl) ?_
  intro v15
  refine enQ 1 rfl (zcv (zay (hvQ rfl (vaQ rfl rfl rfl) (enQ 1 rfl ?_))))
  exact zbq (k + 1) v15 (by omega) (by omega) (saQ rfl) (slQ [2, 0, 0, 0] rfl)
 refine ntQ (fcQ rfl ?_)
 refine zba (zdq ?_)
 refine zag (zaw (zbd 2 rfl ?_))
 refine zau ?_
 have hke : k = b.es.length := by omega
 exact zck (post := [rowE 3 1 gv ((outL n b.es k).length) ((outL n b.es k).map (Value.int .i64))]) rfl rfl (slQ [0] rfl) (by rw [hke]; unfold outNd; rw [if_neg (not_not_intro hb), if_neg (by omega), if_neg (by omega), if_neg (by omega)])
end Go.Proofs.Yteikplehipifkaa
