/- Timing graphs: plain definitions and laws. -/
import Derived.Test.YteccnnpcigkmhaaShf
import Derived.Test.YteccnnpcigkmhaaCur3
import Derived.Test.YteccnnpcigkmhaaHas
set_option linter.unusedVariables false
set_option linter.unusedSimpArgs false
namespace Go.Proofs.Yteccnnpcigkmhaa
open Go.RowKit
structure Arc where
  f : Int
  t : Int
  d : Int
abbrev arc0 : Arc := ⟨0, 0, 0⟩
def arcC (a : Arc) : List Value := [.int .i64 a.f, .int .i64 a.t, .int .i64 a.d]
def ArcOk (n : Int) (a : Arc) : Prop := (0 ≤ a.f ∧ a.f < a.t) ∧ a.t < n ∧ 0 ≤ a.d ∧ a.d ≤ 100
structure GOk (n : Int) (gs : List Arc) : Prop where
  n0 : 1 ≤ n
  n1 : n ≤ 500
  len : gs.length ≤ 2000
  ok : ∀ a ∈ gs, ArcOk n a
theorem GOk.at {n : Int} {gs : List Arc} (h : GOk n gs) {i : Nat} (hi : i < gs.length) : (0 ≤ (gs.getD i arc0).f ∧ (gs.getD i arc0).f < (gs.getD i arc0).t) ∧ (gs.getD i arc0).t < n ∧ 0 ≤ (gs.getD i arc0).d ∧ (gs.getD i arc0).d ≤ 100 := h.ok _ (getD_mem' hi)
def intoL (gs : List Arc) (k : Nat) : List Arc := gs.filter (fun a => a.t == (k : Int))
theorem into_mem {gs : List Arc} {k : Nat} {a : Arc} : a ∈ intoL gs k ↔ a ∈ gs ∧ a.t = k := by unfold intoL; simp [List.mem_filter]
theorem take_snoc {α : Type} {l : List α} {k : Nat} (d : α) (h : k < l.length) : l.take (k + 1) = l.take k ++ [l.getD k d] := by
  rw [List.take_succ_eq_append_getElem h, List.getD_eq_getElem?_getD, List.getElem?_eq_getElem h]; rfl
theorem into_snoc {gs : List Arc} {j : Nat} (h : j < gs.length) (k : Nat) : intoL (gs.take (j + 1)) k = if (gs.getD j arc0).t = (k : Int) then intoL (gs.take j) k ++ [gs.getD j arc0] else intoL (gs.take j) k := by
  unfold intoL
  rw [take_snoc arc0 h, List.filter_append]
  by_cases hk : (gs.getD j arc0).t = (k : Int)
  · rw [if_pos hk, List.filter_cons, if_pos (by simpa using hk)]; rfl
  · rw [if_neg hk, List.filter_cons, if_neg (by simpa using hk)]; simp
theorem into_len (gs : List Arc) (k : Nat) : (intoL gs k).length ≤ gs.length := List.length_filter_le _ _
structure ARow where
  v : Value
  ar : List Arc
abbrev row0 : ARow := ⟨.slice none 0 0, []⟩
def rowC (r : ARow) : List Value := [r.v]
abbrev aPart (r : ARow) : HP := rowE 82 3 r.v r.ar.length (r.ar.flatMap arcC)
abbrev intoE (v : Value) (rs : List ARow) : HP := bigE [bigE (rs.map aPart), rowE 36 1 v rs.length (rs.flatMap rowC)]
structure RdsInto (w : World) (v : Value) (rs : List ARow) : Prop where
  row : RdsW w v 1 rs.length (rs.flatMap rowC)
  ar : ∀ r ∈ rs, RdsW w r.v 3 r.ar.length (r.ar.flatMap arcC)
theorem RdsInto.below {w w' : World} {v : Value} {rs : List ARow} (h : RdsInto w v rs) (hb : Below w.heap.size w w') : RdsInto w' v rs := ⟨h.row.below hb, fun r hr => (h.ar r hr).below hb⟩
theorem RdsInto.at {w : World} {v : Value} {rs : List ARow} (h : RdsInto w v rs) {k : Nat} (hk : k < rs.length) : RdsW w (rs.getD k row0).v 3 (rs.getD k row0).ar.length ((rs.getD k row0).ar.flatMap arcC) := h.ar _ (getD_mem' hk)
theorem into_rds {w0 : World} {l : List HP} {v : Value} {rs : List ARow} (i : Nat) (hi : l[i]? = some (intoE v rs)) (w : World) (hm : Mem w0 l w) : RdsInto w v rs := by
  obtain ⟨b1, -⟩ := hm.holds _ (mem_at hi)
  have c1 := (b1 _ (List.mem_cons_self)).2
  have c2 := (b1 _ (List.mem_cons_of_mem _ List.mem_cons_self)).2
  exact ⟨rdsW_own c2, fun r hr => rdsW_own (c1.1 (aPart r) (List.mem_map.2 ⟨r, hr, rfl⟩)).2⟩
/-- the rows are those of the arcs into each node -/
def IntoOk (gs : List Arc) (n : Int) (rs : List ARow) : Prop := rs.length = n.toNat ∧ ∀ k, k < rs.length → (rs.getD k row0).ar = intoL gs k
theorem getD_set_ne2 {α : Type} {es : List α} {i j : Nat} {d e : α} (h : j ≠ i) : (es.set j e).getD i d = es.getD i d := by
  rw [List.getD_eq_getElem?_getD, List.getElem?_set_ne h, ← List.getD_eq_getElem?_getD]
theorem into_step {gs : List Arc} {n : Int} {rs : List ARow} {j : Nat} {u : Value} (hg : GOk n gs) (hj : j < gs.length) (h : IntoOk (gs.take j) n rs) :
    IntoOk (gs.take (j + 1)) n (rs.set ((gs.getD j arc0).t).toNat ⟨u, (rs.getD ((gs.getD j arc0).t).toNat row0).ar ++ [gs.getD j arc0]⟩) := by
  obtain ⟨h1, h2⟩ := h
  obtain ⟨⟨a1, a2⟩, a3, -⟩ := hg.at hj
  refine ⟨by rw [List.length_set]; exact h1, fun k hk => ?_⟩
  rw [List.length_set] at hk
  rw [into_snoc hj]
  by_cases he : (gs.getD j arc0).t = (k : Int)
  · rw [if_pos he, he, Int.toNat_natCast, getD_set_self' hk, h2 k hk]
  · rw [if_neg he, getD_set_ne2 (by omega)]; exact h2 k hk
/-! ### delays -/
def stepD (lg : Bool) (out : List Int) (b : Int) (a : Arc) : Int :=
  if out.getD a.f.toNat 0 < 0 then b
  else if b < 0 ∨ (lg = true ∧ b < out.getD a.f.toNat 0 + a.d) ∨ (lg = false ∧ out.getD a.f.toNat 0 + a.d < b) then out.getD a.f.toNat 0 + a.d else b
theorem st_skip {lg : Bool} {out : List Int} {b : Int} {a : Arc} (h : out.getD a.f.toNat 0 < 0) : stepD lg out b a = b := by unfold stepD; rw [if_pos h]
theorem st_set {lg : Bool} {out : List Int} {b : Int} {a : Arc} (h : ¬ out.getD a.f.toNat 0 < 0) (h2 : b < 0 ∨ (lg = true ∧ b < out.getD a.f.toNat 0 + a.d) ∨ (lg = false ∧ out.getD a.f.toNat 0 + a.d < b)) : stepD lg out b a = out.getD a.f.toNat 0 + a.d := by
  unfold stepD; rw [if_neg h, if_pos h2]
theorem st_noT {out : List Int} {b : Int} {a : Arc} (h : ¬ out.getD a.f.toNat 0 < 0) (h1 : ¬ b < 0) (h2 : ¬ b < out.getD a.f.toNat 0 + a.d) : stepD true out b a = b := by
  unfold stepD; rw [if_neg h, if_neg (by rintro (h | ⟨-, h⟩ | ⟨h, -⟩); exact h1 h; exact h2 h; cases h)]
theorem st_noF {out : List Int} {b : Int} {a : Arc} (h : ¬ out.getD a.f.toNat 0 < 0) (h1 : ¬ b < 0) (h2 : ¬ out.getD a.f.toNat 0 + a.d < b) : stepD false out b a = b := by
  unfold stepD; rw [if_neg h, if_neg (by rintro (h | ⟨h, -⟩ | ⟨-, h⟩); exact h1 h; cases h; exact h2 h)]
def nodeD (lg : Bool) (out : List Int) (s : Int) (k : Nat) (l : List Arc) : Int := if (k : Int) = s then 0 else l.foldl (stepD lg out) (-1)
def delL (lg : Bool) (gs : List Arc) (s : Int) : Nat → List Int
  | 0 => []
  | k + 1 => delL lg gs s k ++ [nodeD lg (delL lg gs s k) s k (intoL gs k)]
theorem del_len (lg : Bool) (gs : List Arc) (s : Int) : ∀ k, (delL lg gs s k).length = k
  | 0 => rfl
  | k + 1 => by rw [delL, List.length_append, del_len lg gs s k]; rfl
/-- a node's delay -/
def Dl (lg : Bool) (gs : List Arc) (s : Int) (k : Nat) : Int := nodeD lg (delL lg gs s k) s k (intoL gs k)
theorem del_at (lg : Bool) (gs : List Arc) (s : Int) : ∀ k i, i < k → (delL lg gs s k).getD i 0 = Dl lg gs s i
  | 0, i, h => by omega
  | k + 1, i, h => by
    have hl := del_len lg gs s k
    rw [delL, List.getD_eq_getElem?_getD]
    by_cases hi : i < k
    · rw [List.getElem?_append_left (by omega), ← List.getD_eq_getElem?_getD]; exact del_at lg gs s k i hi
    · have : i = k := by omega
      subst this
      rw [List.getElem?_append_right (by omega), hl, Nat.sub_self]; rfl
theorem del_set (lg : Bool) (gs : List Arc) (s : Int) (k N : Nat) (hk : k < N) (x : Int) : (delL lg gs s k ++ List.replicate (N - k) 0).set k x = delL lg gs s k ++ [x] ++ List.replicate (N - (k + 1)) 0 := by
  have hl := del_len lg gs s k
  rw [List.set_append_right _ _ (by omega), hl, Nat.sub_self, show N - k = (N - (k + 1)) + 1 by omega, List.replicate_succ, List.set_cons_zero, List.append_assoc]; rfl
theorem del_next (lg : Bool) (gs : List Arc) (s : Int) (k N : Nat) (hk : k < N) {x : Int} (hx : x = Dl lg gs s k) : (delL lg gs s k ++ List.replicate (N - k) 0).set k x = delL lg gs s (k + 1) ++ List.replicate (N - (k + 1)) 0 := by
  rw [del_set lg gs s k N hk, hx]; rfl
theorem del_low (lg : Bool) (gs : List Arc) (s : Int) (k N i : Nat) (hk : k < N) (x : Int) (hi : i < k) : ((delL lg gs s k ++ List.replicate (N - k) 0).set k x).getD i 0 = Dl lg gs s i := by
  rw [getD_set_ne2 (by omega), List.getD_eq_getElem?_getD, List.getElem?_append_left (by rw [del_len]; exact hi), ← List.getD_eq_getElem?_getD]
  exact del_at lg gs s k i hi
theorem del_mid (lg : Bool) (gs : List Arc) (s : Int) (k N : Nat) (hk : k < N) (x : Int) : ((delL lg gs s k ++ List.replicate (N - k) 0).set k x).getD k 0 = x :=
  getD_set_self' (by rw [List.length_append, del_len, List.length_replicate]; omega)
theorem Dl_def (lg : Bool) (gs : List Arc) (s : Int) (k : Nat) : Dl lg gs s k = if (k : Int) = s then 0 else (intoL gs k).foldl (stepD lg (delL lg gs s k)) (-1) := rfl
/-- what a fold of steps keeps -/
theorem fold_keep {lg : Bool} {out : List Int} {P : Int → Prop} : ∀ (l : List Arc) (b : Int), P b → (∀ b a, a ∈ l → P b → P (stepD lg out b a)) → P (l.foldl (stepD lg out) b)
  | [], b, h, _ => h
  | a :: l, b, h, hs => fold_keep l _ (hs b a List.mem_cons_self h) (fun b a ha => hs b a (List.mem_cons_of_mem _ ha))
theorem fold_skip {lg : Bool} {out : List Int} : ∀ (l : List Arc) (b : Int), (∀ a ∈ l, out.getD a.f.toNat 0 < 0) → l.foldl (stepD lg out) b = b
  | [], b, _ => rfl
  | a :: l, b, h => by rw [List.foldl_cons, st_skip (h a List.mem_cons_self)]; exact fold_skip l b (fun a ha => h a (List.mem_cons_of_mem _ ha))
theorem into_ok {n : Int} {gs : List Arc} (hg : GOk n gs) {k : Nat} {a : Arc} (h : a ∈ intoL gs k) : 0 ≤ a.f ∧ a.f < k ∧ 0 ≤ a.d ∧ a.d ≤ 100 := by
  obtain ⟨h1, h2⟩ := into_mem.1 h
  obtain ⟨⟨x1, x2⟩, x3, x4, x5⟩ := hg.ok a h1
  exact ⟨x1, by omega, x4, x5⟩
theorem into_at {n : Int} {gs : List Arc} (hg : GOk n gs) {k m : Nat} (h : m < (intoL gs k).length) : 0 ≤ ((intoL gs k).getD m arc0).f ∧ ((intoL gs k).getD m arc0).f < k ∧ 0 ≤ ((intoL gs k).getD m arc0).d ∧ ((intoL gs k).getD m arc0).d ≤ 100 := into_ok hg (getD_mem' h)
theorem Dl_rng {n : Int} {gs : List Arc} (hg : GOk n gs) (lg : Bool) (s : Int) : ∀ (N k : Nat), k < N → -1 ≤ Dl lg gs s k ∧ Dl lg gs s k ≤ 100 * (k : Int)
  | 0, k, h => by omega
  | N + 1, k, h => by
    by_cases hk : k < N
    · exact Dl_rng hg lg s N k hk
    · rw [Dl_def]
      split
      · omega
      · refine fold_keep (P := fun x => -1 ≤ x ∧ x ≤ 100 * (k : Int)) _ _ (by omega) (fun b a ha hb => ?_)
        have ho := into_ok hg ha
        have hd := Dl_rng hg lg s N a.f.toNat (by omega)
        unfold stepD
        rw [del_at lg gs s k _ (by omega)]
        split
        · exact hb
        · split
          · omega
          · exact hb
theorem Dl_bnd {n : Int} {gs : List Arc} (hg : GOk n gs) (lg : Bool) (s : Int) (k : Nat) : -1 ≤ Dl lg gs s k ∧ Dl lg gs s k ≤ 100 * (k : Int) := Dl_rng hg lg s (k + 1) k (Nat.lt_succ_self k)
/-- nodes ahead of the start have no path -/
theorem Dl_before {n : Int} {gs : List Arc} (hg : GOk n gs) (lg : Bool) (s : Int) : ∀ (N k : Nat), k < N → (k : Int) < s → Dl lg gs s k = -1
  | 0, k, h, _ => by omega
  | N + 1, k, h, hs => by
    rw [Dl_def, if_neg (by omega)]
    refine fold_skip _ _ (fun a ha => ?_)
    have ho := into_ok hg ha
    rw [del_at lg gs s k _ (by omega), Dl_before hg lg s N a.f.toNat (by omega) (by omega)]; omega
theorem Dl_lt {n : Int} {gs : List Arc} (hg : GOk n gs) (lg : Bool) (s : Int) (k : Nat) (h : (k : Int) < s) : Dl lg gs s k = -1 := Dl_before hg lg s (k + 1) k (Nat.lt_succ_self k) h
theorem Dl_start (lg : Bool) (gs : List Arc) (s : Int) (k : Nat) (h : (k : Int) = s) : Dl lg gs s k = 0 := by rw [Dl_def, if_pos h]
/-- the fold of the greatest: no candidate is above it, and one attains it -/
theorem fold_max {out : List Int} (hout : ∀ (a : Arc), 0 ≤ a.d → 0 ≤ out.getD a.f.toNat 0 → 0 ≤ out.getD a.f.toNat 0 + a.d) : ∀ (l : List Arc) (b : Int), -1 ≤ b → (∀ a ∈ l, 0 ≤ a.d) →
    b ≤ l.foldl (stepD true out) b ∧ (∀ a ∈ l, 0 ≤ out.getD a.f.toNat 0 → out.getD a.f.toNat 0 + a.d ≤ l.foldl (stepD true out) b) ∧ (l.foldl (stepD true out) b = b ∨ ∃ a ∈ l, 0 ≤ out.getD a.f.toNat 0 ∧ out.getD a.f.toNat 0 + a.d = l.foldl (stepD true out) b)
  | [], b, _, _ => ⟨Int.le_refl _, by simp, .inl rfl⟩
  | a :: l, b, hb, hd => by
    rw [List.foldl_cons]
    have ha := hd a List.mem_cons_self
    have hs : b ≤ stepD true out b a ∧ (0 ≤ out.getD a.f.toNat 0 → out.getD a.f.toNat 0 + a.d ≤ stepD true out b a) ∧ (stepD true out b a = b ∨ (0 ≤ out.getD a.f.toNat 0 ∧ out.getD a.f.toNat 0 + a.d = stepD true out b a)) := by
      have ho := hout a ha
      unfold stepD
      split
      · exact ⟨Int.le_refl _, fun h => by omega, .inl rfl⟩
      · split
        · rename_i h1 h2
          refine ⟨?_, fun _ => Int.le_refl _, .inr ⟨by omega, rfl⟩⟩
          rcases h2 with h2 | ⟨-, h2⟩ | ⟨h2, -⟩
          · omega
          · omega
          · cases h2
        · rename_i h1 h2
          refine ⟨Int.le_refl _, fun _ => ?_, .inl rfl⟩
          apply Decidable.byContradiction
          intro hc
          exact h2 (.inr (.inl ⟨rfl, by omega⟩))
    obtain ⟨s1, s2, s3⟩ := hs
    obtain ⟨t1, t2, t3⟩ := fold_max hout l (stepD true out b a) (by omega) (fun x hx => hd x (List.mem_cons_of_mem _ hx))
    refine ⟨by omega, fun x hx h0 => ?_, ?_⟩
    · rcases List.mem_cons.1 hx with rfl | hx
      · have := s2 h0; omega
      · exact t2 x hx h0
    · rcases t3 with t3 | ⟨x, hx, h1, h2⟩
      · rcases s3 with s3 | ⟨h1, h2⟩
        · left; omega
        · right; exact ⟨a, List.mem_cons_self, h1, by omega⟩
      · right; exact ⟨x, List.mem_cons_of_mem _ hx, h1, h2⟩
theorem Dl_max {n : Int} {gs : List Arc} (hg : GOk n gs) {s : Int} {k : Nat} (hks : (k : Int) ≠ s) : (∀ a ∈ intoL gs k, 0 ≤ Dl true gs s a.f.toNat → Dl true gs s a.f.toNat + a.d ≤ Dl true gs s k) ∧
    (0 ≤ Dl true gs s k → ∃ a ∈ intoL gs k, 0 ≤ Dl true gs s a.f.toNat ∧ Dl true gs s a.f.toNat + a.d = Dl true gs s k) := by
  have hm := fold_max (out := delL true gs s k) (fun a h1 h2 => by omega) (intoL gs k) (-1) (by omega) (fun a ha => (into_ok hg ha).2.2.1)
  obtain ⟨-, m2, m3⟩ := hm
  rw [Dl_def true gs s k, if_neg hks]
  constructor
  · intro a ha h0
    have ho := into_ok hg ha
    have := m2 a ha (by rw [del_at true gs s k _ (by omega)]; exact h0)
    rwa [del_at true gs s k _ (by omega)] at this
  · intro h
    rcases m3 with m3 | ⟨a, ha, h1, h2⟩
    · omega
    · have ho := into_ok hg ha
      rw [del_at true gs s k _ (by omega)] at h1 h2
      exact ⟨a, ha, h1, h2⟩
/-- reachable alike -/
theorem fold_sign {o1 o2 : List Int} : ∀ (l : List Arc) (b1 b2 : Int), (∀ a ∈ l, 0 ≤ a.d) → (∀ a ∈ l, o1.getD a.f.toNat 0 < 0 ↔ o2.getD a.f.toNat 0 < 0) → (b1 < 0 ↔ b2 < 0) → (l.foldl (stepD true o1) b1 < 0 ↔ l.foldl (stepD false o2) b2 < 0)
  | [], b1, b2, _, _, h => h
  | a :: l, b1, b2, hd, ho, h => by
    rw [List.foldl_cons, List.foldl_cons]
    refine fold_sign l _ _ (fun x hx => hd x (List.mem_cons_of_mem _ hx)) (fun x hx => ho x (List.mem_cons_of_mem _ hx)) ?_
    have h1 := ho a List.mem_cons_self
    have h2 := hd a List.mem_cons_self
    by_cases hx : o1.getD a.f.toNat 0 < 0
    · rw [st_skip hx, st_skip (h1.1 hx)]; exact h
    · have hy : ¬ o2.getD a.f.toNat 0 < 0 := fun e => hx (h1.2 e)
      have e1 : ¬ stepD true o1 b1 a < 0 := by
        unfold stepD; rw [if_neg hx]; split
        · omega
        · rename_i hn; exact fun e => hn (.inl e)
      have e2 : ¬ stepD false o2 b2 a < 0 := by
        unfold stepD; rw [if_neg hy]; split
        · omega
        · rename_i hn; exact fun e => hn (.inl e)
      exact ⟨fun e => absurd e e1, fun e => absurd e e2⟩
theorem Dl_sign' {n : Int} {gs : List Arc} (hg : GOk n gs) (s : Int) : ∀ (N k : Nat), k < N → (Dl true gs s k < 0 ↔ Dl false gs s k < 0)
  | 0, k, h => by omega
  | N + 1, k, h => by
    rw [Dl_def, Dl_def]
    by_cases hk : (k : Int) = s
    · rw [if_pos hk, if_pos hk]
    · rw [if_neg hk, if_neg hk]
      refine fold_sign _ _ _ (fun a ha => (into_ok hg ha).2.2.1) (fun a ha => ?_) Iff.rfl
      have ho := into_ok hg ha
      rw [del_at true gs s k _ (by omega), del_at false gs s k _ (by omega)]
      exact Dl_sign' hg s N a.f.toNat (by omega)
theorem Dl_sign {n : Int} {gs : List Arc} (hg : GOk n gs) (s : Int) (k : Nat) : Dl true gs s k < 0 ↔ Dl false gs s k < 0 := Dl_sign' hg s (k + 1) k (Nat.lt_succ_self k)
end Go.Proofs.Yteccnnpcigkmhaa
