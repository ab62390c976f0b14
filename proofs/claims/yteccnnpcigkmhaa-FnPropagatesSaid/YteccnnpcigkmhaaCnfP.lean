/- Formulas in clauses: plain definitions and laws. -/
import Derived.Test.YteccnnpcigkmhaaClo
import Derived.Test.YteccnnpcigkmhaaLog10
import Derived.Test.YteccnnpcigkmhaaCur3
import Derived.Test.YteccnnpcigkmhaaHas
set_option linter.unusedVariables false
set_option linter.unusedSimpArgs false
namespace Go.Proofs.Yteccnnpcigkmhaa
open Go.RowKit
section
variable {P : Program} {N : Nat} {w0 : World} {l : List HP} {env : List (Nat × Value)} {o : Oper}
theorem rq_buildSlice1 {t e : TypeId} {x : Operand} {v : Value} (ho : o.op = .buildSlice t 1 #[(0, x)]) (hu : P.underlying t = some (.slice e)) (hi : (P.info? e).map (fun i => (i.zero, i.size)) = some (some (.slice none 0 0), 1)) (hx : ev env x = some v) (h1 : v.oneCell' = true) :
    RunQ P N w0 l env o (IsRow e 1 1 [v]) :=
  rq_buildSlice (vs := [(0, v)]) ho hu hi (by decide) (by simp [hx]) (by cases v <;> first | (exact absurd h1 Bool.false_ne_true) | kernel_rfl) rfl
end
theorem conv_snoc {w0 : World} {ps l : List HP} {p : HP} : Conv w0 (bigE ps :: p :: l) (bigE (ps ++ [p]) :: l) := fun w hm => by
  have h1 : Mem w0 (ps ++ (p :: l)) w := hm.unbig
  have h2 : Mem w0 ((ps ++ [p]) ++ l) w := by simpa using h1
  exact h2.big
structure CRow where
  v : Value
  xs : List Int
abbrev crow0 : CRow := ⟨.slice none 0 0, []⟩
def crowC (r : CRow) : List Value := [r.v]
abbrev cPart (r : CRow) : HP := rowE 3 1 r.v r.xs.length (r.xs.map (Value.int .i64))
abbrev clE (v : Value) (rs : List CRow) : HP := bigE [bigE (rs.map cPart), rowE 43 1 v rs.length (rs.flatMap crowC)]
structure RdsCl (w : World) (v : Value) (rs : List CRow) : Prop where
  row : RdsW w v 1 rs.length (rs.flatMap crowC)
  xs : ∀ r ∈ rs, RdsW w r.v 1 r.xs.length (r.xs.map (Value.int .i64))
theorem RdsCl.below {w w' : World} {v : Value} {rs : List CRow} (h : RdsCl w v rs) (hb : Below w.heap.size w w') : RdsCl w' v rs := ⟨h.row.below hb, fun r hr => (h.xs r hr).below hb⟩
theorem RdsCl.at {w : World} {v : Value} {rs : List CRow} (h : RdsCl w v rs) {k : Nat} (hk : k < rs.length) : RdsW w (rs.getD k crow0).v 1 (rs.getD k crow0).xs.length ((rs.getD k crow0).xs.map (Value.int .i64)) := h.xs _ (getD_mem' hk)
theorem cl_rds {w0 : World} {l : List HP} {v : Value} {rs : List CRow} (i : Nat) (hi : l[i]? = some (clE v rs)) (w : World) (hm : Mem w0 l w) : RdsCl w v rs := by
  obtain ⟨b1, -⟩ := hm.holds _ (mem_at hi)
  have c1 := (b1 _ (List.mem_cons_self)).2
  have c2 := (b1 _ (List.mem_cons_of_mem _ List.mem_cons_self)).2
  exact ⟨rdsW_own c2, fun r hr => rdsW_own (c1.1 (cPart r) (List.mem_map.2 ⟨r, hr, rfl⟩)).2⟩
def LitOk (n : Int) (xs : List Int) : Prop := xs.length ≤ 400 ∧ ∀ i, i < xs.length → xs.getD i 0 ≠ 0 ∧ -n ≤ xs.getD i 0 ∧ xs.getD i 0 ≤ n
structure ClOk (n : Int) (rs : List CRow) : Prop where
  n0 : 0 ≤ n
  n1 : n ≤ 400
  len : rs.length ≤ 1600
  ok : ∀ k, k < rs.length → LitOk n (rs.getD k crow0).xs
def valI (ps : List Int) (l : Int) : Int := if l < 0 then -(ps.getD (-l - 1).toNat 0) else ps.getD (l - 1).toNat 0
def PsOk (n : Int) (ps : List Int) : Prop := (ps.length : Int) = n ∧ ∀ i, i < ps.length → -1 ≤ ps.getD i 0 ∧ ps.getD i 0 ≤ 1
theorem val_rng {n : Int} {ps : List Int} (h : PsOk n ps) {l : Int} (h0 : l ≠ 0) (h1 : -n ≤ l) (h2 : l ≤ n) : -1 ≤ valI ps l ∧ valI ps l ≤ 1 := by
  unfold valI
  have hl := h.1
  split
  · have := h.2 (-l - 1).toNat (by omega); omega
  · exact h.2 (l - 1).toNat (by omega)
def Full (n : Int) (fs : List Int) : Prop := PsOk n fs ∧ ∀ i, i < fs.length → fs.getD i 0 ≠ 0
def Agree (ps fs : List Int) : Prop := ∀ k, k < ps.length → ps.getD k 0 ≠ 0 → ps.getD k 0 = fs.getD k 0
def SatC (xs fs : List Int) : Prop := ∃ i, i < xs.length ∧ valI fs (xs.getD i 0) = 1
def SatF (rs : List CRow) (fs : List Int) : Prop := ∀ k, k < rs.length → SatC (rs.getD k crow0).xs fs
theorem val_agree {n : Int} {ps fs : List Int} (hp : PsOk n ps) (ha : Agree ps fs) {l : Int} (h0 : l ≠ 0) (h1 : -n ≤ l) (h2 : l ≤ n) (hv : valI ps l ≠ 0) : valI ps l = valI fs l := by
  have hl := hp.1
  unfold valI at *
  split at hv
  · rename_i hc
    rw [if_pos hc, if_pos hc, ha (-l - 1).toNat (by omega) (by omega)]
  · rename_i hc
    rw [if_neg hc, if_neg hc, ha (l - 1).toNat (by omega) hv]
/-- what unitOf answers -/
structure UOk (xs ps : List Int) (u : Int) (cf : Bool) : Prop where
  conf : cf = true → u = 0 ∧ ∀ i, i < xs.length → valI ps (xs.getD i 0) = -1
  unit : u ≠ 0 → cf = false ∧ valI ps u = 0 ∧ (∃ i, i < xs.length ∧ xs.getD i 0 = u) ∧ ∀ i, i < xs.length → xs.getD i 0 = u ∨ valI ps (xs.getD i 0) = -1
  none : cf = false → u = 0 → ∃ i, i < xs.length ∧ valI ps (xs.getD i 0) ≠ -1
theorem UOk.rng {n : Int} {xs ps : List Int} {u : Int} {cf : Bool} (h : UOk xs ps u cf) (hx : LitOk n xs) (hu : u ≠ 0) : -n ≤ u ∧ u ≤ n := by
  obtain ⟨-, -, ⟨i, hi, rfl⟩, -⟩ := h.unit hu
  exact (hx.2 i hi).2
theorem no_conf {n : Int} {xs ps fs : List Int} {u : Int} (h : UOk xs ps u true) (hx : LitOk n xs) (hp : PsOk n ps) (ha : Agree ps fs) (hs : SatC xs fs) : False := by
  obtain ⟨i, hi, h1⟩ := hs
  have h2 := (h.conf rfl).2 i hi
  have h3 := hx.2 i hi
  have := val_agree hp ha h3.1 h3.2.1 h3.2.2 (by omega)
  omega
theorem unit_true {n : Int} {xs ps fs : List Int} {u : Int} {cf : Bool} (h : UOk xs ps u cf) (hu : u ≠ 0) (hx : LitOk n xs) (hp : PsOk n ps) (ha : Agree ps fs) (hs : SatC xs fs) : valI fs u = 1 := by
  obtain ⟨i, hi, h1⟩ := hs
  rcases (h.unit hu).2.2.2 i hi with h2 | h2
  · rw [← h2]; exact h1
  · have h3 := hx.2 i hi
    have := val_agree hp ha h3.1 h3.2.1 h3.2.2 (by omega)
    omega
def zeros : List Int → Nat
  | [] => 0
  | x :: xs => (if x = 0 then 1 else 0) + zeros xs
theorem zeros_set : ∀ (xs : List Int) (k : Nat) (x : Int), k < xs.length → xs.getD k 0 = 0 → x ≠ 0 → zeros (xs.set k x) + 1 = zeros xs
  | [], k, x, h, _, _ => by simp at h
  | a :: xs, 0, x, _, h, hx => by
    have : a = 0 := by simpa using h
    subst this
    simp [zeros, hx]; omega
  | a :: xs, k + 1, x, h, h0, hx => by
    have := zeros_set xs k x (by simpa using h) (by simpa using h0) hx
    simp only [List.set_cons_succ, zeros]; omega
structure PInv (n : Int) (rs : List CRow) (ps zs : List Int) : Prop where
  ok : PsOk n zs
  len : zs.length = ps.length
  ext : ∀ k, k < ps.length → ps.getD k 0 ≠ 0 → zs.getD k 0 = ps.getD k 0
  agr : ∀ fs, Full n fs → SatF rs fs → Agree ps fs → Agree zs fs
  full : (∀ k, k < ps.length → ps.getD k 0 ≠ 0) → zs = ps
theorem pinv_start {n : Int} {rs : List CRow} {ps : List Int} (h : PsOk n ps) : PInv n rs ps ps := ⟨h, rfl, fun _ _ _ => rfl, fun _ _ _ h => h, fun _ => rfl⟩
theorem getD_set_ne3 {α : Type} {es : List α} {i j : Nat} {d e : α} (h : j ≠ i) : (es.set j e).getD i d = es.getD i d := by
  rw [List.getD_eq_getElem?_getD, List.getElem?_set_ne h, ← List.getD_eq_getElem?_getD]
theorem pinv_set {n : Int} {rs : List CRow} {ps zs : List Int} {q j : Nat} {x : Int} (h : PInv n rs ps zs) (hj : j < zs.length) (hz : zs.getD j 0 = 0) (hx : x = 1 ∨ x = -1) (ht : ∀ fs, Full n fs → SatF rs fs → Agree zs fs → fs.getD j 0 = x) : PInv n rs ps (zs.set j x) := by
  refine ⟨⟨by rw [List.length_set]; exact h.ok.1, fun i hi => ?_⟩, by rw [List.length_set]; exact h.len, fun k hk hp => ?_, fun fs hf hs ha k hk hne => ?_, fun hfull => ?_⟩
  · rw [List.length_set] at hi
    by_cases hij : i = j
    · subst hij; rw [getD_set_self' hi]; omega
    · rw [getD_set_ne3 (fun e => hij e.symm)]; exact h.ok.2 i hi
  · have := h.ext k hk hp
    by_cases hkj : k = j
    · subst hkj; rw [hz] at this; exact absurd this.symm hp
    · rw [getD_set_ne3 (fun e => hkj e.symm)]; exact this
  · rw [List.length_set] at hk
    have hA := h.agr fs hf hs ha
    by_cases hkj : k = j
    · subst hkj; rw [getD_set_self' hk]; exact (ht fs hf hs hA).symm
    · rw [getD_set_ne3 (fun e => hkj e.symm)] at hne ⊢; exact hA k hk hne
  · have e := h.full hfull
    exfalso
    rw [e] at hz hj
    exact hfull j hj hz
theorem pinv_pos {n : Int} {rs : List CRow} {ps zs : List Int} {m : Nat} {u : Int} {cf : Bool} (hr : ClOk n rs) (h : PInv n rs ps zs) (hm : m < rs.length) (hu : UOk (rs.getD m crow0).xs zs u cf) (h0 : 0 < u) : PInv n rs ps (zs.set (u - 1).toNat 1) ∧ zeros (zs.set (u - 1).toNat 1) + 1 = zeros zs ∧ (u - 1).toNat < zs.length := by
  have hl := hr.ok m hm
  have hur := hu.rng hl (by omega)
  have hz : zs.getD (u - 1).toNat 0 = 0 := by have := (hu.unit (by omega)).2.1; unfold valI at this; rwa [if_neg (by omega)] at this
  have hlen := h.ok.1
  refine ⟨pinv_set (q := m) h (by omega) hz (.inl rfl) (fun fs hf hs ha => ?_), zeros_set _ _ _ (by omega) hz (by decide), by omega⟩
  have := unit_true hu (by omega) hl h.ok ha (hs m hm)
  unfold valI at this; rwa [if_neg (by omega)] at this
theorem pinv_neg {n : Int} {rs : List CRow} {ps zs : List Int} {m : Nat} {u : Int} {cf : Bool} (hr : ClOk n rs) (h : PInv n rs ps zs) (hm : m < rs.length) (hu : UOk (rs.getD m crow0).xs zs u cf) (h0 : u < 0) : PInv n rs ps (zs.set (-u - 1).toNat (-1)) ∧ zeros (zs.set (-u - 1).toNat (-1)) + 1 = zeros zs ∧ (-u - 1).toNat < zs.length := by
  have hl := hr.ok m hm
  have hur := hu.rng hl (by omega)
  have hz : zs.getD (-u - 1).toNat 0 = 0 := by have := (hu.unit (by omega)).2.1; unfold valI at this; rw [if_pos h0] at this; omega
  have hlen := h.ok.1
  refine ⟨pinv_set (q := m) h (by omega) hz (.inr rfl) (fun fs hf hs ha => ?_), zeros_set _ _ _ (by omega) hz (by decide), by omega⟩
  have := unit_true hu (by omega) hl h.ok ha (hs m hm)
  unfold valI at this; rw [if_pos h0] at this; omega
/-- clauses that a complete assignment has satisfied so far -/
def Done (rs : List CRow) (ps : List Int) (m : Nat) : Prop := (∀ k, k < ps.length → ps.getD k 0 ≠ 0) → ∀ q, q < m → SatC (rs.getD q crow0).xs ps
theorem done_zero (rs : List CRow) (ps : List Int) : Done rs ps 0 := fun _ q hq => absurd hq (by omega)
theorem done_unit {n : Int} {rs : List CRow} {ps zs : List Int} {m : Nat} {u : Int} {cf : Bool} (hr : ClOk n rs) (h : PInv n rs ps zs) (hm : m < rs.length) (hu : UOk (rs.getD m crow0).xs zs u cf) (h0 : u ≠ 0) : Done rs ps (m + 1) := fun hf => by
  exfalso
  have e := h.full hf
  have hur := hu.rng (hr.ok m hm) h0
  have hz := (hu.unit h0).2.1
  have hl := h.ok.1
  rw [e] at hz hl
  unfold valI at hz
  split at hz
  · exact hf (-u - 1).toNat (by omega) (by omega)
  · exact hf (u - 1).toNat (by omega) hz
theorem done_none {n : Int} {rs : List CRow} {ps zs : List Int} {m : Nat} (hr : ClOk n rs) (h : PInv n rs ps zs) (hm : m < rs.length) (hu : UOk (rs.getD m crow0).xs zs 0 false) (hd : Done rs ps m) : Done rs ps (m + 1) := fun hf q hq => by
  by_cases hqm : q = m
  · subst hqm
    have e := h.full hf
    obtain ⟨i, hi, hv⟩ := hu.none rfl rfl
    have hl := hr.ok q hm
    have h3 := hl.2 i hi
    have hok := h.ok
    rw [e] at hv hok
    have hr2 := val_rng hok h3.1 h3.2.1 h3.2.2
    refine ⟨i, hi, ?_⟩
    have hne : valI ps ((rs.getD q crow0).xs.getD i 0) ≠ 0 := by
      have hlen := hok.1
      unfold valI
      split
      · have := hf (-(rs.getD q crow0).xs.getD i 0 - 1).toNat (by omega); omega
      · exact hf ((rs.getD q crow0).xs.getD i 0 - 1).toNat (by omega)
    omega
  · exact hd hf q (by omega)
/-- what propagation answers -/
structure POk (n : Int) (rs : List CRow) (ps out : List Int) (ok : Bool) : Prop where
  yes : ∀ fs, Full n fs → SatF rs fs → Agree ps fs → ok = true ∧ Agree out fs ∧ ∀ k, k < ps.length → ps.getD k 0 ≠ 0 → out.getD k 0 = ps.getD k 0
  full : (∀ k, k < ps.length → ps.getD k 0 ≠ 0) → (ok = true ↔ SatF rs ps)
  len : ok = true → out.length = ps.length
theorem pok_conf {n : Int} {rs : List CRow} {ps zs : List Int} {m : Nat} {u : Int} (hr : ClOk n rs) (h : PInv n rs ps zs) (hm : m < rs.length) (hu : UOk (rs.getD m crow0).xs zs u true) : POk n rs ps [] false := by
  refine ⟨fun fs hf hs ha => ?_, fun hf => ⟨(fun h => by cases h), fun hs => ?_⟩, (fun h => by cases h)⟩
  · exact (no_conf hu (hr.ok m hm) h.ok (h.agr fs hf hs ha) (hs m hm)).elim
  · exfalso
    have e := h.full hf
    have hok := h.ok
    rw [e] at hu hok
    exact no_conf hu (hr.ok m hm) hok (fun _ _ _ => rfl) (hs m hm)
theorem pok_end {n : Int} {rs : List CRow} {ps zs : List Int} (h : PInv n rs ps zs) (hd : Done rs ps rs.length) : POk n rs ps zs true :=
  ⟨fun fs hf hs ha => ⟨rfl, h.agr fs hf hs ha, h.ext⟩, fun hf => ⟨fun _ k hk => hd hf k hk, fun _ => rfl⟩, fun _ => h.len⟩
/-! ### assignments of Bools -/
def litB (bs : List Bl) (l : Int) : Bool := if 0 < l then (bs.getD (l - 1).toNat bl0).b else !(bs.getD (-l - 1).toNat bl0).b
def clB (bs : List Bl) (xs : List Int) : Bool := xs.any (litB bs)
def cnfB (bs : List Bl) (rs : List CRow) : Bool := rs.all (fun r => clB bs r.xs)
def fullL (bs : List Bl) : List Int := bs.map (fun b => if b.b = true then 1 else -1)
theorem full_at (bs : List Bl) (i : Nat) (h : i < bs.length) : (fullL bs).getD i 0 = if (bs.getD i bl0).b = true then 1 else -1 := by
  unfold fullL
  rw [List.getD_eq_getElem?_getD, List.getElem?_map, List.getD_eq_getElem?_getD, List.getElem?_eq_getElem h]; rfl
theorem full_ok {n : Int} {bs : List Bl} (h : (bs.length : Int) = n) : Full n (fullL bs) := by
  have hl : (fullL bs).length = bs.length := by simp [fullL]
  refine ⟨⟨by omega, fun i hi => ?_⟩, fun i hi => ?_⟩
  · rw [full_at bs i (by omega)]; split <;> omega
  · rw [full_at bs i (by omega)]; split <;> omega
theorem full_lit {n : Int} {bs : List Bl} (h : (bs.length : Int) = n) {l : Int} (h0 : l ≠ 0) (h1 : -n ≤ l) (h2 : l ≤ n) : valI (fullL bs) l = 1 ↔ litB bs l = true := by
  unfold valI litB
  by_cases hl : l < 0
  · rw [if_pos hl, if_neg (by omega), full_at bs _ (by omega)]
    cases (bs.getD (-l - 1).toNat bl0).b <;> simp
  · rw [if_neg hl, if_pos (by omega), full_at bs _ (by omega)]
    cases (bs.getD (l - 1).toNat bl0).b <;> simp
theorem full_sat {n : Int} {bs : List Bl} {rs : List CRow} (h : (bs.length : Int) = n) (hr : ClOk n rs) : SatF rs (fullL bs) ↔ cnfB bs rs = true := by
  unfold SatF SatC cnfB clB
  simp only [List.all_eq_true, List.any_eq_true]
  constructor
  · intro hs r hr2
    obtain ⟨k, hk, rfl⟩ := List.mem_iff_getElem.1 hr2
    obtain ⟨i, hi, hv⟩ := hs k hk
    have hl := (hr.ok k hk).2 i hi
    rw [full_lit h hl.1 hl.2.1 hl.2.2] at hv
    rw [show rs.getD k crow0 = rs[k] by rw [List.getD_eq_getElem?_getD, List.getElem?_eq_getElem hk]; rfl] at hi hv
    exact ⟨_, getD_mem' hi, hv⟩
  · intro hs k hk
    have hmem : rs.getD k crow0 ∈ rs := getD_mem' hk
    obtain ⟨x, hx, hv⟩ := hs _ hmem
    obtain ⟨i, hi, rfl⟩ := List.mem_iff_getElem.1 hx
    have hl := (hr.ok k hk).2 i hi
    have e : (rs.getD k crow0).xs.getD i 0 = (rs.getD k crow0).xs[i] := by rw [List.getD_eq_getElem?_getD, List.getElem?_eq_getElem hi]; rfl
    refine ⟨i, hi, ?_⟩
    rw [full_lit h hl.1 hl.2.1 hl.2.2, e]; exact hv
end Go.Proofs.Yteccnnpcigkmhaa
