/- Texts of the law FnRunSteps, part 2: what it uses. -/
import Derived.Test.YtodiifjigjnalaaRst1
set_option linter.unusedVariables false
set_option linter.unusedSimpArgs false
set_option maxHeartbeats 4000000
set_option maxRecDepth 100000
namespace Go.Proofs.Ytodiifjigjnalaa
open Go.RowKit Go.ChangeShapes
open Go.RowKit
theorem frB_yes {m : Md} {T : List Int} {x : Int} (h : frB m T x T.length = true) : FreeP m T x := fun y hy => by
  obtain ⟨q, hq, rfl⟩ := List.mem_iff_getElem.1 hy
  have h1 := zfc h q hq
  have e : T.getD q 0 = T[q] := by rw [List.getD_eq_getElem?_getD, List.getElem?_eq_getElem hq]; rfl
  rwa [e] at h1
theorem frB_nn {m : Md} {T : List Int} {x : Int} (h : frB m T x T.length = false) : ¬ FreeP m T x := fun hf => zea h (fun q hq => hf _ (zch hq))
theorem DesP.gs1 {m : Md} (h : DesP [m]) {i : Nat} (hi : i < m.gs.length) : AsP m (m.gs.getD i as0) := (h.2 0 (by simp)).gs i hi
theorem AsP.tgt {m : Md} {g : As} (h : AsP m g) : (0 ≤ g.t ∧ g.t < m.ss.length) ∧ 1 ≤ (m.ss.getD g.t.toNat sg0).k ∧ (m.ss.getD g.t.toNat sg0).k ≤ 3 := by
  have h1 := h.1
  have hk : 0 ≤ g.t ∧ g.t < m.ss.length := Classical.byContradiction fun h9 => by have := zeh h9; omega
  rw [zcx hk] at h1; exact ⟨hk, h1⟩
theorem DesP.len1 {m : Md} (h : DesP [m]) : LenP m := (h.2 0 (by simp)).cnt.md 0 (by simp)
theorem Can.stop {m : Md} {T : List Int} (hT : T ≠ []) (hn : ∀ q, q < T.length → ¬ FreeP m T (T.getD q 0)) : ¬ Can m T := fun h => by
  obtain ⟨x, hx, hf⟩ := h.free hT
  obtain ⟨q, hq, rfl⟩ := List.mem_iff_getElem.1 hx
  exact hn q hq (by rw [List.getD_eq_getElem?_getD, List.getElem?_eq_getElem hq]; exact hf)
def pwA (ss : List Sg) (c : Int) : Nat → List Int
  | 0 => []
  | i + 1 => pwA ss c i ++ if (ss.getD i sg0).k = c then [(ss.getD i sg0).w] else []
def pwK (m : Md) (c : Int) : List Int := if m.ss.length ≤ 30 then pwA m.ss c m.ss.length else []
theorem pwA_le (ss : List Sg) (c : Int) : ∀ i, (pwA ss c i).length ≤ i
  | 0 => Nat.le_refl _
  | i + 1 => by
    have := pwA_le ss c i
    unfold pwA; rw [List.length_append]; split <;> simp <;> omega
theorem pwA_yes {ss : List Sg} {c : Int} {i : Nat} (h : (ss.getD i sg0).k = c) : pwA ss c i ++ [(ss.getD i sg0).w] = pwA ss c (i + 1) := by
  show _ = pwA ss c i ++ if _ then _ else _
  rw [if_pos h]
theorem pwA_no {ss : List Sg} {c : Int} {i : Nat} (h : ¬ (ss.getD i sg0).k = c) : pwA ss c i = pwA ss c (i + 1) := by
  show _ = pwA ss c i ++ if _ then _ else _
  rw [if_neg h, List.append_nil]
theorem pwK_le (m : Md) (c : Int) : (pwK m c).length ≤ 30 := by
  unfold pwK; split
  · have := pwA_le m.ss c m.ss.length; omega
  · simp
theorem pwA_rng {ss : List Sg} {c : Int} (h : ∀ q, q < ss.length → 0 ≤ (ss.getD q sg0).w ∧ (ss.getD q sg0).w ≤ 4) : ∀ i, i ≤ ss.length → ∀ x ∈ pwA ss c i, 0 ≤ x ∧ x ≤ 4
  | 0, _, x, hx => by cases hx
  | i + 1, hi, x, hx => by
    unfold pwA at hx
    rcases List.mem_append.1 hx with hx | hx
    · exact pwA_rng h i (by omega) x hx
    · split at hx
      · rw [List.mem_singleton] at hx; subst hx; exact h i (by omega)
      · cases hx
def sumA (L : List Int) : Nat → Int
  | 0 => 0
  | i + 1 => sumA L i + L.getD i 0
def sumZ (L : List Int) : Int := sumA L L.length
theorem sumA_rng {L : List Int} (h : ∀ x ∈ L, 0 ≤ x ∧ x ≤ 4) : ∀ i, i ≤ L.length → 0 ≤ sumA L i ∧ sumA L i ≤ 4 * i
  | 0, _ => ⟨Int.le_refl _, Int.le_refl _⟩
  | i + 1, hi => by
    have h1 := sumA_rng h i (by omega)
    have h2 := h _ (zch (d := (0 : Int)) (show i < L.length by omega))
    show 0 ≤ sumA L i + L.getD i 0 ∧ sumA L i + L.getD i 0 ≤ _
    omega
def moA (m : Md) : Nat → Int
  | 0 => 0
  | i + 1 => moA m i + (m.ss.getD (m.ms.getD i mm0).o.toNat sg0).w
def EoP (m : Md) : Prop := m.xs.length = 0 ∧ DesP [m] ∧ Can m (todoA m m.gs.length)
def MwP (m : Md) (x : Mm) : Prop := (m.ss.getD x.a.toNat sg0).w = 2 ∧ (m.ss.getD x.w.toNat sg0).w = 1 ∧ (m.ss.getD x.d.toNat sg0).w = (m.ss.getD x.o.toNat sg0).w
structure FlP (m : Md) : Prop where
  eo : EoP m
  wid : ∀ s, s < m.ss.length → (m.ss.getD s sg0).w ≠ 0
  par : ∀ i, i < m.gs.length → ¬ HpP (m.gs.getD i as0).os
  mem : ∀ i, i < m.ms.length → MwP m (m.ms.getD i mm0)
  ins : sumZ (pwK m 0) ≤ 8
  outs : sumZ (pwK m 1) ≤ 8
  bits : sumZ (pwK m 3) + moA m m.ms.length ≤ 12
noncomputable def eoK (m : Md) : List Int := if pB (EoP m) = true then ordK m (todoA m m.gs.length) else []
theorem eoK_yes {m : Md} (h : EoP m) : eoK m = ordK m (todoA m m.gs.length) := if_pos (zdf h)
theorem eoK_no {m : Md} (h : ¬ EoP m) : eoK m = [] := if_neg (by rw [zcb h]; decide)
theorem EoP.mod {m : Md} (h : EoP m) : ModP [m] 0 := h.2.1.2 0 (by simp)
theorem tgt_inj {m : Md} (h : ModP [m] 0) {i j : Nat} (hi : i < m.gs.length) (hj : j < m.gs.length) (e : (m.gs.getD i as0).t = (m.gs.getD j as0).t) : i = j := by
  have key : ∀ {i j : Nat}, i < j → j < m.gs.length → (m.gs.getD i as0).t = (m.gs.getD j as0).t → False := fun {i j} hij hj e => by
    have hg := (h.gs j hj).1
    have hk : 0 ≤ (m.gs.getD j as0).t ∧ (m.gs.getD j as0).t < m.ss.length := Classical.byContradiction fun h9 => by
      have := zeh h9; have h8 := hg.1; rw [show ([m] : List Md).getD 0 md0 = m from rfl] at h8; omega
    have h8 := hg.1
    rw [show ([m] : List Md).getD 0 md0 = m from rfl, zcx hk] at h8
    have h1 := h.dr (m.gs.getD j as0).t.toNat (show (m.gs.getD j as0).t.toNat < m.ss.length by omega) (show (m.ss.getD (m.gs.getD j as0).t.toNat sg0).k ≠ 0 by omega)
    rw [Int.toNat_of_nonneg hk.1] at h1
    have h2 : (m.gs.map As.t).count (m.gs.getD j as0).t ≤ 1 := by
      unfold drvL at h1
      rw [List.count_append, List.count_append] at h1
      have h9 : ([m] : List Md).getD 0 md0 = m := rfl
      rw [h9] at h1; omega
    have h3 := cntM_yes (g := As.t) as0 (L := m.gs) hj rfl
    have h4 : 1 ≤ ((m.gs.take j).map As.t).count (m.gs.getD j as0).t := List.count_pos_iff.2 (List.mem_map.2 ⟨m.gs.getD i as0, by
      rw [List.getD_eq_getElem?_getD, List.getElem?_eq_getElem (by omega)]
      exact List.mem_take_iff_getElem.2 ⟨i, by omega, rfl⟩, e⟩)
    have h5 : ((m.gs.take (j + 1)).map As.t).count (m.gs.getD j as0).t ≤ (m.gs.map As.t).count (m.gs.getD j as0).t := ((List.take_sublist _ _).map _).count_le _
    omega
  rcases Nat.lt_trichotomy i j with h1 | h1 | h1
  · exact (key h1 hj e).elim
  · exact h1
  · exact (key h1 hi e.symm).elim
theorem DesP.zero : DesP [md0] := ⟨⟨by simp, by simp⟩, fun k hk => by
  obtain rfl : k = 0 := by have : k < 1 := hk; omega
  have h0 : ∀ {n : Nat}, n < 0 → False := fun h => by omega
  exact ⟨hk, ⟨by simp, fun q hq => by
    obtain rfl : q = 0 := by have : q < 1 := hq; omega
    exact ⟨Nat.zero_le _, Nat.zero_le _, Nat.zero_le _, Nat.zero_le _⟩⟩, fun i hi => (h0 hi).elim, fun i hi => (h0 hi).elim, fun i hi => (h0 hi).elim, fun i hi => (h0 hi).elim, fun i hi => (h0 hi).elim, fun i hi => (h0 hi).elim⟩⟩
theorem FlP.zero : FlP md0 := ⟨⟨rfl, DesP.zero, Can.nil _⟩, fun s hs => absurd hs (Nat.not_lt_zero _), fun s hs => absurd hs (Nat.not_lt_zero _), fun s hs => absurd hs (Nat.not_lt_zero _), by decide, by decide, by decide⟩
theorem needK_pos {n : Int} {os : List Oq} (h : OpsP n os) : ∀ i, i < os.length → 1 ≤ needK os i
  | 0, _ => by unfold needK; omega
  | i + 1, hi => by
    have h1 := needK_pos h i (by omega)
    have h2 := (h.op (i + 1) hi).1
    have h3 := (h.op i (by omega)).2
    have h4 : 0 ≤ arI (os.getD i oq0).k := by
      rcases h3 with ⟨e, -⟩ | ⟨e, -⟩ | ⟨e, -⟩ | ⟨-, -, -, e, -⟩
      · rw [e]; decide
      · rw [e]; decide
      · rw [e]; decide
      · exact e
    have h5 : needK os (i + 1) = needK os i + (arI (os.getD i oq0).k - 1) := rfl
    omega
theorem arI_val {n : Int} {os : List Oq} (h : OpsP n os) {i : Nat} (hi : i < os.length) : arI (os.getD i oq0).k = 0 ∨ arI (os.getD i oq0).k = 1 ∨ arI (os.getD i oq0).k = 2 ∨ arI (os.getD i oq0).k = 3 := by
  have h3 := (h.op i hi).2
  have h4 := arI_rng (os.getD i oq0).k
  have h5 : 0 ≤ arI (os.getD i oq0).k := by
    rcases h3 with ⟨e, -⟩ | ⟨e, -⟩ | ⟨e, -⟩ | ⟨-, -, -, e, -⟩
    · rw [e]; decide
    · rw [e]; decide
    · rw [e]; decide
    · exact e
  omega
def WtP (os : List Oq) (tk : List Bl) : Prop := ∃ i, i < os.length ∧ ((os.getD i oq0).k = 2 ∨ (os.getD i oq0).k = 3) ∧ (tk.getD (os.getD i oq0).a.toNat bl0).b = true
def OpnP (m : Md) (zs : List Int) (tk : List Bl) : Prop := tk.length = m.ss.length ∧ ∀ s, s < m.ss.length → ((tk.getD s bl0).b = true ↔ ∃ y ∈ zs, (m.gs.getD y.toNat as0).t = (s : Int))
theorem rds_rng {n : Int} {os : List Oq} (h : OpsP n os) {i : Nat} (hi : i < os.length) (hk : (os.getD i oq0).k = 2 ∨ (os.getD i oq0).k = 3) : 0 ≤ (os.getD i oq0).a ∧ (os.getD i oq0).a < n := by
  rcases (h.op i hi).2 with ⟨p1, p2, p3⟩ | ⟨p1, p2, p3⟩ | ⟨p1, p2, p3⟩ | ⟨p1, p2, p3, p4, p5, p6⟩
  all_goals omega
theorem OpnP.nil {m : Md} : OpnP m [] (List.replicate m.ss.length bl0) := ⟨List.length_replicate, fun s hs => by
  rw [List.getD_eq_getElem?_getD, List.getElem?_replicate, if_pos hs]
  exact ⟨fun h => absurd h (by decide), fun ⟨y, hy, _⟩ => by cases hy⟩⟩
theorem getD_setB {tk : List Bl} {a s : Nat} {b : Bl} (ha : a < tk.length) : (tk.set a b).getD s bl0 = if s = a then b else tk.getD s bl0 := by
  rw [List.getD_eq_getElem?_getD, List.getElem?_set, List.getD_eq_getElem?_getD]
  by_cases e : a = s
  · rw [if_pos e, if_pos e.symm, if_pos ha]; rfl
  · rw [if_neg e, if_neg (fun h => e h.symm)]
theorem OpnP.add {m : Md} {zs : List Int} {tk : List Bl} (h : OpnP m zs tk) {i : Nat} (ht : 0 ≤ (m.gs.getD i as0).t ∧ (m.gs.getD i as0).t < m.ss.length) : OpnP m (zs ++ [(i : Int)]) (tk.set (m.gs.getD i as0).t.toNat ⟨true⟩) := ⟨by rw [List.length_set]; exact h.1, fun s hs => by
  rw [getD_setB (by rw [h.1]; omega)]
  by_cases e : s = (m.gs.getD i as0).t.toNat
  · rw [if_pos e]
    exact ⟨fun _ => ⟨(i : Int), by simp, by rw [Int.toNat_natCast]; omega⟩, fun _ => rfl⟩
  · rw [if_neg e, h.2 s hs]
    constructor
    · rintro ⟨y, hy, h1⟩; exact ⟨y, List.mem_append_left _ hy, h1⟩
    · rintro ⟨y, hy, h1⟩
      rcases List.mem_append.1 hy with hy | hy
      · exact ⟨y, hy, h1⟩
      · rw [List.mem_singleton] at hy; subst hy; rw [Int.toNat_natCast] at h1; omega⟩
theorem wt_free {m : Md} {zs : List Int} {tk : List Bl} (h : OpnP m zs tk) {os : List Oq} (hos : OpsP m.ss.length os) : ¬ WtP os tk ↔ ∀ y ∈ zs, ¬ RdS os (m.gs.getD y.toNat as0).t := by
  constructor
  · rintro hn y hy ⟨i, hi, hk, ha⟩
    have hr := rds_rng hos hi hk
    exact hn ⟨i, hi, hk, (h.2 (os.getD i oq0).a.toNat (by omega)).2 ⟨y, hy, by omega⟩⟩
  · rintro hf ⟨i, hi, hk, hb⟩
    have hr := rds_rng hos hi hk
    obtain ⟨y, hy, ht⟩ := (h.2 (os.getD i oq0).a.toNat (by omega)).1 hb
    exact hf y hy ⟨i, hi, hk, by omega⟩
theorem opn_in {m : Md} (hm : DesP [m]) {zs : List Int} {tk : List Bl} (h : OpnP m zs tk) (hz : ∀ y ∈ zs, 0 ≤ y ∧ y < m.gs.length) {i : Nat} (hi : i < m.gs.length) (hb : (tk.getD (m.gs.getD i as0).t.toNat bl0).b = true) : (i : Int) ∈ zs := by
  have ht := ((hm.gs1 hi).tgt).1
  obtain ⟨y, hy, e⟩ := (h.2 (m.gs.getD i as0).t.toNat (by omega)).1 hb
  have h1 := hz y hy
  have h2 := tgt_inj (hm.2 0 (by simp)) (i := y.toNat) (j := i) (by omega) hi (by omega)
  rw [show (i : Int) = y by omega]; exact hy
theorem OpnP.del {m : Md} (hm : DesP [m]) {zs : List Int} {tk : List Bl} (h : OpnP m zs tk) (hz : ∀ y ∈ zs, 0 ≤ y ∧ y < m.gs.length) (hnd : zs.Nodup) {i : Nat} (hi : i < m.gs.length) : OpnP m (zs.erase (i : Int)) (tk.set (m.gs.getD i as0).t.toNat ⟨false⟩) := by
  have ht := ((hm.gs1 hi).tgt).1
  refine ⟨by rw [List.length_set]; exact h.1, fun s hs => ?_⟩
  rw [getD_setB (by rw [h.1]; omega)]
  by_cases e : s = (m.gs.getD i as0).t.toNat
  · rw [if_pos e]
    refine ⟨fun h9 => absurd h9 (by decide), fun ⟨y, hy, h1⟩ => ?_⟩
    obtain ⟨h3, h4⟩ := (hnd.mem_erase_iff).1 hy
    have h5 := hz y h4
    have h6 := tgt_inj (hm.2 0 (by simp)) (i := y.toNat) (j := i) (by omega) hi (by omega)
    omega
  · rw [if_neg e, h.2 s hs]
    constructor
    · rintro ⟨y, hy, h1⟩
      refine ⟨y, hnd.mem_erase_iff.2 ⟨fun e9 => ?_, hy⟩, h1⟩
      subst e9; rw [Int.toNat_natCast] at h1; omega
    · rintro ⟨y, hy, h1⟩; exact ⟨y, (hnd.mem_erase_iff.1 hy).2, h1⟩
theorem Can.backE {m : Md} {T : List Int} {x : Int} (hx : x ∈ T) (hnd : T.Nodup) (hf : FreeP m T x) (h : Can m (T.erase x)) : Can m T := by
  obtain ⟨f, h⟩ := h
  refine ⟨fun z => if z = x then 0 else f z + 1, fun a ha b hb hr => ?_⟩
  show (if b = _ then 0 else f b + 1) < (if a = _ then 0 else f a + 1)
  by_cases ea : a = x
  · rw [ea] at hr; exact absurd hr (hf b hb)
  · rw [if_neg ea]
    by_cases eb : b = x
    · rw [if_pos eb]; omega
    · rw [if_neg eb]; have := h a (hnd.mem_erase_iff.2 ⟨ea, ha⟩) b (hnd.mem_erase_iff.2 ⟨eb, hb⟩) hr; omega
theorem opn_stop {m : Md} (hm : DesP [m]) {zs : List Int} {tk : List Bl} (h : OpnP m zs tk) (hz : ∀ y ∈ zs, 0 ≤ y ∧ y < m.gs.length) (h0 : zs ≠ []) (hn : ∀ i, i < m.gs.length → ¬ ((tk.getD (m.gs.getD i as0).t.toNat bl0).b = true ∧ ¬ WtP (m.gs.getD i as0).os tk)) : ¬ Can m zs := fun hc => by
  obtain ⟨x, hx, hf⟩ := hc.free h0
  have h1 := hz x hx
  have hg := hm.gs1 (i := x.toNat) (by omega)
  exact hn x.toNat (by omega) ⟨(h.2 _ (by have := hg.tgt.1; omega)).2 ⟨x, hx, by have := hg.tgt.1; omega⟩, (wt_free h hg.2).2 hf⟩
section
variable {P : Program} {N : Nat} {w0 : World} {l : List HP} {env : List (Nat × Value)} {Q : Post}
theorem hc_loop5 {α β γ δ ε : Type} {c : Code} (L : α → β → γ → δ → ε → List HP) (E : α → β → γ → δ → ε → List (Nat × Value)) (G : α → β → γ → δ → ε → Prop) (m : α → β → γ → δ → ε → Nat) (x0 : α) (y0 : β) (z0 : γ) (u0 : δ) (v0 : ε) (hG : G x0 y0 z0 u0 v0) (hs : sub (E x0 y0 z0 u0 v0) env) (hl : (L x0 y0 z0 u0 v0).Sublist l)
    (round : ∀ x y z u v, G x y z u v → HC P N w0 (L x y z u v) (E x y z u v) c (Exit.then (fun a' w' => ∃ x' y' z' u' v', G x' y' z' u' v' ∧ m x' y' z' u' v' < m x y z u v ∧ St N w0 (L x' y' z' u' v') (E x' y' z' u' v') a' w') Q)) : HC P N w0 l env (.loop c) Q :=
  hc_loop (fun q : α × β × γ × δ × ε => L q.1 q.2.1 q.2.2.1 q.2.2.2.1 q.2.2.2.2) (fun q => E q.1 q.2.1 q.2.2.1 q.2.2.2.1 q.2.2.2.2) (fun q => G q.1 q.2.1 q.2.2.1 q.2.2.2.1 q.2.2.2.2) (fun q => m q.1 q.2.1 q.2.2.1 q.2.2.2.1 q.2.2.2.2) (x0, y0, z0, u0, v0) hG hs hl (fun q hq a w st => wp_mono (round q.1 q.2.1 q.2.2.1 q.2.2.2.1 q.2.2.2.2 hq a w st) fun e a' w' h => by
    cases e with
    | normal => obtain ⟨x', y', z', u', v', h1, h2, h3⟩ := h; exact ⟨(x', y', z', u', v'), h1, h2, h3⟩
    | exit id => exact h
    | goto l => exact h
    | ret => exact h
    | panic ch => exact h
    | outgrown => exact h)
theorem zfe {α β γ δ ε : Type} {L : α → β → γ → δ → ε → List HP} {E : α → β → γ → δ → ε → List (Nat × Value)} {G : α → β → γ → δ → ε → Prop} {m : α → β → γ → δ → ε → Nat} {M : Nat} (x' : α) (y' : β) (z' : γ) (u' : δ) (v' : ε) (hG : G x' y' z' u' v') (hm : m x' y' z' u' v' < M) (hs : sub (E x' y' z' u' v') env) (hl : (L x' y' z' u' v').Sublist l) :
    HQ N w0 l env .normal (Exit.then (fun a' w' => ∃ x' y' z' u' v', G x' y' z' u' v' ∧ m x' y' z' u' v' < M ∧ St N w0 (L x' y' z' u' v') (E x' y' z' u' v') a' w') Q) := fun a w st => ⟨x', y', z', u', v', hG, hm, st.less hs hl⟩
end
def wmK (w : Int) : Int := 1 * 2 ^ w.toNat - 1
theorem wm_rng {w : Int} (h : 0 ≤ w ∧ w ≤ 4) : 1 ≤ 1 * (2 : Int) ^ w.toNat ∧ 1 * (2 : Int) ^ w.toNat ≤ 16 := by
  rcases (by omega : w = 0 ∨ w = 1 ∨ w = 2 ∨ w = 3 ∨ w = 4) with rfl | rfl | rfl | rfl | rfl <;> decide
def stR (m : Md) (i : Nat) : List Bl := (List.range m.ss.length).map (fun s => ⟨decide (s < i ∧ (m.ss.getD s sg0).k = 3)⟩)
def stM (m : Md) : Nat → List Bl
  | 0 => stR m m.ss.length
  | j + 1 => (stM m j).set (m.ms.getD j mm0).o.toNat ⟨true⟩
theorem stR_len (m : Md) (i : Nat) : (stR m i).length = m.ss.length := by unfold stR; rw [List.length_map, List.length_range]
theorem stM_len (m : Md) : ∀ j, (stM m j).length = m.ss.length
  | 0 => stR_len m _
  | j + 1 => by unfold stM; rw [List.length_set, stM_len m j]
theorem stR_0 (m : Md) : stR m 0 = List.replicate m.ss.length bl0 := by
  refine List.ext_getElem (by rw [stR_len, List.length_replicate]) (fun s h1 h2 => ?_)
  unfold stR; simp
theorem stR_step {m : Md} {i : Nat} (hi : i < m.ss.length) : (stR m i).set i ⟨decide ((m.ss.getD i sg0).k = 3)⟩ = stR m (i + 1) := by
  refine List.ext_getElem (by rw [List.length_set, stR_len, stR_len]) (fun s h1 h2 => ?_)
  rw [List.getElem_set]
  unfold stR
  simp only [List.getElem_map, List.getElem_range]
  by_cases e : i = s
  · subst e; rw [if_pos rfl]; congr 1; simp
  · rw [if_neg e]; congr 1
    by_cases e2 : s < i
    · simp [e2, show s < i + 1 by omega]
    · simp [e2, show ¬ s < i + 1 by omega]
theorem zek (x : Int) (w : World) (hw : 0 ≤ x ∧ x ≤ 4) :
   Calls Try.prog 64 #[.int .i64 x] w (Ans w (.int .i64 (wmK x))) := by
 have hw9 := wm_rng hw
 refine zbw (N := 7) (args := [.int .i64 x]) Try.func64 rfl rfl (zbh 1 rfl (zag (reQ 1 rfl (hvQ rfl (rv_conv rfl Try.underlying3 Try.underlying154 rfl (IntWalk.u64_in _ (by omega))) (hvQ rfl (rv_shl (kk' := .i64) rfl rfl rfl (by omega) (by constructor <;> omega)) (hvQ rfl (vsQ rfl rfl rfl) (zah 1 rfl ?_)))))))
 refine ntQ ?_
 exact zap (zay rfl rfl rfl)
theorem isStored_ret (m : Md) (w : World) (hr : RdsMd w m) (hss : m.ss.length ≤ 30) (hO : ∀ i, i < m.ms.length → 0 ≤ (m.ms.getD i mm0).o ∧ (m.ms.getD i mm0).o < m.ss.length) :
   Calls Try.prog 63 #[.agg #[m.sv, m.av, m.iv, m.mv]] w (Ret w (fun v' post => post = [rowE 4 1 v' (stM m m.ms.length).length ((stM m m.ms.length).flatMap blC)])) := by
 have hs9 := sml hr.s
 have hm9 := sml hr.m
 refine zbw (N := 40) (args := [.agg #[m.sv, m.av, m.iv, m.mv]]) Try.func63 rfl rfl (srQ ?_)
 refine zdk rfl (zda rfl rfl) ?_
 intro b1
 refine zaz 1 rfl (srQ (hvQ rfl (fdQ 0 rfl rfl rfl) (hvQ rfl (zac rfl rfl rfl (zaa 0 rfl rfl)) (hvQ rfl (lnQ rfl rfl rfl (zae ((hr).s))) ?_))))
 refine zdu rfl (rq_make (z := .bool false) (s := 1) (bytes := 1) (n := (List.replicate m.ss.length bl0).length) (cs := ((List.replicate m.ss.length bl0).flatMap blC)) rfl Try.underlying103 rfl (by decide) rfl rfl (by first | (rw [List.length_replicate]; done) | (rw [List.length_replicate]; omega)) (by first | (rw [List.length_replicate]; done) | (rw [List.length_replicate]; omega)) (by rw [List.length_replicate]; omega) (made_flat blC 1 (fun _ => rfl) bl0 _ rfl m.ss.length)) ?_
 intro g2
 refine zaz 1 rfl (zfh (hvQ rfl (fdQ 0 rfl rfl rfl) (hvQ rfl (zac rfl rfl rfl (zaa 1 rfl rfl)) (hvQ rfl (lnQ rfl rfl rfl (zae ((hr).s))) (zaz 1 rfl ?_)))))
 refine zba ?_
 refine lkQ2 (α := Nat) (β := List Bl) [0, 1, 2, 3, 13, 14] rfl (fun i tk => [rowE 4 1 (.slice (some ⟨g2, 0, none⟩) ((List.replicate m.ss.length bl0).length) ((List.replicate m.ss.length bl0).length)) tk.length (tk.flatMap blC), boxE b1 #[m.sv, m.av, m.iv, m.mv] 35]) (fun i tk => [(15, .int .i64 (i : Int))]) (fun i tk => i ≤ m.ss.length ∧ tk = stR m i) (fun i tk => m.ss.length - i) 0 (List.replicate m.ss.length bl0) ⟨Nat.zero_le _, (stR_0 m).symm⟩ (saQ rfl) (pfQ rfl) ?_
 intro i tk hi3
 obtain ⟨hi, hz⟩ := hi3
 have htl : tk.length = m.ss.length := by rw [hz]; exact stR_len m i
 refine srQ ?_
 refine zbp rfl rfl rfl rfl rfl rfl (fun h4 => ?_) (fun h4 => ?_)
 ·
  refine ntQ (tcQ rfl (zcy (sbQ (zag (reQ 1 rfl (hvQ rfl (riQ 3 rfl rfl rfl rfl (zae ((hr).s))) ?_))))))
  refine hvQ rfl (zbj (us := [.int .i64 ((m.ss.getD i sg0).k), .int .i64 ((m.ss.getD i sg0).w), .int .i64 ((m.ss.getD i sg0).i)]) rfl rfl rfl rfl (zae ((hr).s)) (by omega) rfl (zby sgC 3 (fun _ => rfl) m.ss sg0 (show i < _ by omega) rfl)) (zdk rfl (zbf (z := .agg #[.int .i64 0, .int .i64 0, .int .i64 0]) rfl rfl) ?_)
  intro b5
  refine zah 1 rfl (zbd (cs' := #[.int .i64 ((m.ss.getD i sg0).k), .int .i64 ((m.ss.getD i sg0).w), .int .i64 ((m.ss.getD i sg0).i)]) (i := 0) (off := 0) (us := [.int .i64 ((m.ss.getD i sg0).k), .int .i64 ((m.ss.getD i sg0).w), .int .i64 ((m.ss.getD i sg0).i)]) rfl rfl rfl rfl rfl rfl rfl (zab rfl (zab rfl (zab rfl zbb))) rfl rfl rfl ?_)
  refine ntQ (reQ 2 rfl (hvQ rfl (fdQ 0 rfl rfl rfl) (hvQ rfl (zac rfl rfl rfl (zaa 0 rfl rfl)) ?_)))
  refine zbu rfl rfl rfl rfl rfl rfl (fun h6 => ?_) (fun h6 => ?_)
  ·
   refine hvQ rfl (riQ 1 rfl rfl rfl rfl (zai 1 rfl)) (zgc (i := 1) (n' := (tk.set i { tk.getD i bl0 with b := true }).length) rfl rfl rfl rfl rfl rfl rfl rfl (by first | omega | (simp only [List.length_set]; omega)) List.length_set.symm (zgd blC (fun r => .bool r.b) (fun _ => rfl) _ ({ tk.getD i bl0 with b := true }) rfl) rfl ?_)
   refine zbn (zde (zao (hvQ rfl (vaQ rfl rfl rfl) (enQ 1 rfl ?_))))
   exact zcp (i + 1) (tk.set i { tk.getD i bl0 with b := true }) ⟨by omega, (by rw [hz, ← stR_step (by omega)]; first | rw [decide_eq_true (by omega)] | rw [decide_eq_false (by omega)])⟩ (by omega) (saQ rfl) (slQ [1, 0] rfl)
  refine hvQ rfl (riQ 1 rfl rfl rfl rfl (zai 1 rfl)) (zgc (i := 1) (n' := (tk.set i { tk.getD i bl0 with b := false }).length) rfl rfl rfl rfl rfl rfl rfl rfl (by first | omega | (simp only [List.length_set]; omega)) List.length_set.symm (zgd blC (fun r => .bool r.b) (fun _ => rfl) _ ({ tk.getD i bl0 with b := false }) rfl) rfl ?_)
  refine zbn (zde (zao (hvQ rfl (vaQ rfl rfl rfl) (enQ 1 rfl ?_))))
  exact zcp (i + 1) (tk.set i { tk.getD i bl0 with b := false }) ⟨by omega, (by rw [hz, ← stR_step (by omega)]; first | rw [decide_eq_true (by omega)] | rw [decide_eq_false (by omega)])⟩ (by omega) (saQ rfl) (slQ [1, 0] rfl)
 refine ntQ (fcQ rfl ?_)
 refine zbi (zdv ?_)
 refine zal (zar (zfh (hvQ rfl (fdQ 3 rfl rfl rfl) (hvQ rfl (zac rfl rfl rfl (zaa 1 rfl rfl)) (hvQ rfl (lnQ rfl rfl rfl (zae ((hr).m))) (zaz 1 rfl (zba ?_)))))))
 refine lkQ2 (α := Nat) (β := List Bl) [0, 1, 2, 3, 13, 14, 15, 16, 28, 29] rfl (fun j tk2 => [rowE 4 1 (.slice (some ⟨g2, 0, none⟩) ((List.replicate m.ss.length bl0).length) ((List.replicate m.ss.length bl0).length)) tk2.length (tk2.flatMap blC), boxE b1 #[m.sv, m.av, m.iv, m.mv] 35]) (fun j tk2 => [(30, .int .i64 (j : Int))]) (fun j tk2 => j ≤ m.ms.length ∧ tk2 = stM m j) (fun j tk2 => m.ms.length - j) 0 tk ⟨Nat.zero_le _, (by rw [hz, show i = m.ss.length by omega]; rfl)⟩ (saQ rfl) (pfQ rfl) ?_
 intro j tk2 hi7
 obtain ⟨hj, hz2⟩ := hi7
 have htl2 : tk2.length = m.ss.length := by rw [hz2]; exact stM_len m j
 refine srQ ?_
 refine zbp rfl rfl rfl rfl rfl rfl (fun h8 => ?_) (fun h8 => ?_)
 ·
  refine ntQ (tcQ rfl (zcy (sbQ (srQ ?_))))
  have hoj := hO j (by omega)
  refine hvQ rfl (riQ 4 rfl rfl rfl rfl (zae ((hr).m))) (hvQ rfl (zbj (us := [.int .i64 ((m.ms.getD j mm0).a), .int .i64 ((m.ms.getD j mm0).d), .int .i64 ((m.ms.getD j mm0).w), .int .i64 ((m.ms.getD j mm0).o)]) rfl rfl rfl rfl (zae ((hr).m)) (by omega) rfl (zby mmC 4 (fun _ => rfl) m.ms mm0 (show j < _ by omega) rfl)) ?_)
  refine zdk rfl (zbf (z := .agg #[.int .i64 0, .int .i64 0, .int .i64 0, .int .i64 0]) rfl rfl) ?_
  intro b9
  refine zbd (cs' := #[.int .i64 ((m.ms.getD j mm0).a), .int .i64 ((m.ms.getD j mm0).d), .int .i64 ((m.ms.getD j mm0).w), .int .i64 ((m.ms.getD j mm0).o)]) (i := 0) (off := 0) (us := [.int .i64 ((m.ms.getD j mm0).a), .int .i64 ((m.ms.getD j mm0).d), .int .i64 ((m.ms.getD j mm0).w), .int .i64 ((m.ms.getD j mm0).o)]) rfl rfl rfl rfl rfl rfl rfl (zab rfl (zab rfl (zab rfl (zab rfl zbb)))) rfl rfl rfl (ntQ (reQ 1 rfl (hvQ rfl (fdQ 3 rfl rfl rfl) (hvQ rfl (zac rfl rfl rfl (zaa 0 rfl rfl)) (hvQ rfl (riQ 1 rfl rfl rfl rfl (zai 1 rfl)) ?_)))))
  refine zgc (i := 1) (n' := (tk2.set (((m.ms.getD j mm0).o).toNat) { tk2.getD (((m.ms.getD j mm0).o).toNat) bl0 with b := true }).length) rfl rfl rfl rfl rfl rfl rfl rfl (by first | omega | (simp only [List.length_set]; omega)) List.length_set.symm (zgd blC (fun r => .bool r.b) (fun _ => rfl) _ ({ tk2.getD (((m.ms.getD j mm0).o).toNat) bl0 with b := true }) rfl) rfl (zbn (zde (zao (hvQ rfl (vaQ rfl rfl rfl) (enQ 1 rfl ?_)))))
  exact zcp (j + 1) (tk2.set (((m.ms.getD j mm0).o).toNat) { tk2.getD (((m.ms.getD j mm0).o).toNat) bl0 with b := true }) ⟨by omega, (by rw [hz2]; rfl)⟩ (by omega) (saQ rfl) (slQ [1, 0] rfl)
 refine ntQ (fcQ rfl ?_)
 refine zbi (zdv ?_)
 refine zal (zar (zbh 2 rfl ?_))
 exact zap (zew (post := [rowE 4 1 (.slice (some ⟨g2, 0, none⟩) ((List.replicate m.ss.length bl0).length) ((List.replicate m.ss.length bl0).length)) tk2.length (tk2.flatMap blC)]) rfl rfl (slQ [0] rfl) (by rw [hz2, show j = m.ms.length by omega]))
theorem rv_unx {P : Program} {N : Nat} {w0 : World} {l : List HP} {env : List (Nat × Value)} {o : Oper} {t : TypeId} {x : Operand} {m : Int} (ho : o.op = .unOp .xor t x) (hx : ev env x = some (.int .i64 m)) : RunV P N w0 l env o (.int .i64 (bits .xor .i64 (-1) m)) := fun a w st => by
  simp [execOp, ho, st.eval hx, Op.unary]; rfl
def opV (o : Oq) (vs L : List Int) : Int :=
  if o.k = 0 then o.a else if o.k = 2 then vs.getD o.a.toNat 0 else if o.k = 3 then bits .and .i64 (vs.getD o.a.toNat 0 / 2 ^ o.b.toNat) 1
  else if o.k = 4 then bits .xor .i64 (-1) (L.getD 0 0) else if o.k = 5 then bits .and .i64 (L.getD 0 0) (L.getD 1 0) else if o.k = 6 then bits .or .i64 (L.getD 0 0) (L.getD 1 0) else if o.k = 7 then bits .xor .i64 (L.getD 0 0) (L.getD 1 0)
  else if o.k = 8 then L.getD 0 0 + L.getD 1 0 else if o.k = 9 then L.getD 0 0 - L.getD 1 0 else if o.k = 10 then (if L.getD 0 0 = L.getD 1 0 then 1 else 0) else if o.k = 11 then (if L.getD 0 0 < L.getD 1 0 then 1 else 0)
  else if o.k = 12 then (if L.getD 0 0 ≠ 0 then L.getD 1 0 else L.getD 2 0) else 0
def argE (g : Nat → Int × Nat) (p : Nat) : Nat → List Int × Nat
  | 0 => ([], p)
  | i + 1 => ((argE g p i).1 ++ [(g (argE g p i).2).1], (g (argE g p i).2).2)
def evE (os : List Oq) (vs : List Int) (x : Int) : Nat → Nat → Int × Nat
  | 0, p => (0, p)
  | f + 1, p => (bits .and .i64 (opV (os.getD p oq0) vs (argE (evE os vs x f) (p + 1) (arI (os.getD p oq0).k).toNat).1) (wmK x), (argE (evE os vs x f) (p + 1) (arI (os.getD p oq0).k).toNat).2)
theorem argE_len (g : Nat → Int × Nat) (p : Nat) : ∀ i, (argE g p i).1.length = i
  | 0 => rfl
  | i + 1 => by
    show ((argE g p i).1 ++ [_]).length = _
    rw [List.length_append, argE_len g p i]; rfl
theorem argE_ok {n : Int} {os : List Oq} (h : OpsP n os) {g : Nat → Int × Nat} {p : Nat} (hp : p < os.length) (hg : ∀ q, p < q → q < os.length → q < (g q).2 ∧ (g q).2 ≤ os.length ∧ needK os (g q).2 = needK os q - 1) : ∀ i : Nat, (i : Int) ≤ arI (os.getD p oq0).k → p < (argE g (p + 1) i).2 ∧ (argE g (p + 1) i).2 ≤ os.length ∧ needK os (argE g (p + 1) i).2 = needK os p + arI (os.getD p oq0).k - 1 - i
  | 0, hi => by
    have h5 : needK os (p + 1) = needK os p + (arI (os.getD p oq0).k - 1) := rfl
    show p < p + 1 ∧ p + 1 ≤ _ ∧ needK os (p + 1) = _
    exact ⟨by omega, by omega, by omega⟩
  | i + 1, hi => by
    obtain ⟨a1, a2, a3⟩ := argE_ok h hp hg i (by omega)
    have h1 := needK_pos h p hp
    have hlt : (argE g (p + 1) i).2 < os.length := by
      rcases Nat.lt_or_ge (argE g (p + 1) i).2 os.length with h8 | h8
      · exact h8
      · have e : (argE g (p + 1) i).2 = os.length := by omega
        rw [e, h.fin] at a3; omega
    obtain ⟨b1, b2, b3⟩ := hg _ a1 hlt
    show p < (g _).2 ∧ (g _).2 ≤ _ ∧ needK os (g _).2 = _
    exact ⟨by omega, b2, by omega⟩
theorem argE_lt {n : Int} {os : List Oq} (h : OpsP n os) {g : Nat → Int × Nat} {p : Nat} (hp : p < os.length) (hg : ∀ q, p < q → q < os.length → q < (g q).2 ∧ (g q).2 ≤ os.length ∧ needK os (g q).2 = needK os q - 1) (i : Nat) (hi : (i : Int) < arI (os.getD p oq0).k) : (argE g (p + 1) i).2 < os.length := by
  obtain ⟨a1, a2, a3⟩ := argE_ok h hp hg i (by omega)
  have h1 := needK_pos h p hp
  rcases Nat.lt_or_ge (argE g (p + 1) i).2 os.length with h8 | h8
  · exact h8
  · have e : (argE g (p + 1) i).2 = os.length := by omega
    rw [e, h.fin] at a3; omega
theorem evE_ok {n : Int} {os : List Oq} (h : OpsP n os) (vs : List Int) (x : Int) : ∀ (f p : Nat), os.length - p ≤ f → p < os.length → p < (evE os vs x f p).2 ∧ (evE os vs x f p).2 ≤ os.length ∧ needK os (evE os vs x f p).2 = needK os p - 1
  | 0, p, hf, hp => by omega
  | f + 1, p, hf, hp => by
    have h4 := arI_val h hp
    obtain ⟨a1, a2, a3⟩ := argE_ok h hp (g := evE os vs x f) (fun q h1 h2 => evE_ok h vs x f q (by omega) h2) (arI (os.getD p oq0).k).toNat (by omega)
    show p < (argE _ _ _).2 ∧ (argE _ _ _).2 ≤ _ ∧ needK os (argE _ _ _).2 = _
    exact ⟨a1, a2, by omega⟩
def ouA (ss : List Sg) (V : List Int) : Nat → List Int
  | 0 => []
  | i + 1 => ouA ss V i ++ if (ss.getD i sg0).k = 1 then [V.getD i 0] else []
def ouK (m : Md) (V : List Int) : List Int := ouA m.ss V m.ss.length
theorem ouA_le (ss : List Sg) (V : List Int) : ∀ i, (ouA ss V i).length ≤ i
  | 0 => Nat.le_refl _
  | i + 1 => by
    have := ouA_le ss V i
    unfold ouA; rw [List.length_append]; split <;> simp <;> omega
theorem ouA_yes {ss : List Sg} {V : List Int} {i : Nat} (h : (ss.getD i sg0).k = 1) : ouA ss V i ++ [V.getD i 0] = ouA ss V (i + 1) := by
  show _ = ouA ss V i ++ if _ then _ else _
  rw [if_pos h]
theorem ouA_no {ss : List Sg} {V : List Int} {i : Nat} (h : ¬ (ss.getD i sg0).k = 1) : ouA ss V i = ouA ss V (i + 1) := by
  show _ = ouA ss V i ++ if _ then _ else _
  rw [if_neg h, List.append_nil]
theorem outputValues_ret (m : Md) (V : List Int) (u : Value) (w : World) (hr : RdsMd w m) (hu : RdsW w u 1 V.length (V.map (Value.int .i64))) (hV : V.length = m.ss.length) (hss : m.ss.length ≤ 30) :
   Calls Try.prog 61 #[.agg #[m.sv, m.av, m.iv, m.mv], u] w (Ret w (fun v' post => post = [rowE 3 1 v' ((ouK m V)).length (((ouK m V)).map (Value.int .i64))])) := by
 have hs9 := sml hr.s
 refine zbw (N := 28) (args := [.agg #[m.sv, m.av, m.iv, m.mv], u]) Try.func61 rfl rfl (srQ ?_)
 refine zdk rfl (zda rfl rfl) ?_
 intro b1
 refine zdo 3 1 (zaz 1 rfl (srQ ?_))
 refine zdo 3 1 (zaz 1 rfl (zfh (hvQ rfl (fdQ 0 rfl rfl rfl) (hvQ rfl (zac rfl rfl rfl (zaa 2 rfl rfl)) (hvQ rfl (lnQ rfl rfl rfl (zae ((hr).s))) (zaz 1 rfl ?_))))))
 refine zba ?_
 refine lkQ3 (α := Nat) (β := Value) (γ := List Int) [0, 1, 2, 4, 9, 10] rfl (fun i gu zs => [rowE 3 1 gu zs.length (zs.map (Value.int .i64)), rowE 3 1 (.slice none 0 0) 0 ([]), boxE b1 #[m.sv, m.av, m.iv, m.mv] 35]) (fun i gu zs => [(5, gu), (11, .int .i64 (i : Int))]) (fun i gu zs => i ≤ m.ss.length ∧ zs = ouA m.ss V i) (fun i gu zs => m.ss.length - i) 0 _ [] ⟨Nat.zero_le _, rfl⟩ (saQ rfl) (pfQ rfl) ?_
 intro i gu zs hi4
 obtain ⟨hi, hz⟩ := hi4
 have hzl : zs.length ≤ i := by rw [hz]; exact ouA_le _ _ _
 refine srQ ?_
 refine zbp rfl rfl rfl rfl rfl rfl (fun h5 => ?_) (fun h5 => ?_)
 ·
  refine ntQ (tcQ rfl (zcy (sbQ (zag (reQ 1 rfl (hvQ rfl (riQ 3 rfl rfl rfl rfl (zae ((hr).s))) ?_))))))
  refine hvQ rfl (zbj (us := [.int .i64 ((m.ss.getD i sg0).k), .int .i64 ((m.ss.getD i sg0).w), .int .i64 ((m.ss.getD i sg0).i)]) rfl rfl rfl rfl (zae ((hr).s)) (by omega) rfl (zby sgC 3 (fun _ => rfl) m.ss sg0 (show i < _ by omega) rfl)) (zdk rfl (zbf (z := .agg #[.int .i64 0, .int .i64 0, .int .i64 0]) rfl rfl) ?_)
  intro b6
  refine zah 1 rfl (zbd (cs' := #[.int .i64 ((m.ss.getD i sg0).k), .int .i64 ((m.ss.getD i sg0).w), .int .i64 ((m.ss.getD i sg0).i)]) (i := 0) (off := 0) (us := [.int .i64 ((m.ss.getD i sg0).k), .int .i64 ((m.ss.getD i sg0).w), .int .i64 ((m.ss.getD i sg0).i)]) rfl rfl rfl rfl rfl rfl rfl (zab rfl (zab rfl (zab rfl zbb))) rfl rfl rfl ?_)
  refine ntQ (srQ (hvQ rfl (fdQ 0 rfl rfl rfl) (hvQ rfl (zac rfl rfl rfl (zaa 0 rfl rfl)) ?_)))
  refine zbu rfl rfl rfl rfl rfl rfl (fun h7 => ?_) (fun h7 => ?_)
  ·
   refine ntQ (zaj rfl (reQ 3 rfl (hvQ rfl (riQ 1 rfl rfl rfl rfl (zae hu)) (hvQ rfl (liQ rfl rfl rfl (zae hu)) ?_))))
   refine zdu rfl (zan (z := .int .i64 0) (s := 1) (cs := ([V.getD i 0].map (Value.int .i64))) rfl Try.underlying48 rfl (by decide) rfl (by kernel_rfl) rfl) ?_
   intro g8
   refine zcq (i := 2) (z := .int .i64 0) (bytes := 8) rfl rfl rfl rfl Try.underlying48 (by kernel_rfl) rfl rfl rfl rfl (zai 0 rfl) (zcg _) (by first | omega | (simp; done) | (simp; omega)) (zci zs ([V.getD i 0])) (zcv zs ([V.getD i 0])) (fun _ => rfl) ?_
   intro v9
   refine enQ 1 rfl (zde (zao (hvQ rfl (vaQ rfl rfl rfl) (enQ 1 rfl ?_))))
   exact zcl (i + 1) v9 (zs ++ ([V.getD i 0])) ⟨by omega, by rw [hz]; exact ouA_yes (by omega)⟩ (by omega) (saQ rfl) (slQ [2, 0, 0] rfl)
  refine ntQ (fsQ rfl (zde (zao (hvQ rfl (vaQ rfl rfl rfl) (enQ 1 rfl ?_)))))
  exact zcl (i + 1) gu zs ⟨by omega, hz.trans (ouA_no (by omega))⟩ (by omega) (saQ rfl) (slQ [1, 0, 0] rfl)
 refine ntQ (fcQ rfl ?_)
 refine zbi (zdv ?_)
 refine zal (zar (zbh 2 rfl ?_))
 exact zap (zew (post := [rowE 3 1 gu zs.length (zs.map (Value.int .i64))]) rfl rfl (slQ [0] rfl) (by rw [hz, show i = m.ss.length by omega]; rfl))
structure VlP (m : Md) (vs : List Int) : Prop where
  len : vs.length = m.ss.length
  rng : ∀ s, s < m.ss.length → 0 ≤ vs.getD s 0 ∧ vs.getD s 0 ≤ wmK (m.ss.getD s sg0).w
structure WwP (m : Md) (ws : List Int) : Prop where
  len : ws.length = 4 * m.ms.length
  rng : ∀ i, i < ws.length → 0 ≤ ws.getD i 0 ∧ ws.getD i 0 ≤ wmK (m.ss.getD (m.ms.getD ((i : Int) / 4).toNat mm0).d.toNat sg0).w
def stB (m : Md) (s : Nat) : Bool := ((stM m m.ms.length).getD s bl0).b
structure WsP (m : Md) (vs ws : List Int) : Prop where
  fl : FlP m
  v : VlP m vs
  w : WwP m ws
  z : ∀ s, s < m.ss.length → stB m s = false → vs.getD s 0 = 0
theorem stM_mono {m : Md} {s : Nat} : ∀ j, ((stM m 0).getD s bl0).b = true → ((stM m j).getD s bl0).b = true
  | 0, h => h
  | j + 1, h => by
    show (((stM m j).set _ _).getD s bl0).b = true
    by_cases e : (m.ms.getD j mm0).o.toNat < (stM m j).length
    · rw [getD_setB e]; split
      · rfl
      · exact stM_mono j h
    · rw [List.set_eq_of_length_le (by omega)]; exact stM_mono j h
theorem stM_out {m : Md} {k : Nat} (hk : (m.ms.getD k mm0).o.toNat < m.ss.length) : ∀ j, k < j → ((stM m j).getD (m.ms.getD k mm0).o.toNat bl0).b = true
  | 0, h => absurd h (by omega)
  | j + 1, h => by
    show (((stM m j).set _ _).getD _ bl0).b = true
    by_cases e : (m.ms.getD j mm0).o.toNat < (stM m j).length
    · rw [getD_setB e]; split
      · rfl
      · rename_i hne
        by_cases e2 : k = j
        · subst e2; exact absurd rfl hne
        · exact stM_out hk j (by omega)
    · rw [List.set_eq_of_length_le (by omega)]
      by_cases e2 : k = j
      · subst e2; rw [stM_len] at e; exact absurd hk e
      · exact stM_out hk j (by omega)
theorem stB_reg {m : Md} {s : Nat} (hs : s < m.ss.length) (h : (m.ss.getD s sg0).k = 3) : stB m s = true := by
  refine stM_mono _ ?_
  show ((stR m m.ss.length).getD s bl0).b = true
  unfold stR
  rw [List.getD_eq_getElem?_getD, List.getElem?_map, List.getElem?_range hs]
  show decide _ = true
  rw [decide_eq_true_eq]; exact ⟨hs, h⟩
theorem stB_out {m : Md} {k : Nat} (hk : k < m.ms.length) (ho : 0 ≤ (m.ms.getD k mm0).o ∧ (m.ms.getD k mm0).o < m.ss.length) : stB m (m.ms.getD k mm0).o.toNat = true := stM_out (by omega) _ hk
theorem wm_and {x w : Int} (h : 0 ≤ w ∧ w ≤ 4) : 0 ≤ bits .and .i64 x (wmK w) ∧ bits .and .i64 x (wmK w) ≤ wmK w := by
  have h1 := wm_rng h
  exact and_range _ _ (by unfold wmK; omega) (by unfold wmK; omega)
theorem wm_15 {w : Int} (h : 0 ≤ w ∧ w ≤ 4) : 0 ≤ wmK w ∧ wmK w ≤ 15 := by
  have h1 := wm_rng h; unfold wmK; omega
def evK (os : List Oq) (vs : List Int) (x : Int) : Int := (evE os vs x os.length 0).1
theorem evK_mask {os : List Oq} {vs : List Int} {x : Int} (hp : 0 < os.length) (hx : 0 ≤ x ∧ x ≤ 4) : 0 ≤ evK os vs x ∧ evK os vs x ≤ wmK x := by
  unfold evK
  obtain ⟨n, e⟩ : ∃ n, os.length = n + 1 := ⟨os.length - 1, by omega⟩
  rw [e]; exact wm_and hx
def staA (m : Md) : Nat → List Int
  | 0 => List.replicate m.ss.length 0
  | i + 1 => if (m.ss.getD i sg0).k = 3 then (staA m i).set i (bits .and .i64 (m.ss.getD i sg0).i (wmK (m.ss.getD i sg0).w)) else staA m i
def staV (m : Md) : List Int := staA m m.ss.length
def staW (m : Md) : List Int := List.replicate (4 * m.ms.length) 0
theorem staA_len (m : Md) : ∀ i, (staA m i).length = m.ss.length
  | 0 => List.length_replicate
  | i + 1 => by unfold staA; split <;> simp [staA_len m i]
theorem getD_setI {l : List Int} {a s : Nat} {b : Int} (ha : a < l.length) : (l.set a b).getD s 0 = if s = a then b else l.getD s 0 := by
  rw [List.getD_eq_getElem?_getD, List.getElem?_set, List.getD_eq_getElem?_getD]
  by_cases e : a = s
  · rw [if_pos e, if_pos e.symm, if_pos ha]; rfl
  · rw [if_neg e, if_neg (fun h => e h.symm)]
theorem getD_rep0 (n s : Nat) : (List.replicate n (0 : Int)).getD s 0 = 0 := by
  rw [List.getD_eq_getElem?_getD, List.getElem?_replicate]; split <;> rfl
theorem VlP.set {m : Md} {vs : List Int} (h : VlP m vs) {s : Nat} (hs : s < m.ss.length) {x : Int} (hx : 0 ≤ x ∧ x ≤ wmK (m.ss.getD s sg0).w) : VlP m (vs.set s x) := ⟨by rw [List.length_set]; exact h.len, fun q hq => by
  rw [getD_setI (by rw [h.len]; exact hs)]
  split
  · rename_i e; subst e; exact hx
  · exact h.rng q hq⟩
theorem FlP.sw {m : Md} (h : FlP m) {s : Nat} (hs : s < m.ss.length) : 0 ≤ (m.ss.getD s sg0).w ∧ (m.ss.getD s sg0).w ≤ 4 := (h.eo.mod.sg s hs).2.1
theorem FlP.lens {m : Md} (h : FlP m) : m.ss.length ≤ 30 ∧ m.gs.length ≤ 30 ∧ m.ms.length ≤ 2 := by
  have := h.eo.2.1.len1; exact ⟨this.1, this.2.1, this.2.2.2⟩
theorem VlP.zero {m : Md} (h : FlP m) : VlP m (List.replicate m.ss.length 0) := ⟨List.length_replicate, fun s hs => by
  rw [getD_rep0]; exact ⟨Int.le_refl _, (wm_15 (h.sw hs)).1⟩⟩
theorem staA_ok {m : Md} (h : FlP m) : ∀ i, i ≤ m.ss.length → VlP m (staA m i) ∧ ∀ s, s < m.ss.length → stB m s = false → (staA m i).getD s 0 = 0
  | 0, _ => ⟨VlP.zero h, fun s hs _ => getD_rep0 _ _⟩
  | i + 1, hi => by
    obtain ⟨h1, h2⟩ := staA_ok h i (by omega)
    unfold staA; split
    · rename_i hk
      refine ⟨h1.set (by omega) (wm_and (h.sw (by omega))), fun s hs hb => ?_⟩
      rw [getD_setI (by rw [h1.len]; omega)]; split
      · rename_i e; subst e; rw [stB_reg hs hk] at hb; cases hb
      · exact h2 s hs hb
    · exact ⟨h1, h2⟩
theorem staA_yes {m : Md} {i : Nat} (h : (m.ss.getD i sg0).k = 3) : (staA m i).set i (bits .and .i64 (m.ss.getD i sg0).i (wmK (m.ss.getD i sg0).w)) = staA m (i + 1) := by
  show _ = if _ then _ else _
  rw [if_pos h]
theorem staA_no {m : Md} {i : Nat} (h : ¬ (m.ss.getD i sg0).k = 3) : staA m i = staA m (i + 1) := by
  show _ = if _ then _ else _
  rw [if_neg h]
theorem WsP.start {m : Md} (h : FlP m) : WsP m (staV m) (staW m) := ⟨h, (staA_ok h _ (Nat.le_refl _)).1, ⟨List.length_replicate, fun i hi => by
    unfold staW at *
    rw [List.length_replicate] at hi
    rw [getD_rep0]
    have hm := h.eo.mod.ms ((i : Int) / 4).toNat (show ((i : Int) / 4).toNat < m.ms.length by omega)
    have hd : 0 ≤ (m.ms.getD ((i : Int) / 4).toNat mm0).d ∧ (m.ms.getD ((i : Int) / 4).toNat mm0).d < m.ss.length := hm.1.2.1
    exact ⟨Int.le_refl _, (wm_15 (h.sw (s := (m.ms.getD ((i : Int) / 4).toNat mm0).d.toNat) (by omega))).1⟩⟩, (staA_ok h _ (Nat.le_refl _)).2⟩
def inA (m : Md) (ins vs : List Int) : Nat → List Int × Nat
  | 0 => (vs, 0)
  | i + 1 => if (m.ss.getD i sg0).k = 0 then ((inA m ins vs i).1.set i (bits .and .i64 (ins.getD (inA m ins vs i).2 0) (wmK (m.ss.getD i sg0).w)), (inA m ins vs i).2 + 1) else inA m ins vs i
theorem inA_yes {m : Md} {ins vs zs : List Int} {i k : Nat} (hz : zs = (inA m ins vs i).1) (hk : k = (inA m ins vs i).2) (h : (m.ss.getD i sg0).k = 0) : zs.set i (bits .and .i64 (ins.getD k 0) (wmK (m.ss.getD i sg0).w)) = (inA m ins vs (i + 1)).1 ∧ k + 1 = (inA m ins vs (i + 1)).2 := by
  have e : inA m ins vs (i + 1) = ((inA m ins vs i).1.set i (bits .and .i64 (ins.getD (inA m ins vs i).2 0) (wmK (m.ss.getD i sg0).w)), (inA m ins vs i).2 + 1) := by
    show (if _ then _ else _) = _
    rw [if_pos h]
  rw [e, hz, hk]; exact ⟨rfl, rfl⟩
theorem inA_no {m : Md} {ins vs zs : List Int} {i k : Nat} (hz : zs = (inA m ins vs i).1) (hk : k = (inA m ins vs i).2) (h : ¬ (m.ss.getD i sg0).k = 0) : zs = (inA m ins vs (i + 1)).1 ∧ k = (inA m ins vs (i + 1)).2 := by
  have e : inA m ins vs (i + 1) = inA m ins vs i := by
    show (if _ then _ else _) = _
    rw [if_neg h]
  rw [e]; exact ⟨hz, hk⟩
theorem inA_cnt (m : Md) (ins vs : List Int) : ∀ i, (inA m ins vs i).2 = (pwA m.ss 0 i).length
  | 0 => rfl
  | i + 1 => by
    unfold inA pwA; rw [List.length_append]; split <;> simp [inA_cnt m ins vs i]
theorem pwA_mono (ss : List Sg) (c : Int) {i j : Nat} (h : i ≤ j) : (pwA ss c i).length ≤ (pwA ss c j).length := by
  induction h with
  | refl => exact Nat.le_refl _
  | step h ih => exact Nat.le_trans ih (by show _ ≤ (pwA ss c _ ++ _).length; rw [List.length_append]; exact Nat.le_add_right _ _)
theorem pwA_lt {ss : List Sg} {c : Int} {i : Nat} (h : (ss.getD i sg0).k = c) {n : Nat} (hn : i < n) : (pwA ss c i).length < (pwA ss c n).length := by
  have h1 := pwA_mono ss c (show i + 1 ≤ n from hn)
  have h2 : (pwA ss c (i + 1)).length = (pwA ss c i).length + 1 := by rw [← pwA_yes h, List.length_append]; rfl
  omega
theorem inA_ok {m : Md} (h : FlP m) {ins vs : List Int} (hv : VlP m vs) : ∀ i, i ≤ m.ss.length → VlP m (inA m ins vs i).1
  | 0, _ => hv
  | i + 1, hi => by
    have h1 := inA_ok h (ins := ins) hv i (by omega)
    unfold inA; split
    · exact h1.set (by omega) (wm_and (h.sw (by omega)))
    · exact h1
def asgK (m : Md) (vs : List Int) (x : Int) : List Int := vs.set (m.gs.getD x.toNat as0).t.toNat (evK (m.gs.getD x.toNat as0).os vs (m.ss.getD (m.gs.getD x.toNat as0).t.toNat sg0).w)
def ordV (m : Md) (ord vs : List Int) : Nat → List Int
  | 0 => vs
  | j + 1 => asgK m (ordV m ord vs j) (ord.getD j 0)
noncomputable def sgK (m : Md) (vs ins : List Int) : List Int := ordV m (eoK m) (inA m ins vs m.ss.length).1 (eoK m).length
theorem FlP.as {m : Md} (h : FlP m) {i : Nat} (hi : i < m.gs.length) : ((0 ≤ (m.gs.getD i as0).t ∧ (m.gs.getD i as0).t < m.ss.length) ∧ 1 ≤ (m.ss.getD (m.gs.getD i as0).t.toNat sg0).k ∧ (m.ss.getD (m.gs.getD i as0).t.toNat sg0).k ≤ 3) ∧ OpsP m.ss.length (m.gs.getD i as0).os := ⟨(h.eo.mod.gs i hi).tgt, (h.eo.mod.gs i hi).2⟩
theorem asgK_ok {m : Md} (h : FlP m) {vs : List Int} (hv : VlP m vs) {i : Nat} (hi : i < m.gs.length) : VlP m (asgK m vs (i : Int)) := by
  obtain ⟨⟨h1, -⟩, h2⟩ := h.as hi
  unfold asgK; rw [Int.toNat_natCast]
  exact hv.set (by omega) (evK_mask h2.pos (h.sw (by omega)))
theorem eo_rng {m : Md} (h : FlP m) {x : Int} (hx : x ∈ eoK m) : 0 ≤ x ∧ x < m.gs.length := by
  rw [eoK_yes h.eo] at hx
  obtain ⟨j, h1, -, rfl⟩ := todoA_mem.1 (ordF_mem rfl h.eo.2.2 hx); omega
theorem ordV_ok {m : Md} (h : FlP m) {vs : List Int} (hv : VlP m vs) : ∀ j, j ≤ (eoK m).length → VlP m (ordV m (eoK m) vs j)
  | 0, _ => hv
  | j + 1, hj => by
    have h1 := ordV_ok h hv j (by omega)
    have h2 := eo_rng h (zch (d := (0 : Int)) (show j < (eoK m).length by omega))
    obtain ⟨i, e⟩ : ∃ i : Nat, (eoK m).getD j 0 = (i : Int) := ⟨((eoK m).getD j 0).toNat, by omega⟩
    unfold ordV; rw [e]; exact asgK_ok h h1 (by omega)
theorem sgK_ok {m : Md} (h : FlP m) {vs ins : List Int} (hv : VlP m vs) : VlP m (sgK m vs ins) := ordV_ok h (inA_ok h hv _ (Nat.le_refl _)) _ (Nat.le_refl _)
def nrA (m : Md) (V : List Int) : Nat → List Int
  | 0 => List.replicate m.ss.length 0
  | i + 1 => if (m.ss.getD (m.gs.getD i as0).t.toNat sg0).k = 3 then (nrA m V i).set (m.gs.getD i as0).t.toNat (evK (m.gs.getD i as0).os V (m.ss.getD (m.gs.getD i as0).t.toNat sg0).w) else nrA m V i
def maK (m : Md) (V : List Int) (i : Nat) : Int := 4 * (i : Int) + V.getD (m.ms.getD i mm0).a.toNat 0
def nmA (m : Md) (ws V : List Int) : Nat → List Int × List Int
  | 0 => (nrA m V m.gs.length, ws)
  | i + 1 => ((nmA m ws V i).1.set (m.ms.getD i mm0).o.toNat (ws.getD (maK m V i).toNat 0), if V.getD (m.ms.getD i mm0).w.toNat 0 = 1 then (nmA m ws V i).2.set (maK m V i).toNat (V.getD (m.ms.getD i mm0).d.toNat 0) else (nmA m ws V i).2)
def nxV (m : Md) (ws V : List Int) : List Int := (nmA m ws V m.ms.length).1
def nxW (m : Md) (ws V : List Int) : List Int := (nmA m ws V m.ms.length).2
theorem nrA_yes {m : Md} {V : List Int} {i : Nat} (h : (m.ss.getD (m.gs.getD i as0).t.toNat sg0).k = 3) : (nrA m V i).set (m.gs.getD i as0).t.toNat (evK (m.gs.getD i as0).os V (m.ss.getD (m.gs.getD i as0).t.toNat sg0).w) = nrA m V (i + 1) := by
  show _ = if _ then _ else _
  rw [if_pos h]
theorem nrA_no {m : Md} {V : List Int} {i : Nat} (h : ¬ (m.ss.getD (m.gs.getD i as0).t.toNat sg0).k = 3) : nrA m V i = nrA m V (i + 1) := by
  show _ = if _ then _ else _
  rw [if_neg h]
theorem nrA_ok {m : Md} (h : FlP m) (V : List Int) : ∀ i, i ≤ m.gs.length → VlP m (nrA m V i) ∧ ∀ s, s < m.ss.length → stB m s = false → (nrA m V i).getD s 0 = 0
  | 0, _ => ⟨VlP.zero h, fun s hs _ => getD_rep0 _ _⟩
  | i + 1, hi => by
    obtain ⟨h1, h2⟩ := nrA_ok h V i (by omega)
    obtain ⟨⟨h3, -⟩, h4⟩ := h.as (i := i) (by omega)
    unfold nrA; split
    · rename_i hk
      refine ⟨h1.set (by omega) (evK_mask h4.pos (h.sw (by omega))), fun s hs hb => ?_⟩
      rw [getD_setI (by rw [h1.len]; omega)]; split
      · rename_i e; subst e; rw [stB_reg hs hk] at hb; cases hb
      · exact h2 s hs hb
    · exact ⟨h1, h2⟩
theorem FlP.mm {m : Md} (h : FlP m) {i : Nat} (hi : i < m.ms.length) : (0 ≤ (m.ms.getD i mm0).a ∧ (m.ms.getD i mm0).a < m.ss.length) ∧ (0 ≤ (m.ms.getD i mm0).d ∧ (m.ms.getD i mm0).d < m.ss.length) ∧ (0 ≤ (m.ms.getD i mm0).w ∧ (m.ms.getD i mm0).w < m.ss.length) ∧ 0 ≤ (m.ms.getD i mm0).o ∧ (m.ms.getD i mm0).o < m.ss.length := by
  have hm := h.eo.mod.ms i hi
  exact ⟨hm.1.1, hm.1.2.1, hm.1.2.2, hm.2.inn⟩
theorem maK_rng {m : Md} (h : FlP m) {V : List Int} (hV : VlP m V) {i : Nat} (hi : i < m.ms.length) : 4 * (i : Int) ≤ maK m V i ∧ maK m V i ≤ 4 * (i : Int) + 3 := by
  have h1 := h.mm hi
  have h2 := hV.rng (m.ms.getD i mm0).a.toNat (by omega)
  rw [(h.mem i hi).1] at h2
  unfold maK
  have h3 : wmK 2 = 3 := by decide
  omega
theorem nmA_ok {m : Md} (h : FlP m) {ws V : List Int} (hV : VlP m V) (hw : WwP m ws) : ∀ i, i ≤ m.ms.length → (VlP m (nmA m ws V i).1 ∧ ∀ s, s < m.ss.length → stB m s = false → (nmA m ws V i).1.getD s 0 = 0) ∧ WwP m (nmA m ws V i).2
  | 0, _ => ⟨nrA_ok h V _ (Nat.le_refl _), hw⟩
  | i + 1, hi => by
    obtain ⟨⟨h1, h2⟩, h3⟩ := nmA_ok h hV hw i (by omega)
    have hm := h.mm (i := i) (by omega)
    have ha := maK_rng h hV (i := i) (by omega)
    have hq : (((maK m V i).toNat : Int) / 4).toNat = i := by omega
    have hwr := hw.rng (maK m V i).toNat (by rw [hw.len]; omega)
    rw [hq] at hwr
    have hmw := (h.mem i (by omega)).2.2
    refine ⟨⟨h1.set (by omega) ⟨hwr.1, by rw [← hmw]; exact hwr.2⟩, fun s hs hb => ?_⟩, ?_⟩
    · show ((nmA m ws V i).1.set _ _).getD s 0 = 0
      rw [getD_setI (by rw [h1.len]; omega)]; split
      · rename_i e; subst e; rw [stB_out (by omega) hm.2.2.2] at hb; cases hb
      · exact h2 s hs hb
    · show WwP m (if _ then _ else _)
      split
      · refine ⟨by rw [List.length_set]; exact h3.len, fun q hq2 => ?_⟩
        rw [List.length_set] at hq2
        rw [getD_setI (by rw [h3.len]; omega)]; split
        · rename_i e; subst e; rw [hq]; exact hV.rng _ (by omega)
        · exact h3.rng q hq2
      · exact h3
theorem WsP.next {m : Md} {vs ws V : List Int} (h : WsP m vs ws) (hV : VlP m V) : WsP m (nxV m ws V) (nxW m ws V) := by
  obtain ⟨⟨h1, h2⟩, h3⟩ := nmA_ok h.fl hV h.w m.ms.length (Nat.le_refl _)
  exact ⟨h.fl, h1, h3, h2⟩
noncomputable def stT (m : Md) (I : List (List Int)) : Nat → List Int × List Int
  | 0 => (staV m, staW m)
  | t + 1 => (nxV m (stT m I t).2 (sgK m (stT m I t).1 (I.getD t [])), nxW m (stT m I t).2 (sgK m (stT m I t).1 (I.getD t [])))
noncomputable def vlT (m : Md) (I : List (List Int)) (t : Nat) : List Int := sgK m (stT m I t).1 (I.getD t [])
theorem stT_ok {m : Md} (h : FlP m) (I : List (List Int)) : ∀ t, WsP m (stT m I t).1 (stT m I t).2
  | 0 => WsP.start h
  | t + 1 => (stT_ok h I t).next (sgK_ok h (stT_ok h I t).v)
theorem vlT_ok {m : Md} (h : FlP m) (I : List (List Int)) (t : Nat) : VlP m (vlT m I t) := sgK_ok h (stT_ok h I t).v
noncomputable def trK (m : Md) (I : List (List Int)) : List (List Int) := (List.range I.length).map (vlT m I)
noncomputable def trA (m : Md) (I : List (List Int)) (t : Nat) : List (List Int) := (List.range t).map (vlT m I)
theorem trA_succ (m : Md) (I : List (List Int)) (t : Nat) : trA m I (t + 1) = trA m I t ++ [vlT m I t] := by
  unfold trA; rw [List.range_succ, List.map_append]; rfl
def InI (m : Md) (I : List (List Int)) : Prop := I.length ≤ 16 ∧ ∀ t, t < I.length → (I.getD t []).length = (pwK m 0).length
theorem xs_at {rs : List CRow} (t : Nat) : (rs.map CRow.xs).getD t [] = (rs.getD t crow0).xs := by
  rw [List.getD_eq_getElem?_getD, List.getElem?_map, List.getD_eq_getElem?_getD]
  cases rs[t]? <;> rfl
theorem InI.at {m : Md} {rs : List CRow} (h : InI m (rs.map CRow.xs)) {t : Nat} (ht : t < rs.length) : (rs.getD t crow0).xs.length = (pwK m 0).length := by
  rw [← xs_at]; exact h.2 t (by rw [List.length_map]; exact ht)
theorem vl_at (m : Md) (rs : List CRow) (t : Nat) : sgK m (stT m (rs.map CRow.xs) t).1 (rs.getD t crow0).xs = vlT m (rs.map CRow.xs) t := by
  unfold vlT; rw [xs_at]
theorem trK_at {m : Md} {I : List (List Int)} {os : List CRow} (h : os.map CRow.xs = trK m I) {t : Nat} (ht : t < os.length) : (os.getD t crow0).xs = vlT m I t := by
  have hl : os.length = I.length := by have := congrArg List.length h; rw [List.length_map] at this; unfold trK at this; rw [List.length_map, List.length_range] at this; exact this
  rw [← xs_at, h]; unfold trK
  rw [List.getD_eq_getElem?_getD, List.getElem?_map, List.getElem?_range (by omega)]; rfl
theorem trK_len {m : Md} {I : List (List Int)} {os : List CRow} (h : os.map CRow.xs = trK m I) : os.length = I.length := by have := congrArg List.length h; rw [List.length_map] at this; unfold trK at this; rw [List.length_map, List.length_range] at this; exact this
theorem RdsCl.snoc {w : World} {v v' : Value} {rs : List CRow} {r : CRow} (hx : ∀ q ∈ rs, RdsW w q.v 1 q.xs.length (q.xs.map (Value.int .i64))) (hr : RdsW w r.v 1 r.xs.length (r.xs.map (Value.int .i64))) : ∀ q ∈ rs ++ [r], RdsW w q.v 1 q.xs.length (q.xs.map (Value.int .i64)) := fun q hq => by
  rcases List.mem_append.1 hq with hq | hq
  · exact hx q hq
  · rw [List.mem_singleton] at hq; subst hq; exact hr
section
variable {P : Program} {N : Nat} {w0 : World} {l l' : List HP} {env env' : List (Nat × Value)} {Q : Post} {o : Oper}
theorem hl_callMF {ops : Array Oper} {rest : List Oper} {d : Nat} {f : FuncId} {x : Operand} {xs : Array Operand} {ats : Array TypeId} {vs cs : List Value} {p : HP} {R : Value → HP → Prop} {ty : TypeId} {pos : String} {af : Array Edge} {gd : Option (Nat × Bool)} (i : Nat) (hN : Nat.blt d N = true) (hw : want ops env gd = some true)
    (hgo : goesB P f = true) (hx : ev env x = some (.func (.func f) #[] cs.toArray)) (hvs : evs env xs.toList = some vs) (hi : l[i]? = some p)
    (hc : ∀ L w, (∀ w, Mem w0 L w → Mem w0 (l.eraseIdx i) w) → Mem w0 (p :: L) w → Calls P f (vs ++ cs).toArray w fun e w' => ∃ v p', e = .returned v ∧ R v p' ∧ Mem w0 (p' :: L) w') (k : ∀ v p', R v p' → HL P N ops w0 (l.set i p') ((d, v) :: env) rest Q) : HL P N ops w0 l env ({ dst := some d, op := .call { callee := .value x, args := xs, argTypes := ats }, type := ty, pos := pos, after := af, guard := gd } :: rest) Q := fun a w st => wpList_step fun K hK => by
  have h1 := zfj l i p hi
  have hil : i < l.length := (List.getElem?_eq_some_iff.1 hi).1
  rw [if_pos (st.wanted hw)]
  unfold Oper.wp
  have h3 := evs_map st _ _ hvs
  have e1 : xs.map a.eval = vs.toArray := by apply Array.toList_inj.1; simpa using h3
  have h2 : (execOp a.eval { dst := some d, op := .call { callee := .value x, args := xs, argTypes := ats }, type := ty, pos := pos, after := af, guard := gd }).run P w = (callFunc f (vs ++ cs).toArray).run P w := by
    simp [execOp, resolve, Deferred.ofValue, invoke, st.eval hx, e1]
  rw [h2, run_go hgo, Oper.upon_enter]
  refine (hc (l.eraseIdx i) w (fun w h => h) (st.mem.perm h1)).mono fun e w' h => ?_
  obtain ⟨v, p', rfl, hR, hm'⟩ := h
  have h4 := zfj (l.set i p') i p' (List.getElem?_set_self hil)
  rw [List.eraseIdx_set_eq] at h4
  exact hK _ _ (k v p' hR _ _ (st.put hN (hm'.perm h4.symm)))
end
theorem zgm (k : Int) (w : World)  :
   Calls Try.prog 112 #[.int .i64 k] w (Ans w (.int .i64 (arI k))) := by
 refine zbw (N := 15) (args := [.int .i64 k]) Try.func112 rfl rfl (zbh 1 rfl (sbQ (zag (reQ 1 rfl ?_))))
 refine zej rfl (zaw rfl rfl (fun w hm => zbe (zee (zcj _ _ _ w)))) (zbq (fun h1 => ?_) (fun h1 => ?_))
 ·
  obtain ⟨h1a, h1b⟩ := (zdd _ _ _).1 h1
  refine zaz 1 rfl (zaj rfl (zbh 1 rfl ?_))
  refine zap (zad ?_)
  exact zaf (zay rfl rfl (congrArg (Value.int .i64) (by unfold arI; (repeat' split) <;> first | rfl | (exfalso; omega))))
 have h1a := zcz h1
 refine zaz 1 rfl (zas rfl (zag (reQ 1 rfl ?_)))
 refine zbu rfl rfl rfl rfl rfl rfl (fun h2 => ?_) (fun h2 => ?_)
 ·
  refine zaz 1 rfl (zaj rfl (zbh 1 rfl ?_))
  refine zap (zad ?_)
  exact zaf (zay rfl rfl (congrArg (Value.int .i64) (by unfold arI; (repeat' split) <;> first | rfl | (exfalso; omega))))
 refine zaz 1 rfl (zas rfl (zag (reQ 1 rfl ?_)))
 refine zej rfl (zaw rfl rfl (fun w hm => zbe (zee (zcj _ _ _ w)))) (zbq (fun h3 => ?_) (fun h3 => ?_))
 ·
  obtain ⟨h3a, h3b⟩ := (zdd _ _ _).1 h3
  refine zaz 1 rfl (zaj rfl (zbh 1 rfl ?_))
  refine zap (zad ?_)
  exact zaf (zay rfl rfl (congrArg (Value.int .i64) (by unfold arI; (repeat' split) <;> first | rfl | (exfalso; omega))))
 have h3a := zcz h3
 refine zaz 1 rfl (zas rfl (zag (reQ 1 rfl ?_)))
 refine zbu rfl rfl rfl rfl rfl rfl (fun h4 => ?_) (fun h4 => ?_)
 ·
  refine zaz 1 rfl (zaj rfl (zbh 1 rfl ?_))
  refine zap (zad ?_)
  exact zaf (zay rfl rfl (congrArg (Value.int .i64) (by unfold arI; (repeat' split) <;> first | rfl | (exfalso; omega))))
 refine zaz 1 rfl (fsQ rfl (zde (zbh 1 rfl ?_)))
 exact zap (zay rfl rfl (congrArg (Value.int .i64) (by unfold arI; (repeat' split) <;> first | rfl | (exfalso; omega))))
theorem opOk_ans (o : Oq) (n : Int) (w : World)  :
   Calls Try.prog 111 #[.agg #[.int .i64 o.k, .int .i64 o.a, .int .i64 o.b], .int .i64 n] w (Ans w (.bool (pB (OqP n o)))) := by
 refine zbw (N := 67) (args := [.agg #[.int .i64 o.k, .int .i64 o.a, .int .i64 o.b], .int .i64 n]) Try.func111 rfl rfl (srQ ?_)
 refine zdk rfl (zda rfl rfl) ?_
 intro b1
 refine zaz 1 rfl (sbQ (srQ (hvQ rfl (fdQ 0 rfl rfl rfl) (hvQ rfl (zac rfl rfl rfl (zaa 0 rfl rfl)) ?_))))
 refine zbu rfl rfl rfl rfl rfl rfl (fun h2 => ?_) (fun h2 => ?_)
 ·
  refine zaz 1 rfl (zaj rfl (srQ (hvQ rfl (fdQ 1 rfl rfl rfl) (hvQ rfl (zac rfl rfl rfl (zaa 0 rfl rfl)) ?_))))
  refine zej rfl (zaw rfl rfl (fun w hm => zbe (zee (zcj _ _ _ w)))) (zbq (fun h3 => ?_) (fun h3 => ?_))
  ·
   obtain ⟨h3a, h3b⟩ := (zdd _ _ _).1 h3
   refine zah 1 rfl (hvQ rfl (fdQ 2 rfl rfl rfl) (hvQ rfl (zac rfl rfl rfl (zaa 0 rfl rfl)) ?_))
   refine zbu rfl rfl rfl rfl rfl rfl (fun h4 => ?_) (fun h4 => ?_)
   ·
    refine zaz 2 rfl ?_
    refine zap (zad ?_)
    exact zaf (zay rfl rfl (congrArg _ (zdf (by first | exact .inl ⟨by omega, ⟨by omega, by omega⟩, by omega⟩ | exact .inr (.inl ⟨by omega, ⟨by omega, by omega⟩, by omega⟩) | exact .inr (.inr (.inl ⟨by omega, ⟨by omega, by omega⟩, by omega, by omega⟩)) | exact .inr (.inr (.inr ⟨by omega, by omega, by omega, by omega, by omega, by omega⟩)))).symm))
   refine zaz 2 rfl ?_
   refine zap (zad ?_)
   exact zaf (zay rfl rfl (congrArg _ (zcb (fun hp => by first | (rcases hp with ⟨p1, p2, p3⟩ | ⟨p1, p2, p3⟩ | ⟨p1, p2, p3⟩ | ⟨p1, p2, p3, p4, p5, p6⟩ <;> omega))).symm))
  have h3a := zcz h3
  refine zaz 6 rfl ?_
  refine zap (zad ?_)
  exact zaf (zay rfl rfl (congrArg _ (zcb (fun hp => by first | (rcases hp with ⟨p1, p2, p3⟩ | ⟨p1, p2, p3⟩ | ⟨p1, p2, p3⟩ | ⟨p1, p2, p3, p4, p5, p6⟩ <;> omega))).symm))
 refine zaz 1 rfl (zas rfl (srQ (hvQ rfl (fdQ 0 rfl rfl rfl) (hvQ rfl (zac rfl rfl rfl (zaa 0 rfl rfl)) ?_))))
 refine zbu rfl rfl rfl rfl rfl rfl (fun h5 => ?_) (fun h5 => ?_)
 ·
  refine zaz 1 rfl (zaj rfl (srQ (hvQ rfl (fdQ 1 rfl rfl rfl) (hvQ rfl (zac rfl rfl rfl (zaa 0 rfl rfl)) ?_))))
  refine hl_geq rfl rfl rfl rfl rfl rfl (fun h6 => ?_) (fun h6 => ?_)
  ·
   refine zah 1 rfl (hvQ rfl (fdQ 1 rfl rfl rfl) (hvQ rfl (zac rfl rfl rfl (zaa 0 rfl rfl)) (zah 1 rfl ?_)))
   refine zbp rfl rfl rfl rfl rfl rfl (fun h7 => ?_) (fun h7 => ?_)
   ·
    refine zah 2 rfl (hvQ rfl (fdQ 2 rfl rfl rfl) (hvQ rfl (zac rfl rfl rfl (zaa 0 rfl rfl)) ?_))
    refine zbu rfl rfl rfl rfl rfl rfl (fun h8 => ?_) (fun h8 => ?_)
    ·
     refine zaz 2 rfl ?_
     refine zap (zad ?_)
     exact zaf (zay rfl rfl (congrArg _ (zdf (by first | exact .inl ⟨by omega, ⟨by omega, by omega⟩, by omega⟩ | exact .inr (.inl ⟨by omega, ⟨by omega, by omega⟩, by omega⟩) | exact .inr (.inr (.inl ⟨by omega, ⟨by omega, by omega⟩, by omega, by omega⟩)) | exact .inr (.inr (.inr ⟨by omega, by omega, by omega, by omega, by omega, by omega⟩)))).symm))
    refine zaz 2 rfl ?_
    refine zap (zad ?_)
    exact zaf (zay rfl rfl (congrArg _ (zcb (fun hp => by first | (rcases hp with ⟨p1, p2, p3⟩ | ⟨p1, p2, p3⟩ | ⟨p1, p2, p3⟩ | ⟨p1, p2, p3, p4, p5, p6⟩ <;> omega))).symm))
   refine zaz 7 rfl ?_
   refine zap (zad ?_)
   exact zaf (zay rfl rfl (congrArg _ (zcb (fun hp => by first | (rcases hp with ⟨p1, p2, p3⟩ | ⟨p1, p2, p3⟩ | ⟨p1, p2, p3⟩ | ⟨p1, p2, p3, p4, p5, p6⟩ <;> omega))).symm))
  refine zaz 12 rfl ?_
  refine zap (zad ?_)
  exact zaf (zay rfl rfl (congrArg _ (zcb (fun hp => by first | (rcases hp with ⟨p1, p2, p3⟩ | ⟨p1, p2, p3⟩ | ⟨p1, p2, p3⟩ | ⟨p1, p2, p3, p4, p5, p6⟩ <;> omega))).symm))
 refine zaz 1 rfl (zas rfl (srQ (hvQ rfl (fdQ 0 rfl rfl rfl) (hvQ rfl (zac rfl rfl rfl (zaa 0 rfl rfl)) ?_))))
 refine zbu rfl rfl rfl rfl rfl rfl (fun h9 => ?_) (fun h9 => ?_)
 ·
  refine zaz 1 rfl (zaj rfl (srQ (hvQ rfl (fdQ 1 rfl rfl rfl) (hvQ rfl (zac rfl rfl rfl (zaa 0 rfl rfl)) ?_))))
  refine hl_geq rfl rfl rfl rfl rfl rfl (fun h10 => ?_) (fun h10 => ?_)
  ·
   refine zah 1 rfl (hvQ rfl (fdQ 1 rfl rfl rfl) (hvQ rfl (zac rfl rfl rfl (zaa 0 rfl rfl)) (zah 1 rfl ?_)))
   refine zbp rfl rfl rfl rfl rfl rfl (fun h11 => ?_) (fun h11 => ?_)
   ·
    refine zah 2 rfl (hvQ rfl (fdQ 2 rfl rfl rfl) (hvQ rfl (zac rfl rfl rfl (zaa 0 rfl rfl)) ?_))
    refine zej rfl (zaw rfl rfl (fun w hm => zbe (zee (zcj _ _ _ w)))) (zbq (fun h12 => ?_) (fun h12 => ?_))
    ·
     obtain ⟨h12a, h12b⟩ := (zdd _ _ _).1 h12
     refine zaz 2 rfl ?_
     refine zap (zad ?_)
     exact zaf (zay rfl rfl (congrArg _ (zdf (by first | exact .inl ⟨by omega, ⟨by omega, by omega⟩, by omega⟩ | exact .inr (.inl ⟨by omega, ⟨by omega, by omega⟩, by omega⟩) | exact .inr (.inr (.inl ⟨by omega, ⟨by omega, by omega⟩, by omega, by omega⟩)) | exact .inr (.inr (.inr ⟨by omega, by omega, by omega, by omega, by omega, by omega⟩)))).symm))
    have h12a := zcz h12
    refine zaz 2 rfl ?_
    refine zap (zad ?_)
    exact zaf (zay rfl rfl (congrArg _ (zcb (fun hp => by first | (rcases hp with ⟨p1, p2, p3⟩ | ⟨p1, p2, p3⟩ | ⟨p1, p2, p3⟩ | ⟨p1, p2, p3, p4, p5, p6⟩ <;> omega))).symm))
   refine zaz 7 rfl ?_
   refine zap (zad ?_)
   exact zaf (zay rfl rfl (congrArg _ (zcb (fun hp => by first | (rcases hp with ⟨p1, p2, p3⟩ | ⟨p1, p2, p3⟩ | ⟨p1, p2, p3⟩ | ⟨p1, p2, p3, p4, p5, p6⟩ <;> omega))).symm))
  refine zaz 12 rfl ?_
  refine zap (zad ?_)
  exact zaf (zay rfl rfl (congrArg _ (zcb (fun hp => by first | (rcases hp with ⟨p1, p2, p3⟩ | ⟨p1, p2, p3⟩ | ⟨p1, p2, p3⟩ | ⟨p1, p2, p3, p4, p5, p6⟩ <;> omega))).symm))
 refine zaz 1 rfl (fsQ rfl (zde (srQ (hvQ rfl (fdQ 0 rfl rfl rfl) (hvQ rfl (zac rfl rfl rfl (zaa 0 rfl rfl)) ?_)))))
 refine zej rfl (zaw rfl rfl (fun w hm => zbe (zgm o.k w))) (hl_geq rfl rfl rfl rfl rfl rfl (fun h13 => ?_) (fun h13 => ?_))
 ·
  refine zah 1 rfl (hvQ rfl (fdQ 1 rfl rfl rfl) (hvQ rfl (zac rfl rfl rfl (zaa 0 rfl rfl)) ?_))
  refine zbu rfl rfl rfl rfl rfl rfl (fun h14 => ?_) (fun h14 => ?_)
  ·
   refine zah 2 rfl (hvQ rfl (fdQ 2 rfl rfl rfl) (hvQ rfl (zac rfl rfl rfl (zaa 0 rfl rfl)) ?_))
   refine zbu rfl rfl rfl rfl rfl rfl (fun h15 => ?_) (fun h15 => ?_)
   ·
    refine zaz 2 rfl ?_
    exact zap (zay rfl rfl (congrArg _ (zdf (by first | exact .inl ⟨by omega, ⟨by omega, by omega⟩, by omega⟩ | exact .inr (.inl ⟨by omega, ⟨by omega, by omega⟩, by omega⟩) | exact .inr (.inr (.inl ⟨by omega, ⟨by omega, by omega⟩, by omega, by omega⟩)) | exact .inr (.inr (.inr ⟨by omega, by omega, by omega, by omega, by omega, by omega⟩)))).symm))
   refine zaz 2 rfl ?_
   exact zap (zay rfl rfl (congrArg _ (zcb (fun hp => by first | (rcases hp with ⟨p1, p2, p3⟩ | ⟨p1, p2, p3⟩ | ⟨p1, p2, p3⟩ | ⟨p1, p2, p3, p4, p5, p6⟩ <;> omega))).symm))
  refine zaz 7 rfl ?_
  exact zap (zay rfl rfl (congrArg _ (zcb (fun hp => by first | (rcases hp with ⟨p1, p2, p3⟩ | ⟨p1, p2, p3⟩ | ⟨p1, p2, p3⟩ | ⟨p1, p2, p3, p4, p5, p6⟩ <;> omega))).symm))
 refine zaz 11 rfl ?_
 exact zap (zay rfl rfl (congrArg _ (zcb (fun hp => by first | (rcases hp with ⟨p1, p2, p3⟩ | ⟨p1, p2, p3⟩ | ⟨p1, p2, p3⟩ | ⟨p1, p2, p3, p4, p5, p6⟩ <;> omega))).symm))
theorem implOpsOk_ans (os : List Oq) (n : Int) (v : Value) (w : World) (hv : RdsW w v 3 os.length (os.flatMap oqC)) :
   Calls Try.prog 55 #[v, .int .i64 n] w (Ans w (.bool (pB (OpsP n os)))) := by
 have hv9 := sml hv
 refine zbw (N := 39) (args := [v, .int .i64 n]) Try.func55 rfl rfl (zbh 1 rfl (zag (zag (reQ 1 rfl (hvQ rfl (lnQ rfl rfl rfl (zae hv)) ?_)))))
 refine zbu rfl rfl rfl rfl rfl rfl (fun h1 => ?_) (fun h1 => ?_)
 ·
  refine zaz 5 rfl (zaj rfl (zbh 1 rfl ?_))
  refine zap (zaf ?_)
  exact zay rfl rfl (congrArg _ (zcb (fun hp => by first | (have := hp.len; omega) | (have := hp.pos; omega) | (have := (hp.op i (by omega)).1; omega) | (exact absurd (hp.op i (by omega)).2 (by assumption)) | (have := hp.fin; rw [show os.length = i by omega] at this; omega))).symm)
 refine zah 2 rfl (hvQ rfl (lnQ rfl rfl rfl (zae hv)) ?_)
 refine zec rfl rfl rfl rfl rfl rfl (fun h2 => ?_) (fun h2 => ?_)
 ·
  refine zaz 1 rfl (zaj rfl (zbh 1 rfl ?_))
  refine zap (zaf ?_)
  exact zay rfl rfl (congrArg _ (zcb (fun hp => by first | (have := hp.len; omega) | (have := hp.pos; omega) | (have := (hp.op i (by omega)).1; omega) | (exact absurd (hp.op i (by omega)).2 (by assumption)) | (have := hp.fin; rw [show os.length = i by omega] at this; omega))).symm)
 refine zaz 1 rfl (zas rfl (zcy (zbh 1 rfl (zag ?_))))
 refine zag (reQ 1 rfl (hvQ rfl (lnQ rfl rfl rfl (zae hv)) (zaz 1 rfl (zba ?_))))
 refine lkQ2 (α := Nat) (β := Int) [0, 1, 4, 15, 16, 17] rfl (fun i c => []) (fun i c => [(5, .int .i64 c), (18, .int .i64 (i : Int))]) (fun i c => i ≤ os.length ∧ c = needK os i ∧ ∀ q, q < i → needK os q ≠ 0 ∧ OqP n (os.getD q oq0)) (fun i c => os.length - i) 0 1 ⟨Nat.zero_le _, rfl, fun q hq => absurd hq (by omega)⟩ (saQ rfl) (.slnil) ?_
 intro i c hi3
 obtain ⟨hi, hc, hall⟩ := hi3
 have hnr := needK_rng os i
 have har := arI_rng (os.getD i oq0).k
 refine srQ ?_
 refine zbp rfl rfl rfl rfl rfl rfl (fun h4 => ?_) (fun h4 => ?_)
 ·
  refine ntQ (tcQ rfl (zcy (sbQ (srQ (hvQ rfl (riQ 3 rfl rfl rfl rfl (zae hv)) ?_)))))
  refine hvQ rfl (zbj (us := [.int .i64 ((os.getD i oq0).k), .int .i64 ((os.getD i oq0).a), .int .i64 ((os.getD i oq0).b)]) rfl rfl rfl rfl (zae hv) (by omega) rfl (zby oqC 3 (fun _ => rfl) os oq0 (show i < _ by omega) rfl)) (zdk rfl (zbf (z := .agg #[.int .i64 0, .int .i64 0, .int .i64 0]) rfl rfl) ?_)
  intro b5
  refine zbd (cs' := #[.int .i64 ((os.getD i oq0).k), .int .i64 ((os.getD i oq0).a), .int .i64 ((os.getD i oq0).b)]) (i := 0) (off := 0) (us := [.int .i64 ((os.getD i oq0).k), .int .i64 ((os.getD i oq0).a), .int .i64 ((os.getD i oq0).b)]) rfl rfl rfl rfl rfl rfl rfl (zab rfl (zab rfl (zab rfl zbb))) rfl rfl rfl (ntQ (zag (zag (reQ 1 rfl ?_))))
  refine zbu rfl rfl rfl rfl rfl rfl (fun h6 => ?_) (fun h6 => ?_)
  ·
   refine zaz 6 rfl (zaj rfl (srQ (enQ 1 rfl ?_)))
   refine zar (zap ?_)
   refine zaf (zad ?_)
   refine zdw ?_
   refine zad (zaf ?_)
   exact zay rfl rfl (congrArg _ (zcb (fun hp => by first | (have := hp.len; omega) | (have := hp.pos; omega) | (have := (hp.op i (by omega)).1; omega) | (exact absurd (hp.op i (by omega)).2 (by assumption)) | (have := hp.fin; rw [show os.length = i by omega] at this; omega))).symm)
  refine zah 1 rfl (hvQ rfl (zau (cs := [.int .i64 ((os.getD i oq0).k), .int .i64 ((os.getD i oq0).a), .int .i64 ((os.getD i oq0).b)]) rfl rfl rfl rfl rfl (zaq 0 rfl 0 rfl)) (zah 1 rfl ?_))
  refine zej rfl (zaw rfl rfl (fun w hm => zbe (opOk_ans (os.getD i oq0) n w))) (zbq (fun h7 => ?_) (fun h7 => ?_))
  ·
   have h7p := zfc h7
   refine zaz 2 rfl (zas rfl (zcy (reQ 1 rfl (hvQ rfl (fdQ 0 rfl rfl rfl) (hvQ rfl (zac rfl rfl rfl (zaa 0 rfl rfl)) ?_)))))
   refine zej rfl (zaw rfl rfl (fun w hm => zbe (zgm ((os.getD i oq0).k) w))) (hvQ rfl (vsQ rfl rfl rfl) (hvQ rfl (vaQ rfl rfl rfl) (enQ 1 rfl (zde (zao (hvQ rfl (vaQ rfl rfl rfl) (enQ 1 rfl ?_)))))))
   exact zcp (i + 1) (c + ((arI ((os.getD i oq0).k)) - 1)) ⟨by omega, by show _ = needK os i + (arI (os.getD i oq0).k - 1); omega, fun q hq => by by_cases e : q = i; (subst e; exact ⟨by omega, by assumption⟩); exact hall q (by omega)⟩ (by omega) (saQ rfl) (slQ [] rfl)
  have h7p := zea h7
  refine zaz 2 rfl (zaj rfl (zbh 1 rfl ?_))
  refine zap (zaf ?_)
  refine zad (zdw ?_)
  refine zad (zaf ?_)
  exact zay rfl rfl (congrArg _ (zcb (fun hp => by first | (have := hp.len; omega) | (have := hp.pos; omega) | (have := (hp.op i (by omega)).1; omega) | (exact absurd (hp.op i (by omega)).2 (by assumption)) | (have := hp.fin; rw [show os.length = i by omega] at this; omega))).symm)
 refine ntQ (fcQ rfl ?_)
 refine zbi (zdv ?_)
 refine zal (zar (zag (reQ 1 rfl ?_)))
 refine zbu rfl rfl rfl rfl rfl rfl (fun h8 => ?_) (fun h8 => ?_)
 ·
  refine zaz 1 rfl ?_
  exact zap (zay rfl rfl (congrArg _ (zdf ⟨by omega, fun q hq => hall q (by omega), by rw [show os.length = i by omega]; omega⟩).symm))
 refine zaz 1 rfl ?_
 exact zap (zay rfl rfl (congrArg _ (zcb (fun hp => by first | (have := hp.len; omega) | (have := hp.pos; omega) | (have := (hp.op i (by omega)).1; omega) | (exact absurd (hp.op i (by omega)).2 (by assumption)) | (have := hp.fin; rw [show os.length = i by omega] at this; omega))).symm))
theorem zfd (m : Md) (w : World) (hr : RdsMd w m) :
   Calls Try.prog 107 #[.agg #[m.sv, m.av, m.iv, m.mv]] w (Ret w (fun v' post => post = [rowE 3 1 v' ((ptsK m)).length (((ptsK m)).map (Value.int .i64))])) := by
 have hs9 := sml hr.s
 refine zbw (N := 32) (args := [.agg #[m.sv, m.av, m.iv, m.mv]]) Try.func107 rfl rfl (srQ ?_)
 refine zdk rfl (zda rfl rfl) ?_
 intro b1
 refine zdo 3 1 (zaz 1 rfl (zfh (hvQ rfl (fdQ 0 rfl rfl rfl) (hvQ rfl (zac rfl rfl rfl (zaa 1 rfl rfl)) (hvQ rfl (lnQ rfl rfl rfl (zae ((hr).s))) ?_)))))
 refine zec rfl rfl rfl rfl rfl rfl (fun h3 => ?_) (fun h3 => ?_)
 ·
  refine ntQ (zaj rfl (srQ ?_))
  refine zdo 3 1 (zaz 1 rfl ?_)
  refine zap (zaf ?_)
  exact zew (post := [rowE 3 1 (.slice none 0 0) 0 ([])]) rfl rfl (slQ [0] rfl) (by unfold ptsK; rw [if_neg (by omega)] <;> rfl)
 refine ntQ (zas rfl (zcy (srQ ?_)))
 refine zdo 3 1 (zaz 1 rfl (zfh (hvQ rfl (fdQ 0 rfl rfl rfl) (hvQ rfl (zac rfl rfl rfl (zaa 2 rfl rfl)) (hvQ rfl (lnQ rfl rfl rfl (zae ((hr).s))) (zaz 1 rfl ?_))))))
 refine zba ?_
 refine lkQ3 (α := Nat) (β := Value) (γ := List Int) [0, 1, 2, 9, 11, 12] rfl (fun i gu zs => [rowE 3 1 gu zs.length (zs.map (Value.int .i64)), rowE 3 1 (.slice none 0 0) 0 ([]), boxE b1 #[m.sv, m.av, m.iv, m.mv] 35]) (fun i gu zs => [(3, gu), (13, .int .i64 (i : Int))]) (fun i gu zs => i ≤ m.ss.length ∧ zs = ptsA m.ss i) (fun i gu zs => m.ss.length - i) 0 _ [] ⟨Nat.zero_le _, rfl⟩ (saQ rfl) (pfQ rfl) ?_
 intro i gu zs hi6
 obtain ⟨hi, hz⟩ := hi6
 have hzl : zs.length ≤ i := by rw [hz]; exact ptsA_le _ _
 refine srQ ?_
 refine zbp rfl rfl rfl rfl rfl rfl (fun h7 => ?_) (fun h7 => ?_)
 ·
  refine ntQ (tcQ rfl (zcy (sbQ (zag (reQ 1 rfl (hvQ rfl (riQ 3 rfl rfl rfl rfl (zae ((hr).s))) ?_))))))
  refine hvQ rfl (zbj (us := [.int .i64 ((m.ss.getD i sg0).k), .int .i64 ((m.ss.getD i sg0).w), .int .i64 ((m.ss.getD i sg0).i)]) rfl rfl rfl rfl (zae ((hr).s)) (by omega) rfl (zby sgC 3 (fun _ => rfl) m.ss sg0 (show i < _ by omega) rfl)) (zdk rfl (zbf (z := .agg #[.int .i64 0, .int .i64 0, .int .i64 0]) rfl rfl) ?_)
  intro b8
  refine zah 1 rfl (zbd (cs' := #[.int .i64 ((m.ss.getD i sg0).k), .int .i64 ((m.ss.getD i sg0).w), .int .i64 ((m.ss.getD i sg0).i)]) (i := 0) (off := 0) (us := [.int .i64 ((m.ss.getD i sg0).k), .int .i64 ((m.ss.getD i sg0).w), .int .i64 ((m.ss.getD i sg0).i)]) rfl rfl rfl rfl rfl rfl rfl (zab rfl (zab rfl (zab rfl zbb))) rfl rfl rfl ?_)
  refine ntQ (srQ (hvQ rfl (fdQ 0 rfl rfl rfl) (hvQ rfl (zac rfl rfl rfl (zaa 0 rfl rfl)) ?_)))
  refine zbu rfl rfl rfl rfl rfl rfl (fun h9 => ?_) (fun h9 => ?_)
  ·
   refine zaz 5 rfl (zaj rfl (reQ 2 rfl ?_))
   refine zdu rfl (zan (z := .int .i64 0) (s := 1) (cs := ([(i : Int)].map (Value.int .i64))) rfl Try.underlying48 rfl (by decide) rfl (by kernel_rfl) rfl) ?_
   intro g10
   refine zcq (i := 2) (z := .int .i64 0) (bytes := 8) rfl rfl rfl rfl Try.underlying48 (by kernel_rfl) rfl rfl rfl rfl (zai 0 rfl) (zcg _) (by first | omega | (simp; done) | (simp; omega)) (zci zs ([(i : Int)])) (zcv zs ([(i : Int)])) (fun _ => rfl) ?_
   intro v11
   refine enQ 1 rfl (zde (zao (hvQ rfl (vaQ rfl rfl rfl) (enQ 1 rfl ?_))))
   exact zcl (i + 1) v11 (zs ++ ([(i : Int)])) ⟨by omega, by rw [hz]; exact ptsA_yes (by omega)⟩ (by omega) (saQ rfl) (slQ [2, 0, 0] rfl)
  refine zah 1 rfl (hvQ rfl (fdQ 0 rfl rfl rfl) (hvQ rfl (zac rfl rfl rfl (zaa 0 rfl rfl)) ?_))
  refine zbu rfl rfl rfl rfl rfl rfl (fun h12 => ?_) (fun h12 => ?_)
  ·
   refine zaz 1 rfl (zaj rfl (reQ 2 rfl ?_))
   refine zdu rfl (zan (z := .int .i64 0) (s := 1) (cs := ([(i : Int)].map (Value.int .i64))) rfl Try.underlying48 rfl (by decide) rfl (by kernel_rfl) rfl) ?_
   intro g13
   refine zcq (i := 2) (z := .int .i64 0) (bytes := 8) rfl rfl rfl rfl Try.underlying48 (by kernel_rfl) rfl rfl rfl rfl (zai 0 rfl) (zcg _) (by first | omega | (simp; done) | (simp; omega)) (zci zs ([(i : Int)])) (zcv zs ([(i : Int)])) (fun _ => rfl) ?_
   intro v14
   refine enQ 1 rfl (zde (zao (hvQ rfl (vaQ rfl rfl rfl) (enQ 1 rfl ?_))))
   exact zcl (i + 1) v14 (zs ++ ([(i : Int)])) ⟨by omega, by rw [hz]; exact ptsA_yes (by omega)⟩ (by omega) (saQ rfl) (slQ [2, 0, 0] rfl)
  refine zaz 1 rfl (fsQ rfl (zde (zao (hvQ rfl (vaQ rfl rfl rfl) (enQ 1 rfl ?_)))))
  exact zcl (i + 1) gu zs ⟨by omega, hz.trans (ptsA_no (by omega))⟩ (by omega) (saQ rfl) (slQ [1, 0, 0] rfl)
 refine ntQ (fcQ rfl ?_)
 refine zbi (zdv ?_)
 refine zal (zar (zbh 2 rfl ?_))
 exact zap (zew (post := [rowE 3 1 gu zs.length (zs.map (Value.int .i64))]) rfl rfl (slQ [0] rfl) (by rw [hz, show i = m.ss.length by omega]; unfold ptsK; rw [if_pos (by omega)]))
theorem countsOk_ans (D : List Md) (v : Value) (w : World) (hd : RdsDs w v D) :
   Calls Try.prog 48 #[.agg #[v]] w (Ans w (.bool (pB (CntP D)))) := by
 have hd9 := sml hd.row
 have hm9 : ∀ q, q < D.length → (D.getD q md0).ss.length ≤ 9223372036854775807 := fun q hq => by have := sml (hd.at hq).s; omega
 refine zbw (N := 39) (args := [.agg #[v]]) Try.func48 rfl rfl (srQ ?_)
 refine zdk rfl (zda rfl rfl) ?_
 intro b1
 refine zaz 1 rfl (zfh (hvQ rfl (fdQ 0 rfl rfl rfl) (hvQ rfl (zac rfl rfl rfl (zaa 0 rfl rfl)) (hvQ rfl (lnQ rfl rfl rfl (zae hd.row)) ?_))))
 refine zec rfl rfl rfl rfl rfl rfl (fun h2 => ?_) (fun h2 => ?_)
 ·
  refine ntQ (zaj rfl (zbh 1 rfl ?_))
  refine zap (zaf ?_)
  exact zay rfl rfl (congrArg _ (zcb (fun hp => by first | (have := hp.len; omega) | (obtain ⟨h1, h2, h3, h4⟩ := hp.md i (by omega); omega))).symm)
 refine ntQ (zas rfl (zcy (zfh (hvQ rfl (fdQ 0 rfl rfl rfl) (hvQ rfl (zac rfl rfl rfl (zaa 0 rfl rfl)) (hvQ rfl (lnQ rfl rfl rfl (zae hd.row)) (zah 1 rfl (?_))))))))
 refine ntQ (zba ?_)
 refine lkQ1 (α := Nat) [0, 1, 2, 8, 10, 11] rfl (fun i => [boxE b1 #[v] 26]) (fun i => [(12, .int .i64 (i : Int))]) (fun i => i ≤ D.length ∧ ∀ q, q < i → LenP (D.getD q md0)) (fun i => D.length - i) 0 ⟨Nat.zero_le _, fun q hq => absurd hq (by omega)⟩ (saQ rfl) (pfQ rfl) ?_
 intro i hi3
 obtain ⟨hi, hall⟩ := hi3
 refine srQ ?_
 refine zbp rfl rfl rfl rfl rfl rfl (fun h4 => ?_) (fun h4 => ?_)
 ·
  refine ntQ (tcQ rfl (zcy (sbQ (srQ (hvQ rfl (riQ 4 rfl rfl rfl rfl (zae hd.row)) ?_)))))
  refine hvQ rfl (zbj (us := [(D.getD i md0).sv, (D.getD i md0).av, (D.getD i md0).iv, (D.getD i md0).mv]) rfl rfl rfl rfl (zae hd.row) (by omega) rfl (zby mdC 4 (fun _ => rfl) D md0 (show i < _ by omega) rfl)) (zdk rfl (zbf (z := .agg #[.slice none 0 0, .slice none 0 0, .slice none 0 0, .slice none 0 0]) rfl rfl) ?_)
  intro b5
  refine zbd (cs' := #[(D.getD i md0).sv, (D.getD i md0).av, (D.getD i md0).iv, (D.getD i md0).mv]) (i := 0) (off := 0) (us := [(D.getD i md0).sv, (D.getD i md0).av, (D.getD i md0).iv, (D.getD i md0).mv]) rfl rfl rfl rfl rfl rfl rfl (zab (hd.at (k := i) (by omega)).s.one (zab (hd.at (k := i) (by omega)).g.one (zab (hd.at (k := i) (by omega)).x.one (zab (hd.at (k := i) (by omega)).m.one zbb)))) rfl rfl rfl (ntQ (srQ (hvQ rfl (fdQ 0 rfl rfl rfl) (hvQ rfl (zac rfl rfl rfl (zaa 0 rfl rfl)) (hvQ rfl (lnQ rfl rfl rfl (zae ((hd.at (k := i) (by omega)).s))) ?_)))))
  refine zec rfl rfl rfl rfl rfl rfl (fun h6 => ?_) (fun h6 => ?_)
  ·
   refine zaz 18 rfl (zaj rfl (zbh 1 rfl ?_))
   refine zap (zad ?_)
   refine zdw ?_
   refine zad (zaf ?_)
   exact zay rfl rfl (congrArg _ (zcb (fun hp => by first | (have := hp.len; omega) | (obtain ⟨h1, h2, h3, h4⟩ := hp.md i (by omega); omega))).symm)
  refine zah 1 rfl (hvQ rfl (fdQ 1 rfl rfl rfl) (hvQ rfl (zac rfl rfl rfl (zaa 0 rfl rfl)) (hvQ rfl (lnQ rfl rfl rfl (zae ((hd.at (k := i) (by omega)).g))) ?_)))
  refine zec rfl rfl rfl rfl rfl rfl (fun h7 => ?_) (fun h7 => ?_)
  ·
   refine zaz 13 rfl ?_
   refine zaj rfl (zbh 1 rfl ?_)
   refine zap (zad ?_)
   refine zdw ?_
   refine zad (zaf ?_)
   exact zay rfl rfl (congrArg _ (zcb (fun hp => by first | (have := hp.len; omega) | (obtain ⟨h1, h2, h3, h4⟩ := hp.md i (by omega); omega))).symm)
  refine zah 2 rfl (hvQ rfl (fdQ 2 rfl rfl rfl) (hvQ rfl (zac rfl rfl rfl (zaa 0 rfl rfl)) (hvQ rfl (lnQ rfl rfl rfl (zae ((hd.at (k := i) (by omega)).x))) ?_)))
  refine zec rfl rfl rfl rfl rfl rfl (fun h8 => ?_) (fun h8 => ?_)
  ·
   refine zaz 7 rfl (zaj rfl (zag (reQ 1 rfl (?_))))
   refine ntQ ?_
   refine zap (zad ?_)
   refine zdw ?_
   refine zad (zaf ?_)
   exact zay rfl rfl (congrArg _ (zcb (fun hp => by first | (have := hp.len; omega) | (obtain ⟨h1, h2, h3, h4⟩ := hp.md i (by omega); omega))).symm)
  refine zah 2 rfl (hvQ rfl (fdQ 3 rfl rfl rfl) (hvQ rfl (zac rfl rfl rfl (zaa 0 rfl rfl)) (hvQ rfl (lnQ rfl rfl rfl (zae ((hd.at (k := i) (by omega)).m))) ?_)))
  refine zec rfl rfl rfl rfl rfl rfl (fun h9 => ?_) (fun h9 => ?_)
  ·
   refine zaz 1 rfl (zaj rfl (zbh 1 rfl ?_))
   refine zap (zad ?_)
   refine zdw ?_
   refine zad (zaf ?_)
   exact zay rfl rfl (congrArg _ (zcb (fun hp => by first | (have := hp.len; omega) | (obtain ⟨h1, h2, h3, h4⟩ := hp.md i (by omega); omega))).symm)
  refine zaz 1 rfl (fsQ rfl (zde (zao (hvQ rfl (vaQ rfl rfl rfl) (enQ 1 rfl ?_)))))
  exact zbt (i + 1) ⟨by omega, fun q hq => by by_cases e : q = i; (subst e; exact ⟨by omega, by omega, by omega, by omega⟩); exact hall q (by omega)⟩ (by omega) (saQ rfl) (slQ [1] rfl)
 refine ntQ (fcQ rfl ?_)
 refine zbi (zdv ?_)
 refine zal (zar (zbh 1 rfl ?_))
 exact zap (zay rfl rfl (congrArg _ (zdf ⟨by omega, fun q hq => hall q (by omega)⟩).symm))
theorem instsOk_ans (D : List Md) (k : Nat) (v : Value) (w : World) (hd : RdsDs w v D) (hk : k < D.length) :
   Calls Try.prog 49 #[.agg #[v], .int .i64 (k : Int)] w (Ans w (.bool (pB (InsP D k)))) := by
 have hd9 := sml hd.row
 have hm9 : ∀ q, q < D.length → (D.getD q md0).ss.length ≤ 9223372036854775807 := fun q hq => by have := sml (hd.at hq).s; omega
 have hx9 := sml (hd.at hk).x
 refine zbw (N := 39) (args := [.agg #[v], .int .i64 (k : Int)]) Try.func49 rfl rfl (srQ ?_)
 refine zdk rfl (zda rfl rfl) ?_
 intro b1
 refine zaz 1 rfl (zfh (hvQ rfl (fdQ 0 rfl rfl rfl) (hvQ rfl (zac rfl rfl rfl (zaa 0 rfl rfl)) (zah 1 rfl (hvQ rfl (riQ 4 rfl rfl rfl rfl (zae hd.row)) (hvQ rfl (zat (k0 := 2) rfl rfl rfl (zae hd.row) (by omega)) ?_))))))
 refine hvQ rfl (zak (u := (D.getD k md0).iv) rfl rfl rfl (zae hd.row) ((zbg mdC 4 (fun _ => rfl) D md0 (show k < _ by omega) (by decide)).trans rfl)) (hvQ rfl (lnQ rfl rfl rfl (zae ((hd.at (k := k) (by omega)).x))) (zaz 1 rfl (zba ?_)))
 refine lkQ1 (α := Nat) [0, 1, 2, 4, 12, 13] rfl (fun i => [boxE b1 #[v] 26]) (fun i => [(14, .int .i64 (i : Int))]) (fun i => i ≤ (D.getD k md0).xs.length ∧ ∀ q, q < i → InsOk D k q) (fun i => (D.getD k md0).xs.length - i) 0 ⟨Nat.zero_le _, fun q hq => absurd hq (by omega)⟩ (saQ rfl) (pfQ rfl) ?_
 intro i hi2
 obtain ⟨hi, hins⟩ := hi2
 refine srQ ?_
 refine zbp rfl rfl rfl rfl rfl rfl (fun h3 => ?_) (fun h3 => ?_)
 ·
  refine ntQ (tcQ rfl (zcy (sbQ (srQ (hvQ rfl (riQ 3 rfl rfl rfl rfl (zae ((hd.at (k := k) (by omega)).x))) ?_)))))
  refine hvQ rfl (zbj (us := [.int .i64 ((((D.getD k md0).xs).getD i ix0).m), .int .i64 ((((D.getD k md0).xs).getD i ix0).p), (((D.getD k md0).xs).getD i ix0).pv]) rfl rfl rfl rfl (zae ((hd.at (k := k) (by omega)).x)) (by omega) rfl (zby ixC 3 (fun _ => rfl) ((D.getD k md0).xs) ix0 (show i < _ by omega) rfl)) (zdk rfl (zbf (z := .agg #[.int .i64 0, .int .i64 0, .slice none 0 0]) rfl rfl) ?_)
  intro b4
  refine zbd (cs' := #[.int .i64 ((((D.getD k md0).xs).getD i ix0).m), .int .i64 ((((D.getD k md0).xs).getD i ix0).p), (((D.getD k md0).xs).getD i ix0).pv]) (i := 0) (off := 0) (us := [.int .i64 ((((D.getD k md0).xs).getD i ix0).m), .int .i64 ((((D.getD k md0).xs).getD i ix0).p), (((D.getD k md0).xs).getD i ix0).pv]) rfl rfl rfl rfl rfl rfl rfl (zab rfl (zab rfl (zab ((hd.at (k := k) (by omega)).p.at (k := i) (by omega)).one zbb))) rfl rfl rfl (ntQ (zag ?_))
  rcases Bool.eq_false_or_eq_true (inR ((((D.getD k md0).xs).getD i ix0).m) 0 ((k : Int) - 1)) with hb5 | hb5
  ·
   obtain ⟨hb5a, hb5b⟩ := (zdd _ _ _).1 hb5
   rcases Bool.eq_false_or_eq_true ((((((D.getD k md0).xs).getD i ix0).ps).length : Int) != ((ptsK (D.getD (((((D.getD k md0).xs).getD i ix0).m).toNat) md0)).length : Int)) with hb9 | hb9
   ·
    have hb9p : (((((D.getD k md0).xs).getD i ix0).ps).length : Int) ≠ ((ptsK (D.getD (((((D.getD k md0).xs).getD i ix0).m).toNat) md0)).length : Int) := bne_iff_ne.1 hb9
    refine zfw rfl 20 [0, 1, 2, 3, 4, 5, 6, 7, 8, 9, 10, 11, 12, 13, 14, 15, 16, 17, 18, 19] (List.take 20 _) (List.drop 20 _) [[], [0], [], [2], [1, 3], [4], [5], [6], [6, 7], [6, 8], [6], [6, 10], [6], [6, 12], [6, 11, 13], [6, 14], [6, 15], [6, 16], [6, 9, 16, 17], [6, 18]] [18, 19, 20, 21, 22, 23, 24, 25, 26, 27, 28, 29, 30, 31, 32, 33, 34, 35, 36, 37] (fun i_ vs_ v_ p_ => match i_ with | 0 => v_ = .pointer (some ⟨b4, 0 + 0, none⟩) ∧ p_ = [] | 1 => v_ = .int .i64 ((((D.getD k md0).xs).getD i ix0).m) ∧ p_ = [] | 2 => v_ = .int .i64 (k : Int) ∧ p_ = [] | 3 => v_ = .int .i64 ((k : Int) - 1) ∧ p_ = [] | 4 => v_ = .bool true ∧ p_ = [] | 5 => v_ = .bool false ∧ p_ = [] | 6 => v_ = .bool false ∧ p_ = [] | 7 => v_ = .pointer (some ⟨b4, 0 + 2, none⟩) ∧ p_ = [] | 8 => v_ = (((D.getD k md0).xs).getD i ix0).pv ∧ p_ = [] | 9 => v_ = .int .i64 (((((D.getD k md0).xs).getD i ix0).ps).length : Int) ∧ p_ = [] | 10 => v_ = .pointer (some ⟨b1, 0 + 0, none⟩) ∧ p_ = [] | 11 => v_ = v ∧ p_ = [] | 12 => v_ = .pointer (some ⟨b4, 0 + 0, none⟩) ∧ p_ = [] | 13 => v_ = .int .i64 ((((D.getD k md0).xs).getD i ix0).m) ∧ p_ = [] | 14 => v_ = elP v (((((D.getD k md0).xs).getD i ix0).m).toNat * 4) ∧ p_ = [] | 15 => v_ = .agg #[(D.getD (((((D.getD k md0).xs).getD i ix0).m).toNat) md0).sv, (D.getD (((((D.getD k md0).xs).getD i ix0).m).toNat) md0).av, (D.getD (((((D.getD k md0).xs).getD i ix0).m).toNat) md0).iv, (D.getD (((((D.getD k md0).xs).getD i ix0).m).toNat) md0).mv] ∧ p_ = [] | 16 => (fun v' post => post = [rowE 3 1 v' ((ptsK (D.getD (((((D.getD k md0).xs).getD i ix0).m).toNat) md0))).length (((ptsK (D.getD (((((D.getD k md0).xs).getD i ix0).m).toNat) md0))).map (Value.int .i64))]) v_ p_ | 17 => v_ = .int .i64 ((ptsK (D.getD (((((D.getD k md0).xs).getD i ix0).m).toNat) md0)).length : Int) ∧ p_ = [] | 18 => v_ = .bool true ∧ p_ = [] | 19 => v_ = .bool true ∧ p_ = [] | _ => True) (List.take_append_drop 20 _).symm (by kernel_rfl) (by kernel_rfl) rfl rfl ?_ ?_
    ·
     refine ⟨?_, ?_, ?_, ?_, ?_, ?_, ?_, ?_, ?_, ?_, ?_, ?_, ?_, ?_, ?_, ?_, ?_, ?_, ?_, ?_, trivial⟩
     ·
      intro vf pf hR
      exact ovQ rfl (zav [6] rfl) (zbz (fdQ 0 rfl rfl rfl))
     ·
      intro vf pf hR
      have e0 := hR 0 (by decide)
      exact olQ rfl (sk 18 (congrArg some e0.1) (zam _)) (zbz (zac rfl rfl rfl (zaa 0 rfl rfl)))
     ·
      intro vf pf hR
      exact ovQ rfl (zav [1] rfl) (zbz (zax rfl))
     ·
      intro vf pf hR
      have e2 := hR 2 (by decide)
      exact ovQ rfl (sk 20 (congrArg some e2.1) (zam _)) (zbz (vsQ rfl rfl rfl))
     ·
      intro vf pf hR
      have e1 := hR 1 (by decide)
      have e3 := hR 3 (by decide)
      exact olQ rfl (sk 19 (congrArg some e1.1) (sk 21 (congrArg some e3.1) (zam _))) (zct (zaw rfl rfl (fun w hm => zbe (zee (zcj _ _ _ w)))) (fun _ _ h => ⟨h.1.trans (congrArg Value.bool hb5), h.2⟩))
     ·
      intro vf pf hR
      have e4 := hR 4 (by decide)
      exact ovQ rfl (sk 22 (congrArg some e4.1) (zam _)) (zbz (zax rfl))
     ·
      intro vf pf hR
      have e5 := hR 5 (by decide)
      exact ovQ rfl (sk 23 (congrArg some e5.1) (zam _)) (zbz (zax rfl))
     ·
      intro vf pf hR
      have e6 := hR 6 (by decide)
      refine Or.inl ⟨zbx (congrArg some e6.1) rfl, ?_⟩
      exact zcd (zav [6] rfl) (zbz (fdQ 2 rfl rfl rfl))
     ·
      intro vf pf hR
      have e6 := hR 6 (by decide)
      have e7 := hR 7 (by decide)
      refine Or.inl ⟨zbx (congrArg some e6.1) rfl, ?_⟩
      exact zbm (sk 25 (congrArg some e7.1) (zam _)) (List.sublist_append_right _ _) (zbz (zac rfl rfl rfl (zaa 0 rfl rfl)))
     ·
      intro vf pf hR
      have e6 := hR 6 (by decide)
      have e8 := hR 8 (by decide)
      refine Or.inl ⟨zbx (congrArg some e6.1) rfl, ?_⟩
      exact zbm (sk 26 (congrArg some e8.1) (zam _)) (List.sublist_append_right _ _) (zbz (lnQ rfl rfl rfl (zae ((hd.at (k := k) (by omega)).p.at (k := i) (by omega)))))
     ·
      intro vf pf hR
      have e6 := hR 6 (by decide)
      refine Or.inl ⟨zbx (congrArg some e6.1) rfl, ?_⟩
      exact zcd (zav [2] rfl) (zbz (fdQ 0 rfl rfl rfl))
     ·
      intro vf pf hR
      have e6 := hR 6 (by decide)
      have e10 := hR 10 (by decide)
      refine Or.inl ⟨zbx (congrArg some e6.1) rfl, ?_⟩
      exact zbm (sk 28 (congrArg some e10.1) (zam _)) (List.sublist_append_right _ _) (zbz (zac rfl rfl rfl (zaa 1 rfl rfl)))
     ·
      intro vf pf hR
      have e6 := hR 6 (by decide)
      refine Or.inl ⟨zbx (congrArg some e6.1) rfl, ?_⟩
      exact zcd (zav [6] rfl) (zbz (fdQ 0 rfl rfl rfl))
     ·
      intro vf pf hR
      have e6 := hR 6 (by decide)
      have e12 := hR 12 (by decide)
      refine Or.inl ⟨zbx (congrArg some e6.1) rfl, ?_⟩
      exact zbm (sk 30 (congrArg some e12.1) (zam _)) (List.sublist_append_right _ _) (zbz (zac rfl rfl rfl (zaa 0 rfl rfl)))
     ·
      intro vf pf hR
      have e6 := hR 6 (by decide)
      have e11 := hR 11 (by decide)
      have e13 := hR 13 (by decide)
      refine Or.inl ⟨zbx (congrArg some e6.1) rfl, ?_⟩
      exact zbm (sk 29 (congrArg some e11.1) (sk 31 (congrArg some e13.1) (zam _))) (List.sublist_append_right _ _) (zbz (riQ 4 rfl rfl rfl rfl (zae hd.row)))
     ·
      intro vf pf hR
      have e6 := hR 6 (by decide)
      have e14 := hR 14 (by decide)
      refine Or.inl ⟨zbx (congrArg some e6.1) rfl, ?_⟩
      exact zbm (sk 32 (congrArg some e14.1) (zam _)) (List.sublist_append_right _ _) (zbz (zbj (us := [(D.getD (((((D.getD k md0).xs).getD i ix0).m).toNat) md0).sv, (D.getD (((((D.getD k md0).xs).getD i ix0).m).toNat) md0).av, (D.getD (((((D.getD k md0).xs).getD i ix0).m).toNat) md0).iv, (D.getD (((((D.getD k md0).xs).getD i ix0).m).toNat) md0).mv]) rfl rfl rfl rfl (zae hd.row) (by omega) rfl (zby mdC 4 (fun _ => rfl) D md0 (show ((((D.getD k md0).xs).getD i ix0).m).toNat < _ by omega) rfl)))
     ·
      intro vf pf hR
      have e6 := hR 6 (by decide)
      have e15 := hR 15 (by decide)
      refine Or.inl ⟨zbx (congrArg some e6.1) rfl, ?_⟩
      exact zbm (sk 33 (congrArg some e15.1) (zam _)) (List.sublist_append_right _ _) (zaw rfl rfl (fun w hm => zfd (D.getD (((((D.getD k md0).xs).getD i ix0).m).toNat) md0) w ((hd.at (by omega)).below hm.bel)))
     ·
      intro vf pf hR
      have e6 := hR 6 (by decide)
      have e16 : (fun v' post => post = [rowE 3 1 v' ((ptsK (D.getD (((((D.getD k md0).xs).getD i ix0).m).toNat) md0))).length (((ptsK (D.getD (((((D.getD k md0).xs).getD i ix0).m).toNat) md0))).map (Value.int .i64))]) (vf 16) (pf 16) := hR 16 (by decide)
      obtain ⟨v10, vE16⟩ : ∃ x, vf 16 = x := ⟨_, rfl⟩
      obtain ⟨p11, pE16⟩ : ∃ x, pf 16 = x := ⟨_, rfl⟩
      have hR12 := e16
      rw [vE16, pE16] at hR12
      subst hR12
      refine Or.inl ⟨zbx (congrArg some e6.1) rfl, ?_⟩
      exact zco (sk 34 (congrArg some vE16) (zam _)) (by simp only [pE16, vE16, e6.2, fS] <;> rfl) (zbz (lnQ rfl rfl rfl (zai 0 rfl)))
     ·
      intro vf pf hR
      have e6 := hR 6 (by decide)
      have e9 := hR 9 (by decide)
      have e16 : (fun v' post => post = [rowE 3 1 v' ((ptsK (D.getD (((((D.getD k md0).xs).getD i ix0).m).toNat) md0))).length (((ptsK (D.getD (((((D.getD k md0).xs).getD i ix0).m).toNat) md0))).map (Value.int .i64))]) (vf 16) (pf 16) := hR 16 (by decide)
      obtain ⟨v10, vE16⟩ : ∃ x, vf 16 = x := ⟨_, rfl⟩
      obtain ⟨p11, pE16⟩ : ∃ x, pf 16 = x := ⟨_, rfl⟩
      have hR12 := e16
      rw [vE16, pE16] at hR12
      subst hR12
      have e17 := hR 17 (by decide)
      refine Or.inl ⟨zbx (congrArg some e6.1) rfl, ?_⟩
      exact zco (sk 27 (congrArg some e9.1) (sk 35 (congrArg some e17.1) (zam _))) (by simp only [pE16, vE16, e6.2, e9.2, e17.2, fS] <;> rfl) (zct (zbz (zck rfl rfl rfl rfl)) (fun _ _ h => ⟨h.1.trans (congrArg Value.bool hb9), h.2⟩))
     intro vf pf hR
     have e6 := hR 6 (by decide)
     have e18 := hR 18 (by decide)
     exact ovQ rfl (sk 24 (congrArg some e6.1) (sk 36 (congrArg some e18.1) (zam _))) (zbz (zax rfl))
    intro vf pf hR
    have e16 : (fun v' post => post = [rowE 3 1 v' ((ptsK (D.getD (((((D.getD k md0).xs).getD i ix0).m).toNat) md0))).length (((ptsK (D.getD (((((D.getD k md0).xs).getD i ix0).m).toNat) md0))).map (Value.int .i64))]) (vf 16) (pf 16) := hR 16 (by decide)
    obtain ⟨v10, vE16⟩ : ∃ x, vf 16 = x := ⟨_, rfl⟩
    obtain ⟨p11, pE16⟩ : ∃ x, pf 16 = x := ⟨_, rfl⟩
    have hR12 := e16
    rw [vE16, pE16] at hR12
    subst hR12
    have e19 := hR 19 (by decide)
    have q0 := hR 0 (by decide)
    have q1 := hR 1 (by decide)
    have q2 := hR 2 (by decide)
    have q3 := hR 3 (by decide)
    have q4 := hR 4 (by decide)
    have q5 := hR 5 (by decide)
    have q6 := hR 6 (by decide)
    have q7 := hR 7 (by decide)
    have q8 := hR 8 (by decide)
    have q9 := hR 9 (by decide)
    have q10 := hR 10 (by decide)
    have q11 := hR 11 (by decide)
    have q12 := hR 12 (by decide)
    have q13 := hR 13 (by decide)
    have q14 := hR 14 (by decide)
    have q15 := hR 15 (by decide)
    have q17 := hR 17 (by decide)
    have q18 := hR 18 (by decide)
    have q19 := hR 19 (by decide)
    refine zdj (zcu [15, 14, 13, 12, 6, 4, 2, 1, 0] _ (sk 37 (congrArg some e19.1) (zam _)) rfl) (by simp only [pE16, vE16, q0.2, q1.2, q2.2, q3.2, q4.2, q5.2, q6.2, q7.2, q8.2, q9.2, q10.2, q11.2, q12.2, q13.2, q14.2, q15.2, q17.2, q18.2, q19.2, fS] <;> rfl) ?_
    simp only [List.drop_succ_cons, List.drop_zero]
    refine ntQ (zaj rfl (zbh 1 rfl ?_))
    refine zap (zad ?_)
    refine zdw ?_
    refine zad (zaf ?_)
    exact zay rfl rfl (congrArg _ (zcb (fun hp => by first | (obtain ⟨⟨h1, h2⟩, h3⟩ := hp i (by omega); omega))).symm)
   have hb9p : (((((D.getD k md0).xs).getD i ix0).ps).length : Int) = ((ptsK (D.getD (((((D.getD k md0).xs).getD i ix0).m).toNat) md0)).length : Int) := (bne_eq_false_iff_eq.1 hb9)
   refine zfw rfl 20 [0, 1, 2, 3, 4, 5, 6, 7, 8, 9, 10, 11, 12, 13, 14, 15, 16, 17, 18, 19] (List.take 20 _) (List.drop 20 _) [[], [0], [], [2], [1, 3], [4], [5], [6], [6, 7], [6, 8], [6], [6, 10], [6], [6, 12], [6, 11, 13], [6, 14], [6, 15], [6, 16], [6, 9, 16, 17], [6, 18]] [18, 19, 20, 21, 22, 23, 24, 25, 26, 27, 28, 29, 30, 31, 32, 33, 34, 35, 36, 37] (fun i_ vs_ v_ p_ => match i_ with | 0 => v_ = .pointer (some ⟨b4, 0 + 0, none⟩) ∧ p_ = [] | 1 => v_ = .int .i64 ((((D.getD k md0).xs).getD i ix0).m) ∧ p_ = [] | 2 => v_ = .int .i64 (k : Int) ∧ p_ = [] | 3 => v_ = .int .i64 ((k : Int) - 1) ∧ p_ = [] | 4 => v_ = .bool true ∧ p_ = [] | 5 => v_ = .bool false ∧ p_ = [] | 6 => v_ = .bool false ∧ p_ = [] | 7 => v_ = .pointer (some ⟨b4, 0 + 2, none⟩) ∧ p_ = [] | 8 => v_ = (((D.getD k md0).xs).getD i ix0).pv ∧ p_ = [] | 9 => v_ = .int .i64 (((((D.getD k md0).xs).getD i ix0).ps).length : Int) ∧ p_ = [] | 10 => v_ = .pointer (some ⟨b1, 0 + 0, none⟩) ∧ p_ = [] | 11 => v_ = v ∧ p_ = [] | 12 => v_ = .pointer (some ⟨b4, 0 + 0, none⟩) ∧ p_ = [] | 13 => v_ = .int .i64 ((((D.getD k md0).xs).getD i ix0).m) ∧ p_ = [] | 14 => v_ = elP v (((((D.getD k md0).xs).getD i ix0).m).toNat * 4) ∧ p_ = [] | 15 => v_ = .agg #[(D.getD (((((D.getD k md0).xs).getD i ix0).m).toNat) md0).sv, (D.getD (((((D.getD k md0).xs).getD i ix0).m).toNat) md0).av, (D.getD (((((D.getD k md0).xs).getD i ix0).m).toNat) md0).iv, (D.getD (((((D.getD k md0).xs).getD i ix0).m).toNat) md0).mv] ∧ p_ = [] | 16 => (fun v' post => post = [rowE 3 1 v' ((ptsK (D.getD (((((D.getD k md0).xs).getD i ix0).m).toNat) md0))).length (((ptsK (D.getD (((((D.getD k md0).xs).getD i ix0).m).toNat) md0))).map (Value.int .i64))]) v_ p_ | 17 => v_ = .int .i64 ((ptsK (D.getD (((((D.getD k md0).xs).getD i ix0).m).toNat) md0)).length : Int) ∧ p_ = [] | 18 => v_ = .bool false ∧ p_ = [] | 19 => v_ = .bool false ∧ p_ = [] | _ => True) (List.take_append_drop 20 _).symm (by kernel_rfl) (by kernel_rfl) rfl rfl ?_ ?_
   ·
    refine ⟨?_, ?_, ?_, ?_, ?_, ?_, ?_, ?_, ?_, ?_, ?_, ?_, ?_, ?_, ?_, ?_, ?_, ?_, ?_, ?_, trivial⟩
    ·
     intro vf pf hR
     exact ovQ rfl (zav [6] rfl) (zbz (fdQ 0 rfl rfl rfl))
    ·
     intro vf pf hR
     have e0 := hR 0 (by decide)
     exact olQ rfl (sk 18 (congrArg some e0.1) (zam _)) (zbz (zac rfl rfl rfl (zaa 0 rfl rfl)))
    ·
     intro vf pf hR
     exact ovQ rfl (zav [1] rfl) (zbz (zax rfl))
    ·
     intro vf pf hR
     have e2 := hR 2 (by decide)
     exact ovQ rfl (sk 20 (congrArg some e2.1) (zam _)) (zbz (vsQ rfl rfl rfl))
    ·
     intro vf pf hR
     have e1 := hR 1 (by decide)
     have e3 := hR 3 (by decide)
     exact olQ rfl (sk 19 (congrArg some e1.1) (sk 21 (congrArg some e3.1) (zam _))) (zct (zaw rfl rfl (fun w hm => zbe (zee (zcj _ _ _ w)))) (fun _ _ h => ⟨h.1.trans (congrArg Value.bool hb5), h.2⟩))
    ·
     intro vf pf hR
     have e4 := hR 4 (by decide)
     exact ovQ rfl (sk 22 (congrArg some e4.1) (zam _)) (zbz (zax rfl))
    ·
     intro vf pf hR
     have e5 := hR 5 (by decide)
     exact ovQ rfl (sk 23 (congrArg some e5.1) (zam _)) (zbz (zax rfl))
    ·
     intro vf pf hR
     have e6 := hR 6 (by decide)
     refine Or.inl ⟨zbx (congrArg some e6.1) rfl, ?_⟩
     exact zcd (zav [6] rfl) (zbz (fdQ 2 rfl rfl rfl))
    ·
     intro vf pf hR
     have e6 := hR 6 (by decide)
     have e7 := hR 7 (by decide)
     refine Or.inl ⟨zbx (congrArg some e6.1) rfl, ?_⟩
     exact zbm (sk 25 (congrArg some e7.1) (zam _)) (List.sublist_append_right _ _) (zbz (zac rfl rfl rfl (zaa 0 rfl rfl)))
    ·
     intro vf pf hR
     have e6 := hR 6 (by decide)
     have e8 := hR 8 (by decide)
     refine Or.inl ⟨zbx (congrArg some e6.1) rfl, ?_⟩
     exact zbm (sk 26 (congrArg some e8.1) (zam _)) (List.sublist_append_right _ _) (zbz (lnQ rfl rfl rfl (zae ((hd.at (k := k) (by omega)).p.at (k := i) (by omega)))))
    ·
     intro vf pf hR
     have e6 := hR 6 (by decide)
     refine Or.inl ⟨zbx (congrArg some e6.1) rfl, ?_⟩
     exact zcd (zav [2] rfl) (zbz (fdQ 0 rfl rfl rfl))
    ·
     intro vf pf hR
     have e6 := hR 6 (by decide)
     have e10 := hR 10 (by decide)
     refine Or.inl ⟨zbx (congrArg some e6.1) rfl, ?_⟩
     exact zbm (sk 28 (congrArg some e10.1) (zam _)) (List.sublist_append_right _ _) (zbz (zac rfl rfl rfl (zaa 1 rfl rfl)))
    ·
     intro vf pf hR
     have e6 := hR 6 (by decide)
     refine Or.inl ⟨zbx (congrArg some e6.1) rfl, ?_⟩
     exact zcd (zav [6] rfl) (zbz (fdQ 0 rfl rfl rfl))
    ·
     intro vf pf hR
     have e6 := hR 6 (by decide)
     have e12 := hR 12 (by decide)
     refine Or.inl ⟨zbx (congrArg some e6.1) rfl, ?_⟩
     exact zbm (sk 30 (congrArg some e12.1) (zam _)) (List.sublist_append_right _ _) (zbz (zac rfl rfl rfl (zaa 0 rfl rfl)))
    ·
     intro vf pf hR
     have e6 := hR 6 (by decide)
     have e11 := hR 11 (by decide)
     have e13 := hR 13 (by decide)
     refine Or.inl ⟨zbx (congrArg some e6.1) rfl, ?_⟩
     exact zbm (sk 29 (congrArg some e11.1) (sk 31 (congrArg some e13.1) (zam _))) (List.sublist_append_right _ _) (zbz (riQ 4 rfl rfl rfl rfl (zae hd.row)))
    ·
     intro vf pf hR
     have e6 := hR 6 (by decide)
     have e14 := hR 14 (by decide)
     refine Or.inl ⟨zbx (congrArg some e6.1) rfl, ?_⟩
     exact zbm (sk 32 (congrArg some e14.1) (zam _)) (List.sublist_append_right _ _) (zbz (zbj (us := [(D.getD (((((D.getD k md0).xs).getD i ix0).m).toNat) md0).sv, (D.getD (((((D.getD k md0).xs).getD i ix0).m).toNat) md0).av, (D.getD (((((D.getD k md0).xs).getD i ix0).m).toNat) md0).iv, (D.getD (((((D.getD k md0).xs).getD i ix0).m).toNat) md0).mv]) rfl rfl rfl rfl (zae hd.row) (by omega) rfl (zby mdC 4 (fun _ => rfl) D md0 (show ((((D.getD k md0).xs).getD i ix0).m).toNat < _ by omega) rfl)))
    ·
     intro vf pf hR
     have e6 := hR 6 (by decide)
     have e15 := hR 15 (by decide)
     refine Or.inl ⟨zbx (congrArg some e6.1) rfl, ?_⟩
     exact zbm (sk 33 (congrArg some e15.1) (zam _)) (List.sublist_append_right _ _) (zaw rfl rfl (fun w hm => zfd (D.getD (((((D.getD k md0).xs).getD i ix0).m).toNat) md0) w ((hd.at (by omega)).below hm.bel)))
    ·
     intro vf pf hR
     have e6 := hR 6 (by decide)
     have e16 : (fun v' post => post = [rowE 3 1 v' ((ptsK (D.getD (((((D.getD k md0).xs).getD i ix0).m).toNat) md0))).length (((ptsK (D.getD (((((D.getD k md0).xs).getD i ix0).m).toNat) md0))).map (Value.int .i64))]) (vf 16) (pf 16) := hR 16 (by decide)
     obtain ⟨v13, vE16⟩ : ∃ x, vf 16 = x := ⟨_, rfl⟩
     obtain ⟨p14, pE16⟩ : ∃ x, pf 16 = x := ⟨_, rfl⟩
     have hR15 := e16
     rw [vE16, pE16] at hR15
     subst hR15
     refine Or.inl ⟨zbx (congrArg some e6.1) rfl, ?_⟩
     exact zco (sk 34 (congrArg some vE16) (zam _)) (by simp only [pE16, vE16, e6.2, fS] <;> rfl) (zbz (lnQ rfl rfl rfl (zai 0 rfl)))
    ·
     intro vf pf hR
     have e6 := hR 6 (by decide)
     have e9 := hR 9 (by decide)
     have e16 : (fun v' post => post = [rowE 3 1 v' ((ptsK (D.getD (((((D.getD k md0).xs).getD i ix0).m).toNat) md0))).length (((ptsK (D.getD (((((D.getD k md0).xs).getD i ix0).m).toNat) md0))).map (Value.int .i64))]) (vf 16) (pf 16) := hR 16 (by decide)
     obtain ⟨v13, vE16⟩ : ∃ x, vf 16 = x := ⟨_, rfl⟩
     obtain ⟨p14, pE16⟩ : ∃ x, pf 16 = x := ⟨_, rfl⟩
     have hR15 := e16
     rw [vE16, pE16] at hR15
     subst hR15
     have e17 := hR 17 (by decide)
     refine Or.inl ⟨zbx (congrArg some e6.1) rfl, ?_⟩
     exact zco (sk 27 (congrArg some e9.1) (sk 35 (congrArg some e17.1) (zam _))) (by simp only [pE16, vE16, e6.2, e9.2, e17.2, fS] <;> rfl) (zct (zbz (zck rfl rfl rfl rfl)) (fun _ _ h => ⟨h.1.trans (congrArg Value.bool hb9), h.2⟩))
    intro vf pf hR
    have e6 := hR 6 (by decide)
    have e18 := hR 18 (by decide)
    exact ovQ rfl (sk 24 (congrArg some e6.1) (sk 36 (congrArg some e18.1) (zam _))) (zbz (zax rfl))
   intro vf pf hR
   have e16 : (fun v' post => post = [rowE 3 1 v' ((ptsK (D.getD (((((D.getD k md0).xs).getD i ix0).m).toNat) md0))).length (((ptsK (D.getD (((((D.getD k md0).xs).getD i ix0).m).toNat) md0))).map (Value.int .i64))]) (vf 16) (pf 16) := hR 16 (by decide)
   obtain ⟨v13, vE16⟩ : ∃ x, vf 16 = x := ⟨_, rfl⟩
   obtain ⟨p14, pE16⟩ : ∃ x, pf 16 = x := ⟨_, rfl⟩
   have hR15 := e16
   rw [vE16, pE16] at hR15
   subst hR15
   have e19 := hR 19 (by decide)
   have q0 := hR 0 (by decide)
   have q1 := hR 1 (by decide)
   have q2 := hR 2 (by decide)
   have q3 := hR 3 (by decide)
   have q4 := hR 4 (by decide)
   have q5 := hR 5 (by decide)
   have q6 := hR 6 (by decide)
   have q7 := hR 7 (by decide)
   have q8 := hR 8 (by decide)
   have q9 := hR 9 (by decide)
   have q10 := hR 10 (by decide)
   have q11 := hR 11 (by decide)
   have q12 := hR 12 (by decide)
   have q13 := hR 13 (by decide)
   have q14 := hR 14 (by decide)
   have q15 := hR 15 (by decide)
   have q17 := hR 17 (by decide)
   have q18 := hR 18 (by decide)
   have q19 := hR 19 (by decide)
   refine zdj (zcu [15, 14, 13, 12, 6, 4, 2, 1, 0] _ (sk 37 (congrArg some e19.1) (zam _)) rfl) (by simp only [pE16, vE16, q0.2, q1.2, q2.2, q3.2, q4.2, q5.2, q6.2, q7.2, q8.2, q9.2, q10.2, q11.2, q12.2, q13.2, q14.2, q15.2, q17.2, q18.2, q19.2, fS] <;> rfl) ?_
   simp only [List.drop_succ_cons, List.drop_zero]
   refine ntQ (fsQ rfl (zde (zao (hvQ rfl (vaQ rfl rfl rfl) (enQ 1 rfl ?_)))))
   exact zbt (i + 1) ⟨by omega, fun q hq => by by_cases e : q = i; (subst e; exact ⟨⟨by omega, by omega⟩, by omega⟩); exact hins q (by omega)⟩ (by omega) (saQ rfl) (slQ [2] rfl)
  have hb5a := zcz hb5
  refine zbv 20 [[], [0], [], [2], [1, 3], [4], [5], [6], [6], [6], [6], [6], [6], [6], [6], [6], [6], [6], [6], [6, 18]] [18, 19, 20, 21, 22, 23, 24, 25, 26, 27, 28, 29, 30, 31, 32, 33, 34, 35, 36, 37] [.pointer (some ⟨b4, 0 + 0, none⟩), .int .i64 ((((D.getD k md0).xs).getD i ix0).m), .int .i64 (k : Int), .int .i64 ((k : Int) - 1), .bool false, .bool true, .bool true, undef, undef, undef, undef, undef, undef, undef, undef, undef, undef, undef, undef, .bool true] (by kernel_rfl) rfl ?_ ?_
  ·
   exact ⟨iaQ rfl (fdQ 0 rfl rfl rfl) rfl, iaQ rfl (zac rfl rfl rfl (zaa 0 rfl rfl)) rfl, iaQ rfl (zax rfl) rfl, iaQ rfl (vsQ rfl rfl rfl) rfl, .inl ⟨rfl, rq_cb (zaw rfl rfl (fun w hm => zbe (zee (zcj _ _ _ w)))) hb5⟩, iaQ rfl (zax rfl) rfl, iaQ rfl (zax rfl) rfl, .inr ⟨rfl, rfl⟩, .inr ⟨rfl, rfl⟩, .inr ⟨rfl, rfl⟩, .inr ⟨rfl, rfl⟩, .inr ⟨rfl, rfl⟩, .inr ⟨rfl, rfl⟩, .inr ⟨rfl, rfl⟩, .inr ⟨rfl, rfl⟩, .inr ⟨rfl, rfl⟩, .inr ⟨rfl, rfl⟩, .inr ⟨rfl, rfl⟩, .inr ⟨rfl, rfl⟩, iaQ rfl (zax rfl) rfl, trivial⟩
  simp only [List.drop_succ_cons, List.drop_zero]
  refine ntQ (zaj rfl (zbh 1 rfl ?_))
  refine zap (zad ?_)
  refine zdw ?_
  refine zad (zaf ?_)
  exact zay rfl rfl (congrArg _ (zcb (fun hp => by first | (obtain ⟨⟨h1, h2⟩, h3⟩ := hp i (by omega); omega))).symm)
 refine ntQ (fcQ rfl ?_)
 refine zbi (zdv ?_)
 refine zal (zar (zbh 1 rfl ?_))
 exact zap (zay rfl rfl (congrArg _ (zdf (fun q hq => hins q (by omega))).symm))
theorem zgr (b : Nat) (v : Value) (zs : List Int) (s : Int) (w0 : World) (l : List HP) (w : World) (hm0 : Mem w0 (bigE [boxE b #[v] 48, rowE 3 1 v zs.length (zs.map (Value.int .i64))] :: l) w) (hz1 : zs.length ≤ 1000000) (hz2 : ∀ q, 0 ≤ zs.getD q 0 ∧ zs.getD q 0 ≤ 1000000) :
   Calls Try.prog 108 #[.int .i64 s, .pointer (some ⟨b, 0, none⟩)] w (fun e_ w_ => ∃ v_ p_, e_ = .returned v_ ∧ (fun u_ p_ => u_ = .tuple #[] ∧ p_ = bigE [boxE b #[v] 48, rowE 3 1 v (incZ zs s).length ((incZ zs s).map (Value.int .i64))]) v_ p_ ∧ Mem w0 (p_ :: l) w_) := by
 refine zes (N := 14) (args := [.int .i64 s, .pointer (some ⟨b, 0, none⟩)]) Try.func108 rfl rfl hm0 (srQ ?_)
 refine zfv (boxE b #[v] 48 :: rowE 3 1 v zs.length (zs.map (Value.int .i64)) :: l) zdh ?_
 refine zah 1 rfl (hvQ rfl (zac rfl rfl rfl (zaa 0 rfl rfl)) (hvQ rfl (lnQ rfl rfl rfl (zai 1 rfl)) (hvQ rfl (vsQ rfl rfl rfl) ?_)))
 refine zej rfl (zaw rfl rfl (fun w hm => zbe (zee (zcj _ _ _ w)))) (zbq (fun h1 => ?_) (fun h1 => ?_))
 ·
  obtain ⟨h1a, h1b⟩ := (zdd _ _ _).1 h1
  refine ntQ (zaj rfl (zao ?_))
  have hz3 := hz2 s.toNat
  refine hvQ rfl (zac rfl rfl rfl (zaa 0 rfl rfl)) (zah 1 rfl (hvQ rfl (riQ 1 rfl rfl rfl rfl (zai 1 rfl)) (hvQ rfl (lzQ rfl rfl rfl (zai 1 rfl)) (hvQ rfl (vaQ rfl rfl rfl) (hvQ rfl (riQ 1 rfl rfl rfl rfl (zai 1 rfl)) ?_)))))
  refine zgc (i := 1) (n' := (zs.set ((s).toNat) ((zs.getD ((s).toNat) 0) + 1)).length) (xs' := ((zs.set ((s).toNat) ((zs.getD ((s).toNat) 0) + 1)).map (Value.int .i64))) rfl rfl rfl rfl rfl rfl rfl rfl (by first | omega | (simp only [List.length_set]; omega)) List.length_set.symm (zgk _ _ _) rfl (zbn ?_)
  refine hq_normal (zbk 2 [1, 0] rfl rfl (by decide) ?_)
  refine zdl (bigE [boxE b #[v] 48, rowE 3 1 v ((zs.set ((s).toNat) ((zs.getD ((s).toNat) 0) + 1)).length) ((zs.set ((s).toNat) ((zs.getD ((s).toNat) 0) + 1)).map (Value.int .i64))] :: l) (conv_big (ps := [boxE b #[v] 48, rowE 3 1 v ((zs.set ((s).toNat) ((zs.getD ((s).toNat) 0) + 1)).length) ((zs.set ((s).toNat) ((zs.getD ((s).toNat) 0) + 1)).map (Value.int .i64))])) ?_
  refine zdb (rs := []) (vs := []) rfl trivial rfl (fun w hm => ⟨_, _, rfl, ⟨rfl, by unfold incZ; rw [if_pos ⟨by omega, by omega⟩]⟩, hm.sub (.refl _)⟩)
 have h1a := zcz h1
 refine ntQ (fsQ rfl ?_)
 refine hq_normal (zbk 2 [1, 0] rfl rfl (by decide) ?_)
 refine zdl (bigE [boxE b #[v] 48, rowE 3 1 v zs.length (zs.map (Value.int .i64))] :: l) (conv_big (ps := [boxE b #[v] 48, rowE 3 1 v zs.length (zs.map (Value.int .i64))])) ?_
 refine zdb (rs := []) (vs := []) rfl trivial rfl (fun w hm => ⟨_, _, rfl, ⟨rfl, by unfold incZ; rw [if_neg (by omega)]⟩, hm.sub (.refl _)⟩)
theorem driverCounts_ret (D : List Md) (k : Nat) (v : Value) (w : World) (hd : RdsDs w v D) (hc : CtsP D k) :
   Calls Try.prog 50 #[.agg #[v], .int .i64 (k : Int)] w (Ret w (fun v' post => post = [rowE 3 1 v' ((cntZ (D.getD k md0).ss.length (drvL D (D.getD k md0)))).length (((cntZ (D.getD k md0).ss.length (drvL D (D.getD k md0)))).map (Value.int .i64))])) := by
 have hd9 := sml hd.row
 obtain ⟨hkl, hcnt, hins⟩ := hc
 obtain ⟨hn1, hn2, hn3, hn4⟩ := hcnt.md k hkl
 have hdl := hcnt.len
 refine zbw (N := 89) (args := [.agg #[v], .int .i64 (k : Int)]) Try.func50 rfl rfl (srQ ?_)
 refine zdk rfl (zda rfl rfl) ?_
 intro b1
 refine zaz 1 rfl (srQ (hvQ rfl (fdQ 0 rfl rfl rfl) (hvQ rfl (zac rfl rfl rfl (zaa 0 rfl rfl)) (zah 1 rfl (hvQ rfl (riQ 4 rfl rfl rfl rfl (zae hd.row)) ?_)))))
 refine hvQ rfl (zbj (us := [(D.getD k md0).sv, (D.getD k md0).av, (D.getD k md0).iv, (D.getD k md0).mv]) rfl rfl rfl rfl (zae hd.row) (by omega) rfl (zby mdC 4 (fun _ => rfl) D md0 (show k < _ by omega) rfl)) (zdk rfl (zbf (z := .agg #[.slice none 0 0, .slice none 0 0, .slice none 0 0, .slice none 0 0]) rfl rfl) ?_)
 intro b2
 refine zbd (cs' := #[(D.getD k md0).sv, (D.getD k md0).av, (D.getD k md0).iv, (D.getD k md0).mv]) (i := 0) (off := 0) (us := [(D.getD k md0).sv, (D.getD k md0).av, (D.getD k md0).iv, (D.getD k md0).mv]) rfl rfl rfl rfl rfl rfl rfl (zab (hd.at (k := k) (by omega)).s.one (zab (hd.at (k := k) (by omega)).g.one (zab (hd.at (k := k) (by omega)).x.one (zab (hd.at (k := k) (by omega)).m.one zbb)))) rfl rfl rfl (ntQ (srQ (hvQ rfl (fdQ 0 rfl rfl rfl) (hvQ rfl (zac rfl rfl rfl (zaa 0 rfl rfl)) (hvQ rfl (lnQ rfl rfl rfl (zae ((hd.at (k := k) (by omega)).s))) ?_)))))
 refine zdu rfl (rq_make (z := .int .i64 0) (s := 1) (bytes := 8) (n := (List.replicate (((D.getD k md0).ss).length) (0 : Int)).length) (cs := ((List.replicate (((D.getD k md0).ss).length) (0 : Int)).map (Value.int .i64))) rfl Try.underlying48 rfl (by decide) rfl rfl (by first | (rw [List.length_replicate]; done) | (rw [List.length_replicate]; omega)) (by first | (rw [List.length_replicate]; done) | (rw [List.length_replicate]; omega)) (by rw [List.length_replicate]; omega) (ints_make _)) ?_
 intro g3
 refine zdk rfl (zbf (z := .slice none 0 0) rfl rfl) ?_
 intro b4
 refine zem (i := 0) (cs' := #[.slice (some ⟨g3, 0, none⟩) ((List.replicate (((D.getD k md0).ss).length) (0 : Int)).length) ((List.replicate (((D.getD k md0).ss).length) (0 : Int)).length)]) rfl rfl rfl rfl rfl rfl rfl rfl rfl rfl rfl (ntQ (srQ (hvQ rfl (rv_makeFunc (us := []) (vs := [.pointer (some ⟨b4, 0, none⟩)]) rfl rfl rfl) (zaz 1 rfl (zfh ?_)))))
 refine hl_pick 4 [3, 2, 1, 0] rfl rfl (by decide) ?_
 refine zfv [bigE [boxE b4 #[.slice (some ⟨g3, 0, none⟩) ((List.replicate (((D.getD k md0).ss).length) (0 : Int)).length) ((List.replicate (((D.getD k md0).ss).length) (0 : Int)).length)] 48, rowE 3 1 (.slice (some ⟨g3, 0, none⟩) ((List.replicate (((D.getD k md0).ss).length) (0 : Int)).length) ((List.replicate (((D.getD k md0).ss).length) (0 : Int)).length)) ((List.replicate (((D.getD k md0).ss).length) (0 : Int)).length) ((List.replicate (((D.getD k md0).ss).length) (0 : Int)).map (Value.int .i64))], boxE b2 #[(D.getD k md0).sv, (D.getD k md0).av, (D.getD k md0).iv, (D.getD k md0).mv] 35, boxE b1 #[v] 26] (conv_big (ps := [boxE b4 #[.slice (some ⟨g3, 0, none⟩) ((List.replicate (((D.getD k md0).ss).length) (0 : Int)).length) ((List.replicate (((D.getD k md0).ss).length) (0 : Int)).length)] 48, rowE 3 1 (.slice (some ⟨g3, 0, none⟩) ((List.replicate (((D.getD k md0).ss).length) (0 : Int)).length) ((List.replicate (((D.getD k md0).ss).length) (0 : Int)).length)) ((List.replicate (((D.getD k md0).ss).length) (0 : Int)).length) ((List.replicate (((D.getD k md0).ss).length) (0 : Int)).map (Value.int .i64))])) ?_
 rw [cntZ_nil]
 refine hvQ rfl (fdQ 1 rfl rfl rfl) (hvQ rfl (zac rfl rfl rfl (zaa 1 rfl rfl)) (hvQ rfl (lnQ rfl rfl rfl (zae ((hd.at (k := k) (by omega)).g))) (zaz 1 rfl (zba ?_))))
 refine zey [bigE [boxE b4 #[.slice (some ⟨g3, 0, none⟩) ((cntZ (D.getD k md0).ss.length ([] : List Int)).length) ((cntZ (D.getD k md0).ss.length ([] : List Int)).length)] 48, rowE 3 1 (.slice (some ⟨g3, 0, none⟩) ((cntZ (D.getD k md0).ss.length ([] : List Int)).length) ((cntZ (D.getD k md0).ss.length ([] : List Int)).length)) (cntZ (D.getD k md0).ss.length (((D.getD k md0).gs.take 0).map As.t)).length ((cntZ (D.getD k md0).ss.length (((D.getD k md0).gs.take 0).map As.t)).map (Value.int .i64))], boxE b2 #[(D.getD k md0).sv, (D.getD k md0).av, (D.getD k md0).iv, (D.getD k md0).mv] 35, boxE b1 #[v] 26] (fun w hm => by rw [show ((D.getD k md0).gs.take 0).map As.t = ([] : List Int) from rfl]; exact hm) ?_
 refine lkQ1 (α := Nat) [0, 1, 2, 4, 5, 6, 7, 28, 29] rfl (fun i => [bigE [boxE b4 #[.slice (some ⟨g3, 0, none⟩) ((cntZ (D.getD k md0).ss.length ([] : List Int)).length) ((cntZ (D.getD k md0).ss.length ([] : List Int)).length)] 48, rowE 3 1 (.slice (some ⟨g3, 0, none⟩) ((cntZ (D.getD k md0).ss.length ([] : List Int)).length) ((cntZ (D.getD k md0).ss.length ([] : List Int)).length)) (cntZ (D.getD k md0).ss.length (((D.getD k md0).gs.take i).map As.t)).length ((cntZ (D.getD k md0).ss.length (((D.getD k md0).gs.take i).map As.t)).map (Value.int .i64))], boxE b2 #[(D.getD k md0).sv, (D.getD k md0).av, (D.getD k md0).iv, (D.getD k md0).mv] 35, boxE b1 #[v] 26]) (fun i => [(30, .int .i64 (i : Int))]) (fun i => i ≤ (D.getD k md0).gs.length) (fun i => (D.getD k md0).gs.length - i) 0 (Nat.zero_le _) (saQ rfl) (pfQ rfl) ?_
 intro i hi5
 have hi := hi5
 refine srQ ?_
 refine zbp rfl rfl rfl rfl rfl rfl (fun h6 => ?_) (fun h6 => ?_)
 ·
  refine ntQ (tcQ rfl (zcy (sbQ (srQ (hvQ rfl (riQ 2 rfl rfl rfl rfl (zae ((hd.at (k := k) (by omega)).g))) ?_)))))
  refine hvQ rfl (zbj (us := [.int .i64 ((((D.getD k md0).gs).getD i as0).t), (((D.getD k md0).gs).getD i as0).ov]) rfl rfl rfl rfl (zae ((hd.at (k := k) (by omega)).g)) (by omega) rfl (zby asC 2 (fun _ => rfl) ((D.getD k md0).gs) as0 (show i < _ by omega) rfl)) (zdk rfl (zbf (z := .agg #[.int .i64 0, .slice none 0 0]) rfl rfl) ?_)
  intro b7
  refine zbd (cs' := #[.int .i64 ((((D.getD k md0).gs).getD i as0).t), (((D.getD k md0).gs).getD i as0).ov]) (i := 0) (off := 0) (us := [.int .i64 ((((D.getD k md0).gs).getD i as0).t), (((D.getD k md0).gs).getD i as0).ov]) rfl rfl rfl rfl rfl rfl rfl (zab rfl (zab ((hd.at (k := k) (by omega)).o.at (k := i) (by omega)).one zbb)) rfl rfl rfl (ntQ (reQ 1 rfl (hvQ rfl (fdQ 0 rfl rfl rfl) (hvQ rfl (zac rfl rfl rfl (zaa 0 rfl rfl)) ?_))))
  refine hl_callMF (R := (fun u_ p_ => u_ = .tuple #[] ∧ p_ = bigE [boxE b4 #[.slice (some ⟨g3, 0, none⟩) ((cntZ (D.getD k md0).ss.length ([] : List Int)).length) ((cntZ (D.getD k md0).ss.length ([] : List Int)).length)] 48, rowE 3 1 (.slice (some ⟨g3, 0, none⟩) ((cntZ (D.getD k md0).ss.length ([] : List Int)).length) ((cntZ (D.getD k md0).ss.length ([] : List Int)).length)) (incZ (cntZ (D.getD k md0).ss.length (((D.getD k md0).gs.take i).map As.t)) ((((D.getD k md0).gs).getD i as0).t)).length ((incZ (cntZ (D.getD k md0).ss.length (((D.getD k md0).gs.take i).map As.t)) ((((D.getD k md0).gs).getD i as0).t)).map (Value.int .i64))])) 1 rfl rfl rfl rfl rfl rfl (fun L w hX hm => zgr b4 (.slice (some ⟨g3, 0, none⟩) ((cntZ (D.getD k md0).ss.length ([] : List Int)).length) ((cntZ (D.getD k md0).ss.length ([] : List Int)).length)) (cntZ (D.getD k md0).ss.length (((D.getD k md0).gs.take i).map As.t)) ((((D.getD k md0).gs).getD i as0).t) _ L w hm (by rw [zeo]; omega) (fun q => by have h9 := cntZ_le (n := (D.getD k md0).ss.length) (L := ((D.getD k md0).gs.take i).map As.t) (M := 1000) (by simp only [List.length_append, List.length_map, List.length_take]; omega) q; omega)) ?_
  intro v8 p9 hR10
  obtain ⟨rfl, rfl⟩ := hR10
  rw [cntZ_inc]
  refine zcs (l' := [boxE b7 #[.int .i64 ((((D.getD k md0).gs).getD i as0).t), (((D.getD k md0).gs).getD i as0).ov] 89, bigE [boxE b4 #[.slice (some ⟨g3, 0, none⟩) ((cntZ (D.getD k md0).ss.length ([] : List Int)).length) ((cntZ (D.getD k md0).ss.length ([] : List Int)).length)] 48, rowE 3 1 (.slice (some ⟨g3, 0, none⟩) ((cntZ (D.getD k md0).ss.length ([] : List Int)).length) ((cntZ (D.getD k md0).ss.length ([] : List Int)).length)) (cntZ (D.getD k md0).ss.length (((D.getD k md0).gs.take i).map As.t ++ [(((D.getD k md0).gs).getD i as0).t])).length ((cntZ (D.getD k md0).ss.length (((D.getD k md0).gs.take i).map As.t ++ [(((D.getD k md0).gs).getD i as0).t])).map (Value.int .i64))], boxE b2 #[(D.getD k md0).sv, (D.getD k md0).av, (D.getD k md0).iv, (D.getD k md0).mv] 35, boxE b1 #[v] 26]) rfl ?_
  refine zbn (zde (zao (hvQ rfl (vaQ rfl rfl rfl) (enQ 1 rfl ?_))))
  refine zdl [boxE b7 #[.int .i64 ((((D.getD k md0).gs).getD i as0).t), (((D.getD k md0).gs).getD i as0).ov] 89, bigE [boxE b4 #[.slice (some ⟨g3, 0, none⟩) ((cntZ (D.getD k md0).ss.length ([] : List Int)).length) ((cntZ (D.getD k md0).ss.length ([] : List Int)).length)] 48, rowE 3 1 (.slice (some ⟨g3, 0, none⟩) ((cntZ (D.getD k md0).ss.length ([] : List Int)).length) ((cntZ (D.getD k md0).ss.length ([] : List Int)).length)) (cntZ (D.getD k md0).ss.length (((D.getD k md0).gs.take (i + 1)).map As.t)).length ((cntZ (D.getD k md0).ss.length (((D.getD k md0).gs.take (i + 1)).map As.t)).map (Value.int .i64))], boxE b2 #[(D.getD k md0).sv, (D.getD k md0).av, (D.getD k md0).iv, (D.getD k md0).mv] 35, boxE b1 #[v] 26] (fun w hm => by rw [show ((D.getD k md0).gs.take (i + 1)).map As.t = ((D.getD k md0).gs.take i).map As.t ++ [(((D.getD k md0).gs).getD i as0).t] from take_map As.t as0 (by omega)]; exact hm) ?_
  exact zbt (i + 1) (by omega) (by omega) (saQ rfl) (slQ [1, 0, 0] rfl)
 refine ntQ (fcQ rfl ?_)
 refine zbi (zdv ?_)
 refine zal (zar (zfh (hvQ rfl (fdQ 3 rfl rfl rfl) (hvQ rfl (zac rfl rfl rfl (zaa 1 rfl rfl)) (hvQ rfl (lnQ rfl rfl rfl (zae ((hd.at (k := k) (by omega)).m))) (zaz 1 rfl (zba ?_)))))))
 refine zey [bigE [boxE b4 #[.slice (some ⟨g3, 0, none⟩) ((cntZ (D.getD k md0).ss.length ([] : List Int)).length) ((cntZ (D.getD k md0).ss.length ([] : List Int)).length)] 48, rowE 3 1 (.slice (some ⟨g3, 0, none⟩) ((cntZ (D.getD k md0).ss.length ([] : List Int)).length) ((cntZ (D.getD k md0).ss.length ([] : List Int)).length)) (cntZ (D.getD k md0).ss.length ((D.getD k md0).gs.map As.t ++ ((D.getD k md0).ms.take 0).map Mm.o)).length ((cntZ (D.getD k md0).ss.length ((D.getD k md0).gs.map As.t ++ ((D.getD k md0).ms.take 0).map Mm.o)).map (Value.int .i64))], boxE b2 #[(D.getD k md0).sv, (D.getD k md0).av, (D.getD k md0).iv, (D.getD k md0).mv] 35, boxE b1 #[v] 26] (fun w hm => by rw [show (D.getD k md0).gs.map As.t ++ ((D.getD k md0).ms.take 0).map Mm.o = ((D.getD k md0).gs.take i).map As.t by rw [List.take_zero, List.map_nil, List.append_nil, show i = (D.getD k md0).gs.length by omega, List.take_length]]; exact hm) ?_
 refine lkQ1 (α := Nat) [0, 1, 2, 4, 5, 6, 7, 31, 40, 41] rfl (fun i => [bigE [boxE b4 #[.slice (some ⟨g3, 0, none⟩) ((cntZ (D.getD k md0).ss.length ([] : List Int)).length) ((cntZ (D.getD k md0).ss.length ([] : List Int)).length)] 48, rowE 3 1 (.slice (some ⟨g3, 0, none⟩) ((cntZ (D.getD k md0).ss.length ([] : List Int)).length) ((cntZ (D.getD k md0).ss.length ([] : List Int)).length)) (cntZ (D.getD k md0).ss.length ((D.getD k md0).gs.map As.t ++ ((D.getD k md0).ms.take i).map Mm.o)).length ((cntZ (D.getD k md0).ss.length ((D.getD k md0).gs.map As.t ++ ((D.getD k md0).ms.take i).map Mm.o)).map (Value.int .i64))], boxE b2 #[(D.getD k md0).sv, (D.getD k md0).av, (D.getD k md0).iv, (D.getD k md0).mv] 35, boxE b1 #[v] 26]) (fun i => [(42, .int .i64 (i : Int))]) (fun i => i ≤ (D.getD k md0).ms.length) (fun i => (D.getD k md0).ms.length - i) 0 (Nat.zero_le _) (saQ rfl) (pfQ rfl) ?_
 intro i hi11
 have hi := hi11
 refine srQ ?_
 refine zbp rfl rfl rfl rfl rfl rfl (fun h12 => ?_) (fun h12 => ?_)
 ·
  refine ntQ (tcQ rfl (zcy (sbQ (srQ (hvQ rfl (riQ 4 rfl rfl rfl rfl (zae ((hd.at (k := k) (by omega)).m))) ?_)))))
  refine hvQ rfl (zbj (us := [.int .i64 ((((D.getD k md0).ms).getD i mm0).a), .int .i64 ((((D.getD k md0).ms).getD i mm0).d), .int .i64 ((((D.getD k md0).ms).getD i mm0).w), .int .i64 ((((D.getD k md0).ms).getD i mm0).o)]) rfl rfl rfl rfl (zae ((hd.at (k := k) (by omega)).m)) (by omega) rfl (zby mmC 4 (fun _ => rfl) ((D.getD k md0).ms) mm0 (show i < _ by omega) rfl)) (zdk rfl (zbf (z := .agg #[.int .i64 0, .int .i64 0, .int .i64 0, .int .i64 0]) rfl rfl) ?_)
  intro b13
  refine zbd (cs' := #[.int .i64 ((((D.getD k md0).ms).getD i mm0).a), .int .i64 ((((D.getD k md0).ms).getD i mm0).d), .int .i64 ((((D.getD k md0).ms).getD i mm0).w), .int .i64 ((((D.getD k md0).ms).getD i mm0).o)]) (i := 0) (off := 0) (us := [.int .i64 ((((D.getD k md0).ms).getD i mm0).a), .int .i64 ((((D.getD k md0).ms).getD i mm0).d), .int .i64 ((((D.getD k md0).ms).getD i mm0).w), .int .i64 ((((D.getD k md0).ms).getD i mm0).o)]) rfl rfl rfl rfl rfl rfl rfl (zab rfl (zab rfl (zab rfl (zab rfl zbb)))) rfl rfl rfl (ntQ (reQ 1 rfl (hvQ rfl (fdQ 3 rfl rfl rfl) (hvQ rfl (zac rfl rfl rfl (zaa 0 rfl rfl)) ?_))))
  refine hl_callMF (R := (fun u_ p_ => u_ = .tuple #[] ∧ p_ = bigE [boxE b4 #[.slice (some ⟨g3, 0, none⟩) ((cntZ (D.getD k md0).ss.length ([] : List Int)).length) ((cntZ (D.getD k md0).ss.length ([] : List Int)).length)] 48, rowE 3 1 (.slice (some ⟨g3, 0, none⟩) ((cntZ (D.getD k md0).ss.length ([] : List Int)).length) ((cntZ (D.getD k md0).ss.length ([] : List Int)).length)) (incZ (cntZ (D.getD k md0).ss.length ((D.getD k md0).gs.map As.t ++ ((D.getD k md0).ms.take i).map Mm.o)) ((((D.getD k md0).ms).getD i mm0).o)).length ((incZ (cntZ (D.getD k md0).ss.length ((D.getD k md0).gs.map As.t ++ ((D.getD k md0).ms.take i).map Mm.o)) ((((D.getD k md0).ms).getD i mm0).o)).map (Value.int .i64))])) 1 rfl rfl rfl rfl rfl rfl (fun L w hX hm => zgr b4 (.slice (some ⟨g3, 0, none⟩) ((cntZ (D.getD k md0).ss.length ([] : List Int)).length) ((cntZ (D.getD k md0).ss.length ([] : List Int)).length)) (cntZ (D.getD k md0).ss.length ((D.getD k md0).gs.map As.t ++ ((D.getD k md0).ms.take i).map Mm.o)) ((((D.getD k md0).ms).getD i mm0).o) _ L w hm (by rw [zeo]; omega) (fun q => by have h9 := cntZ_le (n := (D.getD k md0).ss.length) (L := (D.getD k md0).gs.map As.t ++ ((D.getD k md0).ms.take i).map Mm.o) (M := 1000) (by simp only [List.length_append, List.length_map, List.length_take]; omega) q; omega)) ?_
  intro v14 p15 hR16
  obtain ⟨rfl, rfl⟩ := hR16
  rw [cntZ_inc]
  refine zcs (l' := [boxE b13 #[.int .i64 ((((D.getD k md0).ms).getD i mm0).a), .int .i64 ((((D.getD k md0).ms).getD i mm0).d), .int .i64 ((((D.getD k md0).ms).getD i mm0).w), .int .i64 ((((D.getD k md0).ms).getD i mm0).o)] 94, bigE [boxE b4 #[.slice (some ⟨g3, 0, none⟩) ((cntZ (D.getD k md0).ss.length ([] : List Int)).length) ((cntZ (D.getD k md0).ss.length ([] : List Int)).length)] 48, rowE 3 1 (.slice (some ⟨g3, 0, none⟩) ((cntZ (D.getD k md0).ss.length ([] : List Int)).length) ((cntZ (D.getD k md0).ss.length ([] : List Int)).length)) (cntZ (D.getD k md0).ss.length ((D.getD k md0).gs.map As.t ++ ((D.getD k md0).ms.take i).map Mm.o ++ [(((D.getD k md0).ms).getD i mm0).o])).length ((cntZ (D.getD k md0).ss.length ((D.getD k md0).gs.map As.t ++ ((D.getD k md0).ms.take i).map Mm.o ++ [(((D.getD k md0).ms).getD i mm0).o])).map (Value.int .i64))], boxE b2 #[(D.getD k md0).sv, (D.getD k md0).av, (D.getD k md0).iv, (D.getD k md0).mv] 35, boxE b1 #[v] 26]) rfl ?_
  refine zbn (zde (zao (hvQ rfl (vaQ rfl rfl rfl) (enQ 1 rfl ?_))))
  refine zdl [boxE b13 #[.int .i64 ((((D.getD k md0).ms).getD i mm0).a), .int .i64 ((((D.getD k md0).ms).getD i mm0).d), .int .i64 ((((D.getD k md0).ms).getD i mm0).w), .int .i64 ((((D.getD k md0).ms).getD i mm0).o)] 94, bigE [boxE b4 #[.slice (some ⟨g3, 0, none⟩) ((cntZ (D.getD k md0).ss.length ([] : List Int)).length) ((cntZ (D.getD k md0).ss.length ([] : List Int)).length)] 48, rowE 3 1 (.slice (some ⟨g3, 0, none⟩) ((cntZ (D.getD k md0).ss.length ([] : List Int)).length) ((cntZ (D.getD k md0).ss.length ([] : List Int)).length)) (cntZ (D.getD k md0).ss.length ((D.getD k md0).gs.map As.t ++ ((D.getD k md0).ms.take (i + 1)).map Mm.o)).length ((cntZ (D.getD k md0).ss.length ((D.getD k md0).gs.map As.t ++ ((D.getD k md0).ms.take (i + 1)).map Mm.o)).map (Value.int .i64))], boxE b2 #[(D.getD k md0).sv, (D.getD k md0).av, (D.getD k md0).iv, (D.getD k md0).mv] 35, boxE b1 #[v] 26] (fun w hm => by rw [show (D.getD k md0).gs.map As.t ++ ((D.getD k md0).ms.take (i + 1)).map Mm.o = (D.getD k md0).gs.map As.t ++ ((D.getD k md0).ms.take i).map Mm.o ++ [(((D.getD k md0).ms).getD i mm0).o] by rw [take_map Mm.o mm0 (by omega), List.append_assoc]]; exact hm) ?_
  exact zbt (i + 1) (by omega) (by omega) (saQ rfl) (slQ [1, 0, 0] rfl)
 refine ntQ (fcQ rfl ?_)
 refine zbi (zdv ?_)
 refine zal (zar (zfh (hvQ rfl (fdQ 2 rfl rfl rfl) (hvQ rfl (zac rfl rfl rfl (zaa 1 rfl rfl)) (hvQ rfl (lnQ rfl rfl rfl (zae ((hd.at (k := k) (by omega)).x))) (zaz 1 rfl (zba ?_)))))))
 refine zey [bigE [boxE b4 #[.slice (some ⟨g3, 0, none⟩) ((cntZ (D.getD k md0).ss.length ([] : List Int)).length) ((cntZ (D.getD k md0).ss.length ([] : List Int)).length)] 48, rowE 3 1 (.slice (some ⟨g3, 0, none⟩) ((cntZ (D.getD k md0).ss.length ([] : List Int)).length) ((cntZ (D.getD k md0).ss.length ([] : List Int)).length)) (cntZ (D.getD k md0).ss.length ((D.getD k md0).gs.map As.t ++ (D.getD k md0).ms.map Mm.o ++ ((D.getD k md0).xs.take 0).flatMap (xoK D))).length ((cntZ (D.getD k md0).ss.length ((D.getD k md0).gs.map As.t ++ (D.getD k md0).ms.map Mm.o ++ ((D.getD k md0).xs.take 0).flatMap (xoK D))).map (Value.int .i64))], boxE b2 #[(D.getD k md0).sv, (D.getD k md0).av, (D.getD k md0).iv, (D.getD k md0).mv] 35, boxE b1 #[v] 26] (fun w hm => by rw [show (D.getD k md0).gs.map As.t ++ (D.getD k md0).ms.map Mm.o ++ ((D.getD k md0).xs.take 0).flatMap (xoK D) = (D.getD k md0).gs.map As.t ++ ((D.getD k md0).ms.take i).map Mm.o by rw [List.take_zero, List.flatMap_nil, List.append_nil, show i = (D.getD k md0).ms.length by omega, List.take_length]]; exact hm) ?_
 refine lkQ1 (α := Nat) [0, 1, 2, 4, 5, 6, 7, 31, 43, 52, 53] rfl (fun i => [bigE [boxE b4 #[.slice (some ⟨g3, 0, none⟩) ((cntZ (D.getD k md0).ss.length ([] : List Int)).length) ((cntZ (D.getD k md0).ss.length ([] : List Int)).length)] 48, rowE 3 1 (.slice (some ⟨g3, 0, none⟩) ((cntZ (D.getD k md0).ss.length ([] : List Int)).length) ((cntZ (D.getD k md0).ss.length ([] : List Int)).length)) (cntZ (D.getD k md0).ss.length ((D.getD k md0).gs.map As.t ++ (D.getD k md0).ms.map Mm.o ++ ((D.getD k md0).xs.take i).flatMap (xoK D))).length ((cntZ (D.getD k md0).ss.length ((D.getD k md0).gs.map As.t ++ (D.getD k md0).ms.map Mm.o ++ ((D.getD k md0).xs.take i).flatMap (xoK D))).map (Value.int .i64))], boxE b2 #[(D.getD k md0).sv, (D.getD k md0).av, (D.getD k md0).iv, (D.getD k md0).mv] 35, boxE b1 #[v] 26]) (fun i => [(54, .int .i64 (i : Int))]) (fun i => i ≤ (D.getD k md0).xs.length) (fun i => (D.getD k md0).xs.length - i) 0 (Nat.zero_le _) (saQ rfl) (pfQ rfl) ?_
 intro i hi17
 have hi := hi17
 have hfx := flatX_le (D := D) (L := (D.getD k md0).xs) i hi
 refine srQ ?_
 refine zbp rfl rfl rfl rfl rfl rfl (fun h18 => ?_) (fun h18 => ?_)
 ·
  refine ntQ (tcQ rfl (zcy (sbQ (srQ (hvQ rfl (riQ 3 rfl rfl rfl rfl (zae ((hd.at (k := k) (by omega)).x))) ?_)))))
  refine hvQ rfl (zbj (us := [.int .i64 ((((D.getD k md0).xs).getD i ix0).m), .int .i64 ((((D.getD k md0).xs).getD i ix0).p), (((D.getD k md0).xs).getD i ix0).pv]) rfl rfl rfl rfl (zae ((hd.at (k := k) (by omega)).x)) (by omega) rfl (zby ixC 3 (fun _ => rfl) ((D.getD k md0).xs) ix0 (show i < _ by omega) rfl)) (zdk rfl (zbf (z := .agg #[.int .i64 0, .int .i64 0, .slice none 0 0]) rfl rfl) ?_)
  intro b19
  refine zbd (cs' := #[.int .i64 ((((D.getD k md0).xs).getD i ix0).m), .int .i64 ((((D.getD k md0).xs).getD i ix0).p), (((D.getD k md0).xs).getD i ix0).pv]) (i := 0) (off := 0) (us := [.int .i64 ((((D.getD k md0).xs).getD i ix0).m), .int .i64 ((((D.getD k md0).xs).getD i ix0).p), (((D.getD k md0).xs).getD i ix0).pv]) rfl rfl rfl rfl rfl rfl rfl (zab rfl (zab rfl (zab ((hd.at (k := k) (by omega)).p.at (k := i) (by omega)).one zbb))) rfl rfl rfl (ntQ (srQ ?_))
  obtain ⟨⟨hm0, hm1⟩, hpe⟩ := hins i (by omega)
  refine hvQ rfl (fdQ 0 rfl rfl rfl) (hvQ rfl (zac rfl rfl rfl (zaa 3 rfl rfl)) (hvQ rfl (fdQ 0 rfl rfl rfl) (hvQ rfl (zac rfl rfl rfl (zaa 0 rfl rfl)) (hvQ rfl (riQ 4 rfl rfl rfl rfl (zae hd.row)) ?_))))
  refine hvQ rfl (zbj (us := [(D.getD (((((D.getD k md0).xs).getD i ix0).m).toNat) md0).sv, (D.getD (((((D.getD k md0).xs).getD i ix0).m).toNat) md0).av, (D.getD (((((D.getD k md0).xs).getD i ix0).m).toNat) md0).iv, (D.getD (((((D.getD k md0).xs).getD i ix0).m).toNat) md0).mv]) rfl rfl rfl rfl (zae hd.row) (by omega) rfl (zby mdC 4 (fun _ => rfl) D md0 (show ((((D.getD k md0).xs).getD i ix0).m).toNat < _ by omega) rfl)) (zdk rfl (zbf (z := .agg #[.slice none 0 0, .slice none 0 0, .slice none 0 0, .slice none 0 0]) rfl rfl) ?_)
  intro b20
  refine zbd (cs' := #[(D.getD (((((D.getD k md0).xs).getD i ix0).m).toNat) md0).sv, (D.getD (((((D.getD k md0).xs).getD i ix0).m).toNat) md0).av, (D.getD (((((D.getD k md0).xs).getD i ix0).m).toNat) md0).iv, (D.getD (((((D.getD k md0).xs).getD i ix0).m).toNat) md0).mv]) (i := 0) (off := 0) (us := [(D.getD (((((D.getD k md0).xs).getD i ix0).m).toNat) md0).sv, (D.getD (((((D.getD k md0).xs).getD i ix0).m).toNat) md0).av, (D.getD (((((D.getD k md0).xs).getD i ix0).m).toNat) md0).iv, (D.getD (((((D.getD k md0).xs).getD i ix0).m).toNat) md0).mv]) rfl rfl rfl rfl rfl rfl rfl (zab (hd.at (k := ((((D.getD k md0).xs).getD i ix0).m).toNat) (by omega)).s.one (zab (hd.at (k := ((((D.getD k md0).xs).getD i ix0).m).toNat) (by omega)).g.one (zab (hd.at (k := ((((D.getD k md0).xs).getD i ix0).m).toNat) (by omega)).x.one (zab (hd.at (k := ((((D.getD k md0).xs).getD i ix0).m).toNat) (by omega)).m.one zbb)))) rfl rfl rfl ?_
  refine ntQ (srQ (hvQ rfl (zau (cs := [(D.getD (((((D.getD k md0).xs).getD i ix0).m).toNat) md0).sv, (D.getD (((((D.getD k md0).xs).getD i ix0).m).toNat) md0).av, (D.getD (((((D.getD k md0).xs).getD i ix0).m).toNat) md0).iv, (D.getD (((((D.getD k md0).xs).getD i ix0).m).toNat) md0).mv]) rfl rfl rfl rfl rfl (zaq 0 rfl 0 rfl)) ?_))
  refine zfq rfl rfl rfl (zaw rfl rfl (fun w hm => zfd (D.getD (((((D.getD k md0).xs).getD i ix0).m).toNat) md0) w ((hd.at (by omega)).below hm.bel))) ?_
  intro v21 p22 hR23
  subst hR23
  refine hvQ rfl (lnQ rfl rfl rfl (zai 0 rfl)) (zaz 1 rfl (zba ?_))
  refine zey [rowE 3 1 v21 ((ptsK (D.getD (((((D.getD k md0).xs).getD i ix0).m).toNat) md0)).length) ((ptsK (D.getD (((((D.getD k md0).xs).getD i ix0).m).toNat) md0)).map (Value.int .i64)), boxE b20 #[(D.getD (((((D.getD k md0).xs).getD i ix0).m).toNat) md0).sv, (D.getD (((((D.getD k md0).xs).getD i ix0).m).toNat) md0).av, (D.getD (((((D.getD k md0).xs).getD i ix0).m).toNat) md0).iv, (D.getD (((((D.getD k md0).xs).getD i ix0).m).toNat) md0).mv] 35, boxE b19 #[.int .i64 ((((D.getD k md0).xs).getD i ix0).m), .int .i64 ((((D.getD k md0).xs).getD i ix0).p), (((D.getD k md0).xs).getD i ix0).pv] 63, bigE [boxE b4 #[.slice (some ⟨g3, 0, none⟩) ((cntZ (D.getD k md0).ss.length ([] : List Int)).length) ((cntZ (D.getD k md0).ss.length ([] : List Int)).length)] 48, rowE 3 1 (.slice (some ⟨g3, 0, none⟩) ((cntZ (D.getD k md0).ss.length ([] : List Int)).length) ((cntZ (D.getD k md0).ss.length ([] : List Int)).length)) (cntZ (D.getD k md0).ss.length ((D.getD k md0).gs.map As.t ++ (D.getD k md0).ms.map Mm.o ++ ((D.getD k md0).xs.take i).flatMap (xoK D) ++ xoA D ((D.getD k md0).xs.getD i ix0) 0)).length ((cntZ (D.getD k md0).ss.length ((D.getD k md0).gs.map As.t ++ (D.getD k md0).ms.map Mm.o ++ ((D.getD k md0).xs.take i).flatMap (xoK D) ++ xoA D ((D.getD k md0).xs.getD i ix0) 0)).map (Value.int .i64))], boxE b2 #[(D.getD k md0).sv, (D.getD k md0).av, (D.getD k md0).iv, (D.getD k md0).mv] 35, boxE b1 #[v] 26] (fun w hm => by rw [show (D.getD k md0).gs.map As.t ++ (D.getD k md0).ms.map Mm.o ++ ((D.getD k md0).xs.take i).flatMap (xoK D) ++ xoA D ((D.getD k md0).xs.getD i ix0) 0 = (D.getD k md0).gs.map As.t ++ (D.getD k md0).ms.map Mm.o ++ ((D.getD k md0).xs.take i).flatMap (xoK D) from List.append_nil _]; exact hm) ?_
  refine lkQ1 (α := Nat) [0, 1, 2, 4, 5, 6, 7, 13, 14, 31, 43, 52, 53, 54, 55, 65, 66] rfl (fun j => [rowE 3 1 v21 ((ptsK (D.getD (((((D.getD k md0).xs).getD i ix0).m).toNat) md0)).length) ((ptsK (D.getD (((((D.getD k md0).xs).getD i ix0).m).toNat) md0)).map (Value.int .i64)), boxE b20 #[(D.getD (((((D.getD k md0).xs).getD i ix0).m).toNat) md0).sv, (D.getD (((((D.getD k md0).xs).getD i ix0).m).toNat) md0).av, (D.getD (((((D.getD k md0).xs).getD i ix0).m).toNat) md0).iv, (D.getD (((((D.getD k md0).xs).getD i ix0).m).toNat) md0).mv] 35, boxE b19 #[.int .i64 ((((D.getD k md0).xs).getD i ix0).m), .int .i64 ((((D.getD k md0).xs).getD i ix0).p), (((D.getD k md0).xs).getD i ix0).pv] 63, bigE [boxE b4 #[.slice (some ⟨g3, 0, none⟩) ((cntZ (D.getD k md0).ss.length ([] : List Int)).length) ((cntZ (D.getD k md0).ss.length ([] : List Int)).length)] 48, rowE 3 1 (.slice (some ⟨g3, 0, none⟩) ((cntZ (D.getD k md0).ss.length ([] : List Int)).length) ((cntZ (D.getD k md0).ss.length ([] : List Int)).length)) (cntZ (D.getD k md0).ss.length ((D.getD k md0).gs.map As.t ++ (D.getD k md0).ms.map Mm.o ++ ((D.getD k md0).xs.take i).flatMap (xoK D) ++ xoA D ((D.getD k md0).xs.getD i ix0) j)).length ((cntZ (D.getD k md0).ss.length ((D.getD k md0).gs.map As.t ++ (D.getD k md0).ms.map Mm.o ++ ((D.getD k md0).xs.take i).flatMap (xoK D) ++ xoA D ((D.getD k md0).xs.getD i ix0) j)).map (Value.int .i64))], boxE b2 #[(D.getD k md0).sv, (D.getD k md0).av, (D.getD k md0).iv, (D.getD k md0).mv] 35, boxE b1 #[v] 26]) (fun j => [(67, .int .i64 (j : Int))]) (fun j => j ≤ (ptsK (D.getD (((((D.getD k md0).xs).getD i ix0).m).toNat) md0)).length) (fun j => (ptsK (D.getD (((((D.getD k md0).xs).getD i ix0).m).toNat) md0)).length - j) 0 (Nat.zero_le _) (saQ rfl) (pfQ rfl) ?_
  intro j hi24
  have hj := hi24
  have hpl := ptsK_le (D.getD (((((D.getD k md0).xs).getD i ix0).m).toNat) md0)
  have hxa := xoA_le D ((D.getD k md0).xs.getD i ix0) j
  refine srQ ?_
  refine zbp rfl rfl rfl rfl rfl rfl (fun h25 => ?_) (fun h25 => ?_)
  ·
   refine ntQ (tcQ rfl (zcy (sbQ (zag (reQ 1 rfl (hvQ rfl (riQ 1 rfl rfl rfl rfl (zai 0 rfl)) (hvQ rfl (zak (u := .int .i64 ((ptsK (D.getD (((((D.getD k md0).xs).getD i ix0).m).toNat) md0)).getD j 0)) rfl rfl rfl (zai 0 rfl) (zca (show _ < (ptsK (D.getD (((((D.getD k md0).xs).getD i ix0).m).toNat) md0)).length by omega))) ?_)))))))
   refine zaz 2 rfl (srQ ?_)
   have hpt := zdy (m := (D.getD (((((D.getD k md0).xs).getD i ix0).m).toNat) md0)) (j := j) (by omega)
   have hkd := zcx hpt
   refine hvQ rfl (fdQ 0 rfl rfl rfl) (hvQ rfl (zac rfl rfl rfl (zaa 1 rfl rfl)) (zah 1 rfl (hvQ rfl (riQ 3 rfl rfl rfl rfl (zae ((hd.at (k := ((((D.getD k md0).xs).getD i ix0).m).toNat) (by omega)).s))) (hvQ rfl (zat (k0 := 0) rfl rfl rfl (zae ((hd.at (k := ((((D.getD k md0).xs).getD i ix0).m).toNat) (by omega)).s)) (by omega)) ?_))))
   refine hvQ rfl (zak (u := .int .i64 ((((D.getD (((((D.getD k md0).xs).getD i ix0).m).toNat) md0).ss).getD (((ptsK (D.getD (((((D.getD k md0).xs).getD i ix0).m).toNat) md0)).getD j 0).toNat) sg0).k)) rfl rfl rfl (zae ((hd.at (k := ((((D.getD k md0).xs).getD i ix0).m).toNat) (by omega)).s)) ((zbg sgC 3 (fun _ => rfl) ((D.getD (((((D.getD k md0).xs).getD i ix0).m).toNat) md0).ss) sg0 (show ((ptsK (D.getD (((((D.getD k md0).xs).getD i ix0).m).toNat) md0)).getD j 0).toNat < _ by omega) (by decide)).trans rfl)) (zbu rfl rfl rfl rfl rfl rfl (fun h26 => ?_) (fun h26 => ?_))
   ·
    refine ntQ (zaj rfl (reQ 1 rfl (hvQ rfl (fdQ 2 rfl rfl rfl) (hvQ rfl (zac rfl rfl rfl (zaa 2 rfl rfl)) (zah 1 rfl (hvQ rfl (riQ 1 rfl rfl rfl rfl (zae ((hd.at (k := k) (by omega)).p.at (k := i) (by omega)))) (hvQ rfl (zak (u := .int .i64 (((((D.getD k md0).xs).getD i ix0).ps).getD j 0)) rfl rfl rfl (zae ((hd.at (k := k) (by omega)).p.at (k := i) (by omega))) (zca (show _ < ((((D.getD k md0).xs).getD i ix0).ps).length by omega))) ?_)))))))
    refine hl_callMF (R := (fun u_ p_ => u_ = .tuple #[] ∧ p_ = bigE [boxE b4 #[.slice (some ⟨g3, 0, none⟩) ((cntZ (D.getD k md0).ss.length ([] : List Int)).length) ((cntZ (D.getD k md0).ss.length ([] : List Int)).length)] 48, rowE 3 1 (.slice (some ⟨g3, 0, none⟩) ((cntZ (D.getD k md0).ss.length ([] : List Int)).length) ((cntZ (D.getD k md0).ss.length ([] : List Int)).length)) (incZ (cntZ (D.getD k md0).ss.length ((D.getD k md0).gs.map As.t ++ (D.getD k md0).ms.map Mm.o ++ ((D.getD k md0).xs.take i).flatMap (xoK D) ++ xoA D ((D.getD k md0).xs.getD i ix0) j)) (((((D.getD k md0).xs).getD i ix0).ps).getD j 0)).length ((incZ (cntZ (D.getD k md0).ss.length ((D.getD k md0).gs.map As.t ++ (D.getD k md0).ms.map Mm.o ++ ((D.getD k md0).xs.take i).flatMap (xoK D) ++ xoA D ((D.getD k md0).xs.getD i ix0) j)) (((((D.getD k md0).xs).getD i ix0).ps).getD j 0)).map (Value.int .i64))])) 3 rfl rfl rfl rfl rfl rfl (fun L w hX hm => zgr b4 (.slice (some ⟨g3, 0, none⟩) ((cntZ (D.getD k md0).ss.length ([] : List Int)).length) ((cntZ (D.getD k md0).ss.length ([] : List Int)).length)) (cntZ (D.getD k md0).ss.length ((D.getD k md0).gs.map As.t ++ (D.getD k md0).ms.map Mm.o ++ ((D.getD k md0).xs.take i).flatMap (xoK D) ++ xoA D ((D.getD k md0).xs.getD i ix0) j)) (((((D.getD k md0).xs).getD i ix0).ps).getD j 0) _ L w hm (by rw [zeo]; omega) (fun q => by have h9 := cntZ_le (n := (D.getD k md0).ss.length) (L := (D.getD k md0).gs.map As.t ++ (D.getD k md0).ms.map Mm.o ++ ((D.getD k md0).xs.take i).flatMap (xoK D) ++ xoA D ((D.getD k md0).xs.getD i ix0) j) (M := 1000) (by simp only [List.length_append, List.length_map, List.length_take]; omega) q; omega)) ?_
    intro v27 p28 hR29
    obtain ⟨rfl, rfl⟩ := hR29
    rw [cntZ_inc]
    refine zcs (l' := [rowE 3 1 v21 ((ptsK (D.getD (((((D.getD k md0).xs).getD i ix0).m).toNat) md0)).length) ((ptsK (D.getD (((((D.getD k md0).xs).getD i ix0).m).toNat) md0)).map (Value.int .i64)), boxE b20 #[(D.getD (((((D.getD k md0).xs).getD i ix0).m).toNat) md0).sv, (D.getD (((((D.getD k md0).xs).getD i ix0).m).toNat) md0).av, (D.getD (((((D.getD k md0).xs).getD i ix0).m).toNat) md0).iv, (D.getD (((((D.getD k md0).xs).getD i ix0).m).toNat) md0).mv] 35, boxE b19 #[.int .i64 ((((D.getD k md0).xs).getD i ix0).m), .int .i64 ((((D.getD k md0).xs).getD i ix0).p), (((D.getD k md0).xs).getD i ix0).pv] 63, bigE [boxE b4 #[.slice (some ⟨g3, 0, none⟩) ((cntZ (D.getD k md0).ss.length ([] : List Int)).length) ((cntZ (D.getD k md0).ss.length ([] : List Int)).length)] 48, rowE 3 1 (.slice (some ⟨g3, 0, none⟩) ((cntZ (D.getD k md0).ss.length ([] : List Int)).length) ((cntZ (D.getD k md0).ss.length ([] : List Int)).length)) (cntZ (D.getD k md0).ss.length ((D.getD k md0).gs.map As.t ++ (D.getD k md0).ms.map Mm.o ++ ((D.getD k md0).xs.take i).flatMap (xoK D) ++ xoA D ((D.getD k md0).xs.getD i ix0) j ++ [((((D.getD k md0).xs).getD i ix0).ps).getD j 0])).length ((cntZ (D.getD k md0).ss.length ((D.getD k md0).gs.map As.t ++ (D.getD k md0).ms.map Mm.o ++ ((D.getD k md0).xs.take i).flatMap (xoK D) ++ xoA D ((D.getD k md0).xs.getD i ix0) j ++ [((((D.getD k md0).xs).getD i ix0).ps).getD j 0])).map (Value.int .i64))], boxE b2 #[(D.getD k md0).sv, (D.getD k md0).av, (D.getD k md0).iv, (D.getD k md0).mv] 35, boxE b1 #[v] 26]) rfl ?_
    refine zbn (zde (zao (hvQ rfl (vaQ rfl rfl rfl) (enQ 1 rfl ?_))))
    refine zdl [rowE 3 1 v21 ((ptsK (D.getD (((((D.getD k md0).xs).getD i ix0).m).toNat) md0)).length) ((ptsK (D.getD (((((D.getD k md0).xs).getD i ix0).m).toNat) md0)).map (Value.int .i64)), boxE b20 #[(D.getD (((((D.getD k md0).xs).getD i ix0).m).toNat) md0).sv, (D.getD (((((D.getD k md0).xs).getD i ix0).m).toNat) md0).av, (D.getD (((((D.getD k md0).xs).getD i ix0).m).toNat) md0).iv, (D.getD (((((D.getD k md0).xs).getD i ix0).m).toNat) md0).mv] 35, boxE b19 #[.int .i64 ((((D.getD k md0).xs).getD i ix0).m), .int .i64 ((((D.getD k md0).xs).getD i ix0).p), (((D.getD k md0).xs).getD i ix0).pv] 63, bigE [boxE b4 #[.slice (some ⟨g3, 0, none⟩) ((cntZ (D.getD k md0).ss.length ([] : List Int)).length) ((cntZ (D.getD k md0).ss.length ([] : List Int)).length)] 48, rowE 3 1 (.slice (some ⟨g3, 0, none⟩) ((cntZ (D.getD k md0).ss.length ([] : List Int)).length) ((cntZ (D.getD k md0).ss.length ([] : List Int)).length)) (cntZ (D.getD k md0).ss.length ((D.getD k md0).gs.map As.t ++ (D.getD k md0).ms.map Mm.o ++ ((D.getD k md0).xs.take i).flatMap (xoK D) ++ xoA D ((D.getD k md0).xs.getD i ix0) (j + 1))).length ((cntZ (D.getD k md0).ss.length ((D.getD k md0).gs.map As.t ++ (D.getD k md0).ms.map Mm.o ++ ((D.getD k md0).xs.take i).flatMap (xoK D) ++ xoA D ((D.getD k md0).xs.getD i ix0) (j + 1))).map (Value.int .i64))], boxE b2 #[(D.getD k md0).sv, (D.getD k md0).av, (D.getD k md0).iv, (D.getD k md0).mv] 35, boxE b1 #[v] 26] (fun w hm => by rw [show (D.getD k md0).gs.map As.t ++ (D.getD k md0).ms.map Mm.o ++ ((D.getD k md0).xs.take i).flatMap (xoK D) ++ xoA D ((D.getD k md0).xs.getD i ix0) (j + 1) = (D.getD k md0).gs.map As.t ++ (D.getD k md0).ms.map Mm.o ++ ((D.getD k md0).xs.take i).flatMap (xoK D) ++ xoA D ((D.getD k md0).xs.getD i ix0) j ++ [((((D.getD k md0).xs).getD i ix0).ps).getD j 0] by rw [xoA_yes (by omega), ← List.append_assoc]]; exact hm) ?_
    exact zbt (j + 1) (by omega) (by omega) (saQ rfl) (pfQ rfl)
   refine ntQ (fsQ rfl (zde (zao (hvQ rfl (vaQ rfl rfl rfl) (enQ 1 rfl ?_)))))
   refine zdl [rowE 3 1 v21 ((ptsK (D.getD (((((D.getD k md0).xs).getD i ix0).m).toNat) md0)).length) ((ptsK (D.getD (((((D.getD k md0).xs).getD i ix0).m).toNat) md0)).map (Value.int .i64)), boxE b20 #[(D.getD (((((D.getD k md0).xs).getD i ix0).m).toNat) md0).sv, (D.getD (((((D.getD k md0).xs).getD i ix0).m).toNat) md0).av, (D.getD (((((D.getD k md0).xs).getD i ix0).m).toNat) md0).iv, (D.getD (((((D.getD k md0).xs).getD i ix0).m).toNat) md0).mv] 35, boxE b19 #[.int .i64 ((((D.getD k md0).xs).getD i ix0).m), .int .i64 ((((D.getD k md0).xs).getD i ix0).p), (((D.getD k md0).xs).getD i ix0).pv] 63, bigE [boxE b4 #[.slice (some ⟨g3, 0, none⟩) ((cntZ (D.getD k md0).ss.length ([] : List Int)).length) ((cntZ (D.getD k md0).ss.length ([] : List Int)).length)] 48, rowE 3 1 (.slice (some ⟨g3, 0, none⟩) ((cntZ (D.getD k md0).ss.length ([] : List Int)).length) ((cntZ (D.getD k md0).ss.length ([] : List Int)).length)) (cntZ (D.getD k md0).ss.length ((D.getD k md0).gs.map As.t ++ (D.getD k md0).ms.map Mm.o ++ ((D.getD k md0).xs.take i).flatMap (xoK D) ++ xoA D ((D.getD k md0).xs.getD i ix0) (j + 1))).length ((cntZ (D.getD k md0).ss.length ((D.getD k md0).gs.map As.t ++ (D.getD k md0).ms.map Mm.o ++ ((D.getD k md0).xs.take i).flatMap (xoK D) ++ xoA D ((D.getD k md0).xs.getD i ix0) (j + 1))).map (Value.int .i64))], boxE b2 #[(D.getD k md0).sv, (D.getD k md0).av, (D.getD k md0).iv, (D.getD k md0).mv] 35, boxE b1 #[v] 26] (fun w hm => by rw [show (D.getD k md0).gs.map As.t ++ (D.getD k md0).ms.map Mm.o ++ ((D.getD k md0).xs.take i).flatMap (xoK D) ++ xoA D ((D.getD k md0).xs.getD i ix0) (j + 1) = (D.getD k md0).gs.map As.t ++ (D.getD k md0).ms.map Mm.o ++ ((D.getD k md0).xs.take i).flatMap (xoK D) ++ xoA D ((D.getD k md0).xs.getD i ix0) j by rw [xoA_no (by omega)]]; exact hm) ?_
   exact zbt (j + 1) (by omega) (by omega) (saQ rfl) (pfQ rfl)
  refine ntQ (fcQ rfl ?_)
  refine zbi (zdv ?_)
  refine zal (zde (zao (hvQ rfl (vaQ rfl rfl rfl) (enQ 1 rfl ?_))))
  refine zdl [rowE 3 1 v21 ((ptsK (D.getD (((((D.getD k md0).xs).getD i ix0).m).toNat) md0)).length) ((ptsK (D.getD (((((D.getD k md0).xs).getD i ix0).m).toNat) md0)).map (Value.int .i64)), boxE b20 #[(D.getD (((((D.getD k md0).xs).getD i ix0).m).toNat) md0).sv, (D.getD (((((D.getD k md0).xs).getD i ix0).m).toNat) md0).av, (D.getD (((((D.getD k md0).xs).getD i ix0).m).toNat) md0).iv, (D.getD (((((D.getD k md0).xs).getD i ix0).m).toNat) md0).mv] 35, boxE b19 #[.int .i64 ((((D.getD k md0).xs).getD i ix0).m), .int .i64 ((((D.getD k md0).xs).getD i ix0).p), (((D.getD k md0).xs).getD i ix0).pv] 63, bigE [boxE b4 #[.slice (some ⟨g3, 0, none⟩) ((cntZ (D.getD k md0).ss.length ([] : List Int)).length) ((cntZ (D.getD k md0).ss.length ([] : List Int)).length)] 48, rowE 3 1 (.slice (some ⟨g3, 0, none⟩) ((cntZ (D.getD k md0).ss.length ([] : List Int)).length) ((cntZ (D.getD k md0).ss.length ([] : List Int)).length)) (cntZ (D.getD k md0).ss.length ((D.getD k md0).gs.map As.t ++ (D.getD k md0).ms.map Mm.o ++ ((D.getD k md0).xs.take (i + 1)).flatMap (xoK D))).length ((cntZ (D.getD k md0).ss.length ((D.getD k md0).gs.map As.t ++ (D.getD k md0).ms.map Mm.o ++ ((D.getD k md0).xs.take (i + 1)).flatMap (xoK D))).map (Value.int .i64))], boxE b2 #[(D.getD k md0).sv, (D.getD k md0).av, (D.getD k md0).iv, (D.getD k md0).mv] 35, boxE b1 #[v] 26] (fun w hm => by rw [show (D.getD k md0).gs.map As.t ++ (D.getD k md0).ms.map Mm.o ++ ((D.getD k md0).xs.take (i + 1)).flatMap (xoK D) = (D.getD k md0).gs.map As.t ++ (D.getD k md0).ms.map Mm.o ++ ((D.getD k md0).xs.take i).flatMap (xoK D) ++ xoA D ((D.getD k md0).xs.getD i ix0) j by rw [take_flatX (xoK D) ix0 (by omega), ← List.append_assoc, show j = (ptsK (D.getD (((((D.getD k md0).xs).getD i ix0).m).toNat) md0)).length by omega]; rfl]; exact hm) ?_
  exact zbt (i + 1) (by omega) (by omega) (saQ rfl) (slQ [3, 0, 0] rfl)
 refine ntQ (fcQ rfl ?_)
 refine zbi (zdv ?_)
 refine zal (zar (srQ ?_))
 refine hl_pick 3 [2, 1, 0] rfl rfl (by decide) ?_
 refine zfv [boxE b4 #[.slice (some ⟨g3, 0, none⟩) ((cntZ (D.getD k md0).ss.length ([] : List Int)).length) ((cntZ (D.getD k md0).ss.length ([] : List Int)).length)] 48, rowE 3 1 (.slice (some ⟨g3, 0, none⟩) ((cntZ (D.getD k md0).ss.length ([] : List Int)).length) ((cntZ (D.getD k md0).ss.length ([] : List Int)).length)) ((cntZ (D.getD k md0).ss.length ((D.getD k md0).gs.map As.t ++ (D.getD k md0).ms.map Mm.o ++ ((D.getD k md0).xs.take i).flatMap (xoK D))).length) ((cntZ (D.getD k md0).ss.length ((D.getD k md0).gs.map As.t ++ (D.getD k md0).ms.map Mm.o ++ ((D.getD k md0).xs.take i).flatMap (xoK D))).map (Value.int .i64)), boxE b2 #[(D.getD k md0).sv, (D.getD k md0).av, (D.getD k md0).iv, (D.getD k md0).mv] 35, boxE b1 #[v] 26] zdh ?_
 refine hvQ rfl (zac rfl rfl rfl (zaa 0 rfl rfl)) (zaz 1 rfl ?_)
 exact zap (zew (post := [rowE 3 1 (.slice (some ⟨g3, 0, none⟩) ((cntZ (D.getD k md0).ss.length ([] : List Int)).length) ((cntZ (D.getD k md0).ss.length ([] : List Int)).length)) ((cntZ (D.getD k md0).ss.length ((D.getD k md0).gs.map As.t ++ (D.getD k md0).ms.map Mm.o ++ ((D.getD k md0).xs.take i).flatMap (xoK D))).length) ((cntZ (D.getD k md0).ss.length ((D.getD k md0).gs.map As.t ++ (D.getD k md0).ms.map Mm.o ++ ((D.getD k md0).xs.take i).flatMap (xoK D))).map (Value.int .i64))]) rfl rfl (slQ [1] rfl) (by rw [show i = (D.getD k md0).xs.length by omega, List.take_length]; rfl))
theorem isDriven_ans (k : Int) (w : World)  :
   Calls Try.prog 54 #[.int .i64 k] w (Ans w (.bool (decide (1 ≤ k ∧ k ≤ 3)))) := by
 refine zbw (N := 13) (args := [.int .i64 k]) Try.func54 rfl rfl (zbh 1 rfl (zag (reQ 1 rfl ?_)))
 refine zbu rfl rfl rfl rfl rfl rfl (fun h1 => ?_) (fun h1 => ?_)
 ·
  refine zaz 9 rfl ?_
  exact zap (zay rfl rfl (congrArg _ (decide_eq_true (by omega)).symm))
 refine zah 2 rfl (zbu rfl rfl rfl rfl rfl rfl (fun h2 => ?_) (fun h2 => ?_))
 ·
  refine zaz 6 rfl ?_
  exact zap (zay rfl rfl (congrArg _ (decide_eq_true (by omega)).symm))
 refine zah 3 rfl (zbu rfl rfl rfl rfl rfl rfl (fun h3 => ?_) (fun h3 => ?_))
 ·
  refine zaz 2 rfl ?_
  exact zap (zay rfl rfl (congrArg _ (decide_eq_true (by omega)).symm))
 refine zaz 2 rfl ?_
 exact zap (zay rfl rfl (congrArg _ (decide_eq_false (by omega)).symm))
theorem signalOk_ans (x : Sg) (w : World)  :
   Calls Try.prog 53 #[.agg #[.int .i64 x.k, .int .i64 x.w, .int .i64 x.i]] w (Ans w (.bool (pB (SgP x)))) := by
 refine zbw (N := 26) (args := [.agg #[.int .i64 x.k, .int .i64 x.w, .int .i64 x.i]]) Try.func53 rfl rfl (srQ ?_)
 refine zdk rfl (zda rfl rfl) ?_
 intro b1
 refine zaz 1 rfl (zfh (hvQ rfl (fdQ 0 rfl rfl rfl) (hvQ rfl (zac rfl rfl rfl (zaa 0 rfl rfl)) ?_)))
 refine zej rfl (zaw rfl rfl (fun w hm => zbe (zee (zcj _ _ _ w)))) (zbq (fun h2 => ?_) (fun h2 => ?_))
 ·
  obtain ⟨h2a, h2b⟩ := (zdd _ _ _).1 h2
  refine zah 2 rfl (hvQ rfl (fdQ 1 rfl rfl rfl) (hvQ rfl (zac rfl rfl rfl (zaa 0 rfl rfl)) ?_))
  refine zej rfl (zaw rfl rfl (fun w hm => zbe (zee (zcj _ _ _ w)))) (zbq (fun h3 => ?_) (fun h3 => ?_))
  ·
   obtain ⟨h3a, h3b⟩ := (zdd _ _ _).1 h3
   refine zaz 2 rfl (zas rfl (zcy (srQ (hvQ rfl (fdQ 2 rfl rfl rfl) (hvQ rfl (zac rfl rfl rfl (zaa 0 rfl rfl)) ?_)))))
   refine zbu rfl rfl rfl rfl rfl rfl (fun h4 => ?_) (fun h4 => ?_)
   ·
    refine zaz 11 rfl ?_
    exact zap (zay rfl rfl (congrArg _ (zdf ⟨⟨by omega, by omega⟩, ⟨by omega, by omega⟩, ⟨by omega, by omega⟩, by omega⟩).symm))
   refine zah 1 rfl (hvQ rfl (fdQ 0 rfl rfl rfl) (hvQ rfl (zac rfl rfl rfl (zaa 0 rfl rfl)) ?_))
   refine zbu rfl rfl rfl rfl rfl rfl (fun h5 => ?_) (fun h5 => ?_)
   ·
    refine zah 1 rfl (hvQ rfl (fdQ 2 rfl rfl rfl) (hvQ rfl (zac rfl rfl rfl (zaa 0 rfl rfl)) ?_))
    refine zej rfl (zaw rfl rfl (fun w hm => zbe (zee (zcj _ _ _ w)))) (zbq (fun h6 => ?_) (fun h6 => ?_))
    ·
     obtain ⟨h6a, h6b⟩ := (zdd _ _ _).1 h6
     refine zaz 3 rfl ?_
     exact zap (zay rfl rfl (congrArg _ (zdf ⟨⟨by omega, by omega⟩, ⟨by omega, by omega⟩, ⟨by omega, by omega⟩, by omega⟩).symm))
    have h6a := zcz h6
    refine zaz 3 rfl ?_
    exact zap (zay rfl rfl (congrArg _ (zcb (fun hp => by first | (obtain ⟨⟨h1, h2⟩, ⟨h3, h4⟩, ⟨h5, h6⟩, h7⟩ := hp; omega))).symm))
   refine zaz 7 rfl ?_
   exact zap (zay rfl rfl (congrArg _ (zcb (fun hp => by first | (obtain ⟨⟨h1, h2⟩, ⟨h3, h4⟩, ⟨h5, h6⟩, h7⟩ := hp; omega))).symm))
  have h3a := zcz h3
  refine zaz 2 rfl (zaj rfl (zbh 1 rfl ?_))
  refine zap (zaf ?_)
  exact zay rfl rfl (congrArg _ (zcb (fun hp => by first | (obtain ⟨⟨h1, h2⟩, ⟨h3, h4⟩, ⟨h5, h6⟩, h7⟩ := hp; omega))).symm)
 have h2a := zcz h2
 refine zaz 7 rfl (zaj rfl (srQ (enQ 1 rfl ?_)))
 refine zar (zap ?_)
 exact zaf (zay rfl rfl (congrArg _ (zcb (fun hp => by first | (obtain ⟨⟨h1, h2⟩, ⟨h3, h4⟩, ⟨h5, h6⟩, h7⟩ := hp; omega))).symm))
theorem drives_ans (m : Md) (s : Int) (w : World) (hr : RdsMd w m) :
   Calls Try.prog 57 #[.agg #[m.sv, m.av, m.iv, m.mv], .int .i64 s] w (Ans w (.bool (pB (Drv m s)))) := by
 have hs9 := sml hr.s
 refine zbw (N := 29) (args := [.agg #[m.sv, m.av, m.iv, m.mv], .int .i64 s]) Try.func57 rfl rfl (srQ ?_)
 refine zdk rfl (zda rfl rfl) ?_
 intro b1
 refine zaz 1 rfl (zag (reQ 1 rfl (hvQ rfl (fdQ 0 rfl rfl rfl) (hvQ rfl (zac rfl rfl rfl (zaa 0 rfl rfl)) (hvQ rfl (lnQ rfl rfl rfl (zae ((hr).s))) (hvQ rfl (vsQ rfl rfl rfl) ?_))))))
 refine zej rfl (zaw rfl rfl (fun w hm => zbe (zee (zcj _ _ _ w)))) (zbq (fun h2 => ?_) (fun h2 => ?_))
 ·
  obtain ⟨h2a, h2b⟩ := (zdd _ _ _).1 h2
  refine zah 1 rfl (hvQ rfl (fdQ 0 rfl rfl rfl) (hvQ rfl (zac rfl rfl rfl (zaa 0 rfl rfl)) (zah 1 rfl (hvQ rfl (riQ 3 rfl rfl rfl rfl (zae ((hr).s))) (hvQ rfl (zat (k0 := 0) rfl rfl rfl (zae ((hr).s)) (by omega)) ?_)))))
  refine hvQ rfl (zak (u := .int .i64 ((m.ss.getD ((s).toNat) sg0).k)) rfl rfl rfl (zae ((hr).s)) ((zbg sgC 3 (fun _ => rfl) m.ss sg0 (show (s).toNat < _ by omega) (by decide)).trans rfl)) (zbu rfl rfl rfl rfl rfl rfl (fun h3 => ?_) (fun h3 => ?_))
  ·
   refine zaz 11 rfl ?_
   exact zap (zay rfl rfl (congrArg _ (zdf (by have h9 := zcx (m := m) (s := s) ⟨by omega, by omega⟩; first | exact .inl (by omega) | exact .inr (by omega))).symm))
  refine zah 1 rfl (hvQ rfl (fdQ 0 rfl rfl rfl) (hvQ rfl (zac rfl rfl rfl (zaa 0 rfl rfl)) (zah 1 rfl (hvQ rfl (riQ 3 rfl rfl rfl rfl (zae ((hr).s))) (hvQ rfl (zat (k0 := 0) rfl rfl rfl (zae ((hr).s)) (by omega)) ?_)))))
  refine hvQ rfl (zak (u := .int .i64 ((m.ss.getD ((s).toNat) sg0).k)) rfl rfl rfl (zae ((hr).s)) ((zbg sgC 3 (fun _ => rfl) m.ss sg0 (show (s).toNat < _ by omega) (by decide)).trans rfl)) (zbu rfl rfl rfl rfl rfl rfl (fun h4 => ?_) (fun h4 => ?_))
  ·
   refine zaz 3 rfl ?_
   exact zap (zay rfl rfl (congrArg _ (zdf (by have h9 := zcx (m := m) (s := s) ⟨by omega, by omega⟩; first | exact .inl (by omega) | exact .inr (by omega))).symm))
  refine zaz 3 rfl ?_
  exact zap (zay rfl rfl (congrArg _ (zcb (fun hp => by first | (have h8 := hp.inn; have h9 := zcx h8; obtain ⟨h6, h7⟩ := h8; rcases hp with hp | hp <;> omega))).symm))
 have h2a := zcz h2
 refine zaz 19 rfl ?_
 exact zap (zay rfl rfl (congrArg _ (zcb (fun hp => by first | (have h8 := hp.inn; have h9 := zcx h8; obtain ⟨h6, h7⟩ := h8; rcases hp with hp | hp <;> omega))).symm))
theorem instOk_ans (D : List Md) (m : Md) (x : Ix) (v : Value) (w : World) (hd : RdsDs w v D) (hr : RdsMd w m) (hxp : RdsW w x.pv 1 x.ps.length (x.ps.map (Value.int .i64))) (hx0 : 0 ≤ x.m ∧ x.m < D.length) (hxl : x.ps.length = (ptsK (D.getD x.m.toNat md0)).length) :
   Calls Try.prog 56 #[.agg #[v], .agg #[m.sv, m.av, m.iv, m.mv], .agg #[.int .i64 x.m, .int .i64 x.p, x.pv]] w (Ans w (.bool (pB (IxP D m x)))) := by
 have hd9 := sml hd.row
 have hs9 := sml hr.s
 refine zbw (N := 59) (args := [.agg #[v], .agg #[m.sv, m.av, m.iv, m.mv], .agg #[.int .i64 x.m, .int .i64 x.p, x.pv]]) Try.func56 rfl rfl (srQ ?_)
 refine zdk rfl (zda rfl rfl) ?_
 intro b1
 refine zdk rfl (zda rfl rfl) ?_
 intro b2
 refine zdk rfl (zda rfl rfl) ?_
 intro b3
 refine zaz 1 rfl (zfh (hvQ rfl (fdQ 1 rfl rfl rfl) (hvQ rfl (zac rfl rfl rfl (zaa 0 rfl rfl)) ?_)))
 refine zej rfl (zaw rfl rfl (fun w hm => zbe (zee (zcj _ _ _ w)))) (zbq (fun h4 => ?_) (fun h4 => ?_))
 ·
  obtain ⟨h4a, h4b⟩ := (zdd _ _ _).1 h4
  refine zaz 1 rfl (zas rfl (zcy (srQ (hvQ rfl (fdQ 0 rfl rfl rfl) (hvQ rfl (zac rfl rfl rfl (zaa 2 rfl rfl)) (hvQ rfl (fdQ 0 rfl rfl rfl) (hvQ rfl (zac rfl rfl rfl (zaa 0 rfl rfl)) (hvQ rfl (riQ 4 rfl rfl rfl rfl (zae hd.row)) ?_))))))))
  refine hvQ rfl (zbj (us := [(D.getD ((x.m).toNat) md0).sv, (D.getD ((x.m).toNat) md0).av, (D.getD ((x.m).toNat) md0).iv, (D.getD ((x.m).toNat) md0).mv]) rfl rfl rfl rfl (zae hd.row) (by omega) rfl (zby mdC 4 (fun _ => rfl) D md0 (show (x.m).toNat < _ by omega) rfl)) (zdk rfl (zbf (z := .agg #[.slice none 0 0, .slice none 0 0, .slice none 0 0, .slice none 0 0]) rfl rfl) ?_)
  intro b5
  refine zbd (cs' := #[(D.getD ((x.m).toNat) md0).sv, (D.getD ((x.m).toNat) md0).av, (D.getD ((x.m).toNat) md0).iv, (D.getD ((x.m).toNat) md0).mv]) (i := 0) (off := 0) (us := [(D.getD ((x.m).toNat) md0).sv, (D.getD ((x.m).toNat) md0).av, (D.getD ((x.m).toNat) md0).iv, (D.getD ((x.m).toNat) md0).mv]) rfl rfl rfl rfl rfl rfl rfl (zab (hd.at (k := x.m.toNat) (by omega)).s.one (zab (hd.at (k := x.m.toNat) (by omega)).g.one (zab (hd.at (k := x.m.toNat) (by omega)).x.one (zab (hd.at (k := x.m.toNat) (by omega)).m.one zbb)))) rfl rfl rfl (ntQ (zfh (hvQ rfl (zau (cs := [(D.getD ((x.m).toNat) md0).sv, (D.getD ((x.m).toNat) md0).av, (D.getD ((x.m).toNat) md0).iv, (D.getD ((x.m).toNat) md0).mv]) rfl rfl rfl rfl rfl (zaq 0 rfl 0 rfl)) ?_)))
  refine zfq rfl rfl rfl (zaw rfl rfl (fun w hm => zfd (D.getD ((x.m).toNat) md0) w ((hd.at (by omega)).below hm.bel))) ?_
  intro v6 p7 hR8
  subst hR8
  refine hvQ rfl (lnQ rfl rfl rfl (zai 0 rfl)) (zaz 1 rfl (zba ?_))
  refine lkQ1 (α := Nat) [0, 1, 2, 3, 4, 5, 6, 7, 13, 21, 22] rfl (fun j => [rowE 3 1 v6 ((ptsK (D.getD x.m.toNat md0)).length) ((ptsK (D.getD x.m.toNat md0)).map (Value.int .i64)), boxE b5 #[(D.getD ((x.m).toNat) md0).sv, (D.getD ((x.m).toNat) md0).av, (D.getD ((x.m).toNat) md0).iv, (D.getD ((x.m).toNat) md0).mv] 35, boxE b3 #[.int .i64 x.m, .int .i64 x.p, x.pv] 63, boxE b2 #[m.sv, m.av, m.iv, m.mv] 35, boxE b1 #[v] 26]) (fun j => [(23, .int .i64 (j : Int))]) (fun j => j ≤ (ptsK (D.getD x.m.toNat md0)).length ∧ ∀ r, r < j → Inn m (x.ps.getD r 0) ∧ (knd (D.getD x.m.toNat md0) ((ptsK (D.getD x.m.toNat md0)).getD r 0) = 1 → Drv m (x.ps.getD r 0))) (fun j => (ptsK (D.getD x.m.toNat md0)).length - j) 0 ⟨Nat.zero_le _, fun q hq => absurd hq (by omega)⟩ (saQ rfl) (pfQ rfl) ?_
  intro j hi9
  obtain ⟨hj, hj9⟩ := hi9
  have hpl := ptsK_le (D.getD x.m.toNat md0)
  refine srQ ?_
  refine zbp rfl rfl rfl rfl rfl rfl (fun h10 => ?_) (fun h10 => ?_)
  ·
   refine ntQ (tcQ rfl (zcy (sbQ (zag (reQ 1 rfl (hvQ rfl (riQ 1 rfl rfl rfl rfl (zai 0 rfl)) (hvQ rfl (zak (u := .int .i64 ((ptsK (D.getD x.m.toNat md0)).getD j 0)) rfl rfl rfl (zai 0 rfl) (zca (show _ < (ptsK (D.getD x.m.toNat md0)).length by omega))) ?_)))))))
   refine zaz 2 rfl (zag ?_)
   have hpt := zdy (m := (D.getD x.m.toNat md0)) (j := j) (by omega)
   have hkd := zcx hpt
   rcases Bool.eq_false_or_eq_true (inR (x.ps.getD j 0) 0 ((m.ss.length : Int) - 1)) with hb11 | hb11
   ·
    obtain ⟨hb11a, hb11b⟩ := (zdd _ _ _).1 hb11
    have hpt := zdy (m := (D.getD x.m.toNat md0)) (j := j) (by omega)
    have hkd := zcx hpt
    rcases Bool.eq_false_or_eq_true (((((D.getD ((x.m).toNat) md0).ss).getD (((ptsK (D.getD x.m.toNat md0)).getD j 0).toNat) sg0).k) == 1) with hb12 | hb12
    ·
     have hb12p : (((D.getD ((x.m).toNat) md0).ss).getD (((ptsK (D.getD x.m.toNat md0)).getD j 0).toNat) sg0).k = 1 := beq_iff_eq.1 hb12
     have hpt := zdy (m := (D.getD x.m.toNat md0)) (j := j) (by omega)
     have hkd := zcx hpt
     rcases Bool.eq_false_or_eq_true (pB (Drv m (x.ps.getD j 0))) with hb13 | hb13
     ·
      have hb13p := zfc hb13
      have hpt := zdy (m := (D.getD x.m.toNat md0)) (j := j) (by omega)
      have hkd := zcx hpt
      refine zbv 30 [[], [0], [], [1, 2], [3], [], [5], [6], [7], [4, 8], [9], [10], [11], [11, 12], [11], [11, 13, 14], [11, 15], [11, 16], [11, 17], [11, 18], [19], [19], [19, 21], [19], [19, 22, 23], [19, 24], [19, 20, 25], [19, 26], [11, 19, 27], [11, 28]] [28, 29, 30, 31, 32, 33, 34, 35, 36, 37, 38, 39, 40, 41, 42, 43, 44, 45, 46, 47, 48, 49, 50, 51, 52, 53, 54, 55, 56, 57] [.pointer (some ⟨b3, 0 + 2, none⟩), x.pv, .int .i64 (j : Int), elP x.pv (((j : Int)).toNat * 1), .int .i64 (x.ps.getD j 0), .pointer (some ⟨b2, 0 + 0, none⟩), m.sv, .int .i64 (m.ss.length : Int), .int .i64 ((m.ss.length : Int) - 1), .bool true, .bool false, .bool false, .pointer (some ⟨b5, 0 + 0, none⟩), (D.getD ((x.m).toNat) md0).sv, .int .i64 ((ptsK (D.getD x.m.toNat md0)).getD j 0), elP ((D.getD ((x.m).toNat) md0).sv) (((ptsK (D.getD x.m.toNat md0)).getD j 0).toNat * 3), elP ((D.getD ((x.m).toNat) md0).sv) (((ptsK (D.getD x.m.toNat md0)).getD j 0).toNat * 3 + 0), .int .i64 ((((D.getD ((x.m).toNat) md0).ss).getD (((ptsK (D.getD x.m.toNat md0)).getD j 0).toNat) sg0).k), .bool true, .bool true, .agg #[m.sv, m.av, m.iv, m.mv], .pointer (some ⟨b3, 0 + 2, none⟩), x.pv, .int .i64 (j : Int), elP x.pv (((j : Int)).toNat * 1), .int .i64 (x.ps.getD j 0), .bool true, .bool false, .bool false, .bool false] (by kernel_rfl) rfl ?_ ?_
      ·
       exact ⟨iaQ rfl (fdQ 2 rfl rfl rfl) rfl, iaQ rfl (zac rfl rfl rfl (zaa 2 rfl rfl)) rfl, iaQ rfl (zax rfl) rfl, iaQ rfl (riQ 1 rfl rfl rfl rfl (zae hxp)) rfl, iaQ rfl (liQ rfl rfl rfl (zae hxp)) rfl, iaQ rfl (fdQ 0 rfl rfl rfl) rfl, iaQ rfl (zac rfl rfl rfl (zaa 3 rfl rfl)) rfl, iaQ rfl (lnQ rfl rfl rfl (zae ((hr).s))) rfl, iaQ rfl (vsQ rfl rfl rfl) rfl, .inl ⟨rfl, rq_cb (zaw rfl rfl (fun w hm => zbe (zee (zcj _ _ _ w)))) hb11⟩, iaQ rfl (zax rfl) rfl, iaQ rfl (zax rfl) rfl, iaQ rfl (fdQ 0 rfl rfl rfl) rfl, iaQ rfl (zac rfl rfl rfl (zaa 1 rfl rfl)) rfl, iaQ rfl (zax rfl) rfl, iaQ rfl (riQ 3 rfl rfl rfl rfl (zae ((hd.at (k := x.m.toNat) (by omega)).s))) rfl, iaQ rfl (zat (k0 := 0) rfl rfl rfl (zae ((hd.at (k := x.m.toNat) (by omega)).s)) (by omega)) rfl, iaQ rfl (zak (u := .int .i64 ((((D.getD ((x.m).toNat) md0).ss).getD (((ptsK (D.getD x.m.toNat md0)).getD j 0).toNat) sg0).k)) rfl rfl rfl (zae ((hd.at (k := x.m.toNat) (by omega)).s)) ((zbg sgC 3 (fun _ => rfl) ((D.getD ((x.m).toNat) md0).ss) sg0 (show ((ptsK (D.getD x.m.toNat md0)).getD j 0).toNat < _ by omega) (by decide)).trans rfl)) rfl, .inl ⟨rfl, zdp (zck rfl rfl rfl rfl) hb12⟩, iaQ rfl (zax rfl) rfl, iaQ rfl (zau (cs := [m.sv, m.av, m.iv, m.mv]) rfl rfl rfl rfl rfl (zaq 3 rfl 0 rfl)) rfl, iaQ rfl (fdQ 2 rfl rfl rfl) rfl, iaQ rfl (zac rfl rfl rfl (zaa 2 rfl rfl)) rfl, iaQ rfl (zax rfl) rfl, iaQ rfl (riQ 1 rfl rfl rfl rfl (zae hxp)) rfl, iaQ rfl (liQ rfl rfl rfl (zae hxp)) rfl, .inl ⟨rfl, rq_cb (zaw rfl rfl (fun w hm => zbe (drives_ans m (x.ps.getD j 0) w (hr.below hm.bel)))) hb13⟩, iaQ rfl (zax rfl) rfl, iaQ rfl (zax rfl) rfl, iaQ rfl (zax rfl) rfl, trivial⟩
      simp only [List.drop_succ_cons, List.drop_zero]
      refine ntQ (fsQ rfl (zde (zao (hvQ rfl (vaQ rfl rfl rfl) (enQ 1 rfl ?_)))))
      exact zbt (j + 1) ⟨by omega, fun r hr9 => by by_cases e : r = j; (subst e; exact ⟨⟨by omega, by omega⟩, fun _ => by first | assumption | (exfalso; omega)⟩); exact hj9 r (by omega)⟩ (by omega) (saQ rfl) (pfQ rfl)
     have hb13p := zea hb13
     have hpt := zdy (m := (D.getD x.m.toNat md0)) (j := j) (by omega)
     have hkd := zcx hpt
     refine zbv 30 [[], [0], [], [1, 2], [3], [], [5], [6], [7], [4, 8], [9], [10], [11], [11, 12], [11], [11, 13, 14], [11, 15], [11, 16], [11, 17], [11, 18], [19], [19], [19, 21], [19], [19, 22, 23], [19, 24], [19, 20, 25], [19, 26], [11, 19, 27], [11, 28]] [28, 29, 30, 31, 32, 33, 34, 35, 36, 37, 38, 39, 40, 41, 42, 43, 44, 45, 46, 47, 48, 49, 50, 51, 52, 53, 54, 55, 56, 57] [.pointer (some ⟨b3, 0 + 2, none⟩), x.pv, .int .i64 (j : Int), elP x.pv (((j : Int)).toNat * 1), .int .i64 (x.ps.getD j 0), .pointer (some ⟨b2, 0 + 0, none⟩), m.sv, .int .i64 (m.ss.length : Int), .int .i64 ((m.ss.length : Int) - 1), .bool true, .bool false, .bool false, .pointer (some ⟨b5, 0 + 0, none⟩), (D.getD ((x.m).toNat) md0).sv, .int .i64 ((ptsK (D.getD x.m.toNat md0)).getD j 0), elP ((D.getD ((x.m).toNat) md0).sv) (((ptsK (D.getD x.m.toNat md0)).getD j 0).toNat * 3), elP ((D.getD ((x.m).toNat) md0).sv) (((ptsK (D.getD x.m.toNat md0)).getD j 0).toNat * 3 + 0), .int .i64 ((((D.getD ((x.m).toNat) md0).ss).getD (((ptsK (D.getD x.m.toNat md0)).getD j 0).toNat) sg0).k), .bool true, .bool true, .agg #[m.sv, m.av, m.iv, m.mv], .pointer (some ⟨b3, 0 + 2, none⟩), x.pv, .int .i64 (j : Int), elP x.pv (((j : Int)).toNat * 1), .int .i64 (x.ps.getD j 0), .bool false, .bool true, .bool true, .bool true] (by kernel_rfl) rfl ?_ ?_
     ·
      exact ⟨iaQ rfl (fdQ 2 rfl rfl rfl) rfl, iaQ rfl (zac rfl rfl rfl (zaa 2 rfl rfl)) rfl, iaQ rfl (zax rfl) rfl, iaQ rfl (riQ 1 rfl rfl rfl rfl (zae hxp)) rfl, iaQ rfl (liQ rfl rfl rfl (zae hxp)) rfl, iaQ rfl (fdQ 0 rfl rfl rfl) rfl, iaQ rfl (zac rfl rfl rfl (zaa 3 rfl rfl)) rfl, iaQ rfl (lnQ rfl rfl rfl (zae ((hr).s))) rfl, iaQ rfl (vsQ rfl rfl rfl) rfl, .inl ⟨rfl, rq_cb (zaw rfl rfl (fun w hm => zbe (zee (zcj _ _ _ w)))) hb11⟩, iaQ rfl (zax rfl) rfl, iaQ rfl (zax rfl) rfl, iaQ rfl (fdQ 0 rfl rfl rfl) rfl, iaQ rfl (zac rfl rfl rfl (zaa 1 rfl rfl)) rfl, iaQ rfl (zax rfl) rfl, iaQ rfl (riQ 3 rfl rfl rfl rfl (zae ((hd.at (k := x.m.toNat) (by omega)).s))) rfl, iaQ rfl (zat (k0 := 0) rfl rfl rfl (zae ((hd.at (k := x.m.toNat) (by omega)).s)) (by omega)) rfl, iaQ rfl (zak (u := .int .i64 ((((D.getD ((x.m).toNat) md0).ss).getD (((ptsK (D.getD x.m.toNat md0)).getD j 0).toNat) sg0).k)) rfl rfl rfl (zae ((hd.at (k := x.m.toNat) (by omega)).s)) ((zbg sgC 3 (fun _ => rfl) ((D.getD ((x.m).toNat) md0).ss) sg0 (show ((ptsK (D.getD x.m.toNat md0)).getD j 0).toNat < _ by omega) (by decide)).trans rfl)) rfl, .inl ⟨rfl, zdp (zck rfl rfl rfl rfl) hb12⟩, iaQ rfl (zax rfl) rfl, iaQ rfl (zau (cs := [m.sv, m.av, m.iv, m.mv]) rfl rfl rfl rfl rfl (zaq 3 rfl 0 rfl)) rfl, iaQ rfl (fdQ 2 rfl rfl rfl) rfl, iaQ rfl (zac rfl rfl rfl (zaa 2 rfl rfl)) rfl, iaQ rfl (zax rfl) rfl, iaQ rfl (riQ 1 rfl rfl rfl rfl (zae hxp)) rfl, iaQ rfl (liQ rfl rfl rfl (zae hxp)) rfl, .inl ⟨rfl, rq_cb (zaw rfl rfl (fun w hm => zbe (drives_ans m (x.ps.getD j 0) w (hr.below hm.bel)))) hb13⟩, iaQ rfl (zax rfl) rfl, iaQ rfl (zax rfl) rfl, iaQ rfl (zax rfl) rfl, trivial⟩
     simp only [List.drop_succ_cons, List.drop_zero]
     refine ntQ (zaj rfl (zbh 1 rfl ?_))
     refine zap (zad ?_)
     refine zdw ?_
     refine zad (zaf ?_)
     exact zay rfl rfl (congrArg _ (zcb (fun hp => by first | (have := hp.1; omega) | (obtain ⟨h8, h9⟩ := (hp.2 j (by omega)).1; omega) | (have h9 := (hp.2 j (by omega)).2 (by omega); exact absurd h9 (by assumption)))).symm)
    have hb12p : (((D.getD ((x.m).toNat) md0).ss).getD (((ptsK (D.getD x.m.toNat md0)).getD j 0).toNat) sg0).k ≠ 1 := beq_eq_false_iff_ne.1 hb12
    have hpt := zdy (m := (D.getD x.m.toNat md0)) (j := j) (by omega)
    have hkd := zcx hpt
    refine zbv 30 [[], [0], [], [1, 2], [3], [], [5], [6], [7], [4, 8], [9], [10], [11], [11, 12], [11], [11, 13, 14], [11, 15], [11, 16], [11, 17], [11, 18], [19], [19], [19], [19], [19], [19], [19], [19], [11, 19, 27], [11, 28]] [28, 29, 30, 31, 32, 33, 34, 35, 36, 37, 38, 39, 40, 41, 42, 43, 44, 45, 46, 47, 48, 49, 50, 51, 52, 53, 54, 55, 56, 57] [.pointer (some ⟨b3, 0 + 2, none⟩), x.pv, .int .i64 (j : Int), elP x.pv (((j : Int)).toNat * 1), .int .i64 (x.ps.getD j 0), .pointer (some ⟨b2, 0 + 0, none⟩), m.sv, .int .i64 (m.ss.length : Int), .int .i64 ((m.ss.length : Int) - 1), .bool true, .bool false, .bool false, .pointer (some ⟨b5, 0 + 0, none⟩), (D.getD ((x.m).toNat) md0).sv, .int .i64 ((ptsK (D.getD x.m.toNat md0)).getD j 0), elP ((D.getD ((x.m).toNat) md0).sv) (((ptsK (D.getD x.m.toNat md0)).getD j 0).toNat * 3), elP ((D.getD ((x.m).toNat) md0).sv) (((ptsK (D.getD x.m.toNat md0)).getD j 0).toNat * 3 + 0), .int .i64 ((((D.getD ((x.m).toNat) md0).ss).getD (((ptsK (D.getD x.m.toNat md0)).getD j 0).toNat) sg0).k), .bool false, .bool false, undef, undef, undef, undef, undef, undef, undef, undef, .bool false, .bool false] (by kernel_rfl) rfl ?_ ?_
    ·
     exact ⟨iaQ rfl (fdQ 2 rfl rfl rfl) rfl, iaQ rfl (zac rfl rfl rfl (zaa 2 rfl rfl)) rfl, iaQ rfl (zax rfl) rfl, iaQ rfl (riQ 1 rfl rfl rfl rfl (zae hxp)) rfl, iaQ rfl (liQ rfl rfl rfl (zae hxp)) rfl, iaQ rfl (fdQ 0 rfl rfl rfl) rfl, iaQ rfl (zac rfl rfl rfl (zaa 3 rfl rfl)) rfl, iaQ rfl (lnQ rfl rfl rfl (zae ((hr).s))) rfl, iaQ rfl (vsQ rfl rfl rfl) rfl, .inl ⟨rfl, rq_cb (zaw rfl rfl (fun w hm => zbe (zee (zcj _ _ _ w)))) hb11⟩, iaQ rfl (zax rfl) rfl, iaQ rfl (zax rfl) rfl, iaQ rfl (fdQ 0 rfl rfl rfl) rfl, iaQ rfl (zac rfl rfl rfl (zaa 1 rfl rfl)) rfl, iaQ rfl (zax rfl) rfl, iaQ rfl (riQ 3 rfl rfl rfl rfl (zae ((hd.at (k := x.m.toNat) (by omega)).s))) rfl, iaQ rfl (zat (k0 := 0) rfl rfl rfl (zae ((hd.at (k := x.m.toNat) (by omega)).s)) (by omega)) rfl, iaQ rfl (zak (u := .int .i64 ((((D.getD ((x.m).toNat) md0).ss).getD (((ptsK (D.getD x.m.toNat md0)).getD j 0).toNat) sg0).k)) rfl rfl rfl (zae ((hd.at (k := x.m.toNat) (by omega)).s)) ((zbg sgC 3 (fun _ => rfl) ((D.getD ((x.m).toNat) md0).ss) sg0 (show ((ptsK (D.getD x.m.toNat md0)).getD j 0).toNat < _ by omega) (by decide)).trans rfl)) rfl, .inl ⟨rfl, zdp (zck rfl rfl rfl rfl) hb12⟩, iaQ rfl (zax rfl) rfl, .inr ⟨rfl, rfl⟩, .inr ⟨rfl, rfl⟩, .inr ⟨rfl, rfl⟩, .inr ⟨rfl, rfl⟩, .inr ⟨rfl, rfl⟩, .inr ⟨rfl, rfl⟩, .inr ⟨rfl, rfl⟩, .inr ⟨rfl, rfl⟩, iaQ rfl (zax rfl) rfl, iaQ rfl (zax rfl) rfl, trivial⟩
    simp only [List.drop_succ_cons, List.drop_zero]
    refine ntQ (fsQ rfl (zde (zao (hvQ rfl (vaQ rfl rfl rfl) (enQ 1 rfl ?_)))))
    exact zbt (j + 1) ⟨by omega, fun r hr9 => by by_cases e : r = j; (subst e; exact ⟨⟨by omega, by omega⟩, fun _ => by first | assumption | (exfalso; omega)⟩); exact hj9 r (by omega)⟩ (by omega) (saQ rfl) (pfQ rfl)
   have hb11a := zcz hb11
   have hpt := zdy (m := (D.getD x.m.toNat md0)) (j := j) (by omega)
   have hkd := zcx hpt
   refine zbv 30 [[], [0], [], [1, 2], [3], [], [5], [6], [7], [4, 8], [9], [10], [11], [11], [11], [11], [11], [11], [11], [11], [19], [19], [19], [19], [19], [19], [19], [19], [11], [11, 28]] [28, 29, 30, 31, 32, 33, 34, 35, 36, 37, 38, 39, 40, 41, 42, 43, 44, 45, 46, 47, 48, 49, 50, 51, 52, 53, 54, 55, 56, 57] [.pointer (some ⟨b3, 0 + 2, none⟩), x.pv, .int .i64 (j : Int), elP x.pv (((j : Int)).toNat * 1), .int .i64 (x.ps.getD j 0), .pointer (some ⟨b2, 0 + 0, none⟩), m.sv, .int .i64 (m.ss.length : Int), .int .i64 ((m.ss.length : Int) - 1), .bool false, .bool true, .bool true, undef, undef, undef, undef, undef, undef, undef, undef, undef, undef, undef, undef, undef, undef, undef, undef, undef, .bool true] (by kernel_rfl) rfl ?_ ?_
   ·
    exact ⟨iaQ rfl (fdQ 2 rfl rfl rfl) rfl, iaQ rfl (zac rfl rfl rfl (zaa 2 rfl rfl)) rfl, iaQ rfl (zax rfl) rfl, iaQ rfl (riQ 1 rfl rfl rfl rfl (zae hxp)) rfl, iaQ rfl (liQ rfl rfl rfl (zae hxp)) rfl, iaQ rfl (fdQ 0 rfl rfl rfl) rfl, iaQ rfl (zac rfl rfl rfl (zaa 3 rfl rfl)) rfl, iaQ rfl (lnQ rfl rfl rfl (zae ((hr).s))) rfl, iaQ rfl (vsQ rfl rfl rfl) rfl, .inl ⟨rfl, rq_cb (zaw rfl rfl (fun w hm => zbe (zee (zcj _ _ _ w)))) hb11⟩, iaQ rfl (zax rfl) rfl, iaQ rfl (zax rfl) rfl, .inr ⟨rfl, rfl⟩, .inr ⟨rfl, rfl⟩, .inr ⟨rfl, rfl⟩, .inr ⟨rfl, rfl⟩, .inr ⟨rfl, rfl⟩, .inr ⟨rfl, rfl⟩, .inr ⟨rfl, rfl⟩, .inr ⟨rfl, rfl⟩, .inr ⟨rfl, rfl⟩, .inr ⟨rfl, rfl⟩, .inr ⟨rfl, rfl⟩, .inr ⟨rfl, rfl⟩, .inr ⟨rfl, rfl⟩, .inr ⟨rfl, rfl⟩, .inr ⟨rfl, rfl⟩, .inr ⟨rfl, rfl⟩, .inr ⟨rfl, rfl⟩, iaQ rfl (zax rfl) rfl, trivial⟩
   simp only [List.drop_succ_cons, List.drop_zero]
   refine ntQ (zaj rfl (zbh 1 rfl ?_))
   refine zap (zad ?_)
   refine zdw ?_
   refine zad (zaf ?_)
   exact zay rfl rfl (congrArg _ (zcb (fun hp => by first | (have := hp.1; omega) | (obtain ⟨h8, h9⟩ := (hp.2 j (by omega)).1; omega) | (have h9 := (hp.2 j (by omega)).2 (by omega); exact absurd h9 (by assumption)))).symm)
  refine ntQ (fcQ rfl ?_)
  refine zbi (zdv ?_)
  refine zal (zar (zbh 1 rfl ?_))
  exact zap (zay rfl rfl (congrArg _ (zdf ⟨⟨by omega, by omega⟩, fun r hr9 => hj9 r (by omega)⟩).symm))
 have h4a := zcz h4
 refine zaz 1 rfl (zaj rfl (zbh 1 rfl ?_))
 refine zap (zaf ?_)
 exact zay rfl rfl (congrArg _ (zcb (fun hp => by first | (have := hp.1; omega) | (obtain ⟨h8, h9⟩ := (hp.2 j (by omega)).1; omega) | (have h9 := (hp.2 j (by omega)).2 (by omega); exact absurd h9 (by assumption)))).symm)
theorem implModuleOk_ans (D : List Md) (k : Nat) (v : Value) (w : World) (hd : RdsDs w v D) (hk : k < D.length) :
   Calls Try.prog 14 #[.agg #[v], .int .i64 (k : Int)] w (Ans w (.bool (pB (ModP D k)))) := by
 have hd9 := sml hd.row
 refine zbw (N := 157) (args := [.agg #[v], .int .i64 (k : Int)]) Try.func14 rfl rfl (srQ ?_)
 refine zdk rfl (zda rfl rfl) ?_
 intro b1
 refine zaz 1 rfl (zag (zag (reQ 1 rfl (hvQ rfl (fdQ 0 rfl rfl rfl) (hvQ rfl (zac rfl rfl rfl (zaa 0 rfl rfl)) (hvQ rfl (lnQ rfl rfl rfl (zae hd.row)) (hvQ rfl (vsQ rfl rfl rfl) ?_)))))))
 refine zej rfl (zaw rfl rfl (fun w hm => zbe (zee (zcj _ _ _ w)))) (zbq (fun h2 => ?_) (fun h2 => ?_))
 ·
  obtain ⟨h2a, h2b⟩ := (zdd _ _ _).1 h2
  refine zah 2 rfl (hvQ rfl (zau (cs := [v]) rfl rfl rfl rfl rfl (zaq 0 rfl 0 rfl)) ?_)
  refine zej rfl (zaw rfl rfl (fun w hm => zbe (countsOk_ans D v w (hd.below hm.bel)))) (zbq (fun h3 => ?_) (fun h3 => ?_))
  ·
   have h3p := zfc h3
   refine zah 3 rfl (hvQ rfl (zau (cs := [v]) rfl rfl rfl rfl rfl (zaq 0 rfl 0 rfl)) (zah 1 rfl ?_))
   refine zej rfl (zaw rfl rfl (fun w hm => zbe (instsOk_ans D k v w (hd.below hm.bel) (by omega)))) (zbq (fun h4 => ?_) (fun h4 => ?_))
   ·
    have h4p := zfc h4
    refine zaz 2 rfl (zas rfl (zcy (srQ (hvQ rfl (fdQ 0 rfl rfl rfl) (hvQ rfl (zac rfl rfl rfl (zaa 0 rfl rfl)) (zah 1 rfl (hvQ rfl (riQ 4 rfl rfl rfl rfl (zae hd.row)) ?_)))))))
    refine hvQ rfl (zbj (us := [(D.getD k md0).sv, (D.getD k md0).av, (D.getD k md0).iv, (D.getD k md0).mv]) rfl rfl rfl rfl (zae hd.row) (by omega) rfl (zby mdC 4 (fun _ => rfl) D md0 (show k < _ by omega) rfl)) (zdk rfl (zbf (z := .agg #[.slice none 0 0, .slice none 0 0, .slice none 0 0, .slice none 0 0]) rfl rfl) ?_)
    intro b5
    refine zbd (cs' := #[(D.getD k md0).sv, (D.getD k md0).av, (D.getD k md0).iv, (D.getD k md0).mv]) (i := 0) (off := 0) (us := [(D.getD k md0).sv, (D.getD k md0).av, (D.getD k md0).iv, (D.getD k md0).mv]) rfl rfl rfl rfl rfl rfl rfl (zab (hd.at (k := k) (by omega)).s.one (zab (hd.at (k := k) (by omega)).g.one (zab (hd.at (k := k) (by omega)).x.one (zab (hd.at (k := k) (by omega)).m.one zbb)))) rfl rfl rfl (ntQ (srQ (hvQ rfl (fdQ 0 rfl rfl rfl) (hvQ rfl (zac rfl rfl rfl (zaa 0 rfl rfl)) (hvQ rfl (lnQ rfl rfl rfl (zae ((hd.at (k := k) (by omega)).s))) (zaz 1 rfl (zag (zag ?_))))))))
    refine zao (hvQ rfl (fdQ 0 rfl rfl rfl) (hvQ rfl (zac rfl rfl rfl (zaa 0 rfl rfl)) (hvQ rfl (lnQ rfl rfl rfl (zae ((hd.at (k := k) (by omega)).s))) (zaz 1 rfl (zba ?_)))))
    refine lkQ1 (α := Nat) [0, 1, 2, 4, 5, 6, 34, 44, 45] rfl (fun i => [boxE b5 #[(D.getD k md0).sv, (D.getD k md0).av, (D.getD k md0).iv, (D.getD k md0).mv] 35, boxE b1 #[v] 26]) (fun i => [(46, .int .i64 (i : Int))]) (fun i => i ≤ (D.getD k md0).ss.length ∧ ∀ q, q < i → SgP ((D.getD k md0).ss.getD q sg0)) (fun i => (D.getD k md0).ss.length - i) 0 ⟨Nat.zero_le _, fun q hq => absurd hq (by omega)⟩ (saQ rfl) (pfQ rfl) ?_
    intro i hi6
    obtain ⟨hi, hsg⟩ := hi6
    have hcts : CtsP D k := ⟨by omega, by assumption, by assumption⟩
    obtain ⟨hkl, hcnt, hins⟩ := id hcts
    obtain ⟨hn1, hn2, hn3, hn4⟩ := hcnt.md k hkl
    refine srQ ?_
    refine zbp rfl rfl rfl rfl rfl rfl (fun h7 => ?_) (fun h7 => ?_)
    ·
     refine ntQ (tcQ rfl (zcy (sbQ (srQ (hvQ rfl (riQ 3 rfl rfl rfl rfl (zae ((hd.at (k := k) (by omega)).s))) ?_)))))
     refine hvQ rfl (zbj (us := [.int .i64 ((((D.getD k md0).ss).getD i sg0).k), .int .i64 ((((D.getD k md0).ss).getD i sg0).w), .int .i64 ((((D.getD k md0).ss).getD i sg0).i)]) rfl rfl rfl rfl (zae ((hd.at (k := k) (by omega)).s)) (by omega) rfl (zby sgC 3 (fun _ => rfl) ((D.getD k md0).ss) sg0 (show i < _ by omega) rfl)) (zdk rfl (zbf (z := .agg #[.int .i64 0, .int .i64 0, .int .i64 0]) rfl rfl) ?_)
     intro b8
     refine zbd (cs' := #[.int .i64 ((((D.getD k md0).ss).getD i sg0).k), .int .i64 ((((D.getD k md0).ss).getD i sg0).w), .int .i64 ((((D.getD k md0).ss).getD i sg0).i)]) (i := 0) (off := 0) (us := [.int .i64 ((((D.getD k md0).ss).getD i sg0).k), .int .i64 ((((D.getD k md0).ss).getD i sg0).w), .int .i64 ((((D.getD k md0).ss).getD i sg0).i)]) rfl rfl rfl rfl rfl rfl rfl (zab rfl (zab rfl (zab rfl zbb))) rfl rfl rfl (ntQ (srQ (hvQ rfl (zau (cs := [.int .i64 ((((D.getD k md0).ss).getD i sg0).k), .int .i64 ((((D.getD k md0).ss).getD i sg0).w), .int .i64 ((((D.getD k md0).ss).getD i sg0).i)]) rfl rfl rfl rfl rfl (zaq 0 rfl 0 rfl)) ?_)))
     refine zej rfl (zaw rfl rfl (fun w hm => zbe (signalOk_ans ((D.getD k md0).ss.getD i sg0) w))) (zbq (fun h9 => ?_) (fun h9 => ?_))
     ·
      have h9p := zfc h9
      refine zaz 1 rfl (fsQ rfl (zde (zao (hvQ rfl (vaQ rfl rfl rfl) (enQ 1 rfl ?_)))))
      exact zbt (i + 1) ⟨by omega, fun q hq => by by_cases e : q = i; (subst e; assumption); exact hsg q (by omega)⟩ (by omega) (saQ rfl) (slQ [1, 0] rfl)
     have h9p := zea h9
     refine zaz 1 rfl (zaj rfl (zbh 1 rfl ?_))
     refine zap (zad ?_)
     refine zdw ?_
     refine zad (zaf ?_)
     exact zay rfl rfl (congrArg _ (zcb (fun hp => by first | (omega) | (exact absurd hp.cnt (by assumption)) | (exact absurd hp.ins (by assumption)) | (exact absurd (hp.sg i (by omega)) (by assumption)) | (have h9 := (hp.gs i (by omega)).1; have h8 : Inn _ _ := Classical.byContradiction (fun h7 => by rw [zeh h7] at h9; omega); rw [zcx h8] at h9; obtain ⟨h5, h6⟩ := h8; omega) | (exact absurd (hp.gs i (by omega)).2 (by assumption)) | (exact absurd (hp.xs i (by omega)) (by assumption)) | (obtain ⟨⟨⟨h1, h2⟩, ⟨h3, h4⟩, ⟨h5, h6⟩⟩, h7⟩ := hp.ms i (by omega); first | omega | exact absurd h7 (by assumption)) | (have h9 := hp.dr i (by omega) (by omega); omega))).symm)
    refine ntQ (fcQ rfl ?_)
    refine zbi (zdv ?_)
    refine zal (zar (zfh (hvQ rfl (fdQ 1 rfl rfl rfl) (hvQ rfl (zac rfl rfl rfl (zaa 0 rfl rfl)) (hvQ rfl (lnQ rfl rfl rfl (zae ((hd.at (k := k) (by omega)).g))) (zaz 1 rfl (zba ?_)))))))
    refine lkQ1 (α := Nat) [0, 1, 2, 4, 5, 6, 34, 47, 55, 56] rfl (fun i => [boxE b5 #[(D.getD k md0).sv, (D.getD k md0).av, (D.getD k md0).iv, (D.getD k md0).mv] 35, boxE b1 #[v] 26]) (fun i => [(57, .int .i64 (i : Int))]) (fun i => i ≤ (D.getD k md0).gs.length ∧ ∀ q, q < i → AsP (D.getD k md0) ((D.getD k md0).gs.getD q as0)) (fun i => (D.getD k md0).gs.length - i) 0 ⟨Nat.zero_le _, fun q hq => absurd hq (by omega)⟩ (saQ rfl) (pfQ rfl) ?_
    intro i hi10
    obtain ⟨hi, hgs⟩ := hi10
    have hsgA : ∀ q, q < (D.getD k md0).ss.length → SgP ((D.getD k md0).ss.getD q sg0) := fun q hq => hsg q (by omega)
    refine srQ ?_
    refine zbp rfl rfl rfl rfl rfl rfl (fun h11 => ?_) (fun h11 => ?_)
    ·
     refine ntQ (tcQ rfl (zcy (sbQ (srQ (hvQ rfl (riQ 2 rfl rfl rfl rfl (zae ((hd.at (k := k) (by omega)).g))) ?_)))))
     refine hvQ rfl (zbj (us := [.int .i64 ((((D.getD k md0).gs).getD i as0).t), (((D.getD k md0).gs).getD i as0).ov]) rfl rfl rfl rfl (zae ((hd.at (k := k) (by omega)).g)) (by omega) rfl (zby asC 2 (fun _ => rfl) ((D.getD k md0).gs) as0 (show i < _ by omega) rfl)) (zdk rfl (zbf (z := .agg #[.int .i64 0, .slice none 0 0]) rfl rfl) ?_)
     intro b12
     refine zbd (cs' := #[.int .i64 ((((D.getD k md0).gs).getD i as0).t), (((D.getD k md0).gs).getD i as0).ov]) (i := 0) (off := 0) (us := [.int .i64 ((((D.getD k md0).gs).getD i as0).t), (((D.getD k md0).gs).getD i as0).ov]) rfl rfl rfl rfl rfl rfl rfl (zab rfl (zab ((hd.at (k := k) (by omega)).o.at (k := i) (by omega)).one zbb)) rfl rfl rfl (ntQ (srQ (hvQ rfl (fdQ 0 rfl rfl rfl) (hvQ rfl (zac rfl rfl rfl (zaa 0 rfl rfl)) (zah 1 rfl (hvQ rfl (vsQ rfl rfl rfl) ?_))))))
     refine zej rfl (zaw rfl rfl (fun w hm => zbe (zee (zcj _ _ _ w)))) (zbq (fun h13 => ?_) (fun h13 => ?_))
     ·
      obtain ⟨h13a, h13b⟩ := (zdd _ _ _).1 h13
      refine zah 2 rfl (hvQ rfl (fdQ 0 rfl rfl rfl) (hvQ rfl (zac rfl rfl rfl (zaa 1 rfl rfl)) (hvQ rfl (fdQ 0 rfl rfl rfl) (hvQ rfl (zac rfl rfl rfl (zaa 0 rfl rfl)) (hvQ rfl (riQ 3 rfl rfl rfl rfl (zae ((hd.at (k := k) (by omega)).s))) (hvQ rfl (zat (k0 := 0) rfl rfl rfl (zae ((hd.at (k := k) (by omega)).s)) (by omega)) ?_))))))
      refine hvQ rfl (zak (u := .int .i64 ((((D.getD k md0).ss).getD (((((D.getD k md0).gs).getD i as0).t).toNat) sg0).k)) rfl rfl rfl (zae ((hd.at (k := k) (by omega)).s)) ((zbg sgC 3 (fun _ => rfl) ((D.getD k md0).ss) sg0 (show ((((D.getD k md0).gs).getD i as0).t).toNat < _ by omega) (by decide)).trans rfl)) (zej rfl (zaw rfl rfl (fun w hm => zbe (isDriven_ans ((((D.getD k md0).ss).getD (((((D.getD k md0).gs).getD i as0).t).toNat) sg0).k) w))) ?_)
      refine zbq (fun h14 => ?_) (fun h14 => ?_)
      ·
       have h14p := of_decide_eq_true h14
       refine zah 3 rfl (hvQ rfl (fdQ 1 rfl rfl rfl) (hvQ rfl (zac rfl rfl rfl (zaa 0 rfl rfl)) (zah 1 rfl ?_)))
       refine zej rfl (zaw rfl rfl (fun w hm => zbe (implOpsOk_ans ((D.getD k md0).gs.getD i as0).os (((D.getD k md0).ss).length : Int) _ w (((hd.at (k := k) (by omega)).below hm.bel).o.at (by omega))))) (zbq (fun h15 => ?_) (fun h15 => ?_))
       ·
        have h15p := zfc h15
        refine zaz 2 rfl (fsQ rfl (zde (zao (hvQ rfl (vaQ rfl rfl rfl) (enQ 1 rfl ?_)))))
        exact zbt (i + 1) ⟨by omega, fun q hq => by by_cases e : q = i; (subst e; exact ⟨by rw [zcx ⟨by omega, by omega⟩]; assumption, by assumption⟩); exact hgs q (by omega)⟩ (by omega) (saQ rfl) (slQ [1, 0] rfl)
       have h15p := zea h15
       refine zaz 2 rfl (zaj rfl (zbh 1 rfl ?_))
       refine zap (zad ?_)
       refine zdw ?_
       refine zad (zaf ?_)
       exact zay rfl rfl (congrArg _ (zcb (fun hp => by first | (omega) | (exact absurd hp.cnt (by assumption)) | (exact absurd hp.ins (by assumption)) | (exact absurd (hp.sg i (by omega)) (by assumption)) | (have h9 := (hp.gs i (by omega)).1; have h8 : Inn _ _ := Classical.byContradiction (fun h7 => by rw [zeh h7] at h9; omega); rw [zcx h8] at h9; obtain ⟨h5, h6⟩ := h8; omega) | (exact absurd (hp.gs i (by omega)).2 (by assumption)) | (exact absurd (hp.xs i (by omega)) (by assumption)) | (obtain ⟨⟨⟨h1, h2⟩, ⟨h3, h4⟩, ⟨h5, h6⟩⟩, h7⟩ := hp.ms i (by omega); first | omega | exact absurd h7 (by assumption)) | (have h9 := hp.dr i (by omega) (by omega); omega))).symm)
      have h14p := of_decide_eq_false h14
      refine zaz 9 rfl (zaj rfl (zag (reQ 1 rfl (?_))))
      refine ntQ ?_
      refine zap (zad ?_)
      refine zdw ?_
      refine zad (zaf ?_)
      exact zay rfl rfl (congrArg _ (zcb (fun hp => by first | (omega) | (exact absurd hp.cnt (by assumption)) | (exact absurd hp.ins (by assumption)) | (exact absurd (hp.sg i (by omega)) (by assumption)) | (have h9 := (hp.gs i (by omega)).1; have h8 : Inn _ _ := Classical.byContradiction (fun h7 => by rw [zeh h7] at h9; omega); rw [zcx h8] at h9; obtain ⟨h5, h6⟩ := h8; omega) | (exact absurd (hp.gs i (by omega)).2 (by assumption)) | (exact absurd (hp.xs i (by omega)) (by assumption)) | (obtain ⟨⟨⟨h1, h2⟩, ⟨h3, h4⟩, ⟨h5, h6⟩⟩, h7⟩ := hp.ms i (by omega); first | omega | exact absurd h7 (by assumption)) | (have h9 := hp.dr i (by omega) (by omega); omega))).symm)
     have h13a := zcz h13
     refine zaz 19 rfl (zaj rfl (zbh 1 rfl ?_))
     refine zap (zad ?_)
     refine zdw ?_
     refine zad (zaf ?_)
     exact zay rfl rfl (congrArg _ (zcb (fun hp => by first | (omega) | (exact absurd hp.cnt (by assumption)) | (exact absurd hp.ins (by assumption)) | (exact absurd (hp.sg i (by omega)) (by assumption)) | (have h9 := (hp.gs i (by omega)).1; have h8 : Inn _ _ := Classical.byContradiction (fun h7 => by rw [zeh h7] at h9; omega); rw [zcx h8] at h9; obtain ⟨h5, h6⟩ := h8; omega) | (exact absurd (hp.gs i (by omega)).2 (by assumption)) | (exact absurd (hp.xs i (by omega)) (by assumption)) | (obtain ⟨⟨⟨h1, h2⟩, ⟨h3, h4⟩, ⟨h5, h6⟩⟩, h7⟩ := hp.ms i (by omega); first | omega | exact absurd h7 (by assumption)) | (have h9 := hp.dr i (by omega) (by omega); omega))).symm)
    refine ntQ (fcQ rfl ?_)
    refine zbi (zdv ?_)
    refine zal (zar (zfh (hvQ rfl (fdQ 2 rfl rfl rfl) (hvQ rfl (zac rfl rfl rfl (zaa 0 rfl rfl)) (hvQ rfl (lnQ rfl rfl rfl (zae ((hd.at (k := k) (by omega)).x))) (zaz 1 rfl (zba ?_)))))))
    refine lkQ1 (α := Nat) [0, 1, 2, 4, 5, 6, 34, 47, 58, 87, 88] rfl (fun i => [boxE b5 #[(D.getD k md0).sv, (D.getD k md0).av, (D.getD k md0).iv, (D.getD k md0).mv] 35, boxE b1 #[v] 26]) (fun i => [(89, .int .i64 (i : Int))]) (fun i => i ≤ (D.getD k md0).xs.length ∧ ∀ q, q < i → IxP D (D.getD k md0) ((D.getD k md0).xs.getD q ix0)) (fun i => (D.getD k md0).xs.length - i) 0 ⟨Nat.zero_le _, fun q hq => absurd hq (by omega)⟩ (saQ rfl) (pfQ rfl) ?_
    intro i hi16
    obtain ⟨hi, hxs⟩ := hi16
    refine srQ ?_
    refine zbp rfl rfl rfl rfl rfl rfl (fun h17 => ?_) (fun h17 => ?_)
    ·
     refine ntQ (tcQ rfl (zcy (sbQ (srQ (hvQ rfl (riQ 3 rfl rfl rfl rfl (zae ((hd.at (k := k) (by omega)).x))) ?_)))))
     refine hvQ rfl (zbj (us := [.int .i64 ((((D.getD k md0).xs).getD i ix0).m), .int .i64 ((((D.getD k md0).xs).getD i ix0).p), (((D.getD k md0).xs).getD i ix0).pv]) rfl rfl rfl rfl (zae ((hd.at (k := k) (by omega)).x)) (by omega) rfl (zby ixC 3 (fun _ => rfl) ((D.getD k md0).xs) ix0 (show i < _ by omega) rfl)) (zdk rfl (zbf (z := .agg #[.int .i64 0, .int .i64 0, .slice none 0 0]) rfl rfl) ?_)
     intro b18
     refine zbd (cs' := #[.int .i64 ((((D.getD k md0).xs).getD i ix0).m), .int .i64 ((((D.getD k md0).xs).getD i ix0).p), (((D.getD k md0).xs).getD i ix0).pv]) (i := 0) (off := 0) (us := [.int .i64 ((((D.getD k md0).xs).getD i ix0).m), .int .i64 ((((D.getD k md0).xs).getD i ix0).p), (((D.getD k md0).xs).getD i ix0).pv]) rfl rfl rfl rfl rfl rfl rfl (zab rfl (zab rfl (zab ((hd.at (k := k) (by omega)).p.at (k := i) (by omega)).one zbb))) rfl rfl rfl (ntQ (srQ (hvQ rfl (zau (cs := [v]) rfl rfl rfl rfl rfl (zaq 2 rfl 0 rfl)) (hvQ rfl (zau (cs := [(D.getD k md0).sv, (D.getD k md0).av, (D.getD k md0).iv, (D.getD k md0).mv]) rfl rfl rfl rfl rfl (zaq 1 rfl 0 rfl)) (hvQ rfl (zau (cs := [.int .i64 ((((D.getD k md0).xs).getD i ix0).m), .int .i64 ((((D.getD k md0).xs).getD i ix0).p), (((D.getD k md0).xs).getD i ix0).pv]) rfl rfl rfl rfl rfl (zaq 0 rfl 0 rfl)) ?_)))))
     refine zej rfl (zaw rfl rfl (fun w hm => zbe (instOk_ans D (D.getD k md0) ((D.getD k md0).xs.getD i ix0) v w (hd.below hm.bel) ((hd.at (k := k) (by omega)).below hm.bel) (((hd.at (k := k) (by omega)).below hm.bel).p.at (by omega)) ⟨by have := hins i (by omega); omega, by have := hins i (by omega); omega⟩ (hins i (by omega)).2))) (zbq (fun h19 => ?_) (fun h19 => ?_))
     ·
      have h19p := zfc h19
      refine zaz 1 rfl (fsQ rfl (zde (zao (hvQ rfl (vaQ rfl rfl rfl) (enQ 1 rfl ?_)))))
      exact zbt (i + 1) ⟨by omega, fun q hq => by by_cases e : q = i; (subst e; assumption); exact hxs q (by omega)⟩ (by omega) (saQ rfl) (slQ [1, 0] rfl)
     have h19p := zea h19
     refine zaz 1 rfl (zaj rfl (zbh 1 rfl ?_))
     refine zap (zad ?_)
     refine zdw ?_
     refine zad (zaf ?_)
     exact zay rfl rfl (congrArg _ (zcb (fun hp => by first | (omega) | (exact absurd hp.cnt (by assumption)) | (exact absurd hp.ins (by assumption)) | (exact absurd (hp.sg i (by omega)) (by assumption)) | (have h9 := (hp.gs i (by omega)).1; have h8 : Inn _ _ := Classical.byContradiction (fun h7 => by rw [zeh h7] at h9; omega); rw [zcx h8] at h9; obtain ⟨h5, h6⟩ := h8; omega) | (exact absurd (hp.gs i (by omega)).2 (by assumption)) | (exact absurd (hp.xs i (by omega)) (by assumption)) | (obtain ⟨⟨⟨h1, h2⟩, ⟨h3, h4⟩, ⟨h5, h6⟩⟩, h7⟩ := hp.ms i (by omega); first | omega | exact absurd h7 (by assumption)) | (have h9 := hp.dr i (by omega) (by omega); omega))).symm)
    refine ntQ (fcQ rfl ?_)
    refine zbi (zdv ?_)
    refine zal (zar (zfh (hvQ rfl (fdQ 3 rfl rfl rfl) (hvQ rfl (zac rfl rfl rfl (zaa 0 rfl rfl)) (hvQ rfl (lnQ rfl rfl rfl (zae ((hd.at (k := k) (by omega)).m))) (zaz 1 rfl (zba ?_)))))))
    refine lkQ1 (α := Nat) [0, 1, 2, 4, 5, 6, 34, 47, 58, 90, 100, 101] rfl (fun i => [boxE b5 #[(D.getD k md0).sv, (D.getD k md0).av, (D.getD k md0).iv, (D.getD k md0).mv] 35, boxE b1 #[v] 26]) (fun i => [(102, .int .i64 (i : Int))]) (fun i => i ≤ (D.getD k md0).ms.length ∧ ∀ q, q < i → MmP (D.getD k md0) ((D.getD k md0).ms.getD q mm0)) (fun i => (D.getD k md0).ms.length - i) 0 ⟨Nat.zero_le _, fun q hq => absurd hq (by omega)⟩ (saQ rfl) (pfQ rfl) ?_
    intro i hi20
    obtain ⟨hi, hms⟩ := hi20
    refine srQ ?_
    refine zbp rfl rfl rfl rfl rfl rfl (fun h21 => ?_) (fun h21 => ?_)
    ·
     refine ntQ (tcQ rfl (zcy (sbQ (srQ (hvQ rfl (riQ 4 rfl rfl rfl rfl (zae ((hd.at (k := k) (by omega)).m))) ?_)))))
     refine hvQ rfl (zbj (us := [.int .i64 ((((D.getD k md0).ms).getD i mm0).a), .int .i64 ((((D.getD k md0).ms).getD i mm0).d), .int .i64 ((((D.getD k md0).ms).getD i mm0).w), .int .i64 ((((D.getD k md0).ms).getD i mm0).o)]) rfl rfl rfl rfl (zae ((hd.at (k := k) (by omega)).m)) (by omega) rfl (zby mmC 4 (fun _ => rfl) ((D.getD k md0).ms) mm0 (show i < _ by omega) rfl)) (zdk rfl (zbf (z := .agg #[.int .i64 0, .int .i64 0, .int .i64 0, .int .i64 0]) rfl rfl) ?_)
     intro b22
     refine zbd (cs' := #[.int .i64 ((((D.getD k md0).ms).getD i mm0).a), .int .i64 ((((D.getD k md0).ms).getD i mm0).d), .int .i64 ((((D.getD k md0).ms).getD i mm0).w), .int .i64 ((((D.getD k md0).ms).getD i mm0).o)]) (i := 0) (off := 0) (us := [.int .i64 ((((D.getD k md0).ms).getD i mm0).a), .int .i64 ((((D.getD k md0).ms).getD i mm0).d), .int .i64 ((((D.getD k md0).ms).getD i mm0).w), .int .i64 ((((D.getD k md0).ms).getD i mm0).o)]) rfl rfl rfl rfl rfl rfl rfl (zab rfl (zab rfl (zab rfl (zab rfl zbb)))) rfl rfl rfl (ntQ (srQ (hvQ rfl (fdQ 0 rfl rfl rfl) (hvQ rfl (zac rfl rfl rfl (zaa 0 rfl rfl)) (zah 1 rfl (hvQ rfl (vsQ rfl rfl rfl) ?_))))))
     refine zej rfl (zaw rfl rfl (fun w hm => zbe (zee (zcj _ _ _ w)))) (zbq (fun h23 => ?_) (fun h23 => ?_))
     ·
      obtain ⟨h23a, h23b⟩ := (zdd _ _ _).1 h23
      refine zah 2 rfl (hvQ rfl (fdQ 1 rfl rfl rfl) (hvQ rfl (zac rfl rfl rfl (zaa 0 rfl rfl)) (zah 1 rfl (hvQ rfl (vsQ rfl rfl rfl) ?_))))
      refine zej rfl (zaw rfl rfl (fun w hm => zbe (zee (zcj _ _ _ w)))) (zbq (fun h24 => ?_) (fun h24 => ?_))
      ·
       obtain ⟨h24a, h24b⟩ := (zdd _ _ _).1 h24
       refine zah 3 rfl (hvQ rfl (fdQ 2 rfl rfl rfl) (hvQ rfl (zac rfl rfl rfl (zaa 0 rfl rfl)) (zah 1 rfl (hvQ rfl (vsQ rfl rfl rfl) ?_))))
       refine zej rfl (zaw rfl rfl (fun w hm => zbe (zee (zcj _ _ _ w)))) (zbq (fun h25 => ?_) (fun h25 => ?_))
       ·
        obtain ⟨h25a, h25b⟩ := (zdd _ _ _).1 h25
        refine zah 3 rfl (hvQ rfl (zau (cs := [(D.getD k md0).sv, (D.getD k md0).av, (D.getD k md0).iv, (D.getD k md0).mv]) rfl rfl rfl rfl rfl (zaq 1 rfl 0 rfl)) (hvQ rfl (fdQ 3 rfl rfl rfl) (hvQ rfl (zac rfl rfl rfl (zaa 0 rfl rfl)) ?_)))
        refine zej rfl (zaw rfl rfl (fun w hm => zbe (drives_ans (D.getD k md0) ((((D.getD k md0).ms).getD i mm0).o) w ((hd.at (k := k) (by omega)).below hm.bel)))) (zbq (fun h26 => ?_) (fun h26 => ?_))
        ·
         have h26p := zfc h26
         refine zaz 2 rfl (fsQ rfl (zde (zao (hvQ rfl (vaQ rfl rfl rfl) (enQ 1 rfl ?_)))))
         exact zbt (i + 1) ⟨by omega, fun q hq => by by_cases e : q = i; (subst e; exact ⟨⟨⟨by omega, by omega⟩, ⟨by omega, by omega⟩, ⟨by omega, by omega⟩⟩, by assumption⟩); exact hms q (by omega)⟩ (by omega) (saQ rfl) (slQ [1, 0] rfl)
        have h26p := zea h26
        refine zaz 2 rfl (zaj rfl (zbh 1 rfl ?_))
        refine zap (zad ?_)
        refine zdw ?_
        refine zad (zaf ?_)
        exact zay rfl rfl (congrArg _ (zcb (fun hp => by first | (omega) | (exact absurd hp.cnt (by assumption)) | (exact absurd hp.ins (by assumption)) | (exact absurd (hp.sg i (by omega)) (by assumption)) | (have h9 := (hp.gs i (by omega)).1; have h8 : Inn _ _ := Classical.byContradiction (fun h7 => by rw [zeh h7] at h9; omega); rw [zcx h8] at h9; obtain ⟨h5, h6⟩ := h8; omega) | (exact absurd (hp.gs i (by omega)).2 (by assumption)) | (exact absurd (hp.xs i (by omega)) (by assumption)) | (obtain ⟨⟨⟨h1, h2⟩, ⟨h3, h4⟩, ⟨h5, h6⟩⟩, h7⟩ := hp.ms i (by omega); first | omega | exact absurd h7 (by assumption)) | (have h9 := hp.dr i (by omega) (by omega); omega))).symm)
       have h25a := zcz h25
       refine zaz 9 rfl (zaj rfl (zag (reQ 1 rfl (?_))))
       refine ntQ ?_
       refine zap (zad ?_)
       refine zdw ?_
       refine zad (zaf ?_)
       exact zay rfl rfl (congrArg _ (zcb (fun hp => by first | (omega) | (exact absurd hp.cnt (by assumption)) | (exact absurd hp.ins (by assumption)) | (exact absurd (hp.sg i (by omega)) (by assumption)) | (have h9 := (hp.gs i (by omega)).1; have h8 : Inn _ _ := Classical.byContradiction (fun h7 => by rw [zeh h7] at h9; omega); rw [zcx h8] at h9; obtain ⟨h5, h6⟩ := h8; omega) | (exact absurd (hp.gs i (by omega)).2 (by assumption)) | (exact absurd (hp.xs i (by omega)) (by assumption)) | (obtain ⟨⟨⟨h1, h2⟩, ⟨h3, h4⟩, ⟨h5, h6⟩⟩, h7⟩ := hp.ms i (by omega); first | omega | exact absurd h7 (by assumption)) | (have h9 := hp.dr i (by omega) (by omega); omega))).symm)
      have h24a := zcz h24
      refine enQ 17 rfl ?_
      refine zar (zaj rfl (zbh 1 rfl ?_))
      refine zap (zad ?_)
      refine zdw ?_
      refine zad (zaf ?_)
      exact zay rfl rfl (congrArg _ (zcb (fun hp => by first | (omega) | (exact absurd hp.cnt (by assumption)) | (exact absurd hp.ins (by assumption)) | (exact absurd (hp.sg i (by omega)) (by assumption)) | (have h9 := (hp.gs i (by omega)).1; have h8 : Inn _ _ := Classical.byContradiction (fun h7 => by rw [zeh h7] at h9; omega); rw [zcx h8] at h9; obtain ⟨h5, h6⟩ := h8; omega) | (exact absurd (hp.gs i (by omega)).2 (by assumption)) | (exact absurd (hp.xs i (by omega)) (by assumption)) | (obtain ⟨⟨⟨h1, h2⟩, ⟨h3, h4⟩, ⟨h5, h6⟩⟩, h7⟩ := hp.ms i (by omega); first | omega | exact absurd h7 (by assumption)) | (have h9 := hp.dr i (by omega) (by omega); omega))).symm)
     have h23a := zcz h23
     refine zaz 24 rfl (zaj rfl (zbh 1 rfl ?_))
     refine zap (zad ?_)
     refine zdw ?_
     refine zad (zaf ?_)
     exact zay rfl rfl (congrArg _ (zcb (fun hp => by first | (omega) | (exact absurd hp.cnt (by assumption)) | (exact absurd hp.ins (by assumption)) | (exact absurd (hp.sg i (by omega)) (by assumption)) | (have h9 := (hp.gs i (by omega)).1; have h8 : Inn _ _ := Classical.byContradiction (fun h7 => by rw [zeh h7] at h9; omega); rw [zcx h8] at h9; obtain ⟨h5, h6⟩ := h8; omega) | (exact absurd (hp.gs i (by omega)).2 (by assumption)) | (exact absurd (hp.xs i (by omega)) (by assumption)) | (obtain ⟨⟨⟨h1, h2⟩, ⟨h3, h4⟩, ⟨h5, h6⟩⟩, h7⟩ := hp.ms i (by omega); first | omega | exact absurd h7 (by assumption)) | (have h9 := hp.dr i (by omega) (by omega); omega))).symm)
    refine ntQ (fcQ rfl ?_)
    refine zbi (zdv ?_)
    refine zal (zar (zfh (hvQ rfl (zau (cs := [v]) rfl rfl rfl rfl rfl (zaq 1 rfl 0 rfl)) (zah 1 rfl ?_))))
    refine zfq rfl rfl rfl (zaw rfl rfl (fun w hm => driverCounts_ret D k v w (hd.below hm.bel) hcts)) ?_
    intro v27 p28 hR29
    subst hR29
    refine hvQ rfl (lnQ rfl rfl rfl (zai 0 rfl)) (zaz 1 rfl (zba ?_))
    refine lkQ1 (α := Nat) [0, 1, 2, 4, 5, 6, 34, 47, 58, 90, 103, 138, 139] rfl (fun i => [rowE 3 1 v27 ((cntZ (D.getD k md0).ss.length (drvL D (D.getD k md0))).length) ((cntZ (D.getD k md0).ss.length (drvL D (D.getD k md0))).map (Value.int .i64)), boxE b5 #[(D.getD k md0).sv, (D.getD k md0).av, (D.getD k md0).iv, (D.getD k md0).mv] 35, boxE b1 #[v] 26]) (fun i => [(140, .int .i64 (i : Int))]) (fun i => i ≤ (D.getD k md0).ss.length ∧ ∀ q, q < i → ((D.getD k md0).ss.getD q sg0).k ≠ 0 → (drvL D (D.getD k md0)).count (q : Int) = 1) (fun i => (D.getD k md0).ss.length - i) 0 ⟨Nat.zero_le _, fun q hq => absurd hq (by omega)⟩ (saQ rfl) (pfQ rfl) ?_
    intro i hi30
    obtain ⟨hi, hdr⟩ := hi30
    have hlz := zeo (D.getD k md0).ss.length (drvL D (D.getD k md0))
    refine srQ ?_
    refine zbp rfl rfl rfl rfl rfl rfl (fun h31 => ?_) (fun h31 => ?_)
    ·
     refine ntQ (tcQ rfl (zcy (sbQ (zag (reQ 1 rfl (hvQ rfl (riQ 1 rfl rfl rfl rfl (zai 0 rfl)) (hvQ rfl (zak (u := .int .i64 ((cntZ (D.getD k md0).ss.length (drvL D (D.getD k md0))).getD i 0)) rfl rfl rfl (zai 0 rfl) (zca (show _ < (cntZ (D.getD k md0).ss.length (drvL D (D.getD k md0))).length by omega))) ?_)))))))
     refine zaz 2 rfl (srQ ?_)
     have hs8 := (hsgA i (by omega)).1
     have hcz := cntZ_at (L := drvL D (D.getD k md0)) (show i < (D.getD k md0).ss.length by omega)
     refine hvQ rfl (fdQ 0 rfl rfl rfl) (hvQ rfl (zac rfl rfl rfl (zaa 1 rfl rfl)) (zah 1 rfl (hvQ rfl (riQ 3 rfl rfl rfl rfl (zae ((hd.at (k := k) (by omega)).s))) (hvQ rfl (zat (k0 := 0) rfl rfl rfl (zae ((hd.at (k := k) (by omega)).s)) (by omega)) ?_))))
     refine hvQ rfl (zak (u := .int .i64 ((((D.getD k md0).ss).getD i sg0).k)) rfl rfl rfl (zae ((hd.at (k := k) (by omega)).s)) ((zbg sgC 3 (fun _ => rfl) ((D.getD k md0).ss) sg0 (show i < _ by omega) (by decide)).trans rfl)) (zej rfl (zaw rfl rfl (fun w hm => zbe (isDriven_ans ((((D.getD k md0).ss).getD i sg0).k) w))) ?_)
     refine zbq (fun h32 => ?_) (fun h32 => ?_)
     ·
      have h32p := of_decide_eq_true h32
      refine zah 2 rfl (zff rfl rfl rfl rfl rfl rfl (fun h33 => ?_) (fun h33 => ?_))
      ·
       refine zaz 1 rfl (zaj rfl (zbh 1 rfl ?_))
       refine zap (zad ?_)
       refine zdw ?_
       refine zad (zaf ?_)
       exact zay rfl rfl (congrArg _ (zcb (fun hp => by first | (omega) | (exact absurd hp.cnt (by assumption)) | (exact absurd hp.ins (by assumption)) | (exact absurd (hp.sg i (by omega)) (by assumption)) | (have h9 := (hp.gs i (by omega)).1; have h8 : Inn _ _ := Classical.byContradiction (fun h7 => by rw [zeh h7] at h9; omega); rw [zcx h8] at h9; obtain ⟨h5, h6⟩ := h8; omega) | (exact absurd (hp.gs i (by omega)).2 (by assumption)) | (exact absurd (hp.xs i (by omega)) (by assumption)) | (obtain ⟨⟨⟨h1, h2⟩, ⟨h3, h4⟩, ⟨h5, h6⟩⟩, h7⟩ := hp.ms i (by omega); first | omega | exact absurd h7 (by assumption)) | (have h9 := hp.dr i (by omega) (by omega); omega))).symm)
      refine zaz 1 rfl (fsQ rfl (zde (zao (hvQ rfl (vaQ rfl rfl rfl) (enQ 1 rfl ?_)))))
      exact zbt (i + 1) ⟨by omega, fun q hq => by by_cases e : q = i; (subst e; intro h9; omega); exact hdr q (by omega)⟩ (by omega) (saQ rfl) (pfQ rfl)
     have h32p := of_decide_eq_false h32
     refine zaz 4 rfl (fsQ rfl (zde (zao (hvQ rfl (vaQ rfl rfl rfl) (zah 1 rfl (?_))))))
     exact zbn (zbt (i + 1) ⟨by omega, fun q hq => by by_cases e : q = i; (subst e; intro h9; omega); exact hdr q (by omega)⟩ (by omega) (saQ rfl) (pfQ rfl))
    refine ntQ (fcQ rfl ?_)
    refine zbi (zdv ?_)
    refine zal (zar (zbh 1 rfl ?_))
    exact zap (zay rfl rfl (congrArg _ (zdf ⟨hkl, hcnt, hins, hsgA, fun q hq => hgs q (by omega), fun q hq => hxs q (by omega), fun q hq => hms q (by omega), fun q hq => hdr q (by omega)⟩).symm))
   have h4p := zea h4
   refine zaz 2 rfl (zaj rfl (zbh 1 rfl ?_))
   refine zap (zaf ?_)
   exact zay rfl rfl (congrArg _ (zcb (fun hp => by first | (omega) | (exact absurd hp.cnt (by assumption)) | (exact absurd hp.ins (by assumption)) | (exact absurd (hp.sg i (by omega)) (by assumption)) | (have h9 := (hp.gs i (by omega)).1; have h8 : Inn _ _ := Classical.byContradiction (fun h7 => by rw [zeh h7] at h9; omega); rw [zcx h8] at h9; obtain ⟨h5, h6⟩ := h8; omega) | (exact absurd (hp.gs i (by omega)).2 (by assumption)) | (exact absurd (hp.xs i (by omega)) (by assumption)) | (obtain ⟨⟨⟨h1, h2⟩, ⟨h3, h4⟩, ⟨h5, h6⟩⟩, h7⟩ := hp.ms i (by omega); first | omega | exact absurd h7 (by assumption)) | (have h9 := hp.dr i (by omega) (by omega); omega))).symm)
  have h3p := zea h3
  refine zaz 8 rfl (zaj rfl (srQ (enQ 1 rfl ?_)))
  refine zar (zap ?_)
  exact zaf (zay rfl rfl (congrArg _ (zcb (fun hp => by first | (omega) | (exact absurd hp.cnt (by assumption)) | (exact absurd hp.ins (by assumption)) | (exact absurd (hp.sg i (by omega)) (by assumption)) | (have h9 := (hp.gs i (by omega)).1; have h8 : Inn _ _ := Classical.byContradiction (fun h7 => by rw [zeh h7] at h9; omega); rw [zcx h8] at h9; obtain ⟨h5, h6⟩ := h8; omega) | (exact absurd (hp.gs i (by omega)).2 (by assumption)) | (exact absurd (hp.xs i (by omega)) (by assumption)) | (obtain ⟨⟨⟨h1, h2⟩, ⟨h3, h4⟩, ⟨h5, h6⟩⟩, h7⟩ := hp.ms i (by omega); first | omega | exact absurd h7 (by assumption)) | (have h9 := hp.dr i (by omega) (by omega); omega))).symm))
 have h2a := zcz h2
 refine zaz 12 rfl (zaj rfl (srQ ?_))
 refine zaz 1 rfl ?_
 refine zap (zaf ?_)
 exact zay rfl rfl (congrArg _ (zcb (fun hp => by first | (omega) | (exact absurd hp.cnt (by assumption)) | (exact absurd hp.ins (by assumption)) | (exact absurd (hp.sg i (by omega)) (by assumption)) | (have h9 := (hp.gs i (by omega)).1; have h8 : Inn _ _ := Classical.byContradiction (fun h7 => by rw [zeh h7] at h9; omega); rw [zcx h8] at h9; obtain ⟨h5, h6⟩ := h8; omega) | (exact absurd (hp.gs i (by omega)).2 (by assumption)) | (exact absurd (hp.xs i (by omega)) (by assumption)) | (obtain ⟨⟨⟨h1, h2⟩, ⟨h3, h4⟩, ⟨h5, h6⟩⟩, h7⟩ := hp.ms i (by omega); first | omega | exact absurd h7 (by assumption)) | (have h9 := hp.dr i (by omega) (by omega); omega))).symm)
theorem implDesignOk_ans (D : List Md) (v : Value) (w : World) (hd : RdsDs w v D) :
   Calls Try.prog 15 #[.agg #[v]] w (Ans w (.bool (pB (DesP D)))) := by
 have hd9 := sml hd.row
 refine zbw (N := 19) (args := [.agg #[v]]) Try.func15 rfl rfl (srQ ?_)
 refine zdk rfl (zda rfl rfl) ?_
 intro b1
 refine zaz 1 rfl (zfh (hvQ rfl (fdQ 0 rfl rfl rfl) (hvQ rfl (zac rfl rfl rfl (zaa 0 rfl rfl)) (hvQ rfl (lnQ rfl rfl rfl (zae hd.row)) (zaz 1 rfl ?_)))))
 refine zba ?_
 refine lkQ1 (α := Nat) [0, 1, 2, 6] rfl (fun k => [boxE b1 #[v] 26]) (fun k => [(7, .int .i64 (k : Int))]) (fun k => k ≤ D.length ∧ ∀ q, q < k → ModP D q) (fun k => D.length - k) 0 ⟨Nat.zero_le _, fun q hq => absurd hq (by omega)⟩ (saQ rfl) (pfQ rfl) ?_
 intro k hi2
 obtain ⟨hk, hall⟩ := hi2
 refine srQ ?_
 refine zbp rfl rfl rfl rfl rfl rfl (fun h3 => ?_) (fun h3 => ?_)
 ·
  refine ntQ (tcQ rfl (zcy (sbQ (srQ (enQ 2 rfl ?_)))))
  refine zar (srQ (hvQ rfl (zau (cs := [v]) rfl rfl rfl rfl rfl (zaq 0 rfl 0 rfl)) (zah 1 rfl ?_)))
  refine zej rfl (zaw rfl rfl (fun w hm => zbe (implModuleOk_ans D k v w (hd.below hm.bel) (by omega)))) (zbq (fun h4 => ?_) (fun h4 => ?_))
  ·
   have h4p := zfc h4
   refine zaz 1 rfl (fsQ rfl (zde (zao (hvQ rfl (vaQ rfl rfl rfl) (enQ 1 rfl ?_)))))
   exact zbt (k + 1) ⟨by omega, fun q hq => by by_cases e : q = k; (subst e; assumption); exact hall q (by omega)⟩ (by omega) (saQ rfl) (pfQ rfl)
  have h4p := zea h4
  refine zaz 1 rfl (zaj rfl (zbh 1 rfl ?_))
  refine zap (zad ?_)
  refine zdw ?_
  refine zad (zaf ?_)
  exact zay rfl rfl (congrArg _ (zcb (fun hp => by first | (have := hp.1; omega) | (exact absurd (hp.2 k (by omega)) (by assumption)))).symm)
 refine ntQ (fcQ rfl ?_)
 refine zbi (zdv ?_)
 refine zal (zar (srQ (hvQ rfl (fdQ 0 rfl rfl rfl) (hvQ rfl (zac rfl rfl rfl (zaa 0 rfl rfl)) (hvQ rfl (lnQ rfl rfl rfl (zae hd.row)) ?_)))))
 refine zej rfl (zaw rfl rfl (fun w hm => zbe (zee (zcj _ _ _ w)))) (zbq (fun h5 => ?_) (fun h5 => ?_))
 ·
  obtain ⟨h5a, h5b⟩ := (zdd _ _ _).1 h5
  refine zaz 1 rfl ?_
  exact zap (zay rfl rfl (congrArg _ (zdf ⟨⟨by omega, by omega⟩, fun q hq => hall q (by omega)⟩).symm))
 have h5a := zcz h5
 refine zaz 1 rfl ?_
 exact zap (zay rfl rfl (congrArg _ (zcb (fun hp => by first | (have := hp.1; omega) | (exact absurd (hp.2 k (by omega)) (by assumption)))).symm))
theorem arI_cases (k : Int) : (k = 4 → arI k = 1) ∧ (5 ≤ k ∧ k ≤ 11 → arI k = 2) ∧ (k = 12 → arI k = 3) := by unfold arI; refine ⟨?_, ?_, ?_⟩ <;> intro h <;> (repeat' split) <;> omega
theorem evE_rng (os : List Oq) (vs : List Int) {x : Int} (hx : 0 ≤ x ∧ x ≤ 4) : ∀ (f p : Nat), 0 ≤ (evE os vs x f p).1 ∧ (evE os vs x f p).1 ≤ 15
  | 0, p => ⟨Int.le_refl _, by show (0 : Int) ≤ 15; decide⟩
  | f + 1, p => by
    have h1 := wm_rng hx
    have h2 := and_range (opV (os.getD p oq0) vs (argE (evE os vs x f) (p + 1) (arI (os.getD p oq0).k).toNat).1) (wmK x) (by unfold wmK; omega) (by unfold wmK; omega)
    have h3 : wmK x ≤ 15 := by unfold wmK; omega
    exact ⟨h2.1, Int.le_trans h2.2 h3⟩
theorem argE_rng {g : Nat → Int × Nat} (hg : ∀ q, 0 ≤ (g q).1 ∧ (g q).1 ≤ 15) (p : Nat) : ∀ i, ∀ y ∈ (argE g p i).1, 0 ≤ y ∧ y ≤ 15
  | 0, y, hy => by cases hy
  | i + 1, y, hy => by
    rcases List.mem_append.1 (show y ∈ (argE g p i).1 ++ [_] from hy) with h | h
    · exact argE_rng hg p i y h
    · rw [List.mem_singleton] at h; subst h; exact hg _
theorem getD_rng {L : List Int} (h : ∀ y ∈ L, 0 ≤ y ∧ y ≤ 15) (q : Nat) : 0 ≤ L.getD q 0 ∧ L.getD q 0 ≤ 15 := by
  by_cases hq : q < L.length
  · exact h _ (zch hq)
  · rw [List.getD_eq_getElem?_getD, List.getElem?_eq_none (by omega)]; decide
theorem exprAt_step (os : List Oq) (vs : List Int) (x : Int) (f p : Nat) (v u : Value) (w : World) (hv : RdsW w v 3 os.length (os.flatMap oqC)) (hu : RdsW w u 1 vs.length (vs.map (Value.int .i64))) (hok : OpsP vs.length os) (hp : p < os.length) (hpf : os.length - p ≤ f + 1) (hx : 0 ≤ x ∧ x ≤ 4) (IH : ∀ (q : Nat), p < q → q < os.length → ∀ (w2 : World), RdsW w2 v 3 os.length (os.flatMap oqC) → RdsW w2 u 1 vs.length (vs.map (Value.int .i64)) → Calls Try.prog 104 #[v, .int .i64 (q : Int), u, .int .i64 x] w2 (Ret w2 (fun u_ p_ => u_ = .tuple #[.int .i64 (evE os vs x f q).1, .int .i64 ((evE os vs x f q).2 : Int)] ∧ p_ = []))) :
   Calls Try.prog 104 #[v, .int .i64 (p : Int), u, .int .i64 x] w (Ret w (fun u_ p_ => u_ = .tuple #[.int .i64 (evE os vs x (f + 1) p).1, .int .i64 ((evE os vs x (f + 1) p).2 : Int)] ∧ p_ = [])) := by
 have hv9 := sml hv
 have hl15 := hok.len
 have hgo : ∀ q, p < q → q < os.length → q < ((evE os vs x f) q).2 ∧ ((evE os vs x f) q).2 ≤ os.length ∧ needK os ((evE os vs x f) q).2 = needK os q - 1 := fun q h1 h2 => evE_ok hok vs x f q (by omega) h2
 have har0 := arI_val hok hp
 have hop := (hok.op p hp).2
 unfold OqP at hop
 have harc := arI_cases (os.getD p oq0).k
 refine zbw (N := 155) (args := [v, .int .i64 (p : Int), u, .int .i64 x]) Try.func104 rfl rfl ?_
 refine hc_keep _ [3, 2, 1, 0] rfl (zag (zao (zah 2 rfl (zbo [9, 8, 3, 2, 1, 0] rfl (zbn (zar (zag (zao (zah 2 rfl (zfg rfl rfl rfl (zdg (s := 3) rfl Try.underlying71 (by kernel_rfl) rfl rfl (zae hv) (by omega) (by omega)) ?_))))))))))
 refine zfg rfl rfl rfl (zbj (us := [.int .i64 ((os.getD p oq0).k), .int .i64 ((os.getD p oq0).a), .int .i64 ((os.getD p oq0).b)]) rfl (by kernel_rfl) (by kernel_rfl) rfl (zae hv) (by omega) rfl (zby oqC 3 (fun _ => rfl) os oq0 (show p < _ by omega) rfl)) ?_
 refine hl_box rfl rfl rfl (zbf (z := .agg #[.int .i64 0, .int .i64 0, .int .i64 0]) rfl (by kernel_rfl)) ?_
 intro b1
 refine zbd (cs' := #[.int .i64 ((os.getD p oq0).k), .int .i64 ((os.getD p oq0).a), .int .i64 ((os.getD p oq0).b)]) (i := 0) (off := 0) (us := [.int .i64 ((os.getD p oq0).k), .int .i64 ((os.getD p oq0).a), .int .i64 ((os.getD p oq0).b)]) rfl rfl rfl (by kernel_rfl) rfl rfl rfl (zab rfl (zab rfl (zab rfl zbb))) rfl rfl rfl ?_
 refine zbo [10, 9, 8, 3, 2, 1, 0] rfl (zbn (zar (zag (zao (zah 1 rfl ?_)))))
 refine hl_callV rfl rfl rfl (zaw (by kernel_rfl) rfl (fun w hm => zbe (zek x w hx))) ?_
 refine zah 1 rfl (zbo [11, 10, 9, 8, 3, 2, 1, 0] rfl (zbn (zar (zag (zao (zah 1 rfl (zfg rfl rfl rfl (rv_add rfl rfl rfl (by constructor <;> omega)) (zah 1 rfl (zbo [11, 10, 9, 8, 3, 2, 1, 0] rfl (zbn (zar (zag (zao ?_)))))))))))))
 refine zdo 3 1 ?_
 refine zfg rfl rfl rfl (zax rfl) (zbo [12, 11, 10, 9, 8, 3, 2, 1, 0] rfl (zbn (zar (zag (zag (zao (zah 1 rfl (zbo [13, 12, 11, 10, 9, 8, 3, 2, 1, 0] rfl (zbn (zar (zba ?_)))))))))))
 refine hc_loop3 (α := Nat) (β := Value) (γ := List Int) (fun i gt zs => [rowE 3 1 gt zs.length (zs.map (Value.int .i64)), boxE b1 #[.int .i64 ((os.getD p oq0).k), .int .i64 ((os.getD p oq0).a), .int .i64 ((os.getD p oq0).b)] 97]) (fun i gt zs => [(0, v), (1, .int .i64 ((argE (evE os vs x f) (p + 1) i).2 : Int)), (2, u), (3, .int .i64 x), (8, .int .i64 0), (9, .int .i64 0), (10, .pointer (some ⟨b1, 0, none⟩)), (11, .int .i64 (wmK x)), (12, gt), (13, .int .i64 (i : Int))]) (fun i gt zs => (i : Int) ≤ arI (os.getD p oq0).k ∧ zs = (argE (evE os vs x f) (p + 1) i).1) (fun i gt zs => (arI (os.getD p oq0).k).toNat - i) 0 _ [] ⟨by omega, rfl⟩ (zav [13, 12, 11, 10, 9, 8, 3, 2, 1, 0] rfl) ((.cons_cons _ (.cons_cons _ .slnil))) ?_
 intro i gt zs hi3
 obtain ⟨hi, hz⟩ := hi3
 have hzl : zs.length = i := by rw [hz]; exact argE_len _ _ _
 have hpo := argE_ok hok hp hgo i hi
 have hzr := getD_rng (L := zs) (by rw [hz]; exact argE_rng (evE_rng os vs hx f) _ _)
 have hzr0 := hzr 0
 have hzr1 := hzr 1
 have hpl := fun h9 => argE_lt hok hp hgo i h9
 refine zag (zag (zao (zah 1 rfl (zfg rfl rfl rfl (zgi (k0 := 0) rfl (by kernel_rfl) rfl) (zfg rfl rfl rfl (zac rfl (by kernel_rfl) rfl (zaa 1 rfl rfl)) ?_)))))
 refine hl_callV rfl rfl rfl (zaw (by kernel_rfl) rfl (fun w hm => zbe (zgm ((os.getD p oq0).k) w))) ?_
 refine zbp rfl rfl rfl rfl rfl rfl (fun h4 => ?_) (fun h4 => ?_)
 ·
  refine zbo [29, 13, 12, 11, 10, 9, 8, 3, 2, 1, 0] rfl (zbn (zar (zaj rfl (zfz (zar (zag (zba (zag (zao ?_)))))))))
  have hpl9 := hpl (by omega)
  refine zfg rfl rfl rfl (zax rfl) (zah 3 rfl ?_)
  refine zfq rfl rfl rfl (zaw (by kernel_rfl) rfl (fun w hm => IH (argE (evE os vs x f) (p + 1) i).2 (by omega) (by omega) w (hv.below hm.bel) (hu.below hm.bel))) ?_
  intro v5 p6 hR7
  obtain ⟨rfl, rfl⟩ := hR7
  refine zah 5 rfl (zbo [29, 15, 14, 13, 12, 11, 10, 9, 8, 3, 2, 1, 0] rfl (zbn (zar (zag (zao (zah 2 rfl ?_))))))
  refine hl_row rfl rfl rfl (zan (z := .int .i64 0) (s := 1) (cs := ([((evE os vs x f) (argE (evE os vs x f) (p + 1) i).2).1].map (Value.int .i64))) rfl Try.underlying48 (by kernel_rfl) (by decide) rfl (by kernel_rfl) rfl) ?_
  intro g8
  refine zcq (i := 1) (z := .int .i64 0) (bytes := 8) rfl rfl rfl rfl Try.underlying48 (by kernel_rfl) (by kernel_rfl) rfl rfl rfl (zai 0 rfl) (zcg _) (by first | omega | (simp; done) | (simp; omega)) (zci zs ([((evE os vs x f) (argE (evE os vs x f) (p + 1) i).2).1])) (zcv zs ([((evE os vs x f) (argE (evE os vs x f) (p + 1) i).2).1])) (fun _ => rfl) ?_
  intro v9
  refine zah 1 rfl (zbo [29, 15, 14, 13, 12, 11, 10, 9, 8, 3, 2, 1, 0] rfl (zbn (zar (zao (zah 2 rfl (zbo [29, 15, 14, 13, 12, 11, 10, 9, 8, 3, 2, 1, 0] rfl (zbn (zbr (zar (zao (zah 1 rfl (zfg rfl rfl rfl (rv_add rfl rfl rfl (by constructor <;> omega)) (zah 1 rfl ?_)))))))))))))
  refine zbo [29, 15, 14, 13, 12, 11, 10, 9, 8, 3, 2, 1, 0] rfl (zbn ?_)
  exact zcl (i + 1) v9 (zs ++ ([((evE os vs x f) (argE (evE os vs x f) (p + 1) i).2).1])) ⟨by omega, by rw [hz]; rfl⟩ (by omega) (zav [13, 12, 11, 10, 9, 8, 3, 2, 1, 0] rfl) ((.cons _ (.cons_cons _ (.cons_cons _ .slnil))))
 refine zbo [29, 13, 12, 11, 10, 9, 8, 3, 2, 1, 0] rfl (zbn (zar (zas rfl ?_)))
 refine zbi ?_
 refine zfl (zfl ?_)
 refine zal ?_
 refine zar (zag (zao (zah 1 rfl (zbo [29, 16, 13, 12, 11, 10, 9, 8, 3, 2, 1, 0] rfl (zbn (zar (zag (zag (zao (zfg rfl rfl rfl (zgi (k0 := 0) rfl (by kernel_rfl) rfl) (zfg rfl rfl rfl (zac rfl (by kernel_rfl) rfl (zaa 1 rfl rfl)) (zbo [46, 29, 16, 13, 12, 11, 10, 9, 8, 3, 2, 1, 0] rfl (zbn ?_)))))))))))))
 refine zar (zba (zag (zao ?_)))
 refine zbu rfl rfl rfl rfl rfl rfl (fun h10 => ?_) (fun h10 => ?_)
 ·
  refine zah 1 rfl (zbo [47, 46, 29, 16, 13, 12, 11, 10, 9, 8, 3, 2, 1, 0] rfl (zbn (zar (zaj rfl (zao (zfg rfl rfl rfl (zgi (k0 := 1) rfl (by kernel_rfl) rfl) (zfg rfl rfl rfl (zac rfl (by kernel_rfl) rfl (zaa 1 rfl rfl)) (zah 1 rfl (zbo [47, 46, 29, 16, 13, 12, 11, 10, 9, 8, 3, 2, 1, 0] rfl (zbn (zbr (zar (zag ?_)))))))))))))
  refine zao (zah 2 rfl (zfg rfl rfl rfl (zdx rfl (by decide) rfl rfl (r := bits .and .i64 ((os.getD p oq0).a) (wmK x)) rfl) (zah 3 rfl (zbo [47, 46, 29, 16, 13, 12, 11, 10, 9, 8, 3, 2, 1, 0] rfl (zbn (zar ?_))))))
  refine zap ?_
  have hii : i = (arI (os.getD p oq0).k).toNat := by omega
  have hov : opV (os.getD p oq0) vs zs = (os.getD p oq0).a := by unfold opV; (repeat' split) <;> first | rfl | (exfalso; omega) | omega
  exact zcw (rs := [.tmp 8, .tmp 9]) (vs := [.int .i64 (bits .and .i64 ((os.getD p oq0).a) (wmK x)), .int .i64 ((argE (evE os vs x f) (p + 1) i).2 : Int)]) (post := []) rfl ⟨rfl, rfl, trivial⟩ rfl ((.cons _ (.cons _ .slnil))) ⟨by rw [show evE os vs x (f + 1) p = (bits .and .i64 (opV (os.getD p oq0) vs (argE (evE os vs x f) (p + 1) (arI (os.getD p oq0).k).toNat).1) (wmK x), (argE (evE os vs x f) (p + 1) (arI (os.getD p oq0).k).toNat).2) from rfl, ← hii, ← hz, hov]; rfl, rfl⟩
 refine zah 1 rfl (zbo [47, 46, 29, 16, 13, 12, 11, 10, 9, 8, 3, 2, 1, 0] rfl (zbn (zar (zas rfl (zag (zao ?_))))))
 refine zbu rfl rfl rfl rfl rfl rfl (fun h11 => ?_) (fun h11 => ?_)
 ·
  refine zah 1 rfl (zbo [51, 47, 46, 29, 16, 13, 12, 11, 10, 9, 8, 3, 2, 1, 0] rfl (zbn (zar (zaj rfl (zao (zah 1 rfl (zfg rfl rfl rfl (zgi (k0 := 1) rfl (by kernel_rfl) rfl) (zfg rfl rfl rfl (zac rfl (by kernel_rfl) rfl (zaa 1 rfl rfl)) (zfg rfl rfl rfl (zdg (s := 1) rfl Try.underlying48 (by kernel_rfl) rfl rfl (zae hu) (by omega) (by omega)) (zfg rfl rfl rfl (zak (u := .int .i64 (vs.getD (((os.getD p oq0).a).toNat) 0)) rfl (by kernel_rfl) rfl (zae hu) (zca (show _ < vs.length by omega))) (zah 1 rfl (zbo [51, 47, 46, 29, 16, 13, 12, 11, 10, 9, 8, 3, 2, 1, 0] rfl (zbn ?_)))))))))))))
  refine zbr (zar (zag (zao (zah 2 rfl (zfg rfl rfl rfl (zdx rfl (by decide) rfl rfl (r := bits .and .i64 (vs.getD (((os.getD p oq0).a).toNat) 0) (wmK x)) rfl) (zah 3 rfl (zbo [51, 47, 46, 29, 16, 13, 12, 11, 10, 9, 8, 3, 2, 1, 0] rfl (zbn (zar ?_)))))))))
  refine zap ?_
  have hii : i = (arI (os.getD p oq0).k).toNat := by omega
  have hov : opV (os.getD p oq0) vs zs = vs.getD (((os.getD p oq0).a).toNat) 0 := by unfold opV; (repeat' split) <;> first | rfl | (exfalso; omega) | omega
  exact zcw (rs := [.tmp 8, .tmp 9]) (vs := [.int .i64 (bits .and .i64 (vs.getD (((os.getD p oq0).a).toNat) 0) (wmK x)), .int .i64 ((argE (evE os vs x f) (p + 1) i).2 : Int)]) (post := []) rfl ⟨rfl, rfl, trivial⟩ rfl ((.cons _ (.cons _ .slnil))) ⟨by rw [show evE os vs x (f + 1) p = (bits .and .i64 (opV (os.getD p oq0) vs (argE (evE os vs x f) (p + 1) (arI (os.getD p oq0).k).toNat).1) (wmK x), (argE (evE os vs x f) (p + 1) (arI (os.getD p oq0).k).toNat).2) from rfl, ← hii, ← hz, hov]; rfl, rfl⟩
 refine zah 1 rfl (zbo [51, 47, 46, 29, 16, 13, 12, 11, 10, 9, 8, 3, 2, 1, 0] rfl (zbn (zar (zas rfl (zag (zao ?_))))))
 refine zbu rfl rfl rfl rfl rfl rfl (fun h12 => ?_) (fun h12 => ?_)
 ·
  refine zah 1 rfl (zbo [58, 51, 47, 46, 29, 16, 13, 12, 11, 10, 9, 8, 3, 2, 1, 0] rfl (zbn (zar (zaj rfl ?_))))
  refine zbv 10 [[], [], [1], [0, 2], [3], [], [5], [6], [4, 7], [8]] [60, 61, 62, 63, 64, 65, 66, 67, 68, 69] [u, .pointer (some ⟨b1, 0 + 1, none⟩), .int .i64 ((os.getD p oq0).a), elP u (((os.getD p oq0).a).toNat * 1), .int .i64 (vs.getD (((os.getD p oq0).a).toNat) 0), .pointer (some ⟨b1, 0 + 2, none⟩), .int .i64 ((os.getD p oq0).b), .int .u64 ((os.getD p oq0).b), .int .i64 ((vs.getD (((os.getD p oq0).a).toNat) 0) / 2 ^ ((os.getD p oq0).b : Int).toNat), .int .i64 (bits .and .i64 ((vs.getD (((os.getD p oq0).a).toNat) 0) / 2 ^ ((os.getD p oq0).b : Int).toNat) 1)] (by kernel_rfl) rfl ?_ ?_
  ·
   refine ⟨?_, ?_, ?_, ?_, ?_, ?_, ?_, ?_, ?_, ?_, trivial⟩
   · exact .inl ⟨rfl, zdc (zax rfl) rfl⟩
   · exact .inl ⟨rfl, zdc (zgi (k0 := 1) rfl (by kernel_rfl) rfl) rfl⟩
   · exact .inl ⟨rfl, zdc (zac rfl (by kernel_rfl) rfl (zaa 1 rfl rfl)) rfl⟩
   · exact .inl ⟨rfl, zdc (zdg (s := 1) rfl Try.underlying48 (by kernel_rfl) rfl rfl (zae hu) (by omega) (by omega)) rfl⟩
   · exact .inl ⟨rfl, zdc (zak (u := .int .i64 (vs.getD (((os.getD p oq0).a).toNat) 0)) rfl (by kernel_rfl) rfl (zae hu) (zca (show _ < vs.length by omega))) rfl⟩
   · exact .inl ⟨rfl, zdc (zgi (k0 := 2) rfl (by kernel_rfl) rfl) rfl⟩
   · exact .inl ⟨rfl, zdc (zac rfl (by kernel_rfl) rfl (zaa 1 rfl rfl)) rfl⟩
   · exact .inl ⟨rfl, zdc (rv_conv rfl Try.underlying3 Try.underlying154 rfl (IntWalk.u64_in _ (by omega))) rfl⟩
   · exact .inl ⟨rfl, zdc (rv_shr rfl rfl rfl (by omega)) rfl⟩
   exact .inl ⟨rfl, zdc (zdx rfl (by decide) rfl rfl (r := bits .and .i64 ((vs.getD (((os.getD p oq0).a).toNat) 0) / 2 ^ ((os.getD p oq0).b : Int).toNat) 1) rfl) rfl⟩
  refine zbo [69, 58, 51, 47, 46, 29, 16, 13, 12, 11, 10, 9, 8, 3, 2, 1, 0] rfl ?_
  simp only [List.drop_succ_cons, List.drop_zero]
  refine zah 1 rfl (zbo [58, 51, 47, 46, 29, 16, 13, 12, 11, 10, 9, 8, 3, 2, 1, 0] rfl (zbn (zbr (zar (zag (zao (zah 2 rfl (zfg rfl rfl rfl (zdx rfl (by decide) rfl rfl (r := bits .and .i64 (bits .and .i64 ((vs.getD (((os.getD p oq0).a).toNat) 0) / 2 ^ ((os.getD p oq0).b : Int).toNat) 1) (wmK x)) rfl) (zah 3 rfl (zbo [58, 51, 47, 46, 29, 16, 13, 12, 11, 10, 9, 8, 3, 2, 1, 0] rfl (zbn (zar ?_))))))))))))
  refine zap ?_
  have hii : i = (arI (os.getD p oq0).k).toNat := by omega
  have hov : opV (os.getD p oq0) vs zs = bits .and .i64 ((vs.getD (((os.getD p oq0).a).toNat) 0) / 2 ^ ((os.getD p oq0).b : Int).toNat) 1 := by unfold opV; (repeat' split) <;> first | rfl | (exfalso; omega) | omega
  exact zcw (rs := [.tmp 8, .tmp 9]) (vs := [.int .i64 (bits .and .i64 (bits .and .i64 ((vs.getD (((os.getD p oq0).a).toNat) 0) / 2 ^ ((os.getD p oq0).b : Int).toNat) 1) (wmK x)), .int .i64 ((argE (evE os vs x f) (p + 1) i).2 : Int)]) (post := []) rfl ⟨rfl, rfl, trivial⟩ rfl ((.cons _ (.cons _ .slnil))) ⟨by rw [show evE os vs x (f + 1) p = (bits .and .i64 (opV (os.getD p oq0) vs (argE (evE os vs x f) (p + 1) (arI (os.getD p oq0).k).toNat).1) (wmK x), (argE (evE os vs x f) (p + 1) (arI (os.getD p oq0).k).toNat).2) from rfl, ← hii, ← hz, hov]; rfl, rfl⟩
 refine zah 1 rfl (zbo [58, 51, 47, 46, 29, 16, 13, 12, 11, 10, 9, 8, 3, 2, 1, 0] rfl (zbn (zar (zas rfl (zag (zao ?_))))))
 refine zbu rfl rfl rfl rfl rfl rfl (fun h13 => ?_) (fun h13 => ?_)
 ·
  refine zah 1 rfl (zbo [70, 58, 51, 47, 46, 29, 16, 13, 12, 11, 10, 9, 8, 3, 2, 1, 0] rfl (zbn (zar (zaj rfl (zao (zah 1 rfl (zfg rfl rfl rfl (zdg (s := 1) rfl Try.underlying48 (by kernel_rfl) rfl rfl (zai 0 rfl) (by omega) (by omega)) (zfg rfl rfl rfl (zak (u := .int .i64 (zs.getD 0 0)) rfl (by kernel_rfl) rfl (zai 0 rfl) (zca (show _ < zs.length by omega))) (zfg rfl rfl rfl (rv_unx rfl rfl) (zah 1 rfl (zbo [70, 58, 51, 47, 46, 29, 16, 13, 12, 11, 10, 9, 8, 3, 2, 1, 0] rfl (zbn (zbr ?_)))))))))))))
  refine zar (zag (zao (zah 2 rfl (zfg rfl rfl rfl (zdx rfl (by decide) rfl rfl (r := bits .and .i64 (bits .xor .i64 (-1) (zs.getD 0 0)) (wmK x)) rfl) (zah 3 rfl (zbo [70, 58, 51, 47, 46, 29, 16, 13, 12, 11, 10, 9, 8, 3, 2, 1, 0] rfl (zbn (zar ?_))))))))
  refine zap ?_
  have hii : i = (arI (os.getD p oq0).k).toNat := by omega
  have hov : opV (os.getD p oq0) vs zs = bits .xor .i64 (-1) (zs.getD 0 0) := by unfold opV; (repeat' split) <;> first | rfl | (exfalso; omega) | omega
  exact zcw (rs := [.tmp 8, .tmp 9]) (vs := [.int .i64 (bits .and .i64 (bits .xor .i64 (-1) (zs.getD 0 0)) (wmK x)), .int .i64 ((argE (evE os vs x f) (p + 1) i).2 : Int)]) (post := []) rfl ⟨rfl, rfl, trivial⟩ rfl ((.cons _ (.cons _ .slnil))) ⟨by rw [show evE os vs x (f + 1) p = (bits .and .i64 (opV (os.getD p oq0) vs (argE (evE os vs x f) (p + 1) (arI (os.getD p oq0).k).toNat).1) (wmK x), (argE (evE os vs x f) (p + 1) (arI (os.getD p oq0).k).toNat).2) from rfl, ← hii, ← hz, hov]; rfl, rfl⟩
 refine zah 1 rfl (zbo [70, 58, 51, 47, 46, 29, 16, 13, 12, 11, 10, 9, 8, 3, 2, 1, 0] rfl (zbn (zar (zas rfl (zag (zao ?_))))))
 refine zbu rfl rfl rfl rfl rfl rfl (fun h14 => ?_) (fun h14 => ?_)
 ·
  refine zah 1 rfl (zbo [76, 70, 58, 51, 47, 46, 29, 16, 13, 12, 11, 10, 9, 8, 3, 2, 1, 0] rfl (zbn (zar (zaj rfl ?_))))
  refine zbv 7 [[], [0], [1], [], [3], [4], [2, 5]] [78, 79, 80, 81, 82, 83, 84] [gt, elP gt ((0 : Int).toNat * 1), .int .i64 (zs.getD 0 0), gt, elP gt ((1 : Int).toNat * 1), .int .i64 (zs.getD 1 0), .int .i64 (bits .and .i64 (zs.getD 0 0) (zs.getD 1 0))] (by kernel_rfl) rfl ?_ ?_
  ·
   refine ⟨?_, ?_, ?_, ?_, ?_, ?_, ?_, trivial⟩
   · exact .inl ⟨rfl, zdc (zax rfl) rfl⟩
   · exact .inl ⟨rfl, zdc (zdg (s := 1) rfl Try.underlying48 (by kernel_rfl) rfl rfl (zai 0 rfl) (by omega) (by omega)) rfl⟩
   · exact .inl ⟨rfl, zdc (zak (u := .int .i64 (zs.getD 0 0)) rfl (by kernel_rfl) rfl (zai 0 rfl) (zca (show _ < zs.length by omega))) rfl⟩
   · exact .inl ⟨rfl, zdc (zax rfl) rfl⟩
   · exact .inl ⟨rfl, zdc (zdg (s := 1) rfl Try.underlying48 (by kernel_rfl) rfl rfl (zai 0 rfl) (by omega) (by omega)) rfl⟩
   · exact .inl ⟨rfl, zdc (zak (u := .int .i64 (zs.getD 1 0)) rfl (by kernel_rfl) rfl (zai 0 rfl) (zca (show _ < zs.length by omega))) rfl⟩
   exact .inl ⟨rfl, zdc (zdx rfl (by decide) rfl rfl (r := bits .and .i64 (zs.getD 0 0) (zs.getD 1 0)) rfl) rfl⟩
  refine zbo [84, 76, 70, 58, 51, 47, 46, 29, 16, 13, 12, 11, 10, 9, 8, 3, 2, 1, 0] rfl ?_
  simp only [List.drop_succ_cons, List.drop_zero]
  refine zah 1 rfl (zbo [76, 70, 58, 51, 47, 46, 29, 16, 13, 12, 11, 10, 9, 8, 3, 2, 1, 0] rfl (zbn (zbr (zar (zag (zao (zah 2 rfl (zfg rfl rfl rfl (zdx rfl (by decide) rfl rfl (r := bits .and .i64 (bits .and .i64 (zs.getD 0 0) (zs.getD 1 0)) (wmK x)) rfl) (zah 3 rfl (zbo [76, 70, 58, 51, 47, 46, 29, 16, 13, 12, 11, 10, 9, 8, 3, 2, 1, 0] rfl (zbn (zar ?_))))))))))))
  refine zap ?_
  have hii : i = (arI (os.getD p oq0).k).toNat := by omega
  have hov : opV (os.getD p oq0) vs zs = bits .and .i64 (zs.getD 0 0) (zs.getD 1 0) := by unfold opV; (repeat' split) <;> first | rfl | (exfalso; omega) | omega
  exact zcw (rs := [.tmp 8, .tmp 9]) (vs := [.int .i64 (bits .and .i64 (bits .and .i64 (zs.getD 0 0) (zs.getD 1 0)) (wmK x)), .int .i64 ((argE (evE os vs x f) (p + 1) i).2 : Int)]) (post := []) rfl ⟨rfl, rfl, trivial⟩ rfl ((.cons _ (.cons _ .slnil))) ⟨by rw [show evE os vs x (f + 1) p = (bits .and .i64 (opV (os.getD p oq0) vs (argE (evE os vs x f) (p + 1) (arI (os.getD p oq0).k).toNat).1) (wmK x), (argE (evE os vs x f) (p + 1) (arI (os.getD p oq0).k).toNat).2) from rfl, ← hii, ← hz, hov]; rfl, rfl⟩
 refine zah 1 rfl (zbo [76, 70, 58, 51, 47, 46, 29, 16, 13, 12, 11, 10, 9, 8, 3, 2, 1, 0] rfl (zbn (zar (zas rfl (zag (zao ?_))))))
 refine zbu rfl rfl rfl rfl rfl rfl (fun h15 => ?_) (fun h15 => ?_)
 ·
  refine zah 1 rfl (zbo [85, 76, 70, 58, 51, 47, 46, 29, 16, 13, 12, 11, 10, 9, 8, 3, 2, 1, 0] rfl (zbn (zar (zaj rfl ?_))))
  refine zbv 7 [[], [0], [1], [], [3], [4], [2, 5]] [87, 88, 89, 90, 91, 92, 93] [gt, elP gt ((0 : Int).toNat * 1), .int .i64 (zs.getD 0 0), gt, elP gt ((1 : Int).toNat * 1), .int .i64 (zs.getD 1 0), .int .i64 (bits .or .i64 (zs.getD 0 0) (zs.getD 1 0))] (by kernel_rfl) rfl ?_ ?_
  ·
   refine ⟨?_, ?_, ?_, ?_, ?_, ?_, ?_, trivial⟩
   · exact .inl ⟨rfl, zdc (zax rfl) rfl⟩
   · exact .inl ⟨rfl, zdc (zdg (s := 1) rfl Try.underlying48 (by kernel_rfl) rfl rfl (zai 0 rfl) (by omega) (by omega)) rfl⟩
   · exact .inl ⟨rfl, zdc (zak (u := .int .i64 (zs.getD 0 0)) rfl (by kernel_rfl) rfl (zai 0 rfl) (zca (show _ < zs.length by omega))) rfl⟩
   · exact .inl ⟨rfl, zdc (zax rfl) rfl⟩
   · exact .inl ⟨rfl, zdc (zdg (s := 1) rfl Try.underlying48 (by kernel_rfl) rfl rfl (zai 0 rfl) (by omega) (by omega)) rfl⟩
   · exact .inl ⟨rfl, zdc (zak (u := .int .i64 (zs.getD 1 0)) rfl (by kernel_rfl) rfl (zai 0 rfl) (zca (show _ < zs.length by omega))) rfl⟩
   exact .inl ⟨rfl, zdc (zdx rfl (by decide) rfl rfl (r := bits .or .i64 (zs.getD 0 0) (zs.getD 1 0)) rfl) rfl⟩
  refine zbo [93, 85, 76, 70, 58, 51, 47, 46, 29, 16, 13, 12, 11, 10, 9, 8, 3, 2, 1, 0] rfl ?_
  simp only [List.drop_succ_cons, List.drop_zero]
  refine zah 1 rfl (zbo [85, 76, 70, 58, 51, 47, 46, 29, 16, 13, 12, 11, 10, 9, 8, 3, 2, 1, 0] rfl (zbn (zbr (zar (zag (zao (zah 2 rfl (zfg rfl rfl rfl (zdx rfl (by decide) rfl rfl (r := bits .and .i64 (bits .or .i64 (zs.getD 0 0) (zs.getD 1 0)) (wmK x)) rfl) (zah 3 rfl (zbo [85, 76, 70, 58, 51, 47, 46, 29, 16, 13, 12, 11, 10, 9, 8, 3, 2, 1, 0] rfl (zbn (zar ?_))))))))))))
  refine zap ?_
  have hii : i = (arI (os.getD p oq0).k).toNat := by omega
  have hov : opV (os.getD p oq0) vs zs = bits .or .i64 (zs.getD 0 0) (zs.getD 1 0) := by unfold opV; (repeat' split) <;> first | rfl | (exfalso; omega) | omega
  exact zcw (rs := [.tmp 8, .tmp 9]) (vs := [.int .i64 (bits .and .i64 (bits .or .i64 (zs.getD 0 0) (zs.getD 1 0)) (wmK x)), .int .i64 ((argE (evE os vs x f) (p + 1) i).2 : Int)]) (post := []) rfl ⟨rfl, rfl, trivial⟩ rfl ((.cons _ (.cons _ .slnil))) ⟨by rw [show evE os vs x (f + 1) p = (bits .and .i64 (opV (os.getD p oq0) vs (argE (evE os vs x f) (p + 1) (arI (os.getD p oq0).k).toNat).1) (wmK x), (argE (evE os vs x f) (p + 1) (arI (os.getD p oq0).k).toNat).2) from rfl, ← hii, ← hz, hov]; rfl, rfl⟩
 refine zah 1 rfl (zbo [85, 76, 70, 58, 51, 47, 46, 29, 16, 13, 12, 11, 10, 9, 8, 3, 2, 1, 0] rfl (zbn (zar (zas rfl (zag (zao ?_))))))
 refine zbu rfl rfl rfl rfl rfl rfl (fun h16 => ?_) (fun h16 => ?_)
 ·
  refine zah 1 rfl (zbo [94, 85, 76, 70, 58, 51, 47, 46, 29, 16, 13, 12, 11, 10, 9, 8, 3, 2, 1, 0] rfl (zbn (zar (zaj rfl ?_))))
  refine zbv 7 [[], [0], [1], [], [3], [4], [2, 5]] [96, 97, 98, 99, 100, 101, 102] [gt, elP gt ((0 : Int).toNat * 1), .int .i64 (zs.getD 0 0), gt, elP gt ((1 : Int).toNat * 1), .int .i64 (zs.getD 1 0), .int .i64 (bits .xor .i64 (zs.getD 0 0) (zs.getD 1 0))] (by kernel_rfl) rfl ?_ ?_
  ·
   refine ⟨?_, ?_, ?_, ?_, ?_, ?_, ?_, trivial⟩
   · exact .inl ⟨rfl, zdc (zax rfl) rfl⟩
   · exact .inl ⟨rfl, zdc (zdg (s := 1) rfl Try.underlying48 (by kernel_rfl) rfl rfl (zai 0 rfl) (by omega) (by omega)) rfl⟩
   · exact .inl ⟨rfl, zdc (zak (u := .int .i64 (zs.getD 0 0)) rfl (by kernel_rfl) rfl (zai 0 rfl) (zca (show _ < zs.length by omega))) rfl⟩
   · exact .inl ⟨rfl, zdc (zax rfl) rfl⟩
   · exact .inl ⟨rfl, zdc (zdg (s := 1) rfl Try.underlying48 (by kernel_rfl) rfl rfl (zai 0 rfl) (by omega) (by omega)) rfl⟩
   · exact .inl ⟨rfl, zdc (zak (u := .int .i64 (zs.getD 1 0)) rfl (by kernel_rfl) rfl (zai 0 rfl) (zca (show _ < zs.length by omega))) rfl⟩
   exact .inl ⟨rfl, zdc (zdx rfl (by decide) rfl rfl (r := bits .xor .i64 (zs.getD 0 0) (zs.getD 1 0)) rfl) rfl⟩
  refine zbo [102, 94, 85, 76, 70, 58, 51, 47, 46, 29, 16, 13, 12, 11, 10, 9, 8, 3, 2, 1, 0] rfl ?_
  simp only [List.drop_succ_cons, List.drop_zero]
  refine zah 1 rfl (zbo [94, 85, 76, 70, 58, 51, 47, 46, 29, 16, 13, 12, 11, 10, 9, 8, 3, 2, 1, 0] rfl (zbn (zbr (zar (zag (zao (zah 2 rfl (zfg rfl rfl rfl (zdx rfl (by decide) rfl rfl (r := bits .and .i64 (bits .xor .i64 (zs.getD 0 0) (zs.getD 1 0)) (wmK x)) rfl) (zah 3 rfl (zbo [94, 85, 76, 70, 58, 51, 47, 46, 29, 16, 13, 12, 11, 10, 9, 8, 3, 2, 1, 0] rfl (zbn (zar ?_))))))))))))
  refine zap ?_
  have hii : i = (arI (os.getD p oq0).k).toNat := by omega
  have hov : opV (os.getD p oq0) vs zs = bits .xor .i64 (zs.getD 0 0) (zs.getD 1 0) := by unfold opV; (repeat' split) <;> first | rfl | (exfalso; omega) | omega
  exact zcw (rs := [.tmp 8, .tmp 9]) (vs := [.int .i64 (bits .and .i64 (bits .xor .i64 (zs.getD 0 0) (zs.getD 1 0)) (wmK x)), .int .i64 ((argE (evE os vs x f) (p + 1) i).2 : Int)]) (post := []) rfl ⟨rfl, rfl, trivial⟩ rfl ((.cons _ (.cons _ .slnil))) ⟨by rw [show evE os vs x (f + 1) p = (bits .and .i64 (opV (os.getD p oq0) vs (argE (evE os vs x f) (p + 1) (arI (os.getD p oq0).k).toNat).1) (wmK x), (argE (evE os vs x f) (p + 1) (arI (os.getD p oq0).k).toNat).2) from rfl, ← hii, ← hz, hov]; rfl, rfl⟩
 refine zah 1 rfl (zbo [94, 85, 76, 70, 58, 51, 47, 46, 29, 16, 13, 12, 11, 10, 9, 8, 3, 2, 1, 0] rfl (zbn (zar (zas rfl (zag (zao ?_))))))
 refine zbu rfl rfl rfl rfl rfl rfl (fun h17 => ?_) (fun h17 => ?_)
 ·
  refine zah 1 rfl (zbo [103, 94, 85, 76, 70, 58, 51, 47, 46, 29, 16, 13, 12, 11, 10, 9, 8, 3, 2, 1, 0] rfl (zbn (zar (zaj rfl ?_))))
  refine zbv 7 [[], [0], [1], [], [3], [4], [2, 5]] [105, 106, 107, 108, 109, 110, 111] [gt, elP gt ((0 : Int).toNat * 1), .int .i64 (zs.getD 0 0), gt, elP gt ((1 : Int).toNat * 1), .int .i64 (zs.getD 1 0), .int .i64 ((zs.getD 0 0) + (zs.getD 1 0))] (by kernel_rfl) rfl ?_ ?_
  ·
   refine ⟨?_, ?_, ?_, ?_, ?_, ?_, ?_, trivial⟩
   · exact .inl ⟨rfl, zdc (zax rfl) rfl⟩
   · exact .inl ⟨rfl, zdc (zdg (s := 1) rfl Try.underlying48 (by kernel_rfl) rfl rfl (zai 0 rfl) (by omega) (by omega)) rfl⟩
   · exact .inl ⟨rfl, zdc (zak (u := .int .i64 (zs.getD 0 0)) rfl (by kernel_rfl) rfl (zai 0 rfl) (zca (show _ < zs.length by omega))) rfl⟩
   · exact .inl ⟨rfl, zdc (zax rfl) rfl⟩
   · exact .inl ⟨rfl, zdc (zdg (s := 1) rfl Try.underlying48 (by kernel_rfl) rfl rfl (zai 0 rfl) (by omega) (by omega)) rfl⟩
   · exact .inl ⟨rfl, zdc (zak (u := .int .i64 (zs.getD 1 0)) rfl (by kernel_rfl) rfl (zai 0 rfl) (zca (show _ < zs.length by omega))) rfl⟩
   exact .inl ⟨rfl, zdc (rv_add rfl rfl rfl (by constructor <;> omega)) rfl⟩
  refine zbo [111, 103, 94, 85, 76, 70, 58, 51, 47, 46, 29, 16, 13, 12, 11, 10, 9, 8, 3, 2, 1, 0] rfl ?_
  simp only [List.drop_succ_cons, List.drop_zero]
  refine zah 1 rfl (zbo [103, 94, 85, 76, 70, 58, 51, 47, 46, 29, 16, 13, 12, 11, 10, 9, 8, 3, 2, 1, 0] rfl (zbn (zbr (zar (zag (zao (zah 2 rfl (zfg rfl rfl rfl (zdx rfl (by decide) rfl rfl (r := bits .and .i64 ((zs.getD 0 0) + (zs.getD 1 0)) (wmK x)) rfl) (zah 3 rfl (zbo [103, 94, 85, 76, 70, 58, 51, 47, 46, 29, 16, 13, 12, 11, 10, 9, 8, 3, 2, 1, 0] rfl (zbn (zar ?_))))))))))))
  refine zap ?_
  have hii : i = (arI (os.getD p oq0).k).toNat := by omega
  have hov : opV (os.getD p oq0) vs zs = (zs.getD 0 0) + (zs.getD 1 0) := by unfold opV; (repeat' split) <;> first | rfl | (exfalso; omega) | omega
  exact zcw (rs := [.tmp 8, .tmp 9]) (vs := [.int .i64 (bits .and .i64 ((zs.getD 0 0) + (zs.getD 1 0)) (wmK x)), .int .i64 ((argE (evE os vs x f) (p + 1) i).2 : Int)]) (post := []) rfl ⟨rfl, rfl, trivial⟩ rfl ((.cons _ (.cons _ .slnil))) ⟨by rw [show evE os vs x (f + 1) p = (bits .and .i64 (opV (os.getD p oq0) vs (argE (evE os vs x f) (p + 1) (arI (os.getD p oq0).k).toNat).1) (wmK x), (argE (evE os vs x f) (p + 1) (arI (os.getD p oq0).k).toNat).2) from rfl, ← hii, ← hz, hov]; rfl, rfl⟩
 refine zah 1 rfl (zbo [103, 94, 85, 76, 70, 58, 51, 47, 46, 29, 16, 13, 12, 11, 10, 9, 8, 3, 2, 1, 0] rfl (zbn (zar (zas rfl (zag (zao ?_))))))
 refine zbu rfl rfl rfl rfl rfl rfl (fun h18 => ?_) (fun h18 => ?_)
 ·
  refine zah 1 rfl (zbo [112, 103, 94, 85, 76, 70, 58, 51, 47, 46, 29, 16, 13, 12, 11, 10, 9, 8, 3, 2, 1, 0] rfl (zbn (zar (zaj rfl ?_))))
  refine zbv 7 [[], [0], [1], [], [3], [4], [2, 5]] [114, 115, 116, 117, 118, 119, 120] [gt, elP gt ((0 : Int).toNat * 1), .int .i64 (zs.getD 0 0), gt, elP gt ((1 : Int).toNat * 1), .int .i64 (zs.getD 1 0), .int .i64 ((zs.getD 0 0) - (zs.getD 1 0))] (by kernel_rfl) rfl ?_ ?_
  ·
   refine ⟨?_, ?_, ?_, ?_, ?_, ?_, ?_, trivial⟩
   · exact .inl ⟨rfl, zdc (zax rfl) rfl⟩
   · exact .inl ⟨rfl, zdc (zdg (s := 1) rfl Try.underlying48 (by kernel_rfl) rfl rfl (zai 0 rfl) (by omega) (by omega)) rfl⟩
   · exact .inl ⟨rfl, zdc (zak (u := .int .i64 (zs.getD 0 0)) rfl (by kernel_rfl) rfl (zai 0 rfl) (zca (show _ < zs.length by omega))) rfl⟩
   · exact .inl ⟨rfl, zdc (zax rfl) rfl⟩
   · exact .inl ⟨rfl, zdc (zdg (s := 1) rfl Try.underlying48 (by kernel_rfl) rfl rfl (zai 0 rfl) (by omega) (by omega)) rfl⟩
   · exact .inl ⟨rfl, zdc (zak (u := .int .i64 (zs.getD 1 0)) rfl (by kernel_rfl) rfl (zai 0 rfl) (zca (show _ < zs.length by omega))) rfl⟩
   exact .inl ⟨rfl, zdc (rv_sub rfl rfl rfl (by constructor <;> omega)) rfl⟩
  refine zbo [120, 112, 103, 94, 85, 76, 70, 58, 51, 47, 46, 29, 16, 13, 12, 11, 10, 9, 8, 3, 2, 1, 0] rfl ?_
  simp only [List.drop_succ_cons, List.drop_zero]
  refine zah 1 rfl (zbo [112, 103, 94, 85, 76, 70, 58, 51, 47, 46, 29, 16, 13, 12, 11, 10, 9, 8, 3, 2, 1, 0] rfl (zbn (zbr (zar (zag (zao (zah 2 rfl (zfg rfl rfl rfl (zdx rfl (by decide) rfl rfl (r := bits .and .i64 ((zs.getD 0 0) - (zs.getD 1 0)) (wmK x)) rfl) (zah 3 rfl (zbo [112, 103, 94, 85, 76, 70, 58, 51, 47, 46, 29, 16, 13, 12, 11, 10, 9, 8, 3, 2, 1, 0] rfl (zbn (zar ?_))))))))))))
  refine zap ?_
  have hii : i = (arI (os.getD p oq0).k).toNat := by omega
  have hov : opV (os.getD p oq0) vs zs = (zs.getD 0 0) - (zs.getD 1 0) := by unfold opV; (repeat' split) <;> first | rfl | (exfalso; omega) | omega
  exact zcw (rs := [.tmp 8, .tmp 9]) (vs := [.int .i64 (bits .and .i64 ((zs.getD 0 0) - (zs.getD 1 0)) (wmK x)), .int .i64 ((argE (evE os vs x f) (p + 1) i).2 : Int)]) (post := []) rfl ⟨rfl, rfl, trivial⟩ rfl ((.cons _ (.cons _ .slnil))) ⟨by rw [show evE os vs x (f + 1) p = (bits .and .i64 (opV (os.getD p oq0) vs (argE (evE os vs x f) (p + 1) (arI (os.getD p oq0).k).toNat).1) (wmK x), (argE (evE os vs x f) (p + 1) (arI (os.getD p oq0).k).toNat).2) from rfl, ← hii, ← hz, hov]; rfl, rfl⟩
 refine zah 1 rfl (zbo [112, 103, 94, 85, 76, 70, 58, 51, 47, 46, 29, 16, 13, 12, 11, 10, 9, 8, 3, 2, 1, 0] rfl (zbn (zar (zas rfl (zag (zao ?_))))))
 refine zbu rfl rfl rfl rfl rfl rfl (fun h19 => ?_) (fun h19 => ?_)
 ·
  refine zah 1 rfl (zbo [121, 112, 103, 94, 85, 76, 70, 58, 51, 47, 46, 29, 16, 13, 12, 11, 10, 9, 8, 3, 2, 1, 0] rfl (zbn (zar (zaj rfl (zag ?_)))))
  rcases Bool.eq_false_or_eq_true ((zs.getD 0 0) == (zs.getD 1 0)) with hb20 | hb20
  ·
   have hb20p : zs.getD 0 0 = zs.getD 1 0 := beq_iff_eq.1 hb20
   refine zbv 7 [[], [0], [1], [], [3], [4], [2, 5]] [123, 124, 125, 126, 127, 128, 129] [gt, elP gt ((0 : Int).toNat * 1), .int .i64 (zs.getD 0 0), gt, elP gt ((1 : Int).toNat * 1), .int .i64 (zs.getD 1 0), .bool true] (by kernel_rfl) rfl ?_ ?_
   ·
    refine ⟨?_, ?_, ?_, ?_, ?_, ?_, ?_, trivial⟩
    · exact .inl ⟨rfl, zdc (zax rfl) rfl⟩
    · exact .inl ⟨rfl, zdc (zdg (s := 1) rfl Try.underlying48 (by kernel_rfl) rfl rfl (zai 0 rfl) (by omega) (by omega)) rfl⟩
    · exact .inl ⟨rfl, zdc (zak (u := .int .i64 (zs.getD 0 0)) rfl (by kernel_rfl) rfl (zai 0 rfl) (zca (show _ < zs.length by omega))) rfl⟩
    · exact .inl ⟨rfl, zdc (zax rfl) rfl⟩
    · exact .inl ⟨rfl, zdc (zdg (s := 1) rfl Try.underlying48 (by kernel_rfl) rfl rfl (zai 0 rfl) (by omega) (by omega)) rfl⟩
    · exact .inl ⟨rfl, zdc (zak (u := .int .i64 (zs.getD 1 0)) rfl (by kernel_rfl) rfl (zai 0 rfl) (zca (show _ < zs.length by omega))) rfl⟩
    exact .inl ⟨rfl, zdp (zck rfl rfl rfl rfl) hb20⟩
   refine zbo [129, 121, 112, 103, 94, 85, 76, 70, 58, 51, 47, 46, 29, 16, 13, 12, 11, 10, 9, 8, 3, 2, 1, 0] rfl ?_
   simp only [List.drop_succ_cons, List.drop_zero]
   refine zbo [129, 121, 112, 103, 94, 85, 76, 70, 58, 51, 47, 46, 29, 16, 13, 12, 11, 10, 9, 8, 3, 2, 1, 0] rfl (zbn (zar (zaj rfl (zao (zah 1 rfl (zbo [129, 121, 112, 103, 94, 85, 76, 70, 58, 51, 47, 46, 29, 16, 13, 12, 11, 10, 9, 8, 3, 2, 1, 0] rfl (zbn (zbr (zar (zag (zao (zah 2 rfl (zfg rfl rfl rfl (zdx rfl (by decide) rfl rfl (r := bits .and .i64 1 (wmK x)) rfl) ?_)))))))))))))
   refine zah 3 rfl (zbo [129, 121, 112, 103, 94, 85, 76, 70, 58, 51, 47, 46, 29, 16, 13, 12, 11, 10, 9, 8, 3, 2, 1, 0] rfl (zbn (zar ?_)))
   refine zap ?_
   have hii : i = (arI (os.getD p oq0).k).toNat := by omega
   have hov : opV (os.getD p oq0) vs zs = 1 := by unfold opV; (repeat' split) <;> first | rfl | (exfalso; omega) | omega
   exact zcw (rs := [.tmp 8, .tmp 9]) (vs := [.int .i64 (bits .and .i64 1 (wmK x)), .int .i64 ((argE (evE os vs x f) (p + 1) i).2 : Int)]) (post := []) rfl ⟨rfl, rfl, trivial⟩ rfl ((.cons _ (.cons _ .slnil))) ⟨by rw [show evE os vs x (f + 1) p = (bits .and .i64 (opV (os.getD p oq0) vs (argE (evE os vs x f) (p + 1) (arI (os.getD p oq0).k).toNat).1) (wmK x), (argE (evE os vs x f) (p + 1) (arI (os.getD p oq0).k).toNat).2) from rfl, ← hii, ← hz, hov]; rfl, rfl⟩
  have hb20p : zs.getD 0 0 ≠ zs.getD 1 0 := beq_eq_false_iff_ne.1 hb20
  refine zbv 7 [[], [0], [1], [], [3], [4], [2, 5]] [123, 124, 125, 126, 127, 128, 129] [gt, elP gt ((0 : Int).toNat * 1), .int .i64 (zs.getD 0 0), gt, elP gt ((1 : Int).toNat * 1), .int .i64 (zs.getD 1 0), .bool false] (by kernel_rfl) rfl ?_ ?_
  ·
   refine ⟨?_, ?_, ?_, ?_, ?_, ?_, ?_, trivial⟩
   · exact .inl ⟨rfl, zdc (zax rfl) rfl⟩
   · exact .inl ⟨rfl, zdc (zdg (s := 1) rfl Try.underlying48 (by kernel_rfl) rfl rfl (zai 0 rfl) (by omega) (by omega)) rfl⟩
   · exact .inl ⟨rfl, zdc (zak (u := .int .i64 (zs.getD 0 0)) rfl (by kernel_rfl) rfl (zai 0 rfl) (zca (show _ < zs.length by omega))) rfl⟩
   · exact .inl ⟨rfl, zdc (zax rfl) rfl⟩
   · exact .inl ⟨rfl, zdc (zdg (s := 1) rfl Try.underlying48 (by kernel_rfl) rfl rfl (zai 0 rfl) (by omega) (by omega)) rfl⟩
   · exact .inl ⟨rfl, zdc (zak (u := .int .i64 (zs.getD 1 0)) rfl (by kernel_rfl) rfl (zai 0 rfl) (zca (show _ < zs.length by omega))) rfl⟩
   exact .inl ⟨rfl, zdp (zck rfl rfl rfl rfl) hb20⟩
  refine zbo [129, 121, 112, 103, 94, 85, 76, 70, 58, 51, 47, 46, 29, 16, 13, 12, 11, 10, 9, 8, 3, 2, 1, 0] rfl ?_
  simp only [List.drop_succ_cons, List.drop_zero]
  refine zbo [129, 121, 112, 103, 94, 85, 76, 70, 58, 51, 47, 46, 29, 16, 13, 12, 11, 10, 9, 8, 3, 2, 1, 0] rfl (zbn (zar (zas rfl (zfz (zbr (zar (zag (zao (zah 2 rfl (zfg rfl rfl rfl (zdx rfl (by decide) rfl rfl (r := bits .and .i64 0 (wmK x)) rfl) (zah 3 rfl (zbo [129, 121, 112, 103, 94, 85, 76, 70, 58, 51, 47, 46, 29, 16, 13, 12, 11, 10, 9, 8, 3, 2, 1, 0] rfl (zbn ?_)))))))))))))
  refine zar ?_
  refine zap ?_
  have hii : i = (arI (os.getD p oq0).k).toNat := by omega
  have hov : opV (os.getD p oq0) vs zs = 0 := by unfold opV; (repeat' split) <;> first | rfl | (exfalso; omega) | omega
  exact zcw (rs := [.tmp 8, .tmp 9]) (vs := [.int .i64 (bits .and .i64 0 (wmK x)), .int .i64 ((argE (evE os vs x f) (p + 1) i).2 : Int)]) (post := []) rfl ⟨rfl, rfl, trivial⟩ rfl ((.cons _ (.cons _ .slnil))) ⟨by rw [show evE os vs x (f + 1) p = (bits .and .i64 (opV (os.getD p oq0) vs (argE (evE os vs x f) (p + 1) (arI (os.getD p oq0).k).toNat).1) (wmK x), (argE (evE os vs x f) (p + 1) (arI (os.getD p oq0).k).toNat).2) from rfl, ← hii, ← hz, hov]; rfl, rfl⟩
 refine zah 1 rfl (zbo [121, 112, 103, 94, 85, 76, 70, 58, 51, 47, 46, 29, 16, 13, 12, 11, 10, 9, 8, 3, 2, 1, 0] rfl (zbn (zar (zas rfl (zag (zao ?_))))))
 refine zbu rfl rfl rfl rfl rfl rfl (fun h21 => ?_) (fun h21 => ?_)
 ·
  refine zah 1 rfl (zbo [130, 121, 112, 103, 94, 85, 76, 70, 58, 51, 47, 46, 29, 16, 13, 12, 11, 10, 9, 8, 3, 2, 1, 0] rfl (zbn (zar (zaj rfl (zag ?_)))))
  rcases Bool.eq_false_or_eq_true (decide (zs.getD 0 0 < zs.getD 1 0)) with hb22 | hb22
  ·
   have hb22p : zs.getD 0 0 < zs.getD 1 0 := of_decide_eq_true hb22
   refine zbv 7 [[], [0], [1], [], [3], [4], [2, 5]] [132, 133, 134, 135, 136, 137, 138] [gt, elP gt ((0 : Int).toNat * 1), .int .i64 (zs.getD 0 0), gt, elP gt ((1 : Int).toNat * 1), .int .i64 (zs.getD 1 0), .bool true] (by kernel_rfl) rfl ?_ ?_
   ·
    refine ⟨?_, ?_, ?_, ?_, ?_, ?_, ?_, trivial⟩
    · exact .inl ⟨rfl, zdc (zax rfl) rfl⟩
    · exact .inl ⟨rfl, zdc (zdg (s := 1) rfl Try.underlying48 (by kernel_rfl) rfl rfl (zai 0 rfl) (by omega) (by omega)) rfl⟩
    · exact .inl ⟨rfl, zdc (zak (u := .int .i64 (zs.getD 0 0)) rfl (by kernel_rfl) rfl (zai 0 rfl) (zca (show _ < zs.length by omega))) rfl⟩
    · exact .inl ⟨rfl, zdc (zax rfl) rfl⟩
    · exact .inl ⟨rfl, zdc (zdg (s := 1) rfl Try.underlying48 (by kernel_rfl) rfl rfl (zai 0 rfl) (by omega) (by omega)) rfl⟩
    · exact .inl ⟨rfl, zdc (zak (u := .int .i64 (zs.getD 1 0)) rfl (by kernel_rfl) rfl (zai 0 rfl) (zca (show _ < zs.length by omega))) rfl⟩
    exact .inl ⟨rfl, zdp (zck rfl rfl rfl rfl) hb22⟩
   refine zbo [138, 130, 121, 112, 103, 94, 85, 76, 70, 58, 51, 47, 46, 29, 16, 13, 12, 11, 10, 9, 8, 3, 2, 1, 0] rfl ?_
   simp only [List.drop_succ_cons, List.drop_zero]
   refine zbo [138, 130, 121, 112, 103, 94, 85, 76, 70, 58, 51, 47, 46, 29, 16, 13, 12, 11, 10, 9, 8, 3, 2, 1, 0] rfl (zbn (zar (zaj rfl (zao (zah 1 rfl (zbo [138, 130, 121, 112, 103, 94, 85, 76, 70, 58, 51, 47, 46, 29, 16, 13, 12, 11, 10, 9, 8, 3, 2, 1, 0] rfl (zbn (zbr (zar (zag (zao (zah 2 rfl (zfg rfl rfl rfl (zdx rfl (by decide) rfl rfl (r := bits .and .i64 1 (wmK x)) rfl) ?_)))))))))))))
   refine zah 3 rfl (zbo [138, 130, 121, 112, 103, 94, 85, 76, 70, 58, 51, 47, 46, 29, 16, 13, 12, 11, 10, 9, 8, 3, 2, 1, 0] rfl (zbn (zar ?_)))
   refine zap ?_
   have hii : i = (arI (os.getD p oq0).k).toNat := by omega
   have hov : opV (os.getD p oq0) vs zs = 1 := by unfold opV; (repeat' split) <;> first | rfl | (exfalso; omega) | omega
   exact zcw (rs := [.tmp 8, .tmp 9]) (vs := [.int .i64 (bits .and .i64 1 (wmK x)), .int .i64 ((argE (evE os vs x f) (p + 1) i).2 : Int)]) (post := []) rfl ⟨rfl, rfl, trivial⟩ rfl ((.cons _ (.cons _ .slnil))) ⟨by rw [show evE os vs x (f + 1) p = (bits .and .i64 (opV (os.getD p oq0) vs (argE (evE os vs x f) (p + 1) (arI (os.getD p oq0).k).toNat).1) (wmK x), (argE (evE os vs x f) (p + 1) (arI (os.getD p oq0).k).toNat).2) from rfl, ← hii, ← hz, hov]; rfl, rfl⟩
  have hb22p : ¬ (zs.getD 0 0 < zs.getD 1 0) := of_decide_eq_false hb22
  refine zbv 7 [[], [0], [1], [], [3], [4], [2, 5]] [132, 133, 134, 135, 136, 137, 138] [gt, elP gt ((0 : Int).toNat * 1), .int .i64 (zs.getD 0 0), gt, elP gt ((1 : Int).toNat * 1), .int .i64 (zs.getD 1 0), .bool false] (by kernel_rfl) rfl ?_ ?_
  ·
   refine ⟨?_, ?_, ?_, ?_, ?_, ?_, ?_, trivial⟩
   · exact .inl ⟨rfl, zdc (zax rfl) rfl⟩
   · exact .inl ⟨rfl, zdc (zdg (s := 1) rfl Try.underlying48 (by kernel_rfl) rfl rfl (zai 0 rfl) (by omega) (by omega)) rfl⟩
   · exact .inl ⟨rfl, zdc (zak (u := .int .i64 (zs.getD 0 0)) rfl (by kernel_rfl) rfl (zai 0 rfl) (zca (show _ < zs.length by omega))) rfl⟩
   · exact .inl ⟨rfl, zdc (zax rfl) rfl⟩
   · exact .inl ⟨rfl, zdc (zdg (s := 1) rfl Try.underlying48 (by kernel_rfl) rfl rfl (zai 0 rfl) (by omega) (by omega)) rfl⟩
   · exact .inl ⟨rfl, zdc (zak (u := .int .i64 (zs.getD 1 0)) rfl (by kernel_rfl) rfl (zai 0 rfl) (zca (show _ < zs.length by omega))) rfl⟩
   exact .inl ⟨rfl, zdp (zck rfl rfl rfl rfl) hb22⟩
  refine zbo [138, 130, 121, 112, 103, 94, 85, 76, 70, 58, 51, 47, 46, 29, 16, 13, 12, 11, 10, 9, 8, 3, 2, 1, 0] rfl ?_
  simp only [List.drop_succ_cons, List.drop_zero]
  refine zbo [138, 130, 121, 112, 103, 94, 85, 76, 70, 58, 51, 47, 46, 29, 16, 13, 12, 11, 10, 9, 8, 3, 2, 1, 0] rfl (zbn (zar (zas rfl (zfz (zbr (zar (zag (zao (zah 2 rfl (zfg rfl rfl rfl (zdx rfl (by decide) rfl rfl (r := bits .and .i64 0 (wmK x)) rfl) (zah 3 rfl (zbo [138, 130, 121, 112, 103, 94, 85, 76, 70, 58, 51, 47, 46, 29, 16, 13, 12, 11, 10, 9, 8, 3, 2, 1, 0] rfl (zbn ?_)))))))))))))
  refine zar ?_
  refine zap ?_
  have hii : i = (arI (os.getD p oq0).k).toNat := by omega
  have hov : opV (os.getD p oq0) vs zs = 0 := by unfold opV; (repeat' split) <;> first | rfl | (exfalso; omega) | omega
  exact zcw (rs := [.tmp 8, .tmp 9]) (vs := [.int .i64 (bits .and .i64 0 (wmK x)), .int .i64 ((argE (evE os vs x f) (p + 1) i).2 : Int)]) (post := []) rfl ⟨rfl, rfl, trivial⟩ rfl ((.cons _ (.cons _ .slnil))) ⟨by rw [show evE os vs x (f + 1) p = (bits .and .i64 (opV (os.getD p oq0) vs (argE (evE os vs x f) (p + 1) (arI (os.getD p oq0).k).toNat).1) (wmK x), (argE (evE os vs x f) (p + 1) (arI (os.getD p oq0).k).toNat).2) from rfl, ← hii, ← hz, hov]; rfl, rfl⟩
 refine zah 1 rfl (zbo [130, 121, 112, 103, 94, 85, 76, 70, 58, 51, 47, 46, 29, 16, 13, 12, 11, 10, 9, 8, 3, 2, 1, 0] rfl (zbn (zar (zas rfl (zag (zao ?_))))))
 refine zbu rfl rfl rfl rfl rfl rfl (fun h23 => ?_) (fun h23 => ?_)
 ·
  refine zah 1 rfl (zbo [139, 130, 121, 112, 103, 94, 85, 76, 70, 58, 51, 47, 46, 29, 16, 13, 12, 11, 10, 9, 8, 3, 2, 1, 0] rfl (zbn (zar (zaj rfl (zag (zao (zah 1 rfl (zfg rfl rfl rfl (zdg (s := 1) rfl Try.underlying48 (by kernel_rfl) rfl rfl (zai 0 rfl) (by omega) (by omega)) (zfg rfl rfl rfl (zak (u := .int .i64 (zs.getD 2 0)) rfl (by kernel_rfl) rfl (zai 0 rfl) (zca (show _ < zs.length by omega))) (zah 1 rfl (zbo [139, 130, 121, 112, 103, 94, 85, 76, 70, 58, 51, 47, 46, 29, 16, 13, 12, 11, 10, 9, 8, 3, 2, 1, 0] rfl (zbn (zar ?_)))))))))))))
  refine zag (zao (zah 1 rfl (zfg rfl rfl rfl (zdg (s := 1) rfl Try.underlying48 (by kernel_rfl) rfl rfl (zai 0 rfl) (by omega) (by omega)) (zfg rfl rfl rfl (zak (u := .int .i64 (zs.getD 0 0)) rfl (by kernel_rfl) rfl (zai 0 rfl) (zca (show _ < zs.length by omega))) ?_))))
  refine zff rfl rfl rfl rfl rfl rfl (fun h24 => ?_) (fun h24 => ?_)
  ·
   refine zbo [147, 139, 130, 121, 112, 103, 94, 85, 76, 70, 58, 51, 47, 46, 29, 16, 13, 12, 11, 10, 9, 8, 3, 2, 1, 0] rfl (zbn (zar (zaj rfl (zao (zah 1 rfl (zfg rfl rfl rfl (zdg (s := 1) rfl Try.underlying48 (by kernel_rfl) rfl rfl (zai 0 rfl) (by omega) (by omega)) (zfg rfl rfl rfl (zak (u := .int .i64 (zs.getD 1 0)) rfl (by kernel_rfl) rfl (zai 0 rfl) (zca (show _ < zs.length by omega))) (zah 1 rfl (zbo [147, 139, 130, 121, 112, 103, 94, 85, 76, 70, 58, 51, 47, 46, 29, 16, 13, 12, 11, 10, 9, 8, 3, 2, 1, 0] rfl (zbn (zbr (zar (zag ?_)))))))))))))
   refine zao (zah 2 rfl (zfg rfl rfl rfl (zdx rfl (by decide) rfl rfl (r := bits .and .i64 (zs.getD 1 0) (wmK x)) rfl) (zah 3 rfl (zbo [147, 139, 130, 121, 112, 103, 94, 85, 76, 70, 58, 51, 47, 46, 29, 16, 13, 12, 11, 10, 9, 8, 3, 2, 1, 0] rfl (zbn (zar ?_))))))
   refine zap ?_
   have hii : i = (arI (os.getD p oq0).k).toNat := by omega
   have hov : opV (os.getD p oq0) vs zs = zs.getD 1 0 := by unfold opV; (repeat' split) <;> first | rfl | (exfalso; omega) | omega
   exact zcw (rs := [.tmp 8, .tmp 9]) (vs := [.int .i64 (bits .and .i64 (zs.getD 1 0) (wmK x)), .int .i64 ((argE (evE os vs x f) (p + 1) i).2 : Int)]) (post := []) rfl ⟨rfl, rfl, trivial⟩ rfl ((.cons _ (.cons _ .slnil))) ⟨by rw [show evE os vs x (f + 1) p = (bits .and .i64 (opV (os.getD p oq0) vs (argE (evE os vs x f) (p + 1) (arI (os.getD p oq0).k).toNat).1) (wmK x), (argE (evE os vs x f) (p + 1) (arI (os.getD p oq0).k).toNat).2) from rfl, ← hii, ← hz, hov]; rfl, rfl⟩
  refine zbo [147, 139, 130, 121, 112, 103, 94, 85, 76, 70, 58, 51, 47, 46, 29, 16, 13, 12, 11, 10, 9, 8, 3, 2, 1, 0] rfl (zbn (zar (zas rfl (zfz (zbr (zar (zag (zao (zah 2 rfl (zfg rfl rfl rfl (zdx rfl (by decide) rfl rfl (r := bits .and .i64 (zs.getD 2 0) (wmK x)) rfl) (zah 3 rfl (zbo [147, 139, 130, 121, 112, 103, 94, 85, 76, 70, 58, 51, 47, 46, 29, 16, 13, 12, 11, 10, 9, 8, 3, 2, 1, 0] rfl (zbn ?_)))))))))))))
  refine zar ?_
  refine zap ?_
  have hii : i = (arI (os.getD p oq0).k).toNat := by omega
  have hov : opV (os.getD p oq0) vs zs = zs.getD 2 0 := by unfold opV; (repeat' split) <;> first | rfl | (exfalso; omega) | omega
  exact zcw (rs := [.tmp 8, .tmp 9]) (vs := [.int .i64 (bits .and .i64 (zs.getD 2 0) (wmK x)), .int .i64 ((argE (evE os vs x f) (p + 1) i).2 : Int)]) (post := []) rfl ⟨rfl, rfl, trivial⟩ rfl ((.cons _ (.cons _ .slnil))) ⟨by rw [show evE os vs x (f + 1) p = (bits .and .i64 (opV (os.getD p oq0) vs (argE (evE os vs x f) (p + 1) (arI (os.getD p oq0).k).toNat).1) (wmK x), (argE (evE os vs x f) (p + 1) (arI (os.getD p oq0).k).toNat).2) from rfl, ← hii, ← hz, hov]; rfl, rfl⟩
 refine zah 1 rfl (zbo [139, 130, 121, 112, 103, 94, 85, 76, 70, 58, 51, 47, 46, 29, 16, 13, 12, 11, 10, 9, 8, 3, 2, 1, 0] rfl (zbn (zar (zas rfl (zfz (zbr (zar (zag (zao (zah 2 rfl (zfg rfl rfl rfl (zdx rfl (by decide) rfl rfl (r := bits .and .i64 0 (wmK x)) rfl) (zah 3 rfl (zbo [139, 130, 121, 112, 103, 94, 85, 76, 70, 58, 51, 47, 46, 29, 16, 13, 12, 11, 10, 9, 8, 3, 2, 1, 0] rfl ?_)))))))))))))
 refine zbn (zar ?_)
 refine zap ?_
 have hii : i = (arI (os.getD p oq0).k).toNat := by omega
 have hov : opV (os.getD p oq0) vs zs = 0 := by unfold opV; (repeat' split) <;> first | rfl | (exfalso; omega) | omega
 exact zcw (rs := [.tmp 8, .tmp 9]) (vs := [.int .i64 (bits .and .i64 0 (wmK x)), .int .i64 ((argE (evE os vs x f) (p + 1) i).2 : Int)]) (post := []) rfl ⟨rfl, rfl, trivial⟩ rfl ((.cons _ (.cons _ .slnil))) ⟨by rw [show evE os vs x (f + 1) p = (bits .and .i64 (opV (os.getD p oq0) vs (argE (evE os vs x f) (p + 1) (arI (os.getD p oq0).k).toNat).1) (wmK x), (argE (evE os vs x f) (p + 1) (arI (os.getD p oq0).k).toNat).2) from rfl, ← hii, ← hz, hov]; rfl, rfl⟩
theorem exprAt_ret (os : List Oq) (vs : List Int) (x : Int) (v u : Value) (hok : OpsP vs.length os) (hx : 0 ≤ x ∧ x ≤ 4) : ∀ (f p : Nat), os.length - p ≤ f → p < os.length → ∀ (w : World), RdsW w v 3 os.length (os.flatMap oqC) → RdsW w u 1 vs.length (vs.map (Value.int .i64)) →
    Calls Try.prog 104 #[v, .int .i64 (p : Int), u, .int .i64 x] w (Ret w (fun u_ p_ => u_ = .tuple #[.int .i64 (evE os vs x f p).1, .int .i64 ((evE os vs x f p).2 : Int)] ∧ p_ = []))
  | 0, p, h, hp, w, hv, hu => by omega
  | f + 1, p, h, hp, w, hv, hu => exprAt_step os vs x f p v u w hv hu hok hp h hx (fun q h1 h2 w2 hv2 hu2 => exprAt_ret os vs x v u hok hx f q (by omega) h2 w2 hv2 hu2)
theorem readsSignal_ans (os : List Oq) (s : Int) (v : Value) (w : World) (hv : RdsW w v 3 os.length (os.flatMap oqC)) :
   Calls Try.prog 115 #[v, .int .i64 s] w (Ans w (.bool (pB (RdS os s)))) := by
 have hv9 := sml hv
 refine zbw (N := 28) (args := [v, .int .i64 s]) Try.func115 rfl rfl (zbh 1 rfl (zag (zag (reQ 1 rfl (hvQ rfl (lnQ rfl rfl rfl (zae hv)) (zah 1 rfl (?_)))))))
 refine ntQ (zba ?_)
 refine lkQ1 (α := Nat) [0, 1, 4, 7, 8] rfl (fun i => []) (fun i => [(9, .int .i64 (i : Int))]) (fun i => i ≤ os.length ∧ ∀ q, q < i → ¬ (((os.getD q oq0).k = 2 ∨ (os.getD q oq0).k = 3) ∧ (os.getD q oq0).a = s)) (fun i => os.length - i) 0 ⟨Nat.zero_le _, fun q hq => absurd hq (by omega)⟩ (saQ rfl) (.slnil) ?_
 intro i hi1
 obtain ⟨hi, hall⟩ := hi1
 refine srQ ?_
 refine zbp rfl rfl rfl rfl rfl rfl (fun h2 => ?_) (fun h2 => ?_)
 ·
  refine ntQ (tcQ rfl (zcy (sbQ (srQ (hvQ rfl (riQ 3 rfl rfl rfl rfl (zae hv)) ?_)))))
  refine hvQ rfl (zbj (us := [.int .i64 ((os.getD i oq0).k), .int .i64 ((os.getD i oq0).a), .int .i64 ((os.getD i oq0).b)]) rfl rfl rfl rfl (zae hv) (by omega) rfl (zby oqC 3 (fun _ => rfl) os oq0 (show i < _ by omega) rfl)) (zdk rfl (zbf (z := .agg #[.int .i64 0, .int .i64 0, .int .i64 0]) rfl rfl) ?_)
  intro b3
  refine zbd (cs' := #[.int .i64 ((os.getD i oq0).k), .int .i64 ((os.getD i oq0).a), .int .i64 ((os.getD i oq0).b)]) (i := 0) (off := 0) (us := [.int .i64 ((os.getD i oq0).k), .int .i64 ((os.getD i oq0).a), .int .i64 ((os.getD i oq0).b)]) rfl rfl rfl rfl rfl rfl rfl (zab rfl (zab rfl (zab rfl zbb))) rfl rfl rfl (ntQ (srQ (hvQ rfl (fdQ 0 rfl rfl rfl) (hvQ rfl (zac rfl rfl rfl (zaa 0 rfl rfl)) ?_))))
  refine zbu rfl rfl rfl rfl rfl rfl (fun h4 => ?_) (fun h4 => ?_)
  ·
   refine zah 6 rfl (hvQ rfl (fdQ 1 rfl rfl rfl) (hvQ rfl (zac rfl rfl rfl (zaa 0 rfl rfl)) (zah 1 rfl ?_)))
   refine zbu rfl rfl rfl rfl rfl rfl (fun h5 => ?_) (fun h5 => ?_)
   ·
    refine zaz 1 rfl (zaj rfl (zbh 1 rfl ?_))
    refine zap (zad ?_)
    refine zdw ?_
    refine zad (zaf ?_)
    exact zay rfl rfl (congrArg _ (zdf ⟨i, by omega, by omega, by omega⟩).symm)
   refine zaz 1 rfl (fsQ rfl (zde (zao (hvQ rfl (vaQ rfl rfl rfl) (enQ 1 rfl ?_)))))
   exact zbt (i + 1) ⟨by omega, fun q hq => by by_cases e : q = i; (subst e; omega); exact hall q (by omega)⟩ (by omega) (saQ rfl) (slQ [] rfl)
  refine zah 1 rfl (hvQ rfl (fdQ 0 rfl rfl rfl) (hvQ rfl (zac rfl rfl rfl (zaa 0 rfl rfl)) ?_))
  refine zbu rfl rfl rfl rfl rfl rfl (fun h6 => ?_) (fun h6 => ?_)
  ·
   refine zah 2 rfl (hvQ rfl (fdQ 1 rfl rfl rfl) (hvQ rfl (zac rfl rfl rfl (zaa 0 rfl rfl)) (zah 1 rfl ?_)))
   refine zbu rfl rfl rfl rfl rfl rfl (fun h7 => ?_) (fun h7 => ?_)
   ·
    refine zaz 1 rfl (zaj rfl (zbh 1 rfl ?_))
    refine zap (zad ?_)
    refine zdw ?_
    refine zad (zaf ?_)
    exact zay rfl rfl (congrArg _ (zdf ⟨i, by omega, by omega, by omega⟩).symm)
   refine zaz 1 rfl (fsQ rfl (zde (zao (hvQ rfl (vaQ rfl rfl rfl) (enQ 1 rfl ?_)))))
   exact zbt (i + 1) ⟨by omega, fun q hq => by by_cases e : q = i; (subst e; omega); exact hall q (by omega)⟩ (by omega) (saQ rfl) (slQ [] rfl)
  refine zaz 7 rfl (fsQ rfl (zde (zao ?_)))
  refine hvQ rfl (vaQ rfl rfl rfl) (enQ 1 rfl ?_)
  exact zbt (i + 1) ⟨by omega, fun q hq => by by_cases e : q = i; (subst e; omega); exact hall q (by omega)⟩ (by omega) (saQ rfl) (slQ [] rfl)
 refine ntQ (fcQ rfl ?_)
 refine zbi (zdv ?_)
 refine zal (zar (zbh 1 rfl ?_))
 exact zap (zay rfl rfl (congrArg _ (zcb (fun hp => by first | (obtain ⟨q, h1, h2, h3⟩ := hp; exact hall q (by omega) ⟨h2, h3⟩))).symm))
theorem hasParam_ans (os : List Oq) (v : Value) (w : World) (hv : RdsW w v 3 os.length (os.flatMap oqC)) :
   Calls Try.prog 73 #[v] w (Ans w (.bool (pB (HpP os)))) := by
 have hv9 := sml hv
 refine zbw (N := 15) (args := [v]) Try.func73 rfl rfl (zbh 1 rfl (zag (zag (reQ 1 rfl (hvQ rfl (lnQ rfl rfl rfl (zae hv)) (zah 1 rfl (?_)))))))
 refine ntQ (zba ?_)
 refine lkQ1 (α := Nat) [0, 2, 5, 6] rfl (fun i => []) (fun i => [(7, .int .i64 (i : Int))]) (fun i => i ≤ os.length ∧ ∀ q, q < i → (os.getD q oq0).k ≠ 1) (fun i => os.length - i) 0 ⟨Nat.zero_le _, fun q hq => absurd hq (by omega)⟩ (saQ rfl) (.slnil) ?_
 intro i hi1
 obtain ⟨hi, hall⟩ := hi1
 refine srQ ?_
 refine zbp rfl rfl rfl rfl rfl rfl (fun h2 => ?_) (fun h2 => ?_)
 ·
  refine ntQ (tcQ rfl (zcy (sbQ (srQ (hvQ rfl (riQ 3 rfl rfl rfl rfl (zae hv)) ?_)))))
  refine hvQ rfl (zbj (us := [.int .i64 ((os.getD i oq0).k), .int .i64 ((os.getD i oq0).a), .int .i64 ((os.getD i oq0).b)]) rfl rfl rfl rfl (zae hv) (by omega) rfl (zby oqC 3 (fun _ => rfl) os oq0 (show i < _ by omega) rfl)) (zdk rfl (zbf (z := .agg #[.int .i64 0, .int .i64 0, .int .i64 0]) rfl rfl) ?_)
  intro b3
  refine zbd (cs' := #[.int .i64 ((os.getD i oq0).k), .int .i64 ((os.getD i oq0).a), .int .i64 ((os.getD i oq0).b)]) (i := 0) (off := 0) (us := [.int .i64 ((os.getD i oq0).k), .int .i64 ((os.getD i oq0).a), .int .i64 ((os.getD i oq0).b)]) rfl rfl rfl rfl rfl rfl rfl (zab rfl (zab rfl (zab rfl zbb))) rfl rfl rfl (ntQ (srQ (hvQ rfl (fdQ 0 rfl rfl rfl) (hvQ rfl (zac rfl rfl rfl (zaa 0 rfl rfl)) ?_))))
  refine zbu rfl rfl rfl rfl rfl rfl (fun h4 => ?_) (fun h4 => ?_)
  ·
   refine ntQ (zaj rfl (zbh 1 rfl ?_))
   refine zap (zad ?_)
   refine zdw ?_
   refine zad (zaf ?_)
   exact zay rfl rfl (congrArg _ (zdf ⟨i, by omega, by omega⟩).symm)
  refine ntQ (fsQ rfl (zde (zao (hvQ rfl (vaQ rfl rfl rfl) (enQ 1 rfl ?_)))))
  exact zbt (i + 1) ⟨by omega, fun q hq => by by_cases e : q = i; (subst e; omega); exact hall q (by omega)⟩ (by omega) (saQ rfl) (slQ [] rfl)
 refine ntQ (fcQ rfl ?_)
 refine zbi (zdv ?_)
 refine zal (zar (zbh 1 rfl ?_))
 exact zap (zay rfl rfl (congrArg _ (zcb (fun hp => by first | (obtain ⟨q, h1, h2⟩ := hp; exact hall q (by omega) h2))).symm))
theorem sumInts_ans (L : List Int) (v : Value) (w : World) (hv : RdsW w v 1 L.length (L.map (Value.int .i64))) (hr : ∀ x ∈ L, 0 ≤ x ∧ x ≤ 4) (hl : L.length ≤ 30) :
   Calls Try.prog 74 #[v] w (Ans w (.int .i64 (sumZ L))) := by
 refine zbw (N := 17) (args := [v]) Try.func74 rfl rfl (zbh 1 rfl (zbh 1 rfl (zag ?_)))
 refine zag (reQ 1 rfl (hvQ rfl (lnQ rfl rfl rfl (zae hv)) (zaz 1 rfl (zba ?_))))
 refine lkQ2 (α := Nat) (β := Int) [0, 2, 6, 7] rfl (fun i c => []) (fun i c => [(3, .int .i64 c), (8, .int .i64 (i : Int))]) (fun i c => i ≤ L.length ∧ c = sumA L i) (fun i c => L.length - i) 0 0 ⟨Nat.zero_le _, rfl⟩ (saQ rfl) (.slnil) ?_
 intro i c hi1
 obtain ⟨hi, hc⟩ := hi1
 have hsr := sumA_rng hr i hi
 have hx4 := fun h9 : i < L.length => hr _ (zch (d := (0 : Int)) h9)
 refine srQ ?_
 refine zbp rfl rfl rfl rfl rfl rfl (fun h2 => ?_) (fun h2 => ?_)
 ·
  refine ntQ (tcQ rfl (zcy (sbQ (srQ (hvQ rfl (riQ 1 rfl rfl rfl rfl (zae hv)) (hvQ rfl (liQ rfl rfl rfl (zae hv)) (zah 1 rfl ?_)))))))
  refine ntQ (zao ?_)
  have hx5 := hx4 (by omega)
  refine zah 2 rfl (hvQ rfl (vaQ rfl rfl rfl) (enQ 1 rfl (zde (zao (hvQ rfl (vaQ rfl rfl rfl) (enQ 1 rfl ?_))))))
  exact zcp (i + 1) (c + (L.getD i 0)) ⟨by omega, by show _ = sumA L i + L.getD i 0; omega⟩ (by omega) (saQ rfl) (.slnil)
 refine ntQ (fcQ rfl ?_)
 refine zbi (zdv ?_)
 refine zal (zar (zbh 2 rfl ?_))
 exact zap (zay rfl rfl (congrArg (Value.int .i64) (by unfold sumZ; rw [hc, show i = L.length by omega])))
theorem l06Sum_ans (L : List Int) (v : Value) (w : World) (hv : RdsW w v 1 L.length (L.map (Value.int .i64))) (hr : ∀ x ∈ L, 0 ≤ x ∧ x ≤ 4) (hl : L.length ≤ 30) :
   Calls Try.prog 118 #[v] w (Ans w (.int .i64 (sumZ L))) := by
 refine zbw (N := 18) (args := [v]) Try.func118 rfl rfl (zbh 1 rfl (zbh 1 rfl (zag ?_)))
 refine zbh 1 rfl (zba ?_)
 refine lkQ2 (α := Nat) (β := Int) [0, 2] rfl (fun i c => []) (fun i c => [(3, .int .i64 c), (4, .int .i64 (i : Int))]) (fun i c => i ≤ L.length ∧ c = sumA L i) (fun i c => L.length - i) 0 0 ⟨Nat.zero_le _, rfl⟩ (saQ rfl) (.slnil) ?_
 intro i c hi1
 obtain ⟨hi, hc⟩ := hi1
 have hsr := sumA_rng hr i hi
 have hx4 := fun h9 : i < L.length => hr _ (zch (d := (0 : Int)) h9)
 refine zag (zag (reQ 2 rfl (hvQ rfl (lnQ rfl rfl rfl (zae hv)) ?_)))
 refine zbp rfl rfl rfl rfl rfl rfl (fun h2 => ?_) (fun h2 => ?_)
 ·
  refine ntQ (zaj rfl (zcy (sbQ (zao ?_))))
  have hx5 := hx4 (by omega)
  refine zah 3 rfl (hvQ rfl (riQ 1 rfl rfl rfl rfl (zae hv)) (hvQ rfl (liQ rfl rfl rfl (zae hv)) (hvQ rfl (vaQ rfl rfl rfl) (enQ 1 rfl (zde (reQ 1 rfl (hvQ rfl (vaQ rfl rfl rfl) (zah 1 rfl ?_))))))))
  exact zbn (zcp (i + 1) (c + (L.getD i 0)) ⟨by omega, by show _ = sumA L i + L.getD i 0; omega⟩ (by omega) (saQ rfl) (.slnil))
 refine ntQ (zas rfl ?_)
 refine zbi (zdv ?_)
 refine zal (zar (zbh 2 rfl ?_))
 exact zap (zay rfl rfl (congrArg (Value.int .i64) (by unfold sumZ; rw [hc, show i = L.length by omega])))
theorem zds (m : Md) (c : Int) (w : World) (hr : RdsMd w m) :
   Calls Try.prog 65 #[.agg #[m.sv, m.av, m.iv, m.mv], .int .i64 c] w (Ret w (fun v' post => post = [rowE 3 1 v' ((pwK m c)).length (((pwK m c)).map (Value.int .i64))])) := by
 have hs9 := sml hr.s
 refine zbw (N := 30) (args := [.agg #[m.sv, m.av, m.iv, m.mv], .int .i64 c]) Try.func65 rfl rfl (srQ ?_)
 refine zdk rfl (zda rfl rfl) ?_
 intro b1
 refine zdo 3 1 (zaz 1 rfl (zfh (hvQ rfl (fdQ 0 rfl rfl rfl) (hvQ rfl (zac rfl rfl rfl (zaa 1 rfl rfl)) (hvQ rfl (lnQ rfl rfl rfl (zae ((hr).s))) ?_)))))
 refine zec rfl rfl rfl rfl rfl rfl (fun h3 => ?_) (fun h3 => ?_)
 ·
  refine ntQ (zaj rfl (srQ ?_))
  refine zdo 3 1 (zaz 1 rfl ?_)
  refine zap (zaf ?_)
  exact zew (post := [rowE 3 1 (.slice none 0 0) 0 ([])]) rfl rfl (slQ [0] rfl) (by unfold pwK; rw [if_neg (by omega)] <;> rfl)
 refine ntQ (zas rfl (zcy (srQ ?_)))
 refine zdo 3 1 (zaz 1 rfl (zfh (hvQ rfl (fdQ 0 rfl rfl rfl) (hvQ rfl (zac rfl rfl rfl (zaa 2 rfl rfl)) (hvQ rfl (lnQ rfl rfl rfl (zae ((hr).s))) (zaz 1 rfl ?_))))))
 refine zba ?_
 refine lkQ3 (α := Nat) (β := Value) (γ := List Int) [0, 1, 2, 4, 11, 13, 14] rfl (fun i gu zs => [rowE 3 1 gu zs.length (zs.map (Value.int .i64)), rowE 3 1 (.slice none 0 0) 0 ([]), boxE b1 #[m.sv, m.av, m.iv, m.mv] 35]) (fun i gu zs => [(5, gu), (15, .int .i64 (i : Int))]) (fun i gu zs => i ≤ m.ss.length ∧ zs = pwA m.ss c i) (fun i gu zs => m.ss.length - i) 0 _ [] ⟨Nat.zero_le _, rfl⟩ (saQ rfl) (pfQ rfl) ?_
 intro i gu zs hi6
 obtain ⟨hi, hz⟩ := hi6
 have hzl : zs.length ≤ i := by rw [hz]; exact pwA_le _ _ _
 refine srQ ?_
 refine zbp rfl rfl rfl rfl rfl rfl (fun h7 => ?_) (fun h7 => ?_)
 ·
  refine ntQ (tcQ rfl (zcy (sbQ (srQ (hvQ rfl (riQ 3 rfl rfl rfl rfl (zae ((hr).s))) ?_)))))
  refine hvQ rfl (zbj (us := [.int .i64 ((m.ss.getD i sg0).k), .int .i64 ((m.ss.getD i sg0).w), .int .i64 ((m.ss.getD i sg0).i)]) rfl rfl rfl rfl (zae ((hr).s)) (by omega) rfl (zby sgC 3 (fun _ => rfl) m.ss sg0 (show i < _ by omega) rfl)) (zdk rfl (zbf (z := .agg #[.int .i64 0, .int .i64 0, .int .i64 0]) rfl rfl) ?_)
  intro b8
  refine zbd (cs' := #[.int .i64 ((m.ss.getD i sg0).k), .int .i64 ((m.ss.getD i sg0).w), .int .i64 ((m.ss.getD i sg0).i)]) (i := 0) (off := 0) (us := [.int .i64 ((m.ss.getD i sg0).k), .int .i64 ((m.ss.getD i sg0).w), .int .i64 ((m.ss.getD i sg0).i)]) rfl rfl rfl rfl rfl rfl rfl (zab rfl (zab rfl (zab rfl zbb))) rfl rfl rfl (ntQ (srQ (hvQ rfl (fdQ 0 rfl rfl rfl) (hvQ rfl (zac rfl rfl rfl (zaa 0 rfl rfl)) (zah 1 rfl ?_)))))
  refine zbu rfl rfl rfl rfl rfl rfl (fun h9 => ?_) (fun h9 => ?_)
  ·
   refine ntQ (zaj rfl (reQ 1 rfl (hvQ rfl (fdQ 1 rfl rfl rfl) (hvQ rfl (zac rfl rfl rfl (zaa 0 rfl rfl)) ?_))))
   refine zdu rfl (zan (z := .int .i64 0) (s := 1) (cs := ([(m.ss.getD i sg0).w].map (Value.int .i64))) rfl Try.underlying48 rfl (by decide) rfl (by kernel_rfl) rfl) ?_
   intro g10
   refine zcq (i := 2) (z := .int .i64 0) (bytes := 8) rfl rfl rfl rfl Try.underlying48 (by kernel_rfl) rfl rfl rfl rfl (zai 0 rfl) (zcg _) (by first | omega | (simp; done) | (simp; omega)) (zci zs ([(m.ss.getD i sg0).w])) (zcv zs ([(m.ss.getD i sg0).w])) (fun _ => rfl) ?_
   intro v11
   refine enQ 1 rfl (zde (zao (hvQ rfl (vaQ rfl rfl rfl) (enQ 1 rfl ?_))))
   exact zcl (i + 1) v11 (zs ++ ([(m.ss.getD i sg0).w])) ⟨by omega, by rw [hz]; exact pwA_yes (by omega)⟩ (by omega) (saQ rfl) (slQ [2, 0, 0] rfl)
  refine ntQ (fsQ rfl (zde (zao (hvQ rfl (vaQ rfl rfl rfl) (enQ 1 rfl ?_)))))
  exact zcl (i + 1) gu zs ⟨by omega, hz.trans (pwA_no (by omega))⟩ (by omega) (saQ rfl) (slQ [1, 0, 0] rfl)
 refine ntQ (fcQ rfl ?_)
 refine zbi (zdv ?_)
 refine zal (zar (zbh 2 rfl ?_))
 exact zap (zew (post := [rowE 3 1 gu zs.length (zs.map (Value.int .i64))]) rfl rfl (slQ [0] rfl) (by rw [hz, show i = m.ss.length by omega]; unfold pwK; rw [if_pos (by omega)]))
theorem zen (m : Md) (c : Int) (w : World) (hr : RdsMd w m) :
   Calls Try.prog 114 #[.agg #[m.sv, m.av, m.iv, m.mv], .int .i64 c] w (Ret w (fun v' post => post = [rowE 3 1 v' ((pwK m c)).length (((pwK m c)).map (Value.int .i64))])) := by
 have hs9 := sml hr.s
 refine zbw (N := 38) (args := [.agg #[m.sv, m.av, m.iv, m.mv], .int .i64 c]) Try.func114 rfl rfl (srQ ?_)
 refine zdk rfl (zda rfl rfl) ?_
 intro b1
 refine zaz 1 rfl (srQ ?_)
 refine zdu rfl (zdq (s := 1) rfl Try.underlying48 rfl) ?_
 intro g2
 refine zaz 1 rfl (zfh (hvQ rfl (fdQ 0 rfl rfl rfl) (hvQ rfl (zac rfl rfl rfl (zaa 1 rfl rfl)) (hvQ rfl (lnQ rfl rfl rfl (zae ((hr).s))) ?_))))
 refine zec rfl rfl rfl rfl rfl rfl (fun h3 => ?_) (fun h3 => ?_)
 ·
  refine ntQ (zaj rfl (zbh 2 rfl ?_))
  refine zap (zaf ?_)
  exact zew (post := [rowE 3 1 (.slice (some ⟨g2, 0, none⟩) 0 0) 0 ([])]) rfl rfl (slQ [0] rfl) (by unfold pwK; rw [if_neg (by omega)] <;> rfl)
 refine ntQ (zas rfl (zcy (zag (zbh 1 rfl (zba ?_)))))
 refine lkQ3 (α := Nat) (β := Value) (γ := List Int) [0, 1, 2, 4, 11] rfl (fun i gu zs => [rowE 3 1 gu zs.length (zs.map (Value.int .i64)), boxE b1 #[m.sv, m.av, m.iv, m.mv] 35]) (fun i gu zs => [(5, gu), (6, .int .i64 (i : Int))]) (fun i gu zs => i ≤ m.ss.length ∧ zs = pwA m.ss c i) (fun i gu zs => m.ss.length - i) 0 _ [] ⟨Nat.zero_le _, rfl⟩ (saQ rfl) (pfQ rfl) ?_
 intro i gu zs hi4
 obtain ⟨hi, hz⟩ := hi4
 have hzl : zs.length ≤ i := by rw [hz]; exact pwA_le _ _ _
 refine zag (zag (reQ 1 rfl (hvQ rfl (fdQ 0 rfl rfl rfl) (hvQ rfl (zac rfl rfl rfl (zaa 1 rfl rfl)) (hvQ rfl (lnQ rfl rfl rfl (zae ((hr).s))) ?_)))))
 refine zbp rfl rfl rfl rfl rfl rfl (fun h5 => ?_) (fun h5 => ?_)
 ·
  refine ntQ (zaj rfl (zcy (sbQ (srQ (hvQ rfl (fdQ 0 rfl rfl rfl) (hvQ rfl (zac rfl rfl rfl (zaa 1 rfl rfl)) (zah 1 rfl (hvQ rfl (riQ 3 rfl rfl rfl rfl (zae ((hr).s))) ?_))))))))
  refine hvQ rfl (zat (k0 := 0) rfl rfl rfl (zae ((hr).s)) (by omega)) (hvQ rfl (zak (u := .int .i64 ((m.ss.getD i sg0).k)) rfl rfl rfl (zae ((hr).s)) ((zbg sgC 3 (fun _ => rfl) m.ss sg0 (show i < _ by omega) (by decide)).trans rfl)) ?_)
  refine zah 1 rfl (zbu rfl rfl rfl rfl rfl rfl (fun h6 => ?_) (fun h6 => ?_))
  ·
   refine ntQ (zaj rfl (reQ 1 rfl (hvQ rfl (fdQ 0 rfl rfl rfl) (hvQ rfl (zac rfl rfl rfl (zaa 1 rfl rfl)) (zah 1 rfl (hvQ rfl (riQ 3 rfl rfl rfl rfl (zae ((hr).s))) (hvQ rfl (zat (k0 := 1) rfl rfl rfl (zae ((hr).s)) (by omega)) ?_)))))))
   refine hvQ rfl (zak (u := .int .i64 ((m.ss.getD i sg0).w)) rfl rfl rfl (zae ((hr).s)) ((zbg sgC 3 (fun _ => rfl) m.ss sg0 (show i < _ by omega) (by decide)).trans rfl)) (zdu rfl (zan (z := .int .i64 0) (s := 1) (cs := ([(m.ss.getD i sg0).w].map (Value.int .i64))) rfl Try.underlying48 rfl (by decide) rfl (by kernel_rfl) rfl) ?_)
   intro g7
   refine zcq (i := 1) (z := .int .i64 0) (bytes := 8) rfl rfl rfl rfl Try.underlying48 (by kernel_rfl) rfl rfl rfl rfl (zai 0 rfl) (zcg _) (by first | omega | (simp; done) | (simp; omega)) (zci zs ([(m.ss.getD i sg0).w])) (zcv zs ([(m.ss.getD i sg0).w])) (fun _ => rfl) ?_
   intro v8
   refine enQ 1 rfl (zde (reQ 1 rfl (hvQ rfl (vaQ rfl rfl rfl) (enQ 1 rfl ?_))))
   exact zcl (i + 1) v8 (zs ++ ([(m.ss.getD i sg0).w])) ⟨by omega, by rw [hz]; exact pwA_yes (by omega)⟩ (by omega) (saQ rfl) (slQ [1, 0] rfl)
  refine ntQ (fsQ rfl (zde (reQ 1 rfl (hvQ rfl (vaQ rfl rfl rfl) (enQ 1 rfl ?_)))))
  exact zcl (i + 1) gu zs ⟨by omega, hz.trans (pwA_no (by omega))⟩ (by omega) (saQ rfl) (pfQ rfl)
 refine ntQ (zas rfl ?_)
 refine zbi (zdv ?_)
 refine zal (zar (zbh 2 rfl ?_))
 exact zap (zew (post := [rowE 3 1 gu zs.length (zs.map (Value.int .i64))]) rfl rfl (slQ [0] rfl) (by rw [hz, show i = m.ss.length by omega]; unfold pwK; rw [if_pos (by omega)]))
end Go.Proofs.Ytodiifjigjnalaa
