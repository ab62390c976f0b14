/- Texts of the law FnInputBits, part 2: what it uses. -/
import Derived.Test.YtodiifjigjnalaaInb1
set_option linter.unusedVariables false
set_option linter.unusedSimpArgs false
set_option maxHeartbeats 4000000
set_option maxRecDepth 100000
namespace Go.Proofs.Ytodiifjigjnalaa
open Go.RowKit Go.ChangeShapes
open Go.RowKit
theorem ordF_mem {m : Md} {x : Int} : ∀ {n : Nat} {T : List Int}, T.length = n → Can m T → x ∈ ordF m n T → x ∈ T
  | 0, T, _, _, h => by cases h
  | n + 1, T, hl, hc, h => by
    obtain ⟨y, hy, hfy⟩ := hc.free (fun e => by rw [e] at hl; cases hl)
    obtain ⟨j, hj, rfl⟩ := List.mem_iff_getElem.1 hy
    have hsome : ((List.range T.length).find? (fun k => pB (FreeP m T (T.getD k 0)))).isSome = true := by
      rw [List.find?_isSome]
      refine ⟨j, List.mem_range.2 hj, zdl ?_⟩
      rw [List.getD_eq_getElem?_getD, List.getElem?_eq_getElem hj]; exact hfy
    have hk : pickK m T < T.length := by
      obtain ⟨k, hk⟩ := Option.isSome_iff_exists.1 hsome
      unfold pickK; rw [hk]; exact List.mem_range.1 (List.mem_of_find?_eq_some hk)
    rcases List.mem_cons.1 h with rfl | h
    · rw [List.getD_eq_getElem?_getD, List.getElem?_eq_getElem hk]; exact List.getElem_mem hk
    · exact zfp (ordF_mem (by rw [List.length_eraseIdx_of_lt hk]; omega) (hc.sub (fun x hx => zfp hx)) h)
noncomputable def frB (m : Md) (T : List Int) (x : Int) (j : Nat) : Bool := pB (∀ q, q < j → ¬ RdS (m.gs.getD x.toNat as0).os (m.gs.getD (T.getD q 0).toNat as0).t)
theorem frB_0 {m : Md} {T : List Int} {x : Int} : frB m T x 0 = true := zdl (fun q hq => absurd hq (by omega))
theorem frB_no {m : Md} {T : List Int} {x : Int} {j : Nat} (h : frB m T x j = false) : frB m T x (j + 1) = false := zcd (fun hp => zec h (fun q hq => hp q (by omega)))
theorem frB_t {m : Md} {T : List Int} {x : Int} {j : Nat} (h : frB m T x j = true) (hn : ¬ RdS (m.gs.getD x.toNat as0).os (m.gs.getD (T.getD j 0).toNat as0).t) : frB m T x (j + 1) = true := zdl (fun q hq => by
  by_cases e : q = j
  · subst e; exact hn
  · exact zez h q (by omega))
theorem frB_f {m : Md} {T : List Int} {x : Int} {j : Nat} (hn : RdS (m.gs.getD x.toNat as0).os (m.gs.getD (T.getD j 0).toNat as0).t) : frB m T x (j + 1) = false := zcd (fun hp => hp j (by omega) hn)
theorem frB_yes {m : Md} {T : List Int} {x : Int} (h : frB m T x T.length = true) : FreeP m T x := fun y hy => by
  obtain ⟨q, hq, rfl⟩ := List.mem_iff_getElem.1 hy
  have h1 := zez h q hq
  have e : T.getD q 0 = T[q] := by rw [List.getD_eq_getElem?_getD, List.getElem?_eq_getElem hq]; rfl
  rwa [e] at h1
theorem frB_nn {m : Md} {T : List Int} {x : Int} (h : frB m T x T.length = false) : ¬ FreeP m T x := fun hf => zec h (fun q hq => hf _ (zcg hq))
theorem DesP.gs1 {m : Md} (h : DesP [m]) {i : Nat} (hi : i < m.gs.length) : AsP m (m.gs.getD i as0) := (h.2 0 (by simp)).gs i hi
theorem AsP.tgt {m : Md} {g : As} (h : AsP m g) : (0 ≤ g.t ∧ g.t < m.ss.length) ∧ 1 ≤ (m.ss.getD g.t.toNat sg0).k ∧ (m.ss.getD g.t.toNat sg0).k ≤ 3 := by
  have h1 := h.1
  have hk : 0 ≤ g.t ∧ g.t < m.ss.length := Classical.byContradiction fun h9 => by have := zef h9; omega
  rw [zcv hk] at h1; exact ⟨hk, h1⟩
theorem DesP.len1 {m : Md} (h : DesP [m]) : LenP m := (h.2 0 (by simp)).cnt.md 0 (by simp)
theorem Can.stop {m : Md} {T : List Int} (hT : T ≠ []) (hn : ∀ q, q < T.length → ¬ FreeP m T (T.getD q 0)) : ¬ Can m T := fun h => by
  obtain ⟨x, hx, hf⟩ := h.free hT
  obtain ⟨q, hq, rfl⟩ := List.mem_iff_getElem.1 hx
  exact hn q hq (by rw [List.getD_eq_getElem?_getD, List.getElem?_eq_getElem hq]; exact hf)
def pwA (ss : List Sg) (c : Int) : Nat → List Int
  | 0 => []
  | i + 1 => pwA ss c i ++ if (ss.getD i sg0).k = c then [(ss.getD i sg0).w] else []
def pwK (m : Md) (c : Int) : List Int := if m.ss.length ≤ 30 then pwA m.ss c m.ss.length else []
theorem pwA_le (ss : List Sg) (c : Int) : ∀ i, (pwA ss c i).length ≤ i
  | 0 => Nat.le_refl _
  | i + 1 => by
    have := pwA_le ss c i
    unfold pwA; rw [List.length_append]; split <;> simp <;> omega
theorem pwA_yes {ss : List Sg} {c : Int} {i : Nat} (h : (ss.getD i sg0).k = c) : pwA ss c i ++ [(ss.getD i sg0).w] = pwA ss c (i + 1) := by
  show _ = pwA ss c i ++ if _ then _ else _
  rw [if_pos h]
theorem pwA_no {ss : List Sg} {c : Int} {i : Nat} (h : ¬ (ss.getD i sg0).k = c) : pwA ss c i = pwA ss c (i + 1) := by
  show _ = pwA ss c i ++ if _ then _ else _
  rw [if_neg h, List.append_nil]
theorem pwK_le (m : Md) (c : Int) : (pwK m c).length ≤ 30 := by
  unfold pwK; split
  · have := pwA_le m.ss c m.ss.length; omega
  · simp
theorem pwA_rng {ss : List Sg} {c : Int} (h : ∀ q, q < ss.length → 0 ≤ (ss.getD q sg0).w ∧ (ss.getD q sg0).w ≤ 4) : ∀ i, i ≤ ss.length → ∀ x ∈ pwA ss c i, 0 ≤ x ∧ x ≤ 4
  | 0, _, x, hx => by cases hx
  | i + 1, hi, x, hx => by
    unfold pwA at hx
    rcases List.mem_append.1 hx with hx | hx
    · exact pwA_rng h i (by omega) x hx
    · split at hx
      · rw [List.mem_singleton] at hx; subst hx; exact h i (by omega)
      · cases hx
def sumA (L : List Int) : Nat → Int
  | 0 => 0
  | i + 1 => sumA L i + L.getD i 0
def sumZ (L : List Int) : Int := sumA L L.length
theorem sumA_rng {L : List Int} (h : ∀ x ∈ L, 0 ≤ x ∧ x ≤ 4) : ∀ i, i ≤ L.length → 0 ≤ sumA L i ∧ sumA L i ≤ 4 * i
  | 0, _ => ⟨Int.le_refl _, Int.le_refl _⟩
  | i + 1, hi => by
    have h1 := sumA_rng h i (by omega)
    have h2 := h _ (zcg (d := (0 : Int)) (show i < L.length by omega))
    show 0 ≤ sumA L i + L.getD i 0 ∧ sumA L i + L.getD i 0 ≤ _
    omega
def moA (m : Md) : Nat → Int
  | 0 => 0
  | i + 1 => moA m i + (m.ss.getD (m.ms.getD i mm0).o.toNat sg0).w
def EoP (m : Md) : Prop := m.xs.length = 0 ∧ DesP [m] ∧ Can m (todoA m m.gs.length)
def MwP (m : Md) (x : Mm) : Prop := (m.ss.getD x.a.toNat sg0).w = 2 ∧ (m.ss.getD x.w.toNat sg0).w = 1 ∧ (m.ss.getD x.d.toNat sg0).w = (m.ss.getD x.o.toNat sg0).w
structure FlP (m : Md) : Prop where
  eo : EoP m
  wid : ∀ s, s < m.ss.length → (m.ss.getD s sg0).w ≠ 0
  par : ∀ i, i < m.gs.length → ¬ HpP (m.gs.getD i as0).os
  mem : ∀ i, i < m.ms.length → MwP m (m.ms.getD i mm0)
  ins : sumZ (pwK m 0) ≤ 8
  outs : sumZ (pwK m 1) ≤ 8
  bits : sumZ (pwK m 3) + moA m m.ms.length ≤ 12
noncomputable def eoK (m : Md) : List Int := if pB (EoP m) = true then ordK m (todoA m m.gs.length) else []
theorem eoK_yes {m : Md} (h : EoP m) : eoK m = ordK m (todoA m m.gs.length) := if_pos (zdl h)
theorem eoK_no {m : Md} (h : ¬ EoP m) : eoK m = [] := if_neg (by rw [zcd h]; decide)
theorem EoP.mod {m : Md} (h : EoP m) : ModP [m] 0 := h.2.1.2 0 (by simp)
theorem tgt_inj {m : Md} (h : ModP [m] 0) {i j : Nat} (hi : i < m.gs.length) (hj : j < m.gs.length) (e : (m.gs.getD i as0).t = (m.gs.getD j as0).t) : i = j := by
  have key : ∀ {i j : Nat}, i < j → j < m.gs.length → (m.gs.getD i as0).t = (m.gs.getD j as0).t → False := fun {i j} hij hj e => by
    have hg := (h.gs j hj).1
    have hk : 0 ≤ (m.gs.getD j as0).t ∧ (m.gs.getD j as0).t < m.ss.length := Classical.byContradiction fun h9 => by
      have := zef h9; have h8 := hg.1; rw [show ([m] : List Md).getD 0 md0 = m from rfl] at h8; omega
    have h8 := hg.1
    rw [show ([m] : List Md).getD 0 md0 = m from rfl, zcv hk] at h8
    have h1 := h.dr (m.gs.getD j as0).t.toNat (show (m.gs.getD j as0).t.toNat < m.ss.length by omega) (show (m.ss.getD (m.gs.getD j as0).t.toNat sg0).k ≠ 0 by omega)
    rw [Int.toNat_of_nonneg hk.1] at h1
    have h2 : (m.gs.map As.t).count (m.gs.getD j as0).t ≤ 1 := by
      unfold drvL at h1
      rw [List.count_append, List.count_append] at h1
      have h9 : ([m] : List Md).getD 0 md0 = m := rfl
      rw [h9] at h1; omega
    have h3 := cntM_yes (g := As.t) as0 (L := m.gs) hj rfl
    have h4 : 1 ≤ ((m.gs.take j).map As.t).count (m.gs.getD j as0).t := List.count_pos_iff.2 (List.mem_map.2 ⟨m.gs.getD i as0, by
      rw [List.getD_eq_getElem?_getD, List.getElem?_eq_getElem (by omega)]
      exact List.mem_take_iff_getElem.2 ⟨i, by omega, rfl⟩, e⟩)
    have h5 : ((m.gs.take (j + 1)).map As.t).count (m.gs.getD j as0).t ≤ (m.gs.map As.t).count (m.gs.getD j as0).t := ((List.take_sublist _ _).map _).count_le _
    omega
  rcases Nat.lt_trichotomy i j with h1 | h1 | h1
  · exact (key h1 hj e).elim
  · exact h1
  · exact (key h1 hi e.symm).elim
theorem DesP.zero : DesP [md0] := ⟨⟨by simp, by simp⟩, fun k hk => by
  obtain rfl : k = 0 := by have : k < 1 := hk; omega
  have h0 : ∀ {n : Nat}, n < 0 → False := fun h => by omega
  exact ⟨hk, ⟨by simp, fun q hq => by
    obtain rfl : q = 0 := by have : q < 1 := hq; omega
    exact ⟨Nat.zero_le _, Nat.zero_le _, Nat.zero_le _, Nat.zero_le _⟩⟩, fun i hi => (h0 hi).elim, fun i hi => (h0 hi).elim, fun i hi => (h0 hi).elim, fun i hi => (h0 hi).elim, fun i hi => (h0 hi).elim, fun i hi => (h0 hi).elim⟩⟩
theorem FlP.zero : FlP md0 := ⟨⟨rfl, DesP.zero, Can.nil _⟩, fun s hs => absurd hs (Nat.not_lt_zero _), fun s hs => absurd hs (Nat.not_lt_zero _), fun s hs => absurd hs (Nat.not_lt_zero _), by decide, by decide, by decide⟩
theorem needK_pos {n : Int} {os : List Oq} (h : OpsP n os) : ∀ i, i < os.length → 1 ≤ needK os i
  | 0, _ => by unfold needK; omega
  | i + 1, hi => by
    have h1 := needK_pos h i (by omega)
    have h2 := (h.op (i + 1) hi).1
    have h3 := (h.op i (by omega)).2
    have h4 : 0 ≤ arI (os.getD i oq0).k := by
      rcases h3 with ⟨e, -⟩ | ⟨e, -⟩ | ⟨e, -⟩ | ⟨-, -, -, e, -⟩
      · rw [e]; decide
      · rw [e]; decide
      · rw [e]; decide
      · exact e
    have h5 : needK os (i + 1) = needK os i + (arI (os.getD i oq0).k - 1) := rfl
    omega
theorem arI_val {n : Int} {os : List Oq} (h : OpsP n os) {i : Nat} (hi : i < os.length) : arI (os.getD i oq0).k = 0 ∨ arI (os.getD i oq0).k = 1 ∨ arI (os.getD i oq0).k = 2 ∨ arI (os.getD i oq0).k = 3 := by
  have h3 := (h.op i hi).2
  have h4 := arI_rng (os.getD i oq0).k
  have h5 : 0 ≤ arI (os.getD i oq0).k := by
    rcases h3 with ⟨e, -⟩ | ⟨e, -⟩ | ⟨e, -⟩ | ⟨-, -, -, e, -⟩
    · rw [e]; decide
    · rw [e]; decide
    · rw [e]; decide
    · exact e
  omega
def WtP (os : List Oq) (tk : List Bl) : Prop := ∃ i, i < os.length ∧ ((os.getD i oq0).k = 2 ∨ (os.getD i oq0).k = 3) ∧ (tk.getD (os.getD i oq0).a.toNat bl0).b = true
def OpnP (m : Md) (zs : List Int) (tk : List Bl) : Prop := tk.length = m.ss.length ∧ ∀ s, s < m.ss.length → ((tk.getD s bl0).b = true ↔ ∃ y ∈ zs, (m.gs.getD y.toNat as0).t = (s : Int))
theorem rds_rng {n : Int} {os : List Oq} (h : OpsP n os) {i : Nat} (hi : i < os.length) (hk : (os.getD i oq0).k = 2 ∨ (os.getD i oq0).k = 3) : 0 ≤ (os.getD i oq0).a ∧ (os.getD i oq0).a < n := by
  rcases (h.op i hi).2 with ⟨p1, p2, p3⟩ | ⟨p1, p2, p3⟩ | ⟨p1, p2, p3⟩ | ⟨p1, p2, p3, p4, p5, p6⟩
  all_goals omega
theorem OpnP.nil {m : Md} : OpnP m [] (List.replicate m.ss.length bl0) := ⟨List.length_replicate, fun s hs => by
  rw [List.getD_eq_getElem?_getD, List.getElem?_replicate, if_pos hs]
  exact ⟨fun h => absurd h (by decide), fun ⟨y, hy, _⟩ => by cases hy⟩⟩
theorem getD_setB {tk : List Bl} {a s : Nat} {b : Bl} (ha : a < tk.length) : (tk.set a b).getD s bl0 = if s = a then b else tk.getD s bl0 := by
  rw [List.getD_eq_getElem?_getD, List.getElem?_set, List.getD_eq_getElem?_getD]
  by_cases e : a = s
  · rw [if_pos e, if_pos e.symm, if_pos ha]; rfl
  · rw [if_neg e, if_neg (fun h => e h.symm)]
theorem OpnP.add {m : Md} {zs : List Int} {tk : List Bl} (h : OpnP m zs tk) {i : Nat} (ht : 0 ≤ (m.gs.getD i as0).t ∧ (m.gs.getD i as0).t < m.ss.length) : OpnP m (zs ++ [(i : Int)]) (tk.set (m.gs.getD i as0).t.toNat ⟨true⟩) := ⟨by rw [List.length_set]; exact h.1, fun s hs => by
  rw [getD_setB (by rw [h.1]; omega)]
  by_cases e : s = (m.gs.getD i as0).t.toNat
  · rw [if_pos e]
    exact ⟨fun _ => ⟨(i : Int), by simp, by rw [Int.toNat_natCast]; omega⟩, fun _ => rfl⟩
  · rw [if_neg e, h.2 s hs]
    constructor
    · rintro ⟨y, hy, h1⟩; exact ⟨y, List.mem_append_left _ hy, h1⟩
    · rintro ⟨y, hy, h1⟩
      rcases List.mem_append.1 hy with hy | hy
      · exact ⟨y, hy, h1⟩
      · rw [List.mem_singleton] at hy; subst hy; rw [Int.toNat_natCast] at h1; omega⟩
theorem wt_free {m : Md} {zs : List Int} {tk : List Bl} (h : OpnP m zs tk) {os : List Oq} (hos : OpsP m.ss.length os) : ¬ WtP os tk ↔ ∀ y ∈ zs, ¬ RdS os (m.gs.getD y.toNat as0).t := by
  constructor
  · rintro hn y hy ⟨i, hi, hk, ha⟩
    have hr := rds_rng hos hi hk
    exact hn ⟨i, hi, hk, (h.2 (os.getD i oq0).a.toNat (by omega)).2 ⟨y, hy, by omega⟩⟩
  · rintro hf ⟨i, hi, hk, hb⟩
    have hr := rds_rng hos hi hk
    obtain ⟨y, hy, ht⟩ := (h.2 (os.getD i oq0).a.toNat (by omega)).1 hb
    exact hf y hy ⟨i, hi, hk, by omega⟩
theorem opn_in {m : Md} (hm : DesP [m]) {zs : List Int} {tk : List Bl} (h : OpnP m zs tk) (hz : ∀ y ∈ zs, 0 ≤ y ∧ y < m.gs.length) {i : Nat} (hi : i < m.gs.length) (hb : (tk.getD (m.gs.getD i as0).t.toNat bl0).b = true) : (i : Int) ∈ zs := by
  have ht := ((hm.gs1 hi).tgt).1
  obtain ⟨y, hy, e⟩ := (h.2 (m.gs.getD i as0).t.toNat (by omega)).1 hb
  have h1 := hz y hy
  have h2 := tgt_inj (hm.2 0 (by simp)) (i := y.toNat) (j := i) (by omega) hi (by omega)
  rw [show (i : Int) = y by omega]; exact hy
theorem OpnP.del {m : Md} (hm : DesP [m]) {zs : List Int} {tk : List Bl} (h : OpnP m zs tk) (hz : ∀ y ∈ zs, 0 ≤ y ∧ y < m.gs.length) (hnd : zs.Nodup) {i : Nat} (hi : i < m.gs.length) : OpnP m (zs.erase (i : Int)) (tk.set (m.gs.getD i as0).t.toNat ⟨false⟩) := by
  have ht := ((hm.gs1 hi).tgt).1
  refine ⟨by rw [List.length_set]; exact h.1, fun s hs => ?_⟩
  rw [getD_setB (by rw [h.1]; omega)]
  by_cases e : s = (m.gs.getD i as0).t.toNat
  · rw [if_pos e]
    refine ⟨fun h9 => absurd h9 (by decide), fun ⟨y, hy, h1⟩ => ?_⟩
    obtain ⟨h3, h4⟩ := (hnd.mem_erase_iff).1 hy
    have h5 := hz y h4
    have h6 := tgt_inj (hm.2 0 (by simp)) (i := y.toNat) (j := i) (by omega) hi (by omega)
    omega
  · rw [if_neg e, h.2 s hs]
    constructor
    · rintro ⟨y, hy, h1⟩
      refine ⟨y, hnd.mem_erase_iff.2 ⟨fun e9 => ?_, hy⟩, h1⟩
      subst e9; rw [Int.toNat_natCast] at h1; omega
    · rintro ⟨y, hy, h1⟩; exact ⟨y, (hnd.mem_erase_iff.1 hy).2, h1⟩
theorem Can.backE {m : Md} {T : List Int} {x : Int} (hx : x ∈ T) (hnd : T.Nodup) (hf : FreeP m T x) (h : Can m (T.erase x)) : Can m T := by
  obtain ⟨f, h⟩ := h
  refine ⟨fun z => if z = x then 0 else f z + 1, fun a ha b hb hr => ?_⟩
  show (if b = _ then 0 else f b + 1) < (if a = _ then 0 else f a + 1)
  by_cases ea : a = x
  · rw [ea] at hr; exact absurd hr (hf b hb)
  · rw [if_neg ea]
    by_cases eb : b = x
    · rw [if_pos eb]; omega
    · rw [if_neg eb]; have := h a (hnd.mem_erase_iff.2 ⟨ea, ha⟩) b (hnd.mem_erase_iff.2 ⟨eb, hb⟩) hr; omega
theorem opn_stop {m : Md} (hm : DesP [m]) {zs : List Int} {tk : List Bl} (h : OpnP m zs tk) (hz : ∀ y ∈ zs, 0 ≤ y ∧ y < m.gs.length) (h0 : zs ≠ []) (hn : ∀ i, i < m.gs.length → ¬ ((tk.getD (m.gs.getD i as0).t.toNat bl0).b = true ∧ ¬ WtP (m.gs.getD i as0).os tk)) : ¬ Can m zs := fun hc => by
  obtain ⟨x, hx, hf⟩ := hc.free h0
  have h1 := hz x hx
  have hg := hm.gs1 (i := x.toNat) (by omega)
  exact hn x.toNat (by omega) ⟨(h.2 _ (by have := hg.tgt.1; omega)).2 ⟨x, hx, by have := hg.tgt.1; omega⟩, (wt_free h hg.2).2 hf⟩
section
variable {P : Program} {N : Nat} {w0 : World} {l : List HP} {env : List (Nat × Value)} {Q : Post}
theorem hc_loop5 {α β γ δ ε : Type} {c : Code} (L : α → β → γ → δ → ε → List HP) (E : α → β → γ → δ → ε → List (Nat × Value)) (G : α → β → γ → δ → ε → Prop) (m : α → β → γ → δ → ε → Nat) (x0 : α) (y0 : β) (z0 : γ) (u0 : δ) (v0 : ε) (hG : G x0 y0 z0 u0 v0) (hs : sub (E x0 y0 z0 u0 v0) env) (hl : (L x0 y0 z0 u0 v0).Sublist l)
    (round : ∀ x y z u v, G x y z u v → HC P N w0 (L x y z u v) (E x y z u v) c (Exit.then (fun a' w' => ∃ x' y' z' u' v', G x' y' z' u' v' ∧ m x' y' z' u' v' < m x y z u v ∧ St N w0 (L x' y' z' u' v') (E x' y' z' u' v') a' w') Q)) : HC P N w0 l env (.loop c) Q :=
  hc_loop (fun q : α × β × γ × δ × ε => L q.1 q.2.1 q.2.2.1 q.2.2.2.1 q.2.2.2.2) (fun q => E q.1 q.2.1 q.2.2.1 q.2.2.2.1 q.2.2.2.2) (fun q => G q.1 q.2.1 q.2.2.1 q.2.2.2.1 q.2.2.2.2) (fun q => m q.1 q.2.1 q.2.2.1 q.2.2.2.1 q.2.2.2.2) (x0, y0, z0, u0, v0) hG hs hl (fun q hq a w st => wp_mono (round q.1 q.2.1 q.2.2.1 q.2.2.2.1 q.2.2.2.2 hq a w st) fun e a' w' h => by
    cases e with
    | normal => obtain ⟨x', y', z', u', v', h1, h2, h3⟩ := h; exact ⟨(x', y', z', u', v'), h1, h2, h3⟩
    | exit id => exact h
    | goto l => exact h
    | ret => exact h
    | panic ch => exact h
    | outgrown => exact h)
theorem zex {α β γ δ ε : Type} {L : α → β → γ → δ → ε → List HP} {E : α → β → γ → δ → ε → List (Nat × Value)} {G : α → β → γ → δ → ε → Prop} {m : α → β → γ → δ → ε → Nat} {M : Nat} (x' : α) (y' : β) (z' : γ) (u' : δ) (v' : ε) (hG : G x' y' z' u' v') (hm : m x' y' z' u' v' < M) (hs : sub (E x' y' z' u' v') env) (hl : (L x' y' z' u' v').Sublist l) :
    HQ N w0 l env .normal (Exit.then (fun a' w' => ∃ x' y' z' u' v', G x' y' z' u' v' ∧ m x' y' z' u' v' < M ∧ St N w0 (L x' y' z' u' v') (E x' y' z' u' v') a' w') Q) := fun a w st => ⟨x', y', z', u', v', hG, hm, st.less hs hl⟩
end
def wmK (w : Int) : Int := 1 * 2 ^ w.toNat - 1
theorem wm_rng {w : Int} (h : 0 ≤ w ∧ w ≤ 4) : 1 ≤ 1 * (2 : Int) ^ w.toNat ∧ 1 * (2 : Int) ^ w.toNat ≤ 16 := by
  rcases (by omega : w = 0 ∨ w = 1 ∨ w = 2 ∨ w = 3 ∨ w = 4) with rfl | rfl | rfl | rfl | rfl <;> decide
def stR (m : Md) (i : Nat) : List Bl := (List.range m.ss.length).map (fun s => ⟨decide (s < i ∧ (m.ss.getD s sg0).k = 3)⟩)
def stM (m : Md) : Nat → List Bl
  | 0 => stR m m.ss.length
  | j + 1 => (stM m j).set (m.ms.getD j mm0).o.toNat ⟨true⟩
theorem stR_len (m : Md) (i : Nat) : (stR m i).length = m.ss.length := by unfold stR; rw [List.length_map, List.length_range]
theorem stM_len (m : Md) : ∀ j, (stM m j).length = m.ss.length
  | 0 => stR_len m _
  | j + 1 => by unfold stM; rw [List.length_set, stM_len m j]
theorem zfz (x : Int) (w : World) (hw : 0 ≤ x ∧ x ≤ 4) :
   Calls Try.prog 64 #[.int .i64 x] w (Ans w (.int .i64 (wmK x))) := by
 have hw9 := wm_rng hw
 refine zca (N := 7) (args := [.int .i64 x]) Try.func64 rfl rfl (zbf 1 rfl (zag (reQ 1 rfl (hvQ rfl (rv_conv rfl Try.underlying3 Try.underlying154 rfl (IntWalk.u64_in _ (by omega))) (hvQ rfl (rv_shl (kk' := .i64) rfl rfl rfl (by omega) (by constructor <;> omega)) (hvQ rfl (vsQ rfl rfl rfl) (zah 1 rfl ?_)))))))
 refine ntQ ?_
 exact zap (zay rfl rfl rfl)
theorem rv_unx {P : Program} {N : Nat} {w0 : World} {l : List HP} {env : List (Nat × Value)} {o : Oper} {t : TypeId} {x : Operand} {m : Int} (ho : o.op = .unOp .xor t x) (hx : ev env x = some (.int .i64 m)) : RunV P N w0 l env o (.int .i64 (bits .xor .i64 (-1) m)) := fun a w st => by
  simp [execOp, ho, st.eval hx, Op.unary]; rfl
def opV (o : Oq) (vs L : List Int) : Int :=
  if o.k = 0 then o.a else if o.k = 2 then vs.getD o.a.toNat 0 else if o.k = 3 then bits .and .i64 (vs.getD o.a.toNat 0 / 2 ^ o.b.toNat) 1
  else if o.k = 4 then bits .xor .i64 (-1) (L.getD 0 0) else if o.k = 5 then bits .and .i64 (L.getD 0 0) (L.getD 1 0) else if o.k = 6 then bits .or .i64 (L.getD 0 0) (L.getD 1 0) else if o.k = 7 then bits .xor .i64 (L.getD 0 0) (L.getD 1 0)
  else if o.k = 8 then L.getD 0 0 + L.getD 1 0 else if o.k = 9 then L.getD 0 0 - L.getD 1 0 else if o.k = 10 then (if L.getD 0 0 = L.getD 1 0 then 1 else 0) else if o.k = 11 then (if L.getD 0 0 < L.getD 1 0 then 1 else 0)
  else if o.k = 12 then (if L.getD 0 0 ≠ 0 then L.getD 1 0 else L.getD 2 0) else 0
def argE (g : Nat → Int × Nat) (p : Nat) : Nat → List Int × Nat
  | 0 => ([], p)
  | i + 1 => ((argE g p i).1 ++ [(g (argE g p i).2).1], (g (argE g p i).2).2)
def evE (os : List Oq) (vs : List Int) (x : Int) : Nat → Nat → Int × Nat
  | 0, p => (0, p)
  | f + 1, p => (bits .and .i64 (opV (os.getD p oq0) vs (argE (evE os vs x f) (p + 1) (arI (os.getD p oq0).k).toNat).1) (wmK x), (argE (evE os vs x f) (p + 1) (arI (os.getD p oq0).k).toNat).2)
theorem argE_len (g : Nat → Int × Nat) (p : Nat) : ∀ i, (argE g p i).1.length = i
  | 0 => rfl
  | i + 1 => by
    show ((argE g p i).1 ++ [_]).length = _
    rw [List.length_append, argE_len g p i]; rfl
theorem argE_ok {n : Int} {os : List Oq} (h : OpsP n os) {g : Nat → Int × Nat} {p : Nat} (hp : p < os.length) (hg : ∀ q, p < q → q < os.length → q < (g q).2 ∧ (g q).2 ≤ os.length ∧ needK os (g q).2 = needK os q - 1) : ∀ i : Nat, (i : Int) ≤ arI (os.getD p oq0).k → p < (argE g (p + 1) i).2 ∧ (argE g (p + 1) i).2 ≤ os.length ∧ needK os (argE g (p + 1) i).2 = needK os p + arI (os.getD p oq0).k - 1 - i
  | 0, hi => by
    have h5 : needK os (p + 1) = needK os p + (arI (os.getD p oq0).k - 1) := rfl
    show p < p + 1 ∧ p + 1 ≤ _ ∧ needK os (p + 1) = _
    exact ⟨by omega, by omega, by omega⟩
  | i + 1, hi => by
    obtain ⟨a1, a2, a3⟩ := argE_ok h hp hg i (by omega)
    have h1 := needK_pos h p hp
    have hlt : (argE g (p + 1) i).2 < os.length := by
      rcases Nat.lt_or_ge (argE g (p + 1) i).2 os.length with h8 | h8
      · exact h8
      · have e : (argE g (p + 1) i).2 = os.length := by omega
        rw [e, h.fin] at a3; omega
    obtain ⟨b1, b2, b3⟩ := hg _ a1 hlt
    show p < (g _).2 ∧ (g _).2 ≤ _ ∧ needK os (g _).2 = _
    exact ⟨by omega, b2, by omega⟩
theorem argE_lt {n : Int} {os : List Oq} (h : OpsP n os) {g : Nat → Int × Nat} {p : Nat} (hp : p < os.length) (hg : ∀ q, p < q → q < os.length → q < (g q).2 ∧ (g q).2 ≤ os.length ∧ needK os (g q).2 = needK os q - 1) (i : Nat) (hi : (i : Int) < arI (os.getD p oq0).k) : (argE g (p + 1) i).2 < os.length := by
  obtain ⟨a1, a2, a3⟩ := argE_ok h hp hg i (by omega)
  have h1 := needK_pos h p hp
  rcases Nat.lt_or_ge (argE g (p + 1) i).2 os.length with h8 | h8
  · exact h8
  · have e : (argE g (p + 1) i).2 = os.length := by omega
    rw [e, h.fin] at a3; omega
theorem evE_ok {n : Int} {os : List Oq} (h : OpsP n os) (vs : List Int) (x : Int) : ∀ (f p : Nat), os.length - p ≤ f → p < os.length → p < (evE os vs x f p).2 ∧ (evE os vs x f p).2 ≤ os.length ∧ needK os (evE os vs x f p).2 = needK os p - 1
  | 0, p, hf, hp => by omega
  | f + 1, p, hf, hp => by
    have h4 := arI_val h hp
    obtain ⟨a1, a2, a3⟩ := argE_ok h hp (g := evE os vs x f) (fun q h1 h2 => evE_ok h vs x f q (by omega) h2) (arI (os.getD p oq0).k).toNat (by omega)
    show p < (argE _ _ _).2 ∧ (argE _ _ _).2 ≤ _ ∧ needK os (argE _ _ _).2 = _
    exact ⟨a1, a2, by omega⟩
def ouA (ss : List Sg) (V : List Int) : Nat → List Int
  | 0 => []
  | i + 1 => ouA ss V i ++ if (ss.getD i sg0).k = 1 then [V.getD i 0] else []
def ouK (m : Md) (V : List Int) : List Int := ouA m.ss V m.ss.length
theorem ouA_le (ss : List Sg) (V : List Int) : ∀ i, (ouA ss V i).length ≤ i
  | 0 => Nat.le_refl _
  | i + 1 => by
    have := ouA_le ss V i
    unfold ouA; rw [List.length_append]; split <;> simp <;> omega
theorem ouA_yes {ss : List Sg} {V : List Int} {i : Nat} (h : (ss.getD i sg0).k = 1) : ouA ss V i ++ [V.getD i 0] = ouA ss V (i + 1) := by
  show _ = ouA ss V i ++ if _ then _ else _
  rw [if_pos h]
theorem ouA_no {ss : List Sg} {V : List Int} {i : Nat} (h : ¬ (ss.getD i sg0).k = 1) : ouA ss V i = ouA ss V (i + 1) := by
  show _ = ouA ss V i ++ if _ then _ else _
  rw [if_neg h, List.append_nil]
theorem outputValues_ret (m : Md) (V : List Int) (u : Value) (w : World) (hr : RdsMd w m) (hu : RdsW w u 1 V.length (V.map (Value.int .i64))) (hV : V.length = m.ss.length) (hss : m.ss.length ≤ 30) :
   Calls Try.prog 61 #[.agg #[m.sv, m.av, m.iv, m.mv], u] w (Ret w (fun v' post => post = [rowE 3 1 v' ((ouK m V)).length (((ouK m V)).map (Value.int .i64))])) := by
 have hs9 := sml hr.s
 refine zca (N := 28) (args := [.agg #[m.sv, m.av, m.iv, m.mv], u]) Try.func61 rfl rfl (srQ ?_)
 refine zdm rfl (zdk rfl rfl) ?_
 intro b1
 refine zdp 3 1 (zbb 1 rfl (srQ ?_))
 refine zdp 3 1 (zbb 1 rfl (zfn (hvQ rfl (fdQ 0 rfl rfl rfl) (hvQ rfl (zad rfl rfl rfl (zaa 2 rfl rfl)) (hvQ rfl (lnQ rfl rfl rfl (zae ((hr).s))) (zbb 1 rfl ?_))))))
 refine zaz ?_
 refine lkQ3 (α := Nat) (β := Value) (γ := List Int) [0, 1, 2, 4, 9, 10] rfl (fun i gu zs => [rowE 3 1 gu zs.length (zs.map (Value.int .i64)), rowE 3 1 (.slice none 0 0) 0 ([]), boxE b1 #[m.sv, m.av, m.iv, m.mv] 35]) (fun i gu zs => [(5, gu), (11, .int .i64 (i : Int))]) (fun i gu zs => i ≤ m.ss.length ∧ zs = ouA m.ss V i) (fun i gu zs => m.ss.length - i) 0 _ [] ⟨Nat.zero_le _, rfl⟩ (saQ rfl) (pfQ rfl) ?_
 intro i gu zs hi4
 obtain ⟨hi, hz⟩ := hi4
 have hzl : zs.length ≤ i := by rw [hz]; exact ouA_le _ _ _
 refine srQ ?_
 refine zbq rfl rfl rfl rfl rfl rfl (fun h5 => ?_) (fun h5 => ?_)
 ·
  refine ntQ (tcQ rfl (zcy (sbQ (zag (reQ 1 rfl (hvQ rfl (riQ 3 rfl rfl rfl rfl (zae ((hr).s))) ?_))))))
  refine hvQ rfl (zbm (us := [.int .i64 ((m.ss.getD i sg0).k), .int .i64 ((m.ss.getD i sg0).w), .int .i64 ((m.ss.getD i sg0).i)]) rfl rfl rfl rfl (zae ((hr).s)) (by omega) rfl (zbz sgC 3 (fun _ => rfl) m.ss sg0 (show i < _ by omega) rfl)) (zdm rfl (zbe (z := .agg #[.int .i64 0, .int .i64 0, .int .i64 0]) rfl rfl) ?_)
  intro b6
  refine zah 1 rfl (zbd (cs' := #[.int .i64 ((m.ss.getD i sg0).k), .int .i64 ((m.ss.getD i sg0).w), .int .i64 ((m.ss.getD i sg0).i)]) (i := 0) (off := 0) (us := [.int .i64 ((m.ss.getD i sg0).k), .int .i64 ((m.ss.getD i sg0).w), .int .i64 ((m.ss.getD i sg0).i)]) rfl rfl rfl rfl rfl rfl rfl (zab rfl (zab rfl (zab rfl zbc))) rfl rfl rfl ?_)
  refine ntQ (srQ (hvQ rfl (fdQ 0 rfl rfl rfl) (hvQ rfl (zad rfl rfl rfl (zaa 0 rfl rfl)) ?_)))
  refine zbt rfl rfl rfl rfl rfl rfl (fun h7 => ?_) (fun h7 => ?_)
  ·
   refine ntQ (zai rfl (reQ 3 rfl (hvQ rfl (riQ 1 rfl rfl rfl rfl (zae hu)) (hvQ rfl (liQ rfl rfl rfl (zae hu)) ?_))))
   refine zdt rfl (zal (z := .int .i64 0) (s := 1) (cs := ([V.getD i 0].map (Value.int .i64))) rfl Try.underlying48 rfl (by decide) rfl (by kernel_rfl) rfl) ?_
   intro g8
   refine zcp (i := 2) (z := .int .i64 0) (bytes := 8) rfl rfl rfl rfl Try.underlying48 (by kernel_rfl) rfl rfl rfl rfl (zaj 0 rfl) (zch _) (by first | omega | (simp; done) | (simp; omega)) (zci zs ([V.getD i 0])) (zcs zs ([V.getD i 0])) (fun _ => rfl) ?_
   intro v9
   refine enQ 1 rfl (zde (zao (hvQ rfl (vaQ rfl rfl rfl) (enQ 1 rfl ?_))))
   exact zcn (i + 1) v9 (zs ++ ([V.getD i 0])) ⟨by omega, by rw [hz]; exact ouA_yes (by omega)⟩ (by omega) (saQ rfl) (slQ [2, 0, 0] rfl)
  refine ntQ (fsQ rfl (zde (zao (hvQ rfl (vaQ rfl rfl rfl) (enQ 1 rfl ?_)))))
  exact zcn (i + 1) gu zs ⟨by omega, hz.trans (ouA_no (by omega))⟩ (by omega) (saQ rfl) (slQ [1, 0, 0] rfl)
 refine ntQ (fcQ rfl ?_)
 refine zbl (zdx ?_)
 refine zan (zaq (zbf 2 rfl ?_))
 exact zap (zfi (post := [rowE 3 1 gu zs.length (zs.map (Value.int .i64))]) rfl rfl (slQ [0] rfl) (by rw [hz, show i = m.ss.length by omega]; rfl))
structure VlP (m : Md) (vs : List Int) : Prop where
  len : vs.length = m.ss.length
  rng : ∀ s, s < m.ss.length → 0 ≤ vs.getD s 0 ∧ vs.getD s 0 ≤ wmK (m.ss.getD s sg0).w
structure WwP (m : Md) (ws : List Int) : Prop where
  len : ws.length = 4 * m.ms.length
  rng : ∀ i, i < ws.length → 0 ≤ ws.getD i 0 ∧ ws.getD i 0 ≤ wmK (m.ss.getD (m.ms.getD ((i : Int) / 4).toNat mm0).d.toNat sg0).w
def stB (m : Md) (s : Nat) : Bool := ((stM m m.ms.length).getD s bl0).b
structure WsP (m : Md) (vs ws : List Int) : Prop where
  fl : FlP m
  v : VlP m vs
  w : WwP m ws
  z : ∀ s, s < m.ss.length → stB m s = false → vs.getD s 0 = 0
theorem stM_mono {m : Md} {s : Nat} : ∀ j, ((stM m 0).getD s bl0).b = true → ((stM m j).getD s bl0).b = true
  | 0, h => h
  | j + 1, h => by
    show (((stM m j).set _ _).getD s bl0).b = true
    by_cases e : (m.ms.getD j mm0).o.toNat < (stM m j).length
    · rw [getD_setB e]; split
      · rfl
      · exact stM_mono j h
    · rw [List.set_eq_of_length_le (by omega)]; exact stM_mono j h
theorem stM_out {m : Md} {k : Nat} (hk : (m.ms.getD k mm0).o.toNat < m.ss.length) : ∀ j, k < j → ((stM m j).getD (m.ms.getD k mm0).o.toNat bl0).b = true
  | 0, h => absurd h (by omega)
  | j + 1, h => by
    show (((stM m j).set _ _).getD _ bl0).b = true
    by_cases e : (m.ms.getD j mm0).o.toNat < (stM m j).length
    · rw [getD_setB e]; split
      · rfl
      · rename_i hne
        by_cases e2 : k = j
        · subst e2; exact absurd rfl hne
        · exact stM_out hk j (by omega)
    · rw [List.set_eq_of_length_le (by omega)]
      by_cases e2 : k = j
      · subst e2; rw [stM_len] at e; exact absurd hk e
      · exact stM_out hk j (by omega)
theorem stB_reg {m : Md} {s : Nat} (hs : s < m.ss.length) (h : (m.ss.getD s sg0).k = 3) : stB m s = true := by
  refine stM_mono _ ?_
  show ((stR m m.ss.length).getD s bl0).b = true
  unfold stR
  rw [List.getD_eq_getElem?_getD, List.getElem?_map, List.getElem?_range hs]
  show decide _ = true
  rw [decide_eq_true_eq]; exact ⟨hs, h⟩
theorem stB_out {m : Md} {k : Nat} (hk : k < m.ms.length) (ho : 0 ≤ (m.ms.getD k mm0).o ∧ (m.ms.getD k mm0).o < m.ss.length) : stB m (m.ms.getD k mm0).o.toNat = true := stM_out (by omega) _ hk
theorem wm_and {x w : Int} (h : 0 ≤ w ∧ w ≤ 4) : 0 ≤ bits .and .i64 x (wmK w) ∧ bits .and .i64 x (wmK w) ≤ wmK w := by
  have h1 := wm_rng h
  exact and_range _ _ (by unfold wmK; omega) (by unfold wmK; omega)
theorem wm_15 {w : Int} (h : 0 ≤ w ∧ w ≤ 4) : 0 ≤ wmK w ∧ wmK w ≤ 15 := by
  have h1 := wm_rng h; unfold wmK; omega
def evK (os : List Oq) (vs : List Int) (x : Int) : Int := (evE os vs x os.length 0).1
theorem evK_mask {os : List Oq} {vs : List Int} {x : Int} (hp : 0 < os.length) (hx : 0 ≤ x ∧ x ≤ 4) : 0 ≤ evK os vs x ∧ evK os vs x ≤ wmK x := by
  unfold evK
  obtain ⟨n, e⟩ : ∃ n, os.length = n + 1 := ⟨os.length - 1, by omega⟩
  rw [e]; exact wm_and hx
def staA (m : Md) : Nat → List Int
  | 0 => List.replicate m.ss.length 0
  | i + 1 => if (m.ss.getD i sg0).k = 3 then (staA m i).set i (bits .and .i64 (m.ss.getD i sg0).i (wmK (m.ss.getD i sg0).w)) else staA m i
def staV (m : Md) : List Int := staA m m.ss.length
def staW (m : Md) : List Int := List.replicate (4 * m.ms.length) 0
theorem staA_len (m : Md) : ∀ i, (staA m i).length = m.ss.length
  | 0 => List.length_replicate
  | i + 1 => by unfold staA; split <;> simp [staA_len m i]
theorem getD_setI {l : List Int} {a s : Nat} {b : Int} (ha : a < l.length) : (l.set a b).getD s 0 = if s = a then b else l.getD s 0 := by
  rw [List.getD_eq_getElem?_getD, List.getElem?_set, List.getD_eq_getElem?_getD]
  by_cases e : a = s
  · rw [if_pos e, if_pos e.symm, if_pos ha]; rfl
  · rw [if_neg e, if_neg (fun h => e h.symm)]
theorem getD_rep0 (n s : Nat) : (List.replicate n (0 : Int)).getD s 0 = 0 := by
  rw [List.getD_eq_getElem?_getD, List.getElem?_replicate]; split <;> rfl
theorem VlP.set {m : Md} {vs : List Int} (h : VlP m vs) {s : Nat} (hs : s < m.ss.length) {x : Int} (hx : 0 ≤ x ∧ x ≤ wmK (m.ss.getD s sg0).w) : VlP m (vs.set s x) := ⟨by rw [List.length_set]; exact h.len, fun q hq => by
  rw [getD_setI (by rw [h.len]; exact hs)]
  split
  · rename_i e; subst e; exact hx
  · exact h.rng q hq⟩
theorem FlP.sw {m : Md} (h : FlP m) {s : Nat} (hs : s < m.ss.length) : 0 ≤ (m.ss.getD s sg0).w ∧ (m.ss.getD s sg0).w ≤ 4 := (h.eo.mod.sg s hs).2.1
theorem FlP.lens {m : Md} (h : FlP m) : m.ss.length ≤ 30 ∧ m.gs.length ≤ 30 ∧ m.ms.length ≤ 2 := by
  have := h.eo.2.1.len1; exact ⟨this.1, this.2.1, this.2.2.2⟩
theorem VlP.zero {m : Md} (h : FlP m) : VlP m (List.replicate m.ss.length 0) := ⟨List.length_replicate, fun s hs => by
  rw [getD_rep0]; exact ⟨Int.le_refl _, (wm_15 (h.sw hs)).1⟩⟩
theorem staA_ok {m : Md} (h : FlP m) : ∀ i, i ≤ m.ss.length → VlP m (staA m i) ∧ ∀ s, s < m.ss.length → stB m s = false → (staA m i).getD s 0 = 0
  | 0, _ => ⟨VlP.zero h, fun s hs _ => getD_rep0 _ _⟩
  | i + 1, hi => by
    obtain ⟨h1, h2⟩ := staA_ok h i (by omega)
    unfold staA; split
    · rename_i hk
      refine ⟨h1.set (by omega) (wm_and (h.sw (by omega))), fun s hs hb => ?_⟩
      rw [getD_setI (by rw [h1.len]; omega)]; split
      · rename_i e; subst e; rw [stB_reg hs hk] at hb; cases hb
      · exact h2 s hs hb
    · exact ⟨h1, h2⟩
theorem staA_yes {m : Md} {i : Nat} (h : (m.ss.getD i sg0).k = 3) : (staA m i).set i (bits .and .i64 (m.ss.getD i sg0).i (wmK (m.ss.getD i sg0).w)) = staA m (i + 1) := by
  show _ = if _ then _ else _
  rw [if_pos h]
theorem staA_no {m : Md} {i : Nat} (h : ¬ (m.ss.getD i sg0).k = 3) : staA m i = staA m (i + 1) := by
  show _ = if _ then _ else _
  rw [if_neg h]
theorem WsP.start {m : Md} (h : FlP m) : WsP m (staV m) (staW m) := ⟨h, (staA_ok h _ (Nat.le_refl _)).1, ⟨List.length_replicate, fun i hi => by
    unfold staW at *
    rw [List.length_replicate] at hi
    rw [getD_rep0]
    have hm := h.eo.mod.ms ((i : Int) / 4).toNat (show ((i : Int) / 4).toNat < m.ms.length by omega)
    have hd : 0 ≤ (m.ms.getD ((i : Int) / 4).toNat mm0).d ∧ (m.ms.getD ((i : Int) / 4).toNat mm0).d < m.ss.length := hm.1.2.1
    exact ⟨Int.le_refl _, (wm_15 (h.sw (s := (m.ms.getD ((i : Int) / 4).toNat mm0).d.toNat) (by omega))).1⟩⟩, (staA_ok h _ (Nat.le_refl _)).2⟩
def inA (m : Md) (ins vs : List Int) : Nat → List Int × Nat
  | 0 => (vs, 0)
  | i + 1 => if (m.ss.getD i sg0).k = 0 then ((inA m ins vs i).1.set i (bits .and .i64 (ins.getD (inA m ins vs i).2 0) (wmK (m.ss.getD i sg0).w)), (inA m ins vs i).2 + 1) else inA m ins vs i
theorem inA_yes {m : Md} {ins vs zs : List Int} {i k : Nat} (hz : zs = (inA m ins vs i).1) (hk : k = (inA m ins vs i).2) (h : (m.ss.getD i sg0).k = 0) : zs.set i (bits .and .i64 (ins.getD k 0) (wmK (m.ss.getD i sg0).w)) = (inA m ins vs (i + 1)).1 ∧ k + 1 = (inA m ins vs (i + 1)).2 := by
  have e : inA m ins vs (i + 1) = ((inA m ins vs i).1.set i (bits .and .i64 (ins.getD (inA m ins vs i).2 0) (wmK (m.ss.getD i sg0).w)), (inA m ins vs i).2 + 1) := by
    show (if _ then _ else _) = _
    rw [if_pos h]
  rw [e, hz, hk]; exact ⟨rfl, rfl⟩
theorem inA_no {m : Md} {ins vs zs : List Int} {i k : Nat} (hz : zs = (inA m ins vs i).1) (hk : k = (inA m ins vs i).2) (h : ¬ (m.ss.getD i sg0).k = 0) : zs = (inA m ins vs (i + 1)).1 ∧ k = (inA m ins vs (i + 1)).2 := by
  have e : inA m ins vs (i + 1) = inA m ins vs i := by
    show (if _ then _ else _) = _
    rw [if_neg h]
  rw [e]; exact ⟨hz, hk⟩
theorem inA_cnt (m : Md) (ins vs : List Int) : ∀ i, (inA m ins vs i).2 = (pwA m.ss 0 i).length
  | 0 => rfl
  | i + 1 => by
    unfold inA pwA; rw [List.length_append]; split <;> simp [inA_cnt m ins vs i]
theorem pwA_mono (ss : List Sg) (c : Int) {i j : Nat} (h : i ≤ j) : (pwA ss c i).length ≤ (pwA ss c j).length := by
  induction h with
  | refl => exact Nat.le_refl _
  | step h ih => exact Nat.le_trans ih (by show _ ≤ (pwA ss c _ ++ _).length; rw [List.length_append]; exact Nat.le_add_right _ _)
theorem pwA_lt {ss : List Sg} {c : Int} {i : Nat} (h : (ss.getD i sg0).k = c) {n : Nat} (hn : i < n) : (pwA ss c i).length < (pwA ss c n).length := by
  have h1 := pwA_mono ss c (show i + 1 ≤ n from hn)
  have h2 : (pwA ss c (i + 1)).length = (pwA ss c i).length + 1 := by rw [← pwA_yes h, List.length_append]; rfl
  omega
theorem inA_ok {m : Md} (h : FlP m) {ins vs : List Int} (hv : VlP m vs) : ∀ i, i ≤ m.ss.length → VlP m (inA m ins vs i).1
  | 0, _ => hv
  | i + 1, hi => by
    have h1 := inA_ok h (ins := ins) hv i (by omega)
    unfold inA; split
    · exact h1.set (by omega) (wm_and (h.sw (by omega)))
    · exact h1
def asgK (m : Md) (vs : List Int) (x : Int) : List Int := vs.set (m.gs.getD x.toNat as0).t.toNat (evK (m.gs.getD x.toNat as0).os vs (m.ss.getD (m.gs.getD x.toNat as0).t.toNat sg0).w)
def ordV (m : Md) (ord vs : List Int) : Nat → List Int
  | 0 => vs
  | j + 1 => asgK m (ordV m ord vs j) (ord.getD j 0)
noncomputable def sgK (m : Md) (vs ins : List Int) : List Int := ordV m (eoK m) (inA m ins vs m.ss.length).1 (eoK m).length
theorem FlP.as {m : Md} (h : FlP m) {i : Nat} (hi : i < m.gs.length) : ((0 ≤ (m.gs.getD i as0).t ∧ (m.gs.getD i as0).t < m.ss.length) ∧ 1 ≤ (m.ss.getD (m.gs.getD i as0).t.toNat sg0).k ∧ (m.ss.getD (m.gs.getD i as0).t.toNat sg0).k ≤ 3) ∧ OpsP m.ss.length (m.gs.getD i as0).os := ⟨(h.eo.mod.gs i hi).tgt, (h.eo.mod.gs i hi).2⟩
theorem asgK_ok {m : Md} (h : FlP m) {vs : List Int} (hv : VlP m vs) {i : Nat} (hi : i < m.gs.length) : VlP m (asgK m vs (i : Int)) := by
  obtain ⟨⟨h1, -⟩, h2⟩ := h.as hi
  unfold asgK; rw [Int.toNat_natCast]
  exact hv.set (by omega) (evK_mask h2.pos (h.sw (by omega)))
theorem eo_rng {m : Md} (h : FlP m) {x : Int} (hx : x ∈ eoK m) : 0 ≤ x ∧ x < m.gs.length := by
  rw [eoK_yes h.eo] at hx
  obtain ⟨j, h1, -, rfl⟩ := todoA_mem.1 (ordF_mem rfl h.eo.2.2 hx); omega
theorem ordV_ok {m : Md} (h : FlP m) {vs : List Int} (hv : VlP m vs) : ∀ j, j ≤ (eoK m).length → VlP m (ordV m (eoK m) vs j)
  | 0, _ => hv
  | j + 1, hj => by
    have h1 := ordV_ok h hv j (by omega)
    have h2 := eo_rng h (zcg (d := (0 : Int)) (show j < (eoK m).length by omega))
    obtain ⟨i, e⟩ : ∃ i : Nat, (eoK m).getD j 0 = (i : Int) := ⟨((eoK m).getD j 0).toNat, by omega⟩
    unfold ordV; rw [e]; exact asgK_ok h h1 (by omega)
theorem sgK_ok {m : Md} (h : FlP m) {vs ins : List Int} (hv : VlP m vs) : VlP m (sgK m vs ins) := ordV_ok h (inA_ok h hv _ (Nat.le_refl _)) _ (Nat.le_refl _)
def nrA (m : Md) (V : List Int) : Nat → List Int
  | 0 => List.replicate m.ss.length 0
  | i + 1 => if (m.ss.getD (m.gs.getD i as0).t.toNat sg0).k = 3 then (nrA m V i).set (m.gs.getD i as0).t.toNat (evK (m.gs.getD i as0).os V (m.ss.getD (m.gs.getD i as0).t.toNat sg0).w) else nrA m V i
def maK (m : Md) (V : List Int) (i : Nat) : Int := 4 * (i : Int) + V.getD (m.ms.getD i mm0).a.toNat 0
def nmA (m : Md) (ws V : List Int) : Nat → List Int × List Int
  | 0 => (nrA m V m.gs.length, ws)
  | i + 1 => ((nmA m ws V i).1.set (m.ms.getD i mm0).o.toNat (ws.getD (maK m V i).toNat 0), if V.getD (m.ms.getD i mm0).w.toNat 0 = 1 then (nmA m ws V i).2.set (maK m V i).toNat (V.getD (m.ms.getD i mm0).d.toNat 0) else (nmA m ws V i).2)
def nxV (m : Md) (ws V : List Int) : List Int := (nmA m ws V m.ms.length).1
def nxW (m : Md) (ws V : List Int) : List Int := (nmA m ws V m.ms.length).2
theorem nrA_yes {m : Md} {V : List Int} {i : Nat} (h : (m.ss.getD (m.gs.getD i as0).t.toNat sg0).k = 3) : (nrA m V i).set (m.gs.getD i as0).t.toNat (evK (m.gs.getD i as0).os V (m.ss.getD (m.gs.getD i as0).t.toNat sg0).w) = nrA m V (i + 1) := by
  show _ = if _ then _ else _
  rw [if_pos h]
theorem nrA_no {m : Md} {V : List Int} {i : Nat} (h : ¬ (m.ss.getD (m.gs.getD i as0).t.toNat sg0).k = 3) : nrA m V i = nrA m V (i + 1) := by
  show _ = if _ then _ else _
  rw [if_neg h]
theorem nrA_ok {m : Md} (h : FlP m) (V : List Int) : ∀ i, i ≤ m.gs.length → VlP m (nrA m V i) ∧ ∀ s, s < m.ss.length → stB m s = false → (nrA m V i).getD s 0 = 0
  | 0, _ => ⟨VlP.zero h, fun s hs _ => getD_rep0 _ _⟩
  | i + 1, hi => by
    obtain ⟨h1, h2⟩ := nrA_ok h V i (by omega)
    obtain ⟨⟨h3, -⟩, h4⟩ := h.as (i := i) (by omega)
    unfold nrA; split
    · rename_i hk
      refine ⟨h1.set (by omega) (evK_mask h4.pos (h.sw (by omega))), fun s hs hb => ?_⟩
      rw [getD_setI (by rw [h1.len]; omega)]; split
      · rename_i e; subst e; rw [stB_reg hs hk] at hb; cases hb
      · exact h2 s hs hb
    · exact ⟨h1, h2⟩
theorem FlP.mm {m : Md} (h : FlP m) {i : Nat} (hi : i < m.ms.length) : (0 ≤ (m.ms.getD i mm0).a ∧ (m.ms.getD i mm0).a < m.ss.length) ∧ (0 ≤ (m.ms.getD i mm0).d ∧ (m.ms.getD i mm0).d < m.ss.length) ∧ (0 ≤ (m.ms.getD i mm0).w ∧ (m.ms.getD i mm0).w < m.ss.length) ∧ 0 ≤ (m.ms.getD i mm0).o ∧ (m.ms.getD i mm0).o < m.ss.length := by
  have hm := h.eo.mod.ms i hi
  exact ⟨hm.1.1, hm.1.2.1, hm.1.2.2, hm.2.inn⟩
theorem maK_rng {m : Md} (h : FlP m) {V : List Int} (hV : VlP m V) {i : Nat} (hi : i < m.ms.length) : 4 * (i : Int) ≤ maK m V i ∧ maK m V i ≤ 4 * (i : Int) + 3 := by
  have h1 := h.mm hi
  have h2 := hV.rng (m.ms.getD i mm0).a.toNat (by omega)
  rw [(h.mem i hi).1] at h2
  unfold maK
  have h3 : wmK 2 = 3 := by decide
  omega
theorem nmA_ok {m : Md} (h : FlP m) {ws V : List Int} (hV : VlP m V) (hw : WwP m ws) : ∀ i, i ≤ m.ms.length → (VlP m (nmA m ws V i).1 ∧ ∀ s, s < m.ss.length → stB m s = false → (nmA m ws V i).1.getD s 0 = 0) ∧ WwP m (nmA m ws V i).2
  | 0, _ => ⟨nrA_ok h V _ (Nat.le_refl _), hw⟩
  | i + 1, hi => by
    obtain ⟨⟨h1, h2⟩, h3⟩ := nmA_ok h hV hw i (by omega)
    have hm := h.mm (i := i) (by omega)
    have ha := maK_rng h hV (i := i) (by omega)
    have hq : (((maK m V i).toNat : Int) / 4).toNat = i := by omega
    have hwr := hw.rng (maK m V i).toNat (by rw [hw.len]; omega)
    rw [hq] at hwr
    have hmw := (h.mem i (by omega)).2.2
    refine ⟨⟨h1.set (by omega) ⟨hwr.1, by rw [← hmw]; exact hwr.2⟩, fun s hs hb => ?_⟩, ?_⟩
    · show ((nmA m ws V i).1.set _ _).getD s 0 = 0
      rw [getD_setI (by rw [h1.len]; omega)]; split
      · rename_i e; subst e; rw [stB_out (by omega) hm.2.2.2] at hb; cases hb
      · exact h2 s hs hb
    · show WwP m (if _ then _ else _)
      split
      · refine ⟨by rw [List.length_set]; exact h3.len, fun q hq2 => ?_⟩
        rw [List.length_set] at hq2
        rw [getD_setI (by rw [h3.len]; omega)]; split
        · rename_i e; subst e; rw [hq]; exact hV.rng _ (by omega)
        · exact h3.rng q hq2
      · exact h3
theorem WsP.next {m : Md} {vs ws V : List Int} (h : WsP m vs ws) (hV : VlP m V) : WsP m (nxV m ws V) (nxW m ws V) := by
  obtain ⟨⟨h1, h2⟩, h3⟩ := nmA_ok h.fl hV h.w m.ms.length (Nat.le_refl _)
  exact ⟨h.fl, h1, h3, h2⟩
noncomputable def stT (m : Md) (I : List (List Int)) : Nat → List Int × List Int
  | 0 => (staV m, staW m)
  | t + 1 => (nxV m (stT m I t).2 (sgK m (stT m I t).1 (I.getD t [])), nxW m (stT m I t).2 (sgK m (stT m I t).1 (I.getD t [])))
noncomputable def vlT (m : Md) (I : List (List Int)) (t : Nat) : List Int := sgK m (stT m I t).1 (I.getD t [])
theorem stT_ok {m : Md} (h : FlP m) (I : List (List Int)) : ∀ t, WsP m (stT m I t).1 (stT m I t).2
  | 0 => WsP.start h
  | t + 1 => (stT_ok h I t).next (sgK_ok h (stT_ok h I t).v)
theorem vlT_ok {m : Md} (h : FlP m) (I : List (List Int)) (t : Nat) : VlP m (vlT m I t) := sgK_ok h (stT_ok h I t).v
theorem inA_bits {m : Md} {a b : List Int} (h : ∀ k w : Int, 0 ≤ k → 0 ≤ w → w ≤ 4 → bits .and .i64 (a.getD k.toNat 0) (wmK w) = bits .and .i64 (b.getD k.toNat 0) (wmK w)) (hs : ∀ s, s < m.ss.length → 0 ≤ (m.ss.getD s sg0).w ∧ (m.ss.getD s sg0).w ≤ 4) (vs : List Int) : ∀ i, i ≤ m.ss.length → inA m a vs i = inA m b vs i
  | 0, _ => rfl
  | i + 1, hi => by
    have h1 := inA_bits h hs vs i (by omega)
    unfold inA; rw [h1]
    have h2 := h ((inA m b vs i).2 : Int) (m.ss.getD i sg0).w (by omega) (hs i (by omega)).1 (hs i (by omega)).2
    rw [Int.toNat_natCast] at h2
    rw [h2]
theorem vlT_bits {m : Md} (h : FlP m) {A B : List (List Int)} (hb : ∀ t (k w : Int), 0 ≤ k → 0 ≤ w → w ≤ 4 → bits .and .i64 ((A.getD t []).getD k.toNat 0) (wmK w) = bits .and .i64 ((B.getD t []).getD k.toNat 0) (wmK w)) : ∀ t, stT m A t = stT m B t ∧ vlT m A t = vlT m B t
  | 0 => ⟨rfl, by
    unfold vlT sgK
    rw [inA_bits (hb 0) (fun s hs => h.sw hs) _ _ (Nat.le_refl _)]; rfl⟩
  | t + 1 => by
    obtain ⟨h1, h2⟩ := vlT_bits h hb t
    have e : stT m A (t + 1) = stT m B (t + 1) := by
      show (nxV m (stT m A t).2 (vlT m A t), nxW m (stT m A t).2 (vlT m A t)) = (nxV m (stT m B t).2 (vlT m B t), nxW m (stT m B t).2 (vlT m B t))
      rw [h1, h2]
    refine ⟨e, ?_⟩
    unfold vlT sgK
    rw [inA_bits (hb (t + 1)) (fun s hs => h.sw hs) _ _ (Nat.le_refl _), e]
noncomputable def trK (m : Md) (I : List (List Int)) : List (List Int) := (List.range I.length).map (vlT m I)
noncomputable def trA (m : Md) (I : List (List Int)) (t : Nat) : List (List Int) := (List.range t).map (vlT m I)
theorem trA_succ (m : Md) (I : List (List Int)) (t : Nat) : trA m I (t + 1) = trA m I t ++ [vlT m I t] := by
  unfold trA; rw [List.range_succ, List.map_append]; rfl
def InI (m : Md) (I : List (List Int)) : Prop := I.length ≤ 16 ∧ ∀ t, t < I.length → (I.getD t []).length = (pwK m 0).length
theorem xs_at {rs : List CRow} (t : Nat) : (rs.map CRow.xs).getD t [] = (rs.getD t crow0).xs := by
  rw [List.getD_eq_getElem?_getD, List.getElem?_map, List.getD_eq_getElem?_getD]
  cases rs[t]? <;> rfl
theorem InI.at {m : Md} {rs : List CRow} (h : InI m (rs.map CRow.xs)) {t : Nat} (ht : t < rs.length) : (rs.getD t crow0).xs.length = (pwK m 0).length := by
  rw [← xs_at]; exact h.2 t (by rw [List.length_map]; exact ht)
theorem vl_at (m : Md) (rs : List CRow) (t : Nat) : sgK m (stT m (rs.map CRow.xs) t).1 (rs.getD t crow0).xs = vlT m (rs.map CRow.xs) t := by
  unfold vlT; rw [xs_at]
theorem trK_at {m : Md} {I : List (List Int)} {os : List CRow} (h : os.map CRow.xs = trK m I) {t : Nat} (ht : t < os.length) : (os.getD t crow0).xs = vlT m I t := by
  have hl : os.length = I.length := by have := congrArg List.length h; rw [List.length_map] at this; unfold trK at this; rw [List.length_map, List.length_range] at this; exact this
  rw [← xs_at, h]; unfold trK
  rw [List.getD_eq_getElem?_getD, List.getElem?_map, List.getElem?_range (by omega)]; rfl
theorem trK_len {m : Md} {I : List (List Int)} {os : List CRow} (h : os.map CRow.xs = trK m I) : os.length = I.length := by have := congrArg List.length h; rw [List.length_map] at this; unfold trK at this; rw [List.length_map, List.length_range] at this; exact this
theorem RdsCl.snoc {w : World} {v v' : Value} {rs : List CRow} {r : CRow} (hx : ∀ q ∈ rs, RdsW w q.v 1 q.xs.length (q.xs.map (Value.int .i64))) (hr : RdsW w r.v 1 r.xs.length (r.xs.map (Value.int .i64))) : ∀ q ∈ rs ++ [r], RdsW w q.v 1 q.xs.length (q.xs.map (Value.int .i64)) := fun q hq => by
  rcases List.mem_append.1 hq with hq | hq
  · exact hx q hq
  · rw [List.mem_singleton] at hq; subst hq; exact hr
section
variable {P : Program} {N : Nat} {w0 : World} {l l' : List HP} {env env' : List (Nat × Value)} {Q : Post} {o : Oper}
theorem hl_callMF {ops : Array Oper} {rest : List Oper} {d : Nat} {f : FuncId} {x : Operand} {xs : Array Operand} {ats : Array TypeId} {vs cs : List Value} {p : HP} {R : Value → HP → Prop} {ty : TypeId} {pos : String} {af : Array Edge} {gd : Option (Nat × Bool)} (i : Nat) (hN : Nat.blt d N = true) (hw : want ops env gd = some true)
    (hgo : goesB P f = true) (hx : ev env x = some (.func (.func f) #[] cs.toArray)) (hvs : evs env xs.toList = some vs) (hi : l[i]? = some p)
    (hc : ∀ L w, (∀ w, Mem w0 L w → Mem w0 (l.eraseIdx i) w) → Mem w0 (p :: L) w → Calls P f (vs ++ cs).toArray w fun e w' => ∃ v p', e = .returned v ∧ R v p' ∧ Mem w0 (p' :: L) w') (k : ∀ v p', R v p' → HL P N ops w0 (l.set i p') ((d, v) :: env) rest Q) : HL P N ops w0 l env ({ dst := some d, op := .call { callee := .value x, args := xs, argTypes := ats }, type := ty, pos := pos, after := af, guard := gd } :: rest) Q := fun a w st => wpList_step fun K hK => by
  have h1 := zfb l i p hi
  have hil : i < l.length := (List.getElem?_eq_some_iff.1 hi).1
  rw [if_pos (st.wanted hw)]
  unfold Oper.wp
  have h3 := evs_map st _ _ hvs
  have e1 : xs.map a.eval = vs.toArray := by apply Array.toList_inj.1; simpa using h3
  have h2 : (execOp a.eval { dst := some d, op := .call { callee := .value x, args := xs, argTypes := ats }, type := ty, pos := pos, after := af, guard := gd }).run P w = (callFunc f (vs ++ cs).toArray).run P w := by
    simp [execOp, resolve, Deferred.ofValue, invoke, st.eval hx, e1]
  rw [h2, run_go hgo, Oper.upon_enter]
  refine (hc (l.eraseIdx i) w (fun w h => h) (st.mem.perm h1)).mono fun e w' h => ?_
  obtain ⟨v, p', rfl, hR, hm'⟩ := h
  have h4 := zfb (l.set i p') i p' (List.getElem?_set_self hil)
  rw [List.eraseIdx_set_eq] at h4
  exact hK _ _ (k v p' hR _ _ (st.put hN (hm'.perm h4.symm)))
end
theorem zgf (k : Int) (w : World)  :
   Calls Try.prog 112 #[.int .i64 k] w (Ans w (.int .i64 (arI k))) := by
 refine zca (N := 15) (args := [.int .i64 k]) Try.func112 rfl rfl (zbf 1 rfl (sbQ (zag (reQ 1 rfl ?_))))
 refine zeq rfl (zaw rfl rfl (fun w hm => zbg (zej (zcm _ _ _ w)))) (zbs (fun h1 => ?_) (fun h1 => ?_))
 ·
  obtain ⟨h1a, h1b⟩ := (zdh _ _ _).1 h1
  refine zbb 1 rfl (zai rfl (zbf 1 rfl ?_))
  refine zap (zac ?_)
  exact zaf (zay rfl rfl (congrArg (Value.int .i64) (by unfold arI; (repeat' split) <;> first | rfl | (exfalso; omega))))
 have h1a := zdb h1
 refine zbb 1 rfl (zar rfl (zag (reQ 1 rfl ?_)))
 refine zbt rfl rfl rfl rfl rfl rfl (fun h2 => ?_) (fun h2 => ?_)
 ·
  refine zbb 1 rfl (zai rfl (zbf 1 rfl ?_))
  refine zap (zac ?_)
  exact zaf (zay rfl rfl (congrArg (Value.int .i64) (by unfold arI; (repeat' split) <;> first | rfl | (exfalso; omega))))
 refine zbb 1 rfl (zar rfl (zag (reQ 1 rfl ?_)))
 refine zeq rfl (zaw rfl rfl (fun w hm => zbg (zej (zcm _ _ _ w)))) (zbs (fun h3 => ?_) (fun h3 => ?_))
 ·
  obtain ⟨h3a, h3b⟩ := (zdh _ _ _).1 h3
  refine zbb 1 rfl (zai rfl (zbf 1 rfl ?_))
  refine zap (zac ?_)
  exact zaf (zay rfl rfl (congrArg (Value.int .i64) (by unfold arI; (repeat' split) <;> first | rfl | (exfalso; omega))))
 have h3a := zdb h3
 refine zbb 1 rfl (zar rfl (zag (reQ 1 rfl ?_)))
 refine zbt rfl rfl rfl rfl rfl rfl (fun h4 => ?_) (fun h4 => ?_)
 ·
  refine zbb 1 rfl (zai rfl (zbf 1 rfl ?_))
  refine zap (zac ?_)
  exact zaf (zay rfl rfl (congrArg (Value.int .i64) (by unfold arI; (repeat' split) <;> first | rfl | (exfalso; omega))))
 refine zbb 1 rfl (fsQ rfl (zde (zbf 1 rfl ?_)))
 exact zap (zay rfl rfl (congrArg (Value.int .i64) (by unfold arI; (repeat' split) <;> first | rfl | (exfalso; omega))))
theorem opOk_ans (o : Oq) (n : Int) (w : World)  :
   Calls Try.prog 111 #[.agg #[.int .i64 o.k, .int .i64 o.a, .int .i64 o.b], .int .i64 n] w (Ans w (.bool (pB (OqP n o)))) := by
 refine zca (N := 67) (args := [.agg #[.int .i64 o.k, .int .i64 o.a, .int .i64 o.b], .int .i64 n]) Try.func111 rfl rfl (srQ ?_)
 refine zdm rfl (zdk rfl rfl) ?_
 intro b1
 refine zbb 1 rfl (sbQ (srQ (hvQ rfl (fdQ 0 rfl rfl rfl) (hvQ rfl (zad rfl rfl rfl (zaa 0 rfl rfl)) ?_))))
 refine zbt rfl rfl rfl rfl rfl rfl (fun h2 => ?_) (fun h2 => ?_)
 ·
  refine zbb 1 rfl (zai rfl (srQ (hvQ rfl (fdQ 1 rfl rfl rfl) (hvQ rfl (zad rfl rfl rfl (zaa 0 rfl rfl)) ?_))))
  refine zeq rfl (zaw rfl rfl (fun w hm => zbg (zej (zcm _ _ _ w)))) (zbs (fun h3 => ?_) (fun h3 => ?_))
  ·
   obtain ⟨h3a, h3b⟩ := (zdh _ _ _).1 h3
   refine zah 1 rfl (hvQ rfl (fdQ 2 rfl rfl rfl) (hvQ rfl (zad rfl rfl rfl (zaa 0 rfl rfl)) ?_))
   refine zbt rfl rfl rfl rfl rfl rfl (fun h4 => ?_) (fun h4 => ?_)
   ·
    refine zbb 2 rfl ?_
    refine zap (zac ?_)
    exact zaf (zay rfl rfl (congrArg _ (zdl (by first | exact .inl ⟨by omega, ⟨by omega, by omega⟩, by omega⟩ | exact .inr (.inl ⟨by omega, ⟨by omega, by omega⟩, by omega⟩) | exact .inr (.inr (.inl ⟨by omega, ⟨by omega, by omega⟩, by omega, by omega⟩)) | exact .inr (.inr (.inr ⟨by omega, by omega, by omega, by omega, by omega, by omega⟩)))).symm))
   refine zbb 2 rfl ?_
   refine zap (zac ?_)
   exact zaf (zay rfl rfl (congrArg _ (zcd (fun hp => by first | (rcases hp with ⟨p1, p2, p3⟩ | ⟨p1, p2, p3⟩ | ⟨p1, p2, p3⟩ | ⟨p1, p2, p3, p4, p5, p6⟩ <;> omega))).symm))
  have h3a := zdb h3
  refine zbb 6 rfl ?_
  refine zap (zac ?_)
  exact zaf (zay rfl rfl (congrArg _ (zcd (fun hp => by first | (rcases hp with ⟨p1, p2, p3⟩ | ⟨p1, p2, p3⟩ | ⟨p1, p2, p3⟩ | ⟨p1, p2, p3, p4, p5, p6⟩ <;> omega))).symm))
 refine zbb 1 rfl (zar rfl (srQ (hvQ rfl (fdQ 0 rfl rfl rfl) (hvQ rfl (zad rfl rfl rfl (zaa 0 rfl rfl)) ?_))))
 refine zbt rfl rfl rfl rfl rfl rfl (fun h5 => ?_) (fun h5 => ?_)
 ·
  refine zbb 1 rfl (zai rfl (srQ (hvQ rfl (fdQ 1 rfl rfl rfl) (hvQ rfl (zad rfl rfl rfl (zaa 0 rfl rfl)) ?_))))
  refine hl_geq rfl rfl rfl rfl rfl rfl (fun h6 => ?_) (fun h6 => ?_)
  ·
   refine zah 1 rfl (hvQ rfl (fdQ 1 rfl rfl rfl) (hvQ rfl (zad rfl rfl rfl (zaa 0 rfl rfl)) (zah 1 rfl ?_)))
   refine zbq rfl rfl rfl rfl rfl rfl (fun h7 => ?_) (fun h7 => ?_)
   ·
    refine zah 2 rfl (hvQ rfl (fdQ 2 rfl rfl rfl) (hvQ rfl (zad rfl rfl rfl (zaa 0 rfl rfl)) ?_))
    refine zbt rfl rfl rfl rfl rfl rfl (fun h8 => ?_) (fun h8 => ?_)
    ·
     refine zbb 2 rfl ?_
     refine zap (zac ?_)
     exact zaf (zay rfl rfl (congrArg _ (zdl (by first | exact .inl ⟨by omega, ⟨by omega, by omega⟩, by omega⟩ | exact .inr (.inl ⟨by omega, ⟨by omega, by omega⟩, by omega⟩) | exact .inr (.inr (.inl ⟨by omega, ⟨by omega, by omega⟩, by omega, by omega⟩)) | exact .inr (.inr (.inr ⟨by omega, by omega, by omega, by omega, by omega, by omega⟩)))).symm))
    refine zbb 2 rfl ?_
    refine zap (zac ?_)
    exact zaf (zay rfl rfl (congrArg _ (zcd (fun hp => by first | (rcases hp with ⟨p1, p2, p3⟩ | ⟨p1, p2, p3⟩ | ⟨p1, p2, p3⟩ | ⟨p1, p2, p3, p4, p5, p6⟩ <;> omega))).symm))
   refine zbb 7 rfl ?_
   refine zap (zac ?_)
   exact zaf (zay rfl rfl (congrArg _ (zcd (fun hp => by first | (rcases hp with ⟨p1, p2, p3⟩ | ⟨p1, p2, p3⟩ | ⟨p1, p2, p3⟩ | ⟨p1, p2, p3, p4, p5, p6⟩ <;> omega))).symm))
  refine zbb 12 rfl ?_
  refine zap (zac ?_)
  exact zaf (zay rfl rfl (congrArg _ (zcd (fun hp => by first | (rcases hp with ⟨p1, p2, p3⟩ | ⟨p1, p2, p3⟩ | ⟨p1, p2, p3⟩ | ⟨p1, p2, p3, p4, p5, p6⟩ <;> omega))).symm))
 refine zbb 1 rfl (zar rfl (srQ (hvQ rfl (fdQ 0 rfl rfl rfl) (hvQ rfl (zad rfl rfl rfl (zaa 0 rfl rfl)) ?_))))
 refine zbt rfl rfl rfl rfl rfl rfl (fun h9 => ?_) (fun h9 => ?_)
 ·
  refine zbb 1 rfl (zai rfl (srQ (hvQ rfl (fdQ 1 rfl rfl rfl) (hvQ rfl (zad rfl rfl rfl (zaa 0 rfl rfl)) ?_))))
  refine hl_geq rfl rfl rfl rfl rfl rfl (fun h10 => ?_) (fun h10 => ?_)
  ·
   refine zah 1 rfl (hvQ rfl (fdQ 1 rfl rfl rfl) (hvQ rfl (zad rfl rfl rfl (zaa 0 rfl rfl)) (zah 1 rfl ?_)))
   refine zbq rfl rfl rfl rfl rfl rfl (fun h11 => ?_) (fun h11 => ?_)
   ·
    refine zah 2 rfl (hvQ rfl (fdQ 2 rfl rfl rfl) (hvQ rfl (zad rfl rfl rfl (zaa 0 rfl rfl)) ?_))
    refine zeq rfl (zaw rfl rfl (fun w hm => zbg (zej (zcm _ _ _ w)))) (zbs (fun h12 => ?_) (fun h12 => ?_))
    ·
     obtain ⟨h12a, h12b⟩ := (zdh _ _ _).1 h12
     refine zbb 2 rfl ?_
     refine zap (zac ?_)
     exact zaf (zay rfl rfl (congrArg _ (zdl (by first | exact .inl ⟨by omega, ⟨by omega, by omega⟩, by omega⟩ | exact .inr (.inl ⟨by omega, ⟨by omega, by omega⟩, by omega⟩) | exact .inr (.inr (.inl ⟨by omega, ⟨by omega, by omega⟩, by omega, by omega⟩)) | exact .inr (.inr (.inr ⟨by omega, by omega, by omega, by omega, by omega, by omega⟩)))).symm))
    have h12a := zdb h12
    refine zbb 2 rfl ?_
    refine zap (zac ?_)
    exact zaf (zay rfl rfl (congrArg _ (zcd (fun hp => by first | (rcases hp with ⟨p1, p2, p3⟩ | ⟨p1, p2, p3⟩ | ⟨p1, p2, p3⟩ | ⟨p1, p2, p3, p4, p5, p6⟩ <;> omega))).symm))
   refine zbb 7 rfl ?_
   refine zap (zac ?_)
   exact zaf (zay rfl rfl (congrArg _ (zcd (fun hp => by first | (rcases hp with ⟨p1, p2, p3⟩ | ⟨p1, p2, p3⟩ | ⟨p1, p2, p3⟩ | ⟨p1, p2, p3, p4, p5, p6⟩ <;> omega))).symm))
  refine zbb 12 rfl ?_
  refine zap (zac ?_)
  exact zaf (zay rfl rfl (congrArg _ (zcd (fun hp => by first | (rcases hp with ⟨p1, p2, p3⟩ | ⟨p1, p2, p3⟩ | ⟨p1, p2, p3⟩ | ⟨p1, p2, p3, p4, p5, p6⟩ <;> omega))).symm))
 refine zbb 1 rfl (fsQ rfl (zde (srQ (hvQ rfl (fdQ 0 rfl rfl rfl) (hvQ rfl (zad rfl rfl rfl (zaa 0 rfl rfl)) ?_)))))
 refine zeq rfl (zaw rfl rfl (fun w hm => zbg (zgf o.k w))) (hl_geq rfl rfl rfl rfl rfl rfl (fun h13 => ?_) (fun h13 => ?_))
 ·
  refine zah 1 rfl (hvQ rfl (fdQ 1 rfl rfl rfl) (hvQ rfl (zad rfl rfl rfl (zaa 0 rfl rfl)) ?_))
  refine zbt rfl rfl rfl rfl rfl rfl (fun h14 => ?_) (fun h14 => ?_)
  ·
   refine zah 2 rfl (hvQ rfl (fdQ 2 rfl rfl rfl) (hvQ rfl (zad rfl rfl rfl (zaa 0 rfl rfl)) ?_))
   refine zbt rfl rfl rfl rfl rfl rfl (fun h15 => ?_) (fun h15 => ?_)
   ·
    refine zbb 2 rfl ?_
    exact zap (zay rfl rfl (congrArg _ (zdl (by first | exact .inl ⟨by omega, ⟨by omega, by omega⟩, by omega⟩ | exact .inr (.inl ⟨by omega, ⟨by omega, by omega⟩, by omega⟩) | exact .inr (.inr (.inl ⟨by omega, ⟨by omega, by omega⟩, by omega, by omega⟩)) | exact .inr (.inr (.inr ⟨by omega, by omega, by omega, by omega, by omega, by omega⟩)))).symm))
   refine zbb 2 rfl ?_
   exact zap (zay rfl rfl (congrArg _ (zcd (fun hp => by first | (rcases hp with ⟨p1, p2, p3⟩ | ⟨p1, p2, p3⟩ | ⟨p1, p2, p3⟩ | ⟨p1, p2, p3, p4, p5, p6⟩ <;> omega))).symm))
  refine zbb 7 rfl ?_
  exact zap (zay rfl rfl (congrArg _ (zcd (fun hp => by first | (rcases hp with ⟨p1, p2, p3⟩ | ⟨p1, p2, p3⟩ | ⟨p1, p2, p3⟩ | ⟨p1, p2, p3, p4, p5, p6⟩ <;> omega))).symm))
 refine zbb 11 rfl ?_
 exact zap (zay rfl rfl (congrArg _ (zcd (fun hp => by first | (rcases hp with ⟨p1, p2, p3⟩ | ⟨p1, p2, p3⟩ | ⟨p1, p2, p3⟩ | ⟨p1, p2, p3, p4, p5, p6⟩ <;> omega))).symm))
theorem implOpsOk_ans (os : List Oq) (n : Int) (v : Value) (w : World) (hv : RdsW w v 3 os.length (os.flatMap oqC)) :
   Calls Try.prog 55 #[v, .int .i64 n] w (Ans w (.bool (pB (OpsP n os)))) := by
 have hv9 := sml hv
 refine zca (N := 39) (args := [v, .int .i64 n]) Try.func55 rfl rfl (zbf 1 rfl (zag (zag (reQ 1 rfl (hvQ rfl (lnQ rfl rfl rfl (zae hv)) ?_)))))
 refine zbt rfl rfl rfl rfl rfl rfl (fun h1 => ?_) (fun h1 => ?_)
 ·
  refine zbb 5 rfl (zai rfl (zbf 1 rfl ?_))
  refine zap (zaf ?_)
  exact zay rfl rfl (congrArg _ (zcd (fun hp => by first | (have := hp.len; omega) | (have := hp.pos; omega) | (have := (hp.op i (by omega)).1; omega) | (exact absurd (hp.op i (by omega)).2 (by assumption)) | (have := hp.fin; rw [show os.length = i by omega] at this; omega))).symm)
 refine zah 2 rfl (hvQ rfl (lnQ rfl rfl rfl (zae hv)) ?_)
 refine zeb rfl rfl rfl rfl rfl rfl (fun h2 => ?_) (fun h2 => ?_)
 ·
  refine zbb 1 rfl (zai rfl (zbf 1 rfl ?_))
  refine zap (zaf ?_)
  exact zay rfl rfl (congrArg _ (zcd (fun hp => by first | (have := hp.len; omega) | (have := hp.pos; omega) | (have := (hp.op i (by omega)).1; omega) | (exact absurd (hp.op i (by omega)).2 (by assumption)) | (have := hp.fin; rw [show os.length = i by omega] at this; omega))).symm)
 refine zbb 1 rfl (zar rfl (zcy (zbf 1 rfl (zag ?_))))
 refine zag (reQ 1 rfl (hvQ rfl (lnQ rfl rfl rfl (zae hv)) (zbb 1 rfl (zaz ?_))))
 refine lkQ2 (α := Nat) (β := Int) [0, 1, 4, 15, 16, 17] rfl (fun i c => []) (fun i c => [(5, .int .i64 c), (18, .int .i64 (i : Int))]) (fun i c => i ≤ os.length ∧ c = needK os i ∧ ∀ q, q < i → needK os q ≠ 0 ∧ OqP n (os.getD q oq0)) (fun i c => os.length - i) 0 1 ⟨Nat.zero_le _, rfl, fun q hq => absurd hq (by omega)⟩ (saQ rfl) (.slnil) ?_
 intro i c hi3
 obtain ⟨hi, hc, hall⟩ := hi3
 have hnr := needK_rng os i
 have har := arI_rng (os.getD i oq0).k
 refine srQ ?_
 refine zbq rfl rfl rfl rfl rfl rfl (fun h4 => ?_) (fun h4 => ?_)
 ·
  refine ntQ (tcQ rfl (zcy (sbQ (srQ (hvQ rfl (riQ 3 rfl rfl rfl rfl (zae hv)) ?_)))))
  refine hvQ rfl (zbm (us := [.int .i64 ((os.getD i oq0).k), .int .i64 ((os.getD i oq0).a), .int .i64 ((os.getD i oq0).b)]) rfl rfl rfl rfl (zae hv) (by omega) rfl (zbz oqC 3 (fun _ => rfl) os oq0 (show i < _ by omega) rfl)) (zdm rfl (zbe (z := .agg #[.int .i64 0, .int .i64 0, .int .i64 0]) rfl rfl) ?_)
  intro b5
  refine zbd (cs' := #[.int .i64 ((os.getD i oq0).k), .int .i64 ((os.getD i oq0).a), .int .i64 ((os.getD i oq0).b)]) (i := 0) (off := 0) (us := [.int .i64 ((os.getD i oq0).k), .int .i64 ((os.getD i oq0).a), .int .i64 ((os.getD i oq0).b)]) rfl rfl rfl rfl rfl rfl rfl (zab rfl (zab rfl (zab rfl zbc))) rfl rfl rfl (ntQ (zag (zag (reQ 1 rfl ?_))))
  refine zbt rfl rfl rfl rfl rfl rfl (fun h6 => ?_) (fun h6 => ?_)
  ·
   refine zbb 6 rfl (zai rfl (srQ (enQ 1 rfl ?_)))
   refine zaq (zap ?_)
   refine zaf (zac ?_)
   refine zdy ?_
   refine zac (zaf ?_)
   exact zay rfl rfl (congrArg _ (zcd (fun hp => by first | (have := hp.len; omega) | (have := hp.pos; omega) | (have := (hp.op i (by omega)).1; omega) | (exact absurd (hp.op i (by omega)).2 (by assumption)) | (have := hp.fin; rw [show os.length = i by omega] at this; omega))).symm)
  refine zah 1 rfl (hvQ rfl (zax (cs := [.int .i64 ((os.getD i oq0).k), .int .i64 ((os.getD i oq0).a), .int .i64 ((os.getD i oq0).b)]) rfl rfl rfl rfl rfl (zat 0 rfl 0 rfl)) (zah 1 rfl ?_))
  refine zeq rfl (zaw rfl rfl (fun w hm => zbg (opOk_ans (os.getD i oq0) n w))) (zbs (fun h7 => ?_) (fun h7 => ?_))
  ·
   have h7p := zez h7
   refine zbb 2 rfl (zar rfl (zcy (reQ 1 rfl (hvQ rfl (fdQ 0 rfl rfl rfl) (hvQ rfl (zad rfl rfl rfl (zaa 0 rfl rfl)) ?_)))))
   refine zeq rfl (zaw rfl rfl (fun w hm => zbg (zgf ((os.getD i oq0).k) w))) (hvQ rfl (vsQ rfl rfl rfl) (hvQ rfl (vaQ rfl rfl rfl) (enQ 1 rfl (zde (zao (hvQ rfl (vaQ rfl rfl rfl) (enQ 1 rfl ?_)))))))
   exact zcw (i + 1) (c + ((arI ((os.getD i oq0).k)) - 1)) ⟨by omega, by show _ = needK os i + (arI (os.getD i oq0).k - 1); omega, fun q hq => by by_cases e : q = i; (subst e; exact ⟨by omega, by assumption⟩); exact hall q (by omega)⟩ (by omega) (saQ rfl) (slQ [] rfl)
  have h7p := zec h7
  refine zbb 2 rfl (zai rfl (zbf 1 rfl ?_))
  refine zap (zaf ?_)
  refine zac (zdy ?_)
  refine zac (zaf ?_)
  exact zay rfl rfl (congrArg _ (zcd (fun hp => by first | (have := hp.len; omega) | (have := hp.pos; omega) | (have := (hp.op i (by omega)).1; omega) | (exact absurd (hp.op i (by omega)).2 (by assumption)) | (have := hp.fin; rw [show os.length = i by omega] at this; omega))).symm)
 refine ntQ (fcQ rfl ?_)
 refine zbl (zdx ?_)
 refine zan (zaq (zag (reQ 1 rfl ?_)))
 refine zbt rfl rfl rfl rfl rfl rfl (fun h8 => ?_) (fun h8 => ?_)
 ·
  refine zbb 1 rfl ?_
  exact zap (zay rfl rfl (congrArg _ (zdl ⟨by omega, fun q hq => hall q (by omega), by rw [show os.length = i by omega]; omega⟩).symm))
 refine zbb 1 rfl ?_
 exact zap (zay rfl rfl (congrArg _ (zcd (fun hp => by first | (have := hp.len; omega) | (have := hp.pos; omega) | (have := (hp.op i (by omega)).1; omega) | (exact absurd (hp.op i (by omega)).2 (by assumption)) | (have := hp.fin; rw [show os.length = i by omega] at this; omega))).symm))
theorem zew (m : Md) (w : World) (hr : RdsMd w m) :
   Calls Try.prog 107 #[.agg #[m.sv, m.av, m.iv, m.mv]] w (Ret w (fun v' post => post = [rowE 3 1 v' ((ptsK m)).length (((ptsK m)).map (Value.int .i64))])) := by
 have hs9 := sml hr.s
 refine zca (N := 32) (args := [.agg #[m.sv, m.av, m.iv, m.mv]]) Try.func107 rfl rfl (srQ ?_)
 refine zdm rfl (zdk rfl rfl) ?_
 intro b1
 refine zdp 3 1 (zbb 1 rfl (zfn (hvQ rfl (fdQ 0 rfl rfl rfl) (hvQ rfl (zad rfl rfl rfl (zaa 1 rfl rfl)) (hvQ rfl (lnQ rfl rfl rfl (zae ((hr).s))) ?_)))))
 refine zeb rfl rfl rfl rfl rfl rfl (fun h3 => ?_) (fun h3 => ?_)
 ·
  refine ntQ (zai rfl (srQ ?_))
  refine zdp 3 1 (zbb 1 rfl ?_)
  refine zap (zaf ?_)
  exact zfi (post := [rowE 3 1 (.slice none 0 0) 0 ([])]) rfl rfl (slQ [0] rfl) (by unfold ptsK; rw [if_neg (by omega)] <;> rfl)
 refine ntQ (zar rfl (zcy (srQ ?_)))
 refine zdp 3 1 (zbb 1 rfl (zfn (hvQ rfl (fdQ 0 rfl rfl rfl) (hvQ rfl (zad rfl rfl rfl (zaa 2 rfl rfl)) (hvQ rfl (lnQ rfl rfl rfl (zae ((hr).s))) (zbb 1 rfl ?_))))))
 refine zaz ?_
 refine lkQ3 (α := Nat) (β := Value) (γ := List Int) [0, 1, 2, 9, 11, 12] rfl (fun i gu zs => [rowE 3 1 gu zs.length (zs.map (Value.int .i64)), rowE 3 1 (.slice none 0 0) 0 ([]), boxE b1 #[m.sv, m.av, m.iv, m.mv] 35]) (fun i gu zs => [(3, gu), (13, .int .i64 (i : Int))]) (fun i gu zs => i ≤ m.ss.length ∧ zs = ptsA m.ss i) (fun i gu zs => m.ss.length - i) 0 _ [] ⟨Nat.zero_le _, rfl⟩ (saQ rfl) (pfQ rfl) ?_
 intro i gu zs hi6
 obtain ⟨hi, hz⟩ := hi6
 have hzl : zs.length ≤ i := by rw [hz]; exact ptsA_le _ _
 refine srQ ?_
 refine zbq rfl rfl rfl rfl rfl rfl (fun h7 => ?_) (fun h7 => ?_)
 ·
  refine ntQ (tcQ rfl (zcy (sbQ (zag (reQ 1 rfl (hvQ rfl (riQ 3 rfl rfl rfl rfl (zae ((hr).s))) ?_))))))
  refine hvQ rfl (zbm (us := [.int .i64 ((m.ss.getD i sg0).k), .int .i64 ((m.ss.getD i sg0).w), .int .i64 ((m.ss.getD i sg0).i)]) rfl rfl rfl rfl (zae ((hr).s)) (by omega) rfl (zbz sgC 3 (fun _ => rfl) m.ss sg0 (show i < _ by omega) rfl)) (zdm rfl (zbe (z := .agg #[.int .i64 0, .int .i64 0, .int .i64 0]) rfl rfl) ?_)
  intro b8
  refine zah 1 rfl (zbd (cs' := #[.int .i64 ((m.ss.getD i sg0).k), .int .i64 ((m.ss.getD i sg0).w), .int .i64 ((m.ss.getD i sg0).i)]) (i := 0) (off := 0) (us := [.int .i64 ((m.ss.getD i sg0).k), .int .i64 ((m.ss.getD i sg0).w), .int .i64 ((m.ss.getD i sg0).i)]) rfl rfl rfl rfl rfl rfl rfl (zab rfl (zab rfl (zab rfl zbc))) rfl rfl rfl ?_)
  refine ntQ (srQ (hvQ rfl (fdQ 0 rfl rfl rfl) (hvQ rfl (zad rfl rfl rfl (zaa 0 rfl rfl)) ?_)))
  refine zbt rfl rfl rfl rfl rfl rfl (fun h9 => ?_) (fun h9 => ?_)
  ·
   refine zbb 5 rfl (zai rfl (reQ 2 rfl ?_))
   refine zdt rfl (zal (z := .int .i64 0) (s := 1) (cs := ([(i : Int)].map (Value.int .i64))) rfl Try.underlying48 rfl (by decide) rfl (by kernel_rfl) rfl) ?_
   intro g10
   refine zcp (i := 2) (z := .int .i64 0) (bytes := 8) rfl rfl rfl rfl Try.underlying48 (by kernel_rfl) rfl rfl rfl rfl (zaj 0 rfl) (zch _) (by first | omega | (simp; done) | (simp; omega)) (zci zs ([(i : Int)])) (zcs zs ([(i : Int)])) (fun _ => rfl) ?_
   intro v11
   refine enQ 1 rfl (zde (zao (hvQ rfl (vaQ rfl rfl rfl) (enQ 1 rfl ?_))))
   exact zcn (i + 1) v11 (zs ++ ([(i : Int)])) ⟨by omega, by rw [hz]; exact ptsA_yes (by omega)⟩ (by omega) (saQ rfl) (slQ [2, 0, 0] rfl)
  refine zah 1 rfl (hvQ rfl (fdQ 0 rfl rfl rfl) (hvQ rfl (zad rfl rfl rfl (zaa 0 rfl rfl)) ?_))
  refine zbt rfl rfl rfl rfl rfl rfl (fun h12 => ?_) (fun h12 => ?_)
  ·
   refine zbb 1 rfl (zai rfl (reQ 2 rfl ?_))
   refine zdt rfl (zal (z := .int .i64 0) (s := 1) (cs := ([(i : Int)].map (Value.int .i64))) rfl Try.underlying48 rfl (by decide) rfl (by kernel_rfl) rfl) ?_
   intro g13
   refine zcp (i := 2) (z := .int .i64 0) (bytes := 8) rfl rfl rfl rfl Try.underlying48 (by kernel_rfl) rfl rfl rfl rfl (zaj 0 rfl) (zch _) (by first | omega | (simp; done) | (simp; omega)) (zci zs ([(i : Int)])) (zcs zs ([(i : Int)])) (fun _ => rfl) ?_
   intro v14
   refine enQ 1 rfl (zde (zao (hvQ rfl (vaQ rfl rfl rfl) (enQ 1 rfl ?_))))
   exact zcn (i + 1) v14 (zs ++ ([(i : Int)])) ⟨by omega, by rw [hz]; exact ptsA_yes (by omega)⟩ (by omega) (saQ rfl) (slQ [2, 0, 0] rfl)
  refine zbb 1 rfl (fsQ rfl (zde (zao (hvQ rfl (vaQ rfl rfl rfl) (enQ 1 rfl ?_)))))
  exact zcn (i + 1) gu zs ⟨by omega, hz.trans (ptsA_no (by omega))⟩ (by omega) (saQ rfl) (slQ [1, 0, 0] rfl)
 refine ntQ (fcQ rfl ?_)
 refine zbl (zdx ?_)
 refine zan (zaq (zbf 2 rfl ?_))
 exact zap (zfi (post := [rowE 3 1 gu zs.length (zs.map (Value.int .i64))]) rfl rfl (slQ [0] rfl) (by rw [hz, show i = m.ss.length by omega]; unfold ptsK; rw [if_pos (by omega)]))
theorem countsOk_ans (D : List Md) (v : Value) (w : World) (hd : RdsDs w v D) :
   Calls Try.prog 48 #[.agg #[v]] w (Ans w (.bool (pB (CntP D)))) := by
 have hd9 := sml hd.row
 have hm9 : ∀ q, q < D.length → (D.getD q md0).ss.length ≤ 9223372036854775807 := fun q hq => by have := sml (hd.at hq).s; omega
 refine zca (N := 39) (args := [.agg #[v]]) Try.func48 rfl rfl (srQ ?_)
 refine zdm rfl (zdk rfl rfl) ?_
 intro b1
 refine zbb 1 rfl (zfn (hvQ rfl (fdQ 0 rfl rfl rfl) (hvQ rfl (zad rfl rfl rfl (zaa 0 rfl rfl)) (hvQ rfl (lnQ rfl rfl rfl (zae hd.row)) ?_))))
 refine zeb rfl rfl rfl rfl rfl rfl (fun h2 => ?_) (fun h2 => ?_)
 ·
  refine ntQ (zai rfl (zbf 1 rfl ?_))
  refine zap (zaf ?_)
  exact zay rfl rfl (congrArg _ (zcd (fun hp => by first | (have := hp.len; omega) | (obtain ⟨h1, h2, h3, h4⟩ := hp.md i (by omega); omega))).symm)
 refine ntQ (zar rfl (zcy (zfn (hvQ rfl (fdQ 0 rfl rfl rfl) (hvQ rfl (zad rfl rfl rfl (zaa 0 rfl rfl)) (hvQ rfl (lnQ rfl rfl rfl (zae hd.row)) (zah 1 rfl (?_))))))))
 refine ntQ (zaz ?_)
 refine lkQ1 (α := Nat) [0, 1, 2, 8, 10, 11] rfl (fun i => [boxE b1 #[v] 26]) (fun i => [(12, .int .i64 (i : Int))]) (fun i => i ≤ D.length ∧ ∀ q, q < i → LenP (D.getD q md0)) (fun i => D.length - i) 0 ⟨Nat.zero_le _, fun q hq => absurd hq (by omega)⟩ (saQ rfl) (pfQ rfl) ?_
 intro i hi3
 obtain ⟨hi, hall⟩ := hi3
 refine srQ ?_
 refine zbq rfl rfl rfl rfl rfl rfl (fun h4 => ?_) (fun h4 => ?_)
 ·
  refine ntQ (tcQ rfl (zcy (sbQ (srQ (hvQ rfl (riQ 4 rfl rfl rfl rfl (zae hd.row)) ?_)))))
  refine hvQ rfl (zbm (us := [(D.getD i md0).sv, (D.getD i md0).av, (D.getD i md0).iv, (D.getD i md0).mv]) rfl rfl rfl rfl (zae hd.row) (by omega) rfl (zbz mdC 4 (fun _ => rfl) D md0 (show i < _ by omega) rfl)) (zdm rfl (zbe (z := .agg #[.slice none 0 0, .slice none 0 0, .slice none 0 0, .slice none 0 0]) rfl rfl) ?_)
  intro b5
  refine zbd (cs' := #[(D.getD i md0).sv, (D.getD i md0).av, (D.getD i md0).iv, (D.getD i md0).mv]) (i := 0) (off := 0) (us := [(D.getD i md0).sv, (D.getD i md0).av, (D.getD i md0).iv, (D.getD i md0).mv]) rfl rfl rfl rfl rfl rfl rfl (zab (hd.at (k := i) (by omega)).s.one (zab (hd.at (k := i) (by omega)).g.one (zab (hd.at (k := i) (by omega)).x.one (zab (hd.at (k := i) (by omega)).m.one zbc)))) rfl rfl rfl (ntQ (srQ (hvQ rfl (fdQ 0 rfl rfl rfl) (hvQ rfl (zad rfl rfl rfl (zaa 0 rfl rfl)) (hvQ rfl (lnQ rfl rfl rfl (zae ((hd.at (k := i) (by omega)).s))) ?_)))))
  refine zeb rfl rfl rfl rfl rfl rfl (fun h6 => ?_) (fun h6 => ?_)
  ·
   refine zbb 18 rfl (zai rfl (zbf 1 rfl ?_))
   refine zap (zac ?_)
   refine zdy ?_
   refine zac (zaf ?_)
   exact zay rfl rfl (congrArg _ (zcd (fun hp => by first | (have := hp.len; omega) | (obtain ⟨h1, h2, h3, h4⟩ := hp.md i (by omega); omega))).symm)
  refine zah 1 rfl (hvQ rfl (fdQ 1 rfl rfl rfl) (hvQ rfl (zad rfl rfl rfl (zaa 0 rfl rfl)) (hvQ rfl (lnQ rfl rfl rfl (zae ((hd.at (k := i) (by omega)).g))) ?_)))
  refine zeb rfl rfl rfl rfl rfl rfl (fun h7 => ?_) (fun h7 => ?_)
  ·
   refine zbb 13 rfl ?_
   refine zai rfl (zbf 1 rfl ?_)
   refine zap (zac ?_)
   refine zdy ?_
   refine zac (zaf ?_)
   exact zay rfl rfl (congrArg _ (zcd (fun hp => by first | (have := hp.len; omega) | (obtain ⟨h1, h2, h3, h4⟩ := hp.md i (by omega); omega))).symm)
  refine zah 2 rfl (hvQ rfl (fdQ 2 rfl rfl rfl) (hvQ rfl (zad rfl rfl rfl (zaa 0 rfl rfl)) (hvQ rfl (lnQ rfl rfl rfl (zae ((hd.at (k := i) (by omega)).x))) ?_)))
  refine zeb rfl rfl rfl rfl rfl rfl (fun h8 => ?_) (fun h8 => ?_)
  ·
   refine zbb 7 rfl (zai rfl (zag (reQ 1 rfl (?_))))
   refine ntQ ?_
   refine zap (zac ?_)
   refine zdy ?_
   refine zac (zaf ?_)
   exact zay rfl rfl (congrArg _ (zcd (fun hp => by first | (have := hp.len; omega) | (obtain ⟨h1, h2, h3, h4⟩ := hp.md i (by omega); omega))).symm)
  refine zah 2 rfl (hvQ rfl (fdQ 3 rfl rfl rfl) (hvQ rfl (zad rfl rfl rfl (zaa 0 rfl rfl)) (hvQ rfl (lnQ rfl rfl rfl (zae ((hd.at (k := i) (by omega)).m))) ?_)))
  refine zeb rfl rfl rfl rfl rfl rfl (fun h9 => ?_) (fun h9 => ?_)
  ·
   refine zbb 1 rfl (zai rfl (zbf 1 rfl ?_))
   refine zap (zac ?_)
   refine zdy ?_
   refine zac (zaf ?_)
   exact zay rfl rfl (congrArg _ (zcd (fun hp => by first | (have := hp.len; omega) | (obtain ⟨h1, h2, h3, h4⟩ := hp.md i (by omega); omega))).symm)
  refine zbb 1 rfl (fsQ rfl (zde (zao (hvQ rfl (vaQ rfl rfl rfl) (enQ 1 rfl ?_)))))
  exact zbw (i + 1) ⟨by omega, fun q hq => by by_cases e : q = i; (subst e; exact ⟨by omega, by omega, by omega, by omega⟩); exact hall q (by omega)⟩ (by omega) (saQ rfl) (slQ [1] rfl)
 refine ntQ (fcQ rfl ?_)
 refine zbl (zdx ?_)
 refine zan (zaq (zbf 1 rfl ?_))
 exact zap (zay rfl rfl (congrArg _ (zdl ⟨by omega, fun q hq => hall q (by omega)⟩).symm))
theorem instsOk_ans (D : List Md) (k : Nat) (v : Value) (w : World) (hd : RdsDs w v D) (hk : k < D.length) :
   Calls Try.prog 49 #[.agg #[v], .int .i64 (k : Int)] w (Ans w (.bool (pB (InsP D k)))) := by
 have hd9 := sml hd.row
 have hm9 : ∀ q, q < D.length → (D.getD q md0).ss.length ≤ 9223372036854775807 := fun q hq => by have := sml (hd.at hq).s; omega
 have hx9 := sml (hd.at hk).x
 refine zca (N := 39) (args := [.agg #[v], .int .i64 (k : Int)]) Try.func49 rfl rfl (srQ ?_)
 refine zdm rfl (zdk rfl rfl) ?_
 intro b1
 refine zbb 1 rfl (zfn (hvQ rfl (fdQ 0 rfl rfl rfl) (hvQ rfl (zad rfl rfl rfl (zaa 0 rfl rfl)) (zah 1 rfl (hvQ rfl (riQ 4 rfl rfl rfl rfl (zae hd.row)) (hvQ rfl (zau (k0 := 2) rfl rfl rfl (zae hd.row) (by omega)) ?_))))))
 refine hvQ rfl (zam (u := (D.getD k md0).iv) rfl rfl rfl (zae hd.row) ((zbi mdC 4 (fun _ => rfl) D md0 (show k < _ by omega) (by decide)).trans rfl)) (hvQ rfl (lnQ rfl rfl rfl (zae ((hd.at (k := k) (by omega)).x))) (zbb 1 rfl (zaz ?_)))
 refine lkQ1 (α := Nat) [0, 1, 2, 4, 12, 13] rfl (fun i => [boxE b1 #[v] 26]) (fun i => [(14, .int .i64 (i : Int))]) (fun i => i ≤ (D.getD k md0).xs.length ∧ ∀ q, q < i → InsOk D k q) (fun i => (D.getD k md0).xs.length - i) 0 ⟨Nat.zero_le _, fun q hq => absurd hq (by omega)⟩ (saQ rfl) (pfQ rfl) ?_
 intro i hi2
 obtain ⟨hi, hins⟩ := hi2
 refine srQ ?_
 refine zbq rfl rfl rfl rfl rfl rfl (fun h3 => ?_) (fun h3 => ?_)
 ·
  refine ntQ (tcQ rfl (zcy (sbQ (srQ (hvQ rfl (riQ 3 rfl rfl rfl rfl (zae ((hd.at (k := k) (by omega)).x))) ?_)))))
  refine hvQ rfl (zbm (us := [.int .i64 ((((D.getD k md0).xs).getD i ix0).m), .int .i64 ((((D.getD k md0).xs).getD i ix0).p), (((D.getD k md0).xs).getD i ix0).pv]) rfl rfl rfl rfl (zae ((hd.at (k := k) (by omega)).x)) (by omega) rfl (zbz ixC 3 (fun _ => rfl) ((D.getD k md0).xs) ix0 (show i < _ by omega) rfl)) (zdm rfl (zbe (z := .agg #[.int .i64 0, .int .i64 0, .slice none 0 0]) rfl rfl) ?_)
  intro b4
  refine zbd (cs' := #[.int .i64 ((((D.getD k md0).xs).getD i ix0).m), .int .i64 ((((D.getD k md0).xs).getD i ix0).p), (((D.getD k md0).xs).getD i ix0).pv]) (i := 0) (off := 0) (us := [.int .i64 ((((D.getD k md0).xs).getD i ix0).m), .int .i64 ((((D.getD k md0).xs).getD i ix0).p), (((D.getD k md0).xs).getD i ix0).pv]) rfl rfl rfl rfl rfl rfl rfl (zab rfl (zab rfl (zab ((hd.at (k := k) (by omega)).p.at (k := i) (by omega)).one zbc))) rfl rfl rfl (ntQ (zag ?_))
  rcases Bool.eq_false_or_eq_true (inR ((((D.getD k md0).xs).getD i ix0).m) 0 ((k : Int) - 1)) with hb5 | hb5
  ·
   obtain ⟨hb5a, hb5b⟩ := (zdh _ _ _).1 hb5
   rcases Bool.eq_false_or_eq_true ((((((D.getD k md0).xs).getD i ix0).ps).length : Int) != ((ptsK (D.getD (((((D.getD k md0).xs).getD i ix0).m).toNat) md0)).length : Int)) with hb9 | hb9
   ·
    have hb9p : (((((D.getD k md0).xs).getD i ix0).ps).length : Int) ≠ ((ptsK (D.getD (((((D.getD k md0).xs).getD i ix0).m).toNat) md0)).length : Int) := bne_iff_ne.1 hb9
    refine zfj rfl 20 [0, 1, 2, 3, 4, 5, 6, 7, 8, 9, 10, 11, 12, 13, 14, 15, 16, 17, 18, 19] (List.take 20 _) (List.drop 20 _) [[], [0], [], [2], [1, 3], [4], [5], [6], [6, 7], [6, 8], [6], [6, 10], [6], [6, 12], [6, 11, 13], [6, 14], [6, 15], [6, 16], [6, 9, 16, 17], [6, 18]] [18, 19, 20, 21, 22, 23, 24, 25, 26, 27, 28, 29, 30, 31, 32, 33, 34, 35, 36, 37] (fun i_ vs_ v_ p_ => match i_ with | 0 => v_ = .pointer (some ⟨b4, 0 + 0, none⟩) ∧ p_ = [] | 1 => v_ = .int .i64 ((((D.getD k md0).xs).getD i ix0).m) ∧ p_ = [] | 2 => v_ = .int .i64 (k : Int) ∧ p_ = [] | 3 => v_ = .int .i64 ((k : Int) - 1) ∧ p_ = [] | 4 => v_ = .bool true ∧ p_ = [] | 5 => v_ = .bool false ∧ p_ = [] | 6 => v_ = .bool false ∧ p_ = [] | 7 => v_ = .pointer (some ⟨b4, 0 + 2, none⟩) ∧ p_ = [] | 8 => v_ = (((D.getD k md0).xs).getD i ix0).pv ∧ p_ = [] | 9 => v_ = .int .i64 (((((D.getD k md0).xs).getD i ix0).ps).length : Int) ∧ p_ = [] | 10 => v_ = .pointer (some ⟨b1, 0 + 0, none⟩) ∧ p_ = [] | 11 => v_ = v ∧ p_ = [] | 12 => v_ = .pointer (some ⟨b4, 0 + 0, none⟩) ∧ p_ = [] | 13 => v_ = .int .i64 ((((D.getD k md0).xs).getD i ix0).m) ∧ p_ = [] | 14 => v_ = elP v (((((D.getD k md0).xs).getD i ix0).m).toNat * 4) ∧ p_ = [] | 15 => v_ = .agg #[(D.getD (((((D.getD k md0).xs).getD i ix0).m).toNat) md0).sv, (D.getD (((((D.getD k md0).xs).getD i ix0).m).toNat) md0).av, (D.getD (((((D.getD k md0).xs).getD i ix0).m).toNat) md0).iv, (D.getD (((((D.getD k md0).xs).getD i ix0).m).toNat) md0).mv] ∧ p_ = [] | 16 => (fun v' post => post = [rowE 3 1 v' ((ptsK (D.getD (((((D.getD k md0).xs).getD i ix0).m).toNat) md0))).length (((ptsK (D.getD (((((D.getD k md0).xs).getD i ix0).m).toNat) md0))).map (Value.int .i64))]) v_ p_ | 17 => v_ = .int .i64 ((ptsK (D.getD (((((D.getD k md0).xs).getD i ix0).m).toNat) md0)).length : Int) ∧ p_ = [] | 18 => v_ = .bool true ∧ p_ = [] | 19 => v_ = .bool true ∧ p_ = [] | _ => True) (List.take_append_drop 20 _).symm (by kernel_rfl) (by kernel_rfl) rfl rfl ?_ ?_
    ·
     refine ⟨?_, ?_, ?_, ?_, ?_, ?_, ?_, ?_, ?_, ?_, ?_, ?_, ?_, ?_, ?_, ?_, ?_, ?_, ?_, ?_, trivial⟩
     ·
      intro vf pf hR
      exact ovQ rfl (zas [6] rfl) (zbx (fdQ 0 rfl rfl rfl))
     ·
      intro vf pf hR
      have e0 := hR 0 (by decide)
      exact olQ rfl (sk 18 (congrArg some e0.1) (zak _)) (zbx (zad rfl rfl rfl (zaa 0 rfl rfl)))
     ·
      intro vf pf hR
      exact ovQ rfl (zas [1] rfl) (zbx (zav rfl))
     ·
      intro vf pf hR
      have e2 := hR 2 (by decide)
      exact ovQ rfl (sk 20 (congrArg some e2.1) (zak _)) (zbx (vsQ rfl rfl rfl))
     ·
      intro vf pf hR
      have e1 := hR 1 (by decide)
      have e3 := hR 3 (by decide)
      exact olQ rfl (sk 19 (congrArg some e1.1) (sk 21 (congrArg some e3.1) (zak _))) (zct (zaw rfl rfl (fun w hm => zbg (zej (zcm _ _ _ w)))) (fun _ _ h => ⟨h.1.trans (congrArg Value.bool hb5), h.2⟩))
     ·
      intro vf pf hR
      have e4 := hR 4 (by decide)
      exact ovQ rfl (sk 22 (congrArg some e4.1) (zak _)) (zbx (zav rfl))
     ·
      intro vf pf hR
      have e5 := hR 5 (by decide)
      exact ovQ rfl (sk 23 (congrArg some e5.1) (zak _)) (zbx (zav rfl))
     ·
      intro vf pf hR
      have e6 := hR 6 (by decide)
      refine Or.inl ⟨zbv (congrArg some e6.1) rfl, ?_⟩
      exact zce (zas [6] rfl) (zbx (fdQ 2 rfl rfl rfl))
     ·
      intro vf pf hR
      have e6 := hR 6 (by decide)
      have e7 := hR 7 (by decide)
      refine Or.inl ⟨zbv (congrArg some e6.1) rfl, ?_⟩
      exact zbo (sk 25 (congrArg some e7.1) (zak _)) (List.sublist_append_right _ _) (zbx (zad rfl rfl rfl (zaa 0 rfl rfl)))
     ·
      intro vf pf hR
      have e6 := hR 6 (by decide)
      have e8 := hR 8 (by decide)
      refine Or.inl ⟨zbv (congrArg some e6.1) rfl, ?_⟩
      exact zbo (sk 26 (congrArg some e8.1) (zak _)) (List.sublist_append_right _ _) (zbx (lnQ rfl rfl rfl (zae ((hd.at (k := k) (by omega)).p.at (k := i) (by omega)))))
     ·
      intro vf pf hR
      have e6 := hR 6 (by decide)
      refine Or.inl ⟨zbv (congrArg some e6.1) rfl, ?_⟩
      exact zce (zas [2] rfl) (zbx (fdQ 0 rfl rfl rfl))
     ·
      intro vf pf hR
      have e6 := hR 6 (by decide)
      have e10 := hR 10 (by decide)
      refine Or.inl ⟨zbv (congrArg some e6.1) rfl, ?_⟩
      exact zbo (sk 28 (congrArg some e10.1) (zak _)) (List.sublist_append_right _ _) (zbx (zad rfl rfl rfl (zaa 1 rfl rfl)))
     ·
      intro vf pf hR
      have e6 := hR 6 (by decide)
      refine Or.inl ⟨zbv (congrArg some e6.1) rfl, ?_⟩
      exact zce (zas [6] rfl) (zbx (fdQ 0 rfl rfl rfl))
     ·
      intro vf pf hR
      have e6 := hR 6 (by decide)
      have e12 := hR 12 (by decide)
      refine Or.inl ⟨zbv (congrArg some e6.1) rfl, ?_⟩
      exact zbo (sk 30 (congrArg some e12.1) (zak _)) (List.sublist_append_right _ _) (zbx (zad rfl rfl rfl (zaa 0 rfl rfl)))
     ·
      intro vf pf hR
      have e6 := hR 6 (by decide)
      have e11 := hR 11 (by decide)
      have e13 := hR 13 (by decide)
      refine Or.inl ⟨zbv (congrArg some e6.1) rfl, ?_⟩
      exact zbo (sk 29 (congrArg some e11.1) (sk 31 (congrArg some e13.1) (zak _))) (List.sublist_append_right _ _) (zbx (riQ 4 rfl rfl rfl rfl (zae hd.row)))
     ·
      intro vf pf hR
      have e6 := hR 6 (by decide)
      have e14 := hR 14 (by decide)
      refine Or.inl ⟨zbv (congrArg some e6.1) rfl, ?_⟩
      exact zbo (sk 32 (congrArg some e14.1) (zak _)) (List.sublist_append_right _ _) (zbx (zbm (us := [(D.getD (((((D.getD k md0).xs).getD i ix0).m).toNat) md0).sv, (D.getD (((((D.getD k md0).xs).getD i ix0).m).toNat) md0).av, (D.getD (((((D.getD k md0).xs).getD i ix0).m).toNat) md0).iv, (D.getD (((((D.getD k md0).xs).getD i ix0).m).toNat) md0).mv]) rfl rfl rfl rfl (zae hd.row) (by omega) rfl (zbz mdC 4 (fun _ => rfl) D md0 (show ((((D.getD k md0).xs).getD i ix0).m).toNat < _ by omega) rfl)))
     ·
      intro vf pf hR
      have e6 := hR 6 (by decide)
      have e15 := hR 15 (by decide)
      refine Or.inl ⟨zbv (congrArg some e6.1) rfl, ?_⟩
      exact zbo (sk 33 (congrArg some e15.1) (zak _)) (List.sublist_append_right _ _) (zaw rfl rfl (fun w hm => zew (D.getD (((((D.getD k md0).xs).getD i ix0).m).toNat) md0) w ((hd.at (by omega)).below hm.bel)))
     ·
      intro vf pf hR
      have e6 := hR 6 (by decide)
      have e16 : (fun v' post => post = [rowE 3 1 v' ((ptsK (D.getD (((((D.getD k md0).xs).getD i ix0).m).toNat) md0))).length (((ptsK (D.getD (((((D.getD k md0).xs).getD i ix0).m).toNat) md0))).map (Value.int .i64))]) (vf 16) (pf 16) := hR 16 (by decide)
      obtain ⟨v10, vE16⟩ : ∃ x, vf 16 = x := ⟨_, rfl⟩
      obtain ⟨p11, pE16⟩ : ∃ x, pf 16 = x := ⟨_, rfl⟩
      have hR12 := e16
      rw [vE16, pE16] at hR12
      subst hR12
      refine Or.inl ⟨zbv (congrArg some e6.1) rfl, ?_⟩
      exact zck (sk 34 (congrArg some vE16) (zak _)) (by simp only [pE16, vE16, e6.2, fS] <;> rfl) (zbx (lnQ rfl rfl rfl (zaj 0 rfl)))
     ·
      intro vf pf hR
      have e6 := hR 6 (by decide)
      have e9 := hR 9 (by decide)
      have e16 : (fun v' post => post = [rowE 3 1 v' ((ptsK (D.getD (((((D.getD k md0).xs).getD i ix0).m).toNat) md0))).length (((ptsK (D.getD (((((D.getD k md0).xs).getD i ix0).m).toNat) md0))).map (Value.int .i64))]) (vf 16) (pf 16) := hR 16 (by decide)
      obtain ⟨v10, vE16⟩ : ∃ x, vf 16 = x := ⟨_, rfl⟩
      obtain ⟨p11, pE16⟩ : ∃ x, pf 16 = x := ⟨_, rfl⟩
      have hR12 := e16
      rw [vE16, pE16] at hR12
      subst hR12
      have e17 := hR 17 (by decide)
      refine Or.inl ⟨zbv (congrArg some e6.1) rfl, ?_⟩
      exact zck (sk 27 (congrArg some e9.1) (sk 35 (congrArg some e17.1) (zak _))) (by simp only [pE16, vE16, e6.2, e9.2, e17.2, fS] <;> rfl) (zct (zbx (zcj rfl rfl rfl rfl)) (fun _ _ h => ⟨h.1.trans (congrArg Value.bool hb9), h.2⟩))
     intro vf pf hR
     have e6 := hR 6 (by decide)
     have e18 := hR 18 (by decide)
     exact ovQ rfl (sk 24 (congrArg some e6.1) (sk 36 (congrArg some e18.1) (zak _))) (zbx (zav rfl))
    intro vf pf hR
    have e16 : (fun v' post => post = [rowE 3 1 v' ((ptsK (D.getD (((((D.getD k md0).xs).getD i ix0).m).toNat) md0))).length (((ptsK (D.getD (((((D.getD k md0).xs).getD i ix0).m).toNat) md0))).map (Value.int .i64))]) (vf 16) (pf 16) := hR 16 (by decide)
    obtain ⟨v10, vE16⟩ : ∃ x, vf 16 = x := ⟨_, rfl⟩
    obtain ⟨p11, pE16⟩ : ∃ x, pf 16 = x := ⟨_, rfl⟩
    have hR12 := e16
    rw [vE16, pE16] at hR12
    subst hR12
    have e19 := hR 19 (by decide)
    have q0 := hR 0 (by decide)
    have q1 := hR 1 (by decide)
    have q2 := hR 2 (by decide)
    have q3 := hR 3 (by decide)
    have q4 := hR 4 (by decide)
    have q5 := hR 5 (by decide)
    have q6 := hR 6 (by decide)
    have q7 := hR 7 (by decide)
    have q8 := hR 8 (by decide)
    have q9 := hR 9 (by decide)
    have q10 := hR 10 (by decide)
    have q11 := hR 11 (by decide)
    have q12 := hR 12 (by decide)
    have q13 := hR 13 (by decide)
    have q14 := hR 14 (by decide)
    have q15 := hR 15 (by decide)
    have q17 := hR 17 (by decide)
    have q18 := hR 18 (by decide)
    have q19 := hR 19 (by decide)
    refine zdg (zcu [15, 14, 13, 12, 6, 4, 2, 1, 0] _ (sk 37 (congrArg some e19.1) (zak _)) rfl) (by simp only [pE16, vE16, q0.2, q1.2, q2.2, q3.2, q4.2, q5.2, q6.2, q7.2, q8.2, q9.2, q10.2, q11.2, q12.2, q13.2, q14.2, q15.2, q17.2, q18.2, q19.2, fS] <;> rfl) ?_
    simp only [List.drop_succ_cons, List.drop_zero]
    refine ntQ (zai rfl (zbf 1 rfl ?_))
    refine zap (zac ?_)
    refine zdy ?_
    refine zac (zaf ?_)
    exact zay rfl rfl (congrArg _ (zcd (fun hp => by first | (obtain ⟨⟨h1, h2⟩, h3⟩ := hp i (by omega); omega))).symm)
   have hb9p : (((((D.getD k md0).xs).getD i ix0).ps).length : Int) = ((ptsK (D.getD (((((D.getD k md0).xs).getD i ix0).m).toNat) md0)).length : Int) := (bne_eq_false_iff_eq.1 hb9)
   refine zfj rfl 20 [0, 1, 2, 3, 4, 5, 6, 7, 8, 9, 10, 11, 12, 13, 14, 15, 16, 17, 18, 19] (List.take 20 _) (List.drop 20 _) [[], [0], [], [2], [1, 3], [4], [5], [6], [6, 7], [6, 8], [6], [6, 10], [6], [6, 12], [6, 11, 13], [6, 14], [6, 15], [6, 16], [6, 9, 16, 17], [6, 18]] [18, 19, 20, 21, 22, 23, 24, 25, 26, 27, 28, 29, 30, 31, 32, 33, 34, 35, 36, 37] (fun i_ vs_ v_ p_ => match i_ with | 0 => v_ = .pointer (some ⟨b4, 0 + 0, none⟩) ∧ p_ = [] | 1 => v_ = .int .i64 ((((D.getD k md0).xs).getD i ix0).m) ∧ p_ = [] | 2 => v_ = .int .i64 (k : Int) ∧ p_ = [] | 3 => v_ = .int .i64 ((k : Int) - 1) ∧ p_ = [] | 4 => v_ = .bool true ∧ p_ = [] | 5 => v_ = .bool false ∧ p_ = [] | 6 => v_ = .bool false ∧ p_ = [] | 7 => v_ = .pointer (some ⟨b4, 0 + 2, none⟩) ∧ p_ = [] | 8 => v_ = (((D.getD k md0).xs).getD i ix0).pv ∧ p_ = [] | 9 => v_ = .int .i64 (((((D.getD k md0).xs).getD i ix0).ps).length : Int) ∧ p_ = [] | 10 => v_ = .pointer (some ⟨b1, 0 + 0, none⟩) ∧ p_ = [] | 11 => v_ = v ∧ p_ = [] | 12 => v_ = .pointer (some ⟨b4, 0 + 0, none⟩) ∧ p_ = [] | 13 => v_ = .int .i64 ((((D.getD k md0).xs).getD i ix0).m) ∧ p_ = [] | 14 => v_ = elP v (((((D.getD k md0).xs).getD i ix0).m).toNat * 4) ∧ p_ = [] | 15 => v_ = .agg #[(D.getD (((((D.getD k md0).xs).getD i ix0).m).toNat) md0).sv, (D.getD (((((D.getD k md0).xs).getD i ix0).m).toNat) md0).av, (D.getD (((((D.getD k md0).xs).getD i ix0).m).toNat) md0).iv, (D.getD (((((D.getD k md0).xs).getD i ix0).m).toNat) md0).mv] ∧ p_ = [] | 16 => (fun v' post => post = [rowE 3 1 v' ((ptsK (D.getD (((((D.getD k md0).xs).getD i ix0).m).toNat) md0))).length (((ptsK (D.getD (((((D.getD k md0).xs).getD i ix0).m).toNat) md0))).map (Value.int .i64))]) v_ p_ | 17 => v_ = .int .i64 ((ptsK (D.getD (((((D.getD k md0).xs).getD i ix0).m).toNat) md0)).length : Int) ∧ p_ = [] | 18 => v_ = .bool false ∧ p_ = [] | 19 => v_ = .bool false ∧ p_ = [] | _ => True) (List.take_append_drop 20 _).symm (by kernel_rfl) (by kernel_rfl) rfl rfl ?_ ?_
   ·
    refine ⟨?_, ?_, ?_, ?_, ?_, ?_, ?_, ?_, ?_, ?_, ?_, ?_, ?_, ?_, ?_, ?_, ?_, ?_, ?_, ?_, trivial⟩
    ·
     intro vf pf hR
     exact ovQ rfl (zas [6] rfl) (zbx (fdQ 0 rfl rfl rfl))
    ·
     intro vf pf hR
     have e0 := hR 0 (by decide)
     exact olQ rfl (sk 18 (congrArg some e0.1) (zak _)) (zbx (zad rfl rfl rfl (zaa 0 rfl rfl)))
    ·
     intro vf pf hR
     exact ovQ rfl (zas [1] rfl) (zbx (zav rfl))
    ·
     intro vf pf hR
     have e2 := hR 2 (by decide)
     exact ovQ rfl (sk 20 (congrArg some e2.1) (zak _)) (zbx (vsQ rfl rfl rfl))
    ·
     intro vf pf hR
     have e1 := hR 1 (by decide)
     have e3 := hR 3 (by decide)
     exact olQ rfl (sk 19 (congrArg some e1.1) (sk 21 (congrArg some e3.1) (zak _))) (zct (zaw rfl rfl (fun w hm => zbg (zej (zcm _ _ _ w)))) (fun _ _ h => ⟨h.1.trans (congrArg Value.bool hb5), h.2⟩))
    ·
     intro vf pf hR
     have e4 := hR 4 (by decide)
     exact ovQ rfl (sk 22 (congrArg some e4.1) (zak _)) (zbx (zav rfl))
    ·
     intro vf pf hR
     have e5 := hR 5 (by decide)
     exact ovQ rfl (sk 23 (congrArg some e5.1) (zak _)) (zbx (zav rfl))
    ·
     intro vf pf hR
     have e6 := hR 6 (by decide)
     refine Or.inl ⟨zbv (congrArg some e6.1) rfl, ?_⟩
     exact zce (zas [6] rfl) (zbx (fdQ 2 rfl rfl rfl))
    ·
     intro vf pf hR
     have e6 := hR 6 (by decide)
     have e7 := hR 7 (by decide)
     refine Or.inl ⟨zbv (congrArg some e6.1) rfl, ?_⟩
     exact zbo (sk 25 (congrArg some e7.1) (zak _)) (List.sublist_append_right _ _) (zbx (zad rfl rfl rfl (zaa 0 rfl rfl)))
    ·
     intro vf pf hR
     have e6 := hR 6 (by decide)
     have e8 := hR 8 (by decide)
     refine Or.inl ⟨zbv (congrArg some e6.1) rfl, ?_⟩
     exact zbo (sk 26 (congrArg some e8.1) (zak _)) (List.sublist_append_right _ _) (zbx (lnQ rfl rfl rfl (zae ((hd.at (k := k) (by omega)).p.at (k := i) (by omega)))))
    ·
     intro vf pf hR
     have e6 := hR 6 (by decide)
     refine Or.inl ⟨zbv (congrArg some e6.1) rfl, ?_⟩
     exact zce (zas [2] rfl) (zbx (fdQ 0 rfl rfl rfl))
    ·
     intro vf pf hR
     have e6 := hR 6 (by decide)
     have e10 := hR 10 (by decide)
     refine Or.inl ⟨zbv (congrArg some e6.1) rfl, ?_⟩
     exact zbo (sk 28 (congrArg some e10.1) (zak _)) (List.sublist_append_right _ _) (zbx (zad rfl rfl rfl (zaa 1 rfl rfl)))
    ·
     intro vf pf hR
     have e6 := hR 6 (by decide)
     refine Or.inl ⟨zbv (congrArg some e6.1) rfl, ?_⟩
     exact zce (zas [6] rfl) (zbx (fdQ 0 rfl rfl rfl))
    ·
     intro vf pf hR
     have e6 := hR 6 (by decide)
     have e12 := hR 12 (by decide)
     refine Or.inl ⟨zbv (congrArg some e6.1) rfl, ?_⟩
     exact zbo (sk 30 (congrArg some e12.1) (zak _)) (List.sublist_append_right _ _) (zbx (zad rfl rfl rfl (zaa 0 rfl rfl)))
    ·
     intro vf pf hR
     have e6 := hR 6 (by decide)
     have e11 := hR 11 (by decide)
     have e13 := hR 13 (by decide)
     refine Or.inl ⟨zbv (congrArg some e6.1) rfl, ?_⟩
     exact zbo (sk 29 (congrArg some e11.1) (sk 31 (congrArg some e13.1) (zak _))) (List.sublist_append_right _ _) (zbx (riQ 4 rfl rfl rfl rfl (zae hd.row)))
    ·
     intro vf pf hR
     have e6 := hR 6 (by decide)
     have e14 := hR 14 (by decide)
     refine Or.inl ⟨zbv (congrArg some e6.1) rfl, ?_⟩
     exact zbo (sk 32 (congrArg some e14.1) (zak _)) (List.sublist_append_right _ _) (zbx (zbm (us := [(D.getD (((((D.getD k md0).xs).getD i ix0).m).toNat) md0).sv, (D.getD (((((D.getD k md0).xs).getD i ix0).m).toNat) md0).av, (D.getD (((((D.getD k md0).xs).getD i ix0).m).toNat) md0).iv, (D.getD (((((D.getD k md0).xs).getD i ix0).m).toNat) md0).mv]) rfl rfl rfl rfl (zae hd.row) (by omega) rfl (zbz mdC 4 (fun _ => rfl) D md0 (show ((((D.getD k md0).xs).getD i ix0).m).toNat < _ by omega) rfl)))
    ·
     intro vf pf hR
     have e6 := hR 6 (by decide)
     have e15 := hR 15 (by decide)
     refine Or.inl ⟨zbv (congrArg some e6.1) rfl, ?_⟩
     exact zbo (sk 33 (congrArg some e15.1) (zak _)) (List.sublist_append_right _ _) (zaw rfl rfl (fun w hm => zew (D.getD (((((D.getD k md0).xs).getD i ix0).m).toNat) md0) w ((hd.at (by omega)).below hm.bel)))
    ·
     intro vf pf hR
     have e6 := hR 6 (by decide)
     have e16 : (fun v' post => post = [rowE 3 1 v' ((ptsK (D.getD (((((D.getD k md0).xs).getD i ix0).m).toNat) md0))).length (((ptsK (D.getD (((((D.getD k md0).xs).getD i ix0).m).toNat) md0))).map (Value.int .i64))]) (vf 16) (pf 16) := hR 16 (by decide)
     obtain ⟨v13, vE16⟩ : ∃ x, vf 16 = x := ⟨_, rfl⟩
     obtain ⟨p14, pE16⟩ : ∃ x, pf 16 = x := ⟨_, rfl⟩
     have hR15 := e16
     rw [vE16, pE16] at hR15
     subst hR15
     refine Or.inl ⟨zbv (congrArg some e6.1) rfl, ?_⟩
     exact zck (sk 34 (congrArg some vE16) (zak _)) (by simp only [pE16, vE16, e6.2, fS] <;> rfl) (zbx (lnQ rfl rfl rfl (zaj 0 rfl)))
    ·
     intro vf pf hR
     have e6 := hR 6 (by decide)
     have e9 := hR 9 (by decide)
     have e16 : (fun v' post => post = [rowE 3 1 v' ((ptsK (D.getD (((((D.getD k md0).xs).getD i ix0).m).toNat) md0))).length (((ptsK (D.getD (((((D.getD k md0).xs).getD i ix0).m).toNat) md0))).map (Value.int .i64))]) (vf 16) (pf 16) := hR 16 (by decide)
     obtain ⟨v13, vE16⟩ : ∃ x, vf 16 = x := ⟨_, rfl⟩
     obtain ⟨p14, pE16⟩ : ∃ x, pf 16 = x := ⟨_, rfl⟩
     have hR15 := e16
     rw [vE16, pE16] at hR15
     subst hR15
     have e17 := hR 17 (by decide)
     refine Or.inl ⟨zbv (congrArg some e6.1) rfl, ?_⟩
     exact zck (sk 27 (congrArg some e9.1) (sk 35 (congrArg some e17.1) (zak _))) (by simp only [pE16, vE16, e6.2, e9.2, e17.2, fS] <;> rfl) (zct (zbx (zcj rfl rfl rfl rfl)) (fun _ _ h => ⟨h.1.trans (congrArg Value.bool hb9), h.2⟩))
    intro vf pf hR
    have e6 := hR 6 (by decide)
    have e18 := hR 18 (by decide)
    exact ovQ rfl (sk 24 (congrArg some e6.1) (sk 36 (congrArg some e18.1) (zak _))) (zbx (zav rfl))
   intro vf pf hR
   have e16 : (fun v' post => post = [rowE 3 1 v' ((ptsK (D.getD (((((D.getD k md0).xs).getD i ix0).m).toNat) md0))).length (((ptsK (D.getD (((((D.getD k md0).xs).getD i ix0).m).toNat) md0))).map (Value.int .i64))]) (vf 16) (pf 16) := hR 16 (by decide)
   obtain ⟨v13, vE16⟩ : ∃ x, vf 16 = x := ⟨_, rfl⟩
   obtain ⟨p14, pE16⟩ : ∃ x, pf 16 = x := ⟨_, rfl⟩
   have hR15 := e16
   rw [vE16, pE16] at hR15
   subst hR15
   have e19 := hR 19 (by decide)
   have q0 := hR 0 (by decide)
   have q1 := hR 1 (by decide)
   have q2 := hR 2 (by decide)
   have q3 := hR 3 (by decide)
   have q4 := hR 4 (by decide)
   have q5 := hR 5 (by decide)
   have q6 := hR 6 (by decide)
   have q7 := hR 7 (by decide)
   have q8 := hR 8 (by decide)
   have q9 := hR 9 (by decide)
   have q10 := hR 10 (by decide)
   have q11 := hR 11 (by decide)
   have q12 := hR 12 (by decide)
   have q13 := hR 13 (by decide)
   have q14 := hR 14 (by decide)
   have q15 := hR 15 (by decide)
   have q17 := hR 17 (by decide)
   have q18 := hR 18 (by decide)
   have q19 := hR 19 (by decide)
   refine zdg (zcu [15, 14, 13, 12, 6, 4, 2, 1, 0] _ (sk 37 (congrArg some e19.1) (zak _)) rfl) (by simp only [pE16, vE16, q0.2, q1.2, q2.2, q3.2, q4.2, q5.2, q6.2, q7.2, q8.2, q9.2, q10.2, q11.2, q12.2, q13.2, q14.2, q15.2, q17.2, q18.2, q19.2, fS] <;> rfl) ?_
   simp only [List.drop_succ_cons, List.drop_zero]
   refine ntQ (fsQ rfl (zde (zao (hvQ rfl (vaQ rfl rfl rfl) (enQ 1 rfl ?_)))))
   exact zbw (i + 1) ⟨by omega, fun q hq => by by_cases e : q = i; (subst e; exact ⟨⟨by omega, by omega⟩, by omega⟩); exact hins q (by omega)⟩ (by omega) (saQ rfl) (slQ [2] rfl)
  have hb5a := zdb hb5
  refine zbu 20 [[], [0], [], [2], [1, 3], [4], [5], [6], [6], [6], [6], [6], [6], [6], [6], [6], [6], [6], [6], [6, 18]] [18, 19, 20, 21, 22, 23, 24, 25, 26, 27, 28, 29, 30, 31, 32, 33, 34, 35, 36, 37] [.pointer (some ⟨b4, 0 + 0, none⟩), .int .i64 ((((D.getD k md0).xs).getD i ix0).m), .int .i64 (k : Int), .int .i64 ((k : Int) - 1), .bool false, .bool true, .bool true, undef, undef, undef, undef, undef, undef, undef, undef, undef, undef, undef, undef, .bool true] (by kernel_rfl) rfl ?_ ?_
  ·
   exact ⟨iaQ rfl (fdQ 0 rfl rfl rfl) rfl, iaQ rfl (zad rfl rfl rfl (zaa 0 rfl rfl)) rfl, iaQ rfl (zav rfl) rfl, iaQ rfl (vsQ rfl rfl rfl) rfl, .inl ⟨rfl, rq_cb (zaw rfl rfl (fun w hm => zbg (zej (zcm _ _ _ w)))) hb5⟩, iaQ rfl (zav rfl) rfl, iaQ rfl (zav rfl) rfl, .inr ⟨rfl, rfl⟩, .inr ⟨rfl, rfl⟩, .inr ⟨rfl, rfl⟩, .inr ⟨rfl, rfl⟩, .inr ⟨rfl, rfl⟩, .inr ⟨rfl, rfl⟩, .inr ⟨rfl, rfl⟩, .inr ⟨rfl, rfl⟩, .inr ⟨rfl, rfl⟩, .inr ⟨rfl, rfl⟩, .inr ⟨rfl, rfl⟩, .inr ⟨rfl, rfl⟩, iaQ rfl (zav rfl) rfl, trivial⟩
  simp only [List.drop_succ_cons, List.drop_zero]
  refine ntQ (zai rfl (zbf 1 rfl ?_))
  refine zap (zac ?_)
  refine zdy ?_
  refine zac (zaf ?_)
  exact zay rfl rfl (congrArg _ (zcd (fun hp => by first | (obtain ⟨⟨h1, h2⟩, h3⟩ := hp i (by omega); omega))).symm)
 refine ntQ (fcQ rfl ?_)
 refine zbl (zdx ?_)
 refine zan (zaq (zbf 1 rfl ?_))
 exact zap (zay rfl rfl (congrArg _ (zdl (fun q hq => hins q (by omega))).symm))
theorem zgj (b : Nat) (v : Value) (zs : List Int) (s : Int) (w0 : World) (l : List HP) (w : World) (hm0 : Mem w0 (bigE [boxE b #[v] 48, rowE 3 1 v zs.length (zs.map (Value.int .i64))] :: l) w) (hz1 : zs.length ≤ 1000000) (hz2 : ∀ q, 0 ≤ zs.getD q 0 ∧ zs.getD q 0 ≤ 1000000) :
   Calls Try.prog 108 #[.int .i64 s, .pointer (some ⟨b, 0, none⟩)] w (fun e_ w_ => ∃ v_ p_, e_ = .returned v_ ∧ (fun u_ p_ => u_ = .tuple #[] ∧ p_ = bigE [boxE b #[v] 48, rowE 3 1 v (incZ zs s).length ((incZ zs s).map (Value.int .i64))]) v_ p_ ∧ Mem w0 (p_ :: l) w_) := by
 refine zet (N := 14) (args := [.int .i64 s, .pointer (some ⟨b, 0, none⟩)]) Try.func108 rfl rfl hm0 (srQ ?_)
 refine zfr (boxE b #[v] 48 :: rowE 3 1 v zs.length (zs.map (Value.int .i64)) :: l) zdf ?_
 refine zah 1 rfl (hvQ rfl (zad rfl rfl rfl (zaa 0 rfl rfl)) (hvQ rfl (lnQ rfl rfl rfl (zaj 1 rfl)) (hvQ rfl (vsQ rfl rfl rfl) ?_)))
 refine zeq rfl (zaw rfl rfl (fun w hm => zbg (zej (zcm _ _ _ w)))) (zbs (fun h1 => ?_) (fun h1 => ?_))
 ·
  obtain ⟨h1a, h1b⟩ := (zdh _ _ _).1 h1
  refine ntQ (zai rfl (zao ?_))
  have hz3 := hz2 s.toNat
  refine hvQ rfl (zad rfl rfl rfl (zaa 0 rfl rfl)) (zah 1 rfl (hvQ rfl (riQ 1 rfl rfl rfl rfl (zaj 1 rfl)) (hvQ rfl (lzQ rfl rfl rfl (zaj 1 rfl)) (hvQ rfl (vaQ rfl rfl rfl) (hvQ rfl (riQ 1 rfl rfl rfl rfl (zaj 1 rfl)) ?_)))))
  refine hl_stE (i := 1) (n' := (zs.set ((s).toNat) ((zs.getD ((s).toNat) 0) + 1)).length) (xs' := ((zs.set ((s).toNat) ((zs.getD ((s).toNat) 0) + 1)).map (Value.int .i64))) rfl rfl rfl rfl rfl rfl rfl rfl (by first | omega | (simp only [List.length_set]; omega)) List.length_set.symm (zgd _ _ _) rfl (zbn ?_)
  refine hq_normal (zbj 2 [1, 0] rfl rfl (by decide) ?_)
  refine zdi (bigE [boxE b #[v] 48, rowE 3 1 v ((zs.set ((s).toNat) ((zs.getD ((s).toNat) 0) + 1)).length) ((zs.set ((s).toNat) ((zs.getD ((s).toNat) 0) + 1)).map (Value.int .i64))] :: l) (conv_big (ps := [boxE b #[v] 48, rowE 3 1 v ((zs.set ((s).toNat) ((zs.getD ((s).toNat) 0) + 1)).length) ((zs.set ((s).toNat) ((zs.getD ((s).toNat) 0) + 1)).map (Value.int .i64))])) ?_
  refine zcz (rs := []) (vs := []) rfl trivial rfl (fun w hm => ⟨_, _, rfl, ⟨rfl, by unfold incZ; rw [if_pos ⟨by omega, by omega⟩]⟩, hm.sub (.refl _)⟩)
 have h1a := zdb h1
 refine ntQ (fsQ rfl ?_)
 refine hq_normal (zbj 2 [1, 0] rfl rfl (by decide) ?_)
 refine zdi (bigE [boxE b #[v] 48, rowE 3 1 v zs.length (zs.map (Value.int .i64))] :: l) (conv_big (ps := [boxE b #[v] 48, rowE 3 1 v zs.length (zs.map (Value.int .i64))])) ?_
 refine zcz (rs := []) (vs := []) rfl trivial rfl (fun w hm => ⟨_, _, rfl, ⟨rfl, by unfold incZ; rw [if_neg (by omega)]⟩, hm.sub (.refl _)⟩)
theorem driverCounts_ret (D : List Md) (k : Nat) (v : Value) (w : World) (hd : RdsDs w v D) (hc : CtsP D k) :
   Calls Try.prog 50 #[.agg #[v], .int .i64 (k : Int)] w (Ret w (fun v' post => post = [rowE 3 1 v' ((cntZ (D.getD k md0).ss.length (drvL D (D.getD k md0)))).length (((cntZ (D.getD k md0).ss.length (drvL D (D.getD k md0)))).map (Value.int .i64))])) := by
 have hd9 := sml hd.row
 obtain ⟨hkl, hcnt, hins⟩ := hc
 obtain ⟨hn1, hn2, hn3, hn4⟩ := hcnt.md k hkl
 have hdl := hcnt.len
 refine zca (N := 89) (args := [.agg #[v], .int .i64 (k : Int)]) Try.func50 rfl rfl (srQ ?_)
 refine zdm rfl (zdk rfl rfl) ?_
 intro b1
 refine zbb 1 rfl (srQ (hvQ rfl (fdQ 0 rfl rfl rfl) (hvQ rfl (zad rfl rfl rfl (zaa 0 rfl rfl)) (zah 1 rfl (hvQ rfl (riQ 4 rfl rfl rfl rfl (zae hd.row)) ?_)))))
 refine hvQ rfl (zbm (us := [(D.getD k md0).sv, (D.getD k md0).av, (D.getD k md0).iv, (D.getD k md0).mv]) rfl rfl rfl rfl (zae hd.row) (by omega) rfl (zbz mdC 4 (fun _ => rfl) D md0 (show k < _ by omega) rfl)) (zdm rfl (zbe (z := .agg #[.slice none 0 0, .slice none 0 0, .slice none 0 0, .slice none 0 0]) rfl rfl) ?_)
 intro b2
 refine zbd (cs' := #[(D.getD k md0).sv, (D.getD k md0).av, (D.getD k md0).iv, (D.getD k md0).mv]) (i := 0) (off := 0) (us := [(D.getD k md0).sv, (D.getD k md0).av, (D.getD k md0).iv, (D.getD k md0).mv]) rfl rfl rfl rfl rfl rfl rfl (zab (hd.at (k := k) (by omega)).s.one (zab (hd.at (k := k) (by omega)).g.one (zab (hd.at (k := k) (by omega)).x.one (zab (hd.at (k := k) (by omega)).m.one zbc)))) rfl rfl rfl (ntQ (srQ (hvQ rfl (fdQ 0 rfl rfl rfl) (hvQ rfl (zad rfl rfl rfl (zaa 0 rfl rfl)) (hvQ rfl (lnQ rfl rfl rfl (zae ((hd.at (k := k) (by omega)).s))) ?_)))))
 refine zdt rfl (rq_make (z := .int .i64 0) (s := 1) (bytes := 8) (n := (List.replicate (((D.getD k md0).ss).length) (0 : Int)).length) (cs := ((List.replicate (((D.getD k md0).ss).length) (0 : Int)).map (Value.int .i64))) rfl Try.underlying48 rfl (by decide) rfl rfl (by first | (rw [List.length_replicate]; done) | (rw [List.length_replicate]; omega)) (by first | (rw [List.length_replicate]; done) | (rw [List.length_replicate]; omega)) (by rw [List.length_replicate]; omega) (ints_make _)) ?_
 intro g3
 refine zdm rfl (zbe (z := .slice none 0 0) rfl rfl) ?_
 intro b4
 refine zei (i := 0) (cs' := #[.slice (some ⟨g3, 0, none⟩) ((List.replicate (((D.getD k md0).ss).length) (0 : Int)).length) ((List.replicate (((D.getD k md0).ss).length) (0 : Int)).length)]) rfl rfl rfl rfl rfl rfl rfl rfl rfl rfl rfl (ntQ (srQ (hvQ rfl (rv_makeFunc (us := []) (vs := [.pointer (some ⟨b4, 0, none⟩)]) rfl rfl rfl) (zbb 1 rfl (zfn ?_)))))
 refine hl_pick 4 [3, 2, 1, 0] rfl rfl (by decide) ?_
 refine zfr [bigE [boxE b4 #[.slice (some ⟨g3, 0, none⟩) ((List.replicate (((D.getD k md0).ss).length) (0 : Int)).length) ((List.replicate (((D.getD k md0).ss).length) (0 : Int)).length)] 48, rowE 3 1 (.slice (some ⟨g3, 0, none⟩) ((List.replicate (((D.getD k md0).ss).length) (0 : Int)).length) ((List.replicate (((D.getD k md0).ss).length) (0 : Int)).length)) ((List.replicate (((D.getD k md0).ss).length) (0 : Int)).length) ((List.replicate (((D.getD k md0).ss).length) (0 : Int)).map (Value.int .i64))], boxE b2 #[(D.getD k md0).sv, (D.getD k md0).av, (D.getD k md0).iv, (D.getD k md0).mv] 35, boxE b1 #[v] 26] (conv_big (ps := [boxE b4 #[.slice (some ⟨g3, 0, none⟩) ((List.replicate (((D.getD k md0).ss).length) (0 : Int)).length) ((List.replicate (((D.getD k md0).ss).length) (0 : Int)).length)] 48, rowE 3 1 (.slice (some ⟨g3, 0, none⟩) ((List.replicate (((D.getD k md0).ss).length) (0 : Int)).length) ((List.replicate (((D.getD k md0).ss).length) (0 : Int)).length)) ((List.replicate (((D.getD k md0).ss).length) (0 : Int)).length) ((List.replicate (((D.getD k md0).ss).length) (0 : Int)).map (Value.int .i64))])) ?_
 rw [cntZ_nil]
 refine hvQ rfl (fdQ 1 rfl rfl rfl) (hvQ rfl (zad rfl rfl rfl (zaa 1 rfl rfl)) (hvQ rfl (lnQ rfl rfl rfl (zae ((hd.at (k := k) (by omega)).g))) (zbb 1 rfl (zaz ?_))))
 refine zes [bigE [boxE b4 #[.slice (some ⟨g3, 0, none⟩) ((cntZ (D.getD k md0).ss.length ([] : List Int)).length) ((cntZ (D.getD k md0).ss.length ([] : List Int)).length)] 48, rowE 3 1 (.slice (some ⟨g3, 0, none⟩) ((cntZ (D.getD k md0).ss.length ([] : List Int)).length) ((cntZ (D.getD k md0).ss.length ([] : List Int)).length)) (cntZ (D.getD k md0).ss.length (((D.getD k md0).gs.take 0).map As.t)).length ((cntZ (D.getD k md0).ss.length (((D.getD k md0).gs.take 0).map As.t)).map (Value.int .i64))], boxE b2 #[(D.getD k md0).sv, (D.getD k md0).av, (D.getD k md0).iv, (D.getD k md0).mv] 35, boxE b1 #[v] 26] (fun w hm => by rw [show ((D.getD k md0).gs.take 0).map As.t = ([] : List Int) from rfl]; exact hm) ?_
 refine lkQ1 (α := Nat) [0, 1, 2, 4, 5, 6, 7, 28, 29] rfl (fun i => [bigE [boxE b4 #[.slice (some ⟨g3, 0, none⟩) ((cntZ (D.getD k md0).ss.length ([] : List Int)).length) ((cntZ (D.getD k md0).ss.length ([] : List Int)).length)] 48, rowE 3 1 (.slice (some ⟨g3, 0, none⟩) ((cntZ (D.getD k md0).ss.length ([] : List Int)).length) ((cntZ (D.getD k md0).ss.length ([] : List Int)).length)) (cntZ (D.getD k md0).ss.length (((D.getD k md0).gs.take i).map As.t)).length ((cntZ (D.getD k md0).ss.length (((D.getD k md0).gs.take i).map As.t)).map (Value.int .i64))], boxE b2 #[(D.getD k md0).sv, (D.getD k md0).av, (D.getD k md0).iv, (D.getD k md0).mv] 35, boxE b1 #[v] 26]) (fun i => [(30, .int .i64 (i : Int))]) (fun i => i ≤ (D.getD k md0).gs.length) (fun i => (D.getD k md0).gs.length - i) 0 (Nat.zero_le _) (saQ rfl) (pfQ rfl) ?_
 intro i hi5
 have hi := hi5
 refine srQ ?_
 refine zbq rfl rfl rfl rfl rfl rfl (fun h6 => ?_) (fun h6 => ?_)
 ·
  refine ntQ (tcQ rfl (zcy (sbQ (srQ (hvQ rfl (riQ 2 rfl rfl rfl rfl (zae ((hd.at (k := k) (by omega)).g))) ?_)))))
  refine hvQ rfl (zbm (us := [.int .i64 ((((D.getD k md0).gs).getD i as0).t), (((D.getD k md0).gs).getD i as0).ov]) rfl rfl rfl rfl (zae ((hd.at (k := k) (by omega)).g)) (by omega) rfl (zbz asC 2 (fun _ => rfl) ((D.getD k md0).gs) as0 (show i < _ by omega) rfl)) (zdm rfl (zbe (z := .agg #[.int .i64 0, .slice none 0 0]) rfl rfl) ?_)
  intro b7
  refine zbd (cs' := #[.int .i64 ((((D.getD k md0).gs).getD i as0).t), (((D.getD k md0).gs).getD i as0).ov]) (i := 0) (off := 0) (us := [.int .i64 ((((D.getD k md0).gs).getD i as0).t), (((D.getD k md0).gs).getD i as0).ov]) rfl rfl rfl rfl rfl rfl rfl (zab rfl (zab ((hd.at (k := k) (by omega)).o.at (k := i) (by omega)).one zbc)) rfl rfl rfl (ntQ (reQ 1 rfl (hvQ rfl (fdQ 0 rfl rfl rfl) (hvQ rfl (zad rfl rfl rfl (zaa 0 rfl rfl)) ?_))))
  refine hl_callMF (R := (fun u_ p_ => u_ = .tuple #[] ∧ p_ = bigE [boxE b4 #[.slice (some ⟨g3, 0, none⟩) ((cntZ (D.getD k md0).ss.length ([] : List Int)).length) ((cntZ (D.getD k md0).ss.length ([] : List Int)).length)] 48, rowE 3 1 (.slice (some ⟨g3, 0, none⟩) ((cntZ (D.getD k md0).ss.length ([] : List Int)).length) ((cntZ (D.getD k md0).ss.length ([] : List Int)).length)) (incZ (cntZ (D.getD k md0).ss.length (((D.getD k md0).gs.take i).map As.t)) ((((D.getD k md0).gs).getD i as0).t)).length ((incZ (cntZ (D.getD k md0).ss.length (((D.getD k md0).gs.take i).map As.t)) ((((D.getD k md0).gs).getD i as0).t)).map (Value.int .i64))])) 1 rfl rfl rfl rfl rfl rfl (fun L w hX hm => zgj b4 (.slice (some ⟨g3, 0, none⟩) ((cntZ (D.getD k md0).ss.length ([] : List Int)).length) ((cntZ (D.getD k md0).ss.length ([] : List Int)).length)) (cntZ (D.getD k md0).ss.length (((D.getD k md0).gs.take i).map As.t)) ((((D.getD k md0).gs).getD i as0).t) _ L w hm (by rw [zem]; omega) (fun q => by have h9 := cntZ_le (n := (D.getD k md0).ss.length) (L := ((D.getD k md0).gs.take i).map As.t) (M := 1000) (by simp only [List.length_append, List.length_map, List.length_take]; omega) q; omega)) ?_
  intro v8 p9 hR10
  obtain ⟨rfl, rfl⟩ := hR10
  rw [cntZ_inc]
  refine zcr (l' := [boxE b7 #[.int .i64 ((((D.getD k md0).gs).getD i as0).t), (((D.getD k md0).gs).getD i as0).ov] 89, bigE [boxE b4 #[.slice (some ⟨g3, 0, none⟩) ((cntZ (D.getD k md0).ss.length ([] : List Int)).length) ((cntZ (D.getD k md0).ss.length ([] : List Int)).length)] 48, rowE 3 1 (.slice (some ⟨g3, 0, none⟩) ((cntZ (D.getD k md0).ss.length ([] : List Int)).length) ((cntZ (D.getD k md0).ss.length ([] : List Int)).length)) (cntZ (D.getD k md0).ss.length (((D.getD k md0).gs.take i).map As.t ++ [(((D.getD k md0).gs).getD i as0).t])).length ((cntZ (D.getD k md0).ss.length (((D.getD k md0).gs.take i).map As.t ++ [(((D.getD k md0).gs).getD i as0).t])).map (Value.int .i64))], boxE b2 #[(D.getD k md0).sv, (D.getD k md0).av, (D.getD k md0).iv, (D.getD k md0).mv] 35, boxE b1 #[v] 26]) rfl ?_
  refine zbn (zde (zao (hvQ rfl (vaQ rfl rfl rfl) (enQ 1 rfl ?_))))
  refine zdi [boxE b7 #[.int .i64 ((((D.getD k md0).gs).getD i as0).t), (((D.getD k md0).gs).getD i as0).ov] 89, bigE [boxE b4 #[.slice (some ⟨g3, 0, none⟩) ((cntZ (D.getD k md0).ss.length ([] : List Int)).length) ((cntZ (D.getD k md0).ss.length ([] : List Int)).length)] 48, rowE 3 1 (.slice (some ⟨g3, 0, none⟩) ((cntZ (D.getD k md0).ss.length ([] : List Int)).length) ((cntZ (D.getD k md0).ss.length ([] : List Int)).length)) (cntZ (D.getD k md0).ss.length (((D.getD k md0).gs.take (i + 1)).map As.t)).length ((cntZ (D.getD k md0).ss.length (((D.getD k md0).gs.take (i + 1)).map As.t)).map (Value.int .i64))], boxE b2 #[(D.getD k md0).sv, (D.getD k md0).av, (D.getD k md0).iv, (D.getD k md0).mv] 35, boxE b1 #[v] 26] (fun w hm => by rw [show ((D.getD k md0).gs.take (i + 1)).map As.t = ((D.getD k md0).gs.take i).map As.t ++ [(((D.getD k md0).gs).getD i as0).t] from take_map As.t as0 (by omega)]; exact hm) ?_
  exact zbw (i + 1) (by omega) (by omega) (saQ rfl) (slQ [1, 0, 0] rfl)
 refine ntQ (fcQ rfl ?_)
 refine zbl (zdx ?_)
 refine zan (zaq (zfn (hvQ rfl (fdQ 3 rfl rfl rfl) (hvQ rfl (zad rfl rfl rfl (zaa 1 rfl rfl)) (hvQ rfl (lnQ rfl rfl rfl (zae ((hd.at (k := k) (by omega)).m))) (zbb 1 rfl (zaz ?_)))))))
 refine zes [bigE [boxE b4 #[.slice (some ⟨g3, 0, none⟩) ((cntZ (D.getD k md0).ss.length ([] : List Int)).length) ((cntZ (D.getD k md0).ss.length ([] : List Int)).length)] 48, rowE 3 1 (.slice (some ⟨g3, 0, none⟩) ((cntZ (D.getD k md0).ss.length ([] : List Int)).length) ((cntZ (D.getD k md0).ss.length ([] : List Int)).length)) (cntZ (D.getD k md0).ss.length ((D.getD k md0).gs.map As.t ++ ((D.getD k md0).ms.take 0).map Mm.o)).length ((cntZ (D.getD k md0).ss.length ((D.getD k md0).gs.map As.t ++ ((D.getD k md0).ms.take 0).map Mm.o)).map (Value.int .i64))], boxE b2 #[(D.getD k md0).sv, (D.getD k md0).av, (D.getD k md0).iv, (D.getD k md0).mv] 35, boxE b1 #[v] 26] (fun w hm => by rw [show (D.getD k md0).gs.map As.t ++ ((D.getD k md0).ms.take 0).map Mm.o = ((D.getD k md0).gs.take i).map As.t by rw [List.take_zero, List.map_nil, List.append_nil, show i = (D.getD k md0).gs.length by omega, List.take_length]]; exact hm) ?_
 refine lkQ1 (α := Nat) [0, 1, 2, 4, 5, 6, 7, 31, 40, 41] rfl (fun i => [bigE [boxE b4 #[.slice (some ⟨g3, 0, none⟩) ((cntZ (D.getD k md0).ss.length ([] : List Int)).length) ((cntZ (D.getD k md0).ss.length ([] : List Int)).length)] 48, rowE 3 1 (.slice (some ⟨g3, 0, none⟩) ((cntZ (D.getD k md0).ss.length ([] : List Int)).length) ((cntZ (D.getD k md0).ss.length ([] : List Int)).length)) (cntZ (D.getD k md0).ss.length ((D.getD k md0).gs.map As.t ++ ((D.getD k md0).ms.take i).map Mm.o)).length ((cntZ (D.getD k md0).ss.length ((D.getD k md0).gs.map As.t ++ ((D.getD k md0).ms.take i).map Mm.o)).map (Value.int .i64))], boxE b2 #[(D.getD k md0).sv, (D.getD k md0).av, (D.getD k md0).iv, (D.getD k md0).mv] 35, boxE b1 #[v] 26]) (fun i => [(42, .int .i64 (i : Int))]) (fun i => i ≤ (D.getD k md0).ms.length) (fun i => (D.getD k md0).ms.length - i) 0 (Nat.zero_le _) (saQ rfl) (pfQ rfl) ?_
 intro i hi11
 have hi := hi11
 refine srQ ?_
 refine zbq rfl rfl rfl rfl rfl rfl (fun h12 => ?_) (fun h12 => ?_)
 ·
  refine ntQ (tcQ rfl (zcy (sbQ (srQ (hvQ rfl (riQ 4 rfl rfl rfl rfl (zae ((hd.at (k := k) (by omega)).m))) ?_)))))
  refine hvQ rfl (zbm (us := [.int .i64 ((((D.getD k md0).ms).getD i mm0).a), .int .i64 ((((D.getD k md0).ms).getD i mm0).d), .int .i64 ((((D.getD k md0).ms).getD i mm0).w), .int .i64 ((((D.getD k md0).ms).getD i mm0).o)]) rfl rfl rfl rfl (zae ((hd.at (k := k) (by omega)).m)) (by omega) rfl (zbz mmC 4 (fun _ => rfl) ((D.getD k md0).ms) mm0 (show i < _ by omega) rfl)) (zdm rfl (zbe (z := .agg #[.int .i64 0, .int .i64 0, .int .i64 0, .int .i64 0]) rfl rfl) ?_)
  intro b13
  refine zbd (cs' := #[.int .i64 ((((D.getD k md0).ms).getD i mm0).a), .int .i64 ((((D.getD k md0).ms).getD i mm0).d), .int .i64 ((((D.getD k md0).ms).getD i mm0).w), .int .i64 ((((D.getD k md0).ms).getD i mm0).o)]) (i := 0) (off := 0) (us := [.int .i64 ((((D.getD k md0).ms).getD i mm0).a), .int .i64 ((((D.getD k md0).ms).getD i mm0).d), .int .i64 ((((D.getD k md0).ms).getD i mm0).w), .int .i64 ((((D.getD k md0).ms).getD i mm0).o)]) rfl rfl rfl rfl rfl rfl rfl (zab rfl (zab rfl (zab rfl (zab rfl zbc)))) rfl rfl rfl (ntQ (reQ 1 rfl (hvQ rfl (fdQ 3 rfl rfl rfl) (hvQ rfl (zad rfl rfl rfl (zaa 0 rfl rfl)) ?_))))
  refine hl_callMF (R := (fun u_ p_ => u_ = .tuple #[] ∧ p_ = bigE [boxE b4 #[.slice (some ⟨g3, 0, none⟩) ((cntZ (D.getD k md0).ss.length ([] : List Int)).length) ((cntZ (D.getD k md0).ss.length ([] : List Int)).length)] 48, rowE 3 1 (.slice (some ⟨g3, 0, none⟩) ((cntZ (D.getD k md0).ss.length ([] : List Int)).length) ((cntZ (D.getD k md0).ss.length ([] : List Int)).length)) (incZ (cntZ (D.getD k md0).ss.length ((D.getD k md0).gs.map As.t ++ ((D.getD k md0).ms.take i).map Mm.o)) ((((D.getD k md0).ms).getD i mm0).o)).length ((incZ (cntZ (D.getD k md0).ss.length ((D.getD k md0).gs.map As.t ++ ((D.getD k md0).ms.take i).map Mm.o)) ((((D.getD k md0).ms).getD i mm0).o)).map (Value.int .i64))])) 1 rfl rfl rfl rfl rfl rfl (fun L w hX hm => zgj b4 (.slice (some ⟨g3, 0, none⟩) ((cntZ (D.getD k md0).ss.length ([] : List Int)).length) ((cntZ (D.getD k md0).ss.length ([] : List Int)).length)) (cntZ (D.getD k md0).ss.length ((D.getD k md0).gs.map As.t ++ ((D.getD k md0).ms.take i).map Mm.o)) ((((D.getD k md0).ms).getD i mm0).o) _ L w hm (by rw [zem]; omega) (fun q => by have h9 := cntZ_le (n := (D.getD k md0).ss.length) (L := (D.getD k md0).gs.map As.t ++ ((D.getD k md0).ms.take i).map Mm.o) (M := 1000) (by simp only [List.length_append, List.length_map, List.length_take]; omega) q; omega)) ?_
  intro v14 p15 hR16
  obtain ⟨rfl, rfl⟩ := hR16
  rw [cntZ_inc]
  refine zcr (l' := [boxE b13 #[.int .i64 ((((D.getD k md0).ms).getD i mm0).a), .int .i64 ((((D.getD k md0).ms).getD i mm0).d), .int .i64 ((((D.getD k md0).ms).getD i mm0).w), .int .i64 ((((D.getD k md0).ms).getD i mm0).o)] 94, bigE [boxE b4 #[.slice (some ⟨g3, 0, none⟩) ((cntZ (D.getD k md0).ss.length ([] : List Int)).length) ((cntZ (D.getD k md0).ss.length ([] : List Int)).length)] 48, rowE 3 1 (.slice (some ⟨g3, 0, none⟩) ((cntZ (D.getD k md0).ss.length ([] : List Int)).length) ((cntZ (D.getD k md0).ss.length ([] : List Int)).length)) (cntZ (D.getD k md0).ss.length ((D.getD k md0).gs.map As.t ++ ((D.getD k md0).ms.take i).map Mm.o ++ [(((D.getD k md0).ms).getD i mm0).o])).length ((cntZ (D.getD k md0).ss.length ((D.getD k md0).gs.map As.t ++ ((D.getD k md0).ms.take i).map Mm.o ++ [(((D.getD k md0).ms).getD i mm0).o])).map (Value.int .i64))], boxE b2 #[(D.getD k md0).sv, (D.getD k md0).av, (D.getD k md0).iv, (D.getD k md0).mv] 35, boxE b1 #[v] 26]) rfl ?_
  refine zbn (zde (zao (hvQ rfl (vaQ rfl rfl rfl) (enQ 1 rfl ?_))))
  refine zdi [boxE b13 #[.int .i64 ((((D.getD k md0).ms).getD i mm0).a), .int .i64 ((((D.getD k md0).ms).getD i mm0).d), .int .i64 ((((D.getD k md0).ms).getD i mm0).w), .int .i64 ((((D.getD k md0).ms).getD i mm0).o)] 94, bigE [boxE b4 #[.slice (some ⟨g3, 0, none⟩) ((cntZ (D.getD k md0).ss.length ([] : List Int)).length) ((cntZ (D.getD k md0).ss.length ([] : List Int)).length)] 48, rowE 3 1 (.slice (some ⟨g3, 0, none⟩) ((cntZ (D.getD k md0).ss.length ([] : List Int)).length) ((cntZ (D.getD k md0).ss.length ([] : List Int)).length)) (cntZ (D.getD k md0).ss.length ((D.getD k md0).gs.map As.t ++ ((D.getD k md0).ms.take (i + 1)).map Mm.o)).length ((cntZ (D.getD k md0).ss.length ((D.getD k md0).gs.map As.t ++ ((D.getD k md0).ms.take (i + 1)).map Mm.o)).map (Value.int .i64))], boxE b2 #[(D.getD k md0).sv, (D.getD k md0).av, (D.getD k md0).iv, (D.getD k md0).mv] 35, boxE b1 #[v] 26] (fun w hm => by rw [show (D.getD k md0).gs.map As.t ++ ((D.getD k md0).ms.take (i + 1)).map Mm.o = (D.getD k md0).gs.map As.t ++ ((D.getD k md0).ms.take i).map Mm.o ++ [(((D.getD k md0).ms).getD i mm0).o] by rw [take_map Mm.o mm0 (by omega), List.append_assoc]]; exact hm) ?_
  exact zbw (i + 1) (by omega) (by omega) (saQ rfl) (slQ [1, 0, 0] rfl)
 refine ntQ (fcQ rfl ?_)
 refine zbl (zdx ?_)
 refine zan (zaq (zfn (hvQ rfl (fdQ 2 rfl rfl rfl) (hvQ rfl (zad rfl rfl rfl (zaa 1 rfl rfl)) (hvQ rfl (lnQ rfl rfl rfl (zae ((hd.at (k := k) (by omega)).x))) (zbb 1 rfl (zaz ?_)))))))
 refine zes [bigE [boxE b4 #[.slice (some ⟨g3, 0, none⟩) ((cntZ (D.getD k md0).ss.length ([] : List Int)).length) ((cntZ (D.getD k md0).ss.length ([] : List Int)).length)] 48, rowE 3 1 (.slice (some ⟨g3, 0, none⟩) ((cntZ (D.getD k md0).ss.length ([] : List Int)).length) ((cntZ (D.getD k md0).ss.length ([] : List Int)).length)) (cntZ (D.getD k md0).ss.length ((D.getD k md0).gs.map As.t ++ (D.getD k md0).ms.map Mm.o ++ ((D.getD k md0).xs.take 0).flatMap (xoK D))).length ((cntZ (D.getD k md0).ss.length ((D.getD k md0).gs.map As.t ++ (D.getD k md0).ms.map Mm.o ++ ((D.getD k md0).xs.take 0).flatMap (xoK D))).map (Value.int .i64))], boxE b2 #[(D.getD k md0).sv, (D.getD k md0).av, (D.getD k md0).iv, (D.getD k md0).mv] 35, boxE b1 #[v] 26] (fun w hm => by rw [show (D.getD k md0).gs.map As.t ++ (D.getD k md0).ms.map Mm.o ++ ((D.getD k md0).xs.take 0).flatMap (xoK D) = (D.getD k md0).gs.map As.t ++ ((D.getD k md0).ms.take i).map Mm.o by rw [List.take_zero, List.flatMap_nil, List.append_nil, show i = (D.getD k md0).ms.length by omega, List.take_length]]; exact hm) ?_
 refine lkQ1 (α := Nat) [0, 1, 2, 4, 5, 6, 7, 31, 43, 52, 53] rfl (fun i => [bigE [boxE b4 #[.slice (some ⟨g3, 0, none⟩) ((cntZ (D.getD k md0).ss.length ([] : List Int)).length) ((cntZ (D.getD k md0).ss.length ([] : List Int)).length)] 48, rowE 3 1 (.slice (some ⟨g3, 0, none⟩) ((cntZ (D.getD k md0).ss.length ([] : List Int)).length) ((cntZ (D.getD k md0).ss.length ([] : List Int)).length)) (cntZ (D.getD k md0).ss.length ((D.getD k md0).gs.map As.t ++ (D.getD k md0).ms.map Mm.o ++ ((D.getD k md0).xs.take i).flatMap (xoK D))).length ((cntZ (D.getD k md0).ss.length ((D.getD k md0).gs.map As.t ++ (D.getD k md0).ms.map Mm.o ++ ((D.getD k md0).xs.take i).flatMap (xoK D))).map (Value.int .i64))], boxE b2 #[(D.getD k md0).sv, (D.getD k md0).av, (D.getD k md0).iv, (D.getD k md0).mv] 35, boxE b1 #[v] 26]) (fun i => [(54, .int .i64 (i : Int))]) (fun i => i ≤ (D.getD k md0).xs.length) (fun i => (D.getD k md0).xs.length - i) 0 (Nat.zero_le _) (saQ rfl) (pfQ rfl) ?_
 intro i hi17
 have hi := hi17
 have hfx := flatX_le (D := D) (L := (D.getD k md0).xs) i hi
 refine srQ ?_
 refine zbq rfl rfl rfl rfl rfl rfl (fun h18 => ?_) (fun h18 => ?_)
 ·
  refine ntQ (tcQ rfl (zcy (sbQ (srQ (hvQ rfl (riQ 3 rfl rfl rfl rfl (zae ((hd.at (k := k) (by omega)).x))) ?_)))))
  refine hvQ rfl (zbm (us := [.int .i64 ((((D.getD k md0).xs).getD i ix0).m), .int .i64 ((((D.getD k md0).xs).getD i ix0).p), (((D.getD k md0).xs).getD i ix0).pv]) rfl rfl rfl rfl (zae ((hd.at (k := k) (by omega)).x)) (by omega) rfl (zbz ixC 3 (fun _ => rfl) ((D.getD k md0).xs) ix0 (show i < _ by omega) rfl)) (zdm rfl (zbe (z := .agg #[.int .i64 0, .int .i64 0, .slice none 0 0]) rfl rfl) ?_)
  intro b19
  refine zbd (cs' := #[.int .i64 ((((D.getD k md0).xs).getD i ix0).m), .int .i64 ((((D.getD k md0).xs).getD i ix0).p), (((D.getD k md0).xs).getD i ix0).pv]) (i := 0) (off := 0) (us := [.int .i64 ((((D.getD k md0).xs).getD i ix0).m), .int .i64 ((((D.getD k md0).xs).getD i ix0).p), (((D.getD k md0).xs).getD i ix0).pv]) rfl rfl rfl rfl rfl rfl rfl (zab rfl (zab rfl (zab ((hd.at (k := k) (by omega)).p.at (k := i) (by omega)).one zbc))) rfl rfl rfl (ntQ (srQ ?_))
  obtain ⟨⟨hm0, hm1⟩, hpe⟩ := hins i (by omega)
  refine hvQ rfl (fdQ 0 rfl rfl rfl) (hvQ rfl (zad rfl rfl rfl (zaa 3 rfl rfl)) (hvQ rfl (fdQ 0 rfl rfl rfl) (hvQ rfl (zad rfl rfl rfl (zaa 0 rfl rfl)) (hvQ rfl (riQ 4 rfl rfl rfl rfl (zae hd.row)) ?_))))
  refine hvQ rfl (zbm (us := [(D.getD (((((D.getD k md0).xs).getD i ix0).m).toNat) md0).sv, (D.getD (((((D.getD k md0).xs).getD i ix0).m).toNat) md0).av, (D.getD (((((D.getD k md0).xs).getD i ix0).m).toNat) md0).iv, (D.getD (((((D.getD k md0).xs).getD i ix0).m).toNat) md0).mv]) rfl rfl rfl rfl (zae hd.row) (by omega) rfl (zbz mdC 4 (fun _ => rfl) D md0 (show ((((D.getD k md0).xs).getD i ix0).m).toNat < _ by omega) rfl)) (zdm rfl (zbe (z := .agg #[.slice none 0 0, .slice none 0 0, .slice none 0 0, .slice none 0 0]) rfl rfl) ?_)
  intro b20
  refine zbd (cs' := #[(D.getD (((((D.getD k md0).xs).getD i ix0).m).toNat) md0).sv, (D.getD (((((D.getD k md0).xs).getD i ix0).m).toNat) md0).av, (D.getD (((((D.getD k md0).xs).getD i ix0).m).toNat) md0).iv, (D.getD (((((D.getD k md0).xs).getD i ix0).m).toNat) md0).mv]) (i := 0) (off := 0) (us := [(D.getD (((((D.getD k md0).xs).getD i ix0).m).toNat) md0).sv, (D.getD (((((D.getD k md0).xs).getD i ix0).m).toNat) md0).av, (D.getD (((((D.getD k md0).xs).getD i ix0).m).toNat) md0).iv, (D.getD (((((D.getD k md0).xs).getD i ix0).m).toNat) md0).mv]) rfl rfl rfl rfl rfl rfl rfl (zab (hd.at (k := ((((D.getD k md0).xs).getD i ix0).m).toNat) (by omega)).s.one (zab (hd.at (k := ((((D.getD k md0).xs).getD i ix0).m).toNat) (by omega)).g.one (zab (hd.at (k := ((((D.getD k md0).xs).getD i ix0).m).toNat) (by omega)).x.one (zab (hd.at (k := ((((D.getD k md0).xs).getD i ix0).m).toNat) (by omega)).m.one zbc)))) rfl rfl rfl ?_
  refine ntQ (srQ (hvQ rfl (zax (cs := [(D.getD (((((D.getD k md0).xs).getD i ix0).m).toNat) md0).sv, (D.getD (((((D.getD k md0).xs).getD i ix0).m).toNat) md0).av, (D.getD (((((D.getD k md0).xs).getD i ix0).m).toNat) md0).iv, (D.getD (((((D.getD k md0).xs).getD i ix0).m).toNat) md0).mv]) rfl rfl rfl rfl rfl (zat 0 rfl 0 rfl)) ?_))
  refine hl_q rfl rfl rfl (zaw rfl rfl (fun w hm => zew (D.getD (((((D.getD k md0).xs).getD i ix0).m).toNat) md0) w ((hd.at (by omega)).below hm.bel))) ?_
  intro v21 p22 hR23
  subst hR23
  refine hvQ rfl (lnQ rfl rfl rfl (zaj 0 rfl)) (zbb 1 rfl (zaz ?_))
  refine zes [rowE 3 1 v21 ((ptsK (D.getD (((((D.getD k md0).xs).getD i ix0).m).toNat) md0)).length) ((ptsK (D.getD (((((D.getD k md0).xs).getD i ix0).m).toNat) md0)).map (Value.int .i64)), boxE b20 #[(D.getD (((((D.getD k md0).xs).getD i ix0).m).toNat) md0).sv, (D.getD (((((D.getD k md0).xs).getD i ix0).m).toNat) md0).av, (D.getD (((((D.getD k md0).xs).getD i ix0).m).toNat) md0).iv, (D.getD (((((D.getD k md0).xs).getD i ix0).m).toNat) md0).mv] 35, boxE b19 #[.int .i64 ((((D.getD k md0).xs).getD i ix0).m), .int .i64 ((((D.getD k md0).xs).getD i ix0).p), (((D.getD k md0).xs).getD i ix0).pv] 63, bigE [boxE b4 #[.slice (some ⟨g3, 0, none⟩) ((cntZ (D.getD k md0).ss.length ([] : List Int)).length) ((cntZ (D.getD k md0).ss.length ([] : List Int)).length)] 48, rowE 3 1 (.slice (some ⟨g3, 0, none⟩) ((cntZ (D.getD k md0).ss.length ([] : List Int)).length) ((cntZ (D.getD k md0).ss.length ([] : List Int)).length)) (cntZ (D.getD k md0).ss.length ((D.getD k md0).gs.map As.t ++ (D.getD k md0).ms.map Mm.o ++ ((D.getD k md0).xs.take i).flatMap (xoK D) ++ xoA D ((D.getD k md0).xs.getD i ix0) 0)).length ((cntZ (D.getD k md0).ss.length ((D.getD k md0).gs.map As.t ++ (D.getD k md0).ms.map Mm.o ++ ((D.getD k md0).xs.take i).flatMap (xoK D) ++ xoA D ((D.getD k md0).xs.getD i ix0) 0)).map (Value.int .i64))], boxE b2 #[(D.getD k md0).sv, (D.getD k md0).av, (D.getD k md0).iv, (D.getD k md0).mv] 35, boxE b1 #[v] 26] (fun w hm => by rw [show (D.getD k md0).gs.map As.t ++ (D.getD k md0).ms.map Mm.o ++ ((D.getD k md0).xs.take i).flatMap (xoK D) ++ xoA D ((D.getD k md0).xs.getD i ix0) 0 = (D.getD k md0).gs.map As.t ++ (D.getD k md0).ms.map Mm.o ++ ((D.getD k md0).xs.take i).flatMap (xoK D) from List.append_nil _]; exact hm) ?_
  refine lkQ1 (α := Nat) [0, 1, 2, 4, 5, 6, 7, 13, 14, 31, 43, 52, 53, 54, 55, 65, 66] rfl (fun j => [rowE 3 1 v21 ((ptsK (D.getD (((((D.getD k md0).xs).getD i ix0).m).toNat) md0)).length) ((ptsK (D.getD (((((D.getD k md0).xs).getD i ix0).m).toNat) md0)).map (Value.int .i64)), boxE b20 #[(D.getD (((((D.getD k md0).xs).getD i ix0).m).toNat) md0).sv, (D.getD (((((D.getD k md0).xs).getD i ix0).m).toNat) md0).av, (D.getD (((((D.getD k md0).xs).getD i ix0).m).toNat) md0).iv, (D.getD (((((D.getD k md0).xs).getD i ix0).m).toNat) md0).mv] 35, boxE b19 #[.int .i64 ((((D.getD k md0).xs).getD i ix0).m), .int .i64 ((((D.getD k md0).xs).getD i ix0).p), (((D.getD k md0).xs).getD i ix0).pv] 63, bigE [boxE b4 #[.slice (some ⟨g3, 0, none⟩) ((cntZ (D.getD k md0).ss.length ([] : List Int)).length) ((cntZ (D.getD k md0).ss.length ([] : List Int)).length)] 48, rowE 3 1 (.slice (some ⟨g3, 0, none⟩) ((cntZ (D.getD k md0).ss.length ([] : List Int)).length) ((cntZ (D.getD k md0).ss.length ([] : List Int)).length)) (cntZ (D.getD k md0).ss.length ((D.getD k md0).gs.map As.t ++ (D.getD k md0).ms.map Mm.o ++ ((D.getD k md0).xs.take i).flatMap (xoK D) ++ xoA D ((D.getD k md0).xs.getD i ix0) j)).length ((cntZ (D.getD k md0).ss.length ((D.getD k md0).gs.map As.t ++ (D.getD k md0).ms.map Mm.o ++ ((D.getD k md0).xs.take i).flatMap (xoK D) ++ xoA D ((D.getD k md0).xs.getD i ix0) j)).map (Value.int .i64))], boxE b2 #[(D.getD k md0).sv, (D.getD k md0).av, (D.getD k md0).iv, (D.getD k md0).mv] 35, boxE b1 #[v] 26]) (fun j => [(67, .int .i64 (j : Int))]) (fun j => j ≤ (ptsK (D.getD (((((D.getD k md0).xs).getD i ix0).m).toNat) md0)).length) (fun j => (ptsK (D.getD (((((D.getD k md0).xs).getD i ix0).m).toNat) md0)).length - j) 0 (Nat.zero_le _) (saQ rfl) (pfQ rfl) ?_
  intro j hi24
  have hj := hi24
  have hpl := ptsK_le (D.getD (((((D.getD k md0).xs).getD i ix0).m).toNat) md0)
  have hxa := xoA_le D ((D.getD k md0).xs.getD i ix0) j
  refine srQ ?_
  refine zbq rfl rfl rfl rfl rfl rfl (fun h25 => ?_) (fun h25 => ?_)
  ·
   refine ntQ (tcQ rfl (zcy (sbQ (zag (reQ 1 rfl (hvQ rfl (riQ 1 rfl rfl rfl rfl (zaj 0 rfl)) (hvQ rfl (zam (u := .int .i64 ((ptsK (D.getD (((((D.getD k md0).xs).getD i ix0).m).toNat) md0)).getD j 0)) rfl rfl rfl (zaj 0 rfl) (zby (show _ < (ptsK (D.getD (((((D.getD k md0).xs).getD i ix0).m).toNat) md0)).length by omega))) ?_)))))))
   refine zbb 2 rfl (srQ ?_)
   have hpt := zdw (m := (D.getD (((((D.getD k md0).xs).getD i ix0).m).toNat) md0)) (j := j) (by omega)
   have hkd := zcv hpt
   refine hvQ rfl (fdQ 0 rfl rfl rfl) (hvQ rfl (zad rfl rfl rfl (zaa 1 rfl rfl)) (zah 1 rfl (hvQ rfl (riQ 3 rfl rfl rfl rfl (zae ((hd.at (k := ((((D.getD k md0).xs).getD i ix0).m).toNat) (by omega)).s))) (hvQ rfl (zau (k0 := 0) rfl rfl rfl (zae ((hd.at (k := ((((D.getD k md0).xs).getD i ix0).m).toNat) (by omega)).s)) (by omega)) ?_))))
   refine hvQ rfl (zam (u := .int .i64 ((((D.getD (((((D.getD k md0).xs).getD i ix0).m).toNat) md0).ss).getD (((ptsK (D.getD (((((D.getD k md0).xs).getD i ix0).m).toNat) md0)).getD j 0).toNat) sg0).k)) rfl rfl rfl (zae ((hd.at (k := ((((D.getD k md0).xs).getD i ix0).m).toNat) (by omega)).s)) ((zbi sgC 3 (fun _ => rfl) ((D.getD (((((D.getD k md0).xs).getD i ix0).m).toNat) md0).ss) sg0 (show ((ptsK (D.getD (((((D.getD k md0).xs).getD i ix0).m).toNat) md0)).getD j 0).toNat < _ by omega) (by decide)).trans rfl)) (zbt rfl rfl rfl rfl rfl rfl (fun h26 => ?_) (fun h26 => ?_))
   ·
    refine ntQ (zai rfl (reQ 1 rfl (hvQ rfl (fdQ 2 rfl rfl rfl) (hvQ rfl (zad rfl rfl rfl (zaa 2 rfl rfl)) (zah 1 rfl (hvQ rfl (riQ 1 rfl rfl rfl rfl (zae ((hd.at (k := k) (by omega)).p.at (k := i) (by omega)))) (hvQ rfl (zam (u := .int .i64 (((((D.getD k md0).xs).getD i ix0).ps).getD j 0)) rfl rfl rfl (zae ((hd.at (k := k) (by omega)).p.at (k := i) (by omega))) (zby (show _ < ((((D.getD k md0).xs).getD i ix0).ps).length by omega))) ?_)))))))
    refine hl_callMF (R := (fun u_ p_ => u_ = .tuple #[] ∧ p_ = bigE [boxE b4 #[.slice (some ⟨g3, 0, none⟩) ((cntZ (D.getD k md0).ss.length ([] : List Int)).length) ((cntZ (D.getD k md0).ss.length ([] : List Int)).length)] 48, rowE 3 1 (.slice (some ⟨g3, 0, none⟩) ((cntZ (D.getD k md0).ss.length ([] : List Int)).length) ((cntZ (D.getD k md0).ss.length ([] : List Int)).length)) (incZ (cntZ (D.getD k md0).ss.length ((D.getD k md0).gs.map As.t ++ (D.getD k md0).ms.map Mm.o ++ ((D.getD k md0).xs.take i).flatMap (xoK D) ++ xoA D ((D.getD k md0).xs.getD i ix0) j)) (((((D.getD k md0).xs).getD i ix0).ps).getD j 0)).length ((incZ (cntZ (D.getD k md0).ss.length ((D.getD k md0).gs.map As.t ++ (D.getD k md0).ms.map Mm.o ++ ((D.getD k md0).xs.take i).flatMap (xoK D) ++ xoA D ((D.getD k md0).xs.getD i ix0) j)) (((((D.getD k md0).xs).getD i ix0).ps).getD j 0)).map (Value.int .i64))])) 3 rfl rfl rfl rfl rfl rfl (fun L w hX hm => zgj b4 (.slice (some ⟨g3, 0, none⟩) ((cntZ (D.getD k md0).ss.length ([] : List Int)).length) ((cntZ (D.getD k md0).ss.length ([] : List Int)).length)) (cntZ (D.getD k md0).ss.length ((D.getD k md0).gs.map As.t ++ (D.getD k md0).ms.map Mm.o ++ ((D.getD k md0).xs.take i).flatMap (xoK D) ++ xoA D ((D.getD k md0).xs.getD i ix0) j)) (((((D.getD k md0).xs).getD i ix0).ps).getD j 0) _ L w hm (by rw [zem]; omega) (fun q => by have h9 := cntZ_le (n := (D.getD k md0).ss.length) (L := (D.getD k md0).gs.map As.t ++ (D.getD k md0).ms.map Mm.o ++ ((D.getD k md0).xs.take i).flatMap (xoK D) ++ xoA D ((D.getD k md0).xs.getD i ix0) j) (M := 1000) (by simp only [List.length_append, List.length_map, List.length_take]; omega) q; omega)) ?_
    intro v27 p28 hR29
    obtain ⟨rfl, rfl⟩ := hR29
    rw [cntZ_inc]
    refine zcr (l' := [rowE 3 1 v21 ((ptsK (D.getD (((((D.getD k md0).xs).getD i ix0).m).toNat) md0)).length) ((ptsK (D.getD (((((D.getD k md0).xs).getD i ix0).m).toNat) md0)).map (Value.int .i64)), boxE b20 #[(D.getD (((((D.getD k md0).xs).getD i ix0).m).toNat) md0).sv, (D.getD (((((D.getD k md0).xs).getD i ix0).m).toNat) md0).av, (D.getD (((((D.getD k md0).xs).getD i ix0).m).toNat) md0).iv, (D.getD (((((D.getD k md0).xs).getD i ix0).m).toNat) md0).mv] 35, boxE b19 #[.int .i64 ((((D.getD k md0).xs).getD i ix0).m), .int .i64 ((((D.getD k md0).xs).getD i ix0).p), (((D.getD k md0).xs).getD i ix0).pv] 63, bigE [boxE b4 #[.slice (some ⟨g3, 0, none⟩) ((cntZ (D.getD k md0).ss.length ([] : List Int)).length) ((cntZ (D.getD k md0).ss.length ([] : List Int)).length)] 48, rowE 3 1 (.slice (some ⟨g3, 0, none⟩) ((cntZ (D.getD k md0).ss.length ([] : List Int)).length) ((cntZ (D.getD k md0).ss.length ([] : List Int)).length)) (cntZ (D.getD k md0).ss.length ((D.getD k md0).gs.map As.t ++ (D.getD k md0).ms.map Mm.o ++ ((D.getD k md0).xs.take i).flatMap (xoK D) ++ xoA D ((D.getD k md0).xs.getD i ix0) j ++ [((((D.getD k md0).xs).getD i ix0).ps).getD j 0])).length ((cntZ (D.getD k md0).ss.length ((D.getD k md0).gs.map As.t ++ (D.getD k md0).ms.map Mm.o ++ ((D.getD k md0).xs.take i).flatMap (xoK D) ++ xoA D ((D.getD k md0).xs.getD i ix0) j ++ [((((D.getD k md0).xs).getD i ix0).ps).getD j 0])).map (Value.int .i64))], boxE b2 #[(D.getD k md0).sv, (D.getD k md0).av, (D.getD k md0).iv, (D.getD k md0).mv] 35, boxE b1 #[v] 26]) rfl ?_
    refine zbn (zde (zao (hvQ rfl (vaQ rfl rfl rfl) (enQ 1 rfl ?_))))
    refine zdi [rowE 3 1 v21 ((ptsK (D.getD (((((D.getD k md0).xs).getD i ix0).m).toNat) md0)).length) ((ptsK (D.getD (((((D.getD k md0).xs).getD i ix0).m).toNat) md0)).map (Value.int .i64)), boxE b20 #[(D.getD (((((D.getD k md0).xs).getD i ix0).m).toNat) md0).sv, (D.getD (((((D.getD k md0).xs).getD i ix0).m).toNat) md0).av, (D.getD (((((D.getD k md0).xs).getD i ix0).m).toNat) md0).iv, (D.getD (((((D.getD k md0).xs).getD i ix0).m).toNat) md0).mv] 35, boxE b19 #[.int .i64 ((((D.getD k md0).xs).getD i ix0).m), .int .i64 ((((D.getD k md0).xs).getD i ix0).p), (((D.getD k md0).xs).getD i ix0).pv] 63, bigE [boxE b4 #[.slice (some ⟨g3, 0, none⟩) ((cntZ (D.getD k md0).ss.length ([] : List Int)).length) ((cntZ (D.getD k md0).ss.length ([] : List Int)).length)] 48, rowE 3 1 (.slice (some ⟨g3, 0, none⟩) ((cntZ (D.getD k md0).ss.length ([] : List Int)).length) ((cntZ (D.getD k md0).ss.length ([] : List Int)).length)) (cntZ (D.getD k md0).ss.length ((D.getD k md0).gs.map As.t ++ (D.getD k md0).ms.map Mm.o ++ ((D.getD k md0).xs.take i).flatMap (xoK D) ++ xoA D ((D.getD k md0).xs.getD i ix0) (j + 1))).length ((cntZ (D.getD k md0).ss.length ((D.getD k md0).gs.map As.t ++ (D.getD k md0).ms.map Mm.o ++ ((D.getD k md0).xs.take i).flatMap (xoK D) ++ xoA D ((D.getD k md0).xs.getD i ix0) (j + 1))).map (Value.int .i64))], boxE b2 #[(D.getD k md0).sv, (D.getD k md0).av, (D.getD k md0).iv, (D.getD k md0).mv] 35, boxE b1 #[v] 26] (fun w hm => by rw [show (D.getD k md0).gs.map As.t ++ (D.getD k md0).ms.map Mm.o ++ ((D.getD k md0).xs.take i).flatMap (xoK D) ++ xoA D ((D.getD k md0).xs.getD i ix0) (j + 1) = (D.getD k md0).gs.map As.t ++ (D.getD k md0).ms.map Mm.o ++ ((D.getD k md0).xs.take i).flatMap (xoK D) ++ xoA D ((D.getD k md0).xs.getD i ix0) j ++ [((((D.getD k md0).xs).getD i ix0).ps).getD j 0] by rw [xoA_yes (by omega), ← List.append_assoc]]; exact hm) ?_
    exact zbw (j + 1) (by omega) (by omega) (saQ rfl) (pfQ rfl)
   refine ntQ (fsQ rfl (zde (zao (hvQ rfl (vaQ rfl rfl rfl) (enQ 1 rfl ?_)))))
   refine zdi [rowE 3 1 v21 ((ptsK (D.getD (((((D.getD k md0).xs).getD i ix0).m).toNat) md0)).length) ((ptsK (D.getD (((((D.getD k md0).xs).getD i ix0).m).toNat) md0)).map (Value.int .i64)), boxE b20 #[(D.getD (((((D.getD k md0).xs).getD i ix0).m).toNat) md0).sv, (D.getD (((((D.getD k md0).xs).getD i ix0).m).toNat) md0).av, (D.getD (((((D.getD k md0).xs).getD i ix0).m).toNat) md0).iv, (D.getD (((((D.getD k md0).xs).getD i ix0).m).toNat) md0).mv] 35, boxE b19 #[.int .i64 ((((D.getD k md0).xs).getD i ix0).m), .int .i64 ((((D.getD k md0).xs).getD i ix0).p), (((D.getD k md0).xs).getD i ix0).pv] 63, bigE [boxE b4 #[.slice (some ⟨g3, 0, none⟩) ((cntZ (D.getD k md0).ss.length ([] : List Int)).length) ((cntZ (D.getD k md0).ss.length ([] : List Int)).length)] 48, rowE 3 1 (.slice (some ⟨g3, 0, none⟩) ((cntZ (D.getD k md0).ss.length ([] : List Int)).length) ((cntZ (D.getD k md0).ss.length ([] : List Int)).length)) (cntZ (D.getD k md0).ss.length ((D.getD k md0).gs.map As.t ++ (D.getD k md0).ms.map Mm.o ++ ((D.getD k md0).xs.take i).flatMap (xoK D) ++ xoA D ((D.getD k md0).xs.getD i ix0) (j + 1))).length ((cntZ (D.getD k md0).ss.length ((D.getD k md0).gs.map As.t ++ (D.getD k md0).ms.map Mm.o ++ ((D.getD k md0).xs.take i).flatMap (xoK D) ++ xoA D ((D.getD k md0).xs.getD i ix0) (j + 1))).map (Value.int .i64))], boxE b2 #[(D.getD k md0).sv, (D.getD k md0).av, (D.getD k md0).iv, (D.getD k md0).mv] 35, boxE b1 #[v] 26] (fun w hm => by rw [show (D.getD k md0).gs.map As.t ++ (D.getD k md0).ms.map Mm.o ++ ((D.getD k md0).xs.take i).flatMap (xoK D) ++ xoA D ((D.getD k md0).xs.getD i ix0) (j + 1) = (D.getD k md0).gs.map As.t ++ (D.getD k md0).ms.map Mm.o ++ ((D.getD k md0).xs.take i).flatMap (xoK D) ++ xoA D ((D.getD k md0).xs.getD i ix0) j by rw [xoA_no (by omega)]]; exact hm) ?_
   exact zbw (j + 1) (by omega) (by omega) (saQ rfl) (pfQ rfl)
  refine ntQ (fcQ rfl ?_)
  refine zbl (zdx ?_)
  refine zan (zde (zao (hvQ rfl (vaQ rfl rfl rfl) (enQ 1 rfl ?_))))
  refine zdi [rowE 3 1 v21 ((ptsK (D.getD (((((D.getD k md0).xs).getD i ix0).m).toNat) md0)).length) ((ptsK (D.getD (((((D.getD k md0).xs).getD i ix0).m).toNat) md0)).map (Value.int .i64)), boxE b20 #[(D.getD (((((D.getD k md0).xs).getD i ix0).m).toNat) md0).sv, (D.getD (((((D.getD k md0).xs).getD i ix0).m).toNat) md0).av, (D.getD (((((D.getD k md0).xs).getD i ix0).m).toNat) md0).iv, (D.getD (((((D.getD k md0).xs).getD i ix0).m).toNat) md0).mv] 35, boxE b19 #[.int .i64 ((((D.getD k md0).xs).getD i ix0).m), .int .i64 ((((D.getD k md0).xs).getD i ix0).p), (((D.getD k md0).xs).getD i ix0).pv] 63, bigE [boxE b4 #[.slice (some ⟨g3, 0, none⟩) ((cntZ (D.getD k md0).ss.length ([] : List Int)).length) ((cntZ (D.getD k md0).ss.length ([] : List Int)).length)] 48, rowE 3 1 (.slice (some ⟨g3, 0, none⟩) ((cntZ (D.getD k md0).ss.length ([] : List Int)).length) ((cntZ (D.getD k md0).ss.length ([] : List Int)).length)) (cntZ (D.getD k md0).ss.length ((D.getD k md0).gs.map As.t ++ (D.getD k md0).ms.map Mm.o ++ ((D.getD k md0).xs.take (i + 1)).flatMap (xoK D))).length ((cntZ (D.getD k md0).ss.length ((D.getD k md0).gs.map As.t ++ (D.getD k md0).ms.map Mm.o ++ ((D.getD k md0).xs.take (i + 1)).flatMap (xoK D))).map (Value.int .i64))], boxE b2 #[(D.getD k md0).sv, (D.getD k md0).av, (D.getD k md0).iv, (D.getD k md0).mv] 35, boxE b1 #[v] 26] (fun w hm => by rw [show (D.getD k md0).gs.map As.t ++ (D.getD k md0).ms.map Mm.o ++ ((D.getD k md0).xs.take (i + 1)).flatMap (xoK D) = (D.getD k md0).gs.map As.t ++ (D.getD k md0).ms.map Mm.o ++ ((D.getD k md0).xs.take i).flatMap (xoK D) ++ xoA D ((D.getD k md0).xs.getD i ix0) j by rw [take_flatX (xoK D) ix0 (by omega), ← List.append_assoc, show j = (ptsK (D.getD (((((D.getD k md0).xs).getD i ix0).m).toNat) md0)).length by omega]; rfl]; exact hm) ?_
  exact zbw (i + 1) (by omega) (by omega) (saQ rfl) (slQ [3, 0, 0] rfl)
 refine ntQ (fcQ rfl ?_)
 refine zbl (zdx ?_)
 refine zan (zaq (srQ ?_))
 refine hl_pick 3 [2, 1, 0] rfl rfl (by decide) ?_
 refine zfr [boxE b4 #[.slice (some ⟨g3, 0, none⟩) ((cntZ (D.getD k md0).ss.length ([] : List Int)).length) ((cntZ (D.getD k md0).ss.length ([] : List Int)).length)] 48, rowE 3 1 (.slice (some ⟨g3, 0, none⟩) ((cntZ (D.getD k md0).ss.length ([] : List Int)).length) ((cntZ (D.getD k md0).ss.length ([] : List Int)).length)) ((cntZ (D.getD k md0).ss.length ((D.getD k md0).gs.map As.t ++ (D.getD k md0).ms.map Mm.o ++ ((D.getD k md0).xs.take i).flatMap (xoK D))).length) ((cntZ (D.getD k md0).ss.length ((D.getD k md0).gs.map As.t ++ (D.getD k md0).ms.map Mm.o ++ ((D.getD k md0).xs.take i).flatMap (xoK D))).map (Value.int .i64)), boxE b2 #[(D.getD k md0).sv, (D.getD k md0).av, (D.getD k md0).iv, (D.getD k md0).mv] 35, boxE b1 #[v] 26] zdf ?_
 refine hvQ rfl (zad rfl rfl rfl (zaa 0 rfl rfl)) (zbb 1 rfl ?_)
 exact zap (zfi (post := [rowE 3 1 (.slice (some ⟨g3, 0, none⟩) ((cntZ (D.getD k md0).ss.length ([] : List Int)).length) ((cntZ (D.getD k md0).ss.length ([] : List Int)).length)) ((cntZ (D.getD k md0).ss.length ((D.getD k md0).gs.map As.t ++ (D.getD k md0).ms.map Mm.o ++ ((D.getD k md0).xs.take i).flatMap (xoK D))).length) ((cntZ (D.getD k md0).ss.length ((D.getD k md0).gs.map As.t ++ (D.getD k md0).ms.map Mm.o ++ ((D.getD k md0).xs.take i).flatMap (xoK D))).map (Value.int .i64))]) rfl rfl (slQ [1] rfl) (by rw [show i = (D.getD k md0).xs.length by omega, List.take_length]; rfl))
theorem isDriven_ans (k : Int) (w : World)  :
   Calls Try.prog 54 #[.int .i64 k] w (Ans w (.bool (decide (1 ≤ k ∧ k ≤ 3)))) := by
 refine zca (N := 13) (args := [.int .i64 k]) Try.func54 rfl rfl (zbf 1 rfl (zag (reQ 1 rfl ?_)))
 refine zbt rfl rfl rfl rfl rfl rfl (fun h1 => ?_) (fun h1 => ?_)
 ·
  refine zbb 9 rfl ?_
  exact zap (zay rfl rfl (congrArg _ (decide_eq_true (by omega)).symm))
 refine zah 2 rfl (zbt rfl rfl rfl rfl rfl rfl (fun h2 => ?_) (fun h2 => ?_))
 ·
  refine zbb 6 rfl ?_
  exact zap (zay rfl rfl (congrArg _ (decide_eq_true (by omega)).symm))
 refine zah 3 rfl (zbt rfl rfl rfl rfl rfl rfl (fun h3 => ?_) (fun h3 => ?_))
 ·
  refine zbb 2 rfl ?_
  exact zap (zay rfl rfl (congrArg _ (decide_eq_true (by omega)).symm))
 refine zbb 2 rfl ?_
 exact zap (zay rfl rfl (congrArg _ (decide_eq_false (by omega)).symm))
theorem signalOk_ans (x : Sg) (w : World)  :
   Calls Try.prog 53 #[.agg #[.int .i64 x.k, .int .i64 x.w, .int .i64 x.i]] w (Ans w (.bool (pB (SgP x)))) := by
 refine zca (N := 26) (args := [.agg #[.int .i64 x.k, .int .i64 x.w, .int .i64 x.i]]) Try.func53 rfl rfl (srQ ?_)
 refine zdm rfl (zdk rfl rfl) ?_
 intro b1
 refine zbb 1 rfl (zfn (hvQ rfl (fdQ 0 rfl rfl rfl) (hvQ rfl (zad rfl rfl rfl (zaa 0 rfl rfl)) ?_)))
 refine zeq rfl (zaw rfl rfl (fun w hm => zbg (zej (zcm _ _ _ w)))) (zbs (fun h2 => ?_) (fun h2 => ?_))
 ·
  obtain ⟨h2a, h2b⟩ := (zdh _ _ _).1 h2
  refine zah 2 rfl (hvQ rfl (fdQ 1 rfl rfl rfl) (hvQ rfl (zad rfl rfl rfl (zaa 0 rfl rfl)) ?_))
  refine zeq rfl (zaw rfl rfl (fun w hm => zbg (zej (zcm _ _ _ w)))) (zbs (fun h3 => ?_) (fun h3 => ?_))
  ·
   obtain ⟨h3a, h3b⟩ := (zdh _ _ _).1 h3
   refine zbb 2 rfl (zar rfl (zcy (srQ (hvQ rfl (fdQ 2 rfl rfl rfl) (hvQ rfl (zad rfl rfl rfl (zaa 0 rfl rfl)) ?_)))))
   refine zbt rfl rfl rfl rfl rfl rfl (fun h4 => ?_) (fun h4 => ?_)
   ·
    refine zbb 11 rfl ?_
    exact zap (zay rfl rfl (congrArg _ (zdl ⟨⟨by omega, by omega⟩, ⟨by omega, by omega⟩, ⟨by omega, by omega⟩, by omega⟩).symm))
   refine zah 1 rfl (hvQ rfl (fdQ 0 rfl rfl rfl) (hvQ rfl (zad rfl rfl rfl (zaa 0 rfl rfl)) ?_))
   refine zbt rfl rfl rfl rfl rfl rfl (fun h5 => ?_) (fun h5 => ?_)
   ·
    refine zah 1 rfl (hvQ rfl (fdQ 2 rfl rfl rfl) (hvQ rfl (zad rfl rfl rfl (zaa 0 rfl rfl)) ?_))
    refine zeq rfl (zaw rfl rfl (fun w hm => zbg (zej (zcm _ _ _ w)))) (zbs (fun h6 => ?_) (fun h6 => ?_))
    ·
     obtain ⟨h6a, h6b⟩ := (zdh _ _ _).1 h6
     refine zbb 3 rfl ?_
     exact zap (zay rfl rfl (congrArg _ (zdl ⟨⟨by omega, by omega⟩, ⟨by omega, by omega⟩, ⟨by omega, by omega⟩, by omega⟩).symm))
    have h6a := zdb h6
    refine zbb 3 rfl ?_
    exact zap (zay rfl rfl (congrArg _ (zcd (fun hp => by first | (obtain ⟨⟨h1, h2⟩, ⟨h3, h4⟩, ⟨h5, h6⟩, h7⟩ := hp; omega))).symm))
   refine zbb 7 rfl ?_
   exact zap (zay rfl rfl (congrArg _ (zcd (fun hp => by first | (obtain ⟨⟨h1, h2⟩, ⟨h3, h4⟩, ⟨h5, h6⟩, h7⟩ := hp; omega))).symm))
  have h3a := zdb h3
  refine zbb 2 rfl (zai rfl (zbf 1 rfl ?_))
  refine zap (zaf ?_)
  exact zay rfl rfl (congrArg _ (zcd (fun hp => by first | (obtain ⟨⟨h1, h2⟩, ⟨h3, h4⟩, ⟨h5, h6⟩, h7⟩ := hp; omega))).symm)
 have h2a := zdb h2
 refine zbb 7 rfl (zai rfl (srQ (enQ 1 rfl ?_)))
 refine zaq (zap ?_)
 exact zaf (zay rfl rfl (congrArg _ (zcd (fun hp => by first | (obtain ⟨⟨h1, h2⟩, ⟨h3, h4⟩, ⟨h5, h6⟩, h7⟩ := hp; omega))).symm))
theorem drives_ans (m : Md) (s : Int) (w : World) (hr : RdsMd w m) :
   Calls Try.prog 57 #[.agg #[m.sv, m.av, m.iv, m.mv], .int .i64 s] w (Ans w (.bool (pB (Drv m s)))) := by
 have hs9 := sml hr.s
 refine zca (N := 29) (args := [.agg #[m.sv, m.av, m.iv, m.mv], .int .i64 s]) Try.func57 rfl rfl (srQ ?_)
 refine zdm rfl (zdk rfl rfl) ?_
 intro b1
 refine zbb 1 rfl (zag (reQ 1 rfl (hvQ rfl (fdQ 0 rfl rfl rfl) (hvQ rfl (zad rfl rfl rfl (zaa 0 rfl rfl)) (hvQ rfl (lnQ rfl rfl rfl (zae ((hr).s))) (hvQ rfl (vsQ rfl rfl rfl) ?_))))))
 refine zeq rfl (zaw rfl rfl (fun w hm => zbg (zej (zcm _ _ _ w)))) (zbs (fun h2 => ?_) (fun h2 => ?_))
 ·
  obtain ⟨h2a, h2b⟩ := (zdh _ _ _).1 h2
  refine zah 1 rfl (hvQ rfl (fdQ 0 rfl rfl rfl) (hvQ rfl (zad rfl rfl rfl (zaa 0 rfl rfl)) (zah 1 rfl (hvQ rfl (riQ 3 rfl rfl rfl rfl (zae ((hr).s))) (hvQ rfl (zau (k0 := 0) rfl rfl rfl (zae ((hr).s)) (by omega)) ?_)))))
  refine hvQ rfl (zam (u := .int .i64 ((m.ss.getD ((s).toNat) sg0).k)) rfl rfl rfl (zae ((hr).s)) ((zbi sgC 3 (fun _ => rfl) m.ss sg0 (show (s).toNat < _ by omega) (by decide)).trans rfl)) (zbt rfl rfl rfl rfl rfl rfl (fun h3 => ?_) (fun h3 => ?_))
  ·
   refine zbb 11 rfl ?_
   exact zap (zay rfl rfl (congrArg _ (zdl (by have h9 := zcv (m := m) (s := s) ⟨by omega, by omega⟩; first | exact .inl (by omega) | exact .inr (by omega))).symm))
  refine zah 1 rfl (hvQ rfl (fdQ 0 rfl rfl rfl) (hvQ rfl (zad rfl rfl rfl (zaa 0 rfl rfl)) (zah 1 rfl (hvQ rfl (riQ 3 rfl rfl rfl rfl (zae ((hr).s))) (hvQ rfl (zau (k0 := 0) rfl rfl rfl (zae ((hr).s)) (by omega)) ?_)))))
  refine hvQ rfl (zam (u := .int .i64 ((m.ss.getD ((s).toNat) sg0).k)) rfl rfl rfl (zae ((hr).s)) ((zbi sgC 3 (fun _ => rfl) m.ss sg0 (show (s).toNat < _ by omega) (by decide)).trans rfl)) (zbt rfl rfl rfl rfl rfl rfl (fun h4 => ?_) (fun h4 => ?_))
  ·
   refine zbb 3 rfl ?_
   exact zap (zay rfl rfl (congrArg _ (zdl (by have h9 := zcv (m := m) (s := s) ⟨by omega, by omega⟩; first | exact .inl (by omega) | exact .inr (by omega))).symm))
  refine zbb 3 rfl ?_
  exact zap (zay rfl rfl (congrArg _ (zcd (fun hp => by first | (have h8 := hp.inn; have h9 := zcv h8; obtain ⟨h6, h7⟩ := h8; rcases hp with hp | hp <;> omega))).symm))
 have h2a := zdb h2
 refine zbb 19 rfl ?_
 exact zap (zay rfl rfl (congrArg _ (zcd (fun hp => by first | (have h8 := hp.inn; have h9 := zcv h8; obtain ⟨h6, h7⟩ := h8; rcases hp with hp | hp <;> omega))).symm))
theorem instOk_ans (D : List Md) (m : Md) (x : Ix) (v : Value) (w : World) (hd : RdsDs w v D) (hr : RdsMd w m) (hxp : RdsW w x.pv 1 x.ps.length (x.ps.map (Value.int .i64))) (hx0 : 0 ≤ x.m ∧ x.m < D.length) (hxl : x.ps.length = (ptsK (D.getD x.m.toNat md0)).length) :
   Calls Try.prog 56 #[.agg #[v], .agg #[m.sv, m.av, m.iv, m.mv], .agg #[.int .i64 x.m, .int .i64 x.p, x.pv]] w (Ans w (.bool (pB (IxP D m x)))) := by
 have hd9 := sml hd.row
 have hs9 := sml hr.s
 refine zca (N := 59) (args := [.agg #[v], .agg #[m.sv, m.av, m.iv, m.mv], .agg #[.int .i64 x.m, .int .i64 x.p, x.pv]]) Try.func56 rfl rfl (srQ ?_)
 refine zdm rfl (zdk rfl rfl) ?_
 intro b1
 refine zdm rfl (zdk rfl rfl) ?_
 intro b2
 refine zdm rfl (zdk rfl rfl) ?_
 intro b3
 refine zbb 1 rfl (zfn (hvQ rfl (fdQ 1 rfl rfl rfl) (hvQ rfl (zad rfl rfl rfl (zaa 0 rfl rfl)) ?_)))
 refine zeq rfl (zaw rfl rfl (fun w hm => zbg (zej (zcm _ _ _ w)))) (zbs (fun h4 => ?_) (fun h4 => ?_))
 ·
  obtain ⟨h4a, h4b⟩ := (zdh _ _ _).1 h4
  refine zbb 1 rfl (zar rfl (zcy (srQ (hvQ rfl (fdQ 0 rfl rfl rfl) (hvQ rfl (zad rfl rfl rfl (zaa 2 rfl rfl)) (hvQ rfl (fdQ 0 rfl rfl rfl) (hvQ rfl (zad rfl rfl rfl (zaa 0 rfl rfl)) (hvQ rfl (riQ 4 rfl rfl rfl rfl (zae hd.row)) ?_))))))))
  refine hvQ rfl (zbm (us := [(D.getD ((x.m).toNat) md0).sv, (D.getD ((x.m).toNat) md0).av, (D.getD ((x.m).toNat) md0).iv, (D.getD ((x.m).toNat) md0).mv]) rfl rfl rfl rfl (zae hd.row) (by omega) rfl (zbz mdC 4 (fun _ => rfl) D md0 (show (x.m).toNat < _ by omega) rfl)) (zdm rfl (zbe (z := .agg #[.slice none 0 0, .slice none 0 0, .slice none 0 0, .slice none 0 0]) rfl rfl) ?_)
  intro b5
  refine zbd (cs' := #[(D.getD ((x.m).toNat) md0).sv, (D.getD ((x.m).toNat) md0).av, (D.getD ((x.m).toNat) md0).iv, (D.getD ((x.m).toNat) md0).mv]) (i := 0) (off := 0) (us := [(D.getD ((x.m).toNat) md0).sv, (D.getD ((x.m).toNat) md0).av, (D.getD ((x.m).toNat) md0).iv, (D.getD ((x.m).toNat) md0).mv]) rfl rfl rfl rfl rfl rfl rfl (zab (hd.at (k := x.m.toNat) (by omega)).s.one (zab (hd.at (k := x.m.toNat) (by omega)).g.one (zab (hd.at (k := x.m.toNat) (by omega)).x.one (zab (hd.at (k := x.m.toNat) (by omega)).m.one zbc)))) rfl rfl rfl (ntQ (zfn (hvQ rfl (zax (cs := [(D.getD ((x.m).toNat) md0).sv, (D.getD ((x.m).toNat) md0).av, (D.getD ((x.m).toNat) md0).iv, (D.getD ((x.m).toNat) md0).mv]) rfl rfl rfl rfl rfl (zat 0 rfl 0 rfl)) ?_)))
  refine hl_q rfl rfl rfl (zaw rfl rfl (fun w hm => zew (D.getD ((x.m).toNat) md0) w ((hd.at (by omega)).below hm.bel))) ?_
  intro v6 p7 hR8
  subst hR8
  refine hvQ rfl (lnQ rfl rfl rfl (zaj 0 rfl)) (zbb 1 rfl (zaz ?_))
  refine lkQ1 (α := Nat) [0, 1, 2, 3, 4, 5, 6, 7, 13, 21, 22] rfl (fun j => [rowE 3 1 v6 ((ptsK (D.getD x.m.toNat md0)).length) ((ptsK (D.getD x.m.toNat md0)).map (Value.int .i64)), boxE b5 #[(D.getD ((x.m).toNat) md0).sv, (D.getD ((x.m).toNat) md0).av, (D.getD ((x.m).toNat) md0).iv, (D.getD ((x.m).toNat) md0).mv] 35, boxE b3 #[.int .i64 x.m, .int .i64 x.p, x.pv] 63, boxE b2 #[m.sv, m.av, m.iv, m.mv] 35, boxE b1 #[v] 26]) (fun j => [(23, .int .i64 (j : Int))]) (fun j => j ≤ (ptsK (D.getD x.m.toNat md0)).length ∧ ∀ r, r < j → Inn m (x.ps.getD r 0) ∧ (knd (D.getD x.m.toNat md0) ((ptsK (D.getD x.m.toNat md0)).getD r 0) = 1 → Drv m (x.ps.getD r 0))) (fun j => (ptsK (D.getD x.m.toNat md0)).length - j) 0 ⟨Nat.zero_le _, fun q hq => absurd hq (by omega)⟩ (saQ rfl) (pfQ rfl) ?_
  intro j hi9
  obtain ⟨hj, hj9⟩ := hi9
  have hpl := ptsK_le (D.getD x.m.toNat md0)
  refine srQ ?_
  refine zbq rfl rfl rfl rfl rfl rfl (fun h10 => ?_) (fun h10 => ?_)
  ·
   refine ntQ (tcQ rfl (zcy (sbQ (zag (reQ 1 rfl (hvQ rfl (riQ 1 rfl rfl rfl rfl (zaj 0 rfl)) (hvQ rfl (zam (u := .int .i64 ((ptsK (D.getD x.m.toNat md0)).getD j 0)) rfl rfl rfl (zaj 0 rfl) (zby (show _ < (ptsK (D.getD x.m.toNat md0)).length by omega))) ?_)))))))
   refine zbb 2 rfl (zag ?_)
   have hpt := zdw (m := (D.getD x.m.toNat md0)) (j := j) (by omega)
   have hkd := zcv hpt
   rcases Bool.eq_false_or_eq_true (inR (x.ps.getD j 0) 0 ((m.ss.length : Int) - 1)) with hb11 | hb11
   ·
    obtain ⟨hb11a, hb11b⟩ := (zdh _ _ _).1 hb11
    have hpt := zdw (m := (D.getD x.m.toNat md0)) (j := j) (by omega)
    have hkd := zcv hpt
    rcases Bool.eq_false_or_eq_true (((((D.getD ((x.m).toNat) md0).ss).getD (((ptsK (D.getD x.m.toNat md0)).getD j 0).toNat) sg0).k) == 1) with hb12 | hb12
    ·
     have hb12p : (((D.getD ((x.m).toNat) md0).ss).getD (((ptsK (D.getD x.m.toNat md0)).getD j 0).toNat) sg0).k = 1 := beq_iff_eq.1 hb12
     have hpt := zdw (m := (D.getD x.m.toNat md0)) (j := j) (by omega)
     have hkd := zcv hpt
     rcases Bool.eq_false_or_eq_true (pB (Drv m (x.ps.getD j 0))) with hb13 | hb13
     ·
      have hb13p := zez hb13
      have hpt := zdw (m := (D.getD x.m.toNat md0)) (j := j) (by omega)
      have hkd := zcv hpt
      refine zbu 30 [[], [0], [], [1, 2], [3], [], [5], [6], [7], [4, 8], [9], [10], [11], [11, 12], [11], [11, 13, 14], [11, 15], [11, 16], [11, 17], [11, 18], [19], [19], [19, 21], [19], [19, 22, 23], [19, 24], [19, 20, 25], [19, 26], [11, 19, 27], [11, 28]] [28, 29, 30, 31, 32, 33, 34, 35, 36, 37, 38, 39, 40, 41, 42, 43, 44, 45, 46, 47, 48, 49, 50, 51, 52, 53, 54, 55, 56, 57] [.pointer (some ⟨b3, 0 + 2, none⟩), x.pv, .int .i64 (j : Int), elP x.pv (((j : Int)).toNat * 1), .int .i64 (x.ps.getD j 0), .pointer (some ⟨b2, 0 + 0, none⟩), m.sv, .int .i64 (m.ss.length : Int), .int .i64 ((m.ss.length : Int) - 1), .bool true, .bool false, .bool false, .pointer (some ⟨b5, 0 + 0, none⟩), (D.getD ((x.m).toNat) md0).sv, .int .i64 ((ptsK (D.getD x.m.toNat md0)).getD j 0), elP ((D.getD ((x.m).toNat) md0).sv) (((ptsK (D.getD x.m.toNat md0)).getD j 0).toNat * 3), elP ((D.getD ((x.m).toNat) md0).sv) (((ptsK (D.getD x.m.toNat md0)).getD j 0).toNat * 3 + 0), .int .i64 ((((D.getD ((x.m).toNat) md0).ss).getD (((ptsK (D.getD x.m.toNat md0)).getD j 0).toNat) sg0).k), .bool true, .bool true, .agg #[m.sv, m.av, m.iv, m.mv], .pointer (some ⟨b3, 0 + 2, none⟩), x.pv, .int .i64 (j : Int), elP x.pv (((j : Int)).toNat * 1), .int .i64 (x.ps.getD j 0), .bool true, .bool false, .bool false, .bool false] (by kernel_rfl) rfl ?_ ?_
      ·
       exact ⟨iaQ rfl (fdQ 2 rfl rfl rfl) rfl, iaQ rfl (zad rfl rfl rfl (zaa 2 rfl rfl)) rfl, iaQ rfl (zav rfl) rfl, iaQ rfl (riQ 1 rfl rfl rfl rfl (zae hxp)) rfl, iaQ rfl (liQ rfl rfl rfl (zae hxp)) rfl, iaQ rfl (fdQ 0 rfl rfl rfl) rfl, iaQ rfl (zad rfl rfl rfl (zaa 3 rfl rfl)) rfl, iaQ rfl (lnQ rfl rfl rfl (zae ((hr).s))) rfl, iaQ rfl (vsQ rfl rfl rfl) rfl, .inl ⟨rfl, rq_cb (zaw rfl rfl (fun w hm => zbg (zej (zcm _ _ _ w)))) hb11⟩, iaQ rfl (zav rfl) rfl, iaQ rfl (zav rfl) rfl, iaQ rfl (fdQ 0 rfl rfl rfl) rfl, iaQ rfl (zad rfl rfl rfl (zaa 1 rfl rfl)) rfl, iaQ rfl (zav rfl) rfl, iaQ rfl (riQ 3 rfl rfl rfl rfl (zae ((hd.at (k := x.m.toNat) (by omega)).s))) rfl, iaQ rfl (zau (k0 := 0) rfl rfl rfl (zae ((hd.at (k := x.m.toNat) (by omega)).s)) (by omega)) rfl, iaQ rfl (zam (u := .int .i64 ((((D.getD ((x.m).toNat) md0).ss).getD (((ptsK (D.getD x.m.toNat md0)).getD j 0).toNat) sg0).k)) rfl rfl rfl (zae ((hd.at (k := x.m.toNat) (by omega)).s)) ((zbi sgC 3 (fun _ => rfl) ((D.getD ((x.m).toNat) md0).ss) sg0 (show ((ptsK (D.getD x.m.toNat md0)).getD j 0).toNat < _ by omega) (by decide)).trans rfl)) rfl, .inl ⟨rfl, zdq (zcj rfl rfl rfl rfl) hb12⟩, iaQ rfl (zav rfl) rfl, iaQ rfl (zax (cs := [m.sv, m.av, m.iv, m.mv]) rfl rfl rfl rfl rfl (zat 3 rfl 0 rfl)) rfl, iaQ rfl (fdQ 2 rfl rfl rfl) rfl, iaQ rfl (zad rfl rfl rfl (zaa 2 rfl rfl)) rfl, iaQ rfl (zav rfl) rfl, iaQ rfl (riQ 1 rfl rfl rfl rfl (zae hxp)) rfl, iaQ rfl (liQ rfl rfl rfl (zae hxp)) rfl, .inl ⟨rfl, rq_cb (zaw rfl rfl (fun w hm => zbg (drives_ans m (x.ps.getD j 0) w (hr.below hm.bel)))) hb13⟩, iaQ rfl (zav rfl) rfl, iaQ rfl (zav rfl) rfl, iaQ rfl (zav rfl) rfl, trivial⟩
      simp only [List.drop_succ_cons, List.drop_zero]
      refine ntQ (fsQ rfl (zde (zao (hvQ rfl (vaQ rfl rfl rfl) (enQ 1 rfl ?_)))))
      exact zbw (j + 1) ⟨by omega, fun r hr9 => by by_cases e : r = j; (subst e; exact ⟨⟨by omega, by omega⟩, fun _ => by first | assumption | (exfalso; omega)⟩); exact hj9 r (by omega)⟩ (by omega) (saQ rfl) (pfQ rfl)
     have hb13p := zec hb13
     have hpt := zdw (m := (D.getD x.m.toNat md0)) (j := j) (by omega)
     have hkd := zcv hpt
     refine zbu 30 [[], [0], [], [1, 2], [3], [], [5], [6], [7], [4, 8], [9], [10], [11], [11, 12], [11], [11, 13, 14], [11, 15], [11, 16], [11, 17], [11, 18], [19], [19], [19, 21], [19], [19, 22, 23], [19, 24], [19, 20, 25], [19, 26], [11, 19, 27], [11, 28]] [28, 29, 30, 31, 32, 33, 34, 35, 36, 37, 38, 39, 40, 41, 42, 43, 44, 45, 46, 47, 48, 49, 50, 51, 52, 53, 54, 55, 56, 57] [.pointer (some ⟨b3, 0 + 2, none⟩), x.pv, .int .i64 (j : Int), elP x.pv (((j : Int)).toNat * 1), .int .i64 (x.ps.getD j 0), .pointer (some ⟨b2, 0 + 0, none⟩), m.sv, .int .i64 (m.ss.length : Int), .int .i64 ((m.ss.length : Int) - 1), .bool true, .bool false, .bool false, .pointer (some ⟨b5, 0 + 0, none⟩), (D.getD ((x.m).toNat) md0).sv, .int .i64 ((ptsK (D.getD x.m.toNat md0)).getD j 0), elP ((D.getD ((x.m).toNat) md0).sv) (((ptsK (D.getD x.m.toNat md0)).getD j 0).toNat * 3), elP ((D.getD ((x.m).toNat) md0).sv) (((ptsK (D.getD x.m.toNat md0)).getD j 0).toNat * 3 + 0), .int .i64 ((((D.getD ((x.m).toNat) md0).ss).getD (((ptsK (D.getD x.m.toNat md0)).getD j 0).toNat) sg0).k), .bool true, .bool true, .agg #[m.sv, m.av, m.iv, m.mv], .pointer (some ⟨b3, 0 + 2, none⟩), x.pv, .int .i64 (j : Int), elP x.pv (((j : Int)).toNat * 1), .int .i64 (x.ps.getD j 0), .bool false, .bool true, .bool true, .bool true] (by kernel_rfl) rfl ?_ ?_
     ·
      exact ⟨iaQ rfl (fdQ 2 rfl rfl rfl) rfl, iaQ rfl (zad rfl rfl rfl (zaa 2 rfl rfl)) rfl, iaQ rfl (zav rfl) rfl, iaQ rfl (riQ 1 rfl rfl rfl rfl (zae hxp)) rfl, iaQ rfl (liQ rfl rfl rfl (zae hxp)) rfl, iaQ rfl (fdQ 0 rfl rfl rfl) rfl, iaQ rfl (zad rfl rfl rfl (zaa 3 rfl rfl)) rfl, iaQ rfl (lnQ rfl rfl rfl (zae ((hr).s))) rfl, iaQ rfl (vsQ rfl rfl rfl) rfl, .inl ⟨rfl, rq_cb (zaw rfl rfl (fun w hm => zbg (zej (zcm _ _ _ w)))) hb11⟩, iaQ rfl (zav rfl) rfl, iaQ rfl (zav rfl) rfl, iaQ rfl (fdQ 0 rfl rfl rfl) rfl, iaQ rfl (zad rfl rfl rfl (zaa 1 rfl rfl)) rfl, iaQ rfl (zav rfl) rfl, iaQ rfl (riQ 3 rfl rfl rfl rfl (zae ((hd.at (k := x.m.toNat) (by omega)).s))) rfl, iaQ rfl (zau (k0 := 0) rfl rfl rfl (zae ((hd.at (k := x.m.toNat) (by omega)).s)) (by omega)) rfl, iaQ rfl (zam (u := .int .i64 ((((D.getD ((x.m).toNat) md0).ss).getD (((ptsK (D.getD x.m.toNat md0)).getD j 0).toNat) sg0).k)) rfl rfl rfl (zae ((hd.at (k := x.m.toNat) (by omega)).s)) ((zbi sgC 3 (fun _ => rfl) ((D.getD ((x.m).toNat) md0).ss) sg0 (show ((ptsK (D.getD x.m.toNat md0)).getD j 0).toNat < _ by omega) (by decide)).trans rfl)) rfl, .inl ⟨rfl, zdq (zcj rfl rfl rfl rfl) hb12⟩, iaQ rfl (zav rfl) rfl, iaQ rfl (zax (cs := [m.sv, m.av, m.iv, m.mv]) rfl rfl rfl rfl rfl (zat 3 rfl 0 rfl)) rfl, iaQ rfl (fdQ 2 rfl rfl rfl) rfl, iaQ rfl (zad rfl rfl rfl (zaa 2 rfl rfl)) rfl, iaQ rfl (zav rfl) rfl, iaQ rfl (riQ 1 rfl rfl rfl rfl (zae hxp)) rfl, iaQ rfl (liQ rfl rfl rfl (zae hxp)) rfl, .inl ⟨rfl, rq_cb (zaw rfl rfl (fun w hm => zbg (drives_ans m (x.ps.getD j 0) w (hr.below hm.bel)))) hb13⟩, iaQ rfl (zav rfl) rfl, iaQ rfl (zav rfl) rfl, iaQ rfl (zav rfl) rfl, trivial⟩
     simp only [List.drop_succ_cons, List.drop_zero]
     refine ntQ (zai rfl (zbf 1 rfl ?_))
     refine zap (zac ?_)
     refine zdy ?_
     refine zac (zaf ?_)
     exact zay rfl rfl (congrArg _ (zcd (fun hp => by first | (have := hp.1; omega) | (obtain ⟨h8, h9⟩ := (hp.2 j (by omega)).1; omega) | (have h9 := (hp.2 j (by omega)).2 (by omega); exact absurd h9 (by assumption)))).symm)
    have hb12p : (((D.getD ((x.m).toNat) md0).ss).getD (((ptsK (D.getD x.m.toNat md0)).getD j 0).toNat) sg0).k ≠ 1 := beq_eq_false_iff_ne.1 hb12
    have hpt := zdw (m := (D.getD x.m.toNat md0)) (j := j) (by omega)
    have hkd := zcv hpt
    refine zbu 30 [[], [0], [], [1, 2], [3], [], [5], [6], [7], [4, 8], [9], [10], [11], [11, 12], [11], [11, 13, 14], [11, 15], [11, 16], [11, 17], [11, 18], [19], [19], [19], [19], [19], [19], [19], [19], [11, 19, 27], [11, 28]] [28, 29, 30, 31, 32, 33, 34, 35, 36, 37, 38, 39, 40, 41, 42, 43, 44, 45, 46, 47, 48, 49, 50, 51, 52, 53, 54, 55, 56, 57] [.pointer (some ⟨b3, 0 + 2, none⟩), x.pv, .int .i64 (j : Int), elP x.pv (((j : Int)).toNat * 1), .int .i64 (x.ps.getD j 0), .pointer (some ⟨b2, 0 + 0, none⟩), m.sv, .int .i64 (m.ss.length : Int), .int .i64 ((m.ss.length : Int) - 1), .bool true, .bool false, .bool false, .pointer (some ⟨b5, 0 + 0, none⟩), (D.getD ((x.m).toNat) md0).sv, .int .i64 ((ptsK (D.getD x.m.toNat md0)).getD j 0), elP ((D.getD ((x.m).toNat) md0).sv) (((ptsK (D.getD x.m.toNat md0)).getD j 0).toNat * 3), elP ((D.getD ((x.m).toNat) md0).sv) (((ptsK (D.getD x.m.toNat md0)).getD j 0).toNat * 3 + 0), .int .i64 ((((D.getD ((x.m).toNat) md0).ss).getD (((ptsK (D.getD x.m.toNat md0)).getD j 0).toNat) sg0).k), .bool false, .bool false, undef, undef, undef, undef, undef, undef, undef, undef, .bool false, .bool false] (by kernel_rfl) rfl ?_ ?_
    ·
     exact ⟨iaQ rfl (fdQ 2 rfl rfl rfl) rfl, iaQ rfl (zad rfl rfl rfl (zaa 2 rfl rfl)) rfl, iaQ rfl (zav rfl) rfl, iaQ rfl (riQ 1 rfl rfl rfl rfl (zae hxp)) rfl, iaQ rfl (liQ rfl rfl rfl (zae hxp)) rfl, iaQ rfl (fdQ 0 rfl rfl rfl) rfl, iaQ rfl (zad rfl rfl rfl (zaa 3 rfl rfl)) rfl, iaQ rfl (lnQ rfl rfl rfl (zae ((hr).s))) rfl, iaQ rfl (vsQ rfl rfl rfl) rfl, .inl ⟨rfl, rq_cb (zaw rfl rfl (fun w hm => zbg (zej (zcm _ _ _ w)))) hb11⟩, iaQ rfl (zav rfl) rfl, iaQ rfl (zav rfl) rfl, iaQ rfl (fdQ 0 rfl rfl rfl) rfl, iaQ rfl (zad rfl rfl rfl (zaa 1 rfl rfl)) rfl, iaQ rfl (zav rfl) rfl, iaQ rfl (riQ 3 rfl rfl rfl rfl (zae ((hd.at (k := x.m.toNat) (by omega)).s))) rfl, iaQ rfl (zau (k0 := 0) rfl rfl rfl (zae ((hd.at (k := x.m.toNat) (by omega)).s)) (by omega)) rfl, iaQ rfl (zam (u := .int .i64 ((((D.getD ((x.m).toNat) md0).ss).getD (((ptsK (D.getD x.m.toNat md0)).getD j 0).toNat) sg0).k)) rfl rfl rfl (zae ((hd.at (k := x.m.toNat) (by omega)).s)) ((zbi sgC 3 (fun _ => rfl) ((D.getD ((x.m).toNat) md0).ss) sg0 (show ((ptsK (D.getD x.m.toNat md0)).getD j 0).toNat < _ by omega) (by decide)).trans rfl)) rfl, .inl ⟨rfl, zdq (zcj rfl rfl rfl rfl) hb12⟩, iaQ rfl (zav rfl) rfl, .inr ⟨rfl, rfl⟩, .inr ⟨rfl, rfl⟩, .inr ⟨rfl, rfl⟩, .inr ⟨rfl, rfl⟩, .inr ⟨rfl, rfl⟩, .inr ⟨rfl, rfl⟩, .inr ⟨rfl, rfl⟩, .inr ⟨rfl, rfl⟩, iaQ rfl (zav rfl) rfl, iaQ rfl (zav rfl) rfl, trivial⟩
    simp only [List.drop_succ_cons, List.drop_zero]
    refine ntQ (fsQ rfl (zde (zao (hvQ rfl (vaQ rfl rfl rfl) (enQ 1 rfl ?_)))))
    exact zbw (j + 1) ⟨by omega, fun r hr9 => by by_cases e : r = j; (subst e; exact ⟨⟨by omega, by omega⟩, fun _ => by first | assumption | (exfalso; omega)⟩); exact hj9 r (by omega)⟩ (by omega) (saQ rfl) (pfQ rfl)
   have hb11a := zdb hb11
   have hpt := zdw (m := (D.getD x.m.toNat md0)) (j := j) (by omega)
   have hkd := zcv hpt
   refine zbu 30 [[], [0], [], [1, 2], [3], [], [5], [6], [7], [4, 8], [9], [10], [11], [11], [11], [11], [11], [11], [11], [11], [19], [19], [19], [19], [19], [19], [19], [19], [11], [11, 28]] [28, 29, 30, 31, 32, 33, 34, 35, 36, 37, 38, 39, 40, 41, 42, 43, 44, 45, 46, 47, 48, 49, 50, 51, 52, 53, 54, 55, 56, 57] [.pointer (some ⟨b3, 0 + 2, none⟩), x.pv, .int .i64 (j : Int), elP x.pv (((j : Int)).toNat * 1), .int .i64 (x.ps.getD j 0), .pointer (some ⟨b2, 0 + 0, none⟩), m.sv, .int .i64 (m.ss.length : Int), .int .i64 ((m.ss.length : Int) - 1), .bool false, .bool true, .bool true, undef, undef, undef, undef, undef, undef, undef, undef, undef, undef, undef, undef, undef, undef, undef, undef, undef, .bool true] (by kernel_rfl) rfl ?_ ?_
   ·
    exact ⟨iaQ rfl (fdQ 2 rfl rfl rfl) rfl, iaQ rfl (zad rfl rfl rfl (zaa 2 rfl rfl)) rfl, iaQ rfl (zav rfl) rfl, iaQ rfl (riQ 1 rfl rfl rfl rfl (zae hxp)) rfl, iaQ rfl (liQ rfl rfl rfl (zae hxp)) rfl, iaQ rfl (fdQ 0 rfl rfl rfl) rfl, iaQ rfl (zad rfl rfl rfl (zaa 3 rfl rfl)) rfl, iaQ rfl (lnQ rfl rfl rfl (zae ((hr).s))) rfl, iaQ rfl (vsQ rfl rfl rfl) rfl, .inl ⟨rfl, rq_cb (zaw rfl rfl (fun w hm => zbg (zej (zcm _ _ _ w)))) hb11⟩, iaQ rfl (zav rfl) rfl, iaQ rfl (zav rfl) rfl, .inr ⟨rfl, rfl⟩, .inr ⟨rfl, rfl⟩, .inr ⟨rfl, rfl⟩, .inr ⟨rfl, rfl⟩, .inr ⟨rfl, rfl⟩, .inr ⟨rfl, rfl⟩, .inr ⟨rfl, rfl⟩, .inr ⟨rfl, rfl⟩, .inr ⟨rfl, rfl⟩, .inr ⟨rfl, rfl⟩, .inr ⟨rfl, rfl⟩, .inr ⟨rfl, rfl⟩, .inr ⟨rfl, rfl⟩, .inr ⟨rfl, rfl⟩, .inr ⟨rfl, rfl⟩, .inr ⟨rfl, rfl⟩, .inr ⟨rfl, rfl⟩, iaQ rfl (zav rfl) rfl, trivial⟩
   simp only [List.drop_succ_cons, List.drop_zero]
   refine ntQ (zai rfl (zbf 1 rfl ?_))
   refine zap (zac ?_)
   refine zdy ?_
   refine zac (zaf ?_)
   exact zay rfl rfl (congrArg _ (zcd (fun hp => by first | (have := hp.1; omega) | (obtain ⟨h8, h9⟩ := (hp.2 j (by omega)).1; omega) | (have h9 := (hp.2 j (by omega)).2 (by omega); exact absurd h9 (by assumption)))).symm)
  refine ntQ (fcQ rfl ?_)
  refine zbl (zdx ?_)
  refine zan (zaq (zbf 1 rfl ?_))
  exact zap (zay rfl rfl (congrArg _ (zdl ⟨⟨by omega, by omega⟩, fun r hr9 => hj9 r (by omega)⟩).symm))
 have h4a := zdb h4
 refine zbb 1 rfl (zai rfl (zbf 1 rfl ?_))
 refine zap (zaf ?_)
 exact zay rfl rfl (congrArg _ (zcd (fun hp => by first | (have := hp.1; omega) | (obtain ⟨h8, h9⟩ := (hp.2 j (by omega)).1; omega) | (have h9 := (hp.2 j (by omega)).2 (by omega); exact absurd h9 (by assumption)))).symm)
theorem implModuleOk_ans (D : List Md) (k : Nat) (v : Value) (w : World) (hd : RdsDs w v D) (hk : k < D.length) :
   Calls Try.prog 14 #[.agg #[v], .int .i64 (k : Int)] w (Ans w (.bool (pB (ModP D k)))) := by
 have hd9 := sml hd.row
 refine zca (N := 157) (args := [.agg #[v], .int .i64 (k : Int)]) Try.func14 rfl rfl (srQ ?_)
 refine zdm rfl (zdk rfl rfl) ?_
 intro b1
 refine zbb 1 rfl (zag (zag (reQ 1 rfl (hvQ rfl (fdQ 0 rfl rfl rfl) (hvQ rfl (zad rfl rfl rfl (zaa 0 rfl rfl)) (hvQ rfl (lnQ rfl rfl rfl (zae hd.row)) (hvQ rfl (vsQ rfl rfl rfl) ?_)))))))
 refine zeq rfl (zaw rfl rfl (fun w hm => zbg (zej (zcm _ _ _ w)))) (zbs (fun h2 => ?_) (fun h2 => ?_))
 ·
  obtain ⟨h2a, h2b⟩ := (zdh _ _ _).1 h2
  refine zah 2 rfl (hvQ rfl (zax (cs := [v]) rfl rfl rfl rfl rfl (zat 0 rfl 0 rfl)) ?_)
  refine zeq rfl (zaw rfl rfl (fun w hm => zbg (countsOk_ans D v w (hd.below hm.bel)))) (zbs (fun h3 => ?_) (fun h3 => ?_))
  ·
   have h3p := zez h3
   refine zah 3 rfl (hvQ rfl (zax (cs := [v]) rfl rfl rfl rfl rfl (zat 0 rfl 0 rfl)) (zah 1 rfl ?_))
   refine zeq rfl (zaw rfl rfl (fun w hm => zbg (instsOk_ans D k v w (hd.below hm.bel) (by omega)))) (zbs (fun h4 => ?_) (fun h4 => ?_))
   ·
    have h4p := zez h4
    refine zbb 2 rfl (zar rfl (zcy (srQ (hvQ rfl (fdQ 0 rfl rfl rfl) (hvQ rfl (zad rfl rfl rfl (zaa 0 rfl rfl)) (zah 1 rfl (hvQ rfl (riQ 4 rfl rfl rfl rfl (zae hd.row)) ?_)))))))
    refine hvQ rfl (zbm (us := [(D.getD k md0).sv, (D.getD k md0).av, (D.getD k md0).iv, (D.getD k md0).mv]) rfl rfl rfl rfl (zae hd.row) (by omega) rfl (zbz mdC 4 (fun _ => rfl) D md0 (show k < _ by omega) rfl)) (zdm rfl (zbe (z := .agg #[.slice none 0 0, .slice none 0 0, .slice none 0 0, .slice none 0 0]) rfl rfl) ?_)
    intro b5
    refine zbd (cs' := #[(D.getD k md0).sv, (D.getD k md0).av, (D.getD k md0).iv, (D.getD k md0).mv]) (i := 0) (off := 0) (us := [(D.getD k md0).sv, (D.getD k md0).av, (D.getD k md0).iv, (D.getD k md0).mv]) rfl rfl rfl rfl rfl rfl rfl (zab (hd.at (k := k) (by omega)).s.one (zab (hd.at (k := k) (by omega)).g.one (zab (hd.at (k := k) (by omega)).x.one (zab (hd.at (k := k) (by omega)).m.one zbc)))) rfl rfl rfl (ntQ (srQ (hvQ rfl (fdQ 0 rfl rfl rfl) (hvQ rfl (zad rfl rfl rfl (zaa 0 rfl rfl)) (hvQ rfl (lnQ rfl rfl rfl (zae ((hd.at (k := k) (by omega)).s))) (zbb 1 rfl (zag (zag ?_))))))))
    refine zao (hvQ rfl (fdQ 0 rfl rfl rfl) (hvQ rfl (zad rfl rfl rfl (zaa 0 rfl rfl)) (hvQ rfl (lnQ rfl rfl rfl (zae ((hd.at (k := k) (by omega)).s))) (zbb 1 rfl (zaz ?_)))))
    refine lkQ1 (α := Nat) [0, 1, 2, 4, 5, 6, 34, 44, 45] rfl (fun i => [boxE b5 #[(D.getD k md0).sv, (D.getD k md0).av, (D.getD k md0).iv, (D.getD k md0).mv] 35, boxE b1 #[v] 26]) (fun i => [(46, .int .i64 (i : Int))]) (fun i => i ≤ (D.getD k md0).ss.length ∧ ∀ q, q < i → SgP ((D.getD k md0).ss.getD q sg0)) (fun i => (D.getD k md0).ss.length - i) 0 ⟨Nat.zero_le _, fun q hq => absurd hq (by omega)⟩ (saQ rfl) (pfQ rfl) ?_
    intro i hi6
    obtain ⟨hi, hsg⟩ := hi6
    have hcts : CtsP D k := ⟨by omega, by assumption, by assumption⟩
    obtain ⟨hkl, hcnt, hins⟩ := id hcts
    obtain ⟨hn1, hn2, hn3, hn4⟩ := hcnt.md k hkl
    refine srQ ?_
    refine zbq rfl rfl rfl rfl rfl rfl (fun h7 => ?_) (fun h7 => ?_)
    ·
     refine ntQ (tcQ rfl (zcy (sbQ (srQ (hvQ rfl (riQ 3 rfl rfl rfl rfl (zae ((hd.at (k := k) (by omega)).s))) ?_)))))
     refine hvQ rfl (zbm (us := [.int .i64 ((((D.getD k md0).ss).getD i sg0).k), .int .i64 ((((D.getD k md0).ss).getD i sg0).w), .int .i64 ((((D.getD k md0).ss).getD i sg0).i)]) rfl rfl rfl rfl (zae ((hd.at (k := k) (by omega)).s)) (by omega) rfl (zbz sgC 3 (fun _ => rfl) ((D.getD k md0).ss) sg0 (show i < _ by omega) rfl)) (zdm rfl (zbe (z := .agg #[.int .i64 0, .int .i64 0, .int .i64 0]) rfl rfl) ?_)
     intro b8
     refine zbd (cs' := #[.int .i64 ((((D.getD k md0).ss).getD i sg0).k), .int .i64 ((((D.getD k md0).ss).getD i sg0).w), .int .i64 ((((D.getD k md0).ss).getD i sg0).i)]) (i := 0) (off := 0) (us := [.int .i64 ((((D.getD k md0).ss).getD i sg0).k), .int .i64 ((((D.getD k md0).ss).getD i sg0).w), .int .i64 ((((D.getD k md0).ss).getD i sg0).i)]) rfl rfl rfl rfl rfl rfl rfl (zab rfl (zab rfl (zab rfl zbc))) rfl rfl rfl (ntQ (srQ (hvQ rfl (zax (cs := [.int .i64 ((((D.getD k md0).ss).getD i sg0).k), .int .i64 ((((D.getD k md0).ss).getD i sg0).w), .int .i64 ((((D.getD k md0).ss).getD i sg0).i)]) rfl rfl rfl rfl rfl (zat 0 rfl 0 rfl)) ?_)))
     refine zeq rfl (zaw rfl rfl (fun w hm => zbg (signalOk_ans ((D.getD k md0).ss.getD i sg0) w))) (zbs (fun h9 => ?_) (fun h9 => ?_))
     ·
      have h9p := zez h9
      refine zbb 1 rfl (fsQ rfl (zde (zao (hvQ rfl (vaQ rfl rfl rfl) (enQ 1 rfl ?_)))))
      exact zbw (i + 1) ⟨by omega, fun q hq => by by_cases e : q = i; (subst e; assumption); exact hsg q (by omega)⟩ (by omega) (saQ rfl) (slQ [1, 0] rfl)
     have h9p := zec h9
     refine zbb 1 rfl (zai rfl (zbf 1 rfl ?_))
     refine zap (zac ?_)
     refine zdy ?_
     refine zac (zaf ?_)
     exact zay rfl rfl (congrArg _ (zcd (fun hp => by first | (omega) | (exact absurd hp.cnt (by assumption)) | (exact absurd hp.ins (by assumption)) | (exact absurd (hp.sg i (by omega)) (by assumption)) | (have h9 := (hp.gs i (by omega)).1; have h8 : Inn _ _ := Classical.byContradiction (fun h7 => by rw [zef h7] at h9; omega); rw [zcv h8] at h9; obtain ⟨h5, h6⟩ := h8; omega) | (exact absurd (hp.gs i (by omega)).2 (by assumption)) | (exact absurd (hp.xs i (by omega)) (by assumption)) | (obtain ⟨⟨⟨h1, h2⟩, ⟨h3, h4⟩, ⟨h5, h6⟩⟩, h7⟩ := hp.ms i (by omega); first | omega | exact absurd h7 (by assumption)) | (have h9 := hp.dr i (by omega) (by omega); omega))).symm)
    refine ntQ (fcQ rfl ?_)
    refine zbl (zdx ?_)
    refine zan (zaq (zfn (hvQ rfl (fdQ 1 rfl rfl rfl) (hvQ rfl (zad rfl rfl rfl (zaa 0 rfl rfl)) (hvQ rfl (lnQ rfl rfl rfl (zae ((hd.at (k := k) (by omega)).g))) (zbb 1 rfl (zaz ?_)))))))
    refine lkQ1 (α := Nat) [0, 1, 2, 4, 5, 6, 34, 47, 55, 56] rfl (fun i => [boxE b5 #[(D.getD k md0).sv, (D.getD k md0).av, (D.getD k md0).iv, (D.getD k md0).mv] 35, boxE b1 #[v] 26]) (fun i => [(57, .int .i64 (i : Int))]) (fun i => i ≤ (D.getD k md0).gs.length ∧ ∀ q, q < i → AsP (D.getD k md0) ((D.getD k md0).gs.getD q as0)) (fun i => (D.getD k md0).gs.length - i) 0 ⟨Nat.zero_le _, fun q hq => absurd hq (by omega)⟩ (saQ rfl) (pfQ rfl) ?_
    intro i hi10
    obtain ⟨hi, hgs⟩ := hi10
    have hsgA : ∀ q, q < (D.getD k md0).ss.length → SgP ((D.getD k md0).ss.getD q sg0) := fun q hq => hsg q (by omega)
    refine srQ ?_
    refine zbq rfl rfl rfl rfl rfl rfl (fun h11 => ?_) (fun h11 => ?_)
    ·
     refine ntQ (tcQ rfl (zcy (sbQ (srQ (hvQ rfl (riQ 2 rfl rfl rfl rfl (zae ((hd.at (k := k) (by omega)).g))) ?_)))))
     refine hvQ rfl (zbm (us := [.int .i64 ((((D.getD k md0).gs).getD i as0).t), (((D.getD k md0).gs).getD i as0).ov]) rfl rfl rfl rfl (zae ((hd.at (k := k) (by omega)).g)) (by omega) rfl (zbz asC 2 (fun _ => rfl) ((D.getD k md0).gs) as0 (show i < _ by omega) rfl)) (zdm rfl (zbe (z := .agg #[.int .i64 0, .slice none 0 0]) rfl rfl) ?_)
     intro b12
     refine zbd (cs' := #[.int .i64 ((((D.getD k md0).gs).getD i as0).t), (((D.getD k md0).gs).getD i as0).ov]) (i := 0) (off := 0) (us := [.int .i64 ((((D.getD k md0).gs).getD i as0).t), (((D.getD k md0).gs).getD i as0).ov]) rfl rfl rfl rfl rfl rfl rfl (zab rfl (zab ((hd.at (k := k) (by omega)).o.at (k := i) (by omega)).one zbc)) rfl rfl rfl (ntQ (srQ (hvQ rfl (fdQ 0 rfl rfl rfl) (hvQ rfl (zad rfl rfl rfl (zaa 0 rfl rfl)) (zah 1 rfl (hvQ rfl (vsQ rfl rfl rfl) ?_))))))
     refine zeq rfl (zaw rfl rfl (fun w hm => zbg (zej (zcm _ _ _ w)))) (zbs (fun h13 => ?_) (fun h13 => ?_))
     ·
      obtain ⟨h13a, h13b⟩ := (zdh _ _ _).1 h13
      refine zah 2 rfl (hvQ rfl (fdQ 0 rfl rfl rfl) (hvQ rfl (zad rfl rfl rfl (zaa 1 rfl rfl)) (hvQ rfl (fdQ 0 rfl rfl rfl) (hvQ rfl (zad rfl rfl rfl (zaa 0 rfl rfl)) (hvQ rfl (riQ 3 rfl rfl rfl rfl (zae ((hd.at (k := k) (by omega)).s))) (hvQ rfl (zau (k0 := 0) rfl rfl rfl (zae ((hd.at (k := k) (by omega)).s)) (by omega)) ?_))))))
      refine hvQ rfl (zam (u := .int .i64 ((((D.getD k md0).ss).getD (((((D.getD k md0).gs).getD i as0).t).toNat) sg0).k)) rfl rfl rfl (zae ((hd.at (k := k) (by omega)).s)) ((zbi sgC 3 (fun _ => rfl) ((D.getD k md0).ss) sg0 (show ((((D.getD k md0).gs).getD i as0).t).toNat < _ by omega) (by decide)).trans rfl)) (zeq rfl (zaw rfl rfl (fun w hm => zbg (isDriven_ans ((((D.getD k md0).ss).getD (((((D.getD k md0).gs).getD i as0).t).toNat) sg0).k) w))) ?_)
      refine zbs (fun h14 => ?_) (fun h14 => ?_)
      ·
       have h14p := of_decide_eq_true h14
       refine zah 3 rfl (hvQ rfl (fdQ 1 rfl rfl rfl) (hvQ rfl (zad rfl rfl rfl (zaa 0 rfl rfl)) (zah 1 rfl ?_)))
       refine zeq rfl (zaw rfl rfl (fun w hm => zbg (implOpsOk_ans ((D.getD k md0).gs.getD i as0).os (((D.getD k md0).ss).length : Int) _ w (((hd.at (k := k) (by omega)).below hm.bel).o.at (by omega))))) (zbs (fun h15 => ?_) (fun h15 => ?_))
       ·
        have h15p := zez h15
        refine zbb 2 rfl (fsQ rfl (zde (zao (hvQ rfl (vaQ rfl rfl rfl) (enQ 1 rfl ?_)))))
        exact zbw (i + 1) ⟨by omega, fun q hq => by by_cases e : q = i; (subst e; exact ⟨by rw [zcv ⟨by omega, by omega⟩]; assumption, by assumption⟩); exact hgs q (by omega)⟩ (by omega) (saQ rfl) (slQ [1, 0] rfl)
       have h15p := zec h15
       refine zbb 2 rfl (zai rfl (zbf 1 rfl ?_))
       refine zap (zac ?_)
       refine zdy ?_
       refine zac (zaf ?_)
       exact zay rfl rfl (congrArg _ (zcd (fun hp => by first | (omega) | (exact absurd hp.cnt (by assumption)) | (exact absurd hp.ins (by assumption)) | (exact absurd (hp.sg i (by omega)) (by assumption)) | (have h9 := (hp.gs i (by omega)).1; have h8 : Inn _ _ := Classical.byContradiction (fun h7 => by rw [zef h7] at h9; omega); rw [zcv h8] at h9; obtain ⟨h5, h6⟩ := h8; omega) | (exact absurd (hp.gs i (by omega)).2 (by assumption)) | (exact absurd (hp.xs i (by omega)) (by assumption)) | (obtain ⟨⟨⟨h1, h2⟩, ⟨h3, h4⟩, ⟨h5, h6⟩⟩, h7⟩ := hp.ms i (by omega); first | omega | exact absurd h7 (by assumption)) | (have h9 := hp.dr i (by omega) (by omega); omega))).symm)
      have h14p := of_decide_eq_false h14
      refine zbb 9 rfl (zai rfl (zag (reQ 1 rfl (?_))))
      refine ntQ ?_
      refine zap (zac ?_)
      refine zdy ?_
      refine zac (zaf ?_)
      exact zay rfl rfl (congrArg _ (zcd (fun hp => by first | (omega) | (exact absurd hp.cnt (by assumption)) | (exact absurd hp.ins (by assumption)) | (exact absurd (hp.sg i (by omega)) (by assumption)) | (have h9 := (hp.gs i (by omega)).1; have h8 : Inn _ _ := Classical.byContradiction (fun h7 => by rw [zef h7] at h9; omega); rw [zcv h8] at h9; obtain ⟨h5, h6⟩ := h8; omega) | (exact absurd (hp.gs i (by omega)).2 (by assumption)) | (exact absurd (hp.xs i (by omega)) (by assumption)) | (obtain ⟨⟨⟨h1, h2⟩, ⟨h3, h4⟩, ⟨h5, h6⟩⟩, h7⟩ := hp.ms i (by omega); first | omega | exact absurd h7 (by assumption)) | (have h9 := hp.dr i (by omega) (by omega); omega))).symm)
     have h13a := zdb h13
     refine zbb 19 rfl (zai rfl (zbf 1 rfl ?_))
     refine zap (zac ?_)
     refine zdy ?_
     refine zac (zaf ?_)
     exact zay rfl rfl (congrArg _ (zcd (fun hp => by first | (omega) | (exact absurd hp.cnt (by assumption)) | (exact absurd hp.ins (by assumption)) | (exact absurd (hp.sg i (by omega)) (by assumption)) | (have h9 := (hp.gs i (by omega)).1; have h8 : Inn _ _ := Classical.byContradiction (fun h7 => by rw [zef h7] at h9; omega); rw [zcv h8] at h9; obtain ⟨h5, h6⟩ := h8; omega) | (exact absurd (hp.gs i (by omega)).2 (by assumption)) | (exact absurd (hp.xs i (by omega)) (by assumption)) | (obtain ⟨⟨⟨h1, h2⟩, ⟨h3, h4⟩, ⟨h5, h6⟩⟩, h7⟩ := hp.ms i (by omega); first | omega | exact absurd h7 (by assumption)) | (have h9 := hp.dr i (by omega) (by omega); omega))).symm)
    refine ntQ (fcQ rfl ?_)
    refine zbl (zdx ?_)
    refine zan (zaq (zfn (hvQ rfl (fdQ 2 rfl rfl rfl) (hvQ rfl (zad rfl rfl rfl (zaa 0 rfl rfl)) (hvQ rfl (lnQ rfl rfl rfl (zae ((hd.at (k := k) (by omega)).x))) (zbb 1 rfl (zaz ?_)))))))
    refine lkQ1 (α := Nat) [0, 1, 2, 4, 5, 6, 34, 47, 58, 87, 88] rfl (fun i => [boxE b5 #[(D.getD k md0).sv, (D.getD k md0).av, (D.getD k md0).iv, (D.getD k md0).mv] 35, boxE b1 #[v] 26]) (fun i => [(89, .int .i64 (i : Int))]) (fun i => i ≤ (D.getD k md0).xs.length ∧ ∀ q, q < i → IxP D (D.getD k md0) ((D.getD k md0).xs.getD q ix0)) (fun i => (D.getD k md0).xs.length - i) 0 ⟨Nat.zero_le _, fun q hq => absurd hq (by omega)⟩ (saQ rfl) (pfQ rfl) ?_
    intro i hi16
    obtain ⟨hi, hxs⟩ := hi16
    refine srQ ?_
    refine zbq rfl rfl rfl rfl rfl rfl (fun h17 => ?_) (fun h17 => ?_)
    ·
     refine ntQ (tcQ rfl (zcy (sbQ (srQ (hvQ rfl (riQ 3 rfl rfl rfl rfl (zae ((hd.at (k := k) (by omega)).x))) ?_)))))
     refine hvQ rfl (zbm (us := [.int .i64 ((((D.getD k md0).xs).getD i ix0).m), .int .i64 ((((D.getD k md0).xs).getD i ix0).p), (((D.getD k md0).xs).getD i ix0).pv]) rfl rfl rfl rfl (zae ((hd.at (k := k) (by omega)).x)) (by omega) rfl (zbz ixC 3 (fun _ => rfl) ((D.getD k md0).xs) ix0 (show i < _ by omega) rfl)) (zdm rfl (zbe (z := .agg #[.int .i64 0, .int .i64 0, .slice none 0 0]) rfl rfl) ?_)
     intro b18
     refine zbd (cs' := #[.int .i64 ((((D.getD k md0).xs).getD i ix0).m), .int .i64 ((((D.getD k md0).xs).getD i ix0).p), (((D.getD k md0).xs).getD i ix0).pv]) (i := 0) (off := 0) (us := [.int .i64 ((((D.getD k md0).xs).getD i ix0).m), .int .i64 ((((D.getD k md0).xs).getD i ix0).p), (((D.getD k md0).xs).getD i ix0).pv]) rfl rfl rfl rfl rfl rfl rfl (zab rfl (zab rfl (zab ((hd.at (k := k) (by omega)).p.at (k := i) (by omega)).one zbc))) rfl rfl rfl (ntQ (srQ (hvQ rfl (zax (cs := [v]) rfl rfl rfl rfl rfl (zat 2 rfl 0 rfl)) (hvQ rfl (zax (cs := [(D.getD k md0).sv, (D.getD k md0).av, (D.getD k md0).iv, (D.getD k md0).mv]) rfl rfl rfl rfl rfl (zat 1 rfl 0 rfl)) (hvQ rfl (zax (cs := [.int .i64 ((((D.getD k md0).xs).getD i ix0).m), .int .i64 ((((D.getD k md0).xs).getD i ix0).p), (((D.getD k md0).xs).getD i ix0).pv]) rfl rfl rfl rfl rfl (zat 0 rfl 0 rfl)) ?_)))))
     refine zeq rfl (zaw rfl rfl (fun w hm => zbg (instOk_ans D (D.getD k md0) ((D.getD k md0).xs.getD i ix0) v w (hd.below hm.bel) ((hd.at (k := k) (by omega)).below hm.bel) (((hd.at (k := k) (by omega)).below hm.bel).p.at (by omega)) ⟨by have := hins i (by omega); omega, by have := hins i (by omega); omega⟩ (hins i (by omega)).2))) (zbs (fun h19 => ?_) (fun h19 => ?_))
     ·
      have h19p := zez h19
      refine zbb 1 rfl (fsQ rfl (zde (zao (hvQ rfl (vaQ rfl rfl rfl) (enQ 1 rfl ?_)))))
      exact zbw (i + 1) ⟨by omega, fun q hq => by by_cases e : q = i; (subst e; assumption); exact hxs q (by omega)⟩ (by omega) (saQ rfl) (slQ [1, 0] rfl)
     have h19p := zec h19
     refine zbb 1 rfl (zai rfl (zbf 1 rfl ?_))
     refine zap (zac ?_)
     refine zdy ?_
     refine zac (zaf ?_)
     exact zay rfl rfl (congrArg _ (zcd (fun hp => by first | (omega) | (exact absurd hp.cnt (by assumption)) | (exact absurd hp.ins (by assumption)) | (exact absurd (hp.sg i (by omega)) (by assumption)) | (have h9 := (hp.gs i (by omega)).1; have h8 : Inn _ _ := Classical.byContradiction (fun h7 => by rw [zef h7] at h9; omega); rw [zcv h8] at h9; obtain ⟨h5, h6⟩ := h8; omega) | (exact absurd (hp.gs i (by omega)).2 (by assumption)) | (exact absurd (hp.xs i (by omega)) (by assumption)) | (obtain ⟨⟨⟨h1, h2⟩, ⟨h3, h4⟩, ⟨h5, h6⟩⟩, h7⟩ := hp.ms i (by omega); first | omega | exact absurd h7 (by assumption)) | (have h9 := hp.dr i (by omega) (by omega); omega))).symm)
    refine ntQ (fcQ rfl ?_)
    refine zbl (zdx ?_)
    refine zan (zaq (zfn (hvQ rfl (fdQ 3 rfl rfl rfl) (hvQ rfl (zad rfl rfl rfl (zaa 0 rfl rfl)) (hvQ rfl (lnQ rfl rfl rfl (zae ((hd.at (k := k) (by omega)).m))) (zbb 1 rfl (zaz ?_)))))))
    refine lkQ1 (α := Nat) [0, 1, 2, 4, 5, 6, 34, 47, 58, 90, 100, 101] rfl (fun i => [boxE b5 #[(D.getD k md0).sv, (D.getD k md0).av, (D.getD k md0).iv, (D.getD k md0).mv] 35, boxE b1 #[v] 26]) (fun i => [(102, .int .i64 (i : Int))]) (fun i => i ≤ (D.getD k md0).ms.length ∧ ∀ q, q < i → MmP (D.getD k md0) ((D.getD k md0).ms.getD q mm0)) (fun i => (D.getD k md0).ms.length - i) 0 ⟨Nat.zero_le _, fun q hq => absurd hq (by omega)⟩ (saQ rfl) (pfQ rfl) ?_
    intro i hi20
    obtain ⟨hi, hms⟩ := hi20
    refine srQ ?_
    refine zbq rfl rfl rfl rfl rfl rfl (fun h21 => ?_) (fun h21 => ?_)
    ·
     refine ntQ (tcQ rfl (zcy (sbQ (srQ (hvQ rfl (riQ 4 rfl rfl rfl rfl (zae ((hd.at (k := k) (by omega)).m))) ?_)))))
     refine hvQ rfl (zbm (us := [.int .i64 ((((D.getD k md0).ms).getD i mm0).a), .int .i64 ((((D.getD k md0).ms).getD i mm0).d), .int .i64 ((((D.getD k md0).ms).getD i mm0).w), .int .i64 ((((D.getD k md0).ms).getD i mm0).o)]) rfl rfl rfl rfl (zae ((hd.at (k := k) (by omega)).m)) (by omega) rfl (zbz mmC 4 (fun _ => rfl) ((D.getD k md0).ms) mm0 (show i < _ by omega) rfl)) (zdm rfl (zbe (z := .agg #[.int .i64 0, .int .i64 0, .int .i64 0, .int .i64 0]) rfl rfl) ?_)
     intro b22
     refine zbd (cs' := #[.int .i64 ((((D.getD k md0).ms).getD i mm0).a), .int .i64 ((((D.getD k md0).ms).getD i mm0).d), .int .i64 ((((D.getD k md0).ms).getD i mm0).w), .int .i64 ((((D.getD k md0).ms).getD i mm0).o)]) (i := 0) (off := 0) (us := [.int .i64 ((((D.getD k md0).ms).getD i mm0).a), .int .i64 ((((D.getD k md0).ms).getD i mm0).d), .int .i64 ((((D.getD k md0).ms).getD i mm0).w), .int .i64 ((((D.getD k md0).ms).getD i mm0).o)]) rfl rfl rfl rfl rfl rfl rfl (zab rfl (zab rfl (zab rfl (zab rfl zbc)))) rfl rfl rfl (ntQ (srQ (hvQ rfl (fdQ 0 rfl rfl rfl) (hvQ rfl (zad rfl rfl rfl (zaa 0 rfl rfl)) (zah 1 rfl (hvQ rfl (vsQ rfl rfl rfl) ?_))))))
     refine zeq rfl (zaw rfl rfl (fun w hm => zbg (zej (zcm _ _ _ w)))) (zbs (fun h23 => ?_) (fun h23 => ?_))
     ·
      obtain ⟨h23a, h23b⟩ := (zdh _ _ _).1 h23
      refine zah 2 rfl (hvQ rfl (fdQ 1 rfl rfl rfl) (hvQ rfl (zad rfl rfl rfl (zaa 0 rfl rfl)) (zah 1 rfl (hvQ rfl (vsQ rfl rfl rfl) ?_))))
      refine zeq rfl (zaw rfl rfl (fun w hm => zbg (zej (zcm _ _ _ w)))) (zbs (fun h24 => ?_) (fun h24 => ?_))
      ·
       obtain ⟨h24a, h24b⟩ := (zdh _ _ _).1 h24
       refine zah 3 rfl (hvQ rfl (fdQ 2 rfl rfl rfl) (hvQ rfl (zad rfl rfl rfl (zaa 0 rfl rfl)) (zah 1 rfl (hvQ rfl (vsQ rfl rfl rfl) ?_))))
       refine zeq rfl (zaw rfl rfl (fun w hm => zbg (zej (zcm _ _ _ w)))) (zbs (fun h25 => ?_) (fun h25 => ?_))
       ·
        obtain ⟨h25a, h25b⟩ := (zdh _ _ _).1 h25
        refine zah 3 rfl (hvQ rfl (zax (cs := [(D.getD k md0).sv, (D.getD k md0).av, (D.getD k md0).iv, (D.getD k md0).mv]) rfl rfl rfl rfl rfl (zat 1 rfl 0 rfl)) (hvQ rfl (fdQ 3 rfl rfl rfl) (hvQ rfl (zad rfl rfl rfl (zaa 0 rfl rfl)) ?_)))
        refine zeq rfl (zaw rfl rfl (fun w hm => zbg (drives_ans (D.getD k md0) ((((D.getD k md0).ms).getD i mm0).o) w ((hd.at (k := k) (by omega)).below hm.bel)))) (zbs (fun h26 => ?_) (fun h26 => ?_))
        ·
         have h26p := zez h26
         refine zbb 2 rfl (fsQ rfl (zde (zao (hvQ rfl (vaQ rfl rfl rfl) (enQ 1 rfl ?_)))))
         exact zbw (i + 1) ⟨by omega, fun q hq => by by_cases e : q = i; (subst e; exact ⟨⟨⟨by omega, by omega⟩, ⟨by omega, by omega⟩, ⟨by omega, by omega⟩⟩, by assumption⟩); exact hms q (by omega)⟩ (by omega) (saQ rfl) (slQ [1, 0] rfl)
        have h26p := zec h26
        refine zbb 2 rfl (zai rfl (zbf 1 rfl ?_))
        refine zap (zac ?_)
        refine zdy ?_
        refine zac (zaf ?_)
        exact zay rfl rfl (congrArg _ (zcd (fun hp => by first | (omega) | (exact absurd hp.cnt (by assumption)) | (exact absurd hp.ins (by assumption)) | (exact absurd (hp.sg i (by omega)) (by assumption)) | (have h9 := (hp.gs i (by omega)).1; have h8 : Inn _ _ := Classical.byContradiction (fun h7 => by rw [zef h7] at h9; omega); rw [zcv h8] at h9; obtain ⟨h5, h6⟩ := h8; omega) | (exact absurd (hp.gs i (by omega)).2 (by assumption)) | (exact absurd (hp.xs i (by omega)) (by assumption)) | (obtain ⟨⟨⟨h1, h2⟩, ⟨h3, h4⟩, ⟨h5, h6⟩⟩, h7⟩ := hp.ms i (by omega); first | omega | exact absurd h7 (by assumption)) | (have h9 := hp.dr i (by omega) (by omega); omega))).symm)
       have h25a := zdb h25
       refine zbb 9 rfl (zai rfl (zag (reQ 1 rfl (?_))))
       refine ntQ ?_
       refine zap (zac ?_)
       refine zdy ?_
       refine zac (zaf ?_)
       exact zay rfl rfl (congrArg _ (zcd (fun hp => by first | (omega) | (exact absurd hp.cnt (by assumption)) | (exact absurd hp.ins (by assumption)) | (exact absurd (hp.sg i (by omega)) (by assumption)) | (have h9 := (hp.gs i (by omega)).1; have h8 : Inn _ _ := Classical.byContradiction (fun h7 => by rw [zef h7] at h9; omega); rw [zcv h8] at h9; obtain ⟨h5, h6⟩ := h8; omega) | (exact absurd (hp.gs i (by omega)).2 (by assumption)) | (exact absurd (hp.xs i (by omega)) (by assumption)) | (obtain ⟨⟨⟨h1, h2⟩, ⟨h3, h4⟩, ⟨h5, h6⟩⟩, h7⟩ := hp.ms i (by omega); first | omega | exact absurd h7 (by assumption)) | (have h9 := hp.dr i (by omega) (by omega); omega))).symm)
      have h24a := zdb h24
      refine enQ 17 rfl ?_
      refine zaq (zai rfl (zbf 1 rfl ?_))
      refine zap (zac ?_)
      refine zdy ?_
      refine zac (zaf ?_)
      exact zay rfl rfl (congrArg _ (zcd (fun hp => by first | (omega) | (exact absurd hp.cnt (by assumption)) | (exact absurd hp.ins (by assumption)) | (exact absurd (hp.sg i (by omega)) (by assumption)) | (have h9 := (hp.gs i (by omega)).1; have h8 : Inn _ _ := Classical.byContradiction (fun h7 => by rw [zef h7] at h9; omega); rw [zcv h8] at h9; obtain ⟨h5, h6⟩ := h8; omega) | (exact absurd (hp.gs i (by omega)).2 (by assumption)) | (exact absurd (hp.xs i (by omega)) (by assumption)) | (obtain ⟨⟨⟨h1, h2⟩, ⟨h3, h4⟩, ⟨h5, h6⟩⟩, h7⟩ := hp.ms i (by omega); first | omega | exact absurd h7 (by assumption)) | (have h9 := hp.dr i (by omega) (by omega); omega))).symm)
     have h23a := zdb h23
     refine zbb 24 rfl (zai rfl (zbf 1 rfl ?_))
     refine zap (zac ?_)
     refine zdy ?_
     refine zac (zaf ?_)
     exact zay rfl rfl (congrArg _ (zcd (fun hp => by first | (omega) | (exact absurd hp.cnt (by assumption)) | (exact absurd hp.ins (by assumption)) | (exact absurd (hp.sg i (by omega)) (by assumption)) | (have h9 := (hp.gs i (by omega)).1; have h8 : Inn _ _ := Classical.byContradiction (fun h7 => by rw [zef h7] at h9; omega); rw [zcv h8] at h9; obtain ⟨h5, h6⟩ := h8; omega) | (exact absurd (hp.gs i (by omega)).2 (by assumption)) | (exact absurd (hp.xs i (by omega)) (by assumption)) | (obtain ⟨⟨⟨h1, h2⟩, ⟨h3, h4⟩, ⟨h5, h6⟩⟩, h7⟩ := hp.ms i (by omega); first | omega | exact absurd h7 (by assumption)) | (have h9 := hp.dr i (by omega) (by omega); omega))).symm)
    refine ntQ (fcQ rfl ?_)
    refine zbl (zdx ?_)
    refine zan (zaq (zfn (hvQ rfl (zax (cs := [v]) rfl rfl rfl rfl rfl (zat 1 rfl 0 rfl)) (zah 1 rfl ?_))))
    refine hl_q rfl rfl rfl (zaw rfl rfl (fun w hm => driverCounts_ret D k v w (hd.below hm.bel) hcts)) ?_
    intro v27 p28 hR29
    subst hR29
    refine hvQ rfl (lnQ rfl rfl rfl (zaj 0 rfl)) (zbb 1 rfl (zaz ?_))
    refine lkQ1 (α := Nat) [0, 1, 2, 4, 5, 6, 34, 47, 58, 90, 103, 138, 139] rfl (fun i => [rowE 3 1 v27 ((cntZ (D.getD k md0).ss.length (drvL D (D.getD k md0))).length) ((cntZ (D.getD k md0).ss.length (drvL D (D.getD k md0))).map (Value.int .i64)), boxE b5 #[(D.getD k md0).sv, (D.getD k md0).av, (D.getD k md0).iv, (D.getD k md0).mv] 35, boxE b1 #[v] 26]) (fun i => [(140, .int .i64 (i : Int))]) (fun i => i ≤ (D.getD k md0).ss.length ∧ ∀ q, q < i → ((D.getD k md0).ss.getD q sg0).k ≠ 0 → (drvL D (D.getD k md0)).count (q : Int) = 1) (fun i => (D.getD k md0).ss.length - i) 0 ⟨Nat.zero_le _, fun q hq => absurd hq (by omega)⟩ (saQ rfl) (pfQ rfl) ?_
    intro i hi30
    obtain ⟨hi, hdr⟩ := hi30
    have hlz := zem (D.getD k md0).ss.length (drvL D (D.getD k md0))
    refine srQ ?_
    refine zbq rfl rfl rfl rfl rfl rfl (fun h31 => ?_) (fun h31 => ?_)
    ·
     refine ntQ (tcQ rfl (zcy (sbQ (zag (reQ 1 rfl (hvQ rfl (riQ 1 rfl rfl rfl rfl (zaj 0 rfl)) (hvQ rfl (zam (u := .int .i64 ((cntZ (D.getD k md0).ss.length (drvL D (D.getD k md0))).getD i 0)) rfl rfl rfl (zaj 0 rfl) (zby (show _ < (cntZ (D.getD k md0).ss.length (drvL D (D.getD k md0))).length by omega))) ?_)))))))
     refine zbb 2 rfl (srQ ?_)
     have hs8 := (hsgA i (by omega)).1
     have hcz := cntZ_at (L := drvL D (D.getD k md0)) (show i < (D.getD k md0).ss.length by omega)
     refine hvQ rfl (fdQ 0 rfl rfl rfl) (hvQ rfl (zad rfl rfl rfl (zaa 1 rfl rfl)) (zah 1 rfl (hvQ rfl (riQ 3 rfl rfl rfl rfl (zae ((hd.at (k := k) (by omega)).s))) (hvQ rfl (zau (k0 := 0) rfl rfl rfl (zae ((hd.at (k := k) (by omega)).s)) (by omega)) ?_))))
     refine hvQ rfl (zam (u := .int .i64 ((((D.getD k md0).ss).getD i sg0).k)) rfl rfl rfl (zae ((hd.at (k := k) (by omega)).s)) ((zbi sgC 3 (fun _ => rfl) ((D.getD k md0).ss) sg0 (show i < _ by omega) (by decide)).trans rfl)) (zeq rfl (zaw rfl rfl (fun w hm => zbg (isDriven_ans ((((D.getD k md0).ss).getD i sg0).k) w))) ?_)
     refine zbs (fun h32 => ?_) (fun h32 => ?_)
     ·
      have h32p := of_decide_eq_true h32
      refine zah 2 rfl (zfx rfl rfl rfl rfl rfl rfl (fun h33 => ?_) (fun h33 => ?_))
      ·
       refine zbb 1 rfl (zai rfl (zbf 1 rfl ?_))
       refine zap (zac ?_)
       refine zdy ?_
       refine zac (zaf ?_)
       exact zay rfl rfl (congrArg _ (zcd (fun hp => by first | (omega) | (exact absurd hp.cnt (by assumption)) | (exact absurd hp.ins (by assumption)) | (exact absurd (hp.sg i (by omega)) (by assumption)) | (have h9 := (hp.gs i (by omega)).1; have h8 : Inn _ _ := Classical.byContradiction (fun h7 => by rw [zef h7] at h9; omega); rw [zcv h8] at h9; obtain ⟨h5, h6⟩ := h8; omega) | (exact absurd (hp.gs i (by omega)).2 (by assumption)) | (exact absurd (hp.xs i (by omega)) (by assumption)) | (obtain ⟨⟨⟨h1, h2⟩, ⟨h3, h4⟩, ⟨h5, h6⟩⟩, h7⟩ := hp.ms i (by omega); first | omega | exact absurd h7 (by assumption)) | (have h9 := hp.dr i (by omega) (by omega); omega))).symm)
      refine zbb 1 rfl (fsQ rfl (zde (zao (hvQ rfl (vaQ rfl rfl rfl) (enQ 1 rfl ?_)))))
      exact zbw (i + 1) ⟨by omega, fun q hq => by by_cases e : q = i; (subst e; intro h9; omega); exact hdr q (by omega)⟩ (by omega) (saQ rfl) (pfQ rfl)
     have h32p := of_decide_eq_false h32
     refine zbb 4 rfl (fsQ rfl (zde (zao (hvQ rfl (vaQ rfl rfl rfl) (zah 1 rfl (?_))))))
     exact zbn (zbw (i + 1) ⟨by omega, fun q hq => by by_cases e : q = i; (subst e; intro h9; omega); exact hdr q (by omega)⟩ (by omega) (saQ rfl) (pfQ rfl))
    refine ntQ (fcQ rfl ?_)
    refine zbl (zdx ?_)
    refine zan (zaq (zbf 1 rfl ?_))
    exact zap (zay rfl rfl (congrArg _ (zdl ⟨hkl, hcnt, hins, hsgA, fun q hq => hgs q (by omega), fun q hq => hxs q (by omega), fun q hq => hms q (by omega), fun q hq => hdr q (by omega)⟩).symm))
   have h4p := zec h4
   refine zbb 2 rfl (zai rfl (zbf 1 rfl ?_))
   refine zap (zaf ?_)
   exact zay rfl rfl (congrArg _ (zcd (fun hp => by first | (omega) | (exact absurd hp.cnt (by assumption)) | (exact absurd hp.ins (by assumption)) | (exact absurd (hp.sg i (by omega)) (by assumption)) | (have h9 := (hp.gs i (by omega)).1; have h8 : Inn _ _ := Classical.byContradiction (fun h7 => by rw [zef h7] at h9; omega); rw [zcv h8] at h9; obtain ⟨h5, h6⟩ := h8; omega) | (exact absurd (hp.gs i (by omega)).2 (by assumption)) | (exact absurd (hp.xs i (by omega)) (by assumption)) | (obtain ⟨⟨⟨h1, h2⟩, ⟨h3, h4⟩, ⟨h5, h6⟩⟩, h7⟩ := hp.ms i (by omega); first | omega | exact absurd h7 (by assumption)) | (have h9 := hp.dr i (by omega) (by omega); omega))).symm)
  have h3p := zec h3
  refine zbb 8 rfl (zai rfl (srQ (enQ 1 rfl ?_)))
  refine zaq (zap ?_)
  exact zaf (zay rfl rfl (congrArg _ (zcd (fun hp => by first | (omega) | (exact absurd hp.cnt (by assumption)) | (exact absurd hp.ins (by assumption)) | (exact absurd (hp.sg i (by omega)) (by assumption)) | (have h9 := (hp.gs i (by omega)).1; have h8 : Inn _ _ := Classical.byContradiction (fun h7 => by rw [zef h7] at h9; omega); rw [zcv h8] at h9; obtain ⟨h5, h6⟩ := h8; omega) | (exact absurd (hp.gs i (by omega)).2 (by assumption)) | (exact absurd (hp.xs i (by omega)) (by assumption)) | (obtain ⟨⟨⟨h1, h2⟩, ⟨h3, h4⟩, ⟨h5, h6⟩⟩, h7⟩ := hp.ms i (by omega); first | omega | exact absurd h7 (by assumption)) | (have h9 := hp.dr i (by omega) (by omega); omega))).symm))
 have h2a := zdb h2
 refine zbb 12 rfl (zai rfl (srQ ?_))
 refine zbb 1 rfl ?_
 refine zap (zaf ?_)
 exact zay rfl rfl (congrArg _ (zcd (fun hp => by first | (omega) | (exact absurd hp.cnt (by assumption)) | (exact absurd hp.ins (by assumption)) | (exact absurd (hp.sg i (by omega)) (by assumption)) | (have h9 := (hp.gs i (by omega)).1; have h8 : Inn _ _ := Classical.byContradiction (fun h7 => by rw [zef h7] at h9; omega); rw [zcv h8] at h9; obtain ⟨h5, h6⟩ := h8; omega) | (exact absurd (hp.gs i (by omega)).2 (by assumption)) | (exact absurd (hp.xs i (by omega)) (by assumption)) | (obtain ⟨⟨⟨h1, h2⟩, ⟨h3, h4⟩, ⟨h5, h6⟩⟩, h7⟩ := hp.ms i (by omega); first | omega | exact absurd h7 (by assumption)) | (have h9 := hp.dr i (by omega) (by omega); omega))).symm)
theorem implDesignOk_ans (D : List Md) (v : Value) (w : World) (hd : RdsDs w v D) :
   Calls Try.prog 15 #[.agg #[v]] w (Ans w (.bool (pB (DesP D)))) := by
 have hd9 := sml hd.row
 refine zca (N := 19) (args := [.agg #[v]]) Try.func15 rfl rfl (srQ ?_)
 refine zdm rfl (zdk rfl rfl) ?_
 intro b1
 refine zbb 1 rfl (zfn (hvQ rfl (fdQ 0 rfl rfl rfl) (hvQ rfl (zad rfl rfl rfl (zaa 0 rfl rfl)) (hvQ rfl (lnQ rfl rfl rfl (zae hd.row)) (zbb 1 rfl ?_)))))
 refine zaz ?_
 refine lkQ1 (α := Nat) [0, 1, 2, 6] rfl (fun k => [boxE b1 #[v] 26]) (fun k => [(7, .int .i64 (k : Int))]) (fun k => k ≤ D.length ∧ ∀ q, q < k → ModP D q) (fun k => D.length - k) 0 ⟨Nat.zero_le _, fun q hq => absurd hq (by omega)⟩ (saQ rfl) (pfQ rfl) ?_
 intro k hi2
 obtain ⟨hk, hall⟩ := hi2
 refine srQ ?_
 refine zbq rfl rfl rfl rfl rfl rfl (fun h3 => ?_) (fun h3 => ?_)
 ·
  refine ntQ (tcQ rfl (zcy (sbQ (srQ (enQ 2 rfl ?_)))))
  refine zaq (srQ (hvQ rfl (zax (cs := [v]) rfl rfl rfl rfl rfl (zat 0 rfl 0 rfl)) (zah 1 rfl ?_)))
  refine zeq rfl (zaw rfl rfl (fun w hm => zbg (implModuleOk_ans D k v w (hd.below hm.bel) (by omega)))) (zbs (fun h4 => ?_) (fun h4 => ?_))
  ·
   have h4p := zez h4
   refine zbb 1 rfl (fsQ rfl (zde (zao (hvQ rfl (vaQ rfl rfl rfl) (enQ 1 rfl ?_)))))
   exact zbw (k + 1) ⟨by omega, fun q hq => by by_cases e : q = k; (subst e; assumption); exact hall q (by omega)⟩ (by omega) (saQ rfl) (pfQ rfl)
  have h4p := zec h4
  refine zbb 1 rfl (zai rfl (zbf 1 rfl ?_))
  refine zap (zac ?_)
  refine zdy ?_
  refine zac (zaf ?_)
  exact zay rfl rfl (congrArg _ (zcd (fun hp => by first | (have := hp.1; omega) | (exact absurd (hp.2 k (by omega)) (by assumption)))).symm)
 refine ntQ (fcQ rfl ?_)
 refine zbl (zdx ?_)
 refine zan (zaq (srQ (hvQ rfl (fdQ 0 rfl rfl rfl) (hvQ rfl (zad rfl rfl rfl (zaa 0 rfl rfl)) (hvQ rfl (lnQ rfl rfl rfl (zae hd.row)) ?_)))))
 refine zeq rfl (zaw rfl rfl (fun w hm => zbg (zej (zcm _ _ _ w)))) (zbs (fun h5 => ?_) (fun h5 => ?_))
 ·
  obtain ⟨h5a, h5b⟩ := (zdh _ _ _).1 h5
  refine zbb 1 rfl ?_
  exact zap (zay rfl rfl (congrArg _ (zdl ⟨⟨by omega, by omega⟩, fun q hq => hall q (by omega)⟩).symm))
 have h5a := zdb h5
 refine zbb 1 rfl ?_
 exact zap (zay rfl rfl (congrArg _ (zcd (fun hp => by first | (have := hp.1; omega) | (exact absurd (hp.2 k (by omega)) (by assumption)))).symm))
theorem arI_cases (k : Int) : (k = 4 → arI k = 1) ∧ (5 ≤ k ∧ k ≤ 11 → arI k = 2) ∧ (k = 12 → arI k = 3) := by unfold arI; refine ⟨?_, ?_, ?_⟩ <;> intro h <;> (repeat' split) <;> omega
theorem evE_rng (os : List Oq) (vs : List Int) {x : Int} (hx : 0 ≤ x ∧ x ≤ 4) : ∀ (f p : Nat), 0 ≤ (evE os vs x f p).1 ∧ (evE os vs x f p).1 ≤ 15
  | 0, p => ⟨Int.le_refl _, by show (0 : Int) ≤ 15; decide⟩
  | f + 1, p => by
    have h1 := wm_rng hx
    have h2 := and_range (opV (os.getD p oq0) vs (argE (evE os vs x f) (p + 1) (arI (os.getD p oq0).k).toNat).1) (wmK x) (by unfold wmK; omega) (by unfold wmK; omega)
    have h3 : wmK x ≤ 15 := by unfold wmK; omega
    exact ⟨h2.1, Int.le_trans h2.2 h3⟩
theorem argE_rng {g : Nat → Int × Nat} (hg : ∀ q, 0 ≤ (g q).1 ∧ (g q).1 ≤ 15) (p : Nat) : ∀ i, ∀ y ∈ (argE g p i).1, 0 ≤ y ∧ y ≤ 15
  | 0, y, hy => by cases hy
  | i + 1, y, hy => by
    rcases List.mem_append.1 (show y ∈ (argE g p i).1 ++ [_] from hy) with h | h
    · exact argE_rng hg p i y h
    · rw [List.mem_singleton] at h; subst h; exact hg _
theorem getD_rng {L : List Int} (h : ∀ y ∈ L, 0 ≤ y ∧ y ≤ 15) (q : Nat) : 0 ≤ L.getD q 0 ∧ L.getD q 0 ≤ 15 := by
  by_cases hq : q < L.length
  · exact h _ (zcg hq)
  · rw [List.getD_eq_getElem?_getD, List.getElem?_eq_none (by omega)]; decide
theorem exprAt_step (os : List Oq) (vs : List Int) (x : Int) (f p : Nat) (v u : Value) (w : World) (hv : RdsW w v 3 os.length (os.flatMap oqC)) (hu : RdsW w u 1 vs.length (vs.map (Value.int .i64))) (hok : OpsP vs.length os) (hp : p < os.length) (hpf : os.length - p ≤ f + 1) (hx : 0 ≤ x ∧ x ≤ 4) (IH : ∀ (q : Nat), p < q → q < os.length → ∀ (w2 : World), RdsW w2 v 3 os.length (os.flatMap oqC) → RdsW w2 u 1 vs.length (vs.map (Value.int .i64)) → Calls Try.prog 104 #[v, .int .i64 (q : Int), u, .int .i64 x] w2 (Ret w2 (fun u_ p_ => u_ = .tuple #[.int .i64 (evE os vs x f q).1, .int .i64 ((evE os vs x f q).2 : Int)] ∧ p_ = []))) :
   Calls Try.prog 104 #[v, .int .i64 (p : Int), u, .int .i64 x] w (Ret w (fun u_ p_ => u_ = .tuple #[.int .i64 (evE os vs x (f + 1) p).1, .int .i64 ((evE os vs x (f + 1) p).2 : Int)] ∧ p_ = [])) := by
 have hv9 := sml hv
 have hl15 := hok.len
 have hgo : ∀ q, p < q → q < os.length → q < ((evE os vs x f) q).2 ∧ ((evE os vs x f) q).2 ≤ os.length ∧ needK os ((evE os vs x f) q).2 = needK os q - 1 := fun q h1 h2 => evE_ok hok vs x f q (by omega) h2
 have har0 := arI_val hok hp
 have hop := (hok.op p hp).2
 unfold OqP at hop
 have harc := arI_cases (os.getD p oq0).k
 refine zca (N := 155) (args := [v, .int .i64 (p : Int), u, .int .i64 x]) Try.func104 rfl rfl ?_
 refine hc_keep _ [3, 2, 1, 0] rfl (zag (zao (zah 2 rfl (zbk [9, 8, 3, 2, 1, 0] rfl (zbn (zaq (zag (zao (zah 2 rfl (zfa rfl rfl rfl (zdd (s := 3) rfl Try.underlying71 (by kernel_rfl) rfl rfl (zae hv) (by omega) (by omega)) ?_))))))))))
 refine zfa rfl rfl rfl (zbm (us := [.int .i64 ((os.getD p oq0).k), .int .i64 ((os.getD p oq0).a), .int .i64 ((os.getD p oq0).b)]) rfl (by kernel_rfl) (by kernel_rfl) rfl (zae hv) (by omega) rfl (zbz oqC 3 (fun _ => rfl) os oq0 (show p < _ by omega) rfl)) ?_
 refine hl_box rfl rfl rfl (zbe (z := .agg #[.int .i64 0, .int .i64 0, .int .i64 0]) rfl (by kernel_rfl)) ?_
 intro b1
 refine zbd (cs' := #[.int .i64 ((os.getD p oq0).k), .int .i64 ((os.getD p oq0).a), .int .i64 ((os.getD p oq0).b)]) (i := 0) (off := 0) (us := [.int .i64 ((os.getD p oq0).k), .int .i64 ((os.getD p oq0).a), .int .i64 ((os.getD p oq0).b)]) rfl rfl rfl (by kernel_rfl) rfl rfl rfl (zab rfl (zab rfl (zab rfl zbc))) rfl rfl rfl ?_
 refine zbk [10, 9, 8, 3, 2, 1, 0] rfl (zbn (zaq (zag (zao (zah 1 rfl ?_)))))
 refine hl_callV rfl rfl rfl (zaw (by kernel_rfl) rfl (fun w hm => zbg (zfz x w hx))) ?_
 refine zah 1 rfl (zbk [11, 10, 9, 8, 3, 2, 1, 0] rfl (zbn (zaq (zag (zao (zah 1 rfl (zfa rfl rfl rfl (rv_add rfl rfl rfl (by constructor <;> omega)) (zah 1 rfl (zbk [11, 10, 9, 8, 3, 2, 1, 0] rfl (zbn (zaq (zag (zao ?_)))))))))))))
 refine zdp 3 1 ?_
 refine zfa rfl rfl rfl (zav rfl) (zbk [12, 11, 10, 9, 8, 3, 2, 1, 0] rfl (zbn (zaq (zag (zag (zao (zah 1 rfl (zbk [13, 12, 11, 10, 9, 8, 3, 2, 1, 0] rfl (zbn (zaq (zaz ?_)))))))))))
 refine hc_loop3 (α := Nat) (β := Value) (γ := List Int) (fun i gt zs => [rowE 3 1 gt zs.length (zs.map (Value.int .i64)), boxE b1 #[.int .i64 ((os.getD p oq0).k), .int .i64 ((os.getD p oq0).a), .int .i64 ((os.getD p oq0).b)] 97]) (fun i gt zs => [(0, v), (1, .int .i64 ((argE (evE os vs x f) (p + 1) i).2 : Int)), (2, u), (3, .int .i64 x), (8, .int .i64 0), (9, .int .i64 0), (10, .pointer (some ⟨b1, 0, none⟩)), (11, .int .i64 (wmK x)), (12, gt), (13, .int .i64 (i : Int))]) (fun i gt zs => (i : Int) ≤ arI (os.getD p oq0).k ∧ zs = (argE (evE os vs x f) (p + 1) i).1) (fun i gt zs => (arI (os.getD p oq0).k).toNat - i) 0 _ [] ⟨by omega, rfl⟩ (zas [13, 12, 11, 10, 9, 8, 3, 2, 1, 0] rfl) ((.cons_cons _ (.cons_cons _ .slnil))) ?_
 intro i gt zs hi3
 obtain ⟨hi, hz⟩ := hi3
 have hzl : zs.length = i := by rw [hz]; exact argE_len _ _ _
 have hpo := argE_ok hok hp hgo i hi
 have hzr := getD_rng (L := zs) (by rw [hz]; exact argE_rng (evE_rng os vs hx f) _ _)
 have hzr0 := hzr 0
 have hzr1 := hzr 1
 have hpl := fun h9 => argE_lt hok hp hgo i h9
 refine zag (zag (zao (zah 1 rfl (zfa rfl rfl rfl (zgc (k0 := 0) rfl (by kernel_rfl) rfl) (zfa rfl rfl rfl (zad rfl (by kernel_rfl) rfl (zaa 1 rfl rfl)) ?_)))))
 refine hl_callV rfl rfl rfl (zaw (by kernel_rfl) rfl (fun w hm => zbg (zgf ((os.getD p oq0).k) w))) ?_
 refine zbq rfl rfl rfl rfl rfl rfl (fun h4 => ?_) (fun h4 => ?_)
 ·
  refine zbk [29, 13, 12, 11, 10, 9, 8, 3, 2, 1, 0] rfl (zbn (zaq (zai rfl (zft (zaq (zag (zaz (zag (zao ?_)))))))))
  have hpl9 := hpl (by omega)
  refine zfa rfl rfl rfl (zav rfl) (zah 3 rfl ?_)
  refine hl_q rfl rfl rfl (zaw (by kernel_rfl) rfl (fun w hm => IH (argE (evE os vs x f) (p + 1) i).2 (by omega) (by omega) w (hv.below hm.bel) (hu.below hm.bel))) ?_
  intro v5 p6 hR7
  obtain ⟨rfl, rfl⟩ := hR7
  refine zah 5 rfl (zbk [29, 15, 14, 13, 12, 11, 10, 9, 8, 3, 2, 1, 0] rfl (zbn (zaq (zag (zao (zah 2 rfl ?_))))))
  refine hl_row rfl rfl rfl (zal (z := .int .i64 0) (s := 1) (cs := ([((evE os vs x f) (argE (evE os vs x f) (p + 1) i).2).1].map (Value.int .i64))) rfl Try.underlying48 (by kernel_rfl) (by decide) rfl (by kernel_rfl) rfl) ?_
  intro g8
  refine zcp (i := 1) (z := .int .i64 0) (bytes := 8) rfl rfl rfl rfl Try.underlying48 (by kernel_rfl) (by kernel_rfl) rfl rfl rfl (zaj 0 rfl) (zch _) (by first | omega | (simp; done) | (simp; omega)) (zci zs ([((evE os vs x f) (argE (evE os vs x f) (p + 1) i).2).1])) (zcs zs ([((evE os vs x f) (argE (evE os vs x f) (p + 1) i).2).1])) (fun _ => rfl) ?_
  intro v9
  refine zah 1 rfl (zbk [29, 15, 14, 13, 12, 11, 10, 9, 8, 3, 2, 1, 0] rfl (zbn (zaq (zao (zah 2 rfl (zbk [29, 15, 14, 13, 12, 11, 10, 9, 8, 3, 2, 1, 0] rfl (zbn (zbp (zaq (zao (zah 1 rfl (zfa rfl rfl rfl (rv_add rfl rfl rfl (by constructor <;> omega)) (zah 1 rfl ?_)))))))))))))
  refine zbk [29, 15, 14, 13, 12, 11, 10, 9, 8, 3, 2, 1, 0] rfl (zbn ?_)
  exact zcn (i + 1) v9 (zs ++ ([((evE os vs x f) (argE (evE os vs x f) (p + 1) i).2).1])) ⟨by omega, by rw [hz]; rfl⟩ (by omega) (zas [13, 12, 11, 10, 9, 8, 3, 2, 1, 0] rfl) ((.cons _ (.cons_cons _ (.cons_cons _ .slnil))))
 refine zbk [29, 13, 12, 11, 10, 9, 8, 3, 2, 1, 0] rfl (zbn (zaq (zar rfl ?_)))
 refine zbl ?_
 refine zfg (zfg ?_)
 refine zan ?_
 refine zaq (zag (zao (zah 1 rfl (zbk [29, 16, 13, 12, 11, 10, 9, 8, 3, 2, 1, 0] rfl (zbn (zaq (zag (zag (zao (zfa rfl rfl rfl (zgc (k0 := 0) rfl (by kernel_rfl) rfl) (zfa rfl rfl rfl (zad rfl (by kernel_rfl) rfl (zaa 1 rfl rfl)) (zbk [46, 29, 16, 13, 12, 11, 10, 9, 8, 3, 2, 1, 0] rfl (zbn ?_)))))))))))))
 refine zaq (zaz (zag (zao ?_)))
 refine zbt rfl rfl rfl rfl rfl rfl (fun h10 => ?_) (fun h10 => ?_)
 ·
  refine zah 1 rfl (zbk [47, 46, 29, 16, 13, 12, 11, 10, 9, 8, 3, 2, 1, 0] rfl (zbn (zaq (zai rfl (zao (zfa rfl rfl rfl (zgc (k0 := 1) rfl (by kernel_rfl) rfl) (zfa rfl rfl rfl (zad rfl (by kernel_rfl) rfl (zaa 1 rfl rfl)) (zah 1 rfl (zbk [47, 46, 29, 16, 13, 12, 11, 10, 9, 8, 3, 2, 1, 0] rfl (zbn (zbp (zaq (zag ?_)))))))))))))
  refine zao (zah 2 rfl (zfa rfl rfl rfl (zdv rfl (by decide) rfl rfl (r := bits .and .i64 ((os.getD p oq0).a) (wmK x)) rfl) (zah 3 rfl (zbk [47, 46, 29, 16, 13, 12, 11, 10, 9, 8, 3, 2, 1, 0] rfl (zbn (zaq ?_))))))
  refine zap ?_
  have hii : i = (arI (os.getD p oq0).k).toNat := by omega
  have hov : opV (os.getD p oq0) vs zs = (os.getD p oq0).a := by unfold opV; (repeat' split) <;> first | rfl | (exfalso; omega) | omega
  exact zcx (rs := [.tmp 8, .tmp 9]) (vs := [.int .i64 (bits .and .i64 ((os.getD p oq0).a) (wmK x)), .int .i64 ((argE (evE os vs x f) (p + 1) i).2 : Int)]) (post := []) rfl ⟨rfl, rfl, trivial⟩ rfl ((.cons _ (.cons _ .slnil))) ⟨by rw [show evE os vs x (f + 1) p = (bits .and .i64 (opV (os.getD p oq0) vs (argE (evE os vs x f) (p + 1) (arI (os.getD p oq0).k).toNat).1) (wmK x), (argE (evE os vs x f) (p + 1) (arI (os.getD p oq0).k).toNat).2) from rfl, ← hii, ← hz, hov]; rfl, rfl⟩
 refine zah 1 rfl (zbk [47, 46, 29, 16, 13, 12, 11, 10, 9, 8, 3, 2, 1, 0] rfl (zbn (zaq (zar rfl (zag (zao ?_))))))
 refine zbt rfl rfl rfl rfl rfl rfl (fun h11 => ?_) (fun h11 => ?_)
 ·
  refine zah 1 rfl (zbk [51, 47, 46, 29, 16, 13, 12, 11, 10, 9, 8, 3, 2, 1, 0] rfl (zbn (zaq (zai rfl (zao (zah 1 rfl (zfa rfl rfl rfl (zgc (k0 := 1) rfl (by kernel_rfl) rfl) (zfa rfl rfl rfl (zad rfl (by kernel_rfl) rfl (zaa 1 rfl rfl)) (zfa rfl rfl rfl (zdd (s := 1) rfl Try.underlying48 (by kernel_rfl) rfl rfl (zae hu) (by omega) (by omega)) (zfa rfl rfl rfl (zam (u := .int .i64 (vs.getD (((os.getD p oq0).a).toNat) 0)) rfl (by kernel_rfl) rfl (zae hu) (zby (show _ < vs.length by omega))) (zah 1 rfl (zbk [51, 47, 46, 29, 16, 13, 12, 11, 10, 9, 8, 3, 2, 1, 0] rfl (zbn ?_)))))))))))))
  refine zbp (zaq (zag (zao (zah 2 rfl (zfa rfl rfl rfl (zdv rfl (by decide) rfl rfl (r := bits .and .i64 (vs.getD (((os.getD p oq0).a).toNat) 0) (wmK x)) rfl) (zah 3 rfl (zbk [51, 47, 46, 29, 16, 13, 12, 11, 10, 9, 8, 3, 2, 1, 0] rfl (zbn (zaq ?_)))))))))
  refine zap ?_
  have hii : i = (arI (os.getD p oq0).k).toNat := by omega
  have hov : opV (os.getD p oq0) vs zs = vs.getD (((os.getD p oq0).a).toNat) 0 := by unfold opV; (repeat' split) <;> first | rfl | (exfalso; omega) | omega
  exact zcx (rs := [.tmp 8, .tmp 9]) (vs := [.int .i64 (bits .and .i64 (vs.getD (((os.getD p oq0).a).toNat) 0) (wmK x)), .int .i64 ((argE (evE os vs x f) (p + 1) i).2 : Int)]) (post := []) rfl ⟨rfl, rfl, trivial⟩ rfl ((.cons _ (.cons _ .slnil))) ⟨by rw [show evE os vs x (f + 1) p = (bits .and .i64 (opV (os.getD p oq0) vs (argE (evE os vs x f) (p + 1) (arI (os.getD p oq0).k).toNat).1) (wmK x), (argE (evE os vs x f) (p + 1) (arI (os.getD p oq0).k).toNat).2) from rfl, ← hii, ← hz, hov]; rfl, rfl⟩
 refine zah 1 rfl (zbk [51, 47, 46, 29, 16, 13, 12, 11, 10, 9, 8, 3, 2, 1, 0] rfl (zbn (zaq (zar rfl (zag (zao ?_))))))
 refine zbt rfl rfl rfl rfl rfl rfl (fun h12 => ?_) (fun h12 => ?_)
 ·
  refine zah 1 rfl (zbk [58, 51, 47, 46, 29, 16, 13, 12, 11, 10, 9, 8, 3, 2, 1, 0] rfl (zbn (zaq (zai rfl ?_))))
  refine zbu 10 [[], [], [1], [0, 2], [3], [], [5], [6], [4, 7], [8]] [60, 61, 62, 63, 64, 65, 66, 67, 68, 69] [u, .pointer (some ⟨b1, 0 + 1, none⟩), .int .i64 ((os.getD p oq0).a), elP u (((os.getD p oq0).a).toNat * 1), .int .i64 (vs.getD (((os.getD p oq0).a).toNat) 0), .pointer (some ⟨b1, 0 + 2, none⟩), .int .i64 ((os.getD p oq0).b), .int .u64 ((os.getD p oq0).b), .int .i64 ((vs.getD (((os.getD p oq0).a).toNat) 0) / 2 ^ ((os.getD p oq0).b : Int).toNat), .int .i64 (bits .and .i64 ((vs.getD (((os.getD p oq0).a).toNat) 0) / 2 ^ ((os.getD p oq0).b : Int).toNat) 1)] (by kernel_rfl) rfl ?_ ?_
  ·
   refine ⟨?_, ?_, ?_, ?_, ?_, ?_, ?_, ?_, ?_, ?_, trivial⟩
   · exact .inl ⟨rfl, zda (zav rfl) rfl⟩
   · exact .inl ⟨rfl, zda (zgc (k0 := 1) rfl (by kernel_rfl) rfl) rfl⟩
   · exact .inl ⟨rfl, zda (zad rfl (by kernel_rfl) rfl (zaa 1 rfl rfl)) rfl⟩
   · exact .inl ⟨rfl, zda (zdd (s := 1) rfl Try.underlying48 (by kernel_rfl) rfl rfl (zae hu) (by omega) (by omega)) rfl⟩
   · exact .inl ⟨rfl, zda (zam (u := .int .i64 (vs.getD (((os.getD p oq0).a).toNat) 0)) rfl (by kernel_rfl) rfl (zae hu) (zby (show _ < vs.length by omega))) rfl⟩
   · exact .inl ⟨rfl, zda (zgc (k0 := 2) rfl (by kernel_rfl) rfl) rfl⟩
   · exact .inl ⟨rfl, zda (zad rfl (by kernel_rfl) rfl (zaa 1 rfl rfl)) rfl⟩
   · exact .inl ⟨rfl, zda (rv_conv rfl Try.underlying3 Try.underlying154 rfl (IntWalk.u64_in _ (by omega))) rfl⟩
   · exact .inl ⟨rfl, zda (rv_shr rfl rfl rfl (by omega)) rfl⟩
   exact .inl ⟨rfl, zda (zdv rfl (by decide) rfl rfl (r := bits .and .i64 ((vs.getD (((os.getD p oq0).a).toNat) 0) / 2 ^ ((os.getD p oq0).b : Int).toNat) 1) rfl) rfl⟩
  refine zbk [69, 58, 51, 47, 46, 29, 16, 13, 12, 11, 10, 9, 8, 3, 2, 1, 0] rfl ?_
  simp only [List.drop_succ_cons, List.drop_zero]
  refine zah 1 rfl (zbk [58, 51, 47, 46, 29, 16, 13, 12, 11, 10, 9, 8, 3, 2, 1, 0] rfl (zbn (zbp (zaq (zag (zao (zah 2 rfl (zfa rfl rfl rfl (zdv rfl (by decide) rfl rfl (r := bits .and .i64 (bits .and .i64 ((vs.getD (((os.getD p oq0).a).toNat) 0) / 2 ^ ((os.getD p oq0).b : Int).toNat) 1) (wmK x)) rfl) (zah 3 rfl (zbk [58, 51, 47, 46, 29, 16, 13, 12, 11, 10, 9, 8, 3, 2, 1, 0] rfl (zbn (zaq ?_))))))))))))
  refine zap ?_
  have hii : i = (arI (os.getD p oq0).k).toNat := by omega
  have hov : opV (os.getD p oq0) vs zs = bits .and .i64 ((vs.getD (((os.getD p oq0).a).toNat) 0) / 2 ^ ((os.getD p oq0).b : Int).toNat) 1 := by unfold opV; (repeat' split) <;> first | rfl | (exfalso; omega) | omega
  exact zcx (rs := [.tmp 8, .tmp 9]) (vs := [.int .i64 (bits .and .i64 (bits .and .i64 ((vs.getD (((os.getD p oq0).a).toNat) 0) / 2 ^ ((os.getD p oq0).b : Int).toNat) 1) (wmK x)), .int .i64 ((argE (evE os vs x f) (p + 1) i).2 : Int)]) (post := []) rfl ⟨rfl, rfl, trivial⟩ rfl ((.cons _ (.cons _ .slnil))) ⟨by rw [show evE os vs x (f + 1) p = (bits .and .i64 (opV (os.getD p oq0) vs (argE (evE os vs x f) (p + 1) (arI (os.getD p oq0).k).toNat).1) (wmK x), (argE (evE os vs x f) (p + 1) (arI (os.getD p oq0).k).toNat).2) from rfl, ← hii, ← hz, hov]; rfl, rfl⟩
 refine zah 1 rfl (zbk [58, 51, 47, 46, 29, 16, 13, 12, 11, 10, 9, 8, 3, 2, 1, 0] rfl (zbn (zaq (zar rfl (zag (zao ?_))))))
 refine zbt rfl rfl rfl rfl rfl rfl (fun h13 => ?_) (fun h13 => ?_)
 ·
  refine zah 1 rfl (zbk [70, 58, 51, 47, 46, 29, 16, 13, 12, 11, 10, 9, 8, 3, 2, 1, 0] rfl (zbn (zaq (zai rfl (zao (zah 1 rfl (zfa rfl rfl rfl (zdd (s := 1) rfl Try.underlying48 (by kernel_rfl) rfl rfl (zaj 0 rfl) (by omega) (by omega)) (zfa rfl rfl rfl (zam (u := .int .i64 (zs.getD 0 0)) rfl (by kernel_rfl) rfl (zaj 0 rfl) (zby (show _ < zs.length by omega))) (zfa rfl rfl rfl (rv_unx rfl rfl) (zah 1 rfl (zbk [70, 58, 51, 47, 46, 29, 16, 13, 12, 11, 10, 9, 8, 3, 2, 1, 0] rfl (zbn (zbp ?_)))))))))))))
  refine zaq (zag (zao (zah 2 rfl (zfa rfl rfl rfl (zdv rfl (by decide) rfl rfl (r := bits .and .i64 (bits .xor .i64 (-1) (zs.getD 0 0)) (wmK x)) rfl) (zah 3 rfl (zbk [70, 58, 51, 47, 46, 29, 16, 13, 12, 11, 10, 9, 8, 3, 2, 1, 0] rfl (zbn (zaq ?_))))))))
  refine zap ?_
  have hii : i = (arI (os.getD p oq0).k).toNat := by omega
  have hov : opV (os.getD p oq0) vs zs = bits .xor .i64 (-1) (zs.getD 0 0) := by unfold opV; (repeat' split) <;> first | rfl | (exfalso; omega) | omega
  exact zcx (rs := [.tmp 8, .tmp 9]) (vs := [.int .i64 (bits .and .i64 (bits .xor .i64 (-1) (zs.getD 0 0)) (wmK x)), .int .i64 ((argE (evE os vs x f) (p + 1) i).2 : Int)]) (post := []) rfl ⟨rfl, rfl, trivial⟩ rfl ((.cons _ (.cons _ .slnil))) ⟨by rw [show evE os vs x (f + 1) p = (bits .and .i64 (opV (os.getD p oq0) vs (argE (evE os vs x f) (p + 1) (arI (os.getD p oq0).k).toNat).1) (wmK x), (argE (evE os vs x f) (p + 1) (arI (os.getD p oq0).k).toNat).2) from rfl, ← hii, ← hz, hov]; rfl, rfl⟩
 refine zah 1 rfl (zbk [70, 58, 51, 47, 46, 29, 16, 13, 12, 11, 10, 9, 8, 3, 2, 1, 0] rfl (zbn (zaq (zar rfl (zag (zao ?_))))))
 refine zbt rfl rfl rfl rfl rfl rfl (fun h14 => ?_) (fun h14 => ?_)
 ·
  refine zah 1 rfl (zbk [76, 70, 58, 51, 47, 46, 29, 16, 13, 12, 11, 10, 9, 8, 3, 2, 1, 0] rfl (zbn (zaq (zai rfl ?_))))
  refine zbu 7 [[], [0], [1], [], [3], [4], [2, 5]] [78, 79, 80, 81, 82, 83, 84] [gt, elP gt ((0 : Int).toNat * 1), .int .i64 (zs.getD 0 0), gt, elP gt ((1 : Int).toNat * 1), .int .i64 (zs.getD 1 0), .int .i64 (bits .and .i64 (zs.getD 0 0) (zs.getD 1 0))] (by kernel_rfl) rfl ?_ ?_
  ·
   refine ⟨?_, ?_, ?_, ?_, ?_, ?_, ?_, trivial⟩
   · exact .inl ⟨rfl, zda (zav rfl) rfl⟩
   · exact .inl ⟨rfl, zda (zdd (s := 1) rfl Try.underlying48 (by kernel_rfl) rfl rfl (zaj 0 rfl) (by omega) (by omega)) rfl⟩
   · exact .inl ⟨rfl, zda (zam (u := .int .i64 (zs.getD 0 0)) rfl (by kernel_rfl) rfl (zaj 0 rfl) (zby (show _ < zs.length by omega))) rfl⟩
   · exact .inl ⟨rfl, zda (zav rfl) rfl⟩
   · exact .inl ⟨rfl, zda (zdd (s := 1) rfl Try.underlying48 (by kernel_rfl) rfl rfl (zaj 0 rfl) (by omega) (by omega)) rfl⟩
   · exact .inl ⟨rfl, zda (zam (u := .int .i64 (zs.getD 1 0)) rfl (by kernel_rfl) rfl (zaj 0 rfl) (zby (show _ < zs.length by omega))) rfl⟩
   exact .inl ⟨rfl, zda (zdv rfl (by decide) rfl rfl (r := bits .and .i64 (zs.getD 0 0) (zs.getD 1 0)) rfl) rfl⟩
  refine zbk [84, 76, 70, 58, 51, 47, 46, 29, 16, 13, 12, 11, 10, 9, 8, 3, 2, 1, 0] rfl ?_
  simp only [List.drop_succ_cons, List.drop_zero]
  refine zah 1 rfl (zbk [76, 70, 58, 51, 47, 46, 29, 16, 13, 12, 11, 10, 9, 8, 3, 2, 1, 0] rfl (zbn (zbp (zaq (zag (zao (zah 2 rfl (zfa rfl rfl rfl (zdv rfl (by decide) rfl rfl (r := bits .and .i64 (bits .and .i64 (zs.getD 0 0) (zs.getD 1 0)) (wmK x)) rfl) (zah 3 rfl (zbk [76, 70, 58, 51, 47, 46, 29, 16, 13, 12, 11, 10, 9, 8, 3, 2, 1, 0] rfl (zbn (zaq ?_))))))))))))
  refine zap ?_
  have hii : i = (arI (os.getD p oq0).k).toNat := by omega
  have hov : opV (os.getD p oq0) vs zs = bits .and .i64 (zs.getD 0 0) (zs.getD 1 0) := by unfold opV; (repeat' split) <;> first | rfl | (exfalso; omega) | omega
  exact zcx (rs := [.tmp 8, .tmp 9]) (vs := [.int .i64 (bits .and .i64 (bits .and .i64 (zs.getD 0 0) (zs.getD 1 0)) (wmK x)), .int .i64 ((argE (evE os vs x f) (p + 1) i).2 : Int)]) (post := []) rfl ⟨rfl, rfl, trivial⟩ rfl ((.cons _ (.cons _ .slnil))) ⟨by rw [show evE os vs x (f + 1) p = (bits .and .i64 (opV (os.getD p oq0) vs (argE (evE os vs x f) (p + 1) (arI (os.getD p oq0).k).toNat).1) (wmK x), (argE (evE os vs x f) (p + 1) (arI (os.getD p oq0).k).toNat).2) from rfl, ← hii, ← hz, hov]; rfl, rfl⟩
 refine zah 1 rfl (zbk [76, 70, 58, 51, 47, 46, 29, 16, 13, 12, 11, 10, 9, 8, 3, 2, 1, 0] rfl (zbn (zaq (zar rfl (zag (zao ?_))))))
 refine zbt rfl rfl rfl rfl rfl rfl (fun h15 => ?_) (fun h15 => ?_)
 ·
  refine zah 1 rfl (zbk [85, 76, 70, 58, 51, 47, 46, 29, 16, 13, 12, 11, 10, 9, 8, 3, 2, 1, 0] rfl (zbn (zaq (zai rfl ?_))))
  refine zbu 7 [[], [0], [1], [], [3], [4], [2, 5]] [87, 88, 89, 90, 91, 92, 93] [gt, elP gt ((0 : Int).toNat * 1), .int .i64 (zs.getD 0 0), gt, elP gt ((1 : Int).toNat * 1), .int .i64 (zs.getD 1 0), .int .i64 (bits .or .i64 (zs.getD 0 0) (zs.getD 1 0))] (by kernel_rfl) rfl ?_ ?_
  ·
   refine ⟨?_, ?_, ?_, ?_, ?_, ?_, ?_, trivial⟩
   · exact .inl ⟨rfl, zda (zav rfl) rfl⟩
   · exact .inl ⟨rfl, zda (zdd (s := 1) rfl Try.underlying48 (by kernel_rfl) rfl rfl (zaj 0 rfl) (by omega) (by omega)) rfl⟩
   · exact .inl ⟨rfl, zda (zam (u := .int .i64 (zs.getD 0 0)) rfl (by kernel_rfl) rfl (zaj 0 rfl) (zby (show _ < zs.length by omega))) rfl⟩
   · exact .inl ⟨rfl, zda (zav rfl) rfl⟩
   · exact .inl ⟨rfl, zda (zdd (s := 1) rfl Try.underlying48 (by kernel_rfl) rfl rfl (zaj 0 rfl) (by omega) (by omega)) rfl⟩
   · exact .inl ⟨rfl, zda (zam (u := .int .i64 (zs.getD 1 0)) rfl (by kernel_rfl) rfl (zaj 0 rfl) (zby (show _ < zs.length by omega))) rfl⟩
   exact .inl ⟨rfl, zda (zdv rfl (by decide) rfl rfl (r := bits .or .i64 (zs.getD 0 0) (zs.getD 1 0)) rfl) rfl⟩
  refine zbk [93, 85, 76, 70, 58, 51, 47, 46, 29, 16, 13, 12, 11, 10, 9, 8, 3, 2, 1, 0] rfl ?_
  simp only [List.drop_succ_cons, List.drop_zero]
  refine zah 1 rfl (zbk [85, 76, 70, 58, 51, 47, 46, 29, 16, 13, 12, 11, 10, 9, 8, 3, 2, 1, 0] rfl (zbn (zbp (zaq (zag (zao (zah 2 rfl (zfa rfl rfl rfl (zdv rfl (by decide) rfl rfl (r := bits .and .i64 (bits .or .i64 (zs.getD 0 0) (zs.getD 1 0)) (wmK x)) rfl) (zah 3 rfl (zbk [85, 76, 70, 58, 51, 47, 46, 29, 16, 13, 12, 11, 10, 9, 8, 3, 2, 1, 0] rfl (zbn (zaq ?_))))))))))))
  refine zap ?_
  have hii : i = (arI (os.getD p oq0).k).toNat := by omega
  have hov : opV (os.getD p oq0) vs zs = bits .or .i64 (zs.getD 0 0) (zs.getD 1 0) := by unfold opV; (repeat' split) <;> first | rfl | (exfalso; omega) | omega
  exact zcx (rs := [.tmp 8, .tmp 9]) (vs := [.int .i64 (bits .and .i64 (bits .or .i64 (zs.getD 0 0) (zs.getD 1 0)) (wmK x)), .int .i64 ((argE (evE os vs x f) (p + 1) i).2 : Int)]) (post := []) rfl ⟨rfl, rfl, trivial⟩ rfl ((.cons _ (.cons _ .slnil))) ⟨by rw [show evE os vs x (f + 1) p = (bits .and .i64 (opV (os.getD p oq0) vs (argE (evE os vs x f) (p + 1) (arI (os.getD p oq0).k).toNat).1) (wmK x), (argE (evE os vs x f) (p + 1) (arI (os.getD p oq0).k).toNat).2) from rfl, ← hii, ← hz, hov]; rfl, rfl⟩
 refine zah 1 rfl (zbk [85, 76, 70, 58, 51, 47, 46, 29, 16, 13, 12, 11, 10, 9, 8, 3, 2, 1, 0] rfl (zbn (zaq (zar rfl (zag (zao ?_))))))
 refine zbt rfl rfl rfl rfl rfl rfl (fun h16 => ?_) (fun h16 => ?_)
 ·
  refine zah 1 rfl (zbk [94, 85, 76, 70, 58, 51, 47, 46, 29, 16, 13, 12, 11, 10, 9, 8, 3, 2, 1, 0] rfl (zbn (zaq (zai rfl ?_))))
  refine zbu 7 [[], [0], [1], [], [3], [4], [2, 5]] [96, 97, 98, 99, 100, 101, 102] [gt, elP gt ((0 : Int).toNat * 1), .int .i64 (zs.getD 0 0), gt, elP gt ((1 : Int).toNat * 1), .int .i64 (zs.getD 1 0), .int .i64 (bits .xor .i64 (zs.getD 0 0) (zs.getD 1 0))] (by kernel_rfl) rfl ?_ ?_
  ·
   refine ⟨?_, ?_, ?_, ?_, ?_, ?_, ?_, trivial⟩
   · exact .inl ⟨rfl, zda (zav rfl) rfl⟩
   · exact .inl ⟨rfl, zda (zdd (s := 1) rfl Try.underlying48 (by kernel_rfl) rfl rfl (zaj 0 rfl) (by omega) (by omega)) rfl⟩
   · exact .inl ⟨rfl, zda (zam (u := .int .i64 (zs.getD 0 0)) rfl (by kernel_rfl) rfl (zaj 0 rfl) (zby (show _ < zs.length by omega))) rfl⟩
   · exact .inl ⟨rfl, zda (zav rfl) rfl⟩
   · exact .inl ⟨rfl, zda (zdd (s := 1) rfl Try.underlying48 (by kernel_rfl) rfl rfl (zaj 0 rfl) (by omega) (by omega)) rfl⟩
   · exact .inl ⟨rfl, zda (zam (u := .int .i64 (zs.getD 1 0)) rfl (by kernel_rfl) rfl (zaj 0 rfl) (zby (show _ < zs.length by omega))) rfl⟩
   exact .inl ⟨rfl, zda (zdv rfl (by decide) rfl rfl (r := bits .xor .i64 (zs.getD 0 0) (zs.getD 1 0)) rfl) rfl⟩
  refine zbk [102, 94, 85, 76, 70, 58, 51, 47, 46, 29, 16, 13, 12, 11, 10, 9, 8, 3, 2, 1, 0] rfl ?_
  simp only [List.drop_succ_cons, List.drop_zero]
  refine zah 1 rfl (zbk [94, 85, 76, 70, 58, 51, 47, 46, 29, 16, 13, 12, 11, 10, 9, 8, 3, 2, 1, 0] rfl (zbn (zbp (zaq (zag (zao (zah 2 rfl (zfa rfl rfl rfl (zdv rfl (by decide) rfl rfl (r := bits .and .i64 (bits .xor .i64 (zs.getD 0 0) (zs.getD 1 0)) (wmK x)) rfl) (zah 3 rfl (zbk [94, 85, 76, 70, 58, 51, 47, 46, 29, 16, 13, 12, 11, 10, 9, 8, 3, 2, 1, 0] rfl (zbn (zaq ?_))))))))))))
  refine zap ?_
  have hii : i = (arI (os.getD p oq0).k).toNat := by omega
  have hov : opV (os.getD p oq0) vs zs = bits .xor .i64 (zs.getD 0 0) (zs.getD 1 0) := by unfold opV; (repeat' split) <;> first | rfl | (exfalso; omega) | omega
  exact zcx (rs := [.tmp 8, .tmp 9]) (vs := [.int .i64 (bits .and .i64 (bits .xor .i64 (zs.getD 0 0) (zs.getD 1 0)) (wmK x)), .int .i64 ((argE (evE os vs x f) (p + 1) i).2 : Int)]) (post := []) rfl ⟨rfl, rfl, trivial⟩ rfl ((.cons _ (.cons _ .slnil))) ⟨by rw [show evE os vs x (f + 1) p = (bits .and .i64 (opV (os.getD p oq0) vs (argE (evE os vs x f) (p + 1) (arI (os.getD p oq0).k).toNat).1) (wmK x), (argE (evE os vs x f) (p + 1) (arI (os.getD p oq0).k).toNat).2) from rfl, ← hii, ← hz, hov]; rfl, rfl⟩
 refine zah 1 rfl (zbk [94, 85, 76, 70, 58, 51, 47, 46, 29, 16, 13, 12, 11, 10, 9, 8, 3, 2, 1, 0] rfl (zbn (zaq (zar rfl (zag (zao ?_))))))
 refine zbt rfl rfl rfl rfl rfl rfl (fun h17 => ?_) (fun h17 => ?_)
 ·
  refine zah 1 rfl (zbk [103, 94, 85, 76, 70, 58, 51, 47, 46, 29, 16, 13, 12, 11, 10, 9, 8, 3, 2, 1, 0] rfl (zbn (zaq (zai rfl ?_))))
  refine zbu 7 [[], [0], [1], [], [3], [4], [2, 5]] [105, 106, 107, 108, 109, 110, 111] [gt, elP gt ((0 : Int).toNat * 1), .int .i64 (zs.getD 0 0), gt, elP gt ((1 : Int).toNat * 1), .int .i64 (zs.getD 1 0), .int .i64 ((zs.getD 0 0) + (zs.getD 1 0))] (by kernel_rfl) rfl ?_ ?_
  ·
   refine ⟨?_, ?_, ?_, ?_, ?_, ?_, ?_, trivial⟩
   · exact .inl ⟨rfl, zda (zav rfl) rfl⟩
   · exact .inl ⟨rfl, zda (zdd (s := 1) rfl Try.underlying48 (by kernel_rfl) rfl rfl (zaj 0 rfl) (by omega) (by omega)) rfl⟩
   · exact .inl ⟨rfl, zda (zam (u := .int .i64 (zs.getD 0 0)) rfl (by kernel_rfl) rfl (zaj 0 rfl) (zby (show _ < zs.length by omega))) rfl⟩
   · exact .inl ⟨rfl, zda (zav rfl) rfl⟩
   · exact .inl ⟨rfl, zda (zdd (s := 1) rfl Try.underlying48 (by kernel_rfl) rfl rfl (zaj 0 rfl) (by omega) (by omega)) rfl⟩
   · exact .inl ⟨rfl, zda (zam (u := .int .i64 (zs.getD 1 0)) rfl (by kernel_rfl) rfl (zaj 0 rfl) (zby (show _ < zs.length by omega))) rfl⟩
   exact .inl ⟨rfl, zda (rv_add rfl rfl rfl (by constructor <;> omega)) rfl⟩
  refine zbk [111, 103, 94, 85, 76, 70, 58, 51, 47, 46, 29, 16, 13, 12, 11, 10, 9, 8, 3, 2, 1, 0] rfl ?_
  simp only [List.drop_succ_cons, List.drop_zero]
  refine zah 1 rfl (zbk [103, 94, 85, 76, 70, 58, 51, 47, 46, 29, 16, 13, 12, 11, 10, 9, 8, 3, 2, 1, 0] rfl (zbn (zbp (zaq (zag (zao (zah 2 rfl (zfa rfl rfl rfl (zdv rfl (by decide) rfl rfl (r := bits .and .i64 ((zs.getD 0 0) + (zs.getD 1 0)) (wmK x)) rfl) (zah 3 rfl (zbk [103, 94, 85, 76, 70, 58, 51, 47, 46, 29, 16, 13, 12, 11, 10, 9, 8, 3, 2, 1, 0] rfl (zbn (zaq ?_))))))))))))
  refine zap ?_
  have hii : i = (arI (os.getD p oq0).k).toNat := by omega
  have hov : opV (os.getD p oq0) vs zs = (zs.getD 0 0) + (zs.getD 1 0) := by unfold opV; (repeat' split) <;> first | rfl | (exfalso; omega) | omega
  exact zcx (rs := [.tmp 8, .tmp 9]) (vs := [.int .i64 (bits .and .i64 ((zs.getD 0 0) + (zs.getD 1 0)) (wmK x)), .int .i64 ((argE (evE os vs x f) (p + 1) i).2 : Int)]) (post := []) rfl ⟨rfl, rfl, trivial⟩ rfl ((.cons _ (.cons _ .slnil))) ⟨by rw [show evE os vs x (f + 1) p = (bits .and .i64 (opV (os.getD p oq0) vs (argE (evE os vs x f) (p + 1) (arI (os.getD p oq0).k).toNat).1) (wmK x), (argE (evE os vs x f) (p + 1) (arI (os.getD p oq0).k).toNat).2) from rfl, ← hii, ← hz, hov]; rfl, rfl⟩
 refine zah 1 rfl (zbk [103, 94, 85, 76, 70, 58, 51, 47, 46, 29, 16, 13, 12, 11, 10, 9, 8, 3, 2, 1, 0] rfl (zbn (zaq (zar rfl (zag (zao ?_))))))
 refine zbt rfl rfl rfl rfl rfl rfl (fun h18 => ?_) (fun h18 => ?_)
 ·
  refine zah 1 rfl (zbk [112, 103, 94, 85, 76, 70, 58, 51, 47, 46, 29, 16, 13, 12, 11, 10, 9, 8, 3, 2, 1, 0] rfl (zbn (zaq (zai rfl ?_))))
  refine zbu 7 [[], [0], [1], [], [3], [4], [2, 5]] [114, 115, 116, 117, 118, 119, 120] [gt, elP gt ((0 : Int).toNat * 1), .int .i64 (zs.getD 0 0), gt, elP gt ((1 : Int).toNat * 1), .int .i64 (zs.getD 1 0), .int .i64 ((zs.getD 0 0) - (zs.getD 1 0))] (by kernel_rfl) rfl ?_ ?_
  ·
   refine ⟨?_, ?_, ?_, ?_, ?_, ?_, ?_, trivial⟩
   · exact .inl ⟨rfl, zda (zav rfl) rfl⟩
   · exact .inl ⟨rfl, zda (zdd (s := 1) rfl Try.underlying48 (by kernel_rfl) rfl rfl (zaj 0 rfl) (by omega) (by omega)) rfl⟩
   · exact .inl ⟨rfl, zda (zam (u := .int .i64 (zs.getD 0 0)) rfl (by kernel_rfl) rfl (zaj 0 rfl) (zby (show _ < zs.length by omega))) rfl⟩
   · exact .inl ⟨rfl, zda (zav rfl) rfl⟩
   · exact .inl ⟨rfl, zda (zdd (s := 1) rfl Try.underlying48 (by kernel_rfl) rfl rfl (zaj 0 rfl) (by omega) (by omega)) rfl⟩
   · exact .inl ⟨rfl, zda (zam (u := .int .i64 (zs.getD 1 0)) rfl (by kernel_rfl) rfl (zaj 0 rfl) (zby (show _ < zs.length by omega))) rfl⟩
   exact .inl ⟨rfl, zda (rv_sub rfl rfl rfl (by constructor <;> omega)) rfl⟩
  refine zbk [120, 112, 103, 94, 85, 76, 70, 58, 51, 47, 46, 29, 16, 13, 12, 11, 10, 9, 8, 3, 2, 1, 0] rfl ?_
  simp only [List.drop_succ_cons, List.drop_zero]
  refine zah 1 rfl (zbk [112, 103, 94, 85, 76, 70, 58, 51, 47, 46, 29, 16, 13, 12, 11, 10, 9, 8, 3, 2, 1, 0] rfl (zbn (zbp (zaq (zag (zao (zah 2 rfl (zfa rfl rfl rfl (zdv rfl (by decide) rfl rfl (r := bits .and .i64 ((zs.getD 0 0) - (zs.getD 1 0)) (wmK x)) rfl) (zah 3 rfl (zbk [112, 103, 94, 85, 76, 70, 58, 51, 47, 46, 29, 16, 13, 12, 11, 10, 9, 8, 3, 2, 1, 0] rfl (zbn (zaq ?_))))))))))))
  refine zap ?_
  have hii : i = (arI (os.getD p oq0).k).toNat := by omega
  have hov : opV (os.getD p oq0) vs zs = (zs.getD 0 0) - (zs.getD 1 0) := by unfold opV; (repeat' split) <;> first | rfl | (exfalso; omega) | omega
  exact zcx (rs := [.tmp 8, .tmp 9]) (vs := [.int .i64 (bits .and .i64 ((zs.getD 0 0) - (zs.getD 1 0)) (wmK x)), .int .i64 ((argE (evE os vs x f) (p + 1) i).2 : Int)]) (post := []) rfl ⟨rfl, rfl, trivial⟩ rfl ((.cons _ (.cons _ .slnil))) ⟨by rw [show evE os vs x (f + 1) p = (bits .and .i64 (opV (os.getD p oq0) vs (argE (evE os vs x f) (p + 1) (arI (os.getD p oq0).k).toNat).1) (wmK x), (argE (evE os vs x f) (p + 1) (arI (os.getD p oq0).k).toNat).2) from rfl, ← hii, ← hz, hov]; rfl, rfl⟩
 refine zah 1 rfl (zbk [112, 103, 94, 85, 76, 70, 58, 51, 47, 46, 29, 16, 13, 12, 11, 10, 9, 8, 3, 2, 1, 0] rfl (zbn (zaq (zar rfl (zag (zao ?_))))))
 refine zbt rfl rfl rfl rfl rfl rfl (fun h19 => ?_) (fun h19 => ?_)
 ·
  refine zah 1 rfl (zbk [121, 112, 103, 94, 85, 76, 70, 58, 51, 47, 46, 29, 16, 13, 12, 11, 10, 9, 8, 3, 2, 1, 0] rfl (zbn (zaq (zai rfl (zag ?_)))))
  rcases Bool.eq_false_or_eq_true ((zs.getD 0 0) == (zs.getD 1 0)) with hb20 | hb20
  ·
   have hb20p : zs.getD 0 0 = zs.getD 1 0 := beq_iff_eq.1 hb20
   refine zbu 7 [[], [0], [1], [], [3], [4], [2, 5]] [123, 124, 125, 126, 127, 128, 129] [gt, elP gt ((0 : Int).toNat * 1), .int .i64 (zs.getD 0 0), gt, elP gt ((1 : Int).toNat * 1), .int .i64 (zs.getD 1 0), .bool true] (by kernel_rfl) rfl ?_ ?_
   ·
    refine ⟨?_, ?_, ?_, ?_, ?_, ?_, ?_, trivial⟩
    · exact .inl ⟨rfl, zda (zav rfl) rfl⟩
    · exact .inl ⟨rfl, zda (zdd (s := 1) rfl Try.underlying48 (by kernel_rfl) rfl rfl (zaj 0 rfl) (by omega) (by omega)) rfl⟩
    · exact .inl ⟨rfl, zda (zam (u := .int .i64 (zs.getD 0 0)) rfl (by kernel_rfl) rfl (zaj 0 rfl) (zby (show _ < zs.length by omega))) rfl⟩
    · exact .inl ⟨rfl, zda (zav rfl) rfl⟩
    · exact .inl ⟨rfl, zda (zdd (s := 1) rfl Try.underlying48 (by kernel_rfl) rfl rfl (zaj 0 rfl) (by omega) (by omega)) rfl⟩
    · exact .inl ⟨rfl, zda (zam (u := .int .i64 (zs.getD 1 0)) rfl (by kernel_rfl) rfl (zaj 0 rfl) (zby (show _ < zs.length by omega))) rfl⟩
    exact .inl ⟨rfl, zdq (zcj rfl rfl rfl rfl) hb20⟩
   refine zbk [129, 121, 112, 103, 94, 85, 76, 70, 58, 51, 47, 46, 29, 16, 13, 12, 11, 10, 9, 8, 3, 2, 1, 0] rfl ?_
   simp only [List.drop_succ_cons, List.drop_zero]
   refine zbk [129, 121, 112, 103, 94, 85, 76, 70, 58, 51, 47, 46, 29, 16, 13, 12, 11, 10, 9, 8, 3, 2, 1, 0] rfl (zbn (zaq (zai rfl (zao (zah 1 rfl (zbk [129, 121, 112, 103, 94, 85, 76, 70, 58, 51, 47, 46, 29, 16, 13, 12, 11, 10, 9, 8, 3, 2, 1, 0] rfl (zbn (zbp (zaq (zag (zao (zah 2 rfl (zfa rfl rfl rfl (zdv rfl (by decide) rfl rfl (r := bits .and .i64 1 (wmK x)) rfl) ?_)))))))))))))
   refine zah 3 rfl (zbk [129, 121, 112, 103, 94, 85, 76, 70, 58, 51, 47, 46, 29, 16, 13, 12, 11, 10, 9, 8, 3, 2, 1, 0] rfl (zbn (zaq ?_)))
   refine zap ?_
   have hii : i = (arI (os.getD p oq0).k).toNat := by omega
   have hov : opV (os.getD p oq0) vs zs = 1 := by unfold opV; (repeat' split) <;> first | rfl | (exfalso; omega) | omega
   exact zcx (rs := [.tmp 8, .tmp 9]) (vs := [.int .i64 (bits .and .i64 1 (wmK x)), .int .i64 ((argE (evE os vs x f) (p + 1) i).2 : Int)]) (post := []) rfl ⟨rfl, rfl, trivial⟩ rfl ((.cons _ (.cons _ .slnil))) ⟨by rw [show evE os vs x (f + 1) p = (bits .and .i64 (opV (os.getD p oq0) vs (argE (evE os vs x f) (p + 1) (arI (os.getD p oq0).k).toNat).1) (wmK x), (argE (evE os vs x f) (p + 1) (arI (os.getD p oq0).k).toNat).2) from rfl, ← hii, ← hz, hov]; rfl, rfl⟩
  have hb20p : zs.getD 0 0 ≠ zs.getD 1 0 := beq_eq_false_iff_ne.1 hb20
  refine zbu 7 [[], [0], [1], [], [3], [4], [2, 5]] [123, 124, 125, 126, 127, 128, 129] [gt, elP gt ((0 : Int).toNat * 1), .int .i64 (zs.getD 0 0), gt, elP gt ((1 : Int).toNat * 1), .int .i64 (zs.getD 1 0), .bool false] (by kernel_rfl) rfl ?_ ?_
  ·
   refine ⟨?_, ?_, ?_, ?_, ?_, ?_, ?_, trivial⟩
   · exact .inl ⟨rfl, zda (zav rfl) rfl⟩
   · exact .inl ⟨rfl, zda (zdd (s := 1) rfl Try.underlying48 (by kernel_rfl) rfl rfl (zaj 0 rfl) (by omega) (by omega)) rfl⟩
   · exact .inl ⟨rfl, zda (zam (u := .int .i64 (zs.getD 0 0)) rfl (by kernel_rfl) rfl (zaj 0 rfl) (zby (show _ < zs.length by omega))) rfl⟩
   · exact .inl ⟨rfl, zda (zav rfl) rfl⟩
   · exact .inl ⟨rfl, zda (zdd (s := 1) rfl Try.underlying48 (by kernel_rfl) rfl rfl (zaj 0 rfl) (by omega) (by omega)) rfl⟩
   · exact .inl ⟨rfl, zda (zam (u := .int .i64 (zs.getD 1 0)) rfl (by kernel_rfl) rfl (zaj 0 rfl) (zby (show _ < zs.length by omega))) rfl⟩
   exact .inl ⟨rfl, zdq (zcj rfl rfl rfl rfl) hb20⟩
  refine zbk [129, 121, 112, 103, 94, 85, 76, 70, 58, 51, 47, 46, 29, 16, 13, 12, 11, 10, 9, 8, 3, 2, 1, 0] rfl ?_
  simp only [List.drop_succ_cons, List.drop_zero]
  refine zbk [129, 121, 112, 103, 94, 85, 76, 70, 58, 51, 47, 46, 29, 16, 13, 12, 11, 10, 9, 8, 3, 2, 1, 0] rfl (zbn (zaq (zar rfl (zft (zbp (zaq (zag (zao (zah 2 rfl (zfa rfl rfl rfl (zdv rfl (by decide) rfl rfl (r := bits .and .i64 0 (wmK x)) rfl) (zah 3 rfl (zbk [129, 121, 112, 103, 94, 85, 76, 70, 58, 51, 47, 46, 29, 16, 13, 12, 11, 10, 9, 8, 3, 2, 1, 0] rfl (zbn ?_)))))))))))))
  refine zaq ?_
  refine zap ?_
  have hii : i = (arI (os.getD p oq0).k).toNat := by omega
  have hov : opV (os.getD p oq0) vs zs = 0 := by unfold opV; (repeat' split) <;> first | rfl | (exfalso; omega) | omega
  exact zcx (rs := [.tmp 8, .tmp 9]) (vs := [.int .i64 (bits .and .i64 0 (wmK x)), .int .i64 ((argE (evE os vs x f) (p + 1) i).2 : Int)]) (post := []) rfl ⟨rfl, rfl, trivial⟩ rfl ((.cons _ (.cons _ .slnil))) ⟨by rw [show evE os vs x (f + 1) p = (bits .and .i64 (opV (os.getD p oq0) vs (argE (evE os vs x f) (p + 1) (arI (os.getD p oq0).k).toNat).1) (wmK x), (argE (evE os vs x f) (p + 1) (arI (os.getD p oq0).k).toNat).2) from rfl, ← hii, ← hz, hov]; rfl, rfl⟩
 refine zah 1 rfl (zbk [121, 112, 103, 94, 85, 76, 70, 58, 51, 47, 46, 29, 16, 13, 12, 11, 10, 9, 8, 3, 2, 1, 0] rfl (zbn (zaq (zar rfl (zag (zao ?_))))))
 refine zbt rfl rfl rfl rfl rfl rfl (fun h21 => ?_) (fun h21 => ?_)
 ·
  refine zah 1 rfl (zbk [130, 121, 112, 103, 94, 85, 76, 70, 58, 51, 47, 46, 29, 16, 13, 12, 11, 10, 9, 8, 3, 2, 1, 0] rfl (zbn (zaq (zai rfl (zag ?_)))))
  rcases Bool.eq_false_or_eq_true (decide (zs.getD 0 0 < zs.getD 1 0)) with hb22 | hb22
  ·
   have hb22p : zs.getD 0 0 < zs.getD 1 0 := of_decide_eq_true hb22
   refine zbu 7 [[], [0], [1], [], [3], [4], [2, 5]] [132, 133, 134, 135, 136, 137, 138] [gt, elP gt ((0 : Int).toNat * 1), .int .i64 (zs.getD 0 0), gt, elP gt ((1 : Int).toNat * 1), .int .i64 (zs.getD 1 0), .bool true] (by kernel_rfl) rfl ?_ ?_
   ·
    refine ⟨?_, ?_, ?_, ?_, ?_, ?_, ?_, trivial⟩
    · exact .inl ⟨rfl, zda (zav rfl) rfl⟩
    · exact .inl ⟨rfl, zda (zdd (s := 1) rfl Try.underlying48 (by kernel_rfl) rfl rfl (zaj 0 rfl) (by omega) (by omega)) rfl⟩
    · exact .inl ⟨rfl, zda (zam (u := .int .i64 (zs.getD 0 0)) rfl (by kernel_rfl) rfl (zaj 0 rfl) (zby (show _ < zs.length by omega))) rfl⟩
    · exact .inl ⟨rfl, zda (zav rfl) rfl⟩
    · exact .inl ⟨rfl, zda (zdd (s := 1) rfl Try.underlying48 (by kernel_rfl) rfl rfl (zaj 0 rfl) (by omega) (by omega)) rfl⟩
    · exact .inl ⟨rfl, zda (zam (u := .int .i64 (zs.getD 1 0)) rfl (by kernel_rfl) rfl (zaj 0 rfl) (zby (show _ < zs.length by omega))) rfl⟩
    exact .inl ⟨rfl, zdq (zcj rfl rfl rfl rfl) hb22⟩
   refine zbk [138, 130, 121, 112, 103, 94, 85, 76, 70, 58, 51, 47, 46, 29, 16, 13, 12, 11, 10, 9, 8, 3, 2, 1, 0] rfl ?_
   simp only [List.drop_succ_cons, List.drop_zero]
   refine zbk [138, 130, 121, 112, 103, 94, 85, 76, 70, 58, 51, 47, 46, 29, 16, 13, 12, 11, 10, 9, 8, 3, 2, 1, 0] rfl (zbn (zaq (zai rfl (zao (zah 1 rfl (zbk [138, 130, 121, 112, 103, 94, 85, 76, 70, 58, 51, 47, 46, 29, 16, 13, 12, 11, 10, 9, 8, 3, 2, 1, 0] rfl (zbn (zbp (zaq (zag (zao (zah 2 rfl (zfa rfl rfl rfl (zdv rfl (by decide) rfl rfl (r := bits .and .i64 1 (wmK x)) rfl) ?_)))))))))))))
   refine zah 3 rfl (zbk [138, 130, 121, 112, 103, 94, 85, 76, 70, 58, 51, 47, 46, 29, 16, 13, 12, 11, 10, 9, 8, 3, 2, 1, 0] rfl (zbn (zaq ?_)))
   refine zap ?_
   have hii : i = (arI (os.getD p oq0).k).toNat := by omega
   have hov : opV (os.getD p oq0) vs zs = 1 := by unfold opV; (repeat' split) <;> first | rfl | (exfalso; omega) | omega
   exact zcx (rs := [.tmp 8, .tmp 9]) (vs := [.int .i64 (bits .and .i64 1 (wmK x)), .int .i64 ((argE (evE os vs x f) (p + 1) i).2 : Int)]) (post := []) rfl ⟨rfl, rfl, trivial⟩ rfl ((.cons _ (.cons _ .slnil))) ⟨by rw [show evE os vs x (f + 1) p = (bits .and .i64 (opV (os.getD p oq0) vs (argE (evE os vs x f) (p + 1) (arI (os.getD p oq0).k).toNat).1) (wmK x), (argE (evE os vs x f) (p + 1) (arI (os.getD p oq0).k).toNat).2) from rfl, ← hii, ← hz, hov]; rfl, rfl⟩
  have hb22p : ¬ (zs.getD 0 0 < zs.getD 1 0) := of_decide_eq_false hb22
  refine zbu 7 [[], [0], [1], [], [3], [4], [2, 5]] [132, 133, 134, 135, 136, 137, 138] [gt, elP gt ((0 : Int).toNat * 1), .int .i64 (zs.getD 0 0), gt, elP gt ((1 : Int).toNat * 1), .int .i64 (zs.getD 1 0), .bool false] (by kernel_rfl) rfl ?_ ?_
  ·
   refine ⟨?_, ?_, ?_, ?_, ?_, ?_, ?_, trivial⟩
   · exact .inl ⟨rfl, zda (zav rfl) rfl⟩
   · exact .inl ⟨rfl, zda (zdd (s := 1) rfl Try.underlying48 (by kernel_rfl) rfl rfl (zaj 0 rfl) (by omega) (by omega)) rfl⟩
   · exact .inl ⟨rfl, zda (zam (u := .int .i64 (zs.getD 0 0)) rfl (by kernel_rfl) rfl (zaj 0 rfl) (zby (show _ < zs.length by omega))) rfl⟩
   · exact .inl ⟨rfl, zda (zav rfl) rfl⟩
   · exact .inl ⟨rfl, zda (zdd (s := 1) rfl Try.underlying48 (by kernel_rfl) rfl rfl (zaj 0 rfl) (by omega) (by omega)) rfl⟩
   · exact .inl ⟨rfl, zda (zam (u := .int .i64 (zs.getD 1 0)) rfl (by kernel_rfl) rfl (zaj 0 rfl) (zby (show _ < zs.length by omega))) rfl⟩
   exact .inl ⟨rfl, zdq (zcj rfl rfl rfl rfl) hb22⟩
  refine zbk [138, 130, 121, 112, 103, 94, 85, 76, 70, 58, 51, 47, 46, 29, 16, 13, 12, 11, 10, 9, 8, 3, 2, 1, 0] rfl ?_
  simp only [List.drop_succ_cons, List.drop_zero]
  refine zbk [138, 130, 121, 112, 103, 94, 85, 76, 70, 58, 51, 47, 46, 29, 16, 13, 12, 11, 10, 9, 8, 3, 2, 1, 0] rfl (zbn (zaq (zar rfl (zft (zbp (zaq (zag (zao (zah 2 rfl (zfa rfl rfl rfl (zdv rfl (by decide) rfl rfl (r := bits .and .i64 0 (wmK x)) rfl) (zah 3 rfl (zbk [138, 130, 121, 112, 103, 94, 85, 76, 70, 58, 51, 47, 46, 29, 16, 13, 12, 11, 10, 9, 8, 3, 2, 1, 0] rfl (zbn ?_)))))))))))))
  refine zaq ?_
  refine zap ?_
  have hii : i = (arI (os.getD p oq0).k).toNat := by omega
  have hov : opV (os.getD p oq0) vs zs = 0 := by unfold opV; (repeat' split) <;> first | rfl | (exfalso; omega) | omega
  exact zcx (rs := [.tmp 8, .tmp 9]) (vs := [.int .i64 (bits .and .i64 0 (wmK x)), .int .i64 ((argE (evE os vs x f) (p + 1) i).2 : Int)]) (post := []) rfl ⟨rfl, rfl, trivial⟩ rfl ((.cons _ (.cons _ .slnil))) ⟨by rw [show evE os vs x (f + 1) p = (bits .and .i64 (opV (os.getD p oq0) vs (argE (evE os vs x f) (p + 1) (arI (os.getD p oq0).k).toNat).1) (wmK x), (argE (evE os vs x f) (p + 1) (arI (os.getD p oq0).k).toNat).2) from rfl, ← hii, ← hz, hov]; rfl, rfl⟩
 refine zah 1 rfl (zbk [130, 121, 112, 103, 94, 85, 76, 70, 58, 51, 47, 46, 29, 16, 13, 12, 11, 10, 9, 8, 3, 2, 1, 0] rfl (zbn (zaq (zar rfl (zag (zao ?_))))))
 refine zbt rfl rfl rfl rfl rfl rfl (fun h23 => ?_) (fun h23 => ?_)
 ·
  refine zah 1 rfl (zbk [139, 130, 121, 112, 103, 94, 85, 76, 70, 58, 51, 47, 46, 29, 16, 13, 12, 11, 10, 9, 8, 3, 2, 1, 0] rfl (zbn (zaq (zai rfl (zag (zao (zah 1 rfl (zfa rfl rfl rfl (zdd (s := 1) rfl Try.underlying48 (by kernel_rfl) rfl rfl (zaj 0 rfl) (by omega) (by omega)) (zfa rfl rfl rfl (zam (u := .int .i64 (zs.getD 2 0)) rfl (by kernel_rfl) rfl (zaj 0 rfl) (zby (show _ < zs.length by omega))) (zah 1 rfl (zbk [139, 130, 121, 112, 103, 94, 85, 76, 70, 58, 51, 47, 46, 29, 16, 13, 12, 11, 10, 9, 8, 3, 2, 1, 0] rfl (zbn (zaq ?_)))))))))))))
  refine zag (zao (zah 1 rfl (zfa rfl rfl rfl (zdd (s := 1) rfl Try.underlying48 (by kernel_rfl) rfl rfl (zaj 0 rfl) (by omega) (by omega)) (zfa rfl rfl rfl (zam (u := .int .i64 (zs.getD 0 0)) rfl (by kernel_rfl) rfl (zaj 0 rfl) (zby (show _ < zs.length by omega))) ?_))))
  refine zfx rfl rfl rfl rfl rfl rfl (fun h24 => ?_) (fun h24 => ?_)
  ·
   refine zbk [147, 139, 130, 121, 112, 103, 94, 85, 76, 70, 58, 51, 47, 46, 29, 16, 13, 12, 11, 10, 9, 8, 3, 2, 1, 0] rfl (zbn (zaq (zai rfl (zao (zah 1 rfl (zfa rfl rfl rfl (zdd (s := 1) rfl Try.underlying48 (by kernel_rfl) rfl rfl (zaj 0 rfl) (by omega) (by omega)) (zfa rfl rfl rfl (zam (u := .int .i64 (zs.getD 1 0)) rfl (by kernel_rfl) rfl (zaj 0 rfl) (zby (show _ < zs.length by omega))) (zah 1 rfl (zbk [147, 139, 130, 121, 112, 103, 94, 85, 76, 70, 58, 51, 47, 46, 29, 16, 13, 12, 11, 10, 9, 8, 3, 2, 1, 0] rfl (zbn (zbp (zaq (zag ?_)))))))))))))
   refine zao (zah 2 rfl (zfa rfl rfl rfl (zdv rfl (by decide) rfl rfl (r := bits .and .i64 (zs.getD 1 0) (wmK x)) rfl) (zah 3 rfl (zbk [147, 139, 130, 121, 112, 103, 94, 85, 76, 70, 58, 51, 47, 46, 29, 16, 13, 12, 11, 10, 9, 8, 3, 2, 1, 0] rfl (zbn (zaq ?_))))))
   refine zap ?_
   have hii : i = (arI (os.getD p oq0).k).toNat := by omega
   have hov : opV (os.getD p oq0) vs zs = zs.getD 1 0 := by unfold opV; (repeat' split) <;> first | rfl | (exfalso; omega) | omega
   exact zcx (rs := [.tmp 8, .tmp 9]) (vs := [.int .i64 (bits .and .i64 (zs.getD 1 0) (wmK x)), .int .i64 ((argE (evE os vs x f) (p + 1) i).2 : Int)]) (post := []) rfl ⟨rfl, rfl, trivial⟩ rfl ((.cons _ (.cons _ .slnil))) ⟨by rw [show evE os vs x (f + 1) p = (bits .and .i64 (opV (os.getD p oq0) vs (argE (evE os vs x f) (p + 1) (arI (os.getD p oq0).k).toNat).1) (wmK x), (argE (evE os vs x f) (p + 1) (arI (os.getD p oq0).k).toNat).2) from rfl, ← hii, ← hz, hov]; rfl, rfl⟩
  refine zbk [147, 139, 130, 121, 112, 103, 94, 85, 76, 70, 58, 51, 47, 46, 29, 16, 13, 12, 11, 10, 9, 8, 3, 2, 1, 0] rfl (zbn (zaq (zar rfl (zft (zbp (zaq (zag (zao (zah 2 rfl (zfa rfl rfl rfl (zdv rfl (by decide) rfl rfl (r := bits .and .i64 (zs.getD 2 0) (wmK x)) rfl) (zah 3 rfl (zbk [147, 139, 130, 121, 112, 103, 94, 85, 76, 70, 58, 51, 47, 46, 29, 16, 13, 12, 11, 10, 9, 8, 3, 2, 1, 0] rfl (zbn ?_)))))))))))))
  refine zaq ?_
  refine zap ?_
  have hii : i = (arI (os.getD p oq0).k).toNat := by omega
  have hov : opV (os.getD p oq0) vs zs = zs.getD 2 0 := by unfold opV; (repeat' split) <;> first | rfl | (exfalso; omega) | omega
  exact zcx (rs := [.tmp 8, .tmp 9]) (vs := [.int .i64 (bits .and .i64 (zs.getD 2 0) (wmK x)), .int .i64 ((argE (evE os vs x f) (p + 1) i).2 : Int)]) (post := []) rfl ⟨rfl, rfl, trivial⟩ rfl ((.cons _ (.cons _ .slnil))) ⟨by rw [show evE os vs x (f + 1) p = (bits .and .i64 (opV (os.getD p oq0) vs (argE (evE os vs x f) (p + 1) (arI (os.getD p oq0).k).toNat).1) (wmK x), (argE (evE os vs x f) (p + 1) (arI (os.getD p oq0).k).toNat).2) from rfl, ← hii, ← hz, hov]; rfl, rfl⟩
 refine zah 1 rfl (zbk [139, 130, 121, 112, 103, 94, 85, 76, 70, 58, 51, 47, 46, 29, 16, 13, 12, 11, 10, 9, 8, 3, 2, 1, 0] rfl (zbn (zaq (zar rfl (zft (zbp (zaq (zag (zao (zah 2 rfl (zfa rfl rfl rfl (zdv rfl (by decide) rfl rfl (r := bits .and .i64 0 (wmK x)) rfl) (zah 3 rfl (zbk [139, 130, 121, 112, 103, 94, 85, 76, 70, 58, 51, 47, 46, 29, 16, 13, 12, 11, 10, 9, 8, 3, 2, 1, 0] rfl ?_)))))))))))))
 refine zbn (zaq ?_)
 refine zap ?_
 have hii : i = (arI (os.getD p oq0).k).toNat := by omega
 have hov : opV (os.getD p oq0) vs zs = 0 := by unfold opV; (repeat' split) <;> first | rfl | (exfalso; omega) | omega
 exact zcx (rs := [.tmp 8, .tmp 9]) (vs := [.int .i64 (bits .and .i64 0 (wmK x)), .int .i64 ((argE (evE os vs x f) (p + 1) i).2 : Int)]) (post := []) rfl ⟨rfl, rfl, trivial⟩ rfl ((.cons _ (.cons _ .slnil))) ⟨by rw [show evE os vs x (f + 1) p = (bits .and .i64 (opV (os.getD p oq0) vs (argE (evE os vs x f) (p + 1) (arI (os.getD p oq0).k).toNat).1) (wmK x), (argE (evE os vs x f) (p + 1) (arI (os.getD p oq0).k).toNat).2) from rfl, ← hii, ← hz, hov]; rfl, rfl⟩
theorem exprAt_ret (os : List Oq) (vs : List Int) (x : Int) (v u : Value) (hok : OpsP vs.length os) (hx : 0 ≤ x ∧ x ≤ 4) : ∀ (f p : Nat), os.length - p ≤ f → p < os.length → ∀ (w : World), RdsW w v 3 os.length (os.flatMap oqC) → RdsW w u 1 vs.length (vs.map (Value.int .i64)) →
    Calls Try.prog 104 #[v, .int .i64 (p : Int), u, .int .i64 x] w (Ret w (fun u_ p_ => u_ = .tuple #[.int .i64 (evE os vs x f p).1, .int .i64 ((evE os vs x f p).2 : Int)] ∧ p_ = []))
  | 0, p, h, hp, w, hv, hu => by omega
  | f + 1, p, h, hp, w, hv, hu => exprAt_step os vs x f p v u w hv hu hok hp h hx (fun q h1 h2 w2 hv2 hu2 => exprAt_ret os vs x v u hok hx f q (by omega) h2 w2 hv2 hu2)
theorem readsSignal_ans (os : List Oq) (s : Int) (v : Value) (w : World) (hv : RdsW w v 3 os.length (os.flatMap oqC)) :
   Calls Try.prog 115 #[v, .int .i64 s] w (Ans w (.bool (pB (RdS os s)))) := by
 have hv9 := sml hv
 refine zca (N := 28) (args := [v, .int .i64 s]) Try.func115 rfl rfl (zbf 1 rfl (zag (zag (reQ 1 rfl (hvQ rfl (lnQ rfl rfl rfl (zae hv)) (zah 1 rfl (?_)))))))
 refine ntQ (zaz ?_)
 refine lkQ1 (α := Nat) [0, 1, 4, 7, 8] rfl (fun i => []) (fun i => [(9, .int .i64 (i : Int))]) (fun i => i ≤ os.length ∧ ∀ q, q < i → ¬ (((os.getD q oq0).k = 2 ∨ (os.getD q oq0).k = 3) ∧ (os.getD q oq0).a = s)) (fun i => os.length - i) 0 ⟨Nat.zero_le _, fun q hq => absurd hq (by omega)⟩ (saQ rfl) (.slnil) ?_
 intro i hi1
 obtain ⟨hi, hall⟩ := hi1
 refine srQ ?_
 refine zbq rfl rfl rfl rfl rfl rfl (fun h2 => ?_) (fun h2 => ?_)
 ·
  refine ntQ (tcQ rfl (zcy (sbQ (srQ (hvQ rfl (riQ 3 rfl rfl rfl rfl (zae hv)) ?_)))))
  refine hvQ rfl (zbm (us := [.int .i64 ((os.getD i oq0).k), .int .i64 ((os.getD i oq0).a), .int .i64 ((os.getD i oq0).b)]) rfl rfl rfl rfl (zae hv) (by omega) rfl (zbz oqC 3 (fun _ => rfl) os oq0 (show i < _ by omega) rfl)) (zdm rfl (zbe (z := .agg #[.int .i64 0, .int .i64 0, .int .i64 0]) rfl rfl) ?_)
  intro b3
  refine zbd (cs' := #[.int .i64 ((os.getD i oq0).k), .int .i64 ((os.getD i oq0).a), .int .i64 ((os.getD i oq0).b)]) (i := 0) (off := 0) (us := [.int .i64 ((os.getD i oq0).k), .int .i64 ((os.getD i oq0).a), .int .i64 ((os.getD i oq0).b)]) rfl rfl rfl rfl rfl rfl rfl (zab rfl (zab rfl (zab rfl zbc))) rfl rfl rfl (ntQ (srQ (hvQ rfl (fdQ 0 rfl rfl rfl) (hvQ rfl (zad rfl rfl rfl (zaa 0 rfl rfl)) ?_))))
  refine zbt rfl rfl rfl rfl rfl rfl (fun h4 => ?_) (fun h4 => ?_)
  ·
   refine zah 6 rfl (hvQ rfl (fdQ 1 rfl rfl rfl) (hvQ rfl (zad rfl rfl rfl (zaa 0 rfl rfl)) (zah 1 rfl ?_)))
   refine zbt rfl rfl rfl rfl rfl rfl (fun h5 => ?_) (fun h5 => ?_)
   ·
    refine zbb 1 rfl (zai rfl (zbf 1 rfl ?_))
    refine zap (zac ?_)
    refine zdy ?_
    refine zac (zaf ?_)
    exact zay rfl rfl (congrArg _ (zdl ⟨i, by omega, by omega, by omega⟩).symm)
   refine zbb 1 rfl (fsQ rfl (zde (zao (hvQ rfl (vaQ rfl rfl rfl) (enQ 1 rfl ?_)))))
   exact zbw (i + 1) ⟨by omega, fun q hq => by by_cases e : q = i; (subst e; omega); exact hall q (by omega)⟩ (by omega) (saQ rfl) (slQ [] rfl)
  refine zah 1 rfl (hvQ rfl (fdQ 0 rfl rfl rfl) (hvQ rfl (zad rfl rfl rfl (zaa 0 rfl rfl)) ?_))
  refine zbt rfl rfl rfl rfl rfl rfl (fun h6 => ?_) (fun h6 => ?_)
  ·
   refine zah 2 rfl (hvQ rfl (fdQ 1 rfl rfl rfl) (hvQ rfl (zad rfl rfl rfl (zaa 0 rfl rfl)) (zah 1 rfl ?_)))
   refine zbt rfl rfl rfl rfl rfl rfl (fun h7 => ?_) (fun h7 => ?_)
   ·
    refine zbb 1 rfl (zai rfl (zbf 1 rfl ?_))
    refine zap (zac ?_)
    refine zdy ?_
    refine zac (zaf ?_)
    exact zay rfl rfl (congrArg _ (zdl ⟨i, by omega, by omega, by omega⟩).symm)
   refine zbb 1 rfl (fsQ rfl (zde (zao (hvQ rfl (vaQ rfl rfl rfl) (enQ 1 rfl ?_)))))
   exact zbw (i + 1) ⟨by omega, fun q hq => by by_cases e : q = i; (subst e; omega); exact hall q (by omega)⟩ (by omega) (saQ rfl) (slQ [] rfl)
  refine zbb 7 rfl (fsQ rfl (zde (zao ?_)))
  refine hvQ rfl (vaQ rfl rfl rfl) (enQ 1 rfl ?_)
  exact zbw (i + 1) ⟨by omega, fun q hq => by by_cases e : q = i; (subst e; omega); exact hall q (by omega)⟩ (by omega) (saQ rfl) (slQ [] rfl)
 refine ntQ (fcQ rfl ?_)
 refine zbl (zdx ?_)
 refine zan (zaq (zbf 1 rfl ?_))
 exact zap (zay rfl rfl (congrArg _ (zcd (fun hp => by first | (obtain ⟨q, h1, h2, h3⟩ := hp; exact hall q (by omega) ⟨h2, h3⟩))).symm))
theorem hasParam_ans (os : List Oq) (v : Value) (w : World) (hv : RdsW w v 3 os.length (os.flatMap oqC)) :
   Calls Try.prog 73 #[v] w (Ans w (.bool (pB (HpP os)))) := by
 have hv9 := sml hv
 refine zca (N := 15) (args := [v]) Try.func73 rfl rfl (zbf 1 rfl (zag (zag (reQ 1 rfl (hvQ rfl (lnQ rfl rfl rfl (zae hv)) (zah 1 rfl (?_)))))))
 refine ntQ (zaz ?_)
 refine lkQ1 (α := Nat) [0, 2, 5, 6] rfl (fun i => []) (fun i => [(7, .int .i64 (i : Int))]) (fun i => i ≤ os.length ∧ ∀ q, q < i → (os.getD q oq0).k ≠ 1) (fun i => os.length - i) 0 ⟨Nat.zero_le _, fun q hq => absurd hq (by omega)⟩ (saQ rfl) (.slnil) ?_
 intro i hi1
 obtain ⟨hi, hall⟩ := hi1
 refine srQ ?_
 refine zbq rfl rfl rfl rfl rfl rfl (fun h2 => ?_) (fun h2 => ?_)
 ·
  refine ntQ (tcQ rfl (zcy (sbQ (srQ (hvQ rfl (riQ 3 rfl rfl rfl rfl (zae hv)) ?_)))))
  refine hvQ rfl (zbm (us := [.int .i64 ((os.getD i oq0).k), .int .i64 ((os.getD i oq0).a), .int .i64 ((os.getD i oq0).b)]) rfl rfl rfl rfl (zae hv) (by omega) rfl (zbz oqC 3 (fun _ => rfl) os oq0 (show i < _ by omega) rfl)) (zdm rfl (zbe (z := .agg #[.int .i64 0, .int .i64 0, .int .i64 0]) rfl rfl) ?_)
  intro b3
  refine zbd (cs' := #[.int .i64 ((os.getD i oq0).k), .int .i64 ((os.getD i oq0).a), .int .i64 ((os.getD i oq0).b)]) (i := 0) (off := 0) (us := [.int .i64 ((os.getD i oq0).k), .int .i64 ((os.getD i oq0).a), .int .i64 ((os.getD i oq0).b)]) rfl rfl rfl rfl rfl rfl rfl (zab rfl (zab rfl (zab rfl zbc))) rfl rfl rfl (ntQ (srQ (hvQ rfl (fdQ 0 rfl rfl rfl) (hvQ rfl (zad rfl rfl rfl (zaa 0 rfl rfl)) ?_))))
  refine zbt rfl rfl rfl rfl rfl rfl (fun h4 => ?_) (fun h4 => ?_)
  ·
   refine ntQ (zai rfl (zbf 1 rfl ?_))
   refine zap (zac ?_)
   refine zdy ?_
   refine zac (zaf ?_)
   exact zay rfl rfl (congrArg _ (zdl ⟨i, by omega, by omega⟩).symm)
  refine ntQ (fsQ rfl (zde (zao (hvQ rfl (vaQ rfl rfl rfl) (enQ 1 rfl ?_)))))
  exact zbw (i + 1) ⟨by omega, fun q hq => by by_cases e : q = i; (subst e; omega); exact hall q (by omega)⟩ (by omega) (saQ rfl) (slQ [] rfl)
 refine ntQ (fcQ rfl ?_)
 refine zbl (zdx ?_)
 refine zan (zaq (zbf 1 rfl ?_))
 exact zap (zay rfl rfl (congrArg _ (zcd (fun hp => by first | (obtain ⟨q, h1, h2⟩ := hp; exact hall q (by omega) h2))).symm))
theorem sumInts_ans (L : List Int) (v : Value) (w : World) (hv : RdsW w v 1 L.length (L.map (Value.int .i64))) (hr : ∀ x ∈ L, 0 ≤ x ∧ x ≤ 4) (hl : L.length ≤ 30) :
   Calls Try.prog 74 #[v] w (Ans w (.int .i64 (sumZ L))) := by
 refine zca (N := 17) (args := [v]) Try.func74 rfl rfl (zbf 1 rfl (zbf 1 rfl (zag ?_)))
 refine zag (reQ 1 rfl (hvQ rfl (lnQ rfl rfl rfl (zae hv)) (zbb 1 rfl (zaz ?_))))
 refine lkQ2 (α := Nat) (β := Int) [0, 2, 6, 7] rfl (fun i c => []) (fun i c => [(3, .int .i64 c), (8, .int .i64 (i : Int))]) (fun i c => i ≤ L.length ∧ c = sumA L i) (fun i c => L.length - i) 0 0 ⟨Nat.zero_le _, rfl⟩ (saQ rfl) (.slnil) ?_
 intro i c hi1
 obtain ⟨hi, hc⟩ := hi1
 have hsr := sumA_rng hr i hi
 have hx4 := fun h9 : i < L.length => hr _ (zcg (d := (0 : Int)) h9)
 refine srQ ?_
 refine zbq rfl rfl rfl rfl rfl rfl (fun h2 => ?_) (fun h2 => ?_)
 ·
  refine ntQ (tcQ rfl (zcy (sbQ (srQ (hvQ rfl (riQ 1 rfl rfl rfl rfl (zae hv)) (hvQ rfl (liQ rfl rfl rfl (zae hv)) (zah 1 rfl ?_)))))))
  refine ntQ (zao ?_)
  have hx5 := hx4 (by omega)
  refine zah 2 rfl (hvQ rfl (vaQ rfl rfl rfl) (enQ 1 rfl (zde (zao (hvQ rfl (vaQ rfl rfl rfl) (enQ 1 rfl ?_))))))
  exact zcw (i + 1) (c + (L.getD i 0)) ⟨by omega, by show _ = sumA L i + L.getD i 0; omega⟩ (by omega) (saQ rfl) (.slnil)
 refine ntQ (fcQ rfl ?_)
 refine zbl (zdx ?_)
 refine zan (zaq (zbf 2 rfl ?_))
 exact zap (zay rfl rfl (congrArg (Value.int .i64) (by unfold sumZ; rw [hc, show i = L.length by omega])))
theorem l06Sum_ans (L : List Int) (v : Value) (w : World) (hv : RdsW w v 1 L.length (L.map (Value.int .i64))) (hr : ∀ x ∈ L, 0 ≤ x ∧ x ≤ 4) (hl : L.length ≤ 30) :
   Calls Try.prog 118 #[v] w (Ans w (.int .i64 (sumZ L))) := by
 refine zca (N := 18) (args := [v]) Try.func118 rfl rfl (zbf 1 rfl (zbf 1 rfl (zag ?_)))
 refine zbf 1 rfl (zaz ?_)
 refine lkQ2 (α := Nat) (β := Int) [0, 2] rfl (fun i c => []) (fun i c => [(3, .int .i64 c), (4, .int .i64 (i : Int))]) (fun i c => i ≤ L.length ∧ c = sumA L i) (fun i c => L.length - i) 0 0 ⟨Nat.zero_le _, rfl⟩ (saQ rfl) (.slnil) ?_
 intro i c hi1
 obtain ⟨hi, hc⟩ := hi1
 have hsr := sumA_rng hr i hi
 have hx4 := fun h9 : i < L.length => hr _ (zcg (d := (0 : Int)) h9)
 refine zag (zag (reQ 2 rfl (hvQ rfl (lnQ rfl rfl rfl (zae hv)) ?_)))
 refine zbq rfl rfl rfl rfl rfl rfl (fun h2 => ?_) (fun h2 => ?_)
 ·
  refine ntQ (zai rfl (zcy (sbQ (zao ?_))))
  have hx5 := hx4 (by omega)
  refine zah 3 rfl (hvQ rfl (riQ 1 rfl rfl rfl rfl (zae hv)) (hvQ rfl (liQ rfl rfl rfl (zae hv)) (hvQ rfl (vaQ rfl rfl rfl) (enQ 1 rfl (zde (reQ 1 rfl (hvQ rfl (vaQ rfl rfl rfl) (zah 1 rfl ?_))))))))
  exact zbn (zcw (i + 1) (c + (L.getD i 0)) ⟨by omega, by show _ = sumA L i + L.getD i 0; omega⟩ (by omega) (saQ rfl) (.slnil))
 refine ntQ (zar rfl ?_)
 refine zbl (zdx ?_)
 refine zan (zaq (zbf 2 rfl ?_))
 exact zap (zay rfl rfl (congrArg (Value.int .i64) (by unfold sumZ; rw [hc, show i = L.length by omega])))
theorem zel (m : Md) (c : Int) (w : World) (hr : RdsMd w m) :
   Calls Try.prog 65 #[.agg #[m.sv, m.av, m.iv, m.mv], .int .i64 c] w (Ret w (fun v' post => post = [rowE 3 1 v' ((pwK m c)).length (((pwK m c)).map (Value.int .i64))])) := by
 have hs9 := sml hr.s
 refine zca (N := 30) (args := [.agg #[m.sv, m.av, m.iv, m.mv], .int .i64 c]) Try.func65 rfl rfl (srQ ?_)
 refine zdm rfl (zdk rfl rfl) ?_
 intro b1
 refine zdp 3 1 (zbb 1 rfl (zfn (hvQ rfl (fdQ 0 rfl rfl rfl) (hvQ rfl (zad rfl rfl rfl (zaa 1 rfl rfl)) (hvQ rfl (lnQ rfl rfl rfl (zae ((hr).s))) ?_)))))
 refine zeb rfl rfl rfl rfl rfl rfl (fun h3 => ?_) (fun h3 => ?_)
 ·
  refine ntQ (zai rfl (srQ ?_))
  refine zdp 3 1 (zbb 1 rfl ?_)
  refine zap (zaf ?_)
  exact zfi (post := [rowE 3 1 (.slice none 0 0) 0 ([])]) rfl rfl (slQ [0] rfl) (by unfold pwK; rw [if_neg (by omega)] <;> rfl)
 refine ntQ (zar rfl (zcy (srQ ?_)))
 refine zdp 3 1 (zbb 1 rfl (zfn (hvQ rfl (fdQ 0 rfl rfl rfl) (hvQ rfl (zad rfl rfl rfl (zaa 2 rfl rfl)) (hvQ rfl (lnQ rfl rfl rfl (zae ((hr).s))) (zbb 1 rfl ?_))))))
 refine zaz ?_
 refine lkQ3 (α := Nat) (β := Value) (γ := List Int) [0, 1, 2, 4, 11, 13, 14] rfl (fun i gu zs => [rowE 3 1 gu zs.length (zs.map (Value.int .i64)), rowE 3 1 (.slice none 0 0) 0 ([]), boxE b1 #[m.sv, m.av, m.iv, m.mv] 35]) (fun i gu zs => [(5, gu), (15, .int .i64 (i : Int))]) (fun i gu zs => i ≤ m.ss.length ∧ zs = pwA m.ss c i) (fun i gu zs => m.ss.length - i) 0 _ [] ⟨Nat.zero_le _, rfl⟩ (saQ rfl) (pfQ rfl) ?_
 intro i gu zs hi6
 obtain ⟨hi, hz⟩ := hi6
 have hzl : zs.length ≤ i := by rw [hz]; exact pwA_le _ _ _
 refine srQ ?_
 refine zbq rfl rfl rfl rfl rfl rfl (fun h7 => ?_) (fun h7 => ?_)
 ·
  refine ntQ (tcQ rfl (zcy (sbQ (srQ (hvQ rfl (riQ 3 rfl rfl rfl rfl (zae ((hr).s))) ?_)))))
  refine hvQ rfl (zbm (us := [.int .i64 ((m.ss.getD i sg0).k), .int .i64 ((m.ss.getD i sg0).w), .int .i64 ((m.ss.getD i sg0).i)]) rfl rfl rfl rfl (zae ((hr).s)) (by omega) rfl (zbz sgC 3 (fun _ => rfl) m.ss sg0 (show i < _ by omega) rfl)) (zdm rfl (zbe (z := .agg #[.int .i64 0, .int .i64 0, .int .i64 0]) rfl rfl) ?_)
  intro b8
  refine zbd (cs' := #[.int .i64 ((m.ss.getD i sg0).k), .int .i64 ((m.ss.getD i sg0).w), .int .i64 ((m.ss.getD i sg0).i)]) (i := 0) (off := 0) (us := [.int .i64 ((m.ss.getD i sg0).k), .int .i64 ((m.ss.getD i sg0).w), .int .i64 ((m.ss.getD i sg0).i)]) rfl rfl rfl rfl rfl rfl rfl (zab rfl (zab rfl (zab rfl zbc))) rfl rfl rfl (ntQ (srQ (hvQ rfl (fdQ 0 rfl rfl rfl) (hvQ rfl (zad rfl rfl rfl (zaa 0 rfl rfl)) (zah 1 rfl ?_)))))
  refine zbt rfl rfl rfl rfl rfl rfl (fun h9 => ?_) (fun h9 => ?_)
  ·
   refine ntQ (zai rfl (reQ 1 rfl (hvQ rfl (fdQ 1 rfl rfl rfl) (hvQ rfl (zad rfl rfl rfl (zaa 0 rfl rfl)) ?_))))
   refine zdt rfl (zal (z := .int .i64 0) (s := 1) (cs := ([(m.ss.getD i sg0).w].map (Value.int .i64))) rfl Try.underlying48 rfl (by decide) rfl (by kernel_rfl) rfl) ?_
   intro g10
   refine zcp (i := 2) (z := .int .i64 0) (bytes := 8) rfl rfl rfl rfl Try.underlying48 (by kernel_rfl) rfl rfl rfl rfl (zaj 0 rfl) (zch _) (by first | omega | (simp; done) | (simp; omega)) (zci zs ([(m.ss.getD i sg0).w])) (zcs zs ([(m.ss.getD i sg0).w])) (fun _ => rfl) ?_
   intro v11
   refine enQ 1 rfl (zde (zao (hvQ rfl (vaQ rfl rfl rfl) (enQ 1 rfl ?_))))
   exact zcn (i + 1) v11 (zs ++ ([(m.ss.getD i sg0).w])) ⟨by omega, by rw [hz]; exact pwA_yes (by omega)⟩ (by omega) (saQ rfl) (slQ [2, 0, 0] rfl)
  refine ntQ (fsQ rfl (zde (zao (hvQ rfl (vaQ rfl rfl rfl) (enQ 1 rfl ?_)))))
  exact zcn (i + 1) gu zs ⟨by omega, hz.trans (pwA_no (by omega))⟩ (by omega) (saQ rfl) (slQ [1, 0, 0] rfl)
 refine ntQ (fcQ rfl ?_)
 refine zbl (zdx ?_)
 refine zan (zaq (zbf 2 rfl ?_))
 exact zap (zfi (post := [rowE 3 1 gu zs.length (zs.map (Value.int .i64))]) rfl rfl (slQ [0] rfl) (by rw [hz, show i = m.ss.length by omega]; unfold pwK; rw [if_pos (by omega)]))
theorem zek (m : Md) (c : Int) (w : World) (hr : RdsMd w m) :
   Calls Try.prog 114 #[.agg #[m.sv, m.av, m.iv, m.mv], .int .i64 c] w (Ret w (fun v' post => post = [rowE 3 1 v' ((pwK m c)).length (((pwK m c)).map (Value.int .i64))])) := by
 have hs9 := sml hr.s
 refine zca (N := 38) (args := [.agg #[m.sv, m.av, m.iv, m.mv], .int .i64 c]) Try.func114 rfl rfl (srQ ?_)
 refine zdm rfl (zdk rfl rfl) ?_
 intro b1
 refine zbb 1 rfl (srQ ?_)
 refine zdt rfl (zdo (s := 1) rfl Try.underlying48 rfl) ?_
 intro g2
 refine zbb 1 rfl (zfn (hvQ rfl (fdQ 0 rfl rfl rfl) (hvQ rfl (zad rfl rfl rfl (zaa 1 rfl rfl)) (hvQ rfl (lnQ rfl rfl rfl (zae ((hr).s))) ?_))))
 refine zeb rfl rfl rfl rfl rfl rfl (fun h3 => ?_) (fun h3 => ?_)
 ·
  refine ntQ (zai rfl (zbf 2 rfl ?_))
  refine zap (zaf ?_)
  exact zfi (post := [rowE 3 1 (.slice (some ⟨g2, 0, none⟩) 0 0) 0 ([])]) rfl rfl (slQ [0] rfl) (by unfold pwK; rw [if_neg (by omega)] <;> rfl)
 refine ntQ (zar rfl (zcy (zag (zbf 1 rfl (zaz ?_)))))
 refine lkQ3 (α := Nat) (β := Value) (γ := List Int) [0, 1, 2, 4, 11] rfl (fun i gu zs => [rowE 3 1 gu zs.length (zs.map (Value.int .i64)), boxE b1 #[m.sv, m.av, m.iv, m.mv] 35]) (fun i gu zs => [(5, gu), (6, .int .i64 (i : Int))]) (fun i gu zs => i ≤ m.ss.length ∧ zs = pwA m.ss c i) (fun i gu zs => m.ss.length - i) 0 _ [] ⟨Nat.zero_le _, rfl⟩ (saQ rfl) (pfQ rfl) ?_
 intro i gu zs hi4
 obtain ⟨hi, hz⟩ := hi4
 have hzl : zs.length ≤ i := by rw [hz]; exact pwA_le _ _ _
 refine zag (zag (reQ 1 rfl (hvQ rfl (fdQ 0 rfl rfl rfl) (hvQ rfl (zad rfl rfl rfl (zaa 1 rfl rfl)) (hvQ rfl (lnQ rfl rfl rfl (zae ((hr).s))) ?_)))))
 refine zbq rfl rfl rfl rfl rfl rfl (fun h5 => ?_) (fun h5 => ?_)
 ·
  refine ntQ (zai rfl (zcy (sbQ (srQ (hvQ rfl (fdQ 0 rfl rfl rfl) (hvQ rfl (zad rfl rfl rfl (zaa 1 rfl rfl)) (zah 1 rfl (hvQ rfl (riQ 3 rfl rfl rfl rfl (zae ((hr).s))) ?_))))))))
  refine hvQ rfl (zau (k0 := 0) rfl rfl rfl (zae ((hr).s)) (by omega)) (hvQ rfl (zam (u := .int .i64 ((m.ss.getD i sg0).k)) rfl rfl rfl (zae ((hr).s)) ((zbi sgC 3 (fun _ => rfl) m.ss sg0 (show i < _ by omega) (by decide)).trans rfl)) ?_)
  refine zah 1 rfl (zbt rfl rfl rfl rfl rfl rfl (fun h6 => ?_) (fun h6 => ?_))
  ·
   refine ntQ (zai rfl (reQ 1 rfl (hvQ rfl (fdQ 0 rfl rfl rfl) (hvQ rfl (zad rfl rfl rfl (zaa 1 rfl rfl)) (zah 1 rfl (hvQ rfl (riQ 3 rfl rfl rfl rfl (zae ((hr).s))) (hvQ rfl (zau (k0 := 1) rfl rfl rfl (zae ((hr).s)) (by omega)) ?_)))))))
   refine hvQ rfl (zam (u := .int .i64 ((m.ss.getD i sg0).w)) rfl rfl rfl (zae ((hr).s)) ((zbi sgC 3 (fun _ => rfl) m.ss sg0 (show i < _ by omega) (by decide)).trans rfl)) (zdt rfl (zal (z := .int .i64 0) (s := 1) (cs := ([(m.ss.getD i sg0).w].map (Value.int .i64))) rfl Try.underlying48 rfl (by decide) rfl (by kernel_rfl) rfl) ?_)
   intro g7
   refine zcp (i := 1) (z := .int .i64 0) (bytes := 8) rfl rfl rfl rfl Try.underlying48 (by kernel_rfl) rfl rfl rfl rfl (zaj 0 rfl) (zch _) (by first | omega | (simp; done) | (simp; omega)) (zci zs ([(m.ss.getD i sg0).w])) (zcs zs ([(m.ss.getD i sg0).w])) (fun _ => rfl) ?_
   intro v8
   refine enQ 1 rfl (zde (reQ 1 rfl (hvQ rfl (vaQ rfl rfl rfl) (enQ 1 rfl ?_))))
   exact zcn (i + 1) v8 (zs ++ ([(m.ss.getD i sg0).w])) ⟨by omega, by rw [hz]; exact pwA_yes (by omega)⟩ (by omega) (saQ rfl) (slQ [1, 0] rfl)
  refine ntQ (fsQ rfl (zde (reQ 1 rfl (hvQ rfl (vaQ rfl rfl rfl) (enQ 1 rfl ?_)))))
  exact zcn (i + 1) gu zs ⟨by omega, hz.trans (pwA_no (by omega))⟩ (by omega) (saQ rfl) (pfQ rfl)
 refine ntQ (zar rfl ?_)
 refine zbl (zdx ?_)
 refine zan (zaq (zbf 2 rfl ?_))
 exact zap (zfi (post := [rowE 3 1 gu zs.length (zs.map (Value.int .i64))]) rfl rfl (slQ [0] rfl) (by rw [hz, show i = m.ss.length by omega]; unfold pwK; rw [if_pos (by omega)]))
theorem zfw (m : Md) (w : World) (hr : RdsMd w m) :
   Calls Try.prog 66 #[.agg #[m.sv, m.av, m.iv, m.mv]] w (Ret w (fun u_ p_ => ∃ v, u_ = .tuple #[v, .bool (pB (EoP m))] ∧ p_ = [rowE 3 1 v (eoK m).length ((eoK m).map (Value.int .i64))])) := by
 have hs9 := sml hr.s
 have hg9 := sml hr.g
 have hx9 := sml hr.x
 refine zca (N := 101) (args := [.agg #[m.sv, m.av, m.iv, m.mv]]) Try.func66 rfl rfl (srQ ?_)
 refine zdm rfl (zdk rfl rfl) ?_
 intro b1
 refine zdp 3 1 (zbb 2 rfl (zfn (hvQ rfl (fdQ 2 rfl rfl rfl) (hvQ rfl (zad rfl rfl rfl (zaa 1 rfl rfl)) (hvQ rfl (lnQ rfl rfl rfl (zae ((hr).x))) ?_)))))
 refine zeb rfl rfl rfl rfl rfl rfl (fun h3 => ?_) (fun h3 => ?_)
 ·
  refine zbb 7 rfl (zai rfl (srQ ?_))
  refine zdp 3 1 (zbb 2 rfl ?_)
  refine zap (zaf ?_)
  have hE : ¬ EoP m := fun hp => by first | (have := hp.1; omega) | exact absurd hp.2.1 (by assumption) | exact Can.stop (m := m) (T := zs) (fun e => by have h9 : zs.length = 0 := (by rw [e]; rfl); omega) (fun q hq => hnf q (by omega)) (hp.2.2.sub hzs)
  exact zcx (rs := [.tmp 2, .tmp 3]) (vs := [.slice none 0 0, .bool false]) (post := [rowE 3 1 (.slice none 0 0) 0 ([])]) rfl ⟨rfl, rfl, trivial⟩ rfl (slQ [0] rfl) ⟨_, by rw [zcd hE]; rfl, by rw [eoK_no hE]; rfl⟩
 refine zah 1 rfl (hvQ rfl (zax (cs := [m.sv, m.av, m.iv, m.mv]) rfl rfl rfl rfl rfl (zat 1 rfl 0 rfl)) ?_)
 refine zdt rfl (zal (z := .agg #[.slice none 0 0, .slice none 0 0, .slice none 0 0, .slice none 0 0]) (s := 4) (cs := [m.sv, m.av, m.iv, m.mv]) rfl Try.underlying24 rfl (by decide) rfl (by kernel_rfl) rfl) ?_
 intro g5
 refine hvQ rfl (zbh (cs := #[.slice (some ⟨g5, 0, none⟩) 1 1]) rfl rfl rfl) (zeq rfl (zaw rfl rfl (fun w hm => zbg (implDesignOk_ans [m] (.slice (some ⟨g5, 0, none⟩) 1 1) w ⟨zaj 0 rfl w hm, fun m9 h9 => by obtain rfl := List.mem_singleton.1 h9; exact hr.below hm.bel⟩))) ?_)
 refine zbs (fun h6 => ?_) (fun h6 => ?_)
 ·
  have h6p := zez h6
  refine zbb 2 rfl (zar rfl (zcy (srQ ?_)))
  have hdes : DesP [m] := by assumption
  have hgs : ∀ i, i < m.gs.length → AsP m (m.gs.getD i as0) := fun i hi => hdes.gs1 hi
  obtain ⟨hl1, hl2, hl3, hl4⟩ := hdes.len1
  refine zdp 3 1 (zah 1 rfl ?_)
  refine zdp 3 1 (zbb 1 rfl (zfn (hvQ rfl (fdQ 1 rfl rfl rfl) (hvQ rfl (zad rfl rfl rfl (zaa 4 rfl rfl)) (hvQ rfl (lnQ rfl rfl rfl (zae ((hr).g))) (zbb 1 rfl ?_))))))
  refine zaz ?_
  refine lkQ3 (α := Nat) (β := Value) (γ := List Int) [0, 1, 2, 3, 5, 24, 26, 27] rfl (fun i gt zs => [rowE 3 1 (.slice none 0 0) 0 ([]), rowE 3 1 gt zs.length (zs.map (Value.int .i64)), rowE 35 4 (.slice (some ⟨g5, 0, none⟩) 1 1) 1 ([m.sv, m.av, m.iv, m.mv]), rowE 3 1 (.slice none 0 0) 0 ([]), boxE b1 #[m.sv, m.av, m.iv, m.mv] 35]) (fun i gt zs => [(4, gt), (28, .int .i64 (i : Int))]) (fun i gt zs => i ≤ m.gs.length ∧ zs = todoA m i) (fun i gt zs => m.gs.length - i) 0 _ [] ⟨Nat.zero_le _, rfl⟩ (saQ rfl) (pfQ rfl) ?_
  intro i gt zs hi9
  obtain ⟨hi, hz⟩ := hi9
  have hzl : zs.length ≤ i := by rw [hz]; exact todoA_le _ _
  refine srQ ?_
  refine zbq rfl rfl rfl rfl rfl rfl (fun h10 => ?_) (fun h10 => ?_)
  ·
   refine ntQ (tcQ rfl (zcy (sbQ (zag (reQ 1 rfl (hvQ rfl (riQ 2 rfl rfl rfl rfl (zae ((hr).g))) ?_))))))
   refine hvQ rfl (zbm (us := [.int .i64 ((m.gs.getD i as0).t), (m.gs.getD i as0).ov]) rfl rfl rfl rfl (zae ((hr).g)) (by omega) rfl (zbz asC 2 (fun _ => rfl) m.gs as0 (show i < _ by omega) rfl)) (zdm rfl (zbe (z := .agg #[.int .i64 0, .slice none 0 0]) rfl rfl) ?_)
   intro b11
   refine zah 1 rfl (zbd (cs' := #[.int .i64 ((m.gs.getD i as0).t), (m.gs.getD i as0).ov]) (i := 0) (off := 0) (us := [.int .i64 ((m.gs.getD i as0).t), (m.gs.getD i as0).ov]) rfl rfl rfl rfl rfl rfl rfl (zab rfl (zab (hr.o.at (k := i) (by omega)).one zbc)) rfl rfl rfl ?_)
   refine ntQ (srQ ?_)
   have htg := (hgs i (by omega)).tgt
   refine hvQ rfl (fdQ 0 rfl rfl rfl) (hvQ rfl (zad rfl rfl rfl (zaa 5 rfl rfl)) (hvQ rfl (fdQ 0 rfl rfl rfl) (hvQ rfl (zad rfl rfl rfl (zaa 0 rfl rfl)) (hvQ rfl (riQ 3 rfl rfl rfl rfl (zae ((hr).s))) (hvQ rfl (zau (k0 := 0) rfl rfl rfl (zae ((hr).s)) (by omega)) ?_)))))
   refine hvQ rfl (zam (u := .int .i64 ((m.ss.getD (((m.gs.getD i as0).t).toNat) sg0).k)) rfl rfl rfl (zae ((hr).s)) ((zbi sgC 3 (fun _ => rfl) m.ss sg0 (show ((m.gs.getD i as0).t).toNat < _ by omega) (by decide)).trans rfl)) (zfx rfl rfl rfl rfl rfl rfl (fun h12 => ?_) (fun h12 => ?_))
   ·
    refine ntQ (zai rfl (reQ 2 rfl ?_))
    refine zdt rfl (zal (z := .int .i64 0) (s := 1) (cs := ([(i : Int)].map (Value.int .i64))) rfl Try.underlying48 rfl (by decide) rfl (by kernel_rfl) rfl) ?_
    intro g13
    refine zcp (i := 3) (z := .int .i64 0) (bytes := 8) rfl rfl rfl rfl Try.underlying48 (by kernel_rfl) rfl rfl rfl rfl (zaj 0 rfl) (zch _) (by first | omega | (simp; done) | (simp; omega)) (zci zs ([(i : Int)])) (zcs zs ([(i : Int)])) (fun _ => rfl) ?_
    intro v14
    refine enQ 1 rfl (zde (zao (hvQ rfl (vaQ rfl rfl rfl) (enQ 1 rfl ?_))))
    exact zcn (i + 1) v14 (zs ++ ([(i : Int)])) ⟨by omega, by rw [hz]; exact todoA_yes (by omega)⟩ (by omega) (saQ rfl) (slQ [2, 0, 0, 0, 0] rfl)
   refine ntQ (fsQ rfl (zde (zao (hvQ rfl (vaQ rfl rfl rfl) (enQ 1 rfl ?_)))))
   exact zcn (i + 1) gt zs ⟨by omega, hz.trans (todoA_no (by omega))⟩ (by omega) (saQ rfl) (slQ [1, 0, 0, 0, 0] rfl)
  refine ntQ (fcQ rfl ?_)
  refine zbl (zdx ?_)
  refine zan (zaq (sbQ ?_))
  refine lkQ4 (α := Value) (β := List Int) (γ := Value) (δ := List Int) [0, 1, 2, 3, 24, 26, 27, 28, 29] rfl (fun gu zs go ys => [rowE 3 1 go ys.length (ys.map (Value.int .i64)), rowE 3 1 gu zs.length (zs.map (Value.int .i64)), rowE 35 4 (.slice (some ⟨g5, 0, none⟩) 1 1) 1 ([m.sv, m.av, m.iv, m.mv]), rowE 3 1 (.slice none 0 0) 0 ([]), boxE b1 #[m.sv, m.av, m.iv, m.mv] 35]) (fun gu zs go ys => [(4, gu), (5, go)]) (fun gu zs go ys => (∀ x ∈ zs, x ∈ (todoA m m.gs.length)) ∧ (Can m zs → Can m (todoA m m.gs.length)) ∧ ys ++ ordK m zs = ordK m (todoA m m.gs.length) ∧ ys.length + zs.length ≤ 30) (fun gu zs go ys => zs.length) _ zs _ [] (by have e9 : i = m.gs.length := (by omega); rw [e9] at hz; rw [hz] at hzl ⊢; exact ⟨fun x hx => hx, fun h => h, rfl, by simp only [List.length_nil]; omega⟩) (saQ rfl) (pfQ rfl) ?_
  intro gu zs go ys hi15
  obtain ⟨hzs, hbk, hod, hln⟩ := hi15
  have hin : ∀ x ∈ zs, 0 ≤ x ∧ x < m.gs.length := fun x hx => by obtain ⟨j, h1, -, rfl⟩ := todoA_mem.1 (hzs x hx); omega
  refine zag (zag (reQ 1 rfl (hvQ rfl (lnQ rfl rfl rfl (zaj 1 rfl)) ?_)))
  refine zeb rfl rfl rfl rfl rfl rfl (fun h16 => ?_) (fun h16 => ?_)
  ·
   refine ntQ (zai rfl (zcy (zaz (zbf 1 rfl (zag ?_)))))
   refine zag (reQ 1 rfl (hvQ rfl (lnQ rfl rfl rfl (zaj 1 rfl)) (zbb 1 rfl (zaz ?_))))
   refine lkQ1 (α := Nat) [0, 1, 2, 3, 4, 5, 8, 24, 26, 27, 28, 29, 48, 49, 50] rfl (fun k => [rowE 3 1 go ys.length (ys.map (Value.int .i64)), rowE 3 1 gu zs.length (zs.map (Value.int .i64)), rowE 35 4 (.slice (some ⟨g5, 0, none⟩) 1 1) 1 ([m.sv, m.av, m.iv, m.mv]), rowE 3 1 (.slice none 0 0) 0 ([]), boxE b1 #[m.sv, m.av, m.iv, m.mv] 35]) (fun k => [(51, .int .i64 (k : Int))]) (fun k => k ≤ zs.length ∧ ∀ q, q < k → ¬ FreeP m zs (zs.getD q 0)) (fun k => zs.length - k) 0 ⟨Nat.zero_le _, fun q hq => absurd hq (by omega)⟩ (saQ rfl) (pfQ rfl) ?_
   intro k hi17
   obtain ⟨hk, hnf⟩ := hi17
   refine srQ ?_
   refine zbq rfl rfl rfl rfl rfl rfl (fun h18 => ?_) (fun h18 => ?_)
   ·
    refine ntQ (tcQ rfl (zcy (sbQ (srQ ?_))))
    have hkz := hin _ (zcg (d := (0 : Int)) (show k < zs.length by omega))
    refine zah 1 rfl (hvQ rfl (riQ 1 rfl rfl rfl rfl (zaj 1 rfl)) (hvQ rfl (liQ rfl rfl rfl (zaj 1 rfl)) (zbb 2 rfl (zbf 1 rfl (zag ?_)))))
    refine zag (reQ 1 rfl (hvQ rfl (lnQ rfl rfl rfl (zaj 1 rfl)) (zbb 1 rfl (zaz ?_))))
    refine lkQ2 (α := Nat) (β := Bool) [0, 1, 2, 3, 4, 5, 8, 9, 10, 24, 26, 27, 28, 29, 48, 49, 50, 51, 52, 56, 57] rfl (fun j c => [rowE 3 1 go ys.length (ys.map (Value.int .i64)), rowE 3 1 gu zs.length (zs.map (Value.int .i64)), rowE 35 4 (.slice (some ⟨g5, 0, none⟩) 1 1) 1 ([m.sv, m.av, m.iv, m.mv]), rowE 3 1 (.slice none 0 0) 0 ([]), boxE b1 #[m.sv, m.av, m.iv, m.mv] 35]) (fun j c => [(11, .bool c), (58, .int .i64 (j : Int))]) (fun j c => j ≤ zs.length ∧ c = frB m zs (zs.getD k 0) j) (fun j c => zs.length - j) 0 true ⟨Nat.zero_le _, frB_0.symm⟩ (saQ rfl) (pfQ rfl) ?_
    intro j c hi19
    obtain ⟨hj, hcf⟩ := hi19
    refine srQ ?_
    refine zbq rfl rfl rfl rfl rfl rfl (fun h20 => ?_) (fun h20 => ?_)
    ·
     refine ntQ (tcQ rfl (zcy (sbQ (srQ ?_))))
     have hjz := hin _ (zcg (d := (0 : Int)) (show j < zs.length by omega))
     refine hvQ rfl (riQ 1 rfl rfl rfl rfl (zaj 1 rfl)) (hvQ rfl (liQ rfl rfl rfl (zaj 1 rfl)) (zbb 1 rfl ?_))
     rcases Bool.eq_false_or_eq_true (c) with hb21 | hb21
     ·
      have hfr : j = zs.length → frB m zs (zs.getD k 0) zs.length = true := fun e9 => by rw [← e9, ← hcf]; exact hb21
      rcases Bool.eq_false_or_eq_true (pB (RdS (m.gs.getD (zs.getD k 0).toNat as0).os ((m.gs.getD ((zs.getD j 0).toNat) as0).t))) with hb22 | hb22
      ·
       have hb22p := zez hb22
       refine zbu 17 [[], [0], [1], [1, 2], [1], [1, 3, 4], [1, 5], [1, 6], [1], [1, 8], [1], [1, 9, 10], [1, 11], [1, 12], [1, 7, 13], [1, 14], [1, 15]] [62, 63, 64, 65, 66, 67, 68, 69, 70, 71, 72, 73, 74, 75, 76, 77, 78] [.bool true, .bool true, .pointer (some ⟨b1, 0 + 1, none⟩), m.av, .int .i64 (zs.getD k 0), elP m.av ((zs.getD k 0).toNat * 2), elP m.av ((zs.getD k 0).toNat * 2 + 1), (m.gs.getD ((zs.getD k 0).toNat) as0).ov, .pointer (some ⟨b1, 0 + 1, none⟩), m.av, .int .i64 (zs.getD j 0), elP m.av ((zs.getD j 0).toNat * 2), elP m.av ((zs.getD j 0).toNat * 2 + 0), .int .i64 ((m.gs.getD ((zs.getD j 0).toNat) as0).t), .bool true, .bool false, .bool false] (by kernel_rfl) rfl ?_ ?_
       ·
        exact ⟨.inl ⟨rfl, zdq (zav rfl) hb21⟩, iaQ rfl (zav rfl) rfl, iaQ rfl (fdQ 1 rfl rfl rfl) rfl, iaQ rfl (zad rfl rfl rfl (zaa 4 rfl rfl)) rfl, iaQ rfl (zav rfl) rfl, iaQ rfl (riQ 2 rfl rfl rfl rfl (zae ((hr).g))) rfl, iaQ rfl (zau (k0 := 1) rfl rfl rfl (zae ((hr).g)) (by omega)) rfl, iaQ rfl (zam (u := (m.gs.getD ((zs.getD k 0).toNat) as0).ov) rfl rfl rfl (zae ((hr).g)) ((zbi asC 2 (fun _ => rfl) m.gs as0 (show (zs.getD k 0).toNat < _ by omega) (by decide)).trans rfl)) rfl, iaQ rfl (fdQ 1 rfl rfl rfl) rfl, iaQ rfl (zad rfl rfl rfl (zaa 4 rfl rfl)) rfl, iaQ rfl (zav rfl) rfl, iaQ rfl (riQ 2 rfl rfl rfl rfl (zae ((hr).g))) rfl, iaQ rfl (zau (k0 := 0) rfl rfl rfl (zae ((hr).g)) (by omega)) rfl, iaQ rfl (zam (u := .int .i64 ((m.gs.getD ((zs.getD j 0).toNat) as0).t)) rfl rfl rfl (zae ((hr).g)) ((zbi asC 2 (fun _ => rfl) m.gs as0 (show (zs.getD j 0).toNat < _ by omega) (by decide)).trans rfl)) rfl, .inl ⟨rfl, rq_cb (zaw rfl rfl (fun w hm => zbg (readsSignal_ans (m.gs.getD (zs.getD k 0).toNat as0).os ((m.gs.getD ((zs.getD j 0).toNat) as0).t) _ w ((hr.o.at (by omega)).below hm.bel)))) hb22⟩, iaQ rfl (zav rfl) rfl, iaQ rfl (zav rfl) rfl, trivial⟩
       simp only [List.drop_succ_cons, List.drop_zero]
       refine enQ 1 rfl (zde (zao (hvQ rfl (vaQ rfl rfl rfl) (enQ 1 rfl ?_))))
       exact zcw (j + 1) false ⟨by omega, (by first | exact (frB_no (hcf.symm.trans (by assumption))).symm | exact (frB_f (by assumption)).symm)⟩ (by omega) (saQ rfl) (pfQ rfl)
      have hb22p := zec hb22
      refine zbu 17 [[], [0], [1], [1, 2], [1], [1, 3, 4], [1, 5], [1, 6], [1], [1, 8], [1], [1, 9, 10], [1, 11], [1, 12], [1, 7, 13], [1, 14], [1, 15]] [62, 63, 64, 65, 66, 67, 68, 69, 70, 71, 72, 73, 74, 75, 76, 77, 78] [.bool true, .bool true, .pointer (some ⟨b1, 0 + 1, none⟩), m.av, .int .i64 (zs.getD k 0), elP m.av ((zs.getD k 0).toNat * 2), elP m.av ((zs.getD k 0).toNat * 2 + 1), (m.gs.getD ((zs.getD k 0).toNat) as0).ov, .pointer (some ⟨b1, 0 + 1, none⟩), m.av, .int .i64 (zs.getD j 0), elP m.av ((zs.getD j 0).toNat * 2), elP m.av ((zs.getD j 0).toNat * 2 + 0), .int .i64 ((m.gs.getD ((zs.getD j 0).toNat) as0).t), .bool false, .bool true, .bool true] (by kernel_rfl) rfl ?_ ?_
      ·
       exact ⟨.inl ⟨rfl, zdq (zav rfl) hb21⟩, iaQ rfl (zav rfl) rfl, iaQ rfl (fdQ 1 rfl rfl rfl) rfl, iaQ rfl (zad rfl rfl rfl (zaa 4 rfl rfl)) rfl, iaQ rfl (zav rfl) rfl, iaQ rfl (riQ 2 rfl rfl rfl rfl (zae ((hr).g))) rfl, iaQ rfl (zau (k0 := 1) rfl rfl rfl (zae ((hr).g)) (by omega)) rfl, iaQ rfl (zam (u := (m.gs.getD ((zs.getD k 0).toNat) as0).ov) rfl rfl rfl (zae ((hr).g)) ((zbi asC 2 (fun _ => rfl) m.gs as0 (show (zs.getD k 0).toNat < _ by omega) (by decide)).trans rfl)) rfl, iaQ rfl (fdQ 1 rfl rfl rfl) rfl, iaQ rfl (zad rfl rfl rfl (zaa 4 rfl rfl)) rfl, iaQ rfl (zav rfl) rfl, iaQ rfl (riQ 2 rfl rfl rfl rfl (zae ((hr).g))) rfl, iaQ rfl (zau (k0 := 0) rfl rfl rfl (zae ((hr).g)) (by omega)) rfl, iaQ rfl (zam (u := .int .i64 ((m.gs.getD ((zs.getD j 0).toNat) as0).t)) rfl rfl rfl (zae ((hr).g)) ((zbi asC 2 (fun _ => rfl) m.gs as0 (show (zs.getD j 0).toNat < _ by omega) (by decide)).trans rfl)) rfl, .inl ⟨rfl, rq_cb (zaw rfl rfl (fun w hm => zbg (readsSignal_ans (m.gs.getD (zs.getD k 0).toNat as0).os ((m.gs.getD ((zs.getD j 0).toNat) as0).t) _ w ((hr.o.at (by omega)).below hm.bel)))) hb22⟩, iaQ rfl (zav rfl) rfl, iaQ rfl (zav rfl) rfl, trivial⟩
      simp only [List.drop_succ_cons, List.drop_zero]
      refine enQ 1 rfl (zde (zao (hvQ rfl (vaQ rfl rfl rfl) (enQ 1 rfl ?_))))
      exact zcw (j + 1) true ⟨by omega, (frB_t (hcf.symm.trans (by assumption)) (by assumption)).symm⟩ (by omega) (saQ rfl) (pfQ rfl)
     have hfr : j = zs.length → frB m zs (zs.getD k 0) zs.length = false := fun e9 => by rw [← e9, ← hcf]; exact hb21
     refine zbu 17 [[], [0], [1], [1], [1], [1], [1], [1], [1], [1], [1], [1], [1], [1], [1], [1], [1, 15]] [62, 63, 64, 65, 66, 67, 68, 69, 70, 71, 72, 73, 74, 75, 76, 77, 78] [.bool false, .bool false, undef, undef, undef, undef, undef, undef, undef, undef, undef, undef, undef, undef, undef, undef, .bool false] (by kernel_rfl) rfl ?_ ?_
     ·
      exact ⟨.inl ⟨rfl, zdq (zav rfl) hb21⟩, iaQ rfl (zav rfl) rfl, .inr ⟨rfl, rfl⟩, .inr ⟨rfl, rfl⟩, .inr ⟨rfl, rfl⟩, .inr ⟨rfl, rfl⟩, .inr ⟨rfl, rfl⟩, .inr ⟨rfl, rfl⟩, .inr ⟨rfl, rfl⟩, .inr ⟨rfl, rfl⟩, .inr ⟨rfl, rfl⟩, .inr ⟨rfl, rfl⟩, .inr ⟨rfl, rfl⟩, .inr ⟨rfl, rfl⟩, .inr ⟨rfl, rfl⟩, .inr ⟨rfl, rfl⟩, iaQ rfl (zav rfl) rfl, trivial⟩
     simp only [List.drop_succ_cons, List.drop_zero]
     refine enQ 1 rfl (zde (zao (hvQ rfl (vaQ rfl rfl rfl) (enQ 1 rfl ?_))))
     exact zcw (j + 1) false ⟨by omega, (by first | exact (frB_no (hcf.symm.trans (by assumption))).symm | exact (frB_f (by assumption)).symm)⟩ (by omega) (saQ rfl) (pfQ rfl)
    refine ntQ (fcQ rfl ?_)
    refine zbl (zdx ?_)
    refine zan (zaq (zag (reQ 1 rfl ?_)))
    refine zbs (fun h23 => ?_) (fun h23 => ?_)
    ·
     have hfr : j = zs.length → frB m zs (zs.getD k 0) zs.length = true := fun e9 => by rw [← e9, ← hcf]; exact h23
     refine ntQ (zai rfl (zbf 2 rfl ?_))
     refine zbl (hq_block_past rfl ?_)
     refine zdx ?_
     refine zan (zaq (zag (zag (reQ 1 rfl ?_))))
     refine zbq rfl rfl rfl rfl rfl rfl (fun h24 => absurd h24 (by omega)) (fun h24 => ?_)
     refine ntQ (zar rfl (zcy (zag (reQ 3 rfl (hvQ rfl (riQ 1 rfl rfl rfl rfl (zaj 1 rfl)) (hvQ rfl (liQ rfl rfl rfl (zaj 1 rfl)) ?_))))))
     refine zdt rfl (zal (z := .int .i64 0) (s := 1) (cs := ([zs.getD k 0].map (Value.int .i64))) rfl Try.underlying48 rfl (by decide) rfl (by kernel_rfl) rfl) ?_
     intro g25
     refine zcp (i := 1) (z := .int .i64 0) (bytes := 8) rfl rfl rfl rfl Try.underlying48 (by kernel_rfl) rfl rfl rfl rfl (zaj 0 rfl) (zch _) (by first | omega | (simp; done) | (simp; omega)) (zci ys ([zs.getD k 0])) (zcs ys ([zs.getD k 0])) (fun _ => rfl) ?_
     intro v26
     refine zbb 1 rfl ?_
     refine zbu 7 [[], [], [0, 1], [], [], [4], [3, 5]] [92, 93, 94, 95, 96, 97, 98] [gu, .int .i64 (k : Int), slV gu 0 ((k : Int)).toNat 1, gu, .int .i64 (k : Int), .int .i64 ((k : Int) + 1), slV gu ((k : Int) + 1).toNat zs.length 1] (by kernel_rfl) rfl ?_ ?_
     ·
      exact ⟨iaQ rfl (zav rfl) rfl, iaQ rfl (zav rfl) rfl, iaQ rfl (rv_slH rfl Try.underlying48 rfl rfl rfl (zaj 2 rfl) (by omega) (by omega)) rfl, iaQ rfl (zav rfl) rfl, iaQ rfl (zav rfl) rfl, iaQ rfl (vaQ rfl rfl rfl) rfl, iaQ rfl (rv_slL rfl Try.underlying48 rfl rfl rfl (zaj 2 rfl) (by omega) (by omega)) rfl, trivial⟩
     simp only [List.drop_succ_cons, List.drop_zero]
     refine hl_delete (i := 2) (k := ((k : Int)).toNat) (z := .int .i64 0) (bytes := 8) (n' := (zs.eraseIdx (((k : Int)).toNat)).length) (xs' := ((zs.eraseIdx (((k : Int)).toNat)).map (Value.int .i64))) (L := fun v27 => [rowE 3 1 (.slice (some ⟨g25, 0, none⟩) 1 1) 1 ([zs.getD k 0].map (Value.int .i64)), rowE 3 1 v26 ((ys ++ ([zs.getD k 0])).length) ((ys ++ ([zs.getD k 0])).map (Value.int .i64)), rowE 3 1 v27 ((zs.eraseIdx (((k : Int)).toNat)).length) ((zs.eraseIdx (((k : Int)).toNat)).map (Value.int .i64)), rowE 35 4 (.slice (some ⟨g5, 0, none⟩) 1 1) 1 ([m.sv, m.av, m.iv, m.mv]), rowE 3 1 (.slice none 0 0) 0 ([]), boxE b1 #[m.sv, m.av, m.iv, m.mv] 35]) rfl rfl rfl rfl Try.underlying48 rfl rfl rfl rfl rfl (by omega) (zch _) (by omega) (List.length_eraseIdx_of_lt (by omega)).symm (del_map zs (by omega)) (fun _ => rfl) (fun v27 => ?_)
     refine enQ 1 rfl (zbp ?_)
     exact zdr _ (zs.eraseIdx (((k : Int)).toNat)) _ (ys ++ ([zs.getD k 0])) ⟨fun x hx => hzs x (zfp hx), fun h => hbk (Can.back (by omega) (frB_yes (hfr (by omega))) h), by rw [← hod, ord_step (by omega) (frB_yes (hfr (by omega))) hnf]; simp, by rw [List.length_append, List.length_eraseIdx_of_lt (by omega)]; simp only [List.length_singleton]; omega⟩ (by rw [List.length_eraseIdx_of_lt (by omega)]; omega) (saQ rfl) (slQ [1, 0, 0, 0, 0] rfl)
    have hfr : j = zs.length → frB m zs (zs.getD k 0) zs.length = false := fun e9 => by rw [← e9, ← hcf]; exact h23
    refine ntQ (fsQ rfl (zde (zao (hvQ rfl (vaQ rfl rfl rfl) (enQ 1 rfl ?_)))))
    exact zbw (k + 1) ⟨by omega, fun q hq => by by_cases e : q = k; (subst e; exact frB_nn (hfr (by omega))); exact hnf q (by omega)⟩ (by omega) (saQ rfl) (pfQ rfl)
   refine ntQ (fcQ rfl ?_)
   refine zbl (zdx ?_)
   refine zan (zaq (zag (zag (reQ 1 rfl ?_))))
   refine zbq rfl rfl rfl rfl rfl rfl (fun h28 => ?_) (fun h28 => absurd h28 (by omega))
   refine ntQ (zai rfl (srQ ?_))
   refine zdp 3 1 (zbb 2 rfl ?_)
   refine zap (zaf ?_)
   refine zac (zaf ?_)
   refine zac (zaf ?_)
   have hE : ¬ EoP m := fun hp => by first | (have := hp.1; omega) | exact absurd hp.2.1 (by assumption) | exact Can.stop (m := m) (T := zs) (fun e => by have h9 : zs.length = 0 := (by rw [e]; rfl); omega) (fun q hq => hnf q (by omega)) (hp.2.2.sub hzs)
   exact zcx (rs := [.tmp 2, .tmp 3]) (vs := [.slice none 0 0, .bool false]) (post := [rowE 3 1 (.slice none 0 0) 0 ([])]) rfl ⟨rfl, rfl, trivial⟩ rfl (slQ [0] rfl) ⟨_, by rw [zcd hE]; rfl, by rw [eoK_no hE]; rfl⟩
  refine ntQ (zar rfl ?_)
  refine zbl (zdx ?_)
  refine zan (zaq (zbf 3 rfl ?_))
  refine zap ?_
  have hz0 : zs = [] := List.eq_nil_of_length_eq_zero (by omega)
  have hE : EoP m := ⟨by omega, hdes, hbk (by rw [hz0]; exact Can.nil m)⟩
  have hys : ys = eoK m := by rw [eoK_yes hE, ← hod, hz0, ord_nil, List.append_nil]
  exact zcx (rs := [.tmp 2, .tmp 3]) (vs := [go, .bool true]) (post := [rowE 3 1 go ys.length (ys.map (Value.int .i64))]) rfl ⟨rfl, rfl, trivial⟩ rfl (slQ [0] rfl) ⟨_, by rw [zdl hE]; rfl, by rw [hys]⟩
 have h6p := zec h6
 refine zbb 2 rfl (zai rfl (srQ ?_))
 refine zdp 3 1 (zbb 2 rfl ?_)
 refine zap (zaf ?_)
 have hE : ¬ EoP m := fun hp => by first | (have := hp.1; omega) | exact absurd hp.2.1 (by assumption) | exact Can.stop (m := m) (T := zs) (fun e => by have h9 : zs.length = 0 := (by rw [e]; rfl); omega) (fun q hq => hnf q (by omega)) (hp.2.2.sub hzs)
 exact zcx (rs := [.tmp 2, .tmp 3]) (vs := [.slice none 0 0, .bool false]) (post := [rowE 3 1 (.slice none 0 0) 0 ([])]) rfl ⟨rfl, rfl, trivial⟩ rfl (slQ [0] rfl) ⟨_, by rw [zcd hE]; rfl, by rw [eoK_no hE]; rfl⟩
theorem DesP.sg1 {m : Md} (h : DesP [m]) {i : Nat} (hi : i < m.ss.length) : SgP (m.ss.getD i sg0) := (h.2 0 (by simp)).sg i hi
theorem DesP.ms1 {m : Md} (h : DesP [m]) {i : Nat} (hi : i < m.ms.length) : MmP m (m.ms.getD i mm0) := (h.2 0 (by simp)).ms i hi
theorem pwK_rng {m : Md} (h : DesP [m]) (c : Int) : ∀ x ∈ pwK m c, 0 ≤ x ∧ x ≤ 4 := fun x hx => by
  unfold pwK at hx; split at hx
  · exact pwA_rng (fun q hq => (h.sg1 hq).2.1) _ (Nat.le_refl _) x hx
  · cases hx
theorem sumZ_rng {m : Md} (h : DesP [m]) (c : Int) : 0 ≤ sumZ (pwK m c) ∧ sumZ (pwK m c) ≤ 120 := by
  have h1 := sumA_rng (pwK_rng h c) _ (Nat.le_refl _)
  have h2 := pwK_le m c
  unfold sumZ; omega
theorem moA_rng {m : Md} (h : DesP [m]) : ∀ j, j ≤ m.ms.length → 0 ≤ moA m j ∧ moA m j ≤ 4 * j
  | 0, _ => ⟨Int.le_refl _, Int.le_refl _⟩
  | j + 1, hj => by
    have h1 := moA_rng h j (by omega)
    have h2 := (h.ms1 (show j < m.ms.length by omega)).2.inn
    have h3 := (h.sg1 (i := (m.ms.getD j mm0).o.toNat) (by have := h2.1; have := h2.2; omega)).2.1
    show 0 ≤ moA m j + _ ∧ moA m j + _ ≤ _
    omega
theorem memI {m : Md} (h : DesP [m]) {i : Nat} (hi : i < m.ms.length) : ((0 ≤ (m.ms.getD i mm0).a ∧ (m.ms.getD i mm0).a < m.ss.length) ∧ (0 ≤ (m.ms.getD i mm0).d ∧ (m.ms.getD i mm0).d < m.ss.length) ∧ 0 ≤ (m.ms.getD i mm0).w ∧ (m.ms.getD i mm0).w < m.ss.length) ∧ (0 ≤ (m.ms.getD i mm0).o ∧ (m.ms.getD i mm0).o < m.ss.length) ∧ 0 ≤ (m.ss.getD (m.ms.getD i mm0).o.toNat sg0).w ∧ (m.ss.getD (m.ms.getD i mm0).o.toNat sg0).w ≤ 4 := by
  have h1 := h.ms1 hi
  have h2 := h1.2.inn
  have h3 := (h.sg1 (i := (m.ms.getD i mm0).o.toNat) (by have := h2.1; have := h2.2; omega)).2.1
  exact ⟨h1.1, h2, h3⟩
end Go.Proofs.Ytodiifjigjnalaa
