/- Texts of the law FnRoutesApart, part 3: what it uses. -/
import Derived.Test.YtagjmgfcbmbkhaaRa2
set_option linter.unusedVariables false
set_option linter.unusedSimpArgs false
namespace Go.Proofs.Ytagjmgfcbmbkhaa
open Go.RowKit Go.ChangeShapes
open Go.RowKit
open Go.Maps
set_option maxHeartbeats 4000000 in
set_option maxRecDepth 100000 in
theorem lawsGet_ans (xs : List Int) (x : Int) (v : Value) (w : World) (hv : RdsW w v 1 xs.length (xs.map (Value.int .i64))) (hlen : xs.length ≤ 1000000000) :
  Calls Try.prog 15 #[v, .int .i64 x] w (Ans w (.int .i64 (getI xs x))) := by
 refine calls_hc (N := 17) (args := [v, .int .i64 x]) Try.func15 rfl rfl ?_
 refine hc_less _ (sx 0 rfl (sx 1 rfl (sub_nil _))) (.refl _) ?_
 refine hc_seq ?_
 refine hc_region ?_
 refine hl_v rfl rfl rfl (rv_ev rfl) ?_
 refine hl_less (sx 0 rfl (sx 1 rfl (sx 4 rfl (sub_nil _)))) (.refl _) ?_
 refine hl_nil ?_
 refine hq_then ?_
 refine hc_seq ?_
 refine hc_seq ?_
 refine hc_region ?_
 refine hl_v rfl rfl rfl (rv_ev rfl) ?_
 refine hl_lss rfl rfl rfl rfl rfl rfl (fun h1 => ?_) (fun h1 => ?_)
 ·
  refine hl_v rfl rfl rfl (rv_ev rfl) ?_
  refine hl_skip rfl rfl rfl ?_
  refine hl_skip rfl rfl rfl ?_
  refine hl_skip rfl rfl rfl ?_
  refine hl_skip rfl rfl rfl ?_
  refine hl_v rfl rfl rfl (rv_ev rfl) ?_
  refine hl_less (sx 0 rfl (sx 1 rfl (sx 4 rfl (sx 12 rfl (sub_nil _))))) (.refl _) ?_
  refine hl_nil ?_
  refine hq_then ?_
  refine hc_true rfl ?_
  refine hc_seq ?_
  refine hc_region ?_
  refine hl_v rfl rfl rfl (rv_ev rfl) ?_
  refine hl_less (sx 0 rfl (sx 1 rfl (sx 4 rfl (sx 12 rfl (sub_nil _))))) (.refl _) ?_
  refine hl_nil ?_
  refine hq_then ?_
  refine hc_ret ?_
  refine hq_then_ret ?_
  exact hq_ans rfl rfl (by unfold getI; rw [if_neg (by omega)])
 ·
  refine hl_v rfl rfl rfl (rv_ev rfl) ?_
  refine hl_v rfl rfl rfl (rv_ev rfl) ?_
  refine hl_v rfl rfl rfl (rv_ev rfl) ?_
  refine hl_v rfl rfl rfl (rv_len rfl Try.underlying26 rfl (rd_old hv)) ?_
  refine hl_geq rfl rfl rfl rfl rfl rfl (fun h2 => ?_) (fun h2 => ?_)
  ·
   refine hl_v rfl rfl rfl (rv_ev rfl) ?_
   refine hl_less (sx 0 rfl (sx 1 rfl (sx 4 rfl (sx 12 rfl (sub_nil _))))) (.refl _) ?_
   refine hl_nil ?_
   refine hq_then ?_
   refine hc_true rfl ?_
   refine hc_seq ?_
   refine hc_region ?_
   refine hl_v rfl rfl rfl (rv_ev rfl) ?_
   refine hl_less (sx 0 rfl (sx 1 rfl (sx 4 rfl (sx 12 rfl (sub_nil _))))) (.refl _) ?_
   refine hl_nil ?_
   refine hq_then ?_
   refine hc_ret ?_
   refine hq_then_ret ?_
   exact hq_ans rfl rfl (by unfold getI; rw [if_neg (by omega)])
  ·
   refine hl_v rfl rfl rfl (rv_ev rfl) ?_
   refine hl_less (sx 0 rfl (sx 1 rfl (sx 4 rfl (sx 12 rfl (sub_nil _))))) (.refl _) ?_
   refine hl_nil ?_
   refine hq_then ?_
   refine hc_false rfl ?_
   refine hc_skip ?_
   refine hq_then ?_
   refine hc_seq ?_
   refine hc_region ?_
   refine hl_v rfl rfl rfl (rv_ev rfl) ?_
   refine hl_v rfl rfl rfl (rv_ev rfl) ?_
   refine hl_v rfl rfl rfl (rv_index (s := 1) rfl Try.underlying26 (by kernel_rfl) rfl rfl (rd_old hv) (by omega) (by first | omega | (simp only [List.length_set]; omega))) ?_
   refine hl_v rfl rfl rfl (rv_loadEl (u := .int .i64 (xs.getD ((x).toNat) 0)) rfl (by kernel_rfl) rfl (rd_old hv) (ints_at1 (show _ < xs.length by first | omega | (simp only [List.length_set]; omega)))) ?_
   refine hl_v rfl rfl rfl (rv_ev rfl) ?_
   refine hl_less (sx 0 rfl (sx 1 rfl (sx 4 rfl (sx 12 rfl (sub_nil _))))) (.refl _) ?_
   refine hl_nil ?_
   refine hq_then ?_
   refine hc_ret ?_
   exact hq_ans rfl rfl (by unfold getI; rw [if_pos (by omega)])
open Go.RowKit
def isWireI (d : Dev) (n : Int) : Bool := nodeOkI d n && decide (7 ≤ n % perI d)
def inPinI (d : Dev) (t p : Int) : Int := if tOk d t = true ∧ 0 ≤ p ∧ p ≤ inPinsI (kindI d t) - 1 then t * perI d + p else -1
theorem inPins_rng (d : Dev) (t : Int) : 1 ≤ inPinsI (kindI d t) ∧ inPinsI (kindI d t) ≤ 5 := by
  rcases kind_cases d t with h | h | h <;> rw [h] <;> simp [inPinsI]
theorem isWire_rng {d : Dev} {n : Int} (h : isWireI d n = true) : devB d = true ∧ 0 ≤ n ∧ n ≤ allI d - 1 ∧ 7 ≤ n % perI d ∧ nodeOkI d n = true := by
  unfold isWireI at h
  rw [Bool.and_eq_true, decide_eq_true_eq] at h
  obtain ⟨a, b, c⟩ := nodeOk_rng h.1
  exact ⟨a, b, c, h.2, h.1⟩
set_option maxHeartbeats 4000000 in
set_option maxRecDepth 100000 in
theorem inPin_ans (d : Dev) (t p : Int) (w : World) (p0 : -1000 ≤ p) (p1 : p ≤ 1000) :
  Calls Try.prog 11 #[.agg #[.int .i64 d.W, .int .i64 d.H, .int .i64 d.T, .int .i64 d.R], .int .i64 t, .int .i64 p] w (Ans w (.int .i64 (inPinI d t p))) := by
 refine calls_hc (N := 27) (args := [.agg #[.int .i64 d.W, .int .i64 d.H, .int .i64 d.T, .int .i64 d.R], .int .i64 t, .int .i64 p]) Try.func11 rfl rfl ?_
 refine hc_less _ (sx 0 rfl (sx 1 rfl (sx 2 rfl (sub_nil _)))) (.refl _) ?_
 refine hc_seq ?_
 refine hc_region ?_
 refine hl_box rfl rfl rfl (rq_box rfl rfl) ?_
 intro b1
 refine hl_v rfl rfl rfl (rv_ev rfl) ?_
 refine hl_less (sx 0 rfl (sx 1 rfl (sx 2 rfl (sx 3 rfl (sx 6 rfl (sub_nil _)))))) (.refl _) ?_
 refine hl_nil ?_
 refine hq_then ?_
 refine hc_seq ?_
 refine hc_seq ?_
 refine hc_region ?_
 refine hl_v rfl rfl rfl (rv_loadN (cs := [.int .i64 d.W, .int .i64 d.H, .int .i64 d.T, .int .i64 d.R]) rfl (by kernel_rfl) (by kernel_rfl) rfl rfl (box_part 0 rfl 0 rfl)) ?_
 refine hl_v rfl rfl rfl (rv_ev rfl) ?_
 refine hl_callV rfl rfl rfl (rq_call (by kernel_rfl) rfl (fun w hm => ret_ans (implTileOk_any d _ w))) ?_
 refine hl_bool (fun h2 => ?_) (fun h2 => ?_)
 ·
  obtain ⟨hv, h2a, h2b⟩ := (tOk_iff _ _).1 h2
  have hor := inPins_rng d t
  have hpm := per_mul hv h2a h2b
  have h35 := tile_35 hv h2b
  refine hl_v rfl rfl rfl (rv_ev rfl) ?_
  refine hl_v rfl rfl rfl (rv_ev rfl) ?_
  refine hl_v rfl rfl rfl (rv_ev rfl) ?_
  refine hl_v rfl rfl rfl (rv_loadN (cs := [.int .i64 d.W, .int .i64 d.H, .int .i64 d.T, .int .i64 d.R]) rfl (by kernel_rfl) (by kernel_rfl) rfl rfl (box_part 0 rfl 0 rfl)) ?_
  refine hl_v rfl rfl rfl (rv_ev rfl) ?_
  refine hl_callV rfl rfl rfl (rq_call (by kernel_rfl) rfl (fun w hm => ret_ans (implTileKind0_any d _ hv (by omega) (by omega) w))) ?_
  refine hl_callV rfl rfl rfl (rq_call (by kernel_rfl) rfl (fun w hm => ret_ans (ans_of (inPins_any _ (kind_cases d _) w)))) ?_
  refine hl_v rfl rfl rfl (rv_sub rfl rfl rfl (by constructor <;> omega)) ?_
  refine hl_callV rfl rfl rfl (rq_call (by kernel_rfl) rfl (fun w hm => ret_ans (ans_of (inRange_any _ _ _ w)))) ?_
  refine hl_bool (fun h3 => ?_) (fun h3 => ?_)
  ·
   obtain ⟨h3a, h3b⟩ := (inR_iff _ _ _).1 h3
   refine hl_v rfl rfl rfl (rv_ev rfl) ?_
   refine hl_v rfl rfl rfl (rv_ev rfl) ?_
   refine hl_less (sx 0 rfl (sx 1 rfl (sx 2 rfl (sx 3 rfl (sx 6 rfl (sx 20 rfl (sub_nil _))))))) (.refl _) ?_
   refine hl_nil ?_
   refine hq_then ?_
   refine hc_false rfl ?_
   refine hc_skip ?_
   refine hq_then ?_
   refine hc_seq ?_
   refine hc_region ?_
   refine hl_v rfl rfl rfl (rv_ev rfl) ?_
   refine hl_v rfl rfl rfl (rv_loadN (cs := [.int .i64 d.W, .int .i64 d.H, .int .i64 d.T, .int .i64 d.R]) rfl (by kernel_rfl) (by kernel_rfl) rfl rfl (box_part 0 rfl 0 rfl)) ?_
   refine hl_callV rfl rfl rfl (rq_call (by kernel_rfl) rfl (fun w hm => ret_ans (implPer_any d hv w))) ?_
   refine hl_v rfl rfl rfl (rv_mul rfl rfl rfl (by constructor <;> omega)) ?_
   refine hl_v rfl rfl rfl (rv_ev rfl) ?_
   refine hl_v rfl rfl rfl (rv_add rfl rfl rfl (by constructor <;> omega)) ?_
   refine hl_v rfl rfl rfl (rv_ev rfl) ?_
   refine hl_less (sx 0 rfl (sx 1 rfl (sx 2 rfl (sx 3 rfl (sx 6 rfl (sx 20 rfl (sub_nil _))))))) (.refl _) ?_
   refine hl_nil ?_
   refine hq_then ?_
   refine hc_ret ?_
   exact hq_ans rfl rfl (by unfold inPinI; first | rw [if_pos ⟨by assumption, by omega, by omega⟩] | rw [if_neg (by rintro ⟨q1, q2, q3⟩; first | omega | simp_all)])
  ·
   have h3a := inR_not h3
   refine hl_v rfl rfl rfl (rv_ev rfl) ?_
   refine hl_v rfl rfl rfl (rv_ev rfl) ?_
   refine hl_less (sx 0 rfl (sx 1 rfl (sx 2 rfl (sx 3 rfl (sx 6 rfl (sx 20 rfl (sub_nil _))))))) (.refl _) ?_
   refine hl_nil ?_
   refine hq_then ?_
   refine hc_true rfl ?_
   refine hc_seq ?_
   refine hc_region ?_
   refine hl_v rfl rfl rfl (rv_ev rfl) ?_
   refine hl_less (sx 0 rfl (sx 1 rfl (sx 2 rfl (sx 3 rfl (sx 6 rfl (sx 20 rfl (sub_nil _))))))) (.refl _) ?_
   refine hl_nil ?_
   refine hq_then ?_
   refine hc_ret ?_
   refine hq_then_ret ?_
   exact hq_ans rfl rfl (by unfold inPinI; first | rw [if_pos ⟨by assumption, by omega, by omega⟩] | rw [if_neg (by rintro ⟨q1, q2, q3⟩; first | omega | simp_all)])
 ·
  refine hl_v rfl rfl rfl (rv_ev rfl) ?_
  refine hl_v rfl rfl rfl (rv_ev rfl) ?_
  refine hl_skip rfl rfl rfl ?_
  refine hl_skip rfl rfl rfl ?_
  refine hl_skip rfl rfl rfl ?_
  refine hl_skip rfl rfl rfl ?_
  refine hl_skip rfl rfl rfl ?_
  refine hl_skip rfl rfl rfl ?_
  refine hl_skip rfl rfl rfl ?_
  refine hl_skip rfl rfl rfl ?_
  refine hl_v rfl rfl rfl (rv_ev rfl) ?_
  refine hl_less (sx 0 rfl (sx 1 rfl (sx 2 rfl (sx 3 rfl (sx 6 rfl (sx 20 rfl (sub_nil _))))))) (.refl _) ?_
  refine hl_nil ?_
  refine hq_then ?_
  refine hc_true rfl ?_
  refine hc_seq ?_
  refine hc_region ?_
  refine hl_v rfl rfl rfl (rv_ev rfl) ?_
  refine hl_less (sx 0 rfl (sx 1 rfl (sx 2 rfl (sx 3 rfl (sx 6 rfl (sx 20 rfl (sub_nil _))))))) (.refl _) ?_
  refine hl_nil ?_
  refine hq_then ?_
  refine hc_ret ?_
  refine hq_then_ret ?_
  exact hq_ans rfl rfl (by unfold inPinI; first | rw [if_pos ⟨by assumption, by omega, by omega⟩] | rw [if_neg (by rintro ⟨q1, q2, q3⟩; first | omega | simp_all)])
open Go.RowKit
theorem loc_mod {x m : Int} (h : 0 < m) : 0 ≤ x % m ∧ x % m ≤ m - 1 := ⟨Int.emod_nonneg _ (by omega), by have := Int.emod_lt_of_pos x h; omega⟩
/-- the number in a value -/
def intOf_o : Value → Int
  | .int _ n => n
  | _ => 0
theorem nodup_shift (n k : Nat) : ((List.range k).map (n + ·)).Nodup := by
  rw [List.Nodup, List.pairwise_map]
  exact List.nodup_range.imp (fun h e => h (by omega))
theorem range_getD {α : Type} (P0 : List (List α)) : (List.range P0.length).map (fun a => P0.getD a []) = P0 := by
  apply List.ext_getElem (by simp)
  intro i h1 h2
  simp [List.getD_eq_getElem?_getD, List.getElem?_eq_getElem h2]
def tauOk3 (os : List Oper) (m K : Nat) (dps qd : List (List Nat)) (tau : List (Option Nat)) (fl : List Nat) : Bool :=
  (List.range m).all (fun i => (qd.getD i []).all (fun j => (dps.getD i []).contains j && (List.range m).all (fun k => tau.getD k none != some j)) && decide ((qd.getD i []).Nodup)) &&
  (List.range m).all (fun i => match tau.getD i none with | none => true | some h => ((Nat.ble os.length h && Nat.blt h (os.length + K)) || (dps.getD i []).contains h) && (List.range m).all (fun k => k == i || tau.getD k none != some h)) &&
  fl.all (fun j => (Nat.blt j m || (Nat.ble os.length j && Nat.blt j (os.length + K))) && (List.range m).all (fun k => tau.getD k none != some j)) && decide fl.Nodup
def envOf3 (dsts : List (Option Nat)) (vf : Nat → Value) (is : List Nat) : List (Nat × Value) := is.filterMap fun i => (dsts.getD i none).map fun d => (d, vf i)
def drawOk3 (os : List Oper) (m : Nat) (dps : List (List Nat)) (dsts : List (Option Nat)) : Bool :=
  Nat.ble m os.length &&
  (List.range os.length).all (fun i => (depsOf os i).all (fun j => Nat.blt j i)) &&
  (List.range os.length).all (fun k => Nat.blt k m || (List.range m).all (fun j => ((msk ((List.range os.length).map (depsOf os)) []).getD k 0).testBit j)) &&
  (List.range (os.length - m)).all (fun t => Region.ready .any os.toArray (List.replicate (m + t) true ++ List.replicate (os.length - (m + t)) false).toArray == [m + t]) &&
  (os.take m).map (·.dst) == dsts && (List.range m).all (fun i => (List.range m).all (fun j => i == j || dsts.getD i none == none || dsts.getD i none != dsts.getD j none)) &&
  (List.range m).all (fun i => (dps.getD i []).all (fun j => ((msk ((List.range os.length).map (depsOf os)) []).getD i 0).testBit j) && decide ((dps.getD i []).Nodup))
section
variable {P : Program} {N : Nat} {w0 : World} {l : List HP} {env : List (Nat × Value)} {Q : Post} {os : List Oper} {m : Nat} {dps : List (List Nat)} {dsts : List (Option Nat)} {R : Nat → List Value → Value → List HP → Prop}
/-- where the quiet part stands -/
structure Mid3 (N : Nat) (w0 : World) (l : List HP) (env : List (Nat × Value)) (os : List Oper) (m : Nat) (dps : List (List Nat)) (dsts : List (Option Nat)) (R : Nat → List Value → Value → List HP → Prop) (tau : List (Option Nat)) (P0 : List (List HP)) (listed : Array Bool) (ord held : List Nat) (vf : Nat → Value) (pf : Nat → List HP) (a : Act) (w : World) : Prop where
  size : listed.size = os.length
  iff : ∀ i, i < os.length → (listed.getD i true = true ↔ i ∈ ord)
  low : ∀ i ∈ ord, i < m
  closed : ∀ i ∈ ord, ∀ j ∈ depsOf os i, j ∈ ord
  nodup : ord.Nodup
  dcl : ∀ i ∈ ord, ∀ j ∈ dps.getD i [], j ∈ ord
  rel : ∀ i ∈ ord, R i ((dps.getD i []).map vf) (vf i) (pf i)
  hn : held.Nodup
  hin : ∀ i ∈ held, i ∈ ord ∨ (os.length ≤ i ∧ i < os.length + P0.length)
  hall : ∀ i, (i ∈ ord ∨ (os.length ≤ i ∧ i < os.length + P0.length)) → (∀ j ∈ ord, tau.getD j none ≠ some i) → i ∈ held
  hP : ∀ k, k < P0.length → pf (os.length + k) = P0.getD k []
  mem : Mem w0 (held.flatMap pf ++ l) w
  asize : a.tmps.size = N
  defers : a.defers = []
  env : ∀ d v, lk env d = some v → a.tmps[d]? = some v
  slots : ∀ i ∈ ord, ∀ d, dsts[i]? = some (some d) → a.tmps[d]? = some (vf i)
theorem Mid3.st {tau P0 listed ord held vf pf a w} (h : Mid3 N w0 l env os m dps dsts R tau P0 listed ord held vf pf a w) (hm : m ≤ dsts.length) {is : List Nat} (hs : ∀ j ∈ is, j ∈ ord) {L : List HP} (hM : Mem w0 L w) : St N w0 L (envOf3 dsts vf is ++ env) a w := by
  refine ⟨hM, h.asize, h.defers, fun d v hd => ?_⟩
  rcases lk_append _ _ _ _ hd with h1 | h1
  · unfold envOf3 at h1
    rw [List.mem_filterMap] at h1
    obtain ⟨i, hi, he⟩ := h1
    rw [Option.map_eq_some_iff] at he
    obtain ⟨d', hd', he⟩ := he
    simp only [Prod.mk.injEq] at he
    obtain ⟨rfl, rfl⟩ := he
    have : dsts[i]? = some (some d') := by
      rw [List.getD_eq_getElem?_getD] at hd'
      cases hx : dsts[i]? with
      | none => rw [hx] at hd'; cases hd'
      | some y => rw [hx] at hd'; exact congrArg some hd'
    exact h.slots i (hs i hi) _ this
  · exact h.env d v h1
theorem hc_drawn3 {id : Nat} (hmix : P.follows .mixedOrders = true) (m : Nat) (dps : List (List Nat)) (dsts : List (Option Nat)) (R : Nat → List Value → Value → List HP → Prop) (qd : List (List Nat)) (tau : List (Option Nat)) (P0 : List (List HP)) (fl : List Nat) (hok : drawOk3 os m dps dsts = true) (htau : tauOk3 os m P0.length dps qd tau fl = true) (hfresh : dsts.all (fun d => match d with | some d => (lk env d).isNone | none => true) = true) (hN : dsts.all (fun d => match d with | some d => Nat.blt d N | none => true) = true)
    (due : ∀ i o, os[i]? = some o → i < m → ∀ vf pf, (∀ k, k < P0.length → pf (os.length + k) = P0.getD k []) → (∀ j ∈ dps.getD i [], R j ((dps.getD j []).map vf) (vf j) (pf j)) → Obl2 P os.toArray N w0 (tau.getD i none) pf ((qd.getD i []).flatMap pf ++ l) (envOf3 dsts vf (dps.getD i []) ++ env) o (R i ((dps.getD i []).map vf)))
    (fin : ∀ vf pf, (∀ k, k < P0.length → pf (os.length + k) = P0.getD k []) → (∀ i, i < m → R i ((dps.getD i []).map vf) (vf i) (pf i)) → HL P N os.toArray w0 (fl.flatMap pf ++ l) (envOf3 dsts vf (List.range m) ++ env) (os.drop m) Q) : HC P N w0 (P0.flatten ++ l) env (.region id os.toArray true) Q := by
  intro a w st
  refine wp_region_any hmix ?_
  simp only [drawOk3, Bool.and_eq_true, Nat.ble_eq, List.all_eq_true, List.mem_range, Bool.or_eq_true, Nat.blt_eq, beq_iff_eq, decide_eq_true_eq, Array.all_eq_true', bne_iff_ne] at hok
  obtain ⟨⟨⟨⟨⟨⟨hml, hback⟩, hcov⟩, hready⟩, hdst⟩, hdn⟩, hdp⟩ := hok
  simp only [tauOk3, Bool.and_eq_true, List.all_eq_true, List.mem_range, Bool.or_eq_true, Nat.blt_eq, Nat.ble_eq, beq_iff_eq, bne_iff_ne, decide_eq_true_eq, List.contains_iff_mem] at htau
  obtain ⟨⟨⟨hqd, hth⟩, hfl⟩, hfn⟩ := htau
  have hml' : m ≤ dsts.length := by have := congrArg List.length hdst; simp at this; omega
  have hlen : dsts.length = m := by have := congrArg List.length hdst; simp at this; omega
  have hrdy : ∀ k, m ≤ k → k < os.length → Region.ready .any os.toArray (preT os.length k) = [k] := fun k h1 h2 => by
    have := hready (k - m) (by omega)
    rw [show m + (k - m) = k by omega] at this
    exact this
  have hmsk : ∀ i j, ((msk ((List.range os.length).map (depsOf os)) []).getD i 0).testBit j = true → Dep os i j := msk_dep os _ _ (fun t ds ht d hd => by
    rw [List.getElem?_map] at ht
    by_cases h : t < os.length
    · rw [List.getElem?_range h] at ht; simp at ht; subst ht; simpa using hd
    · rw [List.getElem?_eq_none (by simp; omega)] at ht; cases ht) (fun i j h => by simp at h)
  have dstAt : ∀ i, i < m → ∀ o, os[i]? = some o → o.dst = dsts.getD i none := fun i hi o ho => by
    have h1 : ((os.take m).map (·.dst))[i]? = some o.dst := by rw [List.getElem?_map, List.getElem?_take, if_pos hi, ho]; rfl
    rw [hdst] at h1
    rw [List.getD_eq_getElem?_getD, h1]; rfl
  -- what may come up
  have key : ∀ (f : Nat) (listed : Array Bool) (ord held : List Nat) (vf : Nat → Value) (pf : Nat → List HP) (a : Act) (w : World), f + ord.length = os.length → Mid3 N w0 l env os m dps dsts R tau P0 listed ord held vf pf a w → wpAny P .any os.toArray Q f listed a w := by
    intro f
    induction f with
    | zero =>
      intro listed ord held vf pf a w hf h
      -- all are listed: m = the length
      have hall : ∀ i, i < os.length → i ∈ ord := by
        intro i hi
        have hsub : ord.Perm (List.range os.length) ∨ True := .inr trivial
        obtain ⟨r, hr⟩ := pick_perm ord (List.range os.length) h.nodup (fun j hj => by have := h.low j hj; simp; omega)
        have hl := hr.length_eq
        simp at hl
        have : r = [] := List.length_eq_zero_iff.1 (by omega)
        subst this
        have := hr.mem_iff.1 (List.mem_range.2 hi)
        simpa using this
      have hm2 : m = os.length := by
        by_cases hc : m < os.length
        · have := h.low m (hall m hc); omega
        · omega
      have hp : listed = preT os.length m := by
        apply Array.ext
        · rw [h.size, preT_size _ _ hml]
        · intro i h1 h2
          have hi : i < os.length := by rw [h.size] at h1; exact h1
          have e1 := (h.iff i hi).2 (hall i hi)
          have e2 := preT_get os.length m i hml hi
          rw [Array.getD_eq_getD_getElem?, Array.getElem?_eq_getElem h1] at e1
          rw [Array.getD_eq_getD_getElem?, Array.getElem?_eq_getElem h2] at e2
          simp only [Option.getD_some] at e1 e2
          rw [e1, e2]; simp; omega
      rw [hp]
      refine tail_any hrdy 0 m (Nat.le_refl _) (by omega) a w ?_
      exact fin vf pf h.hP (fun i hi => h.rel i (hall i (by omega))) a w (h.st hml' (fun j hj => hall j (by rw [List.mem_range] at hj; omega)) (h.mem.pick hfn (fun j hj => h.hall j ((hfl j hj).1.imp (fun hlt => hall j (by omega)) (fun x => x)) (fun k hk => (hfl j hj).2 k (h.low k hk)))))
    | succ f ih =>
      intro listed ord held vf pf a w hf h
      by_cases hall : ∀ i, i < m → i ∈ ord
      · -- the tail's turn
        have hp : listed = preT os.length m := by
          apply Array.ext
          · rw [h.size, preT_size _ _ hml]
          · intro i h1 h2
            have hi : i < os.length := by rw [h.size] at h1; exact h1
            have e1 := h.iff i hi
            have e2 := preT_get os.length m i hml hi
            rw [Array.getD_eq_getD_getElem?, Array.getElem?_eq_getElem h1] at e1
            rw [Array.getD_eq_getD_getElem?, Array.getElem?_eq_getElem h2] at e2
            simp only [Option.getD_some] at e1 e2
            rw [e2, Bool.eq_iff_iff, e1, decide_eq_true_eq]
            exact ⟨fun hx => h.low i hx, fun hx => hall i hx⟩
        have hord : ord.length = m := by
          obtain ⟨r, hr⟩ := pick_perm ord (List.range m) h.nodup (fun j hj => by have := h.low j hj; simpa using this)
          obtain ⟨r', hr'⟩ := pick_perm (List.range m) ord List.nodup_range (fun j hj => hall j (by simpa using hj))
          have h1 := hr.length_eq
          have h2 := hr'.length_eq
          simp at h1 h2
          omega
        rw [hp]
        refine tail_any hrdy (f + 1) m (Nat.le_refl _) (by omega) a w ?_
        exact fin vf pf h.hP (fun i hi => h.rel i (hall i hi)) a w (h.st hml' (fun j hj => hall j (by simpa using hj)) (h.mem.pick hfn (fun j hj => h.hall j ((hfl j hj).1.imp (fun hlt => hall j hlt) (fun x => x)) (fun k hk => (hfl j hj).2 k (h.low k hk)))))
      · -- some quiet one is not done yet
        have hsome : ∃ i, i < m ∧ i ∉ ord := by
          by_cases hx : ∃ i, i < m ∧ i ∉ ord
          · exact hx
          · exact absurd (fun i hi => Decidable.byContradiction fun hn => hx ⟨i, hi, hn⟩) hall
        have mem_rdy : ∀ i, i ∈ Region.ready .any os.toArray listed ↔ i < os.length ∧ i ∉ ord ∧ ∀ j ∈ depsOf os i, j ∈ ord := by
          intro i
          unfold Region.ready
          rw [List.mem_filter, List.mem_range]
          simp only [List.size_toArray]
          constructor
          · rintro ⟨hi, hb⟩
            rw [Bool.and_eq_true] at hb
            have hno : i ∉ ord := fun hx => by rw [(h.iff i hi).2 hx] at hb; simp at hb
            refine ⟨hi, hno, fun j hj => ?_⟩
            have ho : os.toArray[i]? = some os[i] := by simp [hi]
            rw [ho] at hb
            simp only [Option.map_some, Option.getD_some, Array.all_eq_true'] at hb
            unfold depsOf at hj
            rw [List.getElem?_eq_getElem hi] at hj
            simp only [List.mem_map, List.mem_filter] at hj
            obtain ⟨e, ⟨he, hbd⟩, rfl⟩ := hj
            have hb2 := hb.2 e (by simpa using he)
            rw [hbd] at hb2
            simp at hb2
            have hlt := hback i hi e.on (by unfold depsOf; rw [List.getElem?_eq_getElem hi]; exact List.mem_map.2 ⟨e, List.mem_filter.2 ⟨he, hbd⟩, rfl⟩)
            refine (h.iff e.on (by omega)).1 ?_
            have hs : e.on < listed.size := by rw [h.size]; omega
            rw [Array.getD_eq_getD_getElem?, Array.getElem?_eq_getElem hs] 
            simp only [Option.getD_some]
            rw [Array.getElem?_eq_getElem hs] at hb2
            simpa using hb2
          · rintro ⟨hi, hno, hd⟩
            refine ⟨hi, ?_⟩
            have ho : os.toArray[i]? = some os[i] := by simp [hi]
            rw [ho]
            simp only [Option.map_some, Option.getD_some, Bool.and_eq_true, Array.all_eq_true']
            refine ⟨?_, fun e he => ?_⟩
            · cases hb : listed.getD i true with
              | true => exact absurd ((h.iff i hi).1 hb) hno
              | false => rfl
            · rw [Bool.or_eq_true]
              by_cases hbd : Region.binds .any e = true
              rotate_left
              · left; simpa using hbd
              right
              have hon : e.on ∈ depsOf os i := by unfold depsOf; rw [List.getElem?_eq_getElem hi]; exact List.mem_map.2 ⟨e, List.mem_filter.2 ⟨by simpa using he, hbd⟩, rfl⟩
              have hlt := hback i hi e.on hon
              have := (h.iff e.on (by omega)).2 (hd e.on hon)
              have hs : e.on < listed.size := by rw [h.size]; omega
              rw [Array.getD_eq_getD_getElem?, Array.getElem?_eq_getElem hs] at this
              simp only [Option.getD_some] at this
              rw [Array.getD_eq_getD_getElem?, Array.getElem?_eq_getElem hs]
              simpa using this
        have hdep : ∀ k j, Dep os k j → (∀ d ∈ depsOf os k, d ∈ ord) → j ∈ ord := by
          intro k j hd
          induction hd with
          | one hj => intro hx; exact hx _ hj
          | more hk _ ih2 => intro hx; exact ih2 (fun d hd => h.closed _ (hx _ hk) d hd)
        have hlow : ∀ i ∈ Region.ready .any os.toArray listed, i < m := by
          intro i hi
          obtain ⟨h1, h2, h3⟩ := (mem_rdy i).1 hi
          by_cases hc : i < m
          · exact hc
          · exfalso
            obtain ⟨q, hq, hqn⟩ := hsome
            rcases hcov i h1 with h4 | h4
            · exact hc h4
            · exact hqn (hdep i q (hmsk i q (h4 q hq)) h3)
        refine ⟨fun h0 => ?_, fun i hi => ?_⟩
        · -- the least one that is not done may come up
          exfalso
          obtain ⟨q, hq, hqn⟩ := hsome
          obtain ⟨p, hp, hmin⟩ := exists_least (p := fun i => i < m ∧ i ∉ ord) ⟨q, hq, hqn⟩
          have : p ∈ Region.ready .any os.toArray listed := by
            rw [mem_rdy]
            refine ⟨by omega, hp.2, fun j hj => ?_⟩
            have hlt := hback p (by omega) j hj
            apply Decidable.byContradiction
            intro hn
            have := hmin j ⟨by omega, hn⟩
            omega
          rw [h0] at this
          cases this
        · have him := hlow i hi
          obtain ⟨h1, h2, h3⟩ := (mem_rdy i).1 hi
          have ho : os[i]? = some os[i] := List.getElem?_eq_getElem h1
          have hdps := hdp i him
          have hsub : ∀ j ∈ dps.getD i [], j ∈ ord := fun j hj => hdep i j (hmsk i j (hdps.1 j hj)) h3
          have hqi := hqd i him
          have hqheld : ∀ j ∈ qd.getD i [], j ∈ held := fun j hj => h.hall j (.inl (hsub j ((hqi.1 j hj).1))) (fun k hk => (hqi.1 j hj).2 k (h.low k hk))
          have hobl := due i os[i] ho him vf pf h.hP (fun j hj => h.rel j (hsub j hj))
          have hdd := dstAt i him _ ho
          have hdlt : ∀ d, dsts.getD i none = some d → d < N := fun d hd => by
            have := List.all_eq_true.1 hN (some d) (by rw [← hd, List.getD_eq_getElem?_getD, List.getElem?_eq_getElem (by omega)]; exact List.getElem_mem _)
            simpa [Nat.blt_eq] using this
          have hdnone : ∀ d, dsts.getD i none = some d → lk env d = none := fun d hd => by
            have := List.all_eq_true.1 hfresh (some d) (by rw [← hd, List.getD_eq_getElem?_getD, List.getElem?_eq_getElem (by omega)]; exact List.getElem_mem _)
            simpa using this
          have hne : ∀ j ∈ ord, j ≠ i := fun j hj e => h2 (e ▸ hj)
          have hneh : ∀ j ∈ held, j ≠ i := fun j hj e => by
            rcases h.hin j hj with h5 | h5
            · exact hne j h5 e
            · omega
          have next : ∀ (held' : List Nat) v post w', held'.Nodup → (∀ k ∈ held', k ∈ i :: ord ∨ (os.length ≤ k ∧ k < os.length + P0.length)) → (∀ k, (k ∈ i :: ord ∨ (os.length ≤ k ∧ k < os.length + P0.length)) → (∀ j ∈ i :: ord, tau.getD j none ≠ some k) → k ∈ held') → R i ((dps.getD i []).map vf) v post →
              Mem w0 (held'.flatMap (fun k => if k = i then post else pf k) ++ l) w' → wpAny P .any os.toArray Q f (listed.setIfInBounds i true) (a.put (dsts.getD i none) v) w' := by
            intro held' v post w' hh1 hh2 hh3 hv hm
            refine ih (listed.setIfInBounds i true) (i :: ord) held' (fun k => if k = i then v else vf k) (fun k => if k = i then post else pf k) _ w' (by simp; omega) ⟨?_, ?_, ?_, ?_, ?_, ?_, ?_, hh1, hh2, hh3, ?_, hm, ?_, ?_, ?_, ?_⟩
            · simp [h.size]
            · intro k hk
              by_cases hki : k = i
              · subst hki
                have hs : k < listed.size := by rw [h.size]; exact hk
                simp [Array.getD_eq_getD_getElem?, hs]
              · rw [getD_set_ne true (fun e => hki e.symm), h.iff k hk]
                simp [hki]
            · intro k hk; rcases List.mem_cons.1 hk with rfl | hk; exact him; exact h.low k hk
            · intro k hk j hj
              rcases List.mem_cons.1 hk with rfl | hk
              · exact List.mem_cons_of_mem _ (h3 j hj)
              · exact List.mem_cons_of_mem _ (h.closed k hk j hj)
            · exact List.nodup_cons.2 ⟨h2, h.nodup⟩
            · intro k hk j hj
              rcases List.mem_cons.1 hk with rfl | hk
              · exact List.mem_cons_of_mem _ (hsub j hj)
              · exact List.mem_cons_of_mem _ (h.dcl k hk j hj)
            · intro k hk
              rcases List.mem_cons.1 hk with rfl | hk
              · have e : (dps.getD k []).map (fun j => if j = k then v else vf j) = (dps.getD k []).map vf := List.map_congr_left fun j hj => if_neg (hne j (hsub j hj))
                rw [e, if_pos rfl, if_pos rfl]; exact hv
              · have e : (dps.getD k []).map (fun j => if j = i then v else vf j) = (dps.getD k []).map vf := List.map_congr_left fun j hj => if_neg (hne j (h.dcl k hk j hj))
                rw [e, if_neg (hne k hk), if_neg (hne k hk)]; exact h.rel k hk
            · intro k hk; rw [if_neg (by omega)]; exact h.hP k hk
            · cases hdi : dsts.getD i none <;> simp [Act.put, h.asize]
            · cases hdi : dsts.getD i none <;> exact h.defers
            · intro d u hd
              cases hdi : dsts.getD i none with
              | none => exact h.env d u hd
              | some d0 =>
                have hdne : d0 ≠ d := fun e => by rw [← e, hdnone _ hdi] at hd; cases hd
                simp only [Act.put]
                rw [Array.getElem?_setIfInBounds_ne hdne]
                exact h.env d u hd
            · intro k hk d hd
              cases hdi : dsts.getD i none with
              | none =>
                rcases List.mem_cons.1 hk with rfl | hk
                · rw [List.getD_eq_getElem?_getD, hd] at hdi; cases hdi
                · show a.tmps[d]? = _
                  rw [if_neg (hne k hk)]; exact h.slots k hk d hd
              | some d0 =>
                have hlt : d0 < a.tmps.size := by rw [h.asize]; exact hdlt _ hdi
                rcases List.mem_cons.1 hk with rfl | hk
                · have : d = d0 := by rw [List.getD_eq_getElem?_getD, hd] at hdi; exact Option.some.inj hdi
                  subst this
                  simp only [Act.put, if_true]
                  simp only [Array.getElem?_setIfInBounds_self_of_lt hlt]
                · have hdne : d0 ≠ d := by
                    intro e
                    have hk2 : k < dsts.length := (List.getElem?_eq_some_iff.1 hd).1
                    have hdk : dsts.getD k none = some d := by rw [List.getD_eq_getElem?_getD, hd]; rfl
                    rcases hdn i him k (by omega) with (hx | hx) | hx
                    · exact hne k hk hx.symm
                    · rw [hdi] at hx; cases hx
                    · exact hx (by rw [hdi, hdk, e])
                  simp only [Act.put]
                  rw [Array.getElem?_setIfInBounds_ne hdne, if_neg (hne k hk)]
                  exact h.slots k hk d hd
          unfold wpOp
          have hoa : os.toArray[i]? = some os[i] := by simp [h1]
          rw [hoa]
          simp only
          have hpost : ∀ (hs : List Nat) (post : List HP), (∀ k ∈ hs, k ≠ i) → (i :: hs).flatMap (fun k => if k = i then post else pf k) = post ++ hs.flatMap pf := fun hs post hx => by
            rw [List.flatMap_cons, if_pos rfl]
            congr 1
            rw [List.flatMap_def, List.flatMap_def]
            congr 1
            exact List.map_congr_left fun k hk => if_neg (hx k hk)
          cases ht : tau.getD i none with
          | none =>
            rw [ht] at hobl
            have hst := h.st hml' hsub (h.mem.pick hqi.2 hqheld)
            have next1 : ∀ v post w', R i ((dps.getD i []).map vf) v post → Mem w post w' → wpAny P .any os.toArray Q f (listed.setIfInBounds i true) (a.put (dsts.getD i none) v) w' := fun v post w' hv hm => by
              refine next (i :: held) v post w' (List.nodup_cons.2 ⟨fun hx => hneh i hx rfl, h.hn⟩) (fun k hk => ?_) (fun k hk hk2 => ?_) hv ?_
              · rcases List.mem_cons.1 hk with rfl | hk
                · exact .inl List.mem_cons_self
                · exact (h.hin k hk).imp (List.mem_cons_of_mem _) (fun x => x)
              · by_cases hki : k = i
                · rw [hki]; exact List.mem_cons_self
                · refine List.mem_cons_of_mem _ (h.hall k (hk.imp (fun hx => by rcases List.mem_cons.1 hx with hx | hx; exact absurd hx hki; exact hx) (fun x => x)) (fun j hj => hk2 j (List.mem_cons_of_mem _ hj)))
              · rw [hpost held post hneh, List.append_assoc]; exact h.mem.app hm
            rcases hobl with ⟨hw, hq⟩ | ⟨hw, hq⟩
            · rw [if_pos (hst.wanted hw)]
              refine .inl (hq a w hst Q _ fun v post w' hv hm => ?_)
              rw [hdd]
              exact next1 v post w' hv hm
            · rw [if_neg (by rw [hst.wanted hw]; decide), hdd]
              exact next1 undef [] w hq (Mem.refl w)
          | some hh =>
            rw [ht] at hobl
            have hth2 := hth i him
            rw [ht] at hth2
            simp only [Bool.and_eq_true, Bool.or_eq_true, Nat.ble_eq, Nat.blt_eq, beq_iff_eq, List.all_eq_true, List.mem_range, bne_iff_ne, List.contains_iff_mem] at hth2
            have hheld : hh ∈ held := h.hall hh (hth2.1.symm.imp (fun hx => hsub hh hx) (fun x => x)) (fun k hk => (hth2.2 k (h.low k hk)).resolve_left (hne k hk))
            have hperm := List.perm_cons_erase hheld
            have hmem : Mem w0 (pf hh ++ ((held.erase hh).flatMap pf ++ l)) w := by
              have := h.mem.perm ((hperm.flatMap_right pf).append_right l)
              rwa [List.flatMap_cons, List.append_assoc] at this
            have hnin : hh ∉ qd.getD i [] := fun hx => (hqi.1 hh hx).2 i him ht
            have hconv : ∀ w, Mem w0 ((held.erase hh).flatMap pf ++ l) w → Mem w0 ((qd.getD i []).flatMap pf ++ l) w := fun w hm => hm.pick hqi.2 (fun j hj => (List.mem_erase_of_ne (fun (e : j = hh) => hnin (by rw [← e]; exact hj))).2 (hqheld j hj))
            have hst := h.st hml' hsub hmem
            have hneh2 : ∀ k ∈ held.erase hh, k ≠ i := fun k hk => hneh k (List.mem_of_mem_erase hk)
            have next2 : ∀ v post w', R i ((dps.getD i []).map vf) v post → Mem w0 (post ++ ((held.erase hh).flatMap pf ++ l)) w' → wpAny P .any os.toArray Q f (listed.setIfInBounds i true) (a.put (dsts.getD i none) v) w' := fun v post w' hv hm => by
              refine next (i :: held.erase hh) v post w' (List.nodup_cons.2 ⟨fun hx => hneh2 i hx rfl, h.hn.erase hh⟩) (fun k hk => ?_) (fun k hk hk2 => ?_) hv ?_
              · rcases List.mem_cons.1 hk with rfl | hk
                · exact .inl List.mem_cons_self
                · exact (h.hin k (List.mem_of_mem_erase hk)).imp (List.mem_cons_of_mem _) (fun x => x)
              · by_cases hki : k = i
                · rw [hki]; exact List.mem_cons_self
                · have hkh : k ≠ hh := fun e => hk2 i List.mem_cons_self (by rw [ht, e])
                  exact List.mem_cons_of_mem _ ((List.mem_erase_of_ne hkh).2 (h.hall k (hk.imp (fun hx => by rcases List.mem_cons.1 hx with hx | hx; exact absurd hx hki; exact hx) (fun x => x)) (fun j hj => hk2 j (List.mem_cons_of_mem _ hj))))
              · rw [hpost _ post hneh2, List.append_assoc]; exact hm
            rcases hobl with ⟨hw, hq⟩ | ⟨hw, hq⟩
            · rw [if_pos (hst.wanted hw)]
              refine .inl (hq _ hconv a w hst Q _ fun v post w' hv hm => ?_)
              rw [hdd]
              exact next2 v post w' hv hm
            · rw [if_neg (by rw [hst.wanted hw]; decide), hdd]
              exact next2 undef (pf hh) w hq hmem
  refine key os.length (Array.replicate os.length false) [] ((List.range P0.length).map (os.length + ·)) (fun _ => undef) (fun k => if os.length ≤ k then P0.getD (k - os.length) [] else []) a _ (by simp) ⟨by simp, ?_, by simp, by simp, by simp, by simp, by simp, ?_, ?_, ?_, ?_, ?_, st.size, st.defers, st.env, by simp⟩
  · intro i hi; simp [hi]
  · exact nodup_shift _ _
  · intro i hi
    simp only [List.mem_map, List.mem_range] at hi
    obtain ⟨k, hk, rfl⟩ := hi
    exact .inr ⟨by omega, by omega⟩
  · rintro i (hi | ⟨h1, h2⟩) _
    · cases hi
    · simp only [List.mem_map, List.mem_range]; exact ⟨i - os.length, by omega, by omega⟩
  · intro k hk; rw [if_pos (by omega), Nat.add_sub_cancel_left]
  · have e : ((List.range P0.length).map (os.length + ·)).flatMap (fun k => if os.length ≤ k then P0.getD (k - os.length) [] else []) = P0.flatten := by
      rw [List.flatMap_map]
      have : (fun a : Nat => (if os.length ≤ os.length + a then P0.getD (os.length + a - os.length) [] else [])) = fun a => P0.getD a [] := by
        funext a; rw [if_pos (by omega), Nat.add_sub_cancel_left]
      rw [List.flatMap_def]
      rw [show (List.map (fun a : Nat => (if os.length ≤ os.length + a then P0.getD (os.length + a - os.length) [] else [])) (List.range P0.length)) = P0 from by rw [this]; exact range_getD P0]
    rw [e]; exact st.mem.drawn _
/-- each quiet operation's due, in the order of the text -/
def Dues3 (P : Program) (ops : Array Oper) (N : Nat) (w0 : World) (l : List HP) (env : List (Nat × Value)) (P0 : List (List HP)) (mu : Nat) (dsts : List (Option Nat)) (all qall : List (List Nat)) (tau : List (Option Nat)) (R : Nat → List Value → Value → List HP → Prop) : Nat → List (List Nat) → List Oper → Prop
  | _, _, [] => True
  | k, dss, o :: os => (∀ (vf : Nat → Value) (pf : Nat → List HP), (∀ k, k < P0.length → pf (mu + k) = P0.getD k []) → (∀ j ∈ all.getD k [], R j ((all.getD j []).map vf) (vf j) (pf j)) → Obl2 P ops N w0 (tau.getD k none) pf ((qall.getD k []).flatMap pf ++ l) (envOf3 dsts vf (all.getD k []) ++ env) o (R k ((all.getD k []).map vf))) ∧ Dues3 P ops N w0 l env P0 mu dsts all qall tau R (k + 1) dss os
theorem dues3_at {P : Program} {ops : Array Oper} {N : Nat} {w0 : World} {l : List HP} {env : List (Nat × Value)} {P0 : List (List HP)} {mu : Nat} {dsts : List (Option Nat)} {all qall : List (List Nat)} {tau : List (Option Nat)} {R : Nat → List Value → Value → List HP → Prop} : ∀ (os : List Oper) (dss : List (List Nat)) (k : Nat), Dues3 P ops N w0 l env P0 mu dsts all qall tau R k dss os → ∀ i o, os[i]? = some o → ∀ vf pf, (∀ k, k < P0.length → pf (mu + k) = P0.getD k []) → (∀ j ∈ all.getD (k + i) [], R j ((all.getD j []).map vf) (vf j) (pf j)) → Obl2 P ops N w0 (tau.getD (k + i) none) pf ((qall.getD (k + i) []).flatMap pf ++ l) (envOf3 dsts vf (all.getD (k + i) []) ++ env) o (R (k + i) ((all.getD (k + i) []).map vf))
  | [], _, _, _, i, o, ho, _, _, _, _ => by simp at ho
  | o' :: os, dss, k, h, 0, o, ho, vf, pf, hP, hR => by simp at ho; subst ho; exact h.1 vf pf hP hR
  | o' :: os, dss, k, h, i + 1, o, ho, vf, pf, hP, hR => by
    have e : k + 1 + i = k + (i + 1) := by omega
    have := dues3_at os dss (k + 1) h.2 i o (by simpa using ho) vf pf hP (by rw [e]; exact hR)
    rwa [e] at this
theorem hc_draw3 {id : Nat} (hmix : P.follows .mixedOrders = true) (m : Nat) (qs : List Nat) (quiet tail : List Oper) (dps : List (List Nat)) (dsts : List (Option Nat)) (R : Nat → List Value → Value → List HP → Prop) (qd : List (List Nat)) (tau : List (Option Nat)) (P0 : List (List HP)) (fl : List Nat) (mu : Nat)
    (hos : os = quiet ++ tail) (hq : (Nat.beq quiet.length m && (List.range m == qs) && Nat.beq os.length mu) = true) (hok : drawOk3 os m dps dsts = true) (htau : tauOk3 os m P0.length dps qd tau fl = true) (hfresh : dsts.all (fun d => match d with | some d => (lk env d).isNone | none => true) = true) (hN : dsts.all (fun d => match d with | some d => Nat.blt d N | none => true) = true)
    (due : Dues3 P os.toArray N w0 l env P0 mu dsts dps qd tau R 0 [] quiet)
    (fin : ∀ vf pf, (∀ k, k < P0.length → pf (mu + k) = P0.getD k []) → (∀ i, i < m → R i ((dps.getD i []).map vf) (vf i) (pf i)) → HL P N os.toArray w0 (fl.flatMap pf ++ l) (envOf3 dsts vf qs ++ env) tail Q) : HC P N w0 (P0.flatten ++ l) env (.region id os.toArray true) Q := by
  simp only [Bool.and_eq_true, Nat.beq_eq, beq_iff_eq] at hq
  obtain ⟨⟨hq1, hq2⟩, hq3⟩ := hq
  refine hc_drawn3 hmix m dps dsts R qd tau P0 fl hok htau hfresh hN (fun i o ho hi vf pf hP hR => ?_) (fun vf pf hP hR => ?_)
  · have ho' : quiet[i]? = some o := by rw [hos, List.getElem?_append_left (by omega)] at ho; exact ho
    have := dues3_at quiet [] 0 due i o ho' vf pf (by rw [← hq3]; exact hP) (by rw [Nat.zero_add]; exact hR)
    rwa [Nat.zero_add] at this
  · rw [hq2, hos, List.drop_left' hq1, ← hos]; exact fin vf pf (by rw [← hq3]; exact hP) hR
/-- a whole struct stored into a variable -/
theorem rm_storeBoxN {P0 X : List HP} {o : Oper} {t b off : Nat} {x y : Operand} {cs cs' : Array Value} {tb : TypeId} {us : List Value} (i : Nat) (hd : o.dst = none) (ho : o.op = .store t x y) (hs : (P.info? t).map (·.size) = some us.length)
    (hx : ev env x = some (.pointer (some ⟨b, off, none⟩))) (hy : ev env y = some (.agg us.toArray)) (hi : P0[i]? = some (boxE b cs tb)) (h1 : ∀ u ∈ us, u.oneCell' = true) (hlt : Nat.ble (off + us.length) cs.size = true) (hcs : putN cs off us = cs') :
    RunM P N w0 P0 X env o (fun v post => post = P0.set i (boxE b cs' tb)) := fun L hL a w st Q K hK => by
  subst hcs
  rw [Nat.ble_eq] at hlt
  have hil : i < P0.length := (List.getElem?_eq_some_iff.1 hi).1
  obtain ⟨w', hr, hm⟩ := run_storeN (P := P) (off := off) us 0 cs (P0 ++ L) w st.mem (by rw [List.getElem?_append_left hil]; exact hi) h1 (by omega)
  have hce : (Value.agg us.toArray).cells = us.toArray := rfl
  have hrun : (execOp a.eval o).run P w = .ok .skip w' := by simp [execOp, ho, st.eval hx, st.eval hy, Instr.storeAt, Instr.sureAddr, storeVar, hce, run_size hs, hr]
  unfold Oper.wp
  rw [hrun, Oper.upon_skip]
  exact hK undef _ w' rfl (by rw [List.set_append_left _ _ hil] at hm; exact hm)
end
/-- block g is a cursor -/
def curE (g : Nat) (a : Option Addr) (len cap : Nat) : HP := ⟨fun k => k = g, fun w => (∃ i : Nat, i ≤ len ∧ w.cell? ⟨g, 1, none⟩ = some (.int .i64 (i : Int))) ∧ (∃ h : Int, w.cell? ⟨g, 2, none⟩ = some (.int .i64 h)) ∧
  w.cell? ⟨g, 0, none⟩ = some (.slice a len cap) ∧ w.frozen? ⟨g, 1, none⟩ = false ∧ w.frozen? ⟨g, 2, none⟩ = false⟩
theorem cell_heap {w w' : World} {g o : Nat} (h : w'.heap[g]? = w.heap[g]?) : w'.cell? ⟨g, o, none⟩ = w.cell? ⟨g, o, none⟩ := by simp [World.cell?, h]
theorem frozen_heap {w w' : World} {g o : Nat} (h : w'.heap[g]? = w.heap[g]?) : w'.frozen? ⟨g, o, none⟩ = w.frozen? ⟨g, o, none⟩ := by simp [World.frozen?, h]
theorem curE_ok (g : Nat) (a : Option Addr) (len cap : Nat) : (curE g a len cap).Ok := fun w w' _ hb h => by
  have e := hb g rfl
  have c := fun o => cell_heap (o := o) e
  have f := fun o => frozen_heap (o := o) e
  simp only [curE] at h ⊢
  rw [c 0, c 1, c 2, f 1, f 2]; exact h
theorem cur_of {w0 w : World} {l : List HP} {g : Nat} {a : Option Addr} {len cap : Nat} {z : List Int} (hm : Mem w0 (curE g a len cap :: l) w) (hb : BRow .u8 w0 a len cap z) : Cur w w0.heap.size g a len cap z := by
  obtain ⟨h1, h2, h3, h4, h5⟩ := hm.holds _ List.mem_cons_self
  exact ⟨h1, h2, h3, h4, h5, hb.below hm.bel, (hm.new _ List.mem_cons_self g rfl).1, hb.old⟩
theorem cur_turn {w0 w w' : World} {l : List HP} {B g : Nat} {a : Option Addr} {len cap : Nat} {z : List Int} (hm : Mem w0 (curE g a len cap :: l) w) (hc : Cur w' B g a len cap z) (hg : w.grownBy w' (some g)) : Mem w0 (curE g a len cap :: l) w' :=
  hm.turn hg.os hg.tape hg.output hg.size (fun b hb hf => hg.block b hb (fun e => hf (by cases e; rfl))) (curE_ok g a len cap) (fun b hb => .inl hb) (fun b hb => by cases hb; exact hc.lt) ⟨hc.1, hc.2.1, hc.2.2.1, hc.2.2.2.1, hc.2.2.2.2.1⟩
/-- an old contract over a cursor, as one that turns the caller's memory -/
theorem cur_mut {f : FuncId} {vs : Array Value} {R : Ending → Prop} {R' : Value → Prop} {w0 : World} {l : List HP} {w : World} {g : Nat} {a : Option Addr} {len cap : Nat} {z : List Int} (hm : Mem w0 (curE g a len cap :: l) w) (hb : BRow .u8 w0 a len cap z)
    (h : ∀ w B, Cur w B g a len cap z → Calls Try.prog f vs w fun e w' => R e ∧ Cur w' B g a len cap z ∧ w.grownBy w' (some g)) (hR : ∀ e, R e → ∃ v, e = .returned v ∧ R' v) :
    Calls Try.prog f vs w (fun e_ w_ => ∃ v_ p_, e_ = .returned v_ ∧ (R' v_ ∧ p_ = curE g a len cap) ∧ Mem w0 (p_ :: l) w_) :=
  (h w _ (cur_of hm hb)).mono fun e w' ⟨he, hc, hg⟩ => by
    obtain ⟨v, hv, hr⟩ := hR e he
    exact ⟨v, _, hv, ⟨hr, rfl⟩, cur_turn hm hc hg⟩
theorem device_mut {w0 : World} {l : List HP} {w : World} {g : Nat} {a : Option Addr} {len cap : Nat} {z : List Int} (hm : Mem w0 (curE g a len cap :: l) w) (hb : BRow .u8 w0 a len cap z) :
    Calls Try.prog 32 #[.pointer (some ⟨g, 0, none⟩)] w (fun e_ w_ => ∃ v_ p_, e_ = .returned v_ ∧ ((∃ d : Dev, Drawn d ∧ v_ = .agg #[.int .i64 d.W, .int .i64 d.H, .int .i64 d.T, .int .i64 d.R]) ∧ p_ = curE g a len cap) ∧ Mem w0 (p_ :: l) w_) :=
  cur_mut (R' := fun v => ∃ d : Dev, Drawn d ∧ v = .agg #[.int .i64 d.W, .int .i64 d.H, .int .i64 d.T, .int .i64 d.R]) hm hb (fun w B hc => l26Device_any B g a len cap z w hc) (fun e ⟨d, hd, he⟩ => ⟨_, he, d, hd, rfl⟩)
/-- a new cursor -/
theorem new_ret {w : World} {a : Option Addr} {len cap : Nat} {z : List Int} (hb : BRow .u8 w a len cap z) (hlen : len ≤ 1048576) :
    Calls Try.prog 31 #[.slice a len cap] w (Ret w (fun v post => ∃ g, v = .pointer (some ⟨g, 0, none⟩) ∧ post = [curE g a len cap])) :=
  (l01New_any a len cap z w hlen hb).mono fun e w' ⟨g, he, hc, hbel⟩ => by
    refine ⟨_, [curE g a len cap], he, ⟨g, rfl, rfl⟩, hbel, ?_, ?_, ?_, by simp⟩
    · intro p hp; rw [List.mem_singleton] at hp; subst hp; exact ⟨hc.1, hc.2.1, hc.2.2.1, hc.2.2.2.1, hc.2.2.2.2.1⟩
    · intro p hp; rw [List.mem_singleton] at hp; subst hp; exact curE_ok g a len cap
    · intro p hp b hf; rw [List.mem_singleton] at hp; subst hp; cases hf; exact ⟨hc.base, hc.lt⟩
open Go.RowKit
theorem byte_mut {w0 : World} {l : List HP} {w : World} {g : Nat} {a : Option Addr} {len cap : Nat} {z : List Int} (hm : Mem w0 (curE g a len cap :: l) w) (hb : BRow .u8 w0 a len cap z) :
    Calls Try.prog 67 #[.pointer (some ⟨g, 0, none⟩)] w (fun e_ w_ => ∃ v_ p_, e_ = .returned v_ ∧ ((∃ x : Int, v_ = .int .i64 x ∧ 0 ≤ x ∧ x < 256) ∧ p_ = curE g a len cap) ∧ Mem w0 (p_ :: l) w_) :=
  cur_mut (R' := fun v => ∃ x : Int, v = .int .i64 x ∧ 0 ≤ x ∧ x < 256) hm hb (fun w B hc => l01Byte_any B g a len cap z w hc) (fun e ⟨x, hx, he⟩ => ⟨_, he, (x : Int), rfl, by omega, by omega⟩)
set_option maxHeartbeats 4000000 in
set_option maxRecDepth 100000 in
theorem belowN_mut (g : Nat) (a : Option Addr) (len cap : Nat) (z : List Int) (n : Int) (w0 : World) (l : List HP) (w : World) (hm0 : Mem w0 (curE g a len cap :: l) w) (hb : BRow .u8 w0 a len cap z) (hn : 1 ≤ n ∧ n ≤ 4294967296) :
  Calls Try.prog 33 #[.pointer (some ⟨g, 0, none⟩), .int .i64 n] w (fun e_ w_ => ∃ v_ p_, e_ = .returned v_ ∧ (fun u_ p_ => (∃ x : Int, u_ = .int .i64 x ∧ 0 ≤ x ∧ x < n) ∧ p_ = curE g a len cap) v_ p_ ∧ Mem w0 (p_ :: l) w_) := by
 refine calls_hcM (N := 37) (args := [.pointer (some ⟨g, 0, none⟩), .int .i64 n]) Try.func33 rfl rfl hm0 ?_
 refine hc_less _ (sx 0 rfl (sx 1 rfl (sub_nil _))) (.refl _) ?_
 refine hc_seq ?_
 refine hc_region ?_
 refine hl_v rfl rfl rfl (rv_ev rfl) ?_
 refine hl_less (sx 0 rfl (sx 1 rfl (sx 4 rfl (sub_nil _)))) (.refl _) ?_
 refine hl_nil ?_
 refine hq_then ?_
 refine hc_seq ?_
 refine hc_seq ?_
 refine hc_region ?_
 refine hl_v rfl rfl rfl (rv_ev rfl) ?_
 refine hl_leq rfl rfl rfl rfl rfl rfl (fun h1 => absurd h1 (by omega)) (fun h1 => ?_)
 refine hl_less (sx 0 rfl (sx 1 rfl (sx 4 rfl (sx 10 rfl (sub_nil _))))) (.refl _) ?_
 refine hl_nil ?_
 refine hq_then ?_
 refine hc_false rfl ?_
 refine hc_skip ?_
 refine hq_then ?_
 refine hc_seq ?_
 refine hc_seq ?_
 refine hc_region ?_
 refine hl_v rfl rfl rfl (rv_ev rfl) ?_
 refine hl_leq rfl rfl rfl rfl rfl rfl (fun h2 => ?_) (fun h2 => ?_)
 ·
  refine hl_less (sx 0 rfl (sx 1 rfl (sx 4 rfl (sx 10 rfl (sx 12 rfl (sub_nil _)))))) (.refl _) ?_
  refine hl_nil ?_
  refine hq_then ?_
  refine hc_true rfl ?_
  refine hc_seq ?_
  refine hc_region ?_
  refine hl_v rfl rfl rfl (rv_ev rfl) ?_
  refine hl_callM (R := (fun u_ p_ => (∃ x : Int, u_ = .int .i64 x ∧ 0 ≤ x ∧ x < 256) ∧ p_ = curE g a len cap)) 0 rfl rfl (by kernel_rfl) rfl rfl (fun l' w hm => byte_mut hm hb) ?_
  intro v3 p4 hR5
  obtain ⟨⟨xhR5, rfl, xhR50, xhR51⟩, rfl⟩ := hR5
  refine hl_eqL (l' := (curE g a len cap :: l)) rfl ?_
  refine hl_v rfl rfl rfl (rv_ev rfl) ?_
  refine hl_v rfl rfl rfl (rv_rem rfl rfl rfl (by constructor <;> omega)) ?_
  refine hl_v rfl rfl rfl (rv_ev rfl) ?_
  refine hl_less (sx 0 rfl (sx 1 rfl (sx 4 rfl (sx 10 rfl (sx 12 rfl (sub_nil _)))))) (.refl _) ?_
  refine hl_nil ?_
  refine hq_then ?_
  refine hc_ret ?_
  refine hq_then_ret ?_
  exact hq_retMut (p' := curE g a len cap) rfl rfl (.refl _) ⟨⟨_, rfl, Int.emod_nonneg _ (by omega), Int.emod_lt_of_pos _ (by omega)⟩, rfl⟩
 ·
  refine hl_less (sx 0 rfl (sx 1 rfl (sx 4 rfl (sx 10 rfl (sx 12 rfl (sub_nil _)))))) (.refl _) ?_
  refine hl_nil ?_
  refine hq_then ?_
  refine hc_false rfl ?_
  refine hc_skip ?_
  refine hq_then ?_
  refine hc_seq ?_
  refine hc_region ?_
  refine hl_v rfl rfl rfl (rv_ev rfl) ?_
  refine hl_callM (R := (fun u_ p_ => (∃ x : Int, u_ = .int .i64 x ∧ 0 ≤ x ∧ x < 256) ∧ p_ = curE g a len cap)) 0 rfl rfl (by kernel_rfl) rfl rfl (fun l' w hm => byte_mut hm hb) ?_
  intro v6 p7 hR8
  obtain ⟨⟨xhR8, rfl, xhR80, xhR81⟩, rfl⟩ := hR8
  refine hl_eqL (l' := (curE g a len cap :: l)) rfl ?_
  refine hl_v rfl rfl rfl (rv_ev rfl) ?_
  refine hl_less (sx 0 rfl (sx 1 rfl (sx 4 rfl (sx 5 rfl (sx 10 rfl (sx 12 rfl (sub_nil _))))))) (.refl _) ?_
  refine hl_nil ?_
  refine hq_then ?_
  refine hc_seq ?_
  refine hc_region ?_
  refine hl_v rfl rfl rfl (rv_ev rfl) ?_
  refine hl_callM (R := (fun u_ p_ => (∃ x : Int, u_ = .int .i64 x ∧ 0 ≤ x ∧ x < 256) ∧ p_ = curE g a len cap)) 0 rfl rfl (by kernel_rfl) rfl rfl (fun l' w hm => byte_mut hm hb) ?_
  intro v9 p10 hR11
  obtain ⟨⟨xhR11, rfl, xhR110, xhR111⟩, rfl⟩ := hR11
  refine hl_eqL (l' := (curE g a len cap :: l)) rfl ?_
  refine hl_v rfl rfl rfl (rv_ev rfl) ?_
  refine hl_less (sx 0 rfl (sx 1 rfl (sx 4 rfl (sx 5 rfl (sx 6 rfl (sx 10 rfl (sx 12 rfl (sub_nil _)))))))) (.refl _) ?_
  refine hl_nil ?_
  refine hq_then ?_
  refine hc_seq ?_
  refine hc_region ?_
  refine hl_v rfl rfl rfl (rv_ev rfl) ?_
  refine hl_callM (R := (fun u_ p_ => (∃ x : Int, u_ = .int .i64 x ∧ 0 ≤ x ∧ x < 256) ∧ p_ = curE g a len cap)) 0 rfl rfl (by kernel_rfl) rfl rfl (fun l' w hm => byte_mut hm hb) ?_
  intro v12 p13 hR14
  obtain ⟨⟨xhR14, rfl, xhR140, xhR141⟩, rfl⟩ := hR14
  refine hl_eqL (l' := (curE g a len cap :: l)) rfl ?_
  refine hl_v rfl rfl rfl (rv_ev rfl) ?_
  refine hl_less (sx 0 rfl (sx 1 rfl (sx 4 rfl (sx 5 rfl (sx 6 rfl (sx 7 rfl (sx 10 rfl (sx 12 rfl (sub_nil _))))))))) (.refl _) ?_
  refine hl_nil ?_
  refine hq_then ?_
  refine hc_seq ?_
  refine hc_region ?_
  refine hl_v rfl rfl rfl (rv_ev rfl) ?_
  refine hl_callM (R := (fun u_ p_ => (∃ x : Int, u_ = .int .i64 x ∧ 0 ≤ x ∧ x < 256) ∧ p_ = curE g a len cap)) 0 rfl rfl (by kernel_rfl) rfl rfl (fun l' w hm => byte_mut hm hb) ?_
  intro v15 p16 hR17
  obtain ⟨⟨xhR17, rfl, xhR170, xhR171⟩, rfl⟩ := hR17
  refine hl_eqL (l' := (curE g a len cap :: l)) rfl ?_
  refine hl_v rfl rfl rfl (rv_ev rfl) ?_
  refine hl_less (sx 0 rfl (sx 1 rfl (sx 4 rfl (sx 5 rfl (sx 6 rfl (sx 7 rfl (sx 8 rfl (sx 10 rfl (sx 12 rfl (sub_nil _)))))))))) (.refl _) ?_
  refine hl_nil ?_
  refine hq_then ?_
  refine hc_seq ?_
  refine hc_region ?_
  refine hl_v rfl rfl rfl (rv_ev rfl) ?_
  refine hl_v rfl rfl rfl (rv_mul rfl rfl rfl (by constructor <;> omega)) ?_
  refine hl_v rfl rfl rfl (rv_ev rfl) ?_
  refine hl_v rfl rfl rfl (rv_mul rfl rfl rfl (by constructor <;> omega)) ?_
  refine hl_v rfl rfl rfl (rv_add rfl rfl rfl (by constructor <;> omega)) ?_
  refine hl_v rfl rfl rfl (rv_ev rfl) ?_
  refine hl_v rfl rfl rfl (rv_mul rfl rfl rfl (by constructor <;> omega)) ?_
  refine hl_v rfl rfl rfl (rv_add rfl rfl rfl (by constructor <;> omega)) ?_
  refine hl_v rfl rfl rfl (rv_ev rfl) ?_
  refine hl_v rfl rfl rfl (rv_add rfl rfl rfl (by constructor <;> omega)) ?_
  refine hl_v rfl rfl rfl (rv_ev rfl) ?_
  refine hl_v rfl rfl rfl (rv_rem rfl rfl rfl (by constructor <;> omega)) ?_
  refine hl_v rfl rfl rfl (rv_ev rfl) ?_
  refine hl_less (sx 0 rfl (sx 1 rfl (sx 4 rfl (sx 5 rfl (sx 6 rfl (sx 7 rfl (sx 8 rfl (sx 10 rfl (sx 12 rfl (sub_nil _)))))))))) (.refl _) ?_
  refine hl_nil ?_
  refine hq_then ?_
  refine hc_ret ?_
  exact hq_retMut (p' := curE g a len cap) rfl rfl (.refl _) ⟨⟨_, rfl, Int.emod_nonneg _ (by omega), Int.emod_lt_of_pos _ (by omega)⟩, rfl⟩
structure Rt where
  nv : Value
  fv : Value
  ns : List Int
  fs : List Int
abbrev rt0 : Rt := ⟨.slice none 0 0, .slice none 0 0, [], []⟩
def Rt.cells (r : Rt) : List Value := [r.nv, r.fv]
abbrev Rt.agg (r : Rt) : Value := .agg #[r.nv, r.fv]
abbrev rtE (r : Rt) : HP := bigE [rowE 3 1 r.nv r.ns.length (r.ns.map (Value.int .i64)), rowE 3 1 r.fv r.fs.length (r.fs.map (Value.int .i64))]
structure RdsRt (w : World) (v : Value) (rs : List Rt) : Prop where
  row : RdsW w v 2 rs.length (rs.flatMap Rt.cells)
  ns : ∀ r ∈ rs, RdsW w r.nv 1 r.ns.length (r.ns.map (Value.int .i64))
  fs : ∀ r ∈ rs, RdsW w r.fv 1 r.fs.length (r.fs.map (Value.int .i64))
theorem RdsRt.below {w w' : World} {v : Value} {rs : List Rt} (h : RdsRt w v rs) (hb : Below w.heap.size w w') : RdsRt w' v rs := ⟨h.row.below hb, fun r hr => (h.ns r hr).below hb, fun r hr => (h.fs r hr).below hb⟩
theorem RdsRt.nat {w : World} {v : Value} {rs : List Rt} (h : RdsRt w v rs) {k : Nat} (hk : k < rs.length) : RdsW w (rs.getD k rt0).nv 1 (rs.getD k rt0).ns.length ((rs.getD k rt0).ns.map (Value.int .i64)) := by
  apply h.ns
  rw [List.getD_eq_getElem?_getD, List.getElem?_eq_getElem hk]; exact List.getElem_mem hk
theorem RdsRt.fat {w : World} {v : Value} {rs : List Rt} (h : RdsRt w v rs) {k : Nat} (hk : k < rs.length) : RdsW w (rs.getD k rt0).fv 1 (rs.getD k rt0).fs.length ((rs.getD k rt0).fs.map (Value.int .i64)) := by
  apply h.fs
  rw [List.getD_eq_getElem?_getD, List.getElem?_eq_getElem hk]; exact List.getElem_mem hk
theorem rt_rds {w0 : World} {l : List HP} {r : Rt} (i : Nat) (hi : l[i]? = some (rtE r)) (w : World) (hm : Mem w0 l w) : RdsW w r.nv 1 r.ns.length (r.ns.map (Value.int .i64)) ∧ RdsW w r.fv 1 r.fs.length (r.fs.map (Value.int .i64)) := by
  obtain ⟨b1, -⟩ := hm.holds _ (mem_at hi)
  exact ⟨rdsW_own (b1 _ (List.mem_cons_self)).2, rdsW_own (b1 _ (List.mem_cons_of_mem _ List.mem_cons_self)).2⟩
theorem rdsrt_of {w : World} {v : Value} {rs : List Rt} {r : Rt} (h1 : RdsW w v 2 rs.length (rs.flatMap Rt.cells)) (h2 : RdsW w r.nv 1 r.ns.length (r.ns.map (Value.int .i64)) ∧ RdsW w r.fv 1 r.fs.length (r.fs.map (Value.int .i64))) (h3 : ∀ x ∈ rs, x = r) : RdsRt w v rs :=
  ⟨h1, fun x hx => by rw [h3 x hx]; exact h2.1, fun x hx => by rw [h3 x hx]; exact h2.2⟩
structure NsOk (N : Nat) (ns : List Int) : Prop where
  nd : ns.Nodup
  rng : ∀ x ∈ ns, 0 ≤ x ∧ x < N
  len : ns.length ≤ 1000000
theorem take_snocI (ns : List Int) {j : Nat} (h : j < ns.length) : ns.take (j + 1) = ns.take j ++ [ns.getD j 0] := by
  rw [List.take_succ_eq_append_getElem h, List.getD_eq_getElem?_getD, List.getElem?_eq_getElem h]; rfl
theorem seen_no {N : Nat} {ns : List Int} (h : NsOk N ns) {j : Nat} (hj : j < ns.length) : (ns.take j).reverse.contains (ns.getD j 0) = false := by
  rw [Bool.eq_false_iff]
  intro hc
  rw [List.contains_iff_mem, List.mem_reverse] at hc
  have h1 := h.nd
  rw [← List.take_append_drop (j + 1) ns, take_snocI ns hj, List.append_assoc, List.nodup_append] at h1
  exact h1.2.2 _ hc _ (by simp) rfl
theorem seen_rev (ns : List Int) {j : Nat} (h : j < ns.length) : ns.getD j 0 :: (ns.take j).reverse = (ns.take (j + 1)).reverse := by rw [take_snocI ns h, List.reverse_append]; rfl
/-- a tree that grew along sources -/
structure Tree (d : Dev) (s : Int) (ns fs ks : List Int) : Prop where
  len : ns.length = fs.length
  l0 : 1 ≤ ns.length
  l1 : ns.length ≤ 7
  root : ns.getD 0 0 = s
  from0 : fs.getD 0 0 = 0
  rng : ∀ x ∈ ns, 0 ≤ x ∧ x < allI d
  nd : ns.Nodup
  step : ∀ k, 0 < k → k < ns.length → 0 ≤ fs.getD k 0 ∧ fs.getD k 0 < k ∧ hasB (srcI d (ns.getD k 0)) (ns.getD (fs.getD k 0).toNat 0) = true
  sinks : ks = (ns.drop 1).filter fun x => decide (x % perI d < 5)
theorem tree_one {d : Dev} {s : Int} (h : 0 ≤ s ∧ s < allI d) : Tree d s [s] [0] [] := ⟨rfl, by simp, by simp, rfl, rfl, by simpa using h, by simp, fun k h0 h1 => by simp at h1; omega, rfl⟩
theorem tree_app {d : Dev} {s x f : Int} {ns fs ks : List Int} (h : Tree d s ns fs ks) (hl : ns.length ≤ 6) (hx : 0 ≤ x ∧ x < allI d) (hn : hasB ns x = false) (hf : 0 ≤ f ∧ f < ns.length) (hs : hasB (srcI d x) (ns.getD f.toNat 0) = true) :
    Tree d s (ns ++ [x]) (fs ++ [f]) (if x % perI d < 5 then ks ++ [x] else ks) := by
  have hlen := h.len
  have hl0 := h.l0
  have gl : ∀ (xs : List Int) (y : Int) (k : Nat), k < xs.length → (xs ++ [y]).getD k 0 = xs.getD k 0 := fun xs y k hk => by rw [List.getD_eq_getElem?_getD, List.getElem?_append_left hk, ← List.getD_eq_getElem?_getD]
  have ge : ∀ (xs : List Int) (y : Int) (k : Nat), k = xs.length → (xs ++ [y]).getD k 0 = y := fun xs y k hk => by rw [hk, List.getD_eq_getElem?_getD, List.getElem?_append_right (Nat.le_refl _), Nat.sub_self]; rfl
  refine ⟨by simp [hlen], by simp, by simp; omega, by rw [gl _ _ _ (by omega)]; exact h.root, by rw [gl _ _ _ (by omega)]; exact h.from0, fun y hy => ?_, ?_, fun k k0 k1 => ?_, ?_⟩
  · rcases List.mem_append.1 hy with hy | hy
    · exact h.rng y hy
    · rw [List.mem_singleton] at hy; subst hy; exact hx
  · rw [List.nodup_append]
    refine ⟨h.nd, by simp, fun a ha b hb => ?_⟩
    rw [List.mem_singleton] at hb; subst hb
    intro e; subst e
    unfold hasB at hn
    rw [Bool.eq_false_iff] at hn
    exact hn (List.contains_iff_mem.2 ha)
  · rw [List.length_append, List.length_singleton] at k1
    by_cases hk : k = ns.length
    · rw [ge fs f k (by omega), ge ns x k hk, gl ns x _ (by omega)]
      exact ⟨hf.1, by omega, hs⟩
    · have := h.step k k0 (by omega)
      rw [gl fs f k (by omega), gl ns x k (by omega), gl ns x _ (by omega)]
      exact this
  · rw [List.drop_append_of_le_length (by omega), List.filter_append, ← h.sinks]
    by_cases hc : x % perI d < 5
    · rw [if_pos hc]; simp [List.filter_cons, hc]
    · rw [if_neg hc]; simp [List.filter_cons, hc]
theorem Tree.nsok {d : Dev} {s : Int} {ns fs ks : List Int} (h : Tree d s ns fs ks) (hd : 0 ≤ allI d) : NsOk (allI d).toNat ns := ⟨h.nd, fun x hx => by have := h.rng x hx; omega, by have := h.l1; omega⟩
theorem inr_in {x lo hi : Int} (h : lo ≤ x ∧ x ≤ hi) : inR x lo hi = true := (inR_iff _ _ _).2 h
theorem hq_one {N : Nat} {w0 : World} {l : List HP} {env : List (Nat × Value)} {Q : Post} {ex : Exit} {i e s n : Nat} {v : Value} {xs : List Value} (hi : l[i]? = some (rowE e s v n xs)) (k : v.oneCell' = true → HQ N w0 l env ex Q) : HQ N w0 l env ex Q := fun a w st => k (rdsW_own (st.mem.holds _ (mem_at hi))).one a w st
set_option maxHeartbeats 4000000 in
set_option maxRecDepth 100000 in
theorem l13Has_ans (xs : List Int) (x : Int) (v : Value) (w : World) (hv : RdsW w v 1 xs.length (xs.map (Value.int .i64))) (hlen : xs.length ≤ 1000000000) :
  Calls Try.prog 68 #[v, .int .i64 x] w (Ans w (.bool (hasB xs x))) := by
 refine calls_hc (N := 18) (args := [v, .int .i64 x]) Try.func68 rfl rfl ?_
 refine hc_less _ (sx 0 rfl (sx 1 rfl (sub_nil _))) (.refl _) ?_
 refine hc_seq ?_
 refine hc_region ?_
 refine hl_v rfl rfl rfl (rv_ev rfl) ?_
 refine hl_less (sx 0 rfl (sx 1 rfl (sx 4 rfl (sub_nil _)))) (.refl _) ?_
 refine hl_nil ?_
 refine hq_then ?_
 refine hc_seq ?_
 refine hc_seq ?_
 refine hc_region ?_
 refine hl_v rfl rfl rfl (rv_ev rfl) ?_
 refine hl_less (sx 0 rfl (sx 1 rfl (sx 4 rfl (sx 5 rfl (sub_nil _))))) (.refl _) ?_
 refine hl_nil ?_
 refine hq_then ?_
 refine hc_block ?_
 refine hc_loop1 (α := Nat) (fun j => []) (fun j => [(0, v), (1, .int .i64 x), (4, .bool false), (5, .int .i64 (j : Int))]) (fun j => j ≤ xs.length ∧ ∀ i, i < j → xs.getD i 0 ≠ x) (fun j => xs.length - j) 0 ⟨by omega, fun i hi => absurd hi (by omega)⟩ (sx 0 rfl (sx 1 rfl (sx 4 rfl (sx 5 rfl (sub_nil _))))) (.slnil) ?_
 intro j hi1
 obtain ⟨hk1, hk2⟩ := hi1
 refine hc_seq ?_
 refine hc_seq ?_
 refine hc_region ?_
 refine hl_v rfl rfl rfl (rv_ev rfl) ?_
 refine hl_v rfl rfl rfl (rv_ev rfl) ?_
 refine hl_v rfl rfl rfl (rv_len rfl Try.underlying26 rfl (rd_old hv)) ?_
 refine hl_lss rfl rfl rfl rfl rfl rfl (fun h2 => ?_) (fun h2 => ?_)
 ·
  refine hl_less (sx 0 rfl (sx 1 rfl (sx 4 rfl (sx 5 rfl (sx 9 rfl (sub_nil _)))))) (.refl _) ?_
  refine hl_nil ?_
  refine hq_then ?_
  refine hc_true rfl ?_
  refine hc_skip ?_
  refine hq_then ?_
  refine hc_seq ?_
  refine hc_block ?_
  refine hc_seq ?_
  refine hc_region ?_
  refine hl_v rfl rfl rfl (rv_ev rfl) ?_
  refine hl_v rfl rfl rfl (rv_ev rfl) ?_
  refine hl_v rfl rfl rfl (rv_index (s := 1) rfl Try.underlying26 (by kernel_rfl) rfl rfl (rd_old hv) (by omega) (by first | omega | (simp only [List.length_set]; omega))) ?_
  refine hl_v rfl rfl rfl (rv_loadEl (u := .int .i64 (xs.getD j 0)) rfl (by kernel_rfl) rfl (rd_old hv) (ints_at1 (show _ < xs.length by first | omega | (simp only [List.length_set]; omega)))) ?_
  refine hl_v rfl rfl rfl (rv_ev rfl) ?_
  refine hl_eql rfl rfl rfl rfl rfl rfl (fun h3 => ?_) (fun h3 => ?_)
  ·
   refine hl_less (sx 0 rfl (sx 1 rfl (sx 4 rfl (sx 5 rfl (sx 9 rfl (sx 17 rfl (sub_nil _))))))) (.refl _) ?_
   refine hl_nil ?_
   refine hq_then ?_
   refine hc_true rfl ?_
   refine hc_seq ?_
   refine hc_region ?_
   refine hl_v rfl rfl rfl (rv_ev rfl) ?_
   refine hl_less (sx 0 rfl (sx 1 rfl (sx 4 rfl (sx 5 rfl (sx 9 rfl (sx 17 rfl (sub_nil _))))))) (.refl _) ?_
   refine hl_nil ?_
   refine hq_then ?_
   refine hc_ret ?_
   refine hq_block_ret ?_
   refine hq_then_ret ?_
   refine hq_then_ret ?_
   refine hq_block_ret ?_
   refine hq_then_ret ?_
   exact hq_ans rfl rfl (congrArg _ (hasB_at xs x j (by omega) (by assumption)).symm)
  ·
   refine hl_less (sx 0 rfl (sx 1 rfl (sx 4 rfl (sx 5 rfl (sx 9 rfl (sx 17 rfl (sub_nil _))))))) (.refl _) ?_
   refine hl_nil ?_
   refine hq_then ?_
   refine hc_false rfl ?_
   refine hc_skip ?_
   refine hq_block_normal ?_
   refine hq_then ?_
   refine hc_region ?_
   refine hl_v rfl rfl rfl (rv_ev rfl) ?_
   refine hl_v rfl rfl rfl (rv_add rfl rfl rfl (by constructor <;> omega)) ?_
   refine hl_v rfl rfl rfl (rv_ev rfl) ?_
   refine hl_less (sx 0 rfl (sx 1 rfl (sx 4 rfl (sx 5 rfl (sx 9 rfl (sx 17 rfl (sub_nil _))))))) (.refl _) ?_
   refine hl_nil ?_
   exact hq_round1 (j + 1) ⟨by omega, fun i hi => by by_cases hij : i = j; (subst hij; assumption); exact hk2 i (by omega)⟩ (by omega) (sx 0 rfl (sx 1 rfl (sx 4 rfl (sx 5 rfl (sub_nil _))))) (.slnil)
 ·
  refine hl_less (sx 0 rfl (sx 1 rfl (sx 4 rfl (sx 5 rfl (sx 9 rfl (sub_nil _)))))) (.refl _) ?_
  refine hl_nil ?_
  refine hq_then ?_
  refine hc_false rfl ?_
  refine hc_exit ?_
  refine hq_then_exit ?_
  refine hq_then_exit ?_
  refine hq_block_exit ?_
  refine hq_then ?_
  refine hc_seq ?_
  refine hc_region ?_
  refine hl_v rfl rfl rfl (rv_ev rfl) ?_
  refine hl_less (sx 0 rfl (sx 1 rfl (sx 4 rfl (sx 5 rfl (sx 9 rfl (sub_nil _)))))) (.refl _) ?_
  refine hl_nil ?_
  refine hq_then ?_
  refine hc_ret ?_
  exact hq_ans rfl rfl (congrArg _ (hasB_no xs x (fun i hi => hk2 i (by omega))).symm)
set_option maxHeartbeats 4000000 in
set_option maxRecDepth 100000 in
theorem l32Walk_mut (g : Nat) (a : Option Addr) (len cap : Nat) (z : List Int) (d : Dev) (s0 : Int) (w0 : World) (l : List HP) (w : World) (hm0 : Mem w0 (curE g a len cap :: l) w) (hb : BRow .u8 w0 a len cap z) (hd : devB d = true) (hs : 0 ≤ s0 ∧ s0 < allI d) :
  Calls Try.prog 34 #[.pointer (some ⟨g, 0, none⟩), .agg #[.int .i64 d.W, .int .i64 d.H, .int .i64 d.T, .int .i64 d.R], .int .i64 s0] w (fun e_ w_ => ∃ v_ p_, e_ = .returned v_ ∧ (fun u_ p_ => ∃ (r : Rt) (sv : Value) (ks : List Int), u_ = .tuple #[r.agg, sv] ∧ p_ = bigE [curE g a len cap, rtE r, rowE 3 1 sv ks.length (ks.map (Value.int .i64))] ∧ (r.nv.oneCell' = true ∧ r.fv.oneCell' = true ∧ sv.oneCell' = true) ∧ Tree d s0 r.ns r.fs ks) v_ p_ ∧ Mem w0 (p_ :: l) w_) := by
 obtain ⟨ra1, ra2⟩ := all_rng hd
 obtain ⟨q1, q2⟩ := per_rng hd
 refine calls_hcM (N := 98) (args := [.pointer (some ⟨g, 0, none⟩), .agg #[.int .i64 d.W, .int .i64 d.H, .int .i64 d.T, .int .i64 d.R], .int .i64 s0]) Try.func34 rfl rfl hm0 ?_
 refine hc_less _ (sx 0 rfl (sx 1 rfl (sx 2 rfl (sub_nil _)))) (.refl _) ?_
 refine hc_seq ?_
 refine hc_region ?_
 refine hl_box rfl rfl rfl (rq_box rfl rfl) ?_
 intro b1
 refine hl_box rfl rfl rfl (rq_alloc (z := .agg #[.slice none 0 0, .slice none 0 0]) rfl (by kernel_rfl)) ?_
 intro b2
 refine hl_v rfl rfl rfl (rv_ev rfl) ?_
 refine hl_less (sx 0 rfl (sx 1 rfl (sx 2 rfl (sx 4 rfl (sx 6 rfl (sx 7 rfl (sub_nil _))))))) (.refl _) ?_
 refine hl_nil ?_
 refine hq_then ?_
 refine hc_seq ?_
 refine hc_region ?_
 refine hl_v rfl rfl rfl (rv_ev rfl) ?_
 refine hl_row rfl rfl rfl (rq_buildSlice (z := .int .i64 0) (s := 1) (cs := ([s0].map (Value.int .i64))) rfl Try.underlying26 (by kernel_rfl) (by decide) rfl (by kernel_rfl) rfl) ?_
 intro g3
 refine hl_row rfl rfl rfl (rq_buildSlice (z := .int .i64 0) (s := 1) (cs := ([0].map (Value.int .i64))) rfl Try.underlying26 (by kernel_rfl) (by decide) rfl (by kernel_rfl) rfl) ?_
 intro g4
 refine hl_v rfl rfl rfl (rv_build (cs := #[.slice (some ⟨g3, 0, none⟩) 1 1, .slice (some ⟨g4, 0, none⟩) 1 1]) rfl rfl (by kernel_rfl)) ?_
 refine hl_box rfl rfl rfl (rq_alloc (z := .agg #[.slice none 0 0, .slice none 0 0]) rfl (by kernel_rfl)) ?_
 intro b5
 refine hl_storeBoxN (i := 0) (off := 0) (us := [.slice (some ⟨g3, 0, none⟩) 1 1, .slice (some ⟨g4, 0, none⟩) 1 1]) (l' := (boxE b5 #[.slice (some ⟨g3, 0, none⟩) 1 1, .slice (some ⟨g4, 0, none⟩) 1 1] 28 :: rowE 3 1 (.slice (some ⟨g4, 0, none⟩) 1 1) 1 ([0].map (Value.int .i64)) :: rowE 3 1 (.slice (some ⟨g3, 0, none⟩) 1 1) 1 ([s0].map (Value.int .i64)) :: boxE b2 #[.slice none 0 0, .slice none 0 0] 28 :: boxE b1 #[.int .i64 d.W, .int .i64 d.H, .int .i64 d.T, .int .i64 d.R] 25 :: curE g a len cap :: l)) rfl rfl rfl (by kernel_rfl) rfl rfl rfl (all_cons rfl (all_cons rfl all_nil)) rfl rfl rfl ?_
 refine hl_less (sx 0 rfl (sx 1 rfl (sx 2 rfl (sx 4 rfl (sx 6 rfl (sx 7 rfl (sx 8 rfl (sub_nil _)))))))) (.refl _) ?_
 refine hl_nil ?_
 refine hq_then ?_
 refine hc_seq ?_
 refine hc_region ?_
 refine hl_row rfl rfl rfl (rq_slice0 (s := 1) rfl Try.underlying26 (by kernel_rfl)) ?_
 intro g6
 refine hl_v rfl rfl rfl (rv_ev rfl) ?_
 refine hl_less (sx 0 rfl (sx 1 rfl (sx 2 rfl (sx 4 rfl (sx 6 rfl (sx 7 rfl (sx 8 rfl (sx 9 rfl (sub_nil _))))))))) (.refl _) ?_
 refine hl_nil ?_
 refine hq_then ?_
 refine hc_seq ?_
 refine hc_region ?_
 refine hl_v rfl rfl rfl (rv_loadN (cs := [.int .i64 d.W, .int .i64 d.H, .int .i64 d.T, .int .i64 d.R]) rfl (by kernel_rfl) (by kernel_rfl) rfl rfl (box_part 5 rfl 0 rfl)) ?_
 refine hl_callV rfl rfl rfl (rq_call (by kernel_rfl) rfl (fun w hm => ret_ans (specRouteNodes_yes d hd w))) ?_
 refine hl_v rfl rfl rfl (rv_ev rfl) ?_
 refine hl_less (sx 0 rfl (sx 1 rfl (sx 2 rfl (sx 4 rfl (sx 6 rfl (sx 7 rfl (sx 8 rfl (sx 9 rfl (sx 10 rfl (sub_nil _)))))))))) (.refl _) ?_
 refine hl_nil ?_
 refine hq_then ?_
 refine hc_seq ?_
 refine hc_seq ?_
 refine hc_region ?_
 refine hl_v rfl rfl rfl (rv_ev rfl) ?_
 refine hl_callM (R := (fun u_ p_ => (∃ x_ : Int, u_ = .int .i64 x_ ∧ 0 ≤ x_ ∧ x_ < 7) ∧ p_ = curE g a len cap)) 6 rfl rfl (by kernel_rfl) rfl rfl (fun l' w hm => belowN_mut g a len cap z 7 _ _ _ hm hb (by constructor <;> omega)) ?_
 intro v7 p8 hR9
 obtain ⟨⟨xhR9, rfl, xhR90, xhR91⟩, rfl⟩ := hR9
 refine hl_eqL (l' := (rowE 3 1 (.slice (some ⟨g6, 0, none⟩) 0 0) 0 ([]) :: boxE b5 #[.slice (some ⟨g3, 0, none⟩) 1 1, .slice (some ⟨g4, 0, none⟩) 1 1] 28 :: rowE 3 1 (.slice (some ⟨g4, 0, none⟩) 1 1) 1 ([0].map (Value.int .i64)) :: rowE 3 1 (.slice (some ⟨g3, 0, none⟩) 1 1) 1 ([s0].map (Value.int .i64)) :: boxE b2 #[.slice none 0 0, .slice none 0 0] 28 :: boxE b1 #[.int .i64 d.W, .int .i64 d.H, .int .i64 d.T, .int .i64 d.R] 25 :: curE g a len cap :: l)) rfl ?_
 refine hl_v rfl rfl rfl (rv_ev rfl) ?_
 refine hl_less (sx 0 rfl (sx 1 rfl (sx 2 rfl (sx 4 rfl (sx 6 rfl (sx 7 rfl (sx 8 rfl (sx 9 rfl (sx 10 rfl (sx 11 rfl (sub_nil _))))))))))) (.refl _) ?_
 refine hl_nil ?_
 refine hq_then ?_
 refine hc_block ?_
 refine hc_loop4 (α := Int) (β := Rt) (γ := Value) (δ := List Int) (fun q r sv ks => (rowE 3 1 sv ks.length (ks.map (Value.int .i64)) :: boxE b5 #[r.nv, r.fv] 28 :: rowE 3 1 r.fv r.fs.length (r.fs.map (Value.int .i64)) :: rowE 3 1 r.nv r.ns.length (r.ns.map (Value.int .i64)) :: boxE b2 #[.slice none 0 0, .slice none 0 0] 28 :: boxE b1 #[.int .i64 d.W, .int .i64 d.H, .int .i64 d.T, .int .i64 d.R] 25 :: curE g a len cap :: l)) (fun q r sv ks => [(0, .pointer (some ⟨g, 0, none⟩)), (1, .agg #[.int .i64 d.W, .int .i64 d.H, .int .i64 d.T, .int .i64 d.R]), (2, .int .i64 s0), (4, .pointer (some ⟨b1, 0, none⟩)), (6, .pointer (some ⟨b2, 0, none⟩)), (7, .slice none 0 0), (8, .pointer (some ⟨b5, 0, none⟩)), (9, sv), (10, .int .i64 (allI d)), (11, .int .i64 q)]) (fun q r sv ks => (0 ≤ q ∧ q ≤ 6) ∧ (r.ns.length : Int) + q ≤ 7 ∧ Tree d s0 r.ns r.fs ks) (fun q r sv ks => q.toNat) _ ⟨.slice (some ⟨g3, 0, none⟩) 1 1, .slice (some ⟨g4, 0, none⟩) 1 1, [s0], [0]⟩ _ [] ⟨by omega, by dsimp only; simp only [List.length_singleton]; omega, tree_one hs⟩ (sx 0 rfl (sx 1 rfl (sx 2 rfl (sx 4 rfl (sx 6 rfl (sx 7 rfl (sx 8 rfl (sx 9 rfl (sx 10 rfl (sx 11 rfl (sub_nil _))))))))))) ((.cons_cons _ (.cons_cons _ (.cons_cons _ (.cons_cons _ (.cons_cons _ (.cons_cons _ (.cons_cons _ (.refl _))))))))) ?_
 intro q r sv ks hi10
 obtain ⟨hq, hlq, htr⟩ := hi10
 have ht1 := htr.len
 have ht2 := htr.l0
 have ht3 := htr.l1
 have ht4 : ks.length ≤ 7 := by rw [htr.sinks]; have := List.length_filter_le (fun x => decide (x % perI d < 5)) (r.ns.drop 1); rw [List.length_drop] at this; omega
 refine hc_seq ?_
 refine hc_seq ?_
 refine hc_region ?_
 refine hl_v rfl rfl rfl (rv_ev rfl) ?_
 refine hl_gtr rfl rfl rfl rfl rfl rfl (fun h11 => ?_) (fun h11 => ?_)
 ·
  refine hl_v rfl rfl rfl (rv_ev rfl) ?_
  refine hl_v rfl rfl rfl (rv_ev rfl) ?_
  refine hl_gtr rfl rfl rfl rfl rfl rfl (fun h12 => ?_) (fun h12 => ?_)
  ·
   refine hl_v rfl rfl rfl (rv_ev rfl) ?_
   refine hl_less (sx 0 rfl (sx 1 rfl (sx 2 rfl (sx 4 rfl (sx 6 rfl (sx 7 rfl (sx 8 rfl (sx 9 rfl (sx 10 rfl (sx 11 rfl (sx 32 rfl (sub_nil _)))))))))))) (.refl _) ?_
   refine hl_nil ?_
   refine hq_then ?_
   refine hc_true rfl ?_
   refine hc_skip ?_
   refine hq_then ?_
   refine hc_seq ?_
   refine hc_block ?_
   refine hc_seq ?_
   refine hc_region ?_
   refine hl_v rfl rfl rfl (rv_ev rfl) ?_
   refine hl_v rfl rfl rfl (rv_ev rfl) ?_
   refine hl_callM (R := (fun u_ p_ => (∃ x_ : Int, u_ = .int .i64 x_ ∧ 0 ≤ x_ ∧ x_ < allI d) ∧ p_ = curE g a len cap)) 6 rfl rfl (by kernel_rfl) rfl rfl (fun l' w hm => belowN_mut g a len cap z (allI d) _ _ _ hm hb (by constructor <;> omega)) ?_
   intro v13 p14 hR15
   obtain ⟨⟨xhR15, rfl, xhR150, xhR151⟩, rfl⟩ := hR15
   refine hl_eqL (l' := (rowE 3 1 sv ks.length (ks.map (Value.int .i64)) :: boxE b5 #[r.nv, r.fv] 28 :: rowE 3 1 r.fv r.fs.length (r.fs.map (Value.int .i64)) :: rowE 3 1 r.nv r.ns.length (r.ns.map (Value.int .i64)) :: boxE b2 #[.slice none 0 0, .slice none 0 0] 28 :: boxE b1 #[.int .i64 d.W, .int .i64 d.H, .int .i64 d.T, .int .i64 d.R] 25 :: curE g a len cap :: l)) rfl ?_
   refine hl_v rfl rfl rfl (rv_ev rfl) ?_
   refine hl_less (sx 0 rfl (sx 1 rfl (sx 2 rfl (sx 4 rfl (sx 6 rfl (sx 7 rfl (sx 8 rfl (sx 9 rfl (sx 10 rfl (sx 11 rfl (sx 12 rfl (sx 32 rfl (sub_nil _))))))))))))) (.refl _) ?_
   refine hl_nil ?_
   refine hq_then ?_
   refine hc_seq ?_
   refine hc_region ?_
   refine hl_v rfl rfl rfl (rv_ev rfl) ?_
   refine hl_less (sx 0 rfl (sx 1 rfl (sx 2 rfl (sx 4 rfl (sx 6 rfl (sx 7 rfl (sx 8 rfl (sx 9 rfl (sx 10 rfl (sx 11 rfl (sx 12 rfl (sx 13 rfl (sx 32 rfl (sub_nil _)))))))))))))) (.refl _) ?_
   refine hl_nil ?_
   refine hq_then ?_
   refine hc_block ?_
   refine hc_loop1 (α := Int) (fun j => (rowE 3 1 sv ks.length (ks.map (Value.int .i64)) :: boxE b5 #[r.nv, r.fv] 28 :: rowE 3 1 r.fv r.fs.length (r.fs.map (Value.int .i64)) :: rowE 3 1 r.nv r.ns.length (r.ns.map (Value.int .i64)) :: boxE b2 #[.slice none 0 0, .slice none 0 0] 28 :: boxE b1 #[.int .i64 d.W, .int .i64 d.H, .int .i64 d.T, .int .i64 d.R] 25 :: curE g a len cap :: l)) (fun j => [(0, .pointer (some ⟨g, 0, none⟩)), (1, .agg #[.int .i64 d.W, .int .i64 d.H, .int .i64 d.T, .int .i64 d.R]), (2, .int .i64 s0), (4, .pointer (some ⟨b1, 0, none⟩)), (6, .pointer (some ⟨b2, 0, none⟩)), (7, .slice none 0 0), (8, .pointer (some ⟨b5, 0, none⟩)), (9, sv), (10, .int .i64 (allI d)), (11, .int .i64 q), (12, .int .i64 xhR15), (13, .int .i64 j), (32, .bool true)]) (fun j => 0 ≤ j ∧ j ≤ allI d) (fun j => (allI d - j).toNat) 0 ⟨by omega, by omega⟩ (sx 0 rfl (sx 1 rfl (sx 2 rfl (sx 4 rfl (sx 6 rfl (sx 7 rfl (sx 8 rfl (sx 9 rfl (sx 10 rfl (sx 11 rfl (sx 12 rfl (sx 13 rfl (sx 32 rfl (sub_nil _)))))))))))))) ((.cons_cons _ (.cons_cons _ (.cons_cons _ (.cons_cons _ (.cons_cons _ (.cons_cons _ (.cons_cons _ (.refl _))))))))) ?_
   intro j hi16
   have hj := hi16
   refine hc_seq ?_
   refine hc_seq ?_
   refine hc_region ?_
   refine hl_v rfl rfl rfl (rv_ev rfl) ?_
   refine hl_v rfl rfl rfl (rv_ev rfl) ?_
   refine hl_lss rfl rfl rfl rfl rfl rfl (fun h17 => ?_) (fun h17 => ?_)
   ·
    refine hl_less (sx 0 rfl (sx 1 rfl (sx 2 rfl (sx 4 rfl (sx 6 rfl (sx 7 rfl (sx 8 rfl (sx 9 rfl (sx 10 rfl (sx 11 rfl (sx 12 rfl (sx 13 rfl (sx 32 rfl (sx 40 rfl (sub_nil _))))))))))))))) (.refl _) ?_
    refine hl_nil ?_
    refine hq_then ?_
    refine hc_true rfl ?_
    refine hc_skip ?_
    refine hq_then ?_
    refine hc_seq ?_
    refine hc_block ?_
    refine hc_seq ?_
    refine hc_region ?_
    refine hl_v rfl rfl rfl (rv_ev rfl) ?_
    refine hl_v rfl rfl rfl (rv_ev rfl) ?_
    refine hl_v rfl rfl rfl (rv_add rfl rfl rfl (by constructor <;> omega)) ?_
    refine hl_v rfl rfl rfl (rv_ev rfl) ?_
    refine hl_v rfl rfl rfl (rv_rem rfl rfl rfl (by constructor <;> omega)) ?_
    refine hl_v rfl rfl rfl (rv_ev rfl) ?_
    obtain ⟨x, hx⟩ : ∃ x, (xhR15 + j) % (allI d) = x := ⟨_, rfl⟩
    rw [hx]
    obtain ⟨x0, x1⟩ : 0 ≤ x ∧ x ≤ allI d - 1 := hx ▸ loc_mod (by omega)
    have hsl : (srcS d x).length ≤ 16 := by rw [src_eq]; exact src_len16 _ _
    refine hl_less (sx 0 rfl (sx 1 rfl (sx 2 rfl (sx 4 rfl (sx 6 rfl (sx 7 rfl (sx 8 rfl (sx 9 rfl (sx 10 rfl (sx 11 rfl (sx 12 rfl (sx 13 rfl (sx 14 rfl (sx 32 rfl (sx 40 rfl (sub_nil _)))))))))))))))) (.refl _) ?_
    refine hl_nil ?_
    refine hq_then ?_
    refine hc_seq ?_
    refine hc_region ?_
    refine hl_v rfl rfl rfl (rv_ev rfl) ?_
    refine hl_less (sx 0 rfl (sx 1 rfl (sx 2 rfl (sx 4 rfl (sx 6 rfl (sx 7 rfl (sx 8 rfl (sx 9 rfl (sx 10 rfl (sx 11 rfl (sx 12 rfl (sx 13 rfl (sx 14 rfl (sx 15 rfl (sx 32 rfl (sx 40 rfl (sub_nil _))))))))))))))))) (.refl _) ?_
    refine hl_nil ?_
    refine hq_then ?_
    refine hc_seq ?_
    refine hc_region ?_
    refine hl_v rfl rfl rfl (rv_loadN (cs := [.int .i64 d.W, .int .i64 d.H, .int .i64 d.T, .int .i64 d.R]) rfl (by kernel_rfl) (by kernel_rfl) rfl rfl (box_part 5 rfl 0 rfl)) ?_
    refine hl_v rfl rfl rfl (rv_ev rfl) ?_
    refine hl_q rfl rfl rfl (rq_call (by kernel_rfl) rfl (fun w hm => specSources_ret d _ w)) ?_
    intro v18 p19 hR20
    subst hR20
    refine hl_v rfl rfl rfl (rv_ev rfl) ?_
    refine hl_less (sx 0 rfl (sx 1 rfl (sx 2 rfl (sx 4 rfl (sx 6 rfl (sx 7 rfl (sx 8 rfl (sx 9 rfl (sx 10 rfl (sx 11 rfl (sx 12 rfl (sx 13 rfl (sx 14 rfl (sx 15 rfl (sx 16 rfl (sx 32 rfl (sx 40 rfl (sub_nil _)))))))))))))))))) (.refl _) ?_
    refine hl_nil ?_
    refine hq_then ?_
    refine hc_seq ?_
    refine hc_seq ?_
    refine hc_region ?_
    refine hl_v rfl rfl rfl (rv_ev rfl) ?_
    refine hl_less (sx 0 rfl (sx 1 rfl (sx 2 rfl (sx 4 rfl (sx 6 rfl (sx 7 rfl (sx 8 rfl (sx 9 rfl (sx 10 rfl (sx 11 rfl (sx 12 rfl (sx 13 rfl (sx 14 rfl (sx 15 rfl (sx 16 rfl (sx 17 rfl (sx 32 rfl (sx 40 rfl (sub_nil _))))))))))))))))))) (.refl _) ?_
    refine hl_nil ?_
    refine hq_then ?_
    refine hc_block ?_
    refine hc_loop2 (α := Nat) (β := Int) (fun i at_ => (rowE 3 1 v18 ((srcS d x).length) ((srcS d x).map (Value.int .i64)) :: rowE 3 1 sv ks.length (ks.map (Value.int .i64)) :: boxE b5 #[r.nv, r.fv] 28 :: rowE 3 1 r.fv r.fs.length (r.fs.map (Value.int .i64)) :: rowE 3 1 r.nv r.ns.length (r.ns.map (Value.int .i64)) :: boxE b2 #[.slice none 0 0, .slice none 0 0] 28 :: boxE b1 #[.int .i64 d.W, .int .i64 d.H, .int .i64 d.T, .int .i64 d.R] 25 :: curE g a len cap :: l)) (fun i at_ => [(0, .pointer (some ⟨g, 0, none⟩)), (1, .agg #[.int .i64 d.W, .int .i64 d.H, .int .i64 d.T, .int .i64 d.R]), (2, .int .i64 s0), (4, .pointer (some ⟨b1, 0, none⟩)), (6, .pointer (some ⟨b2, 0, none⟩)), (7, .slice none 0 0), (8, .pointer (some ⟨b5, 0, none⟩)), (9, sv), (10, .int .i64 (allI d)), (11, .int .i64 q), (12, .int .i64 xhR15), (13, .int .i64 j), (14, .int .i64 x), (15, .int .i64 at_), (16, v18), (17, .int .i64 (i : Int)), (32, .bool true), (40, .bool true)]) (fun i at_ => i ≤ r.ns.length ∧ (at_ = -1 ∨ ((0 ≤ at_ ∧ at_ < r.ns.length) ∧ hasB (srcI d x) (r.ns.getD at_.toNat 0) = true))) (fun i at_ => r.ns.length - i) 0 (-1) ⟨by omega, .inl rfl⟩ (sx 0 rfl (sx 1 rfl (sx 2 rfl (sx 4 rfl (sx 6 rfl (sx 7 rfl (sx 8 rfl (sx 9 rfl (sx 10 rfl (sx 11 rfl (sx 12 rfl (sx 13 rfl (sx 14 rfl (sx 15 rfl (sx 16 rfl (sx 17 rfl (sx 32 rfl (sx 40 rfl (sub_nil _))))))))))))))))))) ((.cons_cons _ (.cons_cons _ (.cons_cons _ (.cons_cons _ (.cons_cons _ (.cons_cons _ (.cons_cons _ (.cons_cons _ (.refl _)))))))))) ?_
    intro i at_ hi21
    obtain ⟨hi1, hat⟩ := hi21
    refine hc_seq ?_
    refine hc_seq ?_
    refine hc_region ?_
    refine hl_v rfl rfl rfl (rv_ev rfl) ?_
    refine hl_v rfl rfl rfl (rv_field (k0 := 0) rfl (by kernel_rfl) rfl) ?_
    refine hl_v rfl rfl rfl (rv_load rfl (by kernel_rfl) rfl (box_cell 2 rfl rfl)) ?_
    refine hl_v rfl rfl rfl (rv_len rfl Try.underlying26 rfl (rd_row 4 rfl)) ?_
    refine hl_lss rfl rfl rfl rfl rfl rfl (fun h22 => ?_) (fun h22 => ?_)
    ·
     refine hl_less (sx 0 rfl (sx 1 rfl (sx 2 rfl (sx 4 rfl (sx 6 rfl (sx 7 rfl (sx 8 rfl (sx 9 rfl (sx 10 rfl (sx 11 rfl (sx 12 rfl (sx 13 rfl (sx 14 rfl (sx 15 rfl (sx 16 rfl (sx 17 rfl (sx 32 rfl (sx 40 rfl (sx 55 rfl (sub_nil _)))))))))))))))))))) (.refl _) ?_
     refine hl_nil ?_
     refine hq_then ?_
     refine hc_true rfl ?_
     refine hc_skip ?_
     refine hq_then ?_
     refine hc_seq ?_
     refine hc_block ?_
     refine hc_seq ?_
     refine hc_region ?_
     refine hl_v rfl rfl rfl (rv_ev rfl) ?_
     refine hl_v rfl rfl rfl (rv_field (k0 := 0) rfl (by kernel_rfl) rfl) ?_
     refine hl_v rfl rfl rfl (rv_load rfl (by kernel_rfl) rfl (box_cell 2 rfl rfl)) ?_
     refine hl_v rfl rfl rfl (rv_ev rfl) ?_
     refine hl_v rfl rfl rfl (rv_index (s := 1) rfl Try.underlying26 (by kernel_rfl) rfl rfl (rd_row 4 rfl) (by omega) (by first | omega | (simp only [List.length_set]; omega))) ?_
     refine hl_v rfl rfl rfl (rv_loadEl (u := .int .i64 (r.ns.getD i 0)) rfl (by kernel_rfl) rfl (rd_row 4 rfl) (ints_at1 (show _ < r.ns.length by first | omega | (simp only [List.length_set]; omega)))) ?_
     refine hl_callV rfl rfl rfl (rq_call (by kernel_rfl) rfl (fun w hm => ret_ans (l13Has_ans (srcS d x) (r.ns.getD i 0) _ w ((rd_row 0 rfl) w hm) (by omega)))) ?_
     refine hl_bool (fun h23 => ?_) (fun h23 => ?_)
     ·
      refine hl_less (sx 0 rfl (sx 1 rfl (sx 2 rfl (sx 4 rfl (sx 6 rfl (sx 7 rfl (sx 8 rfl (sx 9 rfl (sx 10 rfl (sx 11 rfl (sx 12 rfl (sx 13 rfl (sx 14 rfl (sx 15 rfl (sx 16 rfl (sx 17 rfl (sx 32 rfl (sx 40 rfl (sx 55 rfl (sx 64 rfl (sub_nil _))))))))))))))))))))) (.refl _) ?_
      refine hl_nil ?_
      refine hq_then ?_
      refine hc_true rfl ?_
      refine hc_region ?_
      refine hl_v rfl rfl rfl (rv_ev rfl) ?_
      refine hl_v rfl rfl rfl (rv_ev rfl) ?_
      refine hl_less (sx 0 rfl (sx 1 rfl (sx 2 rfl (sx 4 rfl (sx 6 rfl (sx 7 rfl (sx 8 rfl (sx 9 rfl (sx 10 rfl (sx 11 rfl (sx 12 rfl (sx 13 rfl (sx 14 rfl (sx 15 rfl (sx 16 rfl (sx 17 rfl (sx 32 rfl (sx 40 rfl (sx 55 rfl (sx 64 rfl (sub_nil _))))))))))))))))))))) (.refl _) ?_
      refine hl_nil ?_
      refine hq_block_normal ?_
      refine hq_then ?_
      refine hc_region ?_
      refine hl_v rfl rfl rfl (rv_ev rfl) ?_
      refine hl_v rfl rfl rfl (rv_add rfl rfl rfl (by constructor <;> omega)) ?_
      refine hl_v rfl rfl rfl (rv_ev rfl) ?_
      refine hl_less (sx 0 rfl (sx 1 rfl (sx 2 rfl (sx 4 rfl (sx 6 rfl (sx 7 rfl (sx 8 rfl (sx 9 rfl (sx 10 rfl (sx 11 rfl (sx 12 rfl (sx 13 rfl (sx 14 rfl (sx 15 rfl (sx 16 rfl (sx 17 rfl (sx 32 rfl (sx 40 rfl (sx 55 rfl (sx 64 rfl (sub_nil _))))))))))))))))))))) (.refl _) ?_
      refine hl_nil ?_
      exact hq_round2 (i + 1) (i : Int) ⟨by omega, .inr ⟨by omega, by rw [← src_eq]; assumption⟩⟩ (by omega) (sx 0 rfl (sx 1 rfl (sx 2 rfl (sx 4 rfl (sx 6 rfl (sx 7 rfl (sx 8 rfl (sx 9 rfl (sx 10 rfl (sx 11 rfl (sx 12 rfl (sx 13 rfl (sx 14 rfl (sx 15 rfl (sx 16 rfl (sx 17 rfl (sx 32 rfl (sx 40 rfl (sub_nil _))))))))))))))))))) ((.cons_cons _ (.cons_cons _ (.cons_cons _ (.cons_cons _ (.cons_cons _ (.cons_cons _ (.cons_cons _ (.cons_cons _ (.refl _))))))))))
     ·
      refine hl_less (sx 0 rfl (sx 1 rfl (sx 2 rfl (sx 4 rfl (sx 6 rfl (sx 7 rfl (sx 8 rfl (sx 9 rfl (sx 10 rfl (sx 11 rfl (sx 12 rfl (sx 13 rfl (sx 14 rfl (sx 15 rfl (sx 16 rfl (sx 17 rfl (sx 32 rfl (sx 40 rfl (sx 55 rfl (sx 64 rfl (sub_nil _))))))))))))))))))))) (.refl _) ?_
      refine hl_nil ?_
      refine hq_then ?_
      refine hc_false rfl ?_
      refine hc_skip ?_
      refine hq_block_normal ?_
      refine hq_then ?_
      refine hc_region ?_
      refine hl_v rfl rfl rfl (rv_ev rfl) ?_
      refine hl_v rfl rfl rfl (rv_add rfl rfl rfl (by constructor <;> omega)) ?_
      refine hl_v rfl rfl rfl (rv_ev rfl) ?_
      refine hl_less (sx 0 rfl (sx 1 rfl (sx 2 rfl (sx 4 rfl (sx 6 rfl (sx 7 rfl (sx 8 rfl (sx 9 rfl (sx 10 rfl (sx 11 rfl (sx 12 rfl (sx 13 rfl (sx 14 rfl (sx 15 rfl (sx 16 rfl (sx 17 rfl (sx 32 rfl (sx 40 rfl (sx 55 rfl (sx 64 rfl (sub_nil _))))))))))))))))))))) (.refl _) ?_
      refine hl_nil ?_
      exact hq_round2 (i + 1) at_ ⟨by omega, hat⟩ (by omega) (sx 0 rfl (sx 1 rfl (sx 2 rfl (sx 4 rfl (sx 6 rfl (sx 7 rfl (sx 8 rfl (sx 9 rfl (sx 10 rfl (sx 11 rfl (sx 12 rfl (sx 13 rfl (sx 14 rfl (sx 15 rfl (sx 16 rfl (sx 17 rfl (sx 32 rfl (sx 40 rfl (sub_nil _))))))))))))))))))) ((.cons_cons _ (.cons_cons _ (.cons_cons _ (.cons_cons _ (.cons_cons _ (.cons_cons _ (.cons_cons _ (.cons_cons _ (.refl _))))))))))
    ·
     refine hl_less (sx 0 rfl (sx 1 rfl (sx 2 rfl (sx 4 rfl (sx 6 rfl (sx 7 rfl (sx 8 rfl (sx 9 rfl (sx 10 rfl (sx 11 rfl (sx 12 rfl (sx 13 rfl (sx 14 rfl (sx 15 rfl (sx 16 rfl (sx 17 rfl (sx 32 rfl (sx 40 rfl (sx 55 rfl (sub_nil _)))))))))))))))))))) (.refl _) ?_
     refine hl_nil ?_
     refine hq_then ?_
     refine hc_false rfl ?_
     refine hc_exit ?_
     refine hq_then_exit ?_
     refine hq_then_exit ?_
     refine hq_block_exit ?_
     refine hq_then ?_
     refine hc_seq ?_
     refine hc_region ?_
     refine hl_v rfl rfl rfl (rv_ev rfl) ?_
     refine hl_geq rfl rfl rfl rfl rfl rfl (fun h24 => ?_) (fun h24 => ?_)
     ·
      refine hl_v rfl rfl rfl (rv_ev rfl) ?_
      refine hl_v rfl rfl rfl (rv_field (k0 := 0) rfl (by kernel_rfl) rfl) ?_
      refine hl_v rfl rfl rfl (rv_load rfl (by kernel_rfl) rfl (box_cell 2 rfl rfl)) ?_
      refine hl_v rfl rfl rfl (rv_ev rfl) ?_
      refine hl_callV rfl rfl rfl (rq_call (by kernel_rfl) rfl (fun w hm => ret_ans (l13Has_ans r.ns x _ w ((rd_row 4 rfl) w hm) (by omega)))) ?_
      refine hl_bool (fun h25 => ?_) (fun h25 => ?_)
      ·
       refine hl_v rfl rfl rfl (rv_ev rfl) ?_
       refine hl_v rfl rfl rfl (rv_ev rfl) ?_
       refine hl_less (sx 0 rfl (sx 1 rfl (sx 2 rfl (sx 4 rfl (sx 6 rfl (sx 7 rfl (sx 8 rfl (sx 9 rfl (sx 10 rfl (sx 11 rfl (sx 12 rfl (sx 13 rfl (sx 14 rfl (sx 15 rfl (sx 16 rfl (sx 17 rfl (sx 32 rfl (sx 40 rfl (sx 55 rfl (sx 74 rfl (sub_nil _))))))))))))))))))))) (.refl _) ?_
       refine hl_nil ?_
       refine hq_then ?_
       refine hc_false rfl ?_
       refine hc_skip ?_
       refine hq_block_normal ?_
       refine hq_then ?_
       refine hc_region ?_
       refine hl_v rfl rfl rfl (rv_ev rfl) ?_
       refine hl_v rfl rfl rfl (rv_add rfl rfl rfl (by constructor <;> omega)) ?_
       refine hl_v rfl rfl rfl (rv_ev rfl) ?_
       refine hl_less (sx 0 rfl (sx 1 rfl (sx 2 rfl (sx 4 rfl (sx 6 rfl (sx 7 rfl (sx 8 rfl (sx 9 rfl (sx 10 rfl (sx 11 rfl (sx 12 rfl (sx 13 rfl (sx 14 rfl (sx 15 rfl (sx 16 rfl (sx 17 rfl (sx 32 rfl (sx 40 rfl (sx 55 rfl (sx 74 rfl (sub_nil _))))))))))))))))))))) (.refl _) ?_
       refine hl_nil ?_
       exact hq_round1 (j + 1) (by omega) (by omega) (sx 0 rfl (sx 1 rfl (sx 2 rfl (sx 4 rfl (sx 6 rfl (sx 7 rfl (sx 8 rfl (sx 9 rfl (sx 10 rfl (sx 11 rfl (sx 12 rfl (sx 13 rfl (sx 32 rfl (sub_nil _)))))))))))))) ((.cons _ (.cons_cons _ (.cons_cons _ (.cons_cons _ (.cons_cons _ (.cons_cons _ (.cons_cons _ (.cons_cons _ (.refl _))))))))))
      ·
       refine hl_v rfl rfl rfl (rv_ev rfl) ?_
       refine hl_v rfl rfl rfl (rv_ev rfl) ?_
       refine hl_less (sx 0 rfl (sx 1 rfl (sx 2 rfl (sx 4 rfl (sx 6 rfl (sx 7 rfl (sx 8 rfl (sx 9 rfl (sx 10 rfl (sx 11 rfl (sx 12 rfl (sx 13 rfl (sx 14 rfl (sx 15 rfl (sx 16 rfl (sx 17 rfl (sx 32 rfl (sx 40 rfl (sx 55 rfl (sx 74 rfl (sub_nil _))))))))))))))))))))) (.refl _) ?_
       refine hl_nil ?_
       refine hq_then ?_
       refine hc_true rfl ?_
       refine hc_seq ?_
       refine hc_region ?_
       refine hl_v rfl rfl rfl (rv_field (k0 := 0) rfl (by kernel_rfl) rfl) ?_
       refine hl_v rfl rfl rfl (rv_load rfl (by kernel_rfl) rfl (box_cell 2 rfl rfl)) ?_
       refine hl_v rfl rfl rfl (rv_ev rfl) ?_
       refine hl_row rfl rfl rfl (rq_buildSlice (z := .int .i64 0) (s := 1) (cs := ([x].map (Value.int .i64))) rfl Try.underlying26 (by kernel_rfl) (by decide) rfl (by kernel_rfl) rfl) ?_
       intro g26
       refine hl_append (i := 5) (z := .int .i64 0) (bytes := 8) (n' := (r.ns ++ ([x])).length) (xs' := ((r.ns ++ ([x])).map (Value.int .i64))) (L := fun v27 => (rowE 3 1 (.slice (some ⟨g26, 0, none⟩) 1 1) 1 ([x].map (Value.int .i64)) :: rowE 3 1 v18 ((srcS d x).length) ((srcS d x).map (Value.int .i64)) :: rowE 3 1 sv ks.length (ks.map (Value.int .i64)) :: boxE b5 #[r.nv, r.fv] 28 :: rowE 3 1 r.fv r.fs.length (r.fs.map (Value.int .i64)) :: rowE 3 1 v27 ((r.ns ++ ([x])).length) ((r.ns ++ ([x])).map (Value.int .i64)) :: boxE b2 #[.slice none 0 0, .slice none 0 0] 28 :: boxE b1 #[.int .i64 d.W, .int .i64 d.H, .int .i64 d.T, .int .i64 d.R] 25 :: curE g a len cap :: l)) rfl rfl rfl rfl Try.underlying26 (by kernel_rfl) (by kernel_rfl) rfl rfl rfl (rd_row 0 rfl) (ints_one _) (by first | omega | (simp; omega)) (len_app r.ns ([x])) (ints_app r.ns ([x])) (fun _ => rfl) ?_
       intro v27
       refine hl_v rfl rfl rfl (rv_field (k0 := 0) rfl (by kernel_rfl) rfl) ?_
       refine hl_one (i := 5) rfl (fun ho28 => ?_)
       refine hl_storeBox (i := 3) (l' := (rowE 3 1 (.slice (some ⟨g26, 0, none⟩) 1 1) 1 ([x].map (Value.int .i64)) :: rowE 3 1 v18 ((srcS d x).length) ((srcS d x).map (Value.int .i64)) :: rowE 3 1 sv ks.length (ks.map (Value.int .i64)) :: boxE b5 #[v27, r.fv] 28 :: rowE 3 1 r.fv r.fs.length (r.fs.map (Value.int .i64)) :: rowE 3 1 v27 ((r.ns ++ ([x])).length) ((r.ns ++ ([x])).map (Value.int .i64)) :: boxE b2 #[.slice none 0 0, .slice none 0 0] 28 :: boxE b1 #[.int .i64 d.W, .int .i64 d.H, .int .i64 d.T, .int .i64 d.R] 25 :: curE g a len cap :: l)) rfl rfl rfl (by kernel_rfl) rfl rfl ho28 rfl rfl rfl ?_
       refine hl_less (sx 0 rfl (sx 1 rfl (sx 2 rfl (sx 4 rfl (sx 6 rfl (sx 7 rfl (sx 8 rfl (sx 9 rfl (sx 10 rfl (sx 11 rfl (sx 12 rfl (sx 13 rfl (sx 14 rfl (sx 15 rfl (sx 16 rfl (sx 17 rfl (sx 32 rfl (sx 40 rfl (sx 55 rfl (sx 74 rfl (sub_nil _))))))))))))))))))))) (.refl _) ?_
       refine hl_nil ?_
       refine hq_then ?_
       refine hc_seq ?_
       refine hc_region ?_
       refine hl_v rfl rfl rfl (rv_field (k0 := 1) rfl (by kernel_rfl) rfl) ?_
       refine hl_v rfl rfl rfl (rv_load rfl (by kernel_rfl) rfl (box_cell 3 rfl rfl)) ?_
       refine hl_v rfl rfl rfl (rv_ev rfl) ?_
       refine hl_row rfl rfl rfl (rq_buildSlice (z := .int .i64 0) (s := 1) (cs := ([at_].map (Value.int .i64))) rfl Try.underlying26 (by kernel_rfl) (by decide) rfl (by kernel_rfl) rfl) ?_
       intro g29
       refine hl_append (i := 5) (z := .int .i64 0) (bytes := 8) (n' := (r.fs ++ ([at_])).length) (xs' := ((r.fs ++ ([at_])).map (Value.int .i64))) (L := fun v30 => (rowE 3 1 (.slice (some ⟨g29, 0, none⟩) 1 1) 1 ([at_].map (Value.int .i64)) :: rowE 3 1 (.slice (some ⟨g26, 0, none⟩) 1 1) 1 ([x].map (Value.int .i64)) :: rowE 3 1 v18 ((srcS d x).length) ((srcS d x).map (Value.int .i64)) :: rowE 3 1 sv ks.length (ks.map (Value.int .i64)) :: boxE b5 #[v27, r.fv] 28 :: rowE 3 1 v30 ((r.fs ++ ([at_])).length) ((r.fs ++ ([at_])).map (Value.int .i64)) :: rowE 3 1 v27 ((r.ns ++ ([x])).length) ((r.ns ++ ([x])).map (Value.int .i64)) :: boxE b2 #[.slice none 0 0, .slice none 0 0] 28 :: boxE b1 #[.int .i64 d.W, .int .i64 d.H, .int .i64 d.T, .int .i64 d.R] 25 :: curE g a len cap :: l)) rfl rfl rfl rfl Try.underlying26 (by kernel_rfl) (by kernel_rfl) rfl rfl rfl (rd_row 0 rfl) (ints_one _) (by first | omega | (simp; omega)) (len_app r.fs ([at_])) (ints_app r.fs ([at_])) (fun _ => rfl) ?_
       intro v30
       refine hl_v rfl rfl rfl (rv_field (k0 := 1) rfl (by kernel_rfl) rfl) ?_
       refine hl_one (i := 5) rfl (fun ho31 => ?_)
       refine hl_storeBox (i := 4) (l' := (rowE 3 1 (.slice (some ⟨g29, 0, none⟩) 1 1) 1 ([at_].map (Value.int .i64)) :: rowE 3 1 (.slice (some ⟨g26, 0, none⟩) 1 1) 1 ([x].map (Value.int .i64)) :: rowE 3 1 v18 ((srcS d x).length) ((srcS d x).map (Value.int .i64)) :: rowE 3 1 sv ks.length (ks.map (Value.int .i64)) :: boxE b5 #[v27, v30] 28 :: rowE 3 1 v30 ((r.fs ++ ([at_])).length) ((r.fs ++ ([at_])).map (Value.int .i64)) :: rowE 3 1 v27 ((r.ns ++ ([x])).length) ((r.ns ++ ([x])).map (Value.int .i64)) :: boxE b2 #[.slice none 0 0, .slice none 0 0] 28 :: boxE b1 #[.int .i64 d.W, .int .i64 d.H, .int .i64 d.T, .int .i64 d.R] 25 :: curE g a len cap :: l)) rfl rfl rfl (by kernel_rfl) rfl rfl ho31 rfl rfl rfl ?_
       refine hl_less (sx 0 rfl (sx 1 rfl (sx 2 rfl (sx 4 rfl (sx 6 rfl (sx 7 rfl (sx 8 rfl (sx 9 rfl (sx 10 rfl (sx 11 rfl (sx 12 rfl (sx 13 rfl (sx 14 rfl (sx 15 rfl (sx 16 rfl (sx 17 rfl (sx 32 rfl (sx 40 rfl (sx 55 rfl (sx 74 rfl (sub_nil _))))))))))))))))))))) (.refl _) ?_
       refine hl_nil ?_
       refine hq_then ?_
       refine hc_seq ?_
       refine hc_seq ?_
       refine hc_region ?_
       refine hl_v rfl rfl rfl (rv_ev rfl) ?_
       refine hl_v rfl rfl rfl (rv_loadN (cs := [.int .i64 d.W, .int .i64 d.H, .int .i64 d.T, .int .i64 d.R]) rfl (by kernel_rfl) (by kernel_rfl) rfl rfl (box_part 8 rfl 0 rfl)) ?_
       refine hl_callV rfl rfl rfl (rq_call (by kernel_rfl) rfl (fun w hm => ret_ans (specPer_any d hd w))) ?_
       refine hl_v rfl rfl rfl (rv_rem rfl rfl rfl (by constructor <;> omega)) ?_
       refine hl_lss rfl rfl rfl rfl rfl rfl (fun h32 => ?_) (fun h32 => ?_)
       ·
        refine hl_less (sx 0 rfl (sx 1 rfl (sx 2 rfl (sx 4 rfl (sx 6 rfl (sx 7 rfl (sx 8 rfl (sx 9 rfl (sx 10 rfl (sx 11 rfl (sx 12 rfl (sx 13 rfl (sx 14 rfl (sx 15 rfl (sx 16 rfl (sx 17 rfl (sx 32 rfl (sx 40 rfl (sx 55 rfl (sx 74 rfl (sx 91 rfl (sub_nil _)))))))))))))))))))))) (.refl _) ?_
        refine hl_nil ?_
        refine hq_then ?_
        refine hc_true rfl ?_
        refine hc_region ?_
        refine hl_v rfl rfl rfl (rv_ev rfl) ?_
        refine hl_v rfl rfl rfl (rv_ev rfl) ?_
        refine hl_row rfl rfl rfl (rq_buildSlice (z := .int .i64 0) (s := 1) (cs := ([x].map (Value.int .i64))) rfl Try.underlying26 (by kernel_rfl) (by decide) rfl (by kernel_rfl) rfl) ?_
        intro g33
        refine hl_append (i := 4) (z := .int .i64 0) (bytes := 8) (n' := (ks ++ ([x])).length) (xs' := ((ks ++ ([x])).map (Value.int .i64))) (L := fun v34 => (rowE 3 1 (.slice (some ⟨g33, 0, none⟩) 1 1) 1 ([x].map (Value.int .i64)) :: rowE 3 1 (.slice (some ⟨g29, 0, none⟩) 1 1) 1 ([at_].map (Value.int .i64)) :: rowE 3 1 (.slice (some ⟨g26, 0, none⟩) 1 1) 1 ([x].map (Value.int .i64)) :: rowE 3 1 v18 ((srcS d x).length) ((srcS d x).map (Value.int .i64)) :: rowE 3 1 v34 ((ks ++ ([x])).length) ((ks ++ ([x])).map (Value.int .i64)) :: boxE b5 #[v27, v30] 28 :: rowE 3 1 v30 ((r.fs ++ ([at_])).length) ((r.fs ++ ([at_])).map (Value.int .i64)) :: rowE 3 1 v27 ((r.ns ++ ([x])).length) ((r.ns ++ ([x])).map (Value.int .i64)) :: boxE b2 #[.slice none 0 0, .slice none 0 0] 28 :: boxE b1 #[.int .i64 d.W, .int .i64 d.H, .int .i64 d.T, .int .i64 d.R] 25 :: curE g a len cap :: l)) rfl rfl rfl rfl Try.underlying26 (by kernel_rfl) (by kernel_rfl) rfl rfl rfl (rd_row 0 rfl) (ints_one _) (by first | omega | (simp; omega)) (len_app ks ([x])) (ints_app ks ([x])) (fun _ => rfl) ?_
        intro v34
        refine hl_v rfl rfl rfl (rv_ev rfl) ?_
        refine hl_less (sx 0 rfl (sx 1 rfl (sx 2 rfl (sx 4 rfl (sx 6 rfl (sx 7 rfl (sx 8 rfl (sx 9 rfl (sx 10 rfl (sx 11 rfl (sx 12 rfl (sx 13 rfl (sx 14 rfl (sx 15 rfl (sx 16 rfl (sx 17 rfl (sx 32 rfl (sx 40 rfl (sx 55 rfl (sx 74 rfl (sx 91 rfl (sub_nil _)))))))))))))))))))))) (.refl _) ?_
        refine hl_nil ?_
        refine hq_then ?_
        refine hc_exit ?_
        refine hq_block_past rfl ?_
        refine hq_then_exit ?_
        refine hq_then_exit ?_
        refine hq_block_exit ?_
        refine hq_block_normal ?_
        refine hq_then ?_
        refine hc_region ?_
        refine hl_v rfl rfl rfl (rv_ev rfl) ?_
        refine hl_v rfl rfl rfl (rv_sub rfl rfl rfl (by constructor <;> omega)) ?_
        refine hl_v rfl rfl rfl (rv_ev rfl) ?_
        refine hl_less (sx 0 rfl (sx 1 rfl (sx 2 rfl (sx 4 rfl (sx 6 rfl (sx 7 rfl (sx 8 rfl (sx 9 rfl (sx 10 rfl (sx 11 rfl (sx 12 rfl (sx 13 rfl (sx 14 rfl (sx 15 rfl (sx 16 rfl (sx 17 rfl (sx 32 rfl (sx 40 rfl (sx 55 rfl (sx 74 rfl (sx 91 rfl (sub_nil _)))))))))))))))))))))) (.refl _) ?_
        refine hl_nil ?_
        exact hq_round4 (q - 1) ⟨v27, v30, r.ns ++ ([x]), r.fs ++ ([at_])⟩ v34 (ks ++ ([x])) ⟨by omega, by dsimp only; simp only [List.length_append, List.length_singleton]; omega, by have h9 := tree_app htr (by omega) (by omega) (by assumption) (hat.resolve_left (by omega)).1 (hat.resolve_left (by omega)).2; rw [if_pos (by omega)] at h9; exact h9⟩ (by omega) (sx 0 rfl (sx 1 rfl (sx 2 rfl (sx 4 rfl (sx 6 rfl (sx 7 rfl (sx 8 rfl (sx 9 rfl (sx 10 rfl (sx 11 rfl (sub_nil _))))))))))) ((.cons _ (.cons _ (.cons _ (.cons _ (.cons_cons _ (.cons_cons _ (.cons_cons _ (.cons_cons _ (.cons_cons _ (.cons_cons _ (.cons_cons _ (.refl _)))))))))))))
       ·
        refine hl_less (sx 0 rfl (sx 1 rfl (sx 2 rfl (sx 4 rfl (sx 6 rfl (sx 7 rfl (sx 8 rfl (sx 9 rfl (sx 10 rfl (sx 11 rfl (sx 12 rfl (sx 13 rfl (sx 14 rfl (sx 15 rfl (sx 16 rfl (sx 17 rfl (sx 32 rfl (sx 40 rfl (sx 55 rfl (sx 74 rfl (sx 91 rfl (sub_nil _)))))))))))))))))))))) (.refl _) ?_
        refine hl_nil ?_
        refine hq_then ?_
        refine hc_false rfl ?_
        refine hc_skip ?_
        refine hq_then ?_
        refine hc_exit ?_
        refine hq_block_past rfl ?_
        refine hq_then_exit ?_
        refine hq_then_exit ?_
        refine hq_block_exit ?_
        refine hq_block_normal ?_
        refine hq_then ?_
        refine hc_region ?_
        refine hl_v rfl rfl rfl (rv_ev rfl) ?_
        refine hl_v rfl rfl rfl (rv_sub rfl rfl rfl (by constructor <;> omega)) ?_
        refine hl_v rfl rfl rfl (rv_ev rfl) ?_
        refine hl_less (sx 0 rfl (sx 1 rfl (sx 2 rfl (sx 4 rfl (sx 6 rfl (sx 7 rfl (sx 8 rfl (sx 9 rfl (sx 10 rfl (sx 11 rfl (sx 12 rfl (sx 13 rfl (sx 14 rfl (sx 15 rfl (sx 16 rfl (sx 17 rfl (sx 32 rfl (sx 40 rfl (sx 55 rfl (sx 74 rfl (sx 91 rfl (sub_nil _)))))))))))))))))))))) (.refl _) ?_
        refine hl_nil ?_
        exact hq_round4 (q - 1) ⟨v27, v30, r.ns ++ ([x]), r.fs ++ ([at_])⟩ sv ks ⟨by omega, by dsimp only; simp only [List.length_append, List.length_singleton]; omega, by have h9 := tree_app htr (by omega) (by omega) (by assumption) (hat.resolve_left (by omega)).1 (hat.resolve_left (by omega)).2; rw [if_neg (by omega)] at h9; exact h9⟩ (by omega) (sx 0 rfl (sx 1 rfl (sx 2 rfl (sx 4 rfl (sx 6 rfl (sx 7 rfl (sx 8 rfl (sx 9 rfl (sx 10 rfl (sx 11 rfl (sub_nil _))))))))))) ((.cons _ (.cons _ (.cons _ (.cons_cons _ (.cons_cons _ (.cons_cons _ (.cons_cons _ (.cons_cons _ (.cons_cons _ (.cons_cons _ (.refl _))))))))))))
     ·
      refine hl_v rfl rfl rfl (rv_ev rfl) ?_
      refine hl_skip rfl rfl rfl ?_
      refine hl_skip rfl rfl rfl ?_
      refine hl_skip rfl rfl rfl ?_
      refine hl_skip rfl rfl rfl ?_
      refine hl_skip rfl rfl rfl ?_
      refine hl_v rfl rfl rfl (rv_ev rfl) ?_
      refine hl_less (sx 0 rfl (sx 1 rfl (sx 2 rfl (sx 4 rfl (sx 6 rfl (sx 7 rfl (sx 8 rfl (sx 9 rfl (sx 10 rfl (sx 11 rfl (sx 12 rfl (sx 13 rfl (sx 14 rfl (sx 15 rfl (sx 16 rfl (sx 17 rfl (sx 32 rfl (sx 40 rfl (sx 55 rfl (sx 74 rfl (sub_nil _))))))))))))))))))))) (.refl _) ?_
      refine hl_nil ?_
      refine hq_then ?_
      refine hc_false rfl ?_
      refine hc_skip ?_
      refine hq_block_normal ?_
      refine hq_then ?_
      refine hc_region ?_
      refine hl_v rfl rfl rfl (rv_ev rfl) ?_
      refine hl_v rfl rfl rfl (rv_add rfl rfl rfl (by constructor <;> omega)) ?_
      refine hl_v rfl rfl rfl (rv_ev rfl) ?_
      refine hl_less (sx 0 rfl (sx 1 rfl (sx 2 rfl (sx 4 rfl (sx 6 rfl (sx 7 rfl (sx 8 rfl (sx 9 rfl (sx 10 rfl (sx 11 rfl (sx 12 rfl (sx 13 rfl (sx 14 rfl (sx 15 rfl (sx 16 rfl (sx 17 rfl (sx 32 rfl (sx 40 rfl (sx 55 rfl (sx 74 rfl (sub_nil _))))))))))))))))))))) (.refl _) ?_
      refine hl_nil ?_
      exact hq_round1 (j + 1) (by omega) (by omega) (sx 0 rfl (sx 1 rfl (sx 2 rfl (sx 4 rfl (sx 6 rfl (sx 7 rfl (sx 8 rfl (sx 9 rfl (sx 10 rfl (sx 11 rfl (sx 12 rfl (sx 13 rfl (sx 32 rfl (sub_nil _)))))))))))))) ((.cons _ (.cons_cons _ (.cons_cons _ (.cons_cons _ (.cons_cons _ (.cons_cons _ (.cons_cons _ (.cons_cons _ (.refl _))))))))))
   ·
    refine hl_less (sx 0 rfl (sx 1 rfl (sx 2 rfl (sx 4 rfl (sx 6 rfl (sx 7 rfl (sx 8 rfl (sx 9 rfl (sx 10 rfl (sx 11 rfl (sx 12 rfl (sx 13 rfl (sx 32 rfl (sx 40 rfl (sub_nil _))))))))))))))) (.refl _) ?_
    refine hl_nil ?_
    refine hq_then ?_
    refine hc_false rfl ?_
    refine hc_exit ?_
    refine hq_then_exit ?_
    refine hq_then_exit ?_
    refine hq_block_exit ?_
    refine hq_block_normal ?_
    refine hq_then ?_
    refine hc_region ?_
    refine hl_v rfl rfl rfl (rv_ev rfl) ?_
    refine hl_v rfl rfl rfl (rv_sub rfl rfl rfl (by constructor <;> omega)) ?_
    refine hl_v rfl rfl rfl (rv_ev rfl) ?_
    refine hl_less (sx 0 rfl (sx 1 rfl (sx 2 rfl (sx 4 rfl (sx 6 rfl (sx 7 rfl (sx 8 rfl (sx 9 rfl (sx 10 rfl (sx 11 rfl (sx 12 rfl (sx 13 rfl (sx 32 rfl (sx 40 rfl (sub_nil _))))))))))))))) (.refl _) ?_
    refine hl_nil ?_
    exact hq_round4 (q - 1) ⟨r.nv, r.fv, r.ns, r.fs⟩ sv ks ⟨by omega, by dsimp only; omega, htr⟩ (by omega) (sx 0 rfl (sx 1 rfl (sx 2 rfl (sx 4 rfl (sx 6 rfl (sx 7 rfl (sx 8 rfl (sx 9 rfl (sx 10 rfl (sx 11 rfl (sub_nil _))))))))))) ((.cons_cons _ (.cons_cons _ (.cons_cons _ (.cons_cons _ (.cons_cons _ (.cons_cons _ (.cons_cons _ (.refl _)))))))))
  ·
   refine hl_v rfl rfl rfl (rv_ev rfl) ?_
   refine hl_less (sx 0 rfl (sx 1 rfl (sx 2 rfl (sx 4 rfl (sx 6 rfl (sx 7 rfl (sx 8 rfl (sx 9 rfl (sx 10 rfl (sx 11 rfl (sx 32 rfl (sub_nil _)))))))))))) (.refl _) ?_
   refine hl_nil ?_
   refine hq_then ?_
   refine hc_false rfl ?_
   refine hc_exit ?_
   refine hq_then_exit ?_
   refine hq_then_exit ?_
   refine hq_block_exit ?_
   refine hq_then ?_
   refine hc_seq ?_
   refine hc_region ?_
   refine hl_v rfl rfl rfl (rv_loadN (cs := [r.nv, r.fv]) rfl (by kernel_rfl) (by kernel_rfl) rfl rfl (box_part 1 rfl 0 rfl)) ?_
   refine hl_v rfl rfl rfl (rv_ev rfl) ?_
   refine hl_one (i := 2) rfl (fun ho35 => ?_)
   refine hl_one (i := 3) rfl (fun ho36 => ?_)
   refine hl_storeBoxN (i := 4) (off := 0) (us := [r.nv, r.fv]) (l' := (rowE 3 1 sv ks.length (ks.map (Value.int .i64)) :: boxE b5 #[r.nv, r.fv] 28 :: rowE 3 1 r.fv r.fs.length (r.fs.map (Value.int .i64)) :: rowE 3 1 r.nv r.ns.length (r.ns.map (Value.int .i64)) :: boxE b2 #[r.nv, r.fv] 28 :: boxE b1 #[.int .i64 d.W, .int .i64 d.H, .int .i64 d.T, .int .i64 d.R] 25 :: curE g a len cap :: l)) rfl rfl rfl (by kernel_rfl) rfl rfl rfl (all_cons ho36 (all_cons ho35 all_nil)) rfl rfl rfl ?_
   refine hl_v rfl rfl rfl (rv_ev rfl) ?_
   refine hl_less (sx 0 rfl (sx 1 rfl (sx 2 rfl (sx 4 rfl (sx 6 rfl (sx 7 rfl (sx 8 rfl (sx 9 rfl (sx 10 rfl (sx 11 rfl (sx 32 rfl (sub_nil _)))))))))))) (.refl _) ?_
   refine hl_nil ?_
   refine hq_then ?_
   refine hc_ret ?_
   refine hq_one (i := 3) rfl (fun ornv => ?_)
   refine hq_one (i := 2) rfl (fun orfv => ?_)
   refine hq_one (i := 0) rfl (fun osv => ?_)
   refine hq_conv (rowE 3 1 r.nv r.ns.length (r.ns.map (Value.int .i64)) :: rowE 3 1 r.fv r.fs.length (r.fs.map (Value.int .i64)) :: rowE 3 1 sv ks.length (ks.map (Value.int .i64)) :: curE g a len cap :: boxE b2 #[r.nv, r.fv] 28 :: l) (conv_pick (src := [rowE 3 1 sv ks.length (ks.map (Value.int .i64)), boxE b5 #[r.nv, r.fv] 28, rowE 3 1 r.fv r.fs.length (r.fs.map (Value.int .i64)), rowE 3 1 r.nv r.ns.length (r.ns.map (Value.int .i64)), boxE b2 #[r.nv, r.fv] 28, boxE b1 #[.int .i64 d.W, .int .i64 d.H, .int .i64 d.T, .int .i64 d.R] 25, curE g a len cap]) (dst := [rowE 3 1 r.nv r.ns.length (r.ns.map (Value.int .i64)), rowE 3 1 r.fv r.fs.length (r.fs.map (Value.int .i64)), rowE 3 1 sv ks.length (ks.map (Value.int .i64)), curE g a len cap, boxE b2 #[r.nv, r.fv] 28]) (l := l) [3, 2, 0, 6, 4] (by decide) rfl) ?_
   refine hq_conv (bigE [curE g a len cap, rtE r, rowE 3 1 sv ks.length (ks.map (Value.int .i64))] :: boxE b2 #[r.nv, r.fv] 28 :: l) (fun w hm => by
     have h1 : Mem _ ([rowE 3 1 r.nv r.ns.length (r.ns.map (Value.int .i64)), rowE 3 1 r.fv r.fs.length (r.fs.map (Value.int .i64))] ++ (rowE 3 1 sv ks.length (ks.map (Value.int .i64)) :: curE g a len cap :: boxE b2 #[r.nv, r.fv] 28 :: l)) w := hm
     have h2 : Mem _ (rtE r :: rowE 3 1 sv ks.length (ks.map (Value.int .i64)) :: curE g a len cap :: boxE b2 #[r.nv, r.fv] 28 :: l) w := h1.big
     have h3 : Mem _ (curE g a len cap :: rtE r :: rowE 3 1 sv ks.length (ks.map (Value.int .i64)) :: boxE b2 #[r.nv, r.fv] 28 :: l) w := h2.perm ((List.Perm.cons _ (.swap _ _ _)).trans (.swap _ _ _))
     exact Mem.big (ps := [curE g a len cap, rtE r, rowE 3 1 sv ks.length (ks.map (Value.int .i64))]) h3) ?_
   exact hq_ret (rs := [.cell 6 28, .tmp 7]) (vs := [.agg #[r.nv, r.fv], sv]) rfl ⟨⟨b2, 0, [r.nv, r.fv], rfl, rfl, by kernel_rfl, by kernel_rfl, box_part 1 rfl 0 rfl⟩, rfl, trivial⟩ rfl (fun w hm => ⟨_, bigE [curE g a len cap, rtE r, rowE 3 1 sv ks.length (ks.map (Value.int .i64))], rfl, ⟨r, sv, ks, rfl, rfl, ⟨ornv, orfv, osv⟩, htr⟩, hm.sub (.cons_cons _ (.cons _ (.refl _)))⟩)
 ·
  refine hl_v rfl rfl rfl (rv_ev rfl) ?_
  refine hl_skip rfl rfl rfl ?_
  refine hl_skip rfl rfl rfl ?_
  refine hl_v rfl rfl rfl (rv_ev rfl) ?_
  refine hl_less (sx 0 rfl (sx 1 rfl (sx 2 rfl (sx 4 rfl (sx 6 rfl (sx 7 rfl (sx 8 rfl (sx 9 rfl (sx 10 rfl (sx 11 rfl (sx 32 rfl (sub_nil _)))))))))))) (.refl _) ?_
  refine hl_nil ?_
  refine hq_then ?_
  refine hc_false rfl ?_
  refine hc_exit ?_
  refine hq_then_exit ?_
  refine hq_then_exit ?_
  refine hq_block_exit ?_
  refine hq_then ?_
  refine hc_seq ?_
  refine hc_region ?_
  refine hl_v rfl rfl rfl (rv_loadN (cs := [r.nv, r.fv]) rfl (by kernel_rfl) (by kernel_rfl) rfl rfl (box_part 1 rfl 0 rfl)) ?_
  refine hl_v rfl rfl rfl (rv_ev rfl) ?_
  refine hl_one (i := 2) rfl (fun ho37 => ?_)
  refine hl_one (i := 3) rfl (fun ho38 => ?_)
  refine hl_storeBoxN (i := 4) (off := 0) (us := [r.nv, r.fv]) (l' := (rowE 3 1 sv ks.length (ks.map (Value.int .i64)) :: boxE b5 #[r.nv, r.fv] 28 :: rowE 3 1 r.fv r.fs.length (r.fs.map (Value.int .i64)) :: rowE 3 1 r.nv r.ns.length (r.ns.map (Value.int .i64)) :: boxE b2 #[r.nv, r.fv] 28 :: boxE b1 #[.int .i64 d.W, .int .i64 d.H, .int .i64 d.T, .int .i64 d.R] 25 :: curE g a len cap :: l)) rfl rfl rfl (by kernel_rfl) rfl rfl rfl (all_cons ho38 (all_cons ho37 all_nil)) rfl rfl rfl ?_
  refine hl_v rfl rfl rfl (rv_ev rfl) ?_
  refine hl_less (sx 0 rfl (sx 1 rfl (sx 2 rfl (sx 4 rfl (sx 6 rfl (sx 7 rfl (sx 8 rfl (sx 9 rfl (sx 10 rfl (sx 11 rfl (sx 32 rfl (sub_nil _)))))))))))) (.refl _) ?_
  refine hl_nil ?_
  refine hq_then ?_
  refine hc_ret ?_
  refine hq_one (i := 3) rfl (fun ornv => ?_)
  refine hq_one (i := 2) rfl (fun orfv => ?_)
  refine hq_one (i := 0) rfl (fun osv => ?_)
  refine hq_conv (rowE 3 1 r.nv r.ns.length (r.ns.map (Value.int .i64)) :: rowE 3 1 r.fv r.fs.length (r.fs.map (Value.int .i64)) :: rowE 3 1 sv ks.length (ks.map (Value.int .i64)) :: curE g a len cap :: boxE b2 #[r.nv, r.fv] 28 :: l) (conv_pick (src := [rowE 3 1 sv ks.length (ks.map (Value.int .i64)), boxE b5 #[r.nv, r.fv] 28, rowE 3 1 r.fv r.fs.length (r.fs.map (Value.int .i64)), rowE 3 1 r.nv r.ns.length (r.ns.map (Value.int .i64)), boxE b2 #[r.nv, r.fv] 28, boxE b1 #[.int .i64 d.W, .int .i64 d.H, .int .i64 d.T, .int .i64 d.R] 25, curE g a len cap]) (dst := [rowE 3 1 r.nv r.ns.length (r.ns.map (Value.int .i64)), rowE 3 1 r.fv r.fs.length (r.fs.map (Value.int .i64)), rowE 3 1 sv ks.length (ks.map (Value.int .i64)), curE g a len cap, boxE b2 #[r.nv, r.fv] 28]) (l := l) [3, 2, 0, 6, 4] (by decide) rfl) ?_
  refine hq_conv (bigE [curE g a len cap, rtE r, rowE 3 1 sv ks.length (ks.map (Value.int .i64))] :: boxE b2 #[r.nv, r.fv] 28 :: l) (fun w hm => by
    have h1 : Mem _ ([rowE 3 1 r.nv r.ns.length (r.ns.map (Value.int .i64)), rowE 3 1 r.fv r.fs.length (r.fs.map (Value.int .i64))] ++ (rowE 3 1 sv ks.length (ks.map (Value.int .i64)) :: curE g a len cap :: boxE b2 #[r.nv, r.fv] 28 :: l)) w := hm
    have h2 : Mem _ (rtE r :: rowE 3 1 sv ks.length (ks.map (Value.int .i64)) :: curE g a len cap :: boxE b2 #[r.nv, r.fv] 28 :: l) w := h1.big
    have h3 : Mem _ (curE g a len cap :: rtE r :: rowE 3 1 sv ks.length (ks.map (Value.int .i64)) :: boxE b2 #[r.nv, r.fv] 28 :: l) w := h2.perm ((List.Perm.cons _ (.swap _ _ _)).trans (.swap _ _ _))
    exact Mem.big (ps := [curE g a len cap, rtE r, rowE 3 1 sv ks.length (ks.map (Value.int .i64))]) h3) ?_
  exact hq_ret (rs := [.cell 6 28, .tmp 7]) (vs := [.agg #[r.nv, r.fv], sv]) rfl ⟨⟨b2, 0, [r.nv, r.fv], rfl, rfl, by kernel_rfl, by kernel_rfl, box_part 1 rfl 0 rfl⟩, rfl, trivial⟩ rfl (fun w hm => ⟨_, bigE [curE g a len cap, rtE r, rowE 3 1 sv ks.length (ks.map (Value.int .i64))], rfl, ⟨r, sv, ks, rfl, rfl, ⟨ornv, orfv, osv⟩, htr⟩, hm.sub (.cons_cons _ (.cons _ (.refl _)))⟩)
open Go.RowKit
theorem tok_in {d : Dev} {t : Int} (hd : devB d = true) (h0 : 0 ≤ t) (h1 : t < d.W * d.H) : tOk d t = true := (tOk_iff _ _).2 ⟨hd, h0, by omega⟩
theorem out0 {d : Dev} {t : Int} (hd : devB d = true) (h0 : 0 ≤ t) (h1 : t < d.W * d.H) : outPinI d t 0 = t * perI d + 5 ∧ 0 ≤ outPinI d t 0 ∧ outPinI d t 0 < allI d ∧ outPinI d t 0 % perI d = 5 ∧ outPinI d t 0 / perI d = t := by
  obtain ⟨q1, q2⟩ := per_rng hd
  have h2 := outPins_rng d t
  have e : outPinI d t 0 = t * perI d + 5 := by unfold outPinI; rw [if_pos ⟨tok_in hd h0 h1, by omega, by omega⟩]; omega
  obtain ⟨f1, f2⟩ := xy_of (W := perI d) (x := 5) (y := t) (by omega) (by omega) (by omega)
  have m := per_mul hd h0 (show t ≤ d.W * d.H - 1 by omega)
  have e7 : t * perI d ≤ (d.W * d.H - 1) * perI d := Int.mul_le_mul_of_nonneg_right (by omega) (by omega)
  have e6 : (d.W * d.H - 1) * perI d = allI d - perI d := by rw [Int.sub_mul, Int.one_mul]; rfl
  rw [e]
  exact ⟨rfl, by omega, by omega, f1, f2⟩
theorem opin_ans (d : Dev) (t : Int) (w : World) (hd : devB d = true) (h0 : 0 ≤ t) (h1 : t < d.W * d.H) :
    Calls Try.prog 23 #[.agg #[.int .i64 d.W, .int .i64 d.H, .int .i64 d.T, .int .i64 d.R], .int .i64 t, .int .i64 0] w (Ans w (.int .i64 (outPinI d t 0))) := specOutPin_ans d t 0 w (tok_in hd h0 h1) (by omega) (by omega)
set_option maxHeartbeats 4000000 in
set_option maxRecDepth 100000 in
theorem DrawWalk_ret (a : Option Addr) (len cap : Nat) (z : List Int) (w : World) (hb : BRow .u8 w a len cap z) (hlen : len ≤ 1048576) :
  Calls Try.prog 9 #[.slice a len cap] w (Ret w (fun v' post => ∃ (d : Dev) (s0 : Int) (r : Rt) (sv : Value) (ks : List Int), Drawn d ∧ (∃ t, (0 ≤ t ∧ t < d.W * d.H) ∧ s0 = outPinI d t 0) ∧ v' = .tuple #[.agg #[.int .i64 d.W, .int .i64 d.H, .int .i64 d.T, .int .i64 d.R], .int .i64 s0, sv, r.agg] ∧ post = [rtE r, rowE 3 1 sv ks.length (ks.map (Value.int .i64))] ∧ (r.nv.oneCell' = true ∧ r.fv.oneCell' = true ∧ sv.oneCell' = true) ∧ Tree d s0 r.ns r.fs ks)) := by
 refine calls_hc (N := 35) (args := [.slice a len cap]) Try.func9 rfl rfl ?_
 refine hc_less _ (sx 0 rfl (sub_nil _)) (.refl _) ?_
 refine hc_seq ?_
 refine hc_region ?_
 refine hl_box rfl rfl rfl (rq_alloc (z := .agg #[.int .i64 0, .int .i64 0, .int .i64 0, .int .i64 0]) rfl (by kernel_rfl)) ?_
 intro b1
 refine hl_v rfl rfl rfl (rv_ev rfl) ?_
 refine hl_v rfl rfl rfl (rv_ev rfl) ?_
 refine hl_box rfl rfl rfl (rq_alloc (z := .agg #[.slice none 0 0, .slice none 0 0]) rfl (by kernel_rfl)) ?_
 intro b2
 refine hl_less (sx 0 rfl (sx 2 rfl (sx 3 rfl (sx 4 rfl (sx 5 rfl (sub_nil _)))))) (.refl _) ?_
 refine hl_nil ?_
 refine hq_then ?_
 refine hc_seq ?_
 refine hc_region ?_
 refine hl_v rfl rfl rfl (rv_ev rfl) ?_
 refine hl_q rfl rfl rfl (rq_call (by kernel_rfl) rfl (fun w hm => new_ret (hb.below hm.bel) hlen)) ?_
 intro v3 p4 hR5
 obtain ⟨ghR5, rfl, rfl⟩ := hR5
 refine hl_v rfl rfl rfl (rv_ev rfl) ?_
 refine hl_less (sx 0 rfl (sx 2 rfl (sx 3 rfl (sx 4 rfl (sx 5 rfl (sx 6 rfl (sub_nil _))))))) (.refl _) ?_
 refine hl_nil ?_
 refine hq_then ?_
 refine hc_seq ?_
 refine hc_region ?_
 refine hl_v rfl rfl rfl (rv_ev rfl) ?_
 refine hl_callM (R := (fun u_ p_ => (∃ d : Dev, Drawn d ∧ u_ = .agg #[.int .i64 d.W, .int .i64 d.H, .int .i64 d.T, .int .i64 d.R]) ∧ p_ = curE ghR5 a len cap)) 0 rfl rfl (by kernel_rfl) rfl rfl (fun l' w hm => device_mut hm hb) ?_
 intro v6 p7 hR8
 obtain ⟨⟨d, hdr, rfl⟩, rfl⟩ := hR8
 have hd := hdr.ok
 obtain ⟨dr1, dr2, dr3, dr4, dr5, dr6, -⟩ := id hdr
 have har : 0 ≤ (d.W - 1) * (d.H - 1) ∧ 0 ≤ (5 - d.W) * d.H := ⟨Int.mul_nonneg (by omega) (by omega), Int.mul_nonneg (by omega) (by omega)⟩
 have e1 : (d.W - 1) * (d.H - 1) = d.W * d.H - d.W - d.H + 1 := by rw [Int.sub_mul, Int.mul_sub]; omega
 have e2 : (5 - d.W) * d.H = 5 * d.H - d.W * d.H := by rw [Int.sub_mul]
 rw [e1, e2] at har
 obtain ⟨ra1, ra2⟩ := all_rng hd
 obtain ⟨q1, q2⟩ := per_rng hd
 refine hl_eqL (l' := [curE ghR5 a len cap, boxE b2 #[.slice none 0 0, .slice none 0 0] 28, boxE b1 #[.int .i64 0, .int .i64 0, .int .i64 0, .int .i64 0] 25]) rfl ?_
 refine hl_box rfl rfl rfl (rq_alloc (z := .agg #[.int .i64 0, .int .i64 0, .int .i64 0, .int .i64 0]) rfl (by kernel_rfl)) ?_
 intro b9
 refine hl_storeBoxN (i := 0) (off := 0) (us := [.int .i64 d.W, .int .i64 d.H, .int .i64 d.T, .int .i64 d.R]) (l' := [boxE b9 #[.int .i64 d.W, .int .i64 d.H, .int .i64 d.T, .int .i64 d.R] 25, curE ghR5 a len cap, boxE b2 #[.slice none 0 0, .slice none 0 0] 28, boxE b1 #[.int .i64 0, .int .i64 0, .int .i64 0, .int .i64 0] 25]) rfl rfl rfl (by kernel_rfl) rfl rfl rfl (all_cons rfl (all_cons rfl (all_cons rfl (all_cons rfl all_nil)))) rfl rfl rfl ?_
 refine hl_less (sx 0 rfl (sx 2 rfl (sx 3 rfl (sx 4 rfl (sx 5 rfl (sx 6 rfl (sx 7 rfl (sub_nil _)))))))) (.refl _) ?_
 refine hl_nil ?_
 refine hq_then ?_
 refine hc_seq ?_
 refine hc_conv [curE ghR5 a len cap, boxE b9 #[.int .i64 d.W, .int .i64 d.H, .int .i64 d.T, .int .i64 d.R] 25, boxE b2 #[.slice none 0 0, .slice none 0 0] 28, boxE b1 #[.int .i64 0, .int .i64 0, .int .i64 0, .int .i64 0] 25] (conv_pick (src := [boxE b9 #[.int .i64 d.W, .int .i64 d.H, .int .i64 d.T, .int .i64 d.R] 25, curE ghR5 a len cap, boxE b2 #[.slice none 0 0, .slice none 0 0] 28, boxE b1 #[.int .i64 0, .int .i64 0, .int .i64 0, .int .i64 0] 25]) (dst := [curE ghR5 a len cap, boxE b9 #[.int .i64 d.W, .int .i64 d.H, .int .i64 d.T, .int .i64 d.R] 25, boxE b2 #[.slice none 0 0, .slice none 0 0] 28, boxE b1 #[.int .i64 0, .int .i64 0, .int .i64 0, .int .i64 0] 25]) (l := []) [1, 0, 2, 3] (by decide) rfl) ?_
 refine hc_draw2 (l := [boxE b9 #[.int .i64 d.W, .int .i64 d.H, .int .i64 d.T, .int .i64 d.R] 25, boxE b2 #[.slice none 0 0, .slice none 0 0] 28, boxE b1 #[.int .i64 0, .int .i64 0, .int .i64 0, .int .i64 0] 25]) (by kernel_rfl) 9 [0, 1, 2, 3, 4, 5, 6, 7, 8] (List.take 9 _) (List.drop 9 _) [[], [], [], [2], [], [4], [3, 5], [1, 6], [0, 7]] [15, 16, 17, 18, 19, 20, 21, 22, 23] (fun i_ vs_ v_ p_ => match i_ with | 0 => v_ = .agg #[.int .i64 d.W, .int .i64 d.H, .int .i64 d.T, .int .i64 d.R] ∧ p_ = [] | 1 => v_ = .pointer (some ⟨ghR5, 0, none⟩) ∧ p_ = [] | 2 => v_ = .pointer (some ⟨b9, 0 + 0, none⟩) ∧ p_ = [] | 3 => v_ = .int .i64 d.W ∧ p_ = [] | 4 => v_ = .pointer (some ⟨b9, 0 + 1, none⟩) ∧ p_ = [] | 5 => v_ = .int .i64 d.H ∧ p_ = [] | 6 => v_ = .int .i64 (d.W * d.H) ∧ p_ = [] | 7 => (∃ pm_, p_ = [pm_] ∧ (fun u_ p_ => (∃ x_ : Int, u_ = .int .i64 x_ ∧ 0 ≤ x_ ∧ x_ < d.W * d.H) ∧ p_ = curE ghR5 a len cap) v_ pm_) | 8 => v_ = .int .i64 (outPinI d (intOf_o (List.getD vs_ 1 undef)) 0) ∧ p_ = [] | _ => True) [[], [], [], [2], [], [4], [3, 5], [1, 6], [0, 7]] [none, none, none, none, none, none, none, some 10, none] [curE ghR5 a len cap] [0, 1, 2, 3, 4, 5, 6, 7, 8] 10 (List.take_append_drop 9 _).symm (by kernel_rfl) (by kernel_rfl) (by kernel_rfl) rfl rfl ?_ ?_
 ·
  refine ⟨?_, ?_, ?_, ?_, ?_, ?_, ?_, ?_, ?_, trivial⟩
  ·
   intro vf pf hmu hR
   refine Or.inl ⟨rfl, ?_⟩
   show RunQ _ _ _ (([] : List Nat).flatMap pf ++ _) (envOf _ vf [] ++ _) _ _
   refine rq_less (sx 7 rfl (sub_nil _)) (List.sublist_append_right _ _) ?_
   exact rq_v (rv_loadN (cs := [.int .i64 d.W, .int .i64 d.H, .int .i64 d.T, .int .i64 d.R]) rfl (by kernel_rfl) (by kernel_rfl) rfl rfl (box_part 0 rfl 0 rfl))
  ·
   intro vf pf hmu hR
   refine Or.inl ⟨rfl, ?_⟩
   show RunQ _ _ _ (([] : List Nat).flatMap pf ++ _) (envOf _ vf [] ++ _) _ _
   refine rq_less (sx 6 rfl (sub_nil _)) (List.sublist_append_right _ _) ?_
   exact rq_v (rv_ev rfl)
  ·
   intro vf pf hmu hR
   refine Or.inl ⟨rfl, ?_⟩
   show RunQ _ _ _ (([] : List Nat).flatMap pf ++ _) (envOf _ vf [] ++ _) _ _
   refine rq_less (sx 7 rfl (sub_nil _)) (List.sublist_append_right _ _) ?_
   exact rq_v (rv_field (k0 := 0) rfl (by kernel_rfl) rfl)
  ·
   intro vf pf hmu hR
   have e2 : (vf 2) = .pointer (some ⟨b9, 0 + 0, none⟩) ∧ (pf 2) = [] := hR 2 (by decide)
   refine Or.inl ⟨rfl, ?_⟩
   show RunQ _ _ _ (([2] : List Nat).flatMap pf ++ _) (envOf _ vf [2] ++ _) _ _
   refine rq_less (sx 17 (congrArg some e2.1) (sub_nil _)) (List.sublist_append_right _ _) ?_
   exact rq_v (rv_load rfl (by kernel_rfl) rfl (box_cell 0 rfl rfl))
  ·
   intro vf pf hmu hR
   refine Or.inl ⟨rfl, ?_⟩
   show RunQ _ _ _ (([] : List Nat).flatMap pf ++ _) (envOf _ vf [] ++ _) _ _
   refine rq_less (sx 7 rfl (sub_nil _)) (List.sublist_append_right _ _) ?_
   exact rq_v (rv_field (k0 := 1) rfl (by kernel_rfl) rfl)
  ·
   intro vf pf hmu hR
   have e4 : (vf 4) = .pointer (some ⟨b9, 0 + 1, none⟩) ∧ (pf 4) = [] := hR 4 (by decide)
   refine Or.inl ⟨rfl, ?_⟩
   show RunQ _ _ _ (([4] : List Nat).flatMap pf ++ _) (envOf _ vf [4] ++ _) _ _
   refine rq_less (sx 19 (congrArg some e4.1) (sub_nil _)) (List.sublist_append_right _ _) ?_
   exact rq_v (rv_load rfl (by kernel_rfl) rfl (box_cell 0 rfl rfl))
  ·
   intro vf pf hmu hR
   have e3 : (vf 3) = .int .i64 d.W ∧ (pf 3) = [] := hR 3 (by decide)
   have e5 : (vf 5) = .int .i64 d.H ∧ (pf 5) = [] := hR 5 (by decide)
   refine Or.inl ⟨rfl, ?_⟩
   show RunQ _ _ _ (([3, 5] : List Nat).flatMap pf ++ _) (envOf _ vf [3, 5] ++ _) _ _
   refine rq_less (sx 18 (congrArg some e3.1) (sx 20 (congrArg some e5.1) (sub_nil _))) (List.sublist_append_right _ _) ?_
   exact rq_v (rv_mul rfl rfl rfl (by constructor <;> omega))
  ·
   intro vf pf hmu hR
   have e1 : (vf 1) = .pointer (some ⟨ghR5, 0, none⟩) ∧ (pf 1) = [] := hR 1 (by decide)
   have e6 : (vf 6) = .int .i64 (d.W * d.H) ∧ (pf 6) = [] := hR 6 (by decide)
   refine Or.inl ⟨rfl, ?_⟩
   show RunM _ _ _ (pf 10) (([1, 6] : List Nat).flatMap pf ++ _) (envOf _ vf [1, 6] ++ _) _ _
   rw [hmu]
   refine rm_less (X' := [boxE b9 #[.int .i64 d.W, .int .i64 d.H, .int .i64 d.T, .int .i64 d.R] 25, boxE b2 #[.slice none 0 0, .slice none 0 0] 28, boxE b1 #[.int .i64 0, .int .i64 0, .int .i64 0, .int .i64 0] 25]) (sx 16 (congrArg some e1.1) (sx 21 (congrArg some e6.1) (sub_nil _))) (by first | (simp only [e1.2, e6.2, List.flatMap_cons, List.flatMap_nil, List.append_nil, List.nil_append, List.cons_append]; exact List.Sublist.refl _) | simp [e1.2, e6.2]) ?_
   exact rq_callM (R := (fun u_ p_ => (∃ x_ : Int, u_ = .int .i64 x_ ∧ 0 ≤ x_ ∧ x_ < d.W * d.H) ∧ p_ = curE ghR5 a len cap)) (by kernel_rfl) rfl (fun L w hX hm => belowN_mut ghR5 a len cap z (d.W * d.H) _ _ _ hm hb (by constructor <;> omega))
  ·
   intro vf pf hmu hR
   have e0 : (vf 0) = .agg #[.int .i64 d.W, .int .i64 d.H, .int .i64 d.T, .int .i64 d.R] ∧ (pf 0) = [] := hR 0 (by decide)
   have e7 : (∃ pm_, (pf 7) = [pm_] ∧ (fun u_ p_ => (∃ x_ : Int, u_ = .int .i64 x_ ∧ 0 ≤ x_ ∧ x_ < d.W * d.H) ∧ p_ = curE ghR5 a len cap) (vf 7) pm_) := hR 7 (by decide)
   obtain ⟨p11, p7, hR12⟩ := e7
   obtain ⟨v10, v7⟩ : ∃ x, vf 7 = x := ⟨_, rfl⟩
   rw [v7] at hR12
   obtain ⟨⟨xhR12, rfl, xhR120, xhR121⟩, rfl⟩ := hR12
   refine Or.inl ⟨rfl, ?_⟩
   show RunQ _ _ _ (([0, 7] : List Nat).flatMap pf ++ _) (envOf _ vf [0, 7] ++ _) _ _
   refine rq_less (l' := [curE ghR5 a len cap, boxE b9 #[.int .i64 d.W, .int .i64 d.H, .int .i64 d.T, .int .i64 d.R] 25, boxE b2 #[.slice none 0 0, .slice none 0 0] 28, boxE b1 #[.int .i64 0, .int .i64 0, .int .i64 0, .int .i64 0] 25]) (sx 15 (congrArg some e0.1) (sx 22 (congrArg some v7) (sub_nil _))) (by first | (simp only [p7, v7, e0.2, List.flatMap_cons, List.flatMap_nil, List.append_nil, List.nil_append, List.cons_append]; exact List.Sublist.refl _) | simp [p7, v7, e0.2]) ?_
   exact rq_mono ((rq_call (by kernel_rfl) rfl (fun w hm => ret_ans (opin_ans d xhR12 w hd (by omega) (by omega))))) (fun _ _ h => ⟨h.1.trans (by show _ = (.int .i64 (outPinI d (intOf_o (vf 7)) 0) : Value); first | (rw [v7]; done) | (rw [v7]; rfl)), h.2⟩)
 ·
  intro vf pf hmu hR
  have e7 : (∃ pm_, (pf 7) = [pm_] ∧ (fun u_ p_ => (∃ x_ : Int, u_ = .int .i64 x_ ∧ 0 ≤ x_ ∧ x_ < d.W * d.H) ∧ p_ = curE ghR5 a len cap) (vf 7) pm_) := hR 7 (by decide)
  obtain ⟨p11, p7, hR12⟩ := e7
  obtain ⟨v10, v7⟩ : ∃ x, vf 7 = x := ⟨_, rfl⟩
  rw [v7] at hR12
  obtain ⟨⟨xhR12, rfl, xhR120, xhR121⟩, rfl⟩ := hR12
  have e8 : (vf 8) = .int .i64 (outPinI d (intOf_o (vf 7)) 0) ∧ (pf 8) = [] := hR 8 (by decide)
  rw [v7] at e8
  have q0 : (vf 0) = .agg #[.int .i64 d.W, .int .i64 d.H, .int .i64 d.T, .int .i64 d.R] ∧ (pf 0) = [] := hR 0 (by decide)
  have q1 : (vf 1) = .pointer (some ⟨ghR5, 0, none⟩) ∧ (pf 1) = [] := hR 1 (by decide)
  have q2 : (vf 2) = .pointer (some ⟨b9, 0 + 0, none⟩) ∧ (pf 2) = [] := hR 2 (by decide)
  have q3 : (vf 3) = .int .i64 d.W ∧ (pf 3) = [] := hR 3 (by decide)
  have q4 : (vf 4) = .pointer (some ⟨b9, 0 + 1, none⟩) ∧ (pf 4) = [] := hR 4 (by decide)
  have q5 : (vf 5) = .int .i64 d.H ∧ (pf 5) = [] := hR 5 (by decide)
  have q6 : (vf 6) = .int .i64 (d.W * d.H) ∧ (pf 6) = [] := hR 6 (by decide)
  have q8 : (vf 8) = .int .i64 (outPinI d (intOf_o (vf 7)) 0) ∧ (pf 8) = [] := hR 8 (by decide)
  refine hl_less (l' := [curE ghR5 a len cap, boxE b9 #[.int .i64 d.W, .int .i64 d.H, .int .i64 d.T, .int .i64 d.R] 25, boxE b2 #[.slice none 0 0, .slice none 0 0] 28, boxE b1 #[.int .i64 0, .int .i64 0, .int .i64 0, .int .i64 0] 25]) (sx 0 rfl (sx 2 rfl (sx 3 rfl (sx 4 rfl (sx 5 rfl (sx 6 rfl (sx 7 rfl (sx 23 (congrArg some e8.1) (sub_nil _))))))))) (by first | (simp only [p7, v7, q0.2, q1.2, q2.2, q3.2, q4.2, q5.2, q6.2, q8.2, List.flatMap_cons, List.flatMap_nil, List.append_nil, List.nil_append, List.cons_append]; exact List.Sublist.refl _) | simp [p7, v7, q0.2, q1.2, q2.2, q3.2, q4.2, q5.2, q6.2, q8.2]) ?_
  simp only [List.drop_succ_cons, List.drop_zero]
  refine hl_v rfl rfl rfl (rv_ev rfl) ?_
  refine hl_less (sx 0 rfl (sx 2 rfl (sx 3 rfl (sx 4 rfl (sx 5 rfl (sx 6 rfl (sx 7 rfl (sx 8 rfl (sub_nil _))))))))) (.refl _) ?_
  refine hl_nil ?_
  refine hq_then ?_
  refine hc_seq ?_
  refine hc_region ?_
  obtain ⟨hs1, hs2, hs3, hs4, hs5⟩ := out0 hd (t := xhR12) (by omega) (by omega)
  refine hl_v rfl rfl rfl (rv_ev rfl) ?_
  refine hl_v rfl rfl rfl (rv_loadN (cs := [.int .i64 d.W, .int .i64 d.H, .int .i64 d.T, .int .i64 d.R]) rfl (by kernel_rfl) (by kernel_rfl) rfl rfl (box_part 1 rfl 0 rfl)) ?_
  refine hl_v rfl rfl rfl (rv_ev rfl) ?_
  refine hl_callM (R := (fun u_ p_ => ∃ (r : Rt) (sv : Value) (ks : List Int), u_ = .tuple #[r.agg, sv] ∧ p_ = bigE [curE ghR5 a len cap, rtE r, rowE 3 1 sv ks.length (ks.map (Value.int .i64))] ∧ (r.nv.oneCell' = true ∧ r.fv.oneCell' = true ∧ sv.oneCell' = true) ∧ Tree d (outPinI d xhR12 0) r.ns r.fs ks)) 0 rfl rfl (by kernel_rfl) rfl rfl (fun l' w hm => l32Walk_mut ghR5 a len cap z d (outPinI d xhR12 0) _ _ _ hm hb hd ⟨by omega, by omega⟩) ?_
  intro v13 p14 hR15
  obtain ⟨r, sv, ks, rfl, rfl, ⟨o1r, o2r, o3r⟩, htr⟩ := hR15
  refine hl_eqL (l' := [bigE [curE ghR5 a len cap, rtE r, rowE 3 1 sv ks.length (ks.map (Value.int .i64))], boxE b9 #[.int .i64 d.W, .int .i64 d.H, .int .i64 d.T, .int .i64 d.R] 25, boxE b2 #[.slice none 0 0, .slice none 0 0] 28, boxE b1 #[.int .i64 0, .int .i64 0, .int .i64 0, .int .i64 0] 25]) rfl ?_
  refine hl_v rfl rfl rfl (rv_ev rfl) ?_
  refine hl_v rfl rfl rfl (rv_ev rfl) ?_
  refine hl_v rfl rfl rfl (rv_ev rfl) ?_
  refine hl_box rfl rfl rfl (rq_alloc (z := .agg #[.slice none 0 0, .slice none 0 0]) rfl (by kernel_rfl)) ?_
  intro b16
  refine hl_storeBoxN (i := 0) (off := 0) (us := [r.nv, r.fv]) (l' := [boxE b16 #[r.nv, r.fv] 28, bigE [curE ghR5 a len cap, rtE r, rowE 3 1 sv ks.length (ks.map (Value.int .i64))], boxE b9 #[.int .i64 d.W, .int .i64 d.H, .int .i64 d.T, .int .i64 d.R] 25, boxE b2 #[.slice none 0 0, .slice none 0 0] 28, boxE b1 #[.int .i64 0, .int .i64 0, .int .i64 0, .int .i64 0] 25]) rfl rfl rfl (by kernel_rfl) rfl rfl rfl (all_cons o1r (all_cons o2r all_nil)) rfl rfl rfl ?_
  refine hl_v rfl rfl rfl (rv_ev rfl) ?_
  refine hl_less (sx 0 rfl (sx 2 rfl (sx 3 rfl (sx 4 rfl (sx 5 rfl (sx 6 rfl (sx 7 rfl (sx 8 rfl (sx 9 rfl (sx 10 rfl (sub_nil _))))))))))) (.refl _) ?_
  refine hl_nil ?_
  refine hq_then ?_
  refine hc_seq ?_
  refine hc_less _ (sx 0 rfl (sx 2 rfl (sx 5 rfl (sx 6 rfl (sx 7 rfl (sx 8 rfl (sx 9 rfl (sx 10 rfl (sub_nil _))))))))) (.refl _) ?_
  refine hc_conv [boxE b1 #[.int .i64 0, .int .i64 0, .int .i64 0, .int .i64 0] 25, boxE b16 #[r.nv, r.fv] 28, bigE [curE ghR5 a len cap, rtE r, rowE 3 1 sv ks.length (ks.map (Value.int .i64))], boxE b9 #[.int .i64 d.W, .int .i64 d.H, .int .i64 d.T, .int .i64 d.R] 25, boxE b2 #[.slice none 0 0, .slice none 0 0] 28] (conv_pick (src := [boxE b16 #[r.nv, r.fv] 28, bigE [curE ghR5 a len cap, rtE r, rowE 3 1 sv ks.length (ks.map (Value.int .i64))], boxE b9 #[.int .i64 d.W, .int .i64 d.H, .int .i64 d.T, .int .i64 d.R] 25, boxE b2 #[.slice none 0 0, .slice none 0 0] 28, boxE b1 #[.int .i64 0, .int .i64 0, .int .i64 0, .int .i64 0] 25]) (dst := [boxE b1 #[.int .i64 0, .int .i64 0, .int .i64 0, .int .i64 0] 25, boxE b16 #[r.nv, r.fv] 28, bigE [curE ghR5 a len cap, rtE r, rowE 3 1 sv ks.length (ks.map (Value.int .i64))], boxE b9 #[.int .i64 d.W, .int .i64 d.H, .int .i64 d.T, .int .i64 d.R] 25, boxE b2 #[.slice none 0 0, .slice none 0 0] 28]) (l := []) [4, 0, 1, 2, 3] (by decide) rfl) ?_
  refine hc_draw3 (l := [boxE b16 #[r.nv, r.fv] 28, bigE [curE ghR5 a len cap, rtE r, rowE 3 1 sv ks.length (ks.map (Value.int .i64))], boxE b9 #[.int .i64 d.W, .int .i64 d.H, .int .i64 d.T, .int .i64 d.R] 25, boxE b2 #[.slice none 0 0, .slice none 0 0] 28]) (by kernel_rfl) 7 [0, 1, 2, 3, 4, 5, 6] (List.take 7 _) (List.drop 7 _) [[], [], [], [], [0], [1], [2]] [some 31, some 32, some 33, some 34, none, some 3, some 4] (fun i_ vs_ v_ p_ => match i_ with | 0 => v_ = .agg #[.int .i64 d.W, .int .i64 d.H, .int .i64 d.T, .int .i64 d.R] ∧ p_ = [] | 1 => v_ = .int .i64 (outPinI d xhR12 0) ∧ p_ = [] | 2 => v_ = sv ∧ p_ = [] | 3 => v_ = .agg #[r.nv, r.fv] ∧ p_ = [] | 4 => p_ = [boxE b1 #[.int .i64 d.W, .int .i64 d.H, .int .i64 d.T, .int .i64 d.R] 25] | 5 => v_ = .int .i64 (outPinI d xhR12 0) ∧ p_ = [] | 6 => v_ = sv ∧ p_ = [] | _ => True) [[], [], [], [], [0], [1], [2]] [none, none, none, none, some 8, none, none] [[boxE b1 #[.int .i64 0, .int .i64 0, .int .i64 0, .int .i64 0] 25]] [0, 1, 2, 3, 4, 5, 6] 8 (List.take_append_drop 7 _).symm (by kernel_rfl) (by kernel_rfl) (by kernel_rfl) rfl rfl ?_ ?_
  ·
   refine ⟨?_, ?_, ?_, ?_, ?_, ?_, ?_, trivial⟩
   ·
    intro vf pf hmu hR
    refine Or.inl ⟨rfl, ?_⟩
    show RunQ _ _ _ (([] : List Nat).flatMap pf ++ _) (envOf3 _ vf [] ++ _) _ _
    refine rq_less (sx 7 rfl (sub_nil _)) (List.sublist_append_right _ _) ?_
    exact rq_v (rv_loadN (cs := [.int .i64 d.W, .int .i64 d.H, .int .i64 d.T, .int .i64 d.R]) rfl (by kernel_rfl) (by kernel_rfl) rfl rfl (box_part 2 rfl 0 rfl))
   ·
    intro vf pf hmu hR
    refine Or.inl ⟨rfl, ?_⟩
    show RunQ _ _ _ (([] : List Nat).flatMap pf ++ _) (envOf3 _ vf [] ++ _) _ _
    refine rq_less (sx 8 rfl (sub_nil _)) (List.sublist_append_right _ _) ?_
    exact rq_v (rv_ev rfl)
   ·
    intro vf pf hmu hR
    refine Or.inl ⟨rfl, ?_⟩
    show RunQ _ _ _ (([] : List Nat).flatMap pf ++ _) (envOf3 _ vf [] ++ _) _ _
    refine rq_less (sx 10 rfl (sub_nil _)) (List.sublist_append_right _ _) ?_
    exact rq_v (rv_ev rfl)
   ·
    intro vf pf hmu hR
    refine Or.inl ⟨rfl, ?_⟩
    show RunQ _ _ _ (([] : List Nat).flatMap pf ++ _) (envOf3 _ vf [] ++ _) _ _
    refine rq_less (sx 9 rfl (sub_nil _)) (List.sublist_append_right _ _) ?_
    exact rq_v (rv_loadN (cs := [r.nv, r.fv]) rfl (by kernel_rfl) (by kernel_rfl) rfl rfl (box_part 0 rfl 0 rfl))
   ·
    intro vf pf hmu hR
    have e0 : (vf 0) = .agg #[.int .i64 d.W, .int .i64 d.H, .int .i64 d.T, .int .i64 d.R] ∧ (pf 0) = [] := hR 0 (by decide)
    refine Or.inl ⟨rfl, ?_⟩
    show RunM _ _ _ (pf 8) (([0] : List Nat).flatMap pf ++ _) (envOf3 _ vf [0] ++ _) _ _
    have hmu0 : pf 8 = [boxE b1 #[.int .i64 0, .int .i64 0, .int .i64 0, .int .i64 0] 25] := hmu 0 (show 0 < 1 by omega)
    rw [hmu0]
    refine rm_less (X' := [boxE b16 #[r.nv, r.fv] 28, bigE [curE ghR5 a len cap, rtE r, rowE 3 1 sv ks.length (ks.map (Value.int .i64))], boxE b9 #[.int .i64 d.W, .int .i64 d.H, .int .i64 d.T, .int .i64 d.R] 25, boxE b2 #[.slice none 0 0, .slice none 0 0] 28]) (sx 2 rfl (sx 31 (congrArg some e0.1) (sub_nil _))) (by first | (simp only [e0.2, List.flatMap_cons, List.flatMap_nil, List.append_nil, List.nil_append, List.cons_append]; exact List.Sublist.refl _) | simp [e0.2]) ?_
    exact rm_mono (rm_storeBoxN (us := [.int .i64 d.W, .int .i64 d.H, .int .i64 d.T, .int .i64 d.R]) (off := 0) 0 rfl rfl (by kernel_rfl) rfl rfl rfl (all_cons rfl (all_cons rfl (all_cons rfl (all_cons rfl all_nil)))) rfl rfl) (fun v_ p_ h => by show p_ = [boxE b1 #[.int .i64 d.W, .int .i64 d.H, .int .i64 d.T, .int .i64 d.R] 25]; exact h)
   ·
    intro vf pf hmu hR
    have e1 : (vf 1) = .int .i64 (outPinI d xhR12 0) ∧ (pf 1) = [] := hR 1 (by decide)
    refine Or.inl ⟨rfl, ?_⟩
    show RunQ _ _ _ (([1] : List Nat).flatMap pf ++ _) (envOf3 _ vf [1] ++ _) _ _
    refine rq_less (sx 32 (congrArg some e1.1) (sub_nil _)) (List.sublist_append_right _ _) ?_
    exact rq_v (rv_ev rfl)
   ·
    intro vf pf hmu hR
    have e2 : (vf 2) = sv ∧ (pf 2) = [] := hR 2 (by decide)
    refine Or.inl ⟨rfl, ?_⟩
    show RunQ _ _ _ (([2] : List Nat).flatMap pf ++ _) (envOf3 _ vf [2] ++ _) _ _
    refine rq_less (sx 33 (congrArg some e2.1) (sub_nil _)) (List.sublist_append_right _ _) ?_
    exact rq_v (rv_ev rfl)
  ·
   intro vf pf hmu hR
   have e3 : (vf 3) = .agg #[r.nv, r.fv] ∧ (pf 3) = [] := hR 3 (by decide)
   have e4 : (pf 4) = [boxE b1 #[.int .i64 d.W, .int .i64 d.H, .int .i64 d.T, .int .i64 d.R] 25] := hR 4 (by decide)
   have p4 := e4
   have e5 : (vf 5) = .int .i64 (outPinI d xhR12 0) ∧ (pf 5) = [] := hR 5 (by decide)
   have e6 : (vf 6) = sv ∧ (pf 6) = [] := hR 6 (by decide)
   have q0 : (vf 0) = .agg #[.int .i64 d.W, .int .i64 d.H, .int .i64 d.T, .int .i64 d.R] ∧ (pf 0) = [] := hR 0 (by decide)
   have q1 : (vf 1) = .int .i64 (outPinI d xhR12 0) ∧ (pf 1) = [] := hR 1 (by decide)
   have q2 : (vf 2) = sv ∧ (pf 2) = [] := hR 2 (by decide)
   have q3 : (vf 3) = .agg #[r.nv, r.fv] ∧ (pf 3) = [] := hR 3 (by decide)
   have q5 : (vf 5) = .int .i64 (outPinI d xhR12 0) ∧ (pf 5) = [] := hR 5 (by decide)
   have q6 : (vf 6) = sv ∧ (pf 6) = [] := hR 6 (by decide)
   refine hl_less (l' := [boxE b1 #[.int .i64 d.W, .int .i64 d.H, .int .i64 d.T, .int .i64 d.R] 25, boxE b16 #[r.nv, r.fv] 28, bigE [curE ghR5 a len cap, rtE r, rowE 3 1 sv ks.length (ks.map (Value.int .i64))], boxE b9 #[.int .i64 d.W, .int .i64 d.H, .int .i64 d.T, .int .i64 d.R] 25, boxE b2 #[.slice none 0 0, .slice none 0 0] 28]) (sx 0 rfl (sx 2 rfl (sx 3 (congrArg some e5.1) (sx 4 (congrArg some e6.1) (sx 5 rfl (sx 6 rfl (sx 7 rfl (sx 8 rfl (sx 9 rfl (sx 10 rfl (sx 34 (congrArg some e3.1) (sub_nil _)))))))))))) (by first | (simp only [p4, q0.2, q1.2, q2.2, q3.2, q5.2, q6.2, List.flatMap_cons, List.flatMap_nil, List.append_nil, List.nil_append, List.cons_append]; exact List.Sublist.refl _) | simp [p4, q0.2, q1.2, q2.2, q3.2, q5.2, q6.2]) ?_
   simp only [List.drop_succ_cons, List.drop_zero]
   refine hl_storeBoxN (i := 4) (off := 0) (us := [r.nv, r.fv]) (l' := [boxE b1 #[.int .i64 d.W, .int .i64 d.H, .int .i64 d.T, .int .i64 d.R] 25, boxE b16 #[r.nv, r.fv] 28, bigE [curE ghR5 a len cap, rtE r, rowE 3 1 sv ks.length (ks.map (Value.int .i64))], boxE b9 #[.int .i64 d.W, .int .i64 d.H, .int .i64 d.T, .int .i64 d.R] 25, boxE b2 #[r.nv, r.fv] 28]) rfl rfl rfl (by kernel_rfl) rfl rfl rfl (all_cons o1r (all_cons o2r all_nil)) rfl rfl rfl ?_
   refine hl_less (sx 0 rfl (sx 2 rfl (sx 3 rfl (sx 4 rfl (sx 5 rfl (sx 6 rfl (sx 7 rfl (sx 8 rfl (sx 9 rfl (sx 10 rfl (sub_nil _))))))))))) (.refl _) ?_
   refine hl_nil ?_
   refine hq_then ?_
   refine hc_ret ?_
   refine hq_conv [bigE [curE ghR5 a len cap, rtE r, rowE 3 1 sv ks.length (ks.map (Value.int .i64))], boxE b1 #[.int .i64 d.W, .int .i64 d.H, .int .i64 d.T, .int .i64 d.R] 25, boxE b16 #[r.nv, r.fv] 28, boxE b9 #[.int .i64 d.W, .int .i64 d.H, .int .i64 d.T, .int .i64 d.R] 25, boxE b2 #[r.nv, r.fv] 28] (conv_pick (src := [boxE b1 #[.int .i64 d.W, .int .i64 d.H, .int .i64 d.T, .int .i64 d.R] 25, boxE b16 #[r.nv, r.fv] 28, bigE [curE ghR5 a len cap, rtE r, rowE 3 1 sv ks.length (ks.map (Value.int .i64))], boxE b9 #[.int .i64 d.W, .int .i64 d.H, .int .i64 d.T, .int .i64 d.R] 25, boxE b2 #[r.nv, r.fv] 28]) (dst := [bigE [curE ghR5 a len cap, rtE r, rowE 3 1 sv ks.length (ks.map (Value.int .i64))], boxE b1 #[.int .i64 d.W, .int .i64 d.H, .int .i64 d.T, .int .i64 d.R] 25, boxE b16 #[r.nv, r.fv] 28, boxE b9 #[.int .i64 d.W, .int .i64 d.H, .int .i64 d.T, .int .i64 d.R] 25, boxE b2 #[r.nv, r.fv] 28]) (l := []) [2, 0, 1, 3, 4] (by decide) rfl) ?_
   refine hq_conv [curE ghR5 a len cap, rtE r, rowE 3 1 sv ks.length (ks.map (Value.int .i64)), boxE b1 #[.int .i64 d.W, .int .i64 d.H, .int .i64 d.T, .int .i64 d.R] 25, boxE b16 #[r.nv, r.fv] 28, boxE b9 #[.int .i64 d.W, .int .i64 d.H, .int .i64 d.T, .int .i64 d.R] 25, boxE b2 #[r.nv, r.fv] 28] conv_unbig ?_
   exact hq_retM (rs := [.cell 2 25, .tmp 3, .tmp 4, .cell 5 28]) (vs := [.agg #[.int .i64 d.W, .int .i64 d.H, .int .i64 d.T, .int .i64 d.R], .int .i64 (outPinI d xhR12 0), sv, .agg #[r.nv, r.fv]]) (post := [rtE r, rowE 3 1 sv ks.length (ks.map (Value.int .i64))]) rfl ⟨⟨b1, 0, [.int .i64 d.W, .int .i64 d.H, .int .i64 d.T, .int .i64 d.R], rfl, rfl, by kernel_rfl, by kernel_rfl, box_part 3 rfl 0 rfl⟩, rfl, rfl, ⟨b2, 0, [r.nv, r.fv], rfl, rfl, by kernel_rfl, by kernel_rfl, box_part 6 rfl 0 rfl⟩, trivial⟩ rfl ((.cons _ (.cons_cons _ (.cons_cons _ (.cons _ (.cons _ (.cons _ (.cons _ .slnil)))))))) ⟨d, outPinI d xhR12 0, r, sv, ks, hdr, ⟨_, ⟨by omega, by omega⟩, rfl⟩, rfl, rfl, ⟨o1r, o2r, o3r⟩, htr⟩
theorem hasB_mem {xs : List Int} {x : Int} : hasB xs x = true ↔ x ∈ xs := by unfold hasB; exact List.contains_iff_mem
theorem getD_inX {l : List Int} {k : Nat} (h : k < l.length) : l.getD k 0 ∈ l := by
  rw [List.getD_eq_getElem?_getD, List.getElem?_eq_getElem h]; exact List.getElem_mem h
theorem mem_getD {l : List Int} {x : Int} (h : x ∈ l) : ∃ k, k < l.length ∧ l.getD k 0 = x := by
  obtain ⟨k, hk, rfl⟩ := List.mem_iff_getElem.1 h
  exact ⟨k, hk, by rw [List.getD_eq_getElem?_getD, List.getElem?_eq_getElem hk]; rfl⟩
theorem node_out {d : Dev} {t : Int} (hd : devB d = true) (h0 : 0 ≤ t) (h1 : t < d.W * d.H) : nodeOkI d (outPinI d t 0) = true := by
  obtain ⟨e1, e2, e3, e4, e5⟩ := out0 hd h0 h1
  have h2 := outPins_rng d t
  rw [nodeOk_in hd (inR_true (by omega) (by omega)), e4, e5, nodeB_out (by omega) (by omega)]
  exact decide_eq_true (by omega)
structure RtOk (d : Dev) (s0 : Int) (ns fs ks : List Int) : Prop where
  tr : Tree d s0 ns fs ks
  ok : nodeOkI d s0 = true
  out : s0 % perI d = 5
theorem RtOk.node {d : Dev} {s0 : Int} {ns fs ks : List Int} (h : RtOk d s0 ns fs ks) {k : Nat} (hk : k < ns.length) : nodeOkI d (ns.getD k 0) = true := by
  by_cases h0 : k = 0
  · rw [h0, h.tr.root]; exact h.ok
  · have h1 := (h.tr.step k (by omega) hk).2.2
    apply Decidable.byContradiction
    intro hc
    rw [src_no d _ hc] at h1
    exact absurd h1 (by simp [hasB])
theorem Tree.cons {d : Dev} {s0 : Int} {ns fs ks : List Int} (h : Tree d s0 ns fs ks) : ns = s0 :: ns.drop 1 := by
  have h0 := h.l0
  have hr := h.root
  cases ns with
  | nil => simp at h0
  | cons a t => have : a = s0 := by simpa using hr
                subst this; rfl
theorem RtOk.inpin {d : Dev} {s0 : Int} {ns fs ks : List Int} (h : RtOk d s0 ns fs ks) {x : Int} : x ∈ ks ↔ x ∈ ns ∧ x % perI d < 5 := by
  rw [h.tr.sinks, List.mem_filter, decide_eq_true_eq]
  constructor
  · rintro ⟨h1, h2⟩; exact ⟨List.mem_of_mem_drop h1, h2⟩
  · rintro ⟨h1, h2⟩
    refine ⟨?_, h2⟩
    rw [h.tr.cons] at h1
    rcases List.mem_cons.1 h1 with h1 | h1
    · rw [h1, h.out] at h2; omega
    · exact h1
theorem RtOk.nd {d : Dev} {s0 : Int} {ns fs ks : List Int} (h : RtOk d s0 ns fs ks) : ks.Nodup := by
  rw [h.tr.sinks]; exact (h.tr.nd.sublist (List.drop_sublist _ _)).filter _
/-- what RouteOk answers for a tree -/
def okR (d : Dev) (ns qs : List Int) : Bool := (ns.all fun x => !(decide (x % perI d < 5)) || hasB qs x) && qs.all (fun x => hasB ns x)
theorem okR_yes {d : Dev} {ns qs : List Int} (h1 : ∀ k, k < ns.length → ns.getD k 0 % perI d < 5 → hasB qs (ns.getD k 0) = true) (h2 : ∀ k, k < qs.length → hasB ns (qs.getD k 0) = true) : okR d ns qs = true := by
  unfold okR
  rw [Bool.and_eq_true, List.all_eq_true, List.all_eq_true]
  refine ⟨fun x hx => ?_, fun x hx => ?_⟩
  · obtain ⟨k, hk, rfl⟩ := mem_getD hx
    by_cases hc : ns.getD k 0 % perI d < 5
    · rw [h1 k hk hc]; simp
    · rw [decide_eq_false hc]; rfl
  · obtain ⟨k, hk, rfl⟩ := mem_getD hx
    exact h2 k hk
theorem okR_in {d : Dev} {ns qs : List Int} {k : Nat} (hk : k < ns.length) (h1 : ns.getD k 0 % perI d < 5) (h2 : hasB qs (ns.getD k 0) = false) : okR d ns qs = false := by
  rw [Bool.eq_false_iff]
  intro hc
  unfold okR at hc
  rw [Bool.and_eq_true, List.all_eq_true] at hc
  have := hc.1 _ (getD_inX hk)
  rw [decide_eq_true h1, h2] at this
  exact absurd this (by decide)
theorem okR_out {d : Dev} {ns qs : List Int} {k : Nat} (hk : k < qs.length) (h2 : hasB ns (qs.getD k 0) = false) : okR d ns qs = false := by
  rw [Bool.eq_false_iff]
  intro hc
  unfold okR at hc
  rw [Bool.and_eq_true, List.all_eq_true, List.all_eq_true] at hc
  have := hc.2 _ (getD_inX hk)
  rw [h2] at this
  exact absurd this (by decide)
theorem okR_ks {d : Dev} {s0 : Int} {ns fs ks : List Int} (h : RtOk d s0 ns fs ks) : okR d ns ks = true :=
  okR_yes (fun k hk h5 => hasB_mem.2 (h.inpin.2 ⟨getD_inX hk, h5⟩)) (fun k hk => hasB_mem.2 (h.inpin.1 (getD_inX hk)).1)
theorem filt_part {α : Type} (p : α → Bool) : ∀ l : List α, (l.filter p).length + (l.filter (fun x => !(p x))).length = l.length
  | [] => rfl
  | a :: l => by
    have ih := filt_part p l
    cases h : p a <;> simp [List.filter_cons, h] <;> omega
/-- wires among the first -/
def wcnt (d : Dev) (ns : List Int) (k : Nat) : Int := (((ns.take k).filter (isWireI d)).length : Int)
theorem wcnt_all {d : Dev} {s0 : Int} {ns fs ks : List Int} (h : RtOk d s0 ns fs ks) (hd : devB d = true) : wcnt d ns ns.length + ks.length + 1 = ns.length := by
  have hc := h.tr.cons
  have hl := congrArg List.length hc
  rw [List.length_cons] at hl
  unfold wcnt
  rw [List.take_length]
  have hw : ns.filter (isWireI d) = (ns.drop 1).filter (isWireI d) := by
    have hn : ¬ isWireI d s0 = true := by
      intro hw
      have := (isWire_rng hw).2.2.2.1
      rw [h.out] at this
      omega
    rw [hc, List.filter_cons_of_neg hn]; rfl
  have hs : ks.length = ((ns.drop 1).filter (fun x => !(isWireI d x))).length := by
    rw [h.tr.sinks]
    congr 1
    apply List.filter_congr
    intro x hx
    obtain ⟨k, hk, e⟩ := mem_getD hx
    rw [List.length_drop] at hk
    have e2 : (ns.drop 1).getD k 0 = ns.getD (k + 1) 0 := by rw [List.getD_eq_getElem?_getD, List.getElem?_drop, List.getD_eq_getElem?_getD, Nat.add_comm]
    have hn := h.node (k := k + 1) (by omega)
    have hst := (h.tr.step (k + 1) (by omega) (by omega)).2.2
    rw [← e2, e] at hn hst
    obtain ⟨hp1, hp2⟩ := per_rng hd
    by_cases h7 : 7 ≤ x % perI d
    · have hw : isWireI d x = true := by unfold isWireI; rw [hn, decide_eq_true h7]; rfl
      rw [hw, decide_eq_false (by omega)]; rfl
    · have hw : isWireI d x = false := by unfold isWireI; rw [decide_eq_false h7]; simp
      by_cases h5 : x % perI d < 5
      · rw [hw, decide_eq_true h5]; rfl
      · exfalso
        unfold srcI at hst
        rw [if_pos hn, if_neg h5, if_pos (by omega)] at hst
        exact absurd hst (by simp [hasB])
  rw [hw, hs]
  have := filt_part (isWireI d) (ns.drop 1)
  omega
structure Pn where
  b : Int
  p : Int
abbrev pn0 : Pn := ⟨0, 0⟩
def pnC (r : Pn) : List Value := [.int .i64 r.b, .int .i64 r.p]
structure Cn where
  nd : Int
  sb : Int
  sp : Int
  sv : Value
  ps : List Pn
abbrev cn0 : Cn := ⟨0, 0, 0, .slice none 0 0, []⟩
def cnC (r : Cn) : List Value := [.int .i64 r.nd, .int .i64 r.sb, .int .i64 r.sp, r.sv]
abbrev Cn.agg (r : Cn) : Value := .agg #[.int .i64 r.nd, .int .i64 r.sb, .int .i64 r.sp, r.sv]
structure RdsCn (w : World) (v : Value) (cs : List Cn) : Prop where
  row : RdsW w v 4 cs.length (cs.flatMap cnC)
  ps : ∀ c ∈ cs, RdsW w c.sv 2 c.ps.length (c.ps.flatMap pnC)
theorem RdsCn.below {w w' : World} {v : Value} {cs : List Cn} (h : RdsCn w v cs) (hb : Below w.heap.size w w') : RdsCn w' v cs := ⟨h.row.below hb, fun r hr => (h.ps r hr).below hb⟩
theorem RdsCn.at {w : World} {v : Value} {cs : List Cn} (h : RdsCn w v cs) {k : Nat} (hk : k < cs.length) : RdsW w (cs.getD k cn0).sv 2 (cs.getD k cn0).ps.length ((cs.getD k cn0).ps.flatMap pnC) := h.ps _ (getD_mem' hk)
structure PnOk (n : Int) (b p : Int) : Prop where
  b0 : 0 ≤ b
  b1 : b ≤ n - 1
  p0 : 0 ≤ p
  p1 : p ≤ 4
structure CnOk (n : Int) (c : Cn) : Prop where
  src : PnOk n c.sb c.sp
  l0 : 1 ≤ c.ps.length
  l1 : c.ps.length ≤ 120
  snk : ∀ k, k < c.ps.length → PnOk n (c.ps.getD k pn0).b (c.ps.getD k pn0).p
/-- the nodes of the sinks -/
def snkL (d : Dev) (pl : List Int) (ps : List Pn) (k : Nat) : List Int := (ps.take k).map fun q => inPinI d (pl.getD q.b.toNat 0) q.p
theorem take_snocP {α : Type} {l : List α} {k : Nat} (d : α) (h : k < l.length) : l.take (k + 1) = l.take k ++ [l.getD k d] := by
  rw [List.take_succ_eq_append_getElem h, List.getD_eq_getElem?_getD, List.getElem?_eq_getElem h]; rfl
theorem snk_step (d : Dev) (pl : List Int) {ps : List Pn} {k : Nat} (h : k < ps.length) : snkL d pl ps k ++ [inPinI d (pl.getD (ps.getD k pn0).b.toNat 0) (ps.getD k pn0).p] = snkL d pl ps (k + 1) := by
  unfold snkL; rw [take_snocP pn0 h, List.map_append]; rfl
theorem snk_len (d : Dev) (pl : List Int) {ps : List Pn} {k : Nat} (h : k ≤ ps.length) : (snkL d pl ps k).length = k := by simp [snkL]; omega
/-- the pins of a drawn route -/
theorem inPin_node {d : Dev} {x : Int} (hn : nodeOkI d x = true) (h5 : x % perI d < 5) : inPinI d (x / perI d) (x % perI d) = x ∧ 0 ≤ x / perI d ∧ x / perI d < d.W * d.H ∧ 0 ≤ x % perI d := by
  obtain ⟨hd, h0, h1⟩ := nodeOk_rng hn
  obtain ⟨q1, q2⟩ := per_rng hd
  have hm := Int.emod_nonneg x (show perI d ≠ 0 by omega)
  have e := Int.mul_ediv_add_emod x (perI d)
  have hq : 0 ≤ x / perI d := Int.ediv_nonneg h0 (by omega)
  have hq1 : x / perI d < d.W * d.H := Int.ediv_lt_of_lt_mul (by omega) (by have : allI d = d.W * d.H * perI d := rfl; omega)
  refine ⟨?_, hq, hq1, hm⟩
  rw [nodeOk_in hd (inR_true (by omega) (by omega)), nodeB_in h5, decide_eq_true_eq] at hn
  unfold inPinI
  rw [if_pos ⟨tok_in hd hq hq1, hm, by omega⟩, Int.mul_comm]; omega
theorem outPin_root {d : Dev} {t : Int} (hd : devB d = true) (h0 : 0 ≤ t) (h1 : t < d.W * d.H) : outPinI d (outPinI d t 0 / perI d) 0 = outPinI d t 0 := by
  obtain ⟨e1, e2, e3, e4, e5⟩ := out0 hd h0 h1
  rw [e5]
theorem okR_first {d : Dev} {s0 : Int} {ns fs ks : List Int} (h : RtOk d s0 ns fs ks) (hk : 0 < ks.length) : okR d ns [ks.getD 0 0] = decide (ks.length = 1) := by
  by_cases hl : ks.length = 1
  · rw [decide_eq_true hl]
    cases ks with
    | nil => simp at hk
    | cons a t =>
      have : t = [] := by simpa using hl
      subst this
      exact okR_ks h
  · rw [decide_eq_false hl]
    have h1 := h.inpin.1 (getD_inX (show 1 < ks.length by omega))
    obtain ⟨k, hk2, e⟩ := mem_getD h1.1
    refine okR_in hk2 (by rw [e]; exact h1.2) ?_
    rw [e, Bool.eq_false_iff]
    intro hc
    have hc := hasB_mem.1 hc
    rw [List.mem_singleton] at hc
    have hn := h.nd
    cases ks with
    | nil => simp at hk
    | cons a t =>
      cases t with
      | nil => simp at hl
      | cons b t =>
        have : b = a := by simpa using hc
        subst this
        simp at hn
/-- what RoutesOk answers for the same route again and again -/
def okRs (d : Dev) (ns qs : List Int) (n : Nat) : Bool := okR d ns qs && decide (n ≤ 1)
section
variable {P : Program} {N : Nat} {w0 : World} {l : List HP} {env : List (Nat × Value)} {o : Oper}
theorem run_eql_sn (w : World) (t e : TypeId) (a : Option Addr) (l c : Nat) (h : P.underlying t = some (.slice e)) : (binOp .eql t (.slice a l c) (.slice none 0 0)).run P w = .ok (.bool a.isNone) w := by
  simp only [binOp]
  simp [run_equal_slice_nil w t e a l c h]
theorem rv_eqlNil {t t' e : TypeId} {x y : Operand} {v : Value} {s n : Nat} {cs : List Value} (ho : o.op = .binOp .eql t x y t') (hu : P.underlying t = some (.slice e)) (hx : ev env x = some v) (hy : ev env y = some (.slice none 0 0)) (hr : Rd w0 l v s n cs) (hn : 0 < n) : RunV P N w0 l env o (.bool false) := fun a w st => by
  obtain ⟨ad, cap, rfl, hl, hm, hc⟩ := hr w st.mem
  obtain ⟨b, off, rfl, -⟩ := hc hn
  have h := run_eql_sn (P := P) w t e (some ⟨b, off, none⟩) n cap hu
  simp [execOp, ho, st.eval hx, st.eval hy, eqGuard, h]
end
set_option maxHeartbeats 4000000 in
set_option maxRecDepth 100000 in
theorem hasInt_ans (xs : List Int) (x : Int) (v : Value) (w : World) (hv : RdsW w v 1 xs.length (xs.map (Value.int .i64))) (hlen : xs.length ≤ 1000000000) :
  Calls Try.prog 39 #[v, .int .i64 x] w (Ans w (.bool (hasB xs x))) := by
 refine calls_hc (N := 17) (args := [v, .int .i64 x]) Try.func39 rfl rfl ?_
 refine hc_less _ (sx 0 rfl (sx 1 rfl (sub_nil _))) (.refl _) ?_
 refine hc_seq ?_
 refine hc_region ?_
 refine hl_v rfl rfl rfl (rv_ev rfl) ?_
 refine hl_less (sx 0 rfl (sx 1 rfl (sx 4 rfl (sub_nil _)))) (.refl _) ?_
 refine hl_nil ?_
 refine hq_then ?_
 refine hc_seq ?_
 refine hc_seq ?_
 refine hc_region ?_
 refine hl_v rfl rfl rfl (rv_ev rfl) ?_
 refine hl_v rfl rfl rfl (rv_len rfl Try.underlying26 rfl (rd_old hv)) ?_
 refine hl_v rfl rfl rfl (rv_ev rfl) ?_
 refine hl_less (sx 0 rfl (sx 1 rfl (sx 4 rfl (sx 7 rfl (sx 8 rfl (sx 9 rfl (sub_nil _))))))) (.refl _) ?_
 refine hl_nil ?_
 refine hq_then ?_
 refine hc_block ?_
 refine hc_loop1 (α := Nat) (fun j => []) (fun j => [(0, v), (1, .int .i64 x), (4, .bool false), (7, v), (8, .int .i64 (xs.length : Int)), (9, .int .i64 (j : Int))]) (fun j => j ≤ xs.length ∧ ∀ i, i < j → xs.getD i 0 ≠ x) (fun j => xs.length - j) 0 ⟨by omega, fun i hi => absurd hi (by omega)⟩ (sx 0 rfl (sx 1 rfl (sx 4 rfl (sx 7 rfl (sx 8 rfl (sx 9 rfl (sub_nil _))))))) (.slnil) ?_
 intro j hi1
 obtain ⟨hk1, hk2⟩ := hi1
 refine hc_seq ?_
 refine hc_region ?_
 refine hl_lss rfl rfl rfl rfl rfl rfl (fun h2 => ?_) (fun h2 => ?_)
 ·
  refine hl_less (sx 0 rfl (sx 1 rfl (sx 4 rfl (sx 7 rfl (sx 8 rfl (sx 9 rfl (sx 10 rfl (sub_nil _)))))))) (.refl _) ?_
  refine hl_nil ?_
  refine hq_then ?_
  refine hc_seq ?_
  refine hc_true rfl ?_
  refine hc_skip ?_
  refine hq_then ?_
  refine hc_seq ?_
  refine hc_block ?_
  refine hc_seq ?_
  refine hc_region ?_
  refine hl_v rfl rfl rfl (rv_index (s := 1) rfl Try.underlying26 (by kernel_rfl) rfl rfl (rd_old hv) (by omega) (by first | omega | (simp only [List.length_set]; omega))) ?_
  refine hl_v rfl rfl rfl (rv_loadEl (u := .int .i64 (xs.getD j 0)) rfl (by kernel_rfl) rfl (rd_old hv) (ints_at1 (show _ < xs.length by first | omega | (simp only [List.length_set]; omega)))) ?_
  refine hl_v rfl rfl rfl (rv_ev rfl) ?_
  refine hl_less (sx 0 rfl (sx 1 rfl (sx 4 rfl (sx 6 rfl (sx 7 rfl (sx 8 rfl (sx 9 rfl (sx 10 rfl (sub_nil _))))))))) (.refl _) ?_
  refine hl_nil ?_
  refine hq_then ?_
  refine hc_seq ?_
  refine hc_region ?_
  refine hl_v rfl rfl rfl (rv_ev rfl) ?_
  refine hl_v rfl rfl rfl (rv_ev rfl) ?_
  refine hl_eql rfl rfl rfl rfl rfl rfl (fun h3 => ?_) (fun h3 => ?_)
  ·
   refine hl_less (sx 0 rfl (sx 1 rfl (sx 4 rfl (sx 6 rfl (sx 7 rfl (sx 8 rfl (sx 9 rfl (sx 10 rfl (sx 15 rfl (sub_nil _)))))))))) (.refl _) ?_
   refine hl_nil ?_
   refine hq_then ?_
   refine hc_true rfl ?_
   refine hc_seq ?_
   refine hc_region ?_
   refine hl_v rfl rfl rfl (rv_ev rfl) ?_
   refine hl_less (sx 0 rfl (sx 1 rfl (sx 4 rfl (sx 6 rfl (sx 7 rfl (sx 8 rfl (sx 9 rfl (sx 10 rfl (sx 15 rfl (sub_nil _)))))))))) (.refl _) ?_
   refine hl_nil ?_
   refine hq_then ?_
   refine hc_ret ?_
   refine hq_block_ret ?_
   refine hq_then_ret ?_
   refine hq_then_ret ?_
   refine hq_block_ret ?_
   refine hq_then_ret ?_
   exact hq_ans rfl rfl (congrArg _ (hasB_at xs x j (by omega) (by assumption)).symm)
  ·
   refine hl_less (sx 0 rfl (sx 1 rfl (sx 4 rfl (sx 6 rfl (sx 7 rfl (sx 8 rfl (sx 9 rfl (sx 10 rfl (sx 15 rfl (sub_nil _)))))))))) (.refl _) ?_
   refine hl_nil ?_
   refine hq_then ?_
   refine hc_false rfl ?_
   refine hc_skip ?_
   refine hq_block_normal ?_
   refine hq_then ?_
   refine hc_region ?_
   refine hl_v rfl rfl rfl (rv_add rfl rfl rfl (by constructor <;> omega)) ?_
   refine hl_v rfl rfl rfl (rv_ev rfl) ?_
   refine hl_less (sx 0 rfl (sx 1 rfl (sx 4 rfl (sx 6 rfl (sx 7 rfl (sx 8 rfl (sx 9 rfl (sx 10 rfl (sx 15 rfl (sub_nil _)))))))))) (.refl _) ?_
   refine hl_nil ?_
   exact hq_round1 (j + 1) ⟨by omega, fun i hi => by by_cases hij : i = j; (subst hij; assumption); exact hk2 i (by omega)⟩ (by omega) (sx 0 rfl (sx 1 rfl (sx 4 rfl (sx 7 rfl (sx 8 rfl (sx 9 rfl (sub_nil _))))))) (.slnil)
 ·
  refine hl_less (sx 0 rfl (sx 1 rfl (sx 4 rfl (sx 7 rfl (sx 8 rfl (sx 9 rfl (sx 10 rfl (sub_nil _)))))))) (.refl _) ?_
  refine hl_nil ?_
  refine hq_then ?_
  refine hc_seq ?_
  refine hc_false rfl ?_
  refine hc_exit ?_
  refine hq_then_exit ?_
  refine hq_then_exit ?_
  refine hq_block_exit ?_
  refine hq_then ?_
  refine hc_seq ?_
  refine hc_region ?_
  refine hl_v rfl rfl rfl (rv_ev rfl) ?_
  refine hl_less (sx 0 rfl (sx 1 rfl (sx 4 rfl (sx 7 rfl (sx 8 rfl (sx 9 rfl (sx 10 rfl (sub_nil _)))))))) (.refl _) ?_
  refine hl_nil ?_
  refine hq_then ?_
  refine hc_ret ?_
  exact hq_ans rfl rfl (congrArg _ (hasB_no xs x (fun i hi => hk2 i (by omega))).symm)
set_option maxHeartbeats 4000000 in
set_option maxRecDepth 100000 in
theorem isOutPin_yes (d : Dev) (x : Int) (w : World) (hd : devB d = true) (hno : nodeOkI d x = true) (h5 : x % perI d = 5) :
  Calls Try.prog 36 #[.agg #[.int .i64 d.W, .int .i64 d.H, .int .i64 d.T, .int .i64 d.R], .int .i64 x] w (Ans w (.bool true)) := by
 obtain ⟨ra1, ra2⟩ := all_rng hd
 obtain ⟨hx0, hx1⟩ := (nodeOk_rng hno).2
 refine calls_hc (N := 23) (args := [.agg #[.int .i64 d.W, .int .i64 d.H, .int .i64 d.T, .int .i64 d.R], .int .i64 x]) Try.func36 rfl rfl ?_
 refine hc_less _ (sx 0 rfl (sx 1 rfl (sub_nil _))) (.refl _) ?_
 refine hc_seq ?_
 refine hc_region ?_
 refine hl_box rfl rfl rfl (rq_box rfl rfl) ?_
 intro b1
 refine hl_v rfl rfl rfl (rv_ev rfl) ?_
 refine hl_less (sx 0 rfl (sx 1 rfl (sx 2 rfl (sx 4 rfl (sub_nil _))))) (.refl _) ?_
 refine hl_nil ?_
 refine hq_then ?_
 refine hc_seq ?_
 refine hc_seq ?_
 refine hc_region ?_
 refine hl_v rfl rfl rfl (rv_loadN (cs := [.int .i64 d.W, .int .i64 d.H, .int .i64 d.T, .int .i64 d.R]) rfl (by kernel_rfl) (by kernel_rfl) rfl rfl (box_part 0 rfl 0 rfl)) ?_
 refine hl_v rfl rfl rfl (rv_ev rfl) ?_
 refine hl_callV rfl rfl rfl (rq_call (by kernel_rfl) rfl (fun w hm => ret_ans (implRouteNodeOk_any d _ w))) ?_
 refine hl_bool (fun h2 => ?_) (fun h2 => absurd ((hno).symm.trans h2) (by decide))
 refine hl_v rfl rfl rfl (rv_ev rfl) ?_
 refine hl_less (sx 0 rfl (sx 1 rfl (sx 2 rfl (sx 4 rfl (sx 10 rfl (sub_nil _)))))) (.refl _) ?_
 refine hl_nil ?_
 refine hq_then ?_
 refine hc_false rfl ?_
 refine hc_skip ?_
 refine hq_then ?_
 refine hc_seq ?_
 refine hc_region ?_
 refine hl_v rfl rfl rfl (rv_loadN (cs := [.int .i64 d.W, .int .i64 d.H, .int .i64 d.T, .int .i64 d.R]) rfl (by kernel_rfl) (by kernel_rfl) rfl rfl (box_part 0 rfl 0 rfl)) ?_
 refine hl_v rfl rfl rfl (rv_ev rfl) ?_
 refine hl_callV rfl rfl rfl (rq_call (by kernel_rfl) rfl (fun w hm => ret_ans (nodePlace_any d _ hd (by omega) (by omega) w))) ?_
 refine hl_v rfl rfl rfl (rv_ev rfl) ?_
 refine hl_v rfl rfl rfl (rv_ev rfl) ?_
 refine hl_v rfl rfl rfl (rv_ev rfl) ?_
 refine hl_v rfl rfl rfl (rv_ev rfl) ?_
 refine hl_v rfl rfl rfl (rv_ev rfl) ?_
 refine hl_less (sx 0 rfl (sx 1 rfl (sx 2 rfl (sx 4 rfl (sx 6 rfl (sx 10 rfl (sub_nil _))))))) (.refl _) ?_
 refine hl_nil ?_
 refine hq_then ?_
 refine hc_seq ?_
 refine hc_region ?_
 refine hl_v rfl rfl rfl (rv_ev rfl) ?_
 refine hl_eql rfl rfl rfl rfl rfl rfl (fun h3 => ?_) (fun h3 => absurd h3 (by omega))
 refine hl_v rfl rfl rfl (rv_ev rfl) ?_
 refine hl_skip rfl rfl rfl ?_
 refine hl_skip rfl rfl rfl ?_
 refine hl_v rfl rfl rfl (rv_ev rfl) ?_
 refine hl_v rfl rfl rfl (rv_ev rfl) ?_
 refine hl_less (sx 0 rfl (sx 1 rfl (sx 2 rfl (sx 4 rfl (sx 6 rfl (sx 10 rfl (sub_nil _))))))) (.refl _) ?_
 refine hl_nil ?_
 refine hq_then ?_
 refine hc_ret ?_
 exact hq_ans rfl rfl rfl
set_option maxHeartbeats 4000000 in
set_option maxRecDepth 100000 in
theorem isInPin_yes (d : Dev) (x : Int) (w : World) (hd : devB d = true) (hno : nodeOkI d x = true) :
  Calls Try.prog 41 #[.agg #[.int .i64 d.W, .int .i64 d.H, .int .i64 d.T, .int .i64 d.R], .int .i64 x] w (Ans w (.bool (decide (x % perI d < 5)))) := by
 obtain ⟨ra1, ra2⟩ := all_rng hd
 obtain ⟨hx0, hx1⟩ := (nodeOk_rng hno).2
 refine calls_hc (N := 19) (args := [.agg #[.int .i64 d.W, .int .i64 d.H, .int .i64 d.T, .int .i64 d.R], .int .i64 x]) Try.func41 rfl rfl ?_
 refine hc_less _ (sx 0 rfl (sx 1 rfl (sub_nil _))) (.refl _) ?_
 refine hc_seq ?_
 refine hc_region ?_
 refine hl_box rfl rfl rfl (rq_box rfl rfl) ?_
 intro b1
 refine hl_v rfl rfl rfl (rv_ev rfl) ?_
 refine hl_less (sx 0 rfl (sx 1 rfl (sx 2 rfl (sx 4 rfl (sub_nil _))))) (.refl _) ?_
 refine hl_nil ?_
 refine hq_then ?_
 refine hc_seq ?_
 refine hc_seq ?_
 refine hc_region ?_
 refine hl_v rfl rfl rfl (rv_loadN (cs := [.int .i64 d.W, .int .i64 d.H, .int .i64 d.T, .int .i64 d.R]) rfl (by kernel_rfl) (by kernel_rfl) rfl rfl (box_part 0 rfl 0 rfl)) ?_
 refine hl_v rfl rfl rfl (rv_ev rfl) ?_
 refine hl_callV rfl rfl rfl (rq_call (by kernel_rfl) rfl (fun w hm => ret_ans (implRouteNodeOk_any d _ w))) ?_
 refine hl_bool (fun h2 => ?_) (fun h2 => absurd ((hno).symm.trans h2) (by decide))
 refine hl_v rfl rfl rfl (rv_ev rfl) ?_
 refine hl_less (sx 0 rfl (sx 1 rfl (sx 2 rfl (sx 4 rfl (sx 10 rfl (sub_nil _)))))) (.refl _) ?_
 refine hl_nil ?_
 refine hq_then ?_
 refine hc_false rfl ?_
 refine hc_skip ?_
 refine hq_then ?_
 refine hc_seq ?_
 refine hc_region ?_
 refine hl_v rfl rfl rfl (rv_loadN (cs := [.int .i64 d.W, .int .i64 d.H, .int .i64 d.T, .int .i64 d.R]) rfl (by kernel_rfl) (by kernel_rfl) rfl rfl (box_part 0 rfl 0 rfl)) ?_
 refine hl_v rfl rfl rfl (rv_ev rfl) ?_
 refine hl_callV rfl rfl rfl (rq_call (by kernel_rfl) rfl (fun w hm => ret_ans (nodePlace_any d _ hd (by omega) (by omega) w))) ?_
 refine hl_v rfl rfl rfl (rv_ev rfl) ?_
 refine hl_v rfl rfl rfl (rv_ev rfl) ?_
 refine hl_v rfl rfl rfl (rv_ev rfl) ?_
 refine hl_v rfl rfl rfl (rv_ev rfl) ?_
 refine hl_v rfl rfl rfl (rv_ev rfl) ?_
 refine hl_less (sx 0 rfl (sx 1 rfl (sx 2 rfl (sx 4 rfl (sx 6 rfl (sx 10 rfl (sub_nil _))))))) (.refl _) ?_
 refine hl_nil ?_
 refine hq_then ?_
 refine hc_seq ?_
 refine hc_region ?_
 refine hl_v rfl rfl rfl (rv_ev rfl) ?_
 refine hl_lss rfl rfl rfl rfl rfl rfl (fun h3 => ?_) (fun h3 => ?_)
 ·
  refine hl_v rfl rfl rfl (rv_ev rfl) ?_
  refine hl_less (sx 0 rfl (sx 1 rfl (sx 2 rfl (sx 4 rfl (sx 6 rfl (sx 10 rfl (sub_nil _))))))) (.refl _) ?_
  refine hl_nil ?_
  refine hq_then ?_
  refine hc_ret ?_
  exact hq_ans rfl rfl (congrArg _ (decide_eq_true (by omega)).symm)
 ·
  refine hl_v rfl rfl rfl (rv_ev rfl) ?_
  refine hl_less (sx 0 rfl (sx 1 rfl (sx 2 rfl (sx 4 rfl (sx 6 rfl (sx 10 rfl (sub_nil _))))))) (.refl _) ?_
  refine hl_nil ?_
  refine hq_then ?_
  refine hc_ret ?_
  exact hq_ans rfl rfl (congrArg _ (decide_eq_false (by omega)).symm)
set_option maxHeartbeats 4000000 in
set_option maxRecDepth 100000 in
theorem RouteOk_ans (d : Dev) (s0 : Int) (r : Rt) (ks qs : List Int) (qv : Value) (w : World) (hd : devB d = true) (hrt : RtOk d s0 r.ns r.fs ks) (hrn : RdsW w r.nv 1 r.ns.length (r.ns.map (Value.int .i64))) (hrf : RdsW w r.fv 1 r.fs.length (r.fs.map (Value.int .i64))) (hq : RdsW w qv 1 qs.length (qs.map (Value.int .i64))) (hql : qs.length ≤ 100000) (hqr : ∀ k, k < qs.length → -9223372036854775808 ≤ qs.getD k 0 ∧ qs.getD k 0 ≤ 9223372036854775807) :
  Calls Try.prog 10 #[.agg #[.int .i64 d.W, .int .i64 d.H, .int .i64 d.T, .int .i64 d.R], .int .i64 s0, qv, .agg #[r.nv, r.fv]] w (Ans w (.bool (okR d r.ns qs))) := by
 have ht1 := hrt.tr.len
 have ht2 := hrt.tr.l0
 have ht3 := hrt.tr.l1
 obtain ⟨ra1, ra2⟩ := all_rng hd
 have hr0 := hrt.tr.root
 have hf0 := hrt.tr.from0
 have hns := hrt.tr.nsok (by omega)
 refine calls_hc (N := 126) (args := [.agg #[.int .i64 d.W, .int .i64 d.H, .int .i64 d.T, .int .i64 d.R], .int .i64 s0, qv, .agg #[r.nv, r.fv]]) Try.func10 rfl rfl ?_
 refine hc_less _ (sx 0 rfl (sx 1 rfl (sx 2 rfl (sx 3 rfl (sub_nil _))))) (.refl _) ?_
 refine hc_seq ?_
 refine hc_region ?_
 refine hl_box rfl rfl rfl (rq_box rfl rfl) ?_
 intro b1
 refine hl_box rfl rfl rfl (rq_box rfl rfl) ?_
 intro b2
 refine hl_v rfl rfl rfl (rv_ev rfl) ?_
 refine hl_less (sx 0 rfl (sx 1 rfl (sx 2 rfl (sx 3 rfl (sx 4 rfl (sx 7 rfl (sx 8 rfl (sub_nil _)))))))) (.refl _) ?_
 refine hl_nil ?_
 refine hq_then ?_
 refine hc_seq ?_
 refine hc_seq ?_
 have hb3 : (decide ((r.ns.length : Int) < 1)) = false := decide_eq_false (by omega)
 have hb4 : (decide (allI d < (r.ns.length : Int))) = false := decide_eq_false (by omega)
 have hb5 : ((r.fs.length : Int) != (r.ns.length : Int)) = false := Bool.eq_false_iff.2 (fun h => bne_iff_ne.1 h (by omega))
 have hb6 : ((r.ns.getD 0 0) != s0) = false := Bool.eq_false_iff.2 (fun h => bne_iff_ne.1 h (by omega))
 have hb7 : ((r.fs.getD 0 0) != 0) = false := Bool.eq_false_iff.2 (fun h => bne_iff_ne.1 h (by omega))
 refine hc_draw (by kernel_rfl) 42 [0, 1, 2, 3, 4, 5, 6, 7, 8, 9, 10, 11, 12, 13, 14, 15, 16, 17, 18, 19, 20, 21, 22, 23, 24, 25, 26, 27, 28, 29, 30, 31, 32, 33, 34, 35, 36, 37, 38, 39, 40, 41] (List.take 42 _) (List.drop 42 _) [[], [0], [1], [2], [3], [4], [4, 5], [4, 6], [4], [4, 8], [4, 7, 9], [4, 10], [11], [12], [12, 13], [12, 14], [12], [12, 16], [12, 17], [12, 15, 18], [12, 19], [20], [21], [21, 22], [21, 23], [21, 24], [21], [21, 25, 26], [21, 27], [28], [29], [29], [29, 30, 31], [29, 32], [29, 33], [34], [35], [35, 36], [35, 37], [35, 38], [35, 39], [35, 40]] [14, 15, 16, 17, 18, 19, 20, 21, 22, 23, 24, 25, 26, 27, 28, 29, 30, 31, 32, 33, 34, 35, 36, 37, 38, 39, 40, 41, 42, 43, 44, 45, 46, 47, 48, 49, 50, 51, 52, 53, 54, 55] (fun i_ vs_ v_ p_ => match i_ with | 0 => v_ = .pointer (some ⟨b2, 0 + 0, none⟩) ∧ p_ = [] | 1 => v_ = r.nv ∧ p_ = [] | 2 => v_ = .int .i64 (r.ns.length : Int) ∧ p_ = [] | 3 => v_ = .bool false ∧ p_ = [] | 4 => v_ = .bool false ∧ p_ = [] | 5 => v_ = .pointer (some ⟨b2, 0 + 0, none⟩) ∧ p_ = [] | 6 => v_ = r.nv ∧ p_ = [] | 7 => v_ = .int .i64 (r.ns.length : Int) ∧ p_ = [] | 8 => v_ = .agg #[.int .i64 d.W, .int .i64 d.H, .int .i64 d.T, .int .i64 d.R] ∧ p_ = [] | 9 => v_ = .int .i64 (allI d) ∧ p_ = [] | 10 => v_ = .bool false ∧ p_ = [] | 11 => v_ = .bool false ∧ p_ = [] | 12 => v_ = .bool false ∧ p_ = [] | 13 => v_ = .pointer (some ⟨b2, 0 + 1, none⟩) ∧ p_ = [] | 14 => v_ = r.fv ∧ p_ = [] | 15 => v_ = .int .i64 (r.fs.length : Int) ∧ p_ = [] | 16 => v_ = .pointer (some ⟨b2, 0 + 0, none⟩) ∧ p_ = [] | 17 => v_ = r.nv ∧ p_ = [] | 18 => v_ = .int .i64 (r.ns.length : Int) ∧ p_ = [] | 19 => v_ = .bool false ∧ p_ = [] | 20 => v_ = .bool false ∧ p_ = [] | 21 => v_ = .bool false ∧ p_ = [] | 22 => v_ = .pointer (some ⟨b2, 0 + 0, none⟩) ∧ p_ = [] | 23 => v_ = r.nv ∧ p_ = [] | 24 => v_ = elP r.nv ((0 : Int).toNat * 1) ∧ p_ = [] | 25 => v_ = .int .i64 (r.ns.getD 0 0) ∧ p_ = [] | 26 => v_ = .int .i64 s0 ∧ p_ = [] | 27 => v_ = .bool false ∧ p_ = [] | 28 => v_ = .bool false ∧ p_ = [] | 29 => v_ = .bool false ∧ p_ = [] | 30 => v_ = .agg #[.int .i64 d.W, .int .i64 d.H, .int .i64 d.T, .int .i64 d.R] ∧ p_ = [] | 31 => v_ = .int .i64 s0 ∧ p_ = [] | 32 => v_ = .bool true ∧ p_ = [] | 33 => v_ = .bool false ∧ p_ = [] | 34 => v_ = .bool false ∧ p_ = [] | 35 => v_ = .bool false ∧ p_ = [] | 36 => v_ = .pointer (some ⟨b2, 0 + 1, none⟩) ∧ p_ = [] | 37 => v_ = r.fv ∧ p_ = [] | 38 => v_ = elP r.fv ((0 : Int).toNat * 1) ∧ p_ = [] | 39 => v_ = .int .i64 (r.fs.getD 0 0) ∧ p_ = [] | 40 => v_ = .bool false ∧ p_ = [] | 41 => v_ = .bool false ∧ p_ = [] | _ => True) (List.take_append_drop 42 _).symm (by kernel_rfl) (by kernel_rfl) rfl rfl ?_ ?_
 ·
  refine ⟨?_, ?_, ?_, ?_, ?_, ?_, ?_, ?_, ?_, ?_, ?_, ?_, ?_, ?_, ?_, ?_, ?_, ?_, ?_, ?_, ?_, ?_, ?_, ?_, ?_, ?_, ?_, ?_, ?_, ?_, ?_, ?_, ?_, ?_, ?_, ?_, ?_, ?_, ?_, ?_, ?_, ?_, trivial⟩
  ·
   intro vf pf hR
   refine Or.inl ⟨rfl, ?_⟩
   refine rq_less (sx 7 rfl (sub_nil _)) (List.sublist_append_right _ _) ?_
   exact rq_v (rv_field (k0 := 0) rfl (by kernel_rfl) rfl)
  ·
   intro vf pf hR
   have e0 : (vf 0) = .pointer (some ⟨b2, 0 + 0, none⟩) ∧ (pf 0) = [] := hR 0 (by decide)
   refine Or.inl ⟨rfl, ?_⟩
   refine rq_less (sx 14 (congrArg some e0.1) (sub_nil _)) (List.sublist_append_right _ _) ?_
   exact rq_v (rv_load rfl (by kernel_rfl) rfl (box_cell 0 rfl rfl))
  ·
   intro vf pf hR
   have e1 : (vf 1) = r.nv ∧ (pf 1) = [] := hR 1 (by decide)
   refine Or.inl ⟨rfl, ?_⟩
   refine rq_less (sx 15 (congrArg some e1.1) (sub_nil _)) (List.sublist_append_right _ _) ?_
   exact rq_v (rv_len rfl Try.underlying26 rfl (rd_old hrn))
  ·
   intro vf pf hR
   have e2 : (vf 2) = .int .i64 (r.ns.length : Int) ∧ (pf 2) = [] := hR 2 (by decide)
   refine Or.inl ⟨rfl, ?_⟩
   refine rq_less (sx 16 (congrArg some e2.1) (sub_nil _)) (List.sublist_append_right _ _) ?_
   exact rq_mono (rq_v (rv_cmp rfl rfl rfl rfl)) (fun _ _ h => ⟨h.1.trans (congrArg Value.bool hb3), h.2⟩)
  ·
   intro vf pf hR
   have e3 : (vf 3) = .bool false ∧ (pf 3) = [] := hR 3 (by decide)
   refine Or.inl ⟨rfl, ?_⟩
   refine rq_less (sx 17 (congrArg some e3.1) (sub_nil _)) (List.sublist_append_right _ _) ?_
   exact rq_v (rv_ev rfl)
  ·
   intro vf pf hR
   have e4 : (vf 4) = .bool false ∧ (pf 4) = [] := hR 4 (by decide)
   refine Or.inl ⟨want_of (congrArg some e4.1) rfl, ?_⟩
   refine rq_less (sx 7 rfl (sub_nil _)) (List.sublist_append_right _ _) ?_
   exact rq_v (rv_field (k0 := 0) rfl (by kernel_rfl) rfl)
  ·
   intro vf pf hR
   have e4 : (vf 4) = .bool false ∧ (pf 4) = [] := hR 4 (by decide)
   have e5 : (vf 5) = .pointer (some ⟨b2, 0 + 0, none⟩) ∧ (pf 5) = [] := hR 5 (by decide)
   refine Or.inl ⟨want_of (congrArg some e4.1) rfl, ?_⟩
   refine rq_less (sx 19 (congrArg some e5.1) (sub_nil _)) (List.sublist_append_right _ _) ?_
   exact rq_v (rv_load rfl (by kernel_rfl) rfl (box_cell 0 rfl rfl))
  ·
   intro vf pf hR
   have e4 : (vf 4) = .bool false ∧ (pf 4) = [] := hR 4 (by decide)
   have e6 : (vf 6) = r.nv ∧ (pf 6) = [] := hR 6 (by decide)
   refine Or.inl ⟨want_of (congrArg some e4.1) rfl, ?_⟩
   refine rq_less (sx 20 (congrArg some e6.1) (sub_nil _)) (List.sublist_append_right _ _) ?_
   exact rq_v (rv_len rfl Try.underlying26 rfl (rd_old hrn))
  ·
   intro vf pf hR
   have e4 : (vf 4) = .bool false ∧ (pf 4) = [] := hR 4 (by decide)
   refine Or.inl ⟨want_of (congrArg some e4.1) rfl, ?_⟩
   refine rq_less (sx 4 rfl (sub_nil _)) (List.sublist_append_right _ _) ?_
   exact rq_v (rv_loadN (cs := [.int .i64 d.W, .int .i64 d.H, .int .i64 d.T, .int .i64 d.R]) rfl (by kernel_rfl) (by kernel_rfl) rfl rfl (box_part 1 rfl 0 rfl))
  ·
   intro vf pf hR
   have e4 : (vf 4) = .bool false ∧ (pf 4) = [] := hR 4 (by decide)
   have e8 : (vf 8) = .agg #[.int .i64 d.W, .int .i64 d.H, .int .i64 d.T, .int .i64 d.R] ∧ (pf 8) = [] := hR 8 (by decide)
   refine Or.inl ⟨want_of (congrArg some e4.1) rfl, ?_⟩
   refine rq_less (sx 22 (congrArg some e8.1) (sub_nil _)) (List.sublist_append_right _ _) ?_
   exact (rq_call (by kernel_rfl) rfl (fun w hm => ret_ans (implRouteNodes_yes d hd w)))
  ·
   intro vf pf hR
   have e4 : (vf 4) = .bool false ∧ (pf 4) = [] := hR 4 (by decide)
   have e7 : (vf 7) = .int .i64 (r.ns.length : Int) ∧ (pf 7) = [] := hR 7 (by decide)
   have e9 : (vf 9) = .int .i64 (allI d) ∧ (pf 9) = [] := hR 9 (by decide)
   refine Or.inl ⟨want_of (congrArg some e4.1) rfl, ?_⟩
   refine rq_less (sx 21 (congrArg some e7.1) (sx 23 (congrArg some e9.1) (sub_nil _))) (List.sublist_append_right _ _) ?_
   exact rq_mono (rq_v (rv_cmp rfl rfl rfl rfl)) (fun _ _ h => ⟨h.1.trans (congrArg Value.bool hb4), h.2⟩)
  ·
   intro vf pf hR
   have e4 : (vf 4) = .bool false ∧ (pf 4) = [] := hR 4 (by decide)
   have e10 : (vf 10) = .bool false ∧ (pf 10) = [] := hR 10 (by decide)
   refine Or.inl ⟨rfl, ?_⟩
   refine rq_less (sx 18 (congrArg some e4.1) (sx 24 (congrArg some e10.1) (sub_nil _))) (List.sublist_append_right _ _) ?_
   exact rq_v (rv_ev rfl)
  ·
   intro vf pf hR
   have e11 : (vf 11) = .bool false ∧ (pf 11) = [] := hR 11 (by decide)
   refine Or.inl ⟨rfl, ?_⟩
   refine rq_less (sx 25 (congrArg some e11.1) (sub_nil _)) (List.sublist_append_right _ _) ?_
   exact rq_v (rv_ev rfl)
  ·
   intro vf pf hR
   have e12 : (vf 12) = .bool false ∧ (pf 12) = [] := hR 12 (by decide)
   refine Or.inl ⟨want_of (congrArg some e12.1) rfl, ?_⟩
   refine rq_less (sx 7 rfl (sub_nil _)) (List.sublist_append_right _ _) ?_
   exact rq_v (rv_field (k0 := 1) rfl (by kernel_rfl) rfl)
  ·
   intro vf pf hR
   have e12 : (vf 12) = .bool false ∧ (pf 12) = [] := hR 12 (by decide)
   have e13 : (vf 13) = .pointer (some ⟨b2, 0 + 1, none⟩) ∧ (pf 13) = [] := hR 13 (by decide)
   refine Or.inl ⟨want_of (congrArg some e12.1) rfl, ?_⟩
   refine rq_less (sx 27 (congrArg some e13.1) (sub_nil _)) (List.sublist_append_right _ _) ?_
   exact rq_v (rv_load rfl (by kernel_rfl) rfl (box_cell 0 rfl rfl))
  ·
   intro vf pf hR
   have e12 : (vf 12) = .bool false ∧ (pf 12) = [] := hR 12 (by decide)
   have e14 : (vf 14) = r.fv ∧ (pf 14) = [] := hR 14 (by decide)
   refine Or.inl ⟨want_of (congrArg some e12.1) rfl, ?_⟩
   refine rq_less (sx 28 (congrArg some e14.1) (sub_nil _)) (List.sublist_append_right _ _) ?_
   exact rq_v (rv_len rfl Try.underlying26 rfl (rd_old hrf))
  ·
   intro vf pf hR
   have e12 : (vf 12) = .bool false ∧ (pf 12) = [] := hR 12 (by decide)
   refine Or.inl ⟨want_of (congrArg some e12.1) rfl, ?_⟩
   refine rq_less (sx 7 rfl (sub_nil _)) (List.sublist_append_right _ _) ?_
   exact rq_v (rv_field (k0 := 0) rfl (by kernel_rfl) rfl)
  ·
   intro vf pf hR
   have e12 : (vf 12) = .bool false ∧ (pf 12) = [] := hR 12 (by decide)
   have e16 : (vf 16) = .pointer (some ⟨b2, 0 + 0, none⟩) ∧ (pf 16) = [] := hR 16 (by decide)
   refine Or.inl ⟨want_of (congrArg some e12.1) rfl, ?_⟩
   refine rq_less (sx 30 (congrArg some e16.1) (sub_nil _)) (List.sublist_append_right _ _) ?_
   exact rq_v (rv_load rfl (by kernel_rfl) rfl (box_cell 0 rfl rfl))
  ·
   intro vf pf hR
   have e12 : (vf 12) = .bool false ∧ (pf 12) = [] := hR 12 (by decide)
   have e17 : (vf 17) = r.nv ∧ (pf 17) = [] := hR 17 (by decide)
   refine Or.inl ⟨want_of (congrArg some e12.1) rfl, ?_⟩
   refine rq_less (sx 31 (congrArg some e17.1) (sub_nil _)) (List.sublist_append_right _ _) ?_
   exact rq_v (rv_len rfl Try.underlying26 rfl (rd_old hrn))
  ·
   intro vf pf hR
   have e12 : (vf 12) = .bool false ∧ (pf 12) = [] := hR 12 (by decide)
   have e15 : (vf 15) = .int .i64 (r.fs.length : Int) ∧ (pf 15) = [] := hR 15 (by decide)
   have e18 : (vf 18) = .int .i64 (r.ns.length : Int) ∧ (pf 18) = [] := hR 18 (by decide)
   refine Or.inl ⟨want_of (congrArg some e12.1) rfl, ?_⟩
   refine rq_less (sx 29 (congrArg some e15.1) (sx 32 (congrArg some e18.1) (sub_nil _))) (List.sublist_append_right _ _) ?_
   exact rq_mono (rq_v (rv_cmp rfl rfl rfl rfl)) (fun _ _ h => ⟨h.1.trans (congrArg Value.bool hb5), h.2⟩)
  ·
   intro vf pf hR
   have e12 : (vf 12) = .bool false ∧ (pf 12) = [] := hR 12 (by decide)
   have e19 : (vf 19) = .bool false ∧ (pf 19) = [] := hR 19 (by decide)
   refine Or.inl ⟨rfl, ?_⟩
   refine rq_less (sx 26 (congrArg some e12.1) (sx 33 (congrArg some e19.1) (sub_nil _))) (List.sublist_append_right _ _) ?_
   exact rq_v (rv_ev rfl)
  ·
   intro vf pf hR
   have e20 : (vf 20) = .bool false ∧ (pf 20) = [] := hR 20 (by decide)
   refine Or.inl ⟨rfl, ?_⟩
   refine rq_less (sx 34 (congrArg some e20.1) (sub_nil _)) (List.sublist_append_right _ _) ?_
   exact rq_v (rv_ev rfl)
  ·
   intro vf pf hR
   have e21 : (vf 21) = .bool false ∧ (pf 21) = [] := hR 21 (by decide)
   refine Or.inl ⟨want_of (congrArg some e21.1) rfl, ?_⟩
   refine rq_less (sx 7 rfl (sub_nil _)) (List.sublist_append_right _ _) ?_
   exact rq_v (rv_field (k0 := 0) rfl (by kernel_rfl) rfl)
  ·
   intro vf pf hR
   have e21 : (vf 21) = .bool false ∧ (pf 21) = [] := hR 21 (by decide)
   have e22 : (vf 22) = .pointer (some ⟨b2, 0 + 0, none⟩) ∧ (pf 22) = [] := hR 22 (by decide)
   refine Or.inl ⟨want_of (congrArg some e21.1) rfl, ?_⟩
   refine rq_less (sx 36 (congrArg some e22.1) (sub_nil _)) (List.sublist_append_right _ _) ?_
   exact rq_v (rv_load rfl (by kernel_rfl) rfl (box_cell 0 rfl rfl))
  ·
   intro vf pf hR
   have e21 : (vf 21) = .bool false ∧ (pf 21) = [] := hR 21 (by decide)
   have e23 : (vf 23) = r.nv ∧ (pf 23) = [] := hR 23 (by decide)
   refine Or.inl ⟨want_of (congrArg some e21.1) rfl, ?_⟩
   refine rq_less (sx 37 (congrArg some e23.1) (sub_nil _)) (List.sublist_append_right _ _) ?_
   exact rq_v (rv_index (s := 1) rfl Try.underlying26 (by kernel_rfl) rfl rfl (rd_old hrn) (by omega) (by first | omega | (simp only [List.length_set]; omega)))
  ·
   intro vf pf hR
   have e21 : (vf 21) = .bool false ∧ (pf 21) = [] := hR 21 (by decide)
   have e24 : (vf 24) = elP r.nv ((0 : Int).toNat * 1) ∧ (pf 24) = [] := hR 24 (by decide)
   refine Or.inl ⟨want_of (congrArg some e21.1) rfl, ?_⟩
   refine rq_less (sx 38 (congrArg some e24.1) (sub_nil _)) (List.sublist_append_right _ _) ?_
   exact rq_v (rv_loadEl (u := .int .i64 (r.ns.getD 0 0)) rfl (by kernel_rfl) rfl (rd_old hrn) (ints_at1 (show _ < r.ns.length by first | omega | (simp only [List.length_set]; omega))))
  ·
   intro vf pf hR
   have e21 : (vf 21) = .bool false ∧ (pf 21) = [] := hR 21 (by decide)
   refine Or.inl ⟨want_of (congrArg some e21.1) rfl, ?_⟩
   refine rq_less (sx 1 rfl (sub_nil _)) (List.sublist_append_right _ _) ?_
   exact rq_v (rv_ev rfl)
  ·
   intro vf pf hR
   have e21 : (vf 21) = .bool false ∧ (pf 21) = [] := hR 21 (by decide)
   have e25 : (vf 25) = .int .i64 (r.ns.getD 0 0) ∧ (pf 25) = [] := hR 25 (by decide)
   have e26 : (vf 26) = .int .i64 s0 ∧ (pf 26) = [] := hR 26 (by decide)
   refine Or.inl ⟨want_of (congrArg some e21.1) rfl, ?_⟩
   refine rq_less (sx 39 (congrArg some e25.1) (sx 40 (congrArg some e26.1) (sub_nil _))) (List.sublist_append_right _ _) ?_
   exact rq_mono (rq_v (rv_cmp rfl rfl rfl rfl)) (fun _ _ h => ⟨h.1.trans (congrArg Value.bool hb6), h.2⟩)
  ·
   intro vf pf hR
   have e21 : (vf 21) = .bool false ∧ (pf 21) = [] := hR 21 (by decide)
   have e27 : (vf 27) = .bool false ∧ (pf 27) = [] := hR 27 (by decide)
   refine Or.inl ⟨rfl, ?_⟩
   refine rq_less (sx 35 (congrArg some e21.1) (sx 41 (congrArg some e27.1) (sub_nil _))) (List.sublist_append_right _ _) ?_
   exact rq_v (rv_ev rfl)
  ·
   intro vf pf hR
   have e28 : (vf 28) = .bool false ∧ (pf 28) = [] := hR 28 (by decide)
   refine Or.inl ⟨rfl, ?_⟩
   refine rq_less (sx 42 (congrArg some e28.1) (sub_nil _)) (List.sublist_append_right _ _) ?_
   exact rq_v (rv_ev rfl)
  ·
   intro vf pf hR
   have e29 : (vf 29) = .bool false ∧ (pf 29) = [] := hR 29 (by decide)
   refine Or.inl ⟨want_of (congrArg some e29.1) rfl, ?_⟩
   refine rq_less (sx 4 rfl (sub_nil _)) (List.sublist_append_right _ _) ?_
   exact rq_v (rv_loadN (cs := [.int .i64 d.W, .int .i64 d.H, .int .i64 d.T, .int .i64 d.R]) rfl (by kernel_rfl) (by kernel_rfl) rfl rfl (box_part 1 rfl 0 rfl))
  ·
   intro vf pf hR
   have e29 : (vf 29) = .bool false ∧ (pf 29) = [] := hR 29 (by decide)
   refine Or.inl ⟨want_of (congrArg some e29.1) rfl, ?_⟩
   refine rq_less (sx 1 rfl (sub_nil _)) (List.sublist_append_right _ _) ?_
   exact rq_v (rv_ev rfl)
  ·
   intro vf pf hR
   have e29 : (vf 29) = .bool false ∧ (pf 29) = [] := hR 29 (by decide)
   have e30 : (vf 30) = .agg #[.int .i64 d.W, .int .i64 d.H, .int .i64 d.T, .int .i64 d.R] ∧ (pf 30) = [] := hR 30 (by decide)
   have e31 : (vf 31) = .int .i64 s0 ∧ (pf 31) = [] := hR 31 (by decide)
   refine Or.inl ⟨want_of (congrArg some e29.1) rfl, ?_⟩
   refine rq_less (sx 44 (congrArg some e30.1) (sx 45 (congrArg some e31.1) (sub_nil _))) (List.sublist_append_right _ _) ?_
   exact (rq_call (by kernel_rfl) rfl (fun w hm => ret_ans (isOutPin_yes d s0 w hd hrt.ok hrt.out)))
  ·
   intro vf pf hR
   have e29 : (vf 29) = .bool false ∧ (pf 29) = [] := hR 29 (by decide)
   have e32 : (vf 32) = .bool true ∧ (pf 32) = [] := hR 32 (by decide)
   refine Or.inl ⟨want_of (congrArg some e29.1) rfl, ?_⟩
   refine rq_less (sx 46 (congrArg some e32.1) (sub_nil _)) (List.sublist_append_right _ _) ?_
   exact rq_v (rv_ev rfl)
  ·
   intro vf pf hR
   have e29 : (vf 29) = .bool false ∧ (pf 29) = [] := hR 29 (by decide)
   have e33 : (vf 33) = .bool false ∧ (pf 33) = [] := hR 33 (by decide)
   refine Or.inl ⟨rfl, ?_⟩
   refine rq_less (sx 43 (congrArg some e29.1) (sx 47 (congrArg some e33.1) (sub_nil _))) (List.sublist_append_right _ _) ?_
   exact rq_v (rv_ev rfl)
  ·
   intro vf pf hR
   have e34 : (vf 34) = .bool false ∧ (pf 34) = [] := hR 34 (by decide)
   refine Or.inl ⟨rfl, ?_⟩
   refine rq_less (sx 48 (congrArg some e34.1) (sub_nil _)) (List.sublist_append_right _ _) ?_
   exact rq_v (rv_ev rfl)
  ·
   intro vf pf hR
   have e35 : (vf 35) = .bool false ∧ (pf 35) = [] := hR 35 (by decide)
   refine Or.inl ⟨want_of (congrArg some e35.1) rfl, ?_⟩
   refine rq_less (sx 7 rfl (sub_nil _)) (List.sublist_append_right _ _) ?_
   exact rq_v (rv_field (k0 := 1) rfl (by kernel_rfl) rfl)
  ·
   intro vf pf hR
   have e35 : (vf 35) = .bool false ∧ (pf 35) = [] := hR 35 (by decide)
   have e36 : (vf 36) = .pointer (some ⟨b2, 0 + 1, none⟩) ∧ (pf 36) = [] := hR 36 (by decide)
   refine Or.inl ⟨want_of (congrArg some e35.1) rfl, ?_⟩
   refine rq_less (sx 50 (congrArg some e36.1) (sub_nil _)) (List.sublist_append_right _ _) ?_
   exact rq_v (rv_load rfl (by kernel_rfl) rfl (box_cell 0 rfl rfl))
  ·
   intro vf pf hR
   have e35 : (vf 35) = .bool false ∧ (pf 35) = [] := hR 35 (by decide)
   have e37 : (vf 37) = r.fv ∧ (pf 37) = [] := hR 37 (by decide)
   refine Or.inl ⟨want_of (congrArg some e35.1) rfl, ?_⟩
   refine rq_less (sx 51 (congrArg some e37.1) (sub_nil _)) (List.sublist_append_right _ _) ?_
   exact rq_v (rv_index (s := 1) rfl Try.underlying26 (by kernel_rfl) rfl rfl (rd_old hrf) (by omega) (by first | omega | (simp only [List.length_set]; omega)))
  ·
   intro vf pf hR
   have e35 : (vf 35) = .bool false ∧ (pf 35) = [] := hR 35 (by decide)
   have e38 : (vf 38) = elP r.fv ((0 : Int).toNat * 1) ∧ (pf 38) = [] := hR 38 (by decide)
   refine Or.inl ⟨want_of (congrArg some e35.1) rfl, ?_⟩
   refine rq_less (sx 52 (congrArg some e38.1) (sub_nil _)) (List.sublist_append_right _ _) ?_
   exact rq_v (rv_loadEl (u := .int .i64 (r.fs.getD 0 0)) rfl (by kernel_rfl) rfl (rd_old hrf) (ints_at1 (show _ < r.fs.length by first | omega | (simp only [List.length_set]; omega))))
  ·
   intro vf pf hR
   have e35 : (vf 35) = .bool false ∧ (pf 35) = [] := hR 35 (by decide)
   have e39 : (vf 39) = .int .i64 (r.fs.getD 0 0) ∧ (pf 39) = [] := hR 39 (by decide)
   refine Or.inl ⟨want_of (congrArg some e35.1) rfl, ?_⟩
   refine rq_less (sx 53 (congrArg some e39.1) (sub_nil _)) (List.sublist_append_right _ _) ?_
   exact rq_mono (rq_v (rv_cmp rfl rfl rfl rfl)) (fun _ _ h => ⟨h.1.trans (congrArg Value.bool hb7), h.2⟩)
  ·
   intro vf pf hR
   have e35 : (vf 35) = .bool false ∧ (pf 35) = [] := hR 35 (by decide)
   have e40 : (vf 40) = .bool false ∧ (pf 40) = [] := hR 40 (by decide)
   refine Or.inl ⟨rfl, ?_⟩
   refine rq_less (sx 49 (congrArg some e35.1) (sx 54 (congrArg some e40.1) (sub_nil _))) (List.sublist_append_right _ _) ?_
   exact rq_v (rv_ev rfl)
 ·
  intro vf pf hR
  have e41 : (vf 41) = .bool false ∧ (pf 41) = [] := hR 41 (by decide)
  refine hl_less (l' := [boxE b2 #[r.nv, r.fv] 28, boxE b1 #[.int .i64 d.W, .int .i64 d.H, .int .i64 d.T, .int .i64 d.R] 25]) (sx 0 rfl (sx 1 rfl (sx 2 rfl (sx 3 rfl (sx 4 rfl (sx 7 rfl (sx 8 rfl (sx 55 (congrArg some e41.1) (sub_nil _))))))))) (List.sublist_append_right _ _) ?_
  simp only [List.drop_succ_cons, List.drop_zero]
  refine hl_less (sx 0 rfl (sx 1 rfl (sx 2 rfl (sx 3 rfl (sx 4 rfl (sx 7 rfl (sx 8 rfl (sx 55 rfl (sub_nil _))))))))) (.refl _) ?_
  refine hl_nil ?_
  refine hq_then ?_
  refine hc_false rfl ?_
  refine hc_skip ?_
  refine hq_then ?_
  refine hc_seq ?_
  refine hc_region ?_
  refine hl_q rfl rfl rfl (rq_makeSet rfl) ?_
  intro v8 p9 hR10
  obtain ⟨mhR10, rfl, rfl⟩ := hR10
  refine hl_v rfl rfl rfl (rv_ev rfl) ?_
  refine hl_less (sx 0 rfl (sx 1 rfl (sx 2 rfl (sx 3 rfl (sx 4 rfl (sx 7 rfl (sx 8 rfl (sx 9 rfl (sx 55 rfl (sub_nil _)))))))))) (.refl _) ?_
  refine hl_nil ?_
  refine hq_then ?_
  refine hc_seq ?_
  refine hc_seq ?_
  refine hc_region ?_
  refine hl_v rfl rfl rfl (rv_field (k0 := 0) rfl (by kernel_rfl) rfl) ?_
  refine hl_v rfl rfl rfl (rv_load rfl (by kernel_rfl) rfl (box_cell 1 rfl rfl)) ?_
  refine hl_v rfl rfl rfl (rv_len rfl Try.underlying26 rfl (rd_old hrn)) ?_
  refine hl_v rfl rfl rfl (rv_ev rfl) ?_
  refine hl_less (sx 0 rfl (sx 1 rfl (sx 2 rfl (sx 3 rfl (sx 4 rfl (sx 7 rfl (sx 8 rfl (sx 9 rfl (sx 55 rfl (sx 58 rfl (sx 59 rfl (sx 60 rfl (sub_nil _))))))))))))) (.refl _) ?_
  refine hl_nil ?_
  refine hq_then ?_
  refine hc_block ?_
  refine hc_loop2 (α := Nat) (β := List Int) (fun k sn => [setE mhR10 sn, boxE b2 #[r.nv, r.fv] 28, boxE b1 #[.int .i64 d.W, .int .i64 d.H, .int .i64 d.T, .int .i64 d.R] 25]) (fun k sn => [(0, .agg #[.int .i64 d.W, .int .i64 d.H, .int .i64 d.T, .int .i64 d.R]), (1, .int .i64 s0), (2, qv), (3, .agg #[r.nv, r.fv]), (4, .pointer (some ⟨b1, 0, none⟩)), (7, .pointer (some ⟨b2, 0, none⟩)), (8, .bool false), (9, .map (some mhR10)), (55, .bool false), (58, r.nv), (59, .int .i64 (r.ns.length : Int)), (60, .int .i64 (k : Int))]) (fun k sn => k ≤ r.ns.length ∧ sn = (r.ns.take k).reverse ∧ ∀ i, i < k → r.ns.getD i 0 % perI d < 5 → hasB qs (r.ns.getD i 0) = true) (fun k sn => r.ns.length - k) 0 [] ⟨by omega, rfl, fun i hi => absurd hi (by omega)⟩ (sx 0 rfl (sx 1 rfl (sx 2 rfl (sx 3 rfl (sx 4 rfl (sx 7 rfl (sx 8 rfl (sx 9 rfl (sx 55 rfl (sx 58 rfl (sx 59 rfl (sx 60 rfl (sub_nil _))))))))))))) ((.cons_cons _ (.cons_cons _ (.cons_cons _ .slnil)))) ?_
  intro k sn hi11
  obtain ⟨hk, hsn, hin⟩ := hi11
  refine hc_seq ?_
  refine hc_region ?_
  refine hl_lss rfl rfl rfl rfl rfl rfl (fun h12 => ?_) (fun h12 => ?_)
  ·
   refine hl_less (sx 0 rfl (sx 1 rfl (sx 2 rfl (sx 3 rfl (sx 4 rfl (sx 7 rfl (sx 8 rfl (sx 9 rfl (sx 55 rfl (sx 58 rfl (sx 59 rfl (sx 60 rfl (sx 61 rfl (sub_nil _)))))))))))))) (.refl _) ?_
   refine hl_nil ?_
   refine hq_then ?_
   refine hc_seq ?_
   refine hc_true rfl ?_
   refine hc_skip ?_
   refine hq_then ?_
   refine hc_seq ?_
   refine hc_block ?_
   refine hc_seq ?_
   refine hc_region ?_
   refine hl_v rfl rfl rfl (rv_ev rfl) ?_
   refine hl_v rfl rfl rfl (rv_index (s := 1) rfl Try.underlying26 (by kernel_rfl) rfl rfl (rd_old hrn) (by omega) (by first | omega | (simp only [List.length_set]; omega))) ?_
   refine hl_v rfl rfl rfl (rv_loadEl (u := .int .i64 (r.ns.getD k 0)) rfl (by kernel_rfl) rfl (rd_old hrn) (ints_at1 (show _ < r.ns.length by first | omega | (simp only [List.length_set]; omega)))) ?_
   refine hl_v rfl rfl rfl (rv_ev rfl) ?_
   refine hl_v rfl rfl rfl (rv_ev rfl) ?_
   refine hl_less (sx 0 rfl (sx 1 rfl (sx 2 rfl (sx 3 rfl (sx 4 rfl (sx 7 rfl (sx 8 rfl (sx 9 rfl (sx 10 rfl (sx 11 rfl (sx 55 rfl (sx 58 rfl (sx 59 rfl (sx 60 rfl (sx 61 rfl (sub_nil _)))))))))))))))) (.refl _) ?_
   refine hl_nil ?_
   refine hq_then ?_
   refine hc_seq ?_
   refine hc_seq ?_
   refine hc_region ?_
   have hno := hrt.node (k := k) (by omega)
   have hxr := hns.rng (r.ns.getD k 0) (getD_inX (by omega))
   have hnc : List.contains sn (r.ns.getD k 0) = false := by rw [hsn]; exact seen_no hns (by omega)
   have hsl : sn.length = k := by rw [hsn, List.length_reverse, List.length_take]; omega
   have hstp : 0 < k → 0 ≤ r.fs.getD k 0 ∧ r.fs.getD k 0 < k ∧ hasB (srcI d (r.ns.getD k 0)) (r.ns.getD (r.fs.getD k 0).toNat 0) = true := fun h => hrt.tr.step k h (by omega)
   have hs16 := src_len16 d (r.ns.getD k 0)
   refine hl_v rfl rfl rfl (rv_loadN (cs := [.int .i64 d.W, .int .i64 d.H, .int .i64 d.T, .int .i64 d.R]) rfl (by kernel_rfl) (by kernel_rfl) rfl rfl (box_part 2 rfl 0 rfl)) ?_
   refine hl_v rfl rfl rfl (rv_ev rfl) ?_
   refine hl_callV rfl rfl rfl (rq_call (by kernel_rfl) rfl (fun w hm => ret_ans (implRouteNodeOk_any d _ w))) ?_
   refine hl_bool (fun h13 => ?_) (fun h13 => absurd ((hno).symm.trans h13) (by decide))
   refine hl_v rfl rfl rfl (rv_ev rfl) ?_
   refine hl_v rfl rfl rfl (rv_ev rfl) ?_
   refine hl_v rfl rfl rfl (rv_ev rfl) ?_
   refine hl_v rfl rfl rfl (rv_ev rfl) ?_
   refine hl_v rfl rfl rfl (rv_inSet (i := 0) (S := sn) (k := r.ns.getD k 0) rfl Try.underlying66 rfl rfl (wf_small (by omega)) rfl) ?_
   refine hl_bool (fun h14 => absurd ((hnc).symm.trans h14) (by decide)) (fun h14 => ?_)
   refine hl_v rfl rfl rfl (rv_ev rfl) ?_
   refine hl_less (sx 0 rfl (sx 1 rfl (sx 2 rfl (sx 3 rfl (sx 4 rfl (sx 7 rfl (sx 8 rfl (sx 9 rfl (sx 10 rfl (sx 11 rfl (sx 55 rfl (sx 58 rfl (sx 59 rfl (sx 60 rfl (sx 61 rfl (sx 73 rfl (sub_nil _))))))))))))))))) (.refl _) ?_
   refine hl_nil ?_
   refine hq_then ?_
   refine hc_false rfl ?_
   refine hc_skip ?_
   refine hq_then ?_
   refine hc_seq ?_
   refine hc_region ?_
   refine hl_v rfl rfl rfl (rv_ev rfl) ?_
   refine hl_v rfl rfl rfl (rv_ev rfl) ?_
   refine hl_intoSet (i := 0) (k := r.ns.getD k 0) (l' := [setE mhR10 ((r.ns.getD k 0) :: sn), boxE b2 #[r.nv, r.fv] 28, boxE b1 #[.int .i64 d.W, .int .i64 d.H, .int .i64 d.T, .int .i64 d.R] 25]) rfl rfl rfl Try.underlying66 rfl rfl rfl (wf_small (by omega)) rfl (by first | omega | (simp; omega)) rfl ?_
   refine hl_less (sx 0 rfl (sx 1 rfl (sx 2 rfl (sx 3 rfl (sx 4 rfl (sx 7 rfl (sx 8 rfl (sx 9 rfl (sx 10 rfl (sx 11 rfl (sx 55 rfl (sx 58 rfl (sx 59 rfl (sx 60 rfl (sx 61 rfl (sx 73 rfl (sub_nil _))))))))))))))))) (.refl _) ?_
   refine hl_nil ?_
   refine hq_then ?_
   refine hc_seq ?_
   refine hc_seq ?_
   have hst2 : 0 < k → 0 ≤ r.fs.getD k 0 ∧ r.fs.getD k 0 < k := fun h => ⟨(hstp h).1, (hstp h).2.1⟩
   rcases Bool.eq_false_or_eq_true (decide (0 < (k : Int))) with hb15 | hb15
   ·
    have hb15p : 0 < (k : Int) := of_decide_eq_true hb15
    have hst2 : 0 < k → 0 ≤ r.fs.getD k 0 ∧ r.fs.getD k 0 < k := fun h => ⟨(hstp h).1, (hstp h).2.1⟩
    have hb16 : (inR (r.fs.getD k 0) 0 ((k : Int) - 1)) = true := (inr_in (by omega))
    have hb20 : (hasB (srcI d (r.ns.getD k 0)) (r.ns.getD ((r.fs.getD k 0).toNat) 0)) = true := (hstp (by omega)).2.2
    refine hc_draw (by kernel_rfl) 29 [0, 1, 2, 3, 4, 5, 6, 7, 8, 9, 10, 11, 12, 13, 14, 15, 16, 17, 18, 19, 20, 21, 22, 23, 24, 25, 26, 27, 28] (List.take 29 _) (List.drop 29 _) [[], [0], [1], [2], [2, 3], [2], [2, 4, 5], [2, 6], [2], [2, 8], [2, 7, 9], [2, 10], [2, 11], [12], [12], [12, 13, 14], [12], [12, 16], [12], [12, 18], [12], [12, 19, 20], [12, 21], [12, 17, 22], [12, 23], [12, 15, 24], [12, 25], [2, 12, 26], [2, 27]] [76, 77, 78, 79, 80, 81, 82, 83, 84, 85, 86, 87, 88, 89, 90, 91, 92, 93, 94, 95, 96, 97, 98, 99, 100, 101, 102, 103, 104] (fun i_ vs_ v_ p_ => match i_ with | 0 => v_ = .int .i64 (k : Int) ∧ p_ = [] | 1 => v_ = .bool true ∧ p_ = [] | 2 => v_ = .bool true ∧ p_ = [] | 3 => v_ = .pointer (some ⟨b2, 0 + 1, none⟩) ∧ p_ = [] | 4 => v_ = r.fv ∧ p_ = [] | 5 => v_ = .int .i64 (k : Int) ∧ p_ = [] | 6 => v_ = elP r.fv (((k : Int)).toNat * 1) ∧ p_ = [] | 7 => v_ = .int .i64 (r.fs.getD k 0) ∧ p_ = [] | 8 => v_ = .int .i64 (k : Int) ∧ p_ = [] | 9 => v_ = .int .i64 ((k : Int) - 1) ∧ p_ = [] | 10 => v_ = .bool true ∧ p_ = [] | 11 => v_ = .bool false ∧ p_ = [] | 12 => v_ = .bool false ∧ p_ = [] | 13 => v_ = .agg #[.int .i64 d.W, .int .i64 d.H, .int .i64 d.T, .int .i64 d.R] ∧ p_ = [] | 14 => v_ = .int .i64 (r.ns.getD k 0) ∧ p_ = [] | 15 => (fun v' post => post = [rowE 3 1 v' (srcI d (r.ns.getD k 0)).length ((srcI d (r.ns.getD k 0)).map (Value.int .i64))]) v_ p_ | 16 => v_ = .pointer (some ⟨b2, 0 + 0, none⟩) ∧ p_ = [] | 17 => v_ = r.nv ∧ p_ = [] | 18 => v_ = .pointer (some ⟨b2, 0 + 1, none⟩) ∧ p_ = [] | 19 => v_ = r.fv ∧ p_ = [] | 20 => v_ = .int .i64 (k : Int) ∧ p_ = [] | 21 => v_ = elP r.fv (((k : Int)).toNat * 1) ∧ p_ = [] | 22 => v_ = .int .i64 (r.fs.getD k 0) ∧ p_ = [] | 23 => v_ = elP r.nv ((r.fs.getD k 0).toNat * 1) ∧ p_ = [] | 24 => v_ = .int .i64 (r.ns.getD ((r.fs.getD k 0).toNat) 0) ∧ p_ = [] | 25 => v_ = .bool true ∧ p_ = [] | 26 => v_ = .bool false ∧ p_ = [] | 27 => v_ = .bool false ∧ p_ = [] | 28 => v_ = .bool false ∧ p_ = [] | _ => True) (List.take_append_drop 29 _).symm (by kernel_rfl) (by kernel_rfl) rfl rfl ?_ ?_
    ·
     refine ⟨?_, ?_, ?_, ?_, ?_, ?_, ?_, ?_, ?_, ?_, ?_, ?_, ?_, ?_, ?_, ?_, ?_, ?_, ?_, ?_, ?_, ?_, ?_, ?_, ?_, ?_, ?_, ?_, ?_, trivial⟩
     ·
      intro vf pf hR
      refine Or.inl ⟨rfl, ?_⟩
      refine rq_less (sx 10 rfl (sub_nil _)) (List.sublist_append_right _ _) ?_
      exact rq_v (rv_ev rfl)
     ·
      intro vf pf hR
      have e0 : (vf 0) = .int .i64 (k : Int) ∧ (pf 0) = [] := hR 0 (by decide)
      refine Or.inl ⟨rfl, ?_⟩
      refine rq_less (sx 76 (congrArg some e0.1) (sub_nil _)) (List.sublist_append_right _ _) ?_
      exact rq_mono (rq_v (rv_cmp rfl rfl rfl rfl)) (fun _ _ h => ⟨h.1.trans (congrArg Value.bool hb15), h.2⟩)
     ·
      intro vf pf hR
      have e1 : (vf 1) = .bool true ∧ (pf 1) = [] := hR 1 (by decide)
      refine Or.inl ⟨rfl, ?_⟩
      refine rq_less (sx 77 (congrArg some e1.1) (sub_nil _)) (List.sublist_append_right _ _) ?_
      exact rq_v (rv_ev rfl)
     ·
      intro vf pf hR
      have e2 : (vf 2) = .bool true ∧ (pf 2) = [] := hR 2 (by decide)
      refine Or.inl ⟨want_of (congrArg some e2.1) rfl, ?_⟩
      refine rq_less (sx 7 rfl (sub_nil _)) (List.sublist_append_right _ _) ?_
      exact rq_v (rv_field (k0 := 1) rfl (by kernel_rfl) rfl)
     ·
      intro vf pf hR
      have e2 : (vf 2) = .bool true ∧ (pf 2) = [] := hR 2 (by decide)
      have e3 : (vf 3) = .pointer (some ⟨b2, 0 + 1, none⟩) ∧ (pf 3) = [] := hR 3 (by decide)
      refine Or.inl ⟨want_of (congrArg some e2.1) rfl, ?_⟩
      refine rq_less (sx 79 (congrArg some e3.1) (sub_nil _)) (List.sublist_append_right _ _) ?_
      exact rq_v (rv_load rfl (by kernel_rfl) rfl (box_cell 1 rfl rfl))
     ·
      intro vf pf hR
      have e2 : (vf 2) = .bool true ∧ (pf 2) = [] := hR 2 (by decide)
      refine Or.inl ⟨want_of (congrArg some e2.1) rfl, ?_⟩
      refine rq_less (sx 10 rfl (sub_nil _)) (List.sublist_append_right _ _) ?_
      exact rq_v (rv_ev rfl)
     ·
      intro vf pf hR
      have e2 : (vf 2) = .bool true ∧ (pf 2) = [] := hR 2 (by decide)
      have e4 : (vf 4) = r.fv ∧ (pf 4) = [] := hR 4 (by decide)
      have e5 : (vf 5) = .int .i64 (k : Int) ∧ (pf 5) = [] := hR 5 (by decide)
      refine Or.inl ⟨want_of (congrArg some e2.1) rfl, ?_⟩
      refine rq_less (sx 80 (congrArg some e4.1) (sx 81 (congrArg some e5.1) (sub_nil _))) (List.sublist_append_right _ _) ?_
      exact rq_v (rv_index (s := 1) rfl Try.underlying26 (by kernel_rfl) rfl rfl (rd_old hrf) (by omega) (by first | omega | (simp only [List.length_set]; omega)))
     ·
      intro vf pf hR
      have e2 : (vf 2) = .bool true ∧ (pf 2) = [] := hR 2 (by decide)
      have e6 : (vf 6) = elP r.fv (((k : Int)).toNat * 1) ∧ (pf 6) = [] := hR 6 (by decide)
      refine Or.inl ⟨want_of (congrArg some e2.1) rfl, ?_⟩
      refine rq_less (sx 82 (congrArg some e6.1) (sub_nil _)) (List.sublist_append_right _ _) ?_
      exact rq_v (rv_loadEl (u := .int .i64 (r.fs.getD k 0)) rfl (by kernel_rfl) rfl (rd_old hrf) (ints_at1 (show _ < r.fs.length by first | omega | (simp only [List.length_set]; omega))))
     ·
      intro vf pf hR
      have e2 : (vf 2) = .bool true ∧ (pf 2) = [] := hR 2 (by decide)
      refine Or.inl ⟨want_of (congrArg some e2.1) rfl, ?_⟩
      refine rq_less (sx 10 rfl (sub_nil _)) (List.sublist_append_right _ _) ?_
      exact rq_v (rv_ev rfl)
     ·
      intro vf pf hR
      have e2 : (vf 2) = .bool true ∧ (pf 2) = [] := hR 2 (by decide)
      have e8 : (vf 8) = .int .i64 (k : Int) ∧ (pf 8) = [] := hR 8 (by decide)
      refine Or.inl ⟨want_of (congrArg some e2.1) rfl, ?_⟩
      refine rq_less (sx 84 (congrArg some e8.1) (sub_nil _)) (List.sublist_append_right _ _) ?_
      exact rq_v (rv_sub rfl rfl rfl (by constructor <;> omega))
     ·
      intro vf pf hR
      have e2 : (vf 2) = .bool true ∧ (pf 2) = [] := hR 2 (by decide)
      have e7 : (vf 7) = .int .i64 (r.fs.getD k 0) ∧ (pf 7) = [] := hR 7 (by decide)
      have e9 : (vf 9) = .int .i64 ((k : Int) - 1) ∧ (pf 9) = [] := hR 9 (by decide)
      refine Or.inl ⟨want_of (congrArg some e2.1) rfl, ?_⟩
      refine rq_less (sx 83 (congrArg some e7.1) (sx 85 (congrArg some e9.1) (sub_nil _))) (List.sublist_append_right _ _) ?_
      exact rq_mono (rq_call (by kernel_rfl) rfl (fun w hm => ret_ans (ans_of (inRange_any _ _ _ w)))) (fun _ _ h => ⟨h.1.trans (congrArg Value.bool hb16), h.2⟩)
     ·
      intro vf pf hR
      have e2 : (vf 2) = .bool true ∧ (pf 2) = [] := hR 2 (by decide)
      have e10 : (vf 10) = .bool true ∧ (pf 10) = [] := hR 10 (by decide)
      refine Or.inl ⟨want_of (congrArg some e2.1) rfl, ?_⟩
      refine rq_less (sx 86 (congrArg some e10.1) (sub_nil _)) (List.sublist_append_right _ _) ?_
      exact rq_v (rv_ev rfl)
     ·
      intro vf pf hR
      have e2 : (vf 2) = .bool true ∧ (pf 2) = [] := hR 2 (by decide)
      have e11 : (vf 11) = .bool false ∧ (pf 11) = [] := hR 11 (by decide)
      refine Or.inl ⟨want_of (congrArg some e2.1) rfl, ?_⟩
      refine rq_less (sx 87 (congrArg some e11.1) (sub_nil _)) (List.sublist_append_right _ _) ?_
      exact rq_v (rv_ev rfl)
     ·
      intro vf pf hR
      have e12 : (vf 12) = .bool false ∧ (pf 12) = [] := hR 12 (by decide)
      refine Or.inl ⟨want_of (congrArg some e12.1) rfl, ?_⟩
      refine rq_less (sx 4 rfl (sub_nil _)) (List.sublist_append_right _ _) ?_
      exact rq_v (rv_loadN (cs := [.int .i64 d.W, .int .i64 d.H, .int .i64 d.T, .int .i64 d.R]) rfl (by kernel_rfl) (by kernel_rfl) rfl rfl (box_part 2 rfl 0 rfl))
     ·
      intro vf pf hR
      have e12 : (vf 12) = .bool false ∧ (pf 12) = [] := hR 12 (by decide)
      refine Or.inl ⟨want_of (congrArg some e12.1) rfl, ?_⟩
      refine rq_less (sx 11 rfl (sub_nil _)) (List.sublist_append_right _ _) ?_
      exact rq_v (rv_ev rfl)
     ·
      intro vf pf hR
      have e12 : (vf 12) = .bool false ∧ (pf 12) = [] := hR 12 (by decide)
      have e13 : (vf 13) = .agg #[.int .i64 d.W, .int .i64 d.H, .int .i64 d.T, .int .i64 d.R] ∧ (pf 13) = [] := hR 13 (by decide)
      have e14 : (vf 14) = .int .i64 (r.ns.getD k 0) ∧ (pf 14) = [] := hR 14 (by decide)
      refine Or.inl ⟨want_of (congrArg some e12.1) rfl, ?_⟩
      refine rq_less (sx 89 (congrArg some e13.1) (sx 90 (congrArg some e14.1) (sub_nil _))) (List.sublist_append_right _ _) ?_
      exact rq_call (by kernel_rfl) rfl (fun w hm => implSources_ret d _ w)
     ·
      intro vf pf hR
      have e12 : (vf 12) = .bool false ∧ (pf 12) = [] := hR 12 (by decide)
      refine Or.inl ⟨want_of (congrArg some e12.1) rfl, ?_⟩
      refine rq_less (sx 7 rfl (sub_nil _)) (List.sublist_append_right _ _) ?_
      exact rq_v (rv_field (k0 := 0) rfl (by kernel_rfl) rfl)
     ·
      intro vf pf hR
      have e12 : (vf 12) = .bool false ∧ (pf 12) = [] := hR 12 (by decide)
      have e16 : (vf 16) = .pointer (some ⟨b2, 0 + 0, none⟩) ∧ (pf 16) = [] := hR 16 (by decide)
      refine Or.inl ⟨want_of (congrArg some e12.1) rfl, ?_⟩
      refine rq_less (sx 92 (congrArg some e16.1) (sub_nil _)) (List.sublist_append_right _ _) ?_
      exact rq_v (rv_load rfl (by kernel_rfl) rfl (box_cell 1 rfl rfl))
     ·
      intro vf pf hR
      have e12 : (vf 12) = .bool false ∧ (pf 12) = [] := hR 12 (by decide)
      refine Or.inl ⟨want_of (congrArg some e12.1) rfl, ?_⟩
      refine rq_less (sx 7 rfl (sub_nil _)) (List.sublist_append_right _ _) ?_
      exact rq_v (rv_field (k0 := 1) rfl (by kernel_rfl) rfl)
     ·
      intro vf pf hR
      have e12 : (vf 12) = .bool false ∧ (pf 12) = [] := hR 12 (by decide)
      have e18 : (vf 18) = .pointer (some ⟨b2, 0 + 1, none⟩) ∧ (pf 18) = [] := hR 18 (by decide)
      refine Or.inl ⟨want_of (congrArg some e12.1) rfl, ?_⟩
      refine rq_less (sx 94 (congrArg some e18.1) (sub_nil _)) (List.sublist_append_right _ _) ?_
      exact rq_v (rv_load rfl (by kernel_rfl) rfl (box_cell 1 rfl rfl))
     ·
      intro vf pf hR
      have e12 : (vf 12) = .bool false ∧ (pf 12) = [] := hR 12 (by decide)
      refine Or.inl ⟨want_of (congrArg some e12.1) rfl, ?_⟩
      refine rq_less (sx 10 rfl (sub_nil _)) (List.sublist_append_right _ _) ?_
      exact rq_v (rv_ev rfl)
     ·
      intro vf pf hR
      have e12 : (vf 12) = .bool false ∧ (pf 12) = [] := hR 12 (by decide)
      have e19 : (vf 19) = r.fv ∧ (pf 19) = [] := hR 19 (by decide)
      have e20 : (vf 20) = .int .i64 (k : Int) ∧ (pf 20) = [] := hR 20 (by decide)
      refine Or.inl ⟨want_of (congrArg some e12.1) rfl, ?_⟩
      refine rq_less (sx 95 (congrArg some e19.1) (sx 96 (congrArg some e20.1) (sub_nil _))) (List.sublist_append_right _ _) ?_
      exact rq_v (rv_index (s := 1) rfl Try.underlying26 (by kernel_rfl) rfl rfl (rd_old hrf) (by omega) (by first | omega | (simp only [List.length_set]; omega)))
     ·
      intro vf pf hR
      have e12 : (vf 12) = .bool false ∧ (pf 12) = [] := hR 12 (by decide)
      have e21 : (vf 21) = elP r.fv (((k : Int)).toNat * 1) ∧ (pf 21) = [] := hR 21 (by decide)
      refine Or.inl ⟨want_of (congrArg some e12.1) rfl, ?_⟩
      refine rq_less (sx 97 (congrArg some e21.1) (sub_nil _)) (List.sublist_append_right _ _) ?_
      exact rq_v (rv_loadEl (u := .int .i64 (r.fs.getD k 0)) rfl (by kernel_rfl) rfl (rd_old hrf) (ints_at1 (show _ < r.fs.length by first | omega | (simp only [List.length_set]; omega))))
     ·
      intro vf pf hR
      have e12 : (vf 12) = .bool false ∧ (pf 12) = [] := hR 12 (by decide)
      have e17 : (vf 17) = r.nv ∧ (pf 17) = [] := hR 17 (by decide)
      have e22 : (vf 22) = .int .i64 (r.fs.getD k 0) ∧ (pf 22) = [] := hR 22 (by decide)
      refine Or.inl ⟨want_of (congrArg some e12.1) rfl, ?_⟩
      refine rq_less (sx 93 (congrArg some e17.1) (sx 98 (congrArg some e22.1) (sub_nil _))) (List.sublist_append_right _ _) ?_
      exact rq_v (rv_index (s := 1) rfl Try.underlying26 (by kernel_rfl) rfl rfl (rd_old hrn) (by omega) (by first | omega | (simp only [List.length_set]; omega)))
     ·
      intro vf pf hR
      have e12 : (vf 12) = .bool false ∧ (pf 12) = [] := hR 12 (by decide)
      have e23 : (vf 23) = elP r.nv ((r.fs.getD k 0).toNat * 1) ∧ (pf 23) = [] := hR 23 (by decide)
      refine Or.inl ⟨want_of (congrArg some e12.1) rfl, ?_⟩
      refine rq_less (sx 99 (congrArg some e23.1) (sub_nil _)) (List.sublist_append_right _ _) ?_
      exact rq_v (rv_loadEl (u := .int .i64 (r.ns.getD ((r.fs.getD k 0).toNat) 0)) rfl (by kernel_rfl) rfl (rd_old hrn) (ints_at1 (show _ < r.ns.length by first | omega | (simp only [List.length_set]; omega))))
     ·
      intro vf pf hR
      have e12 : (vf 12) = .bool false ∧ (pf 12) = [] := hR 12 (by decide)
      have e15 : (fun v' post => post = [rowE 3 1 v' (srcI d (r.ns.getD k 0)).length ((srcI d (r.ns.getD k 0)).map (Value.int .i64))]) (vf 15) (pf 15) := hR 15 (by decide)
      obtain ⟨v17, v15⟩ : ∃ x, vf 15 = x := ⟨_, rfl⟩
      obtain ⟨p18, p15⟩ : ∃ x, pf 15 = x := ⟨_, rfl⟩
      have hR19 := e15
      rw [v15, p15] at hR19
      subst hR19
      have e24 : (vf 24) = .int .i64 (r.ns.getD ((r.fs.getD k 0).toNat) 0) ∧ (pf 24) = [] := hR 24 (by decide)
      refine Or.inl ⟨want_of (congrArg some e12.1) rfl, ?_⟩
      refine rq_less (l' := [rowE 3 1 v17 ((srcI d (r.ns.getD k 0)).length) ((srcI d (r.ns.getD k 0)).map (Value.int .i64)), setE mhR10 ((r.ns.getD k 0) :: sn), boxE b2 #[r.nv, r.fv] 28, boxE b1 #[.int .i64 d.W, .int .i64 d.H, .int .i64 d.T, .int .i64 d.R] 25]) (sx 91 (congrArg some v15) (sx 100 (congrArg some e24.1) (sub_nil _))) (by first | (simp only [p15, v15, e12.2, e24.2, List.flatMap_cons, List.flatMap_nil, List.append_nil, List.nil_append, List.cons_append]; exact List.Sublist.refl _) | simp [p15, v15, e12.2, e24.2]) ?_
      exact rq_mono (rq_call (by kernel_rfl) rfl (fun w hm => ret_ans (hasInt_ans (srcI d (r.ns.getD k 0)) (r.ns.getD ((r.fs.getD k 0).toNat) 0) _ w ((rd_row 0 rfl) w hm) (by omega)))) (fun _ _ h => ⟨h.1.trans (congrArg Value.bool hb20), h.2⟩)
     ·
      intro vf pf hR
      have e12 : (vf 12) = .bool false ∧ (pf 12) = [] := hR 12 (by decide)
      have e25 : (vf 25) = .bool true ∧ (pf 25) = [] := hR 25 (by decide)
      refine Or.inl ⟨want_of (congrArg some e12.1) rfl, ?_⟩
      refine rq_less (sx 101 (congrArg some e25.1) (sub_nil _)) (List.sublist_append_right _ _) ?_
      exact rq_v (rv_ev rfl)
     ·
      intro vf pf hR
      have e2 : (vf 2) = .bool true ∧ (pf 2) = [] := hR 2 (by decide)
      have e12 : (vf 12) = .bool false ∧ (pf 12) = [] := hR 12 (by decide)
      have e26 : (vf 26) = .bool false ∧ (pf 26) = [] := hR 26 (by decide)
      refine Or.inl ⟨want_of (congrArg some e2.1) rfl, ?_⟩
      refine rq_less (sx 88 (congrArg some e12.1) (sx 102 (congrArg some e26.1) (sub_nil _))) (List.sublist_append_right _ _) ?_
      exact rq_v (rv_ev rfl)
     ·
      intro vf pf hR
      have e2 : (vf 2) = .bool true ∧ (pf 2) = [] := hR 2 (by decide)
      have e27 : (vf 27) = .bool false ∧ (pf 27) = [] := hR 27 (by decide)
      refine Or.inl ⟨rfl, ?_⟩
      refine rq_less (sx 78 (congrArg some e2.1) (sx 103 (congrArg some e27.1) (sub_nil _))) (List.sublist_append_right _ _) ?_
      exact rq_v (rv_ev rfl)
    ·
     intro vf pf hR
     have e15 : (fun v' post => post = [rowE 3 1 v' (srcI d (r.ns.getD k 0)).length ((srcI d (r.ns.getD k 0)).map (Value.int .i64))]) (vf 15) (pf 15) := hR 15 (by decide)
     obtain ⟨v17, v15⟩ : ∃ x, vf 15 = x := ⟨_, rfl⟩
     obtain ⟨p18, p15⟩ : ∃ x, pf 15 = x := ⟨_, rfl⟩
     have hR19 := e15
     rw [v15, p15] at hR19
     subst hR19
     have e28 : (vf 28) = .bool false ∧ (pf 28) = [] := hR 28 (by decide)
     have q0 : (vf 0) = .int .i64 (k : Int) ∧ (pf 0) = [] := hR 0 (by decide)
     have q1 : (vf 1) = .bool true ∧ (pf 1) = [] := hR 1 (by decide)
     have q2 : (vf 2) = .bool true ∧ (pf 2) = [] := hR 2 (by decide)
     have q3 : (vf 3) = .pointer (some ⟨b2, 0 + 1, none⟩) ∧ (pf 3) = [] := hR 3 (by decide)
     have q4 : (vf 4) = r.fv ∧ (pf 4) = [] := hR 4 (by decide)
     have q5 : (vf 5) = .int .i64 (k : Int) ∧ (pf 5) = [] := hR 5 (by decide)
     have q6 : (vf 6) = elP r.fv (((k : Int)).toNat * 1) ∧ (pf 6) = [] := hR 6 (by decide)
     have q7 : (vf 7) = .int .i64 (r.fs.getD k 0) ∧ (pf 7) = [] := hR 7 (by decide)
     have q8 : (vf 8) = .int .i64 (k : Int) ∧ (pf 8) = [] := hR 8 (by decide)
     have q9 : (vf 9) = .int .i64 ((k : Int) - 1) ∧ (pf 9) = [] := hR 9 (by decide)
     have q10 : (vf 10) = .bool true ∧ (pf 10) = [] := hR 10 (by decide)
     have q11 : (vf 11) = .bool false ∧ (pf 11) = [] := hR 11 (by decide)
     have q12 : (vf 12) = .bool false ∧ (pf 12) = [] := hR 12 (by decide)
     have q13 : (vf 13) = .agg #[.int .i64 d.W, .int .i64 d.H, .int .i64 d.T, .int .i64 d.R] ∧ (pf 13) = [] := hR 13 (by decide)
     have q14 : (vf 14) = .int .i64 (r.ns.getD k 0) ∧ (pf 14) = [] := hR 14 (by decide)
     have q16 : (vf 16) = .pointer (some ⟨b2, 0 + 0, none⟩) ∧ (pf 16) = [] := hR 16 (by decide)
     have q17 : (vf 17) = r.nv ∧ (pf 17) = [] := hR 17 (by decide)
     have q18 : (vf 18) = .pointer (some ⟨b2, 0 + 1, none⟩) ∧ (pf 18) = [] := hR 18 (by decide)
     have q19 : (vf 19) = r.fv ∧ (pf 19) = [] := hR 19 (by decide)
     have q20 : (vf 20) = .int .i64 (k : Int) ∧ (pf 20) = [] := hR 20 (by decide)
     have q21 : (vf 21) = elP r.fv (((k : Int)).toNat * 1) ∧ (pf 21) = [] := hR 21 (by decide)
     have q22 : (vf 22) = .int .i64 (r.fs.getD k 0) ∧ (pf 22) = [] := hR 22 (by decide)
     have q23 : (vf 23) = elP r.nv ((r.fs.getD k 0).toNat * 1) ∧ (pf 23) = [] := hR 23 (by decide)
     have q24 : (vf 24) = .int .i64 (r.ns.getD ((r.fs.getD k 0).toNat) 0) ∧ (pf 24) = [] := hR 24 (by decide)
     have q25 : (vf 25) = .bool true ∧ (pf 25) = [] := hR 25 (by decide)
     have q26 : (vf 26) = .bool false ∧ (pf 26) = [] := hR 26 (by decide)
     have q27 : (vf 27) = .bool false ∧ (pf 27) = [] := hR 27 (by decide)
     have q28 : (vf 28) = .bool false ∧ (pf 28) = [] := hR 28 (by decide)
     refine hl_less (l' := [rowE 3 1 v17 ((srcI d (r.ns.getD k 0)).length) ((srcI d (r.ns.getD k 0)).map (Value.int .i64)), setE mhR10 ((r.ns.getD k 0) :: sn), boxE b2 #[r.nv, r.fv] 28, boxE b1 #[.int .i64 d.W, .int .i64 d.H, .int .i64 d.T, .int .i64 d.R] 25]) (sx 0 rfl (sx 1 rfl (sx 2 rfl (sx 3 rfl (sx 4 rfl (sx 7 rfl (sx 8 rfl (sx 9 rfl (sx 10 rfl (sx 11 rfl (sx 55 rfl (sx 58 rfl (sx 59 rfl (sx 60 rfl (sx 61 rfl (sx 73 rfl (sx 104 (congrArg some e28.1) (sub_nil _)))))))))))))))))) (by first | (simp only [p15, v15, q0.2, q1.2, q2.2, q3.2, q4.2, q5.2, q6.2, q7.2, q8.2, q9.2, q10.2, q11.2, q12.2, q13.2, q14.2, q16.2, q17.2, q18.2, q19.2, q20.2, q21.2, q22.2, q23.2, q24.2, q25.2, q26.2, q27.2, q28.2, List.flatMap_cons, List.flatMap_nil, List.append_nil, List.nil_append, List.cons_append]; exact List.Sublist.refl _) | simp [p15, v15, q0.2, q1.2, q2.2, q3.2, q4.2, q5.2, q6.2, q7.2, q8.2, q9.2, q10.2, q11.2, q12.2, q13.2, q14.2, q16.2, q17.2, q18.2, q19.2, q20.2, q21.2, q22.2, q23.2, q24.2, q25.2, q26.2, q27.2, q28.2]) ?_
     simp only [List.drop_succ_cons, List.drop_zero]
     refine hl_less (sx 0 rfl (sx 1 rfl (sx 2 rfl (sx 3 rfl (sx 4 rfl (sx 7 rfl (sx 8 rfl (sx 9 rfl (sx 10 rfl (sx 11 rfl (sx 55 rfl (sx 58 rfl (sx 59 rfl (sx 60 rfl (sx 61 rfl (sx 73 rfl (sx 104 rfl (sub_nil _)))))))))))))))))) (.refl _) ?_
     refine hl_nil ?_
     refine hq_then ?_
     refine hc_false rfl ?_
     refine hc_skip ?_
     refine hq_then ?_
     refine hc_seq ?_
     refine hc_region ?_
     refine hl_v rfl rfl rfl (rv_loadN (cs := [.int .i64 d.W, .int .i64 d.H, .int .i64 d.T, .int .i64 d.R]) rfl (by kernel_rfl) (by kernel_rfl) rfl rfl (box_part 3 rfl 0 rfl)) ?_
     refine hl_v rfl rfl rfl (rv_ev rfl) ?_
     refine hl_callV rfl rfl rfl (rq_call (by kernel_rfl) rfl (fun w hm => ret_ans (isInPin_yes d (r.ns.getD k 0) w hd hno))) ?_
     refine hl_bool (fun h21 => ?_) (fun h21 => ?_)
     ·
      refine hl_v rfl rfl rfl (rv_ev rfl) ?_
      refine hl_v rfl rfl rfl (rv_ev rfl) ?_
      refine hl_v rfl rfl rfl (rv_ev rfl) ?_
      refine hl_callV rfl rfl rfl (rq_call (by kernel_rfl) rfl (fun w hm => ret_ans (hasInt_ans qs (r.ns.getD k 0) _ w ((rd_old hq) w hm) (by omega)))) ?_
      refine hl_bool (fun h22 => ?_) (fun h22 => ?_)
      ·
       refine hl_v rfl rfl rfl (rv_ev rfl) ?_
       refine hl_v rfl rfl rfl (rv_ev rfl) ?_
       refine hl_less (sx 0 rfl (sx 1 rfl (sx 2 rfl (sx 3 rfl (sx 4 rfl (sx 7 rfl (sx 8 rfl (sx 9 rfl (sx 10 rfl (sx 11 rfl (sx 55 rfl (sx 58 rfl (sx 59 rfl (sx 60 rfl (sx 61 rfl (sx 73 rfl (sx 104 rfl (sx 113 rfl (sub_nil _))))))))))))))))))) (.refl _) ?_
       refine hl_nil ?_
       refine hq_then ?_
       refine hc_false rfl ?_
       refine hc_skip ?_
       refine hq_block_normal ?_
       refine hq_then ?_
       refine hc_region ?_
       refine hl_v rfl rfl rfl (rv_add rfl rfl rfl (by constructor <;> omega)) ?_
       refine hl_v rfl rfl rfl (rv_ev rfl) ?_
       refine hl_less (sx 0 rfl (sx 1 rfl (sx 2 rfl (sx 3 rfl (sx 4 rfl (sx 7 rfl (sx 8 rfl (sx 9 rfl (sx 10 rfl (sx 11 rfl (sx 55 rfl (sx 58 rfl (sx 59 rfl (sx 60 rfl (sx 61 rfl (sx 73 rfl (sx 104 rfl (sx 113 rfl (sub_nil _))))))))))))))))))) (.refl _) ?_
       refine hl_nil ?_
       exact hq_round2 (k + 1) ((r.ns.getD k 0) :: sn) ⟨by omega, by rw [hsn]; exact seen_rev _ (by omega), fun i hi hpc => by by_cases hik : i = k; (rw [hik] at hpc ⊢; assumption); exact hin i (by omega) hpc⟩ (by omega) (sx 0 rfl (sx 1 rfl (sx 2 rfl (sx 3 rfl (sx 4 rfl (sx 7 rfl (sx 8 rfl (sx 9 rfl (sx 55 rfl (sx 58 rfl (sx 59 rfl (sx 60 rfl (sub_nil _))))))))))))) ((.cons _ (.cons_cons _ (.cons_cons _ (.cons_cons _ .slnil)))))
      ·
       refine hl_v rfl rfl rfl (rv_ev rfl) ?_
       refine hl_v rfl rfl rfl (rv_ev rfl) ?_
       refine hl_less (sx 0 rfl (sx 1 rfl (sx 2 rfl (sx 3 rfl (sx 4 rfl (sx 7 rfl (sx 8 rfl (sx 9 rfl (sx 10 rfl (sx 11 rfl (sx 55 rfl (sx 58 rfl (sx 59 rfl (sx 60 rfl (sx 61 rfl (sx 73 rfl (sx 104 rfl (sx 113 rfl (sub_nil _))))))))))))))))))) (.refl _) ?_
       refine hl_nil ?_
       refine hq_then ?_
       refine hc_true rfl ?_
       refine hc_seq ?_
       refine hc_region ?_
       refine hl_v rfl rfl rfl (rv_ev rfl) ?_
       refine hl_less (sx 0 rfl (sx 1 rfl (sx 2 rfl (sx 3 rfl (sx 4 rfl (sx 7 rfl (sx 8 rfl (sx 9 rfl (sx 10 rfl (sx 11 rfl (sx 55 rfl (sx 58 rfl (sx 59 rfl (sx 60 rfl (sx 61 rfl (sx 73 rfl (sx 104 rfl (sx 113 rfl (sub_nil _))))))))))))))))))) (.refl _) ?_
       refine hl_nil ?_
       refine hq_then ?_
       refine hc_ret ?_
       refine hq_block_ret ?_
       refine hq_then_ret ?_
       refine hq_then_ret ?_
       refine hq_block_ret ?_
       refine hq_then_ret ?_
       exact hq_ans rfl rfl (congrArg _ (okR_in (k := k) (by omega) (of_decide_eq_true (by assumption)) (by assumption)).symm)
     ·
      refine hl_v rfl rfl rfl (rv_ev rfl) ?_
      refine hl_skip rfl rfl rfl ?_
      refine hl_skip rfl rfl rfl ?_
      refine hl_skip rfl rfl rfl ?_
      refine hl_skip rfl rfl rfl ?_
      refine hl_v rfl rfl rfl (rv_ev rfl) ?_
      refine hl_less (sx 0 rfl (sx 1 rfl (sx 2 rfl (sx 3 rfl (sx 4 rfl (sx 7 rfl (sx 8 rfl (sx 9 rfl (sx 10 rfl (sx 11 rfl (sx 55 rfl (sx 58 rfl (sx 59 rfl (sx 60 rfl (sx 61 rfl (sx 73 rfl (sx 104 rfl (sx 113 rfl (sub_nil _))))))))))))))))))) (.refl _) ?_
      refine hl_nil ?_
      refine hq_then ?_
      refine hc_false rfl ?_
      refine hc_skip ?_
      refine hq_block_normal ?_
      refine hq_then ?_
      refine hc_region ?_
      refine hl_v rfl rfl rfl (rv_add rfl rfl rfl (by constructor <;> omega)) ?_
      refine hl_v rfl rfl rfl (rv_ev rfl) ?_
      refine hl_less (sx 0 rfl (sx 1 rfl (sx 2 rfl (sx 3 rfl (sx 4 rfl (sx 7 rfl (sx 8 rfl (sx 9 rfl (sx 10 rfl (sx 11 rfl (sx 55 rfl (sx 58 rfl (sx 59 rfl (sx 60 rfl (sx 61 rfl (sx 73 rfl (sx 104 rfl (sx 113 rfl (sub_nil _))))))))))))))))))) (.refl _) ?_
      refine hl_nil ?_
      exact hq_round2 (k + 1) ((r.ns.getD k 0) :: sn) ⟨by omega, by rw [hsn]; exact seen_rev _ (by omega), fun i hi hpc => by by_cases hik : i = k; (rw [hik] at hpc ⊢; exact absurd (decide_eq_true hpc) (by rw [show decide (r.ns.getD k 0 % perI d < 5) = false by assumption]; decide)); exact hin i (by omega) hpc⟩ (by omega) (sx 0 rfl (sx 1 rfl (sx 2 rfl (sx 3 rfl (sx 4 rfl (sx 7 rfl (sx 8 rfl (sx 9 rfl (sx 55 rfl (sx 58 rfl (sx 59 rfl (sx 60 rfl (sub_nil _))))))))))))) ((.cons _ (.cons_cons _ (.cons_cons _ (.cons_cons _ .slnil)))))
   ·
    have hb15p : ¬ (0 < (k : Int)) := of_decide_eq_false hb15
    have hst2 : 0 < k → 0 ≤ r.fs.getD k 0 ∧ r.fs.getD k 0 < k := fun h => ⟨(hstp h).1, (hstp h).2.1⟩
    refine hc_draw (by kernel_rfl) 29 [0, 1, 2, 3, 4, 5, 6, 7, 8, 9, 10, 11, 12, 13, 14, 15, 16, 17, 18, 19, 20, 21, 22, 23, 24, 25, 26, 27, 28] (List.take 29 _) (List.drop 29 _) [[], [0], [1], [2], [2], [2], [2], [2], [2], [2], [2], [2], [2], [12], [12], [12], [12], [12], [12], [12], [12], [12], [12], [12], [12], [12], [12], [2], [2, 27]] [76, 77, 78, 79, 80, 81, 82, 83, 84, 85, 86, 87, 88, 89, 90, 91, 92, 93, 94, 95, 96, 97, 98, 99, 100, 101, 102, 103, 104] (fun i_ vs_ v_ p_ => match i_ with | 0 => v_ = .int .i64 (k : Int) ∧ p_ = [] | 1 => v_ = .bool false ∧ p_ = [] | 2 => v_ = .bool false ∧ p_ = [] | 3 => v_ = undef ∧ p_ = [] | 4 => v_ = undef ∧ p_ = [] | 5 => v_ = undef ∧ p_ = [] | 6 => v_ = undef ∧ p_ = [] | 7 => v_ = undef ∧ p_ = [] | 8 => v_ = undef ∧ p_ = [] | 9 => v_ = undef ∧ p_ = [] | 10 => v_ = undef ∧ p_ = [] | 11 => v_ = undef ∧ p_ = [] | 12 => v_ = undef ∧ p_ = [] | 13 => v_ = undef ∧ p_ = [] | 14 => v_ = undef ∧ p_ = [] | 15 => v_ = undef ∧ p_ = [] | 16 => v_ = undef ∧ p_ = [] | 17 => v_ = undef ∧ p_ = [] | 18 => v_ = undef ∧ p_ = [] | 19 => v_ = undef ∧ p_ = [] | 20 => v_ = undef ∧ p_ = [] | 21 => v_ = undef ∧ p_ = [] | 22 => v_ = undef ∧ p_ = [] | 23 => v_ = undef ∧ p_ = [] | 24 => v_ = undef ∧ p_ = [] | 25 => v_ = undef ∧ p_ = [] | 26 => v_ = undef ∧ p_ = [] | 27 => v_ = undef ∧ p_ = [] | 28 => v_ = .bool false ∧ p_ = [] | _ => True) (List.take_append_drop 29 _).symm (by kernel_rfl) (by kernel_rfl) rfl rfl ?_ ?_
    ·
     refine ⟨?_, ?_, ?_, ?_, ?_, ?_, ?_, ?_, ?_, ?_, ?_, ?_, ?_, ?_, ?_, ?_, ?_, ?_, ?_, ?_, ?_, ?_, ?_, ?_, ?_, ?_, ?_, ?_, ?_, trivial⟩
     ·
      intro vf pf hR
      refine Or.inl ⟨rfl, ?_⟩
      refine rq_less (sx 10 rfl (sub_nil _)) (List.sublist_append_right _ _) ?_
      exact rq_v (rv_ev rfl)
     ·
      intro vf pf hR
      have e0 : (vf 0) = .int .i64 (k : Int) ∧ (pf 0) = [] := hR 0 (by decide)
      refine Or.inl ⟨rfl, ?_⟩
      refine rq_less (sx 76 (congrArg some e0.1) (sub_nil _)) (List.sublist_append_right _ _) ?_
      exact rq_mono (rq_v (rv_cmp rfl rfl rfl rfl)) (fun _ _ h => ⟨h.1.trans (congrArg Value.bool hb15), h.2⟩)
     ·
      intro vf pf hR
      have e1 : (vf 1) = .bool false ∧ (pf 1) = [] := hR 1 (by decide)
      refine Or.inl ⟨rfl, ?_⟩
      refine rq_less (sx 77 (congrArg some e1.1) (sub_nil _)) (List.sublist_append_right _ _) ?_
      exact rq_v (rv_ev rfl)
     ·
      intro vf pf hR
      have e2 : (vf 2) = .bool false ∧ (pf 2) = [] := hR 2 (by decide)
      exact Or.inr ⟨want_of (congrArg some e2.1) rfl, rfl, rfl⟩
     ·
      intro vf pf hR
      have e2 : (vf 2) = .bool false ∧ (pf 2) = [] := hR 2 (by decide)
      exact Or.inr ⟨want_of (congrArg some e2.1) rfl, rfl, rfl⟩
     ·
      intro vf pf hR
      have e2 : (vf 2) = .bool false ∧ (pf 2) = [] := hR 2 (by decide)
      exact Or.inr ⟨want_of (congrArg some e2.1) rfl, rfl, rfl⟩
     ·
      intro vf pf hR
      have e2 : (vf 2) = .bool false ∧ (pf 2) = [] := hR 2 (by decide)
      exact Or.inr ⟨want_of (congrArg some e2.1) rfl, rfl, rfl⟩
     ·
      intro vf pf hR
      have e2 : (vf 2) = .bool false ∧ (pf 2) = [] := hR 2 (by decide)
      exact Or.inr ⟨want_of (congrArg some e2.1) rfl, rfl, rfl⟩
     ·
      intro vf pf hR
      have e2 : (vf 2) = .bool false ∧ (pf 2) = [] := hR 2 (by decide)
      exact Or.inr ⟨want_of (congrArg some e2.1) rfl, rfl, rfl⟩
     ·
      intro vf pf hR
      have e2 : (vf 2) = .bool false ∧ (pf 2) = [] := hR 2 (by decide)
      exact Or.inr ⟨want_of (congrArg some e2.1) rfl, rfl, rfl⟩
     ·
      intro vf pf hR
      have e2 : (vf 2) = .bool false ∧ (pf 2) = [] := hR 2 (by decide)
      exact Or.inr ⟨want_of (congrArg some e2.1) rfl, rfl, rfl⟩
     ·
      intro vf pf hR
      have e2 : (vf 2) = .bool false ∧ (pf 2) = [] := hR 2 (by decide)
      exact Or.inr ⟨want_of (congrArg some e2.1) rfl, rfl, rfl⟩
     ·
      intro vf pf hR
      have e2 : (vf 2) = .bool false ∧ (pf 2) = [] := hR 2 (by decide)
      exact Or.inr ⟨want_of (congrArg some e2.1) rfl, rfl, rfl⟩
     ·
      intro vf pf hR
      have e12 : (vf 12) = undef ∧ (pf 12) = [] := hR 12 (by decide)
      exact Or.inr ⟨want_un (congrArg some e12.1), rfl, rfl⟩
     ·
      intro vf pf hR
      have e12 : (vf 12) = undef ∧ (pf 12) = [] := hR 12 (by decide)
      exact Or.inr ⟨want_un (congrArg some e12.1), rfl, rfl⟩
     ·
      intro vf pf hR
      have e12 : (vf 12) = undef ∧ (pf 12) = [] := hR 12 (by decide)
      exact Or.inr ⟨want_un (congrArg some e12.1), rfl, rfl⟩
     ·
      intro vf pf hR
      have e12 : (vf 12) = undef ∧ (pf 12) = [] := hR 12 (by decide)
      exact Or.inr ⟨want_un (congrArg some e12.1), rfl, rfl⟩
     ·
      intro vf pf hR
      have e12 : (vf 12) = undef ∧ (pf 12) = [] := hR 12 (by decide)
      exact Or.inr ⟨want_un (congrArg some e12.1), rfl, rfl⟩
     ·
      intro vf pf hR
      have e12 : (vf 12) = undef ∧ (pf 12) = [] := hR 12 (by decide)
      exact Or.inr ⟨want_un (congrArg some e12.1), rfl, rfl⟩
     ·
      intro vf pf hR
      have e12 : (vf 12) = undef ∧ (pf 12) = [] := hR 12 (by decide)
      exact Or.inr ⟨want_un (congrArg some e12.1), rfl, rfl⟩
     ·
      intro vf pf hR
      have e12 : (vf 12) = undef ∧ (pf 12) = [] := hR 12 (by decide)
      exact Or.inr ⟨want_un (congrArg some e12.1), rfl, rfl⟩
     ·
      intro vf pf hR
      have e12 : (vf 12) = undef ∧ (pf 12) = [] := hR 12 (by decide)
      exact Or.inr ⟨want_un (congrArg some e12.1), rfl, rfl⟩
     ·
      intro vf pf hR
      have e12 : (vf 12) = undef ∧ (pf 12) = [] := hR 12 (by decide)
      exact Or.inr ⟨want_un (congrArg some e12.1), rfl, rfl⟩
     ·
      intro vf pf hR
      have e12 : (vf 12) = undef ∧ (pf 12) = [] := hR 12 (by decide)
      exact Or.inr ⟨want_un (congrArg some e12.1), rfl, rfl⟩
     ·
      intro vf pf hR
      have e12 : (vf 12) = undef ∧ (pf 12) = [] := hR 12 (by decide)
      exact Or.inr ⟨want_un (congrArg some e12.1), rfl, rfl⟩
     ·
      intro vf pf hR
      have e12 : (vf 12) = undef ∧ (pf 12) = [] := hR 12 (by decide)
      exact Or.inr ⟨want_un (congrArg some e12.1), rfl, rfl⟩
     ·
      intro vf pf hR
      have e12 : (vf 12) = undef ∧ (pf 12) = [] := hR 12 (by decide)
      exact Or.inr ⟨want_un (congrArg some e12.1), rfl, rfl⟩
     ·
      intro vf pf hR
      have e2 : (vf 2) = .bool false ∧ (pf 2) = [] := hR 2 (by decide)
      exact Or.inr ⟨want_of (congrArg some e2.1) rfl, rfl, rfl⟩
     ·
      intro vf pf hR
      have e2 : (vf 2) = .bool false ∧ (pf 2) = [] := hR 2 (by decide)
      have e27 : (vf 27) = undef ∧ (pf 27) = [] := hR 27 (by decide)
      refine Or.inl ⟨rfl, ?_⟩
      refine rq_less (sx 78 (congrArg some e2.1) (sx 103 (congrArg some e27.1) (sub_nil _))) (List.sublist_append_right _ _) ?_
      exact rq_v (rv_ev rfl)
    ·
     intro vf pf hR
     have e28 : (vf 28) = .bool false ∧ (pf 28) = [] := hR 28 (by decide)
     refine hl_less (l' := [setE mhR10 ((r.ns.getD k 0) :: sn), boxE b2 #[r.nv, r.fv] 28, boxE b1 #[.int .i64 d.W, .int .i64 d.H, .int .i64 d.T, .int .i64 d.R] 25]) (sx 0 rfl (sx 1 rfl (sx 2 rfl (sx 3 rfl (sx 4 rfl (sx 7 rfl (sx 8 rfl (sx 9 rfl (sx 10 rfl (sx 11 rfl (sx 55 rfl (sx 58 rfl (sx 59 rfl (sx 60 rfl (sx 61 rfl (sx 73 rfl (sx 104 (congrArg some e28.1) (sub_nil _)))))))))))))))))) (List.sublist_append_right _ _) ?_
     simp only [List.drop_succ_cons, List.drop_zero]
     refine hl_less (sx 0 rfl (sx 1 rfl (sx 2 rfl (sx 3 rfl (sx 4 rfl (sx 7 rfl (sx 8 rfl (sx 9 rfl (sx 10 rfl (sx 11 rfl (sx 55 rfl (sx 58 rfl (sx 59 rfl (sx 60 rfl (sx 61 rfl (sx 73 rfl (sx 104 rfl (sub_nil _)))))))))))))))))) (.refl _) ?_
     refine hl_nil ?_
     refine hq_then ?_
     refine hc_false rfl ?_
     refine hc_skip ?_
     refine hq_then ?_
     refine hc_seq ?_
     refine hc_region ?_
     refine hl_v rfl rfl rfl (rv_loadN (cs := [.int .i64 d.W, .int .i64 d.H, .int .i64 d.T, .int .i64 d.R]) rfl (by kernel_rfl) (by kernel_rfl) rfl rfl (box_part 2 rfl 0 rfl)) ?_
     refine hl_v rfl rfl rfl (rv_ev rfl) ?_
     refine hl_callV rfl rfl rfl (rq_call (by kernel_rfl) rfl (fun w hm => ret_ans (isInPin_yes d (r.ns.getD k 0) w hd hno))) ?_
     refine hl_bool (fun h23 => ?_) (fun h23 => ?_)
     ·
      refine hl_v rfl rfl rfl (rv_ev rfl) ?_
      refine hl_v rfl rfl rfl (rv_ev rfl) ?_
      refine hl_v rfl rfl rfl (rv_ev rfl) ?_
      refine hl_callV rfl rfl rfl (rq_call (by kernel_rfl) rfl (fun w hm => ret_ans (hasInt_ans qs (r.ns.getD k 0) _ w ((rd_old hq) w hm) (by omega)))) ?_
      refine hl_bool (fun h24 => ?_) (fun h24 => ?_)
      ·
       refine hl_v rfl rfl rfl (rv_ev rfl) ?_
       refine hl_v rfl rfl rfl (rv_ev rfl) ?_
       refine hl_less (sx 0 rfl (sx 1 rfl (sx 2 rfl (sx 3 rfl (sx 4 rfl (sx 7 rfl (sx 8 rfl (sx 9 rfl (sx 10 rfl (sx 11 rfl (sx 55 rfl (sx 58 rfl (sx 59 rfl (sx 60 rfl (sx 61 rfl (sx 73 rfl (sx 104 rfl (sx 113 rfl (sub_nil _))))))))))))))))))) (.refl _) ?_
       refine hl_nil ?_
       refine hq_then ?_
       refine hc_false rfl ?_
       refine hc_skip ?_
       refine hq_block_normal ?_
       refine hq_then ?_
       refine hc_region ?_
       refine hl_v rfl rfl rfl (rv_add rfl rfl rfl (by constructor <;> omega)) ?_
       refine hl_v rfl rfl rfl (rv_ev rfl) ?_
       refine hl_less (sx 0 rfl (sx 1 rfl (sx 2 rfl (sx 3 rfl (sx 4 rfl (sx 7 rfl (sx 8 rfl (sx 9 rfl (sx 10 rfl (sx 11 rfl (sx 55 rfl (sx 58 rfl (sx 59 rfl (sx 60 rfl (sx 61 rfl (sx 73 rfl (sx 104 rfl (sx 113 rfl (sub_nil _))))))))))))))))))) (.refl _) ?_
       refine hl_nil ?_
       exact hq_round2 (k + 1) ((r.ns.getD k 0) :: sn) ⟨by omega, by rw [hsn]; exact seen_rev _ (by omega), fun i hi hpc => by by_cases hik : i = k; (rw [hik] at hpc ⊢; assumption); exact hin i (by omega) hpc⟩ (by omega) (sx 0 rfl (sx 1 rfl (sx 2 rfl (sx 3 rfl (sx 4 rfl (sx 7 rfl (sx 8 rfl (sx 9 rfl (sx 55 rfl (sx 58 rfl (sx 59 rfl (sx 60 rfl (sub_nil _))))))))))))) ((.cons_cons _ (.cons_cons _ (.cons_cons _ .slnil))))
      ·
       refine hl_v rfl rfl rfl (rv_ev rfl) ?_
       refine hl_v rfl rfl rfl (rv_ev rfl) ?_
       refine hl_less (sx 0 rfl (sx 1 rfl (sx 2 rfl (sx 3 rfl (sx 4 rfl (sx 7 rfl (sx 8 rfl (sx 9 rfl (sx 10 rfl (sx 11 rfl (sx 55 rfl (sx 58 rfl (sx 59 rfl (sx 60 rfl (sx 61 rfl (sx 73 rfl (sx 104 rfl (sx 113 rfl (sub_nil _))))))))))))))))))) (.refl _) ?_
       refine hl_nil ?_
       refine hq_then ?_
       refine hc_true rfl ?_
       refine hc_seq ?_
       refine hc_region ?_
       refine hl_v rfl rfl rfl (rv_ev rfl) ?_
       refine hl_less (sx 0 rfl (sx 1 rfl (sx 2 rfl (sx 3 rfl (sx 4 rfl (sx 7 rfl (sx 8 rfl (sx 9 rfl (sx 10 rfl (sx 11 rfl (sx 55 rfl (sx 58 rfl (sx 59 rfl (sx 60 rfl (sx 61 rfl (sx 73 rfl (sx 104 rfl (sx 113 rfl (sub_nil _))))))))))))))))))) (.refl _) ?_
       refine hl_nil ?_
       refine hq_then ?_
       refine hc_ret ?_
       refine hq_block_ret ?_
       refine hq_then_ret ?_
       refine hq_then_ret ?_
       refine hq_block_ret ?_
       refine hq_then_ret ?_
       exact hq_ans rfl rfl (congrArg _ (okR_in (k := k) (by omega) (of_decide_eq_true (by assumption)) (by assumption)).symm)
     ·
      refine hl_v rfl rfl rfl (rv_ev rfl) ?_
      refine hl_skip rfl rfl rfl ?_
      refine hl_skip rfl rfl rfl ?_
      refine hl_skip rfl rfl rfl ?_
      refine hl_skip rfl rfl rfl ?_
      refine hl_v rfl rfl rfl (rv_ev rfl) ?_
      refine hl_less (sx 0 rfl (sx 1 rfl (sx 2 rfl (sx 3 rfl (sx 4 rfl (sx 7 rfl (sx 8 rfl (sx 9 rfl (sx 10 rfl (sx 11 rfl (sx 55 rfl (sx 58 rfl (sx 59 rfl (sx 60 rfl (sx 61 rfl (sx 73 rfl (sx 104 rfl (sx 113 rfl (sub_nil _))))))))))))))))))) (.refl _) ?_
      refine hl_nil ?_
      refine hq_then ?_
      refine hc_false rfl ?_
      refine hc_skip ?_
      refine hq_block_normal ?_
      refine hq_then ?_
      refine hc_region ?_
      refine hl_v rfl rfl rfl (rv_add rfl rfl rfl (by constructor <;> omega)) ?_
      refine hl_v rfl rfl rfl (rv_ev rfl) ?_
      refine hl_less (sx 0 rfl (sx 1 rfl (sx 2 rfl (sx 3 rfl (sx 4 rfl (sx 7 rfl (sx 8 rfl (sx 9 rfl (sx 10 rfl (sx 11 rfl (sx 55 rfl (sx 58 rfl (sx 59 rfl (sx 60 rfl (sx 61 rfl (sx 73 rfl (sx 104 rfl (sx 113 rfl (sub_nil _))))))))))))))))))) (.refl _) ?_
      refine hl_nil ?_
      exact hq_round2 (k + 1) ((r.ns.getD k 0) :: sn) ⟨by omega, by rw [hsn]; exact seen_rev _ (by omega), fun i hi hpc => by by_cases hik : i = k; (rw [hik] at hpc ⊢; exact absurd (decide_eq_true hpc) (by rw [show decide (r.ns.getD k 0 % perI d < 5) = false by assumption]; decide)); exact hin i (by omega) hpc⟩ (by omega) (sx 0 rfl (sx 1 rfl (sx 2 rfl (sx 3 rfl (sx 4 rfl (sx 7 rfl (sx 8 rfl (sx 9 rfl (sx 55 rfl (sx 58 rfl (sx 59 rfl (sx 60 rfl (sub_nil _))))))))))))) ((.cons_cons _ (.cons_cons _ (.cons_cons _ .slnil))))
  ·
   refine hl_less (sx 0 rfl (sx 1 rfl (sx 2 rfl (sx 3 rfl (sx 4 rfl (sx 7 rfl (sx 8 rfl (sx 9 rfl (sx 55 rfl (sx 58 rfl (sx 59 rfl (sx 60 rfl (sx 61 rfl (sub_nil _)))))))))))))) (.refl _) ?_
   refine hl_nil ?_
   refine hq_then ?_
   refine hc_seq ?_
   refine hc_false rfl ?_
   refine hc_exit ?_
   refine hq_then_exit ?_
   refine hq_then_exit ?_
   refine hq_block_exit ?_
   refine hq_then ?_
   refine hc_seq ?_
   refine hc_seq ?_
   refine hc_region ?_
   refine hl_v rfl rfl rfl (rv_ev rfl) ?_
   refine hl_v rfl rfl rfl (rv_len rfl Try.underlying26 rfl (rd_old hq)) ?_
   refine hl_v rfl rfl rfl (rv_ev rfl) ?_
   refine hl_less (sx 0 rfl (sx 1 rfl (sx 2 rfl (sx 3 rfl (sx 4 rfl (sx 7 rfl (sx 8 rfl (sx 9 rfl (sx 55 rfl (sx 58 rfl (sx 59 rfl (sx 60 rfl (sx 61 rfl (sx 115 rfl (sx 116 rfl (sx 117 rfl (sub_nil _))))))))))))))))) (.refl _) ?_
   refine hl_nil ?_
   refine hq_then ?_
   refine hc_block ?_
   have hke : k = r.ns.length := by omega
   have hsa : sn = r.ns.reverse := by rw [hsn, hke, List.take_length]
   refine hc_loop1 (α := Nat) (fun j => [setE mhR10 sn, boxE b2 #[r.nv, r.fv] 28, boxE b1 #[.int .i64 d.W, .int .i64 d.H, .int .i64 d.T, .int .i64 d.R] 25]) (fun j => [(0, .agg #[.int .i64 d.W, .int .i64 d.H, .int .i64 d.T, .int .i64 d.R]), (1, .int .i64 s0), (2, qv), (3, .agg #[r.nv, r.fv]), (4, .pointer (some ⟨b1, 0, none⟩)), (7, .pointer (some ⟨b2, 0, none⟩)), (8, .bool false), (9, .map (some mhR10)), (55, .bool false), (58, r.nv), (59, .int .i64 (r.ns.length : Int)), (60, .int .i64 (k : Int)), (61, .bool false), (115, qv), (116, .int .i64 (qs.length : Int)), (117, .int .i64 (j : Int))]) (fun j => j ≤ qs.length ∧ ∀ i, i < j → hasB r.ns (qs.getD i 0) = true) (fun j => qs.length - j) 0 ⟨by omega, fun i hi => absurd hi (by omega)⟩ (sx 0 rfl (sx 1 rfl (sx 2 rfl (sx 3 rfl (sx 4 rfl (sx 7 rfl (sx 8 rfl (sx 9 rfl (sx 55 rfl (sx 58 rfl (sx 59 rfl (sx 60 rfl (sx 61 rfl (sx 115 rfl (sx 116 rfl (sx 117 rfl (sub_nil _))))))))))))))))) ((.cons_cons _ (.cons_cons _ (.cons_cons _ .slnil)))) ?_
   intro j hi25
   obtain ⟨hj, hq2⟩ := hi25
   refine hc_seq ?_
   refine hc_region ?_
   refine hl_lss rfl rfl rfl rfl rfl rfl (fun h26 => ?_) (fun h26 => ?_)
   ·
    refine hl_less (sx 0 rfl (sx 1 rfl (sx 2 rfl (sx 3 rfl (sx 4 rfl (sx 7 rfl (sx 8 rfl (sx 9 rfl (sx 55 rfl (sx 58 rfl (sx 59 rfl (sx 60 rfl (sx 61 rfl (sx 115 rfl (sx 116 rfl (sx 117 rfl (sx 118 rfl (sub_nil _)))))))))))))))))) (.refl _) ?_
    refine hl_nil ?_
    refine hq_then ?_
    refine hc_seq ?_
    refine hc_true rfl ?_
    refine hc_skip ?_
    refine hq_then ?_
    refine hc_seq ?_
    refine hc_block ?_
    refine hc_seq ?_
    refine hc_region ?_
    refine hl_v rfl rfl rfl (rv_index (s := 1) rfl Try.underlying26 (by kernel_rfl) rfl rfl (rd_old hq) (by omega) (by first | omega | (simp only [List.length_set]; omega))) ?_
    refine hl_v rfl rfl rfl (rv_loadEl (u := .int .i64 (qs.getD j 0)) rfl (by kernel_rfl) rfl (rd_old hq) (ints_at1 (show _ < qs.length by first | omega | (simp only [List.length_set]; omega)))) ?_
    refine hl_v rfl rfl rfl (rv_ev rfl) ?_
    refine hl_less (sx 0 rfl (sx 1 rfl (sx 2 rfl (sx 3 rfl (sx 4 rfl (sx 7 rfl (sx 8 rfl (sx 9 rfl (sx 13 rfl (sx 55 rfl (sx 58 rfl (sx 59 rfl (sx 60 rfl (sx 61 rfl (sx 115 rfl (sx 116 rfl (sx 117 rfl (sx 118 rfl (sub_nil _))))))))))))))))))) (.refl _) ?_
    refine hl_nil ?_
    refine hq_then ?_
    refine hc_seq ?_
    refine hc_region ?_
    have hqm := hqr j (by omega)
    refine hl_v rfl rfl rfl (rv_ev rfl) ?_
    refine hl_v rfl rfl rfl (rv_ev rfl) ?_
    refine hl_v rfl rfl rfl (rv_inSet (i := 0) (S := sn) (k := qs.getD j 0) rfl Try.underlying66 rfl rfl (wf_small (by omega)) rfl) ?_
    refine hl_bool (fun h27 => ?_) (fun h27 => ?_)
    ·
     have hyj : hasB r.ns (qs.getD j 0) = true := by rw [← h27, hsa]; unfold hasB; rw [List.contains_reverse]
     refine hl_v rfl rfl rfl (rv_ev rfl) ?_
     refine hl_less (sx 0 rfl (sx 1 rfl (sx 2 rfl (sx 3 rfl (sx 4 rfl (sx 7 rfl (sx 8 rfl (sx 9 rfl (sx 13 rfl (sx 55 rfl (sx 58 rfl (sx 59 rfl (sx 60 rfl (sx 61 rfl (sx 115 rfl (sx 116 rfl (sx 117 rfl (sx 118 rfl (sx 124 rfl (sub_nil _)))))))))))))))))))) (.refl _) ?_
     refine hl_nil ?_
     refine hq_then ?_
     refine hc_false rfl ?_
     refine hc_skip ?_
     refine hq_block_normal ?_
     refine hq_then ?_
     refine hc_region ?_
     refine hl_v rfl rfl rfl (rv_add rfl rfl rfl (by constructor <;> omega)) ?_
     refine hl_v rfl rfl rfl (rv_ev rfl) ?_
     refine hl_less (sx 0 rfl (sx 1 rfl (sx 2 rfl (sx 3 rfl (sx 4 rfl (sx 7 rfl (sx 8 rfl (sx 9 rfl (sx 13 rfl (sx 55 rfl (sx 58 rfl (sx 59 rfl (sx 60 rfl (sx 61 rfl (sx 115 rfl (sx 116 rfl (sx 117 rfl (sx 118 rfl (sx 124 rfl (sub_nil _)))))))))))))))))))) (.refl _) ?_
     refine hl_nil ?_
     exact hq_round1 (j + 1) ⟨by omega, fun i hi => by by_cases hij : i = j; (subst hij; exact hyj); exact hq2 i (by omega)⟩ (by omega) (sx 0 rfl (sx 1 rfl (sx 2 rfl (sx 3 rfl (sx 4 rfl (sx 7 rfl (sx 8 rfl (sx 9 rfl (sx 55 rfl (sx 58 rfl (sx 59 rfl (sx 60 rfl (sx 61 rfl (sx 115 rfl (sx 116 rfl (sx 117 rfl (sub_nil _))))))))))))))))) ((.cons_cons _ (.cons_cons _ (.cons_cons _ .slnil))))
    ·
     have hnj : hasB r.ns (qs.getD j 0) = false := by rw [← h27, hsa]; unfold hasB; rw [List.contains_reverse]
     refine hl_v rfl rfl rfl (rv_ev rfl) ?_
     refine hl_less (sx 0 rfl (sx 1 rfl (sx 2 rfl (sx 3 rfl (sx 4 rfl (sx 7 rfl (sx 8 rfl (sx 9 rfl (sx 13 rfl (sx 55 rfl (sx 58 rfl (sx 59 rfl (sx 60 rfl (sx 61 rfl (sx 115 rfl (sx 116 rfl (sx 117 rfl (sx 118 rfl (sx 124 rfl (sub_nil _)))))))))))))))))))) (.refl _) ?_
     refine hl_nil ?_
     refine hq_then ?_
     refine hc_true rfl ?_
     refine hc_seq ?_
     refine hc_region ?_
     refine hl_v rfl rfl rfl (rv_ev rfl) ?_
     refine hl_less (sx 0 rfl (sx 1 rfl (sx 2 rfl (sx 3 rfl (sx 4 rfl (sx 7 rfl (sx 8 rfl (sx 9 rfl (sx 13 rfl (sx 55 rfl (sx 58 rfl (sx 59 rfl (sx 60 rfl (sx 61 rfl (sx 115 rfl (sx 116 rfl (sx 117 rfl (sx 118 rfl (sx 124 rfl (sub_nil _)))))))))))))))))))) (.refl _) ?_
     refine hl_nil ?_
     refine hq_then ?_
     refine hc_ret ?_
     refine hq_block_ret ?_
     refine hq_then_ret ?_
     refine hq_then_ret ?_
     refine hq_block_ret ?_
     refine hq_then_ret ?_
     exact hq_ans rfl rfl (congrArg _ (okR_out (k := j) (by omega) hnj).symm)
   ·
    refine hl_less (sx 0 rfl (sx 1 rfl (sx 2 rfl (sx 3 rfl (sx 4 rfl (sx 7 rfl (sx 8 rfl (sx 9 rfl (sx 55 rfl (sx 58 rfl (sx 59 rfl (sx 60 rfl (sx 61 rfl (sx 115 rfl (sx 116 rfl (sx 117 rfl (sx 118 rfl (sub_nil _)))))))))))))))))) (.refl _) ?_
    refine hl_nil ?_
    refine hq_then ?_
    refine hc_seq ?_
    refine hc_false rfl ?_
    refine hc_exit ?_
    refine hq_then_exit ?_
    refine hq_then_exit ?_
    refine hq_block_exit ?_
    refine hq_then ?_
    refine hc_seq ?_
    refine hc_region ?_
    refine hl_v rfl rfl rfl (rv_ev rfl) ?_
    refine hl_less (sx 0 rfl (sx 1 rfl (sx 2 rfl (sx 3 rfl (sx 4 rfl (sx 7 rfl (sx 8 rfl (sx 9 rfl (sx 55 rfl (sx 58 rfl (sx 59 rfl (sx 60 rfl (sx 61 rfl (sx 115 rfl (sx 116 rfl (sx 117 rfl (sx 118 rfl (sub_nil _)))))))))))))))))) (.refl _) ?_
    refine hl_nil ?_
    refine hq_then ?_
    refine hc_ret ?_
    exact hq_ans rfl rfl (congrArg _ (okR_yes (fun k hk => hin k (by omega)) (fun k hk => hq2 k (by omega))).symm)
theorem rng_of {qs : List Int} (h : ∀ x ∈ qs, -1 ≤ x ∧ x ≤ 1000000) : ∀ k, k < qs.length → -9223372036854775808 ≤ qs.getD k 0 ∧ qs.getD k 0 ≤ 9223372036854775807 := fun k hk => by
  have := h _ (getD_inX hk)
  omega
theorem kSmall {d : Dev} {s0 : Int} {ns fs ks : List Int} (h : RtOk d s0 ns fs ks) (hd : devB d = true) : ∀ x ∈ ks, -1 ≤ x ∧ x ≤ 1000000 := fun x hx => by
  have := h.tr.rng x (h.inpin.1 hx).1
  have := all_rng hd
  omega
set_option maxHeartbeats 4000000 in
set_option maxRecDepth 100000 in
theorem pinOk_yes (n b p : Int) (w : World) (hn : 0 ≤ n ∧ n ≤ 1000000) (h : PnOk n b p) :
  Calls Try.prog 75 #[.int .i64 n, .agg #[.int .i64 b, .int .i64 p]] w (Ans w (.bool true)) := by
 obtain ⟨h1, h2, h3, h4⟩ := h
 refine calls_hc (N := 15) (args := [.int .i64 n, .agg #[.int .i64 b, .int .i64 p]]) Try.func75 rfl rfl ?_
 refine hc_less _ (sx 0 rfl (sx 1 rfl (sub_nil _))) (.refl _) ?_
 refine hc_seq ?_
 refine hc_region ?_
 refine hl_box rfl rfl rfl (rq_box rfl rfl) ?_
 intro b1
 refine hl_v rfl rfl rfl (rv_ev rfl) ?_
 refine hl_less (sx 0 rfl (sx 1 rfl (sx 3 rfl (sx 4 rfl (sub_nil _))))) (.refl _) ?_
 refine hl_nil ?_
 refine hq_then ?_
 refine hc_seq ?_
 refine hc_region ?_
 refine hl_v rfl rfl rfl (rv_field (k0 := 0) rfl (by kernel_rfl) rfl) ?_
 refine hl_v rfl rfl rfl (rv_load rfl (by kernel_rfl) rfl (box_cell 0 rfl rfl)) ?_
 refine hl_v rfl rfl rfl (rv_ev rfl) ?_
 refine hl_v rfl rfl rfl (rv_sub rfl rfl rfl (by constructor <;> omega)) ?_
 refine hl_callV rfl rfl rfl (rq_call (by kernel_rfl) rfl (fun w hm => ret_ans (ans_of (inRange_any _ _ _ w)))) ?_
 refine hl_bool (fun h2 => ?_) (fun h2 => absurd (((inr_in (by omega))).symm.trans h2) (by decide))
 refine hl_v rfl rfl rfl (rv_ev rfl) ?_
 refine hl_v rfl rfl rfl (rv_field (k0 := 1) rfl (by kernel_rfl) rfl) ?_
 refine hl_v rfl rfl rfl (rv_load rfl (by kernel_rfl) rfl (box_cell 0 rfl rfl)) ?_
 refine hl_callV rfl rfl rfl (rq_call (by kernel_rfl) rfl (fun w hm => ret_ans (ans_of (inRange_any _ _ _ w)))) ?_
 refine hl_bool (fun h3 => ?_) (fun h3 => absurd (((inr_in (by omega))).symm.trans h3) (by decide))
 refine hl_v rfl rfl rfl (rv_ev rfl) ?_
 refine hl_v rfl rfl rfl (rv_ev rfl) ?_
 refine hl_less (sx 0 rfl (sx 1 rfl (sx 3 rfl (sx 4 rfl (sub_nil _))))) (.refl _) ?_
 refine hl_nil ?_
 refine hq_then ?_
 refine hc_ret ?_
 exact hq_ans rfl rfl rfl
set_option maxHeartbeats 4000000 in
set_option maxRecDepth 100000 in
theorem ConnsOk_yes (n : Int) (cs : List Cn) (v : Value) (w : World) (hn : 0 ≤ n ∧ n ≤ 64) (hc : RdsCn w v cs) (hl : cs.length ≤ 100) (hok : ∀ k, k < cs.length → CnOk n (cs.getD k cn0)) :
  Calls Try.prog 47 #[.int .i64 n, v] w (Ans w (.bool true)) := by
 refine calls_hc (N := 48) (args := [.int .i64 n, v]) Try.func47 rfl rfl ?_
 refine hc_less _ (sx 0 rfl (sx 1 rfl (sub_nil _))) (.refl _) ?_
 refine hc_seq ?_
 refine hc_region ?_
 refine hl_v rfl rfl rfl (rv_ev rfl) ?_
 refine hl_less (sx 0 rfl (sx 1 rfl (sx 4 rfl (sub_nil _)))) (.refl _) ?_
 refine hl_nil ?_
 refine hq_then ?_
 refine hc_seq ?_
 refine hc_seq ?_
 refine hc_region ?_
 refine hl_v rfl rfl rfl (rv_ev rfl) ?_
 refine hl_callV rfl rfl rfl (rq_call (by kernel_rfl) rfl (fun w hm => ret_ans (ans_of (inRange_any _ _ _ w)))) ?_
 refine hl_bool (fun h1 => ?_) (fun h1 => absurd (((inr_in (by omega))).symm.trans h1) (by decide))
 refine hl_v rfl rfl rfl (rv_ev rfl) ?_
 refine hl_v rfl rfl rfl (rv_ev rfl) ?_
 refine hl_v rfl rfl rfl (rv_ev rfl) ?_
 refine hl_v rfl rfl rfl (rv_len rfl Try.underlying46 rfl (rd_old hc.row)) ?_
 refine hl_gtr rfl rfl rfl rfl rfl rfl (fun h2 => absurd h2 (by omega)) (fun h2 => ?_)
 refine hl_v rfl rfl rfl (rv_ev rfl) ?_
 refine hl_less (sx 0 rfl (sx 1 rfl (sx 4 rfl (sx 16 rfl (sub_nil _))))) (.refl _) ?_
 refine hl_nil ?_
 refine hq_then ?_
 refine hc_false rfl ?_
 refine hc_skip ?_
 refine hq_then ?_
 refine hc_seq ?_
 refine hc_seq ?_
 refine hc_region ?_
 refine hl_v rfl rfl rfl (rv_ev rfl) ?_
 refine hl_v rfl rfl rfl (rv_len rfl Try.underlying46 rfl (rd_old hc.row)) ?_
 refine hl_v rfl rfl rfl (rv_ev rfl) ?_
 refine hl_less (sx 0 rfl (sx 1 rfl (sx 4 rfl (sx 16 rfl (sx 17 rfl (sx 18 rfl (sx 19 rfl (sub_nil _)))))))) (.refl _) ?_
 refine hl_nil ?_
 refine hq_then ?_
 refine hc_block ?_
 refine hc_loop1 (α := Nat) (fun i => []) (fun i => [(0, .int .i64 n), (1, v), (4, .bool false), (16, .bool false), (17, v), (18, .int .i64 (cs.length : Int)), (19, .int .i64 (i : Int))]) (fun i => i ≤ cs.length) (fun i => cs.length - i) 0 (by omega) (sx 0 rfl (sx 1 rfl (sx 4 rfl (sx 16 rfl (sx 17 rfl (sx 18 rfl (sx 19 rfl (sub_nil _)))))))) (.slnil) ?_
 intro i hi3
 have hi := hi3
 refine hc_seq ?_
 refine hc_region ?_
 refine hl_lss rfl rfl rfl rfl rfl rfl (fun h4 => ?_) (fun h4 => ?_)
 ·
  refine hl_less (sx 0 rfl (sx 1 rfl (sx 4 rfl (sx 16 rfl (sx 17 rfl (sx 18 rfl (sx 19 rfl (sx 20 rfl (sub_nil _))))))))) (.refl _) ?_
  refine hl_nil ?_
  refine hq_then ?_
  refine hc_seq ?_
  refine hc_true rfl ?_
  refine hc_skip ?_
  refine hq_then ?_
  refine hc_seq ?_
  refine hc_block ?_
  refine hc_seq ?_
  refine hc_region ?_
  refine hl_v rfl rfl rfl (rv_index (s := 4) rfl Try.underlying46 (by kernel_rfl) rfl rfl (rd_old hc.row) (by omega) (by first | omega | (simp only [List.length_set]; omega))) ?_
  refine hl_v rfl rfl rfl (rv_loadElN (us := [.int .i64 ((cs.getD i cn0).nd), .int .i64 ((cs.getD i cn0).sb), .int .i64 ((cs.getD i cn0).sp), (cs.getD i cn0).sv]) rfl (by kernel_rfl) (by kernel_rfl) rfl (rd_old hc.row) (by omega) rfl (flat_atN cnC 4 (fun _ => rfl) cs cn0 (show i < _ by first | omega | (simp only [List.length_set]; omega)) rfl)) ?_
  refine hl_box rfl rfl rfl (rq_alloc (z := .agg #[.int .i64 0, .int .i64 0, .int .i64 0, .slice none 0 0]) rfl (by kernel_rfl)) ?_
  intro b5
  refine hl_storeBoxN (i := 0) (off := 0) (us := [.int .i64 ((cs.getD i cn0).nd), .int .i64 ((cs.getD i cn0).sb), .int .i64 ((cs.getD i cn0).sp), (cs.getD i cn0).sv]) (l' := [boxE b5 #[.int .i64 ((cs.getD i cn0).nd), .int .i64 ((cs.getD i cn0).sb), .int .i64 ((cs.getD i cn0).sp), (cs.getD i cn0).sv] 44]) rfl rfl rfl (by kernel_rfl) rfl rfl rfl (all_cons rfl (all_cons rfl (all_cons rfl (all_cons (hc.at (k := i) (by omega)).one all_nil)))) rfl rfl rfl ?_
  refine hl_less (sx 0 rfl (sx 1 rfl (sx 4 rfl (sx 6 rfl (sx 16 rfl (sx 17 rfl (sx 18 rfl (sx 19 rfl (sx 20 rfl (sub_nil _)))))))))) (.refl _) ?_
  refine hl_nil ?_
  refine hq_then ?_
  refine hc_seq ?_
  refine hc_seq ?_
  refine hc_region ?_
  have hci := hok i (by omega)
  have hsrc := hci.src
  have hl0 := hci.l0
  have hl1 := hci.l1
  refine hl_v rfl rfl rfl (rv_field (k0 := 3) rfl (by kernel_rfl) rfl) ?_
  refine hl_v rfl rfl rfl (rv_load rfl (by kernel_rfl) rfl (box_cell 0 rfl rfl)) ?_
  refine hl_v rfl rfl rfl (rv_len rfl Try.underlying42 rfl (fun w hm => (hc.at (k := i) (by omega)).below hm.bel)) ?_
  refine hl_callV rfl rfl rfl (rq_call (by kernel_rfl) rfl (fun w hm => ret_ans (ans_of (inRange_any _ _ _ w)))) ?_
  refine hl_bool (fun h6 => ?_) (fun h6 => absurd (((inr_in (by omega))).symm.trans h6) (by decide))
  refine hl_v rfl rfl rfl (rv_ev rfl) ?_
  refine hl_v rfl rfl rfl (rv_ev rfl) ?_
  refine hl_v rfl rfl rfl (rv_ev rfl) ?_
  refine hl_v rfl rfl rfl (rv_field (k0 := 1) rfl (by kernel_rfl) rfl) ?_
  refine hl_v rfl rfl rfl (rv_loadN (cs := [.int .i64 ((cs.getD i cn0).sb), .int .i64 ((cs.getD i cn0).sp)]) rfl (by kernel_rfl) (by kernel_rfl) rfl rfl (box_part 0 rfl 1 rfl)) ?_
  refine hl_callV rfl rfl rfl (rq_call (by kernel_rfl) rfl (fun w hm => ret_ans (pinOk_yes n ((cs.getD i cn0).sb) ((cs.getD i cn0).sp) w (by omega) (by assumption)))) ?_
  refine hl_v rfl rfl rfl (rv_ev rfl) ?_
  refine hl_v rfl rfl rfl (rv_ev rfl) ?_
  refine hl_less (sx 0 rfl (sx 1 rfl (sx 4 rfl (sx 6 rfl (sx 16 rfl (sx 17 rfl (sx 18 rfl (sx 19 rfl (sx 20 rfl (sx 34 rfl (sub_nil _))))))))))) (.refl _) ?_
  refine hl_nil ?_
  refine hq_then ?_
  refine hc_false rfl ?_
  refine hc_skip ?_
  refine hq_then ?_
  refine hc_seq ?_
  refine hc_region ?_
  refine hl_v rfl rfl rfl (rv_field (k0 := 3) rfl (by kernel_rfl) rfl) ?_
  refine hl_v rfl rfl rfl (rv_load rfl (by kernel_rfl) rfl (box_cell 0 rfl rfl)) ?_
  refine hl_v rfl rfl rfl (rv_len rfl Try.underlying42 rfl (fun w hm => (hc.at (k := i) (by omega)).below hm.bel)) ?_
  refine hl_v rfl rfl rfl (rv_ev rfl) ?_
  refine hl_less (sx 0 rfl (sx 1 rfl (sx 4 rfl (sx 6 rfl (sx 16 rfl (sx 17 rfl (sx 18 rfl (sx 19 rfl (sx 20 rfl (sx 34 rfl (sx 36 rfl (sx 37 rfl (sx 38 rfl (sub_nil _)))))))))))))) (.refl _) ?_
  refine hl_nil ?_
  refine hq_then ?_
  refine hc_block ?_
  refine hc_loop1 (α := Nat) (fun j => [boxE b5 #[.int .i64 ((cs.getD i cn0).nd), .int .i64 ((cs.getD i cn0).sb), .int .i64 ((cs.getD i cn0).sp), (cs.getD i cn0).sv] 44]) (fun j => [(0, .int .i64 n), (1, v), (4, .bool false), (6, .pointer (some ⟨b5, 0, none⟩)), (16, .bool false), (17, v), (18, .int .i64 (cs.length : Int)), (19, .int .i64 (i : Int)), (20, .bool true), (34, .bool false), (36, (cs.getD i cn0).sv), (37, .int .i64 (((cs.getD i cn0).ps).length : Int)), (38, .int .i64 (j : Int))]) (fun j => j ≤ (cs.getD i cn0).ps.length) (fun j => (cs.getD i cn0).ps.length - j) 0 (by omega) (sx 0 rfl (sx 1 rfl (sx 4 rfl (sx 6 rfl (sx 16 rfl (sx 17 rfl (sx 18 rfl (sx 19 rfl (sx 20 rfl (sx 34 rfl (sx 36 rfl (sx 37 rfl (sx 38 rfl (sub_nil _)))))))))))))) ((.cons_cons _ .slnil)) ?_
  intro j hi7
  have hj := hi7
  refine hc_seq ?_
  refine hc_region ?_
  refine hl_lss rfl rfl rfl rfl rfl rfl (fun h8 => ?_) (fun h8 => ?_)
  ·
   refine hl_less (sx 0 rfl (sx 1 rfl (sx 4 rfl (sx 6 rfl (sx 16 rfl (sx 17 rfl (sx 18 rfl (sx 19 rfl (sx 20 rfl (sx 34 rfl (sx 36 rfl (sx 37 rfl (sx 38 rfl (sx 39 rfl (sub_nil _))))))))))))))) (.refl _) ?_
   refine hl_nil ?_
   refine hq_then ?_
   refine hc_seq ?_
   refine hc_true rfl ?_
   refine hc_skip ?_
   refine hq_then ?_
   refine hc_seq ?_
   refine hc_block ?_
   refine hc_seq ?_
   refine hc_region ?_
   refine hl_v rfl rfl rfl (rv_index (s := 2) rfl Try.underlying42 (by kernel_rfl) rfl rfl (fun w hm => (hc.at (k := i) (by omega)).below hm.bel) (by omega) (by first | omega | (simp only [List.length_set]; omega))) ?_
   refine hl_v rfl rfl rfl (rv_loadElN (us := [.int .i64 ((((cs.getD i cn0).ps).getD j pn0).b), .int .i64 ((((cs.getD i cn0).ps).getD j pn0).p)]) rfl (by kernel_rfl) (by kernel_rfl) rfl (fun w hm => (hc.at (k := i) (by omega)).below hm.bel) (by omega) rfl (flat_atN pnC 2 (fun _ => rfl) ((cs.getD i cn0).ps) pn0 (show j < _ by first | omega | (simp only [List.length_set]; omega)) rfl)) ?_
   refine hl_box rfl rfl rfl (rq_alloc (z := .agg #[.int .i64 0, .int .i64 0]) rfl (by kernel_rfl)) ?_
   intro b9
   refine hl_storeBoxN (i := 0) (off := 0) (us := [.int .i64 ((((cs.getD i cn0).ps).getD j pn0).b), .int .i64 ((((cs.getD i cn0).ps).getD j pn0).p)]) (l' := [boxE b9 #[.int .i64 ((((cs.getD i cn0).ps).getD j pn0).b), .int .i64 ((((cs.getD i cn0).ps).getD j pn0).p)] 41, boxE b5 #[.int .i64 ((cs.getD i cn0).nd), .int .i64 ((cs.getD i cn0).sb), .int .i64 ((cs.getD i cn0).sp), (cs.getD i cn0).sv] 44]) rfl rfl rfl (by kernel_rfl) rfl rfl rfl (all_cons rfl (all_cons rfl all_nil)) rfl rfl rfl ?_
   refine hl_less (sx 0 rfl (sx 1 rfl (sx 4 rfl (sx 6 rfl (sx 8 rfl (sx 16 rfl (sx 17 rfl (sx 18 rfl (sx 19 rfl (sx 20 rfl (sx 34 rfl (sx 36 rfl (sx 37 rfl (sx 38 rfl (sx 39 rfl (sub_nil _)))))))))))))))) (.refl _) ?_
   refine hl_nil ?_
   refine hq_then ?_
   refine hc_seq ?_
   refine hc_region ?_
   refine hl_v rfl rfl rfl (rv_ev rfl) ?_
   have hsk := hci.snk j (by omega)
   refine hl_v rfl rfl rfl (rv_loadN (cs := [.int .i64 ((((cs.getD i cn0).ps).getD j pn0).b), .int .i64 ((((cs.getD i cn0).ps).getD j pn0).p)]) rfl (by kernel_rfl) (by kernel_rfl) rfl rfl (box_part 0 rfl 0 rfl)) ?_
   refine hl_callV rfl rfl rfl (rq_call (by kernel_rfl) rfl (fun w hm => ret_ans (pinOk_yes n ((((cs.getD i cn0).ps).getD j pn0).b) ((((cs.getD i cn0).ps).getD j pn0).p) w (by omega) (by assumption)))) ?_
   refine hl_v rfl rfl rfl (rv_ev rfl) ?_
   refine hl_less (sx 0 rfl (sx 1 rfl (sx 4 rfl (sx 6 rfl (sx 8 rfl (sx 16 rfl (sx 17 rfl (sx 18 rfl (sx 19 rfl (sx 20 rfl (sx 34 rfl (sx 36 rfl (sx 37 rfl (sx 38 rfl (sx 39 rfl (sx 45 rfl (sub_nil _))))))))))))))))) (.refl _) ?_
   refine hl_nil ?_
   refine hq_then ?_
   refine hc_false rfl ?_
   refine hc_skip ?_
   refine hq_block_normal ?_
   refine hq_then ?_
   refine hc_region ?_
   refine hl_v rfl rfl rfl (rv_add rfl rfl rfl (by constructor <;> omega)) ?_
   refine hl_v rfl rfl rfl (rv_ev rfl) ?_
   refine hl_less (sx 0 rfl (sx 1 rfl (sx 4 rfl (sx 6 rfl (sx 8 rfl (sx 16 rfl (sx 17 rfl (sx 18 rfl (sx 19 rfl (sx 20 rfl (sx 34 rfl (sx 36 rfl (sx 37 rfl (sx 38 rfl (sx 39 rfl (sx 45 rfl (sub_nil _))))))))))))))))) (.refl _) ?_
   refine hl_nil ?_
   exact hq_round1 (j + 1) (by omega) (by omega) (sx 0 rfl (sx 1 rfl (sx 4 rfl (sx 6 rfl (sx 16 rfl (sx 17 rfl (sx 18 rfl (sx 19 rfl (sx 20 rfl (sx 34 rfl (sx 36 rfl (sx 37 rfl (sx 38 rfl (sub_nil _)))))))))))))) ((.cons _ (.cons_cons _ .slnil)))
  ·
   refine hl_less (sx 0 rfl (sx 1 rfl (sx 4 rfl (sx 6 rfl (sx 16 rfl (sx 17 rfl (sx 18 rfl (sx 19 rfl (sx 20 rfl (sx 34 rfl (sx 36 rfl (sx 37 rfl (sx 38 rfl (sx 39 rfl (sub_nil _))))))))))))))) (.refl _) ?_
   refine hl_nil ?_
   refine hq_then ?_
   refine hc_seq ?_
   refine hc_false rfl ?_
   refine hc_exit ?_
   refine hq_then_exit ?_
   refine hq_then_exit ?_
   refine hq_block_exit ?_
   refine hq_block_normal ?_
   refine hq_then ?_
   refine hc_region ?_
   refine hl_v rfl rfl rfl (rv_add rfl rfl rfl (by constructor <;> omega)) ?_
   refine hl_v rfl rfl rfl (rv_ev rfl) ?_
   refine hl_less (sx 0 rfl (sx 1 rfl (sx 4 rfl (sx 6 rfl (sx 16 rfl (sx 17 rfl (sx 18 rfl (sx 19 rfl (sx 20 rfl (sx 34 rfl (sx 36 rfl (sx 37 rfl (sx 38 rfl (sx 39 rfl (sub_nil _))))))))))))))) (.refl _) ?_
   refine hl_nil ?_
   exact hq_round1 (i + 1) (by omega) (by omega) (sx 0 rfl (sx 1 rfl (sx 4 rfl (sx 16 rfl (sx 17 rfl (sx 18 rfl (sx 19 rfl (sub_nil _)))))))) ((.cons _ .slnil))
 ·
  refine hl_less (sx 0 rfl (sx 1 rfl (sx 4 rfl (sx 16 rfl (sx 17 rfl (sx 18 rfl (sx 19 rfl (sx 20 rfl (sub_nil _))))))))) (.refl _) ?_
  refine hl_nil ?_
  refine hq_then ?_
  refine hc_seq ?_
  refine hc_false rfl ?_
  refine hc_exit ?_
  refine hq_then_exit ?_
  refine hq_then_exit ?_
  refine hq_block_exit ?_
  refine hq_then ?_
  refine hc_seq ?_
  refine hc_region ?_
  refine hl_v rfl rfl rfl (rv_ev rfl) ?_
  refine hl_less (sx 0 rfl (sx 1 rfl (sx 4 rfl (sx 16 rfl (sx 17 rfl (sx 18 rfl (sx 19 rfl (sx 20 rfl (sub_nil _))))))))) (.refl _) ?_
  refine hl_nil ?_
  refine hq_then ?_
  refine hc_ret ?_
  exact hq_ans rfl rfl rfl
set_option maxHeartbeats 4000000 in
set_option maxRecDepth 100000 in
theorem SourceNode_ans (d : Dev) (pl : List Int) (pv : Value) (c : Cn) (w : World) (hpl : RdsW w pv 1 pl.length (pl.map (Value.int .i64))) (hpn : pl.length ≤ 64) (hs : PnOk pl.length c.sb c.sp) (h1 : c.sv.oneCell' = true) :
  Calls Try.prog 20 #[.agg #[.int .i64 d.W, .int .i64 d.H, .int .i64 d.T, .int .i64 d.R], pv, .agg #[.int .i64 c.nd, .int .i64 c.sb, .int .i64 c.sp, c.sv]] w (Ans w (.int .i64 (outPinI d (pl.getD c.sb.toNat 0) c.sp))) := by
 obtain ⟨q1, q2, q3, q4⟩ := hs
 refine calls_hc (N := 26) (args := [.agg #[.int .i64 d.W, .int .i64 d.H, .int .i64 d.T, .int .i64 d.R], pv, .agg #[.int .i64 c.nd, .int .i64 c.sb, .int .i64 c.sp, c.sv]]) Try.func20 rfl rfl ?_
 refine hc_less _ (sx 0 rfl (sx 1 rfl (sx 2 rfl (sub_nil _)))) (.refl _) ?_
 refine hc_seq ?_
 refine hc_region ?_
 refine hl_box rfl rfl rfl (rq_box rfl rfl) ?_
 intro b1
 refine hl_box rfl rfl rfl (rq_box rfl rfl) ?_
 intro b2
 refine hl_v rfl rfl rfl (rv_ev rfl) ?_
 refine hl_less (sx 0 rfl (sx 1 rfl (sx 2 rfl (sx 3 rfl (sx 5 rfl (sx 6 rfl (sub_nil _))))))) (.refl _) ?_
 refine hl_nil ?_
 refine hq_then ?_
 refine hc_seq ?_
 refine hc_seq ?_
 refine hc_region ?_
 refine hl_v rfl rfl rfl (rv_field (k0 := 1) rfl (by kernel_rfl) rfl) ?_
 refine hl_v rfl rfl rfl (rv_field (k0 := 0) rfl (by kernel_rfl) rfl) ?_
 refine hl_v rfl rfl rfl (rv_load rfl (by kernel_rfl) rfl (box_cell 0 rfl rfl)) ?_
 refine hl_v rfl rfl rfl (rv_ev rfl) ?_
 refine hl_v rfl rfl rfl (rv_len rfl Try.underlying26 rfl (rd_old hpl)) ?_
 refine hl_v rfl rfl rfl (rv_sub rfl rfl rfl (by constructor <;> omega)) ?_
 refine hl_callV rfl rfl rfl (rq_call (by kernel_rfl) rfl (fun w hm => ret_ans (ans_of (inRange_any _ _ _ w)))) ?_
 refine hl_bool (fun h3 => ?_) (fun h3 => absurd (((inr_in (by omega))).symm.trans h3) (by decide))
 refine hl_v rfl rfl rfl (rv_ev rfl) ?_
 refine hl_less (sx 0 rfl (sx 1 rfl (sx 2 rfl (sx 3 rfl (sx 5 rfl (sx 6 rfl (sx 14 rfl (sub_nil _)))))))) (.refl _) ?_
 refine hl_nil ?_
 refine hq_then ?_
 refine hc_false rfl ?_
 refine hc_skip ?_
 refine hq_then ?_
 refine hc_seq ?_
 refine hc_draw (by kernel_rfl) 11 [0, 1, 2, 3, 4, 5, 6, 7, 8, 9, 10] (List.take 11 _) (List.drop 11 _) [[], [], [], [2], [3], [1, 4], [5], [], [7], [8], [0, 6, 9]] [15, 16, 17, 18, 19, 20, 21, 22, 23, 24, 25] (fun i_ vs_ v_ p_ => match i_ with | 0 => v_ = .agg #[.int .i64 d.W, .int .i64 d.H, .int .i64 d.T, .int .i64 d.R] ∧ p_ = [] | 1 => v_ = pv ∧ p_ = [] | 2 => v_ = .pointer (some ⟨b2, 0 + 1, none⟩) ∧ p_ = [] | 3 => v_ = .pointer (some ⟨b2, 0 + 1 + 0, none⟩) ∧ p_ = [] | 4 => v_ = .int .i64 c.sb ∧ p_ = [] | 5 => v_ = elP pv ((c.sb).toNat * 1) ∧ p_ = [] | 6 => v_ = .int .i64 (pl.getD ((c.sb).toNat) 0) ∧ p_ = [] | 7 => v_ = .pointer (some ⟨b2, 0 + 1, none⟩) ∧ p_ = [] | 8 => v_ = .pointer (some ⟨b2, 0 + 1 + 1, none⟩) ∧ p_ = [] | 9 => v_ = .int .i64 c.sp ∧ p_ = [] | 10 => v_ = .int .i64 (outPinI d (pl.getD ((c.sb).toNat) 0) c.sp) ∧ p_ = [] | _ => True) (List.take_append_drop 11 _).symm (by kernel_rfl) (by kernel_rfl) rfl rfl ?_ ?_
 ·
  refine ⟨?_, ?_, ?_, ?_, ?_, ?_, ?_, ?_, ?_, ?_, ?_, trivial⟩
  ·
   intro vf pf hR
   refine Or.inl ⟨rfl, ?_⟩
   refine rq_less (sx 3 rfl (sub_nil _)) (List.sublist_append_right _ _) ?_
   exact rq_v (rv_loadN (cs := [.int .i64 d.W, .int .i64 d.H, .int .i64 d.T, .int .i64 d.R]) rfl (by kernel_rfl) (by kernel_rfl) rfl rfl (box_part 1 rfl 0 rfl))
  ·
   intro vf pf hR
   refine Or.inl ⟨rfl, ?_⟩
   refine rq_less (sx 1 rfl (sub_nil _)) (List.sublist_append_right _ _) ?_
   exact rq_v (rv_ev rfl)
  ·
   intro vf pf hR
   refine Or.inl ⟨rfl, ?_⟩
   refine rq_less (sx 5 rfl (sub_nil _)) (List.sublist_append_right _ _) ?_
   exact rq_v (rv_field (k0 := 1) rfl (by kernel_rfl) rfl)
  ·
   intro vf pf hR
   have e2 : (vf 2) = .pointer (some ⟨b2, 0 + 1, none⟩) ∧ (pf 2) = [] := hR 2 (by decide)
   refine Or.inl ⟨rfl, ?_⟩
   refine rq_less (sx 17 (congrArg some e2.1) (sub_nil _)) (List.sublist_append_right _ _) ?_
   exact rq_v (rv_field (k0 := 0) rfl (by kernel_rfl) rfl)
  ·
   intro vf pf hR
   have e3 : (vf 3) = .pointer (some ⟨b2, 0 + 1 + 0, none⟩) ∧ (pf 3) = [] := hR 3 (by decide)
   refine Or.inl ⟨rfl, ?_⟩
   refine rq_less (sx 18 (congrArg some e3.1) (sub_nil _)) (List.sublist_append_right _ _) ?_
   exact rq_v (rv_load rfl (by kernel_rfl) rfl (box_cell 0 rfl rfl))
  ·
   intro vf pf hR
   have e1 : (vf 1) = pv ∧ (pf 1) = [] := hR 1 (by decide)
   have e4 : (vf 4) = .int .i64 c.sb ∧ (pf 4) = [] := hR 4 (by decide)
   refine Or.inl ⟨rfl, ?_⟩
   refine rq_less (sx 16 (congrArg some e1.1) (sx 19 (congrArg some e4.1) (sub_nil _))) (List.sublist_append_right _ _) ?_
   exact rq_v (rv_index (s := 1) rfl Try.underlying26 (by kernel_rfl) rfl rfl (rd_old hpl) (by omega) (by first | omega | (simp only [List.length_set]; omega)))
  ·
   intro vf pf hR
   have e5 : (vf 5) = elP pv ((c.sb).toNat * 1) ∧ (pf 5) = [] := hR 5 (by decide)
   refine Or.inl ⟨rfl, ?_⟩
   refine rq_less (sx 20 (congrArg some e5.1) (sub_nil _)) (List.sublist_append_right _ _) ?_
   exact rq_v (rv_loadEl (u := .int .i64 (pl.getD ((c.sb).toNat) 0)) rfl (by kernel_rfl) rfl (rd_old hpl) (ints_at1 (show _ < pl.length by first | omega | (simp only [List.length_set]; omega))))
  ·
   intro vf pf hR
   refine Or.inl ⟨rfl, ?_⟩
   refine rq_less (sx 5 rfl (sub_nil _)) (List.sublist_append_right _ _) ?_
   exact rq_v (rv_field (k0 := 1) rfl (by kernel_rfl) rfl)
  ·
   intro vf pf hR
   have e7 : (vf 7) = .pointer (some ⟨b2, 0 + 1, none⟩) ∧ (pf 7) = [] := hR 7 (by decide)
   refine Or.inl ⟨rfl, ?_⟩
   refine rq_less (sx 22 (congrArg some e7.1) (sub_nil _)) (List.sublist_append_right _ _) ?_
   exact rq_v (rv_field (k0 := 1) rfl (by kernel_rfl) rfl)
  ·
   intro vf pf hR
   have e8 : (vf 8) = .pointer (some ⟨b2, 0 + 1 + 1, none⟩) ∧ (pf 8) = [] := hR 8 (by decide)
   refine Or.inl ⟨rfl, ?_⟩
   refine rq_less (sx 23 (congrArg some e8.1) (sub_nil _)) (List.sublist_append_right _ _) ?_
   exact rq_v (rv_load rfl (by kernel_rfl) rfl (box_cell 0 rfl rfl))
  ·
   intro vf pf hR
   have e0 : (vf 0) = .agg #[.int .i64 d.W, .int .i64 d.H, .int .i64 d.T, .int .i64 d.R] ∧ (pf 0) = [] := hR 0 (by decide)
   have e6 : (vf 6) = .int .i64 (pl.getD ((c.sb).toNat) 0) ∧ (pf 6) = [] := hR 6 (by decide)
   have e9 : (vf 9) = .int .i64 c.sp ∧ (pf 9) = [] := hR 9 (by decide)
   refine Or.inl ⟨rfl, ?_⟩
   refine rq_less (sx 15 (congrArg some e0.1) (sx 21 (congrArg some e6.1) (sx 24 (congrArg some e9.1) (sub_nil _)))) (List.sublist_append_right _ _) ?_
   exact (rq_call (by kernel_rfl) rfl (fun w hm => ret_ans (outPin_ans d (pl.getD ((c.sb).toNat) 0) c.sp w (by omega) (by omega))))
 ·
  intro vf pf hR
  have e10 : (vf 10) = .int .i64 (outPinI d (pl.getD ((c.sb).toNat) 0) c.sp) ∧ (pf 10) = [] := hR 10 (by decide)
  refine hl_less (l' := [boxE b2 #[.int .i64 c.nd, .int .i64 c.sb, .int .i64 c.sp, c.sv] 44, boxE b1 #[.int .i64 d.W, .int .i64 d.H, .int .i64 d.T, .int .i64 d.R] 25]) (sx 0 rfl (sx 1 rfl (sx 2 rfl (sx 3 rfl (sx 5 rfl (sx 6 rfl (sx 14 rfl (sx 25 (congrArg some e10.1) (sub_nil _))))))))) (List.sublist_append_right _ _) ?_
  simp only [List.drop_succ_cons, List.drop_zero]
  refine hl_v rfl rfl rfl (rv_ev rfl) ?_
  refine hl_less (sx 0 rfl (sx 1 rfl (sx 2 rfl (sx 3 rfl (sx 5 rfl (sx 6 rfl (sx 14 rfl (sub_nil _)))))))) (.refl _) ?_
  refine hl_nil ?_
  refine hq_then ?_
  refine hc_ret ?_
  exact hq_ans rfl rfl rfl
set_option maxHeartbeats 4000000 in
set_option maxRecDepth 100000 in
theorem SinkNodes_ret (d : Dev) (pl : List Int) (pv : Value) (c : Cn) (w : World) (hpl : RdsW w pv 1 pl.length (pl.map (Value.int .i64))) (hpn : pl.length ≤ 64) (hc : RdsW w c.sv 2 c.ps.length (c.ps.flatMap pnC)) (hcl : c.ps.length ≤ 120) (hok : ∀ k, k < c.ps.length → PnOk pl.length (c.ps.getD k pn0).b (c.ps.getD k pn0).p) (hin : ∀ k, k < c.ps.length → 0 ≤ inPinI d (pl.getD (c.ps.getD k pn0).b.toNat 0) (c.ps.getD k pn0).p) :
  Calls Try.prog 21 #[.agg #[.int .i64 d.W, .int .i64 d.H, .int .i64 d.T, .int .i64 d.R], pv, .agg #[.int .i64 c.nd, .int .i64 c.sb, .int .i64 c.sp, c.sv]] w (Ret w (fun v' post => post = [rowE 3 1 v' (snkL d pl c.ps c.ps.length).length ((snkL d pl c.ps c.ps.length).map (Value.int .i64))])) := by
 refine calls_hc (N := 42) (args := [.agg #[.int .i64 d.W, .int .i64 d.H, .int .i64 d.T, .int .i64 d.R], pv, .agg #[.int .i64 c.nd, .int .i64 c.sb, .int .i64 c.sp, c.sv]]) Try.func21 rfl rfl ?_
 refine hc_less _ (sx 0 rfl (sx 1 rfl (sx 2 rfl (sub_nil _)))) (.refl _) ?_
 refine hc_seq ?_
 refine hc_region ?_
 refine hl_box rfl rfl rfl (rq_box rfl rfl) ?_
 intro b1
 refine hl_box rfl rfl rfl (rq_box rfl rfl) ?_
 intro b2
 refine hl_v rfl rfl rfl (rv_ev rfl) ?_
 refine hl_less (sx 0 rfl (sx 1 rfl (sx 2 rfl (sx 3 rfl (sx 5 rfl (sx 6 rfl (sub_nil _))))))) (.refl _) ?_
 refine hl_nil ?_
 refine hq_then ?_
 refine hc_seq ?_
 refine hc_region ?_
 refine hl_nilRow 3 1 ?_
 refine hl_v rfl rfl rfl (rv_ev rfl) ?_
 refine hl_less (sx 0 rfl (sx 1 rfl (sx 2 rfl (sx 3 rfl (sx 5 rfl (sx 6 rfl (sx 7 rfl (sub_nil _)))))))) (.refl _) ?_
 refine hl_nil ?_
 refine hq_then ?_
 refine hc_seq ?_
 refine hc_seq ?_
 refine hc_region ?_
 refine hl_v rfl rfl rfl (rv_field (k0 := 3) rfl (by kernel_rfl) rfl) ?_
 refine hl_v rfl rfl rfl (rv_load rfl (by kernel_rfl) rfl (box_cell 1 rfl rfl)) ?_
 refine hl_v rfl rfl rfl (rv_len rfl Try.underlying42 rfl (rd_old hc)) ?_
 refine hl_v rfl rfl rfl (rv_ev rfl) ?_
 refine hl_less (sx 0 rfl (sx 1 rfl (sx 2 rfl (sx 3 rfl (sx 5 rfl (sx 6 rfl (sx 7 rfl (sx 12 rfl (sx 13 rfl (sx 14 rfl (sub_nil _))))))))))) (.refl _) ?_
 refine hl_nil ?_
 refine hq_then ?_
 refine hc_block ?_
 refine hc_loop3 (α := Nat) (β := Value) (γ := List Int) (fun i u zs => [rowE 3 1 u zs.length (zs.map (Value.int .i64)), boxE b2 #[.int .i64 c.nd, .int .i64 c.sb, .int .i64 c.sp, c.sv] 44, boxE b1 #[.int .i64 d.W, .int .i64 d.H, .int .i64 d.T, .int .i64 d.R] 25]) (fun i u zs => [(0, .agg #[.int .i64 d.W, .int .i64 d.H, .int .i64 d.T, .int .i64 d.R]), (1, pv), (2, .agg #[.int .i64 c.nd, .int .i64 c.sb, .int .i64 c.sp, c.sv]), (3, .pointer (some ⟨b1, 0, none⟩)), (5, .pointer (some ⟨b2, 0, none⟩)), (6, .slice none 0 0), (7, u), (12, c.sv), (13, .int .i64 (c.ps.length : Int)), (14, .int .i64 (i : Int))]) (fun i u zs => i ≤ c.ps.length ∧ zs = snkL d pl c.ps i) (fun i u zs => c.ps.length - i) 0 _ [] ⟨by omega, rfl⟩ (sx 0 rfl (sx 1 rfl (sx 2 rfl (sx 3 rfl (sx 5 rfl (sx 6 rfl (sx 7 rfl (sx 12 rfl (sx 13 rfl (sx 14 rfl (sub_nil _))))))))))) ((.cons_cons _ (.cons_cons _ (.cons_cons _ .slnil)))) ?_
 intro i u zs hi4
 obtain ⟨hi, hz⟩ := hi4
 have hzl : zs.length = i := by rw [hz, snk_len _ _ hi]
 refine hc_seq ?_
 refine hc_region ?_
 refine hl_lss rfl rfl rfl rfl rfl rfl (fun h5 => ?_) (fun h5 => ?_)
 ·
  refine hl_less (sx 0 rfl (sx 1 rfl (sx 2 rfl (sx 3 rfl (sx 5 rfl (sx 6 rfl (sx 7 rfl (sx 12 rfl (sx 13 rfl (sx 14 rfl (sx 15 rfl (sub_nil _)))))))))))) (.refl _) ?_
  refine hl_nil ?_
  refine hq_then ?_
  refine hc_seq ?_
  refine hc_true rfl ?_
  refine hc_skip ?_
  refine hq_then ?_
  refine hc_seq ?_
  refine hc_block ?_
  refine hc_seq ?_
  refine hc_region ?_
  refine hl_v rfl rfl rfl (rv_index (s := 2) rfl Try.underlying42 (by kernel_rfl) rfl rfl (rd_old hc) (by omega) (by first | omega | (simp only [List.length_set]; omega))) ?_
  refine hl_v rfl rfl rfl (rv_loadElN (us := [.int .i64 ((c.ps.getD i pn0).b), .int .i64 ((c.ps.getD i pn0).p)]) rfl (by kernel_rfl) (by kernel_rfl) rfl (rd_old hc) (by omega) rfl (flat_atN pnC 2 (fun _ => rfl) c.ps pn0 (show i < _ by first | omega | (simp only [List.length_set]; omega)) rfl)) ?_
  refine hl_box rfl rfl rfl (rq_alloc (z := .agg #[.int .i64 0, .int .i64 0]) rfl (by kernel_rfl)) ?_
  intro b6
  refine hl_storeBoxN (i := 0) (off := 0) (us := [.int .i64 ((c.ps.getD i pn0).b), .int .i64 ((c.ps.getD i pn0).p)]) (l' := [boxE b6 #[.int .i64 ((c.ps.getD i pn0).b), .int .i64 ((c.ps.getD i pn0).p)] 41, rowE 3 1 u zs.length (zs.map (Value.int .i64)), boxE b2 #[.int .i64 c.nd, .int .i64 c.sb, .int .i64 c.sp, c.sv] 44, boxE b1 #[.int .i64 d.W, .int .i64 d.H, .int .i64 d.T, .int .i64 d.R] 25]) rfl rfl rfl (by kernel_rfl) rfl rfl rfl (all_cons rfl (all_cons rfl all_nil)) rfl rfl rfl ?_
  refine hl_less (sx 0 rfl (sx 1 rfl (sx 2 rfl (sx 3 rfl (sx 5 rfl (sx 6 rfl (sx 7 rfl (sx 9 rfl (sx 12 rfl (sx 13 rfl (sx 14 rfl (sx 15 rfl (sub_nil _))))))))))))) (.refl _) ?_
  refine hl_nil ?_
  refine hq_then ?_
  refine hc_seq ?_
  refine hc_seq ?_
  refine hc_region ?_
  obtain ⟨p1, p2, p3, p4⟩ := hok i (by omega)
  have hi9 := hin i (by omega)
  refine hl_v rfl rfl rfl (rv_field (k0 := 0) rfl (by kernel_rfl) rfl) ?_
  refine hl_v rfl rfl rfl (rv_load rfl (by kernel_rfl) rfl (box_cell 0 rfl rfl)) ?_
  refine hl_v rfl rfl rfl (rv_ev rfl) ?_
  refine hl_v rfl rfl rfl (rv_len rfl Try.underlying26 rfl (rd_old hpl)) ?_
  refine hl_v rfl rfl rfl (rv_sub rfl rfl rfl (by constructor <;> omega)) ?_
  refine hl_callV rfl rfl rfl (rq_call (by kernel_rfl) rfl (fun w hm => ret_ans (ans_of (inRange_any _ _ _ w)))) ?_
  refine hl_bool (fun h7 => ?_) (fun h7 => absurd (((inr_in (by omega))).symm.trans h7) (by decide))
  refine hl_v rfl rfl rfl (rv_ev rfl) ?_
  refine hl_less (sx 0 rfl (sx 1 rfl (sx 2 rfl (sx 3 rfl (sx 5 rfl (sx 6 rfl (sx 7 rfl (sx 9 rfl (sx 12 rfl (sx 13 rfl (sx 14 rfl (sx 15 rfl (sx 24 rfl (sub_nil _)))))))))))))) (.refl _) ?_
  refine hl_nil ?_
  refine hq_then ?_
  refine hc_false rfl ?_
  refine hc_skip ?_
  refine hq_then ?_
  refine hc_seq ?_
  refine hc_draw (by kernel_rfl) 9 [0, 1, 2, 3, 4, 5, 6, 7, 8] (List.take 9 _) (List.drop 9 _) [[], [], [], [2], [1, 3], [4], [], [6], [0, 5, 7]] [25, 26, 27, 28, 29, 30, 31, 32, 33] (fun i_ vs_ v_ p_ => match i_ with | 0 => v_ = .agg #[.int .i64 d.W, .int .i64 d.H, .int .i64 d.T, .int .i64 d.R] ∧ p_ = [] | 1 => v_ = pv ∧ p_ = [] | 2 => v_ = .pointer (some ⟨b6, 0 + 0, none⟩) ∧ p_ = [] | 3 => v_ = .int .i64 ((c.ps.getD i pn0).b) ∧ p_ = [] | 4 => v_ = elP pv (((c.ps.getD i pn0).b).toNat * 1) ∧ p_ = [] | 5 => v_ = .int .i64 (pl.getD (((c.ps.getD i pn0).b).toNat) 0) ∧ p_ = [] | 6 => v_ = .pointer (some ⟨b6, 0 + 1, none⟩) ∧ p_ = [] | 7 => v_ = .int .i64 ((c.ps.getD i pn0).p) ∧ p_ = [] | 8 => v_ = .int .i64 (inPinI d (pl.getD (((c.ps.getD i pn0).b).toNat) 0) ((c.ps.getD i pn0).p)) ∧ p_ = [] | _ => True) (List.take_append_drop 9 _).symm (by kernel_rfl) (by kernel_rfl) rfl rfl ?_ ?_
  ·
   refine ⟨?_, ?_, ?_, ?_, ?_, ?_, ?_, ?_, ?_, trivial⟩
   ·
    intro vf pf hR
    refine Or.inl ⟨rfl, ?_⟩
    refine rq_less (sx 3 rfl (sub_nil _)) (List.sublist_append_right _ _) ?_
    exact rq_v (rv_loadN (cs := [.int .i64 d.W, .int .i64 d.H, .int .i64 d.T, .int .i64 d.R]) rfl (by kernel_rfl) (by kernel_rfl) rfl rfl (box_part 3 rfl 0 rfl))
   ·
    intro vf pf hR
    refine Or.inl ⟨rfl, ?_⟩
    refine rq_less (sx 1 rfl (sub_nil _)) (List.sublist_append_right _ _) ?_
    exact rq_v (rv_ev rfl)
   ·
    intro vf pf hR
    refine Or.inl ⟨rfl, ?_⟩
    refine rq_less (sx 9 rfl (sub_nil _)) (List.sublist_append_right _ _) ?_
    exact rq_v (rv_field (k0 := 0) rfl (by kernel_rfl) rfl)
   ·
    intro vf pf hR
    have e2 : (vf 2) = .pointer (some ⟨b6, 0 + 0, none⟩) ∧ (pf 2) = [] := hR 2 (by decide)
    refine Or.inl ⟨rfl, ?_⟩
    refine rq_less (sx 27 (congrArg some e2.1) (sub_nil _)) (List.sublist_append_right _ _) ?_
    exact rq_v (rv_load rfl (by kernel_rfl) rfl (box_cell 0 rfl rfl))
   ·
    intro vf pf hR
    have e1 : (vf 1) = pv ∧ (pf 1) = [] := hR 1 (by decide)
    have e3 : (vf 3) = .int .i64 ((c.ps.getD i pn0).b) ∧ (pf 3) = [] := hR 3 (by decide)
    refine Or.inl ⟨rfl, ?_⟩
    refine rq_less (sx 26 (congrArg some e1.1) (sx 28 (congrArg some e3.1) (sub_nil _))) (List.sublist_append_right _ _) ?_
    exact rq_v (rv_index (s := 1) rfl Try.underlying26 (by kernel_rfl) rfl rfl (rd_old hpl) (by omega) (by first | omega | (simp only [List.length_set]; omega)))
   ·
    intro vf pf hR
    have e4 : (vf 4) = elP pv (((c.ps.getD i pn0).b).toNat * 1) ∧ (pf 4) = [] := hR 4 (by decide)
    refine Or.inl ⟨rfl, ?_⟩
    refine rq_less (sx 29 (congrArg some e4.1) (sub_nil _)) (List.sublist_append_right _ _) ?_
    exact rq_v (rv_loadEl (u := .int .i64 (pl.getD (((c.ps.getD i pn0).b).toNat) 0)) rfl (by kernel_rfl) rfl (rd_old hpl) (ints_at1 (show _ < pl.length by first | omega | (simp only [List.length_set]; omega))))
   ·
    intro vf pf hR
    refine Or.inl ⟨rfl, ?_⟩
    refine rq_less (sx 9 rfl (sub_nil _)) (List.sublist_append_right _ _) ?_
    exact rq_v (rv_field (k0 := 1) rfl (by kernel_rfl) rfl)
   ·
    intro vf pf hR
    have e6 : (vf 6) = .pointer (some ⟨b6, 0 + 1, none⟩) ∧ (pf 6) = [] := hR 6 (by decide)
    refine Or.inl ⟨rfl, ?_⟩
    refine rq_less (sx 31 (congrArg some e6.1) (sub_nil _)) (List.sublist_append_right _ _) ?_
    exact rq_v (rv_load rfl (by kernel_rfl) rfl (box_cell 0 rfl rfl))
   ·
    intro vf pf hR
    have e0 : (vf 0) = .agg #[.int .i64 d.W, .int .i64 d.H, .int .i64 d.T, .int .i64 d.R] ∧ (pf 0) = [] := hR 0 (by decide)
    have e5 : (vf 5) = .int .i64 (pl.getD (((c.ps.getD i pn0).b).toNat) 0) ∧ (pf 5) = [] := hR 5 (by decide)
    have e7 : (vf 7) = .int .i64 ((c.ps.getD i pn0).p) ∧ (pf 7) = [] := hR 7 (by decide)
    refine Or.inl ⟨rfl, ?_⟩
    refine rq_less (sx 25 (congrArg some e0.1) (sx 30 (congrArg some e5.1) (sx 32 (congrArg some e7.1) (sub_nil _)))) (List.sublist_append_right _ _) ?_
    exact (rq_call (by kernel_rfl) rfl (fun w hm => ret_ans (inPin_ans d (pl.getD (((c.ps.getD i pn0).b).toNat) 0) ((c.ps.getD i pn0).p) w (by omega) (by omega))))
  ·
   intro vf pf hR
   have e8 : (vf 8) = .int .i64 (inPinI d (pl.getD (((c.ps.getD i pn0).b).toNat) 0) ((c.ps.getD i pn0).p)) ∧ (pf 8) = [] := hR 8 (by decide)
   refine hl_less (l' := [boxE b6 #[.int .i64 ((c.ps.getD i pn0).b), .int .i64 ((c.ps.getD i pn0).p)] 41, rowE 3 1 u zs.length (zs.map (Value.int .i64)), boxE b2 #[.int .i64 c.nd, .int .i64 c.sb, .int .i64 c.sp, c.sv] 44, boxE b1 #[.int .i64 d.W, .int .i64 d.H, .int .i64 d.T, .int .i64 d.R] 25]) (sx 0 rfl (sx 1 rfl (sx 2 rfl (sx 3 rfl (sx 5 rfl (sx 6 rfl (sx 7 rfl (sx 9 rfl (sx 12 rfl (sx 13 rfl (sx 14 rfl (sx 15 rfl (sx 24 rfl (sx 33 (congrArg some e8.1) (sub_nil _))))))))))))))) (List.sublist_append_right _ _) ?_
   simp only [List.drop_succ_cons, List.drop_zero]
   refine hl_v rfl rfl rfl (rv_ev rfl) ?_
   refine hl_less (sx 0 rfl (sx 1 rfl (sx 2 rfl (sx 3 rfl (sx 5 rfl (sx 6 rfl (sx 7 rfl (sx 9 rfl (sx 10 rfl (sx 12 rfl (sx 13 rfl (sx 14 rfl (sx 15 rfl (sx 24 rfl (sub_nil _))))))))))))))) (.refl _) ?_
   refine hl_nil ?_
   refine hq_then ?_
   refine hc_seq ?_
   refine hc_seq ?_
   refine hc_region ?_
   refine hl_v rfl rfl rfl (rv_ev rfl) ?_
   refine hl_lss rfl rfl rfl rfl rfl rfl (fun h8 => absurd h8 (by omega)) (fun h8 => ?_)
   refine hl_less (sx 0 rfl (sx 1 rfl (sx 2 rfl (sx 3 rfl (sx 5 rfl (sx 6 rfl (sx 7 rfl (sx 9 rfl (sx 10 rfl (sx 12 rfl (sx 13 rfl (sx 14 rfl (sx 15 rfl (sx 24 rfl (sx 35 rfl (sub_nil _)))))))))))))))) (.refl _) ?_
   refine hl_nil ?_
   refine hq_then ?_
   refine hc_false rfl ?_
   refine hc_skip ?_
   refine hq_then ?_
   refine hc_region ?_
   refine hl_v rfl rfl rfl (rv_ev rfl) ?_
   refine hl_v rfl rfl rfl (rv_ev rfl) ?_
   refine hl_row rfl rfl rfl (rq_buildSlice (z := .int .i64 0) (s := 1) (cs := ([inPinI d (pl.getD (((c.ps.getD i pn0).b).toNat) 0) ((c.ps.getD i pn0).p)].map (Value.int .i64))) rfl Try.underlying26 (by kernel_rfl) (by decide) rfl (by kernel_rfl) rfl) ?_
   intro g9
   refine hl_append (i := 2) (z := .int .i64 0) (bytes := 8) (n' := (zs ++ ([inPinI d (pl.getD (((c.ps.getD i pn0).b).toNat) 0) ((c.ps.getD i pn0).p)])).length) (xs' := ((zs ++ ([inPinI d (pl.getD (((c.ps.getD i pn0).b).toNat) 0) ((c.ps.getD i pn0).p)])).map (Value.int .i64))) (L := fun v10 => [rowE 3 1 (.slice (some ⟨g9, 0, none⟩) 1 1) 1 ([inPinI d (pl.getD (((c.ps.getD i pn0).b).toNat) 0) ((c.ps.getD i pn0).p)].map (Value.int .i64)), boxE b6 #[.int .i64 ((c.ps.getD i pn0).b), .int .i64 ((c.ps.getD i pn0).p)] 41, rowE 3 1 v10 ((zs ++ ([inPinI d (pl.getD (((c.ps.getD i pn0).b).toNat) 0) ((c.ps.getD i pn0).p)])).length) ((zs ++ ([inPinI d (pl.getD (((c.ps.getD i pn0).b).toNat) 0) ((c.ps.getD i pn0).p)])).map (Value.int .i64)), boxE b2 #[.int .i64 c.nd, .int .i64 c.sb, .int .i64 c.sp, c.sv] 44, boxE b1 #[.int .i64 d.W, .int .i64 d.H, .int .i64 d.T, .int .i64 d.R] 25]) rfl rfl rfl rfl Try.underlying26 (by kernel_rfl) (by kernel_rfl) rfl rfl rfl (rd_row 0 rfl) (ints_one _) (by first | omega | (simp; omega)) (len_app zs ([inPinI d (pl.getD (((c.ps.getD i pn0).b).toNat) 0) ((c.ps.getD i pn0).p)])) (ints_app zs ([inPinI d (pl.getD (((c.ps.getD i pn0).b).toNat) 0) ((c.ps.getD i pn0).p)])) (fun _ => rfl) ?_
   intro v10
   refine hl_v rfl rfl rfl (rv_ev rfl) ?_
   refine hl_less (sx 0 rfl (sx 1 rfl (sx 2 rfl (sx 3 rfl (sx 5 rfl (sx 6 rfl (sx 7 rfl (sx 9 rfl (sx 10 rfl (sx 12 rfl (sx 13 rfl (sx 14 rfl (sx 15 rfl (sx 24 rfl (sx 35 rfl (sub_nil _)))))))))))))))) (.refl _) ?_
   refine hl_nil ?_
   refine hq_block_normal ?_
   refine hq_then ?_
   refine hc_region ?_
   refine hl_v rfl rfl rfl (rv_add rfl rfl rfl (by constructor <;> omega)) ?_
   refine hl_v rfl rfl rfl (rv_ev rfl) ?_
   refine hl_less (sx 0 rfl (sx 1 rfl (sx 2 rfl (sx 3 rfl (sx 5 rfl (sx 6 rfl (sx 7 rfl (sx 9 rfl (sx 10 rfl (sx 12 rfl (sx 13 rfl (sx 14 rfl (sx 15 rfl (sx 24 rfl (sx 35 rfl (sub_nil _)))))))))))))))) (.refl _) ?_
   refine hl_nil ?_
   exact hq_round3 (i + 1) v10 (zs ++ ([inPinI d (pl.getD (((c.ps.getD i pn0).b).toNat) 0) ((c.ps.getD i pn0).p)])) ⟨by omega, by rw [hz]; exact snk_step d pl (by omega)⟩ (by omega) (sx 0 rfl (sx 1 rfl (sx 2 rfl (sx 3 rfl (sx 5 rfl (sx 6 rfl (sx 7 rfl (sx 12 rfl (sx 13 rfl (sx 14 rfl (sub_nil _))))))))))) ((.cons _ (.cons _ (.cons_cons _ (.cons_cons _ (.cons_cons _ .slnil))))))
 ·
  refine hl_less (sx 0 rfl (sx 1 rfl (sx 2 rfl (sx 3 rfl (sx 5 rfl (sx 6 rfl (sx 7 rfl (sx 12 rfl (sx 13 rfl (sx 14 rfl (sx 15 rfl (sub_nil _)))))))))))) (.refl _) ?_
  refine hl_nil ?_
  refine hq_then ?_
  refine hc_seq ?_
  refine hc_false rfl ?_
  refine hc_exit ?_
  refine hq_then_exit ?_
  refine hq_then_exit ?_
  refine hq_block_exit ?_
  refine hq_then ?_
  refine hc_seq ?_
  refine hc_region ?_
  refine hl_v rfl rfl rfl (rv_ev rfl) ?_
  refine hl_v rfl rfl rfl (rv_ev rfl) ?_
  refine hl_less (sx 0 rfl (sx 1 rfl (sx 2 rfl (sx 3 rfl (sx 5 rfl (sx 6 rfl (sx 7 rfl (sx 12 rfl (sx 13 rfl (sx 14 rfl (sx 15 rfl (sub_nil _)))))))))))) (.refl _) ?_
  refine hl_nil ?_
  refine hq_then ?_
  refine hc_ret ?_
  exact hq_retR (post := [rowE 3 1 u zs.length (zs.map (Value.int .i64))]) rfl rfl ((.cons_cons _ (.cons _ (.cons _ .slnil)))) (by rw [hz, show i = c.ps.length by omega])
open Go.RowKit
theorem snk_small {d : Dev} (hd : devB d = true) (pl : List Int) (ps : List Pn) (k : Nat) : ∀ x ∈ snkL d pl ps k, -1 ≤ x ∧ x ≤ 1000000 := fun x hx => by
  unfold snkL at hx
  obtain ⟨q, -, rfl⟩ := List.mem_map.1 hx
  unfold inPinI
  split
  · rename_i h
    obtain ⟨-, t0, t1⟩ := (tOk_iff _ _).1 h.1
    have := per_mul hd t0 (by omega)
    have := inPins_rng d (pl.getD q.b.toNat 0)
    omega
  · omega
end Go.Proofs.Ytagjmgfcbmbkhaa
