/- Tables and cubes: plain definitions and laws. -/
import Derived.Test.YteccnnpcigkmhaaShf
import Derived.Test.YteccnnpcigkmhaaBit
import Derived.Test.YteccnnpcigkmhaaCur3
import Derived.Laws.StructEq
import Derived.ChangeKeysEq
set_option linter.unusedVariables false
set_option linter.unusedSimpArgs false
namespace Go.Proofs.Yteccnnpcigkmhaa
open Go.RowKit
theorem inr_yes {a b c : Int} (h1 : b ≤ a) (h2 : a ≤ c) (w : World) : Calls Try.prog 34 #[.int .i64 a, .int .i64 b, .int .i64 c] w (Ans w (.bool true)) := by
  rw [← inR_true h1 h2]; exact ans_of (inRange_any _ _ _ w)
theorem l01In_yes {a b c : Int} (h1 : b ≤ a) (h2 : a ≤ c) (w : World) : Calls Try.prog 30 #[.int .i64 a, .int .i64 b, .int .i64 c] w (Ans w (.bool true)) := by
  rw [← inR_true h1 h2]; exact ans_of (l01In_any _ _ _ w)
structure Tab where
  N : Int
  B : Int
def pn (n : Int) : Nat := 2 ^ n.toNat
def qn (n : Int) : Int := 2 ^ (2 ^ n.toNat)
theorem five {n : Int} (h : 0 ≤ n ∧ n ≤ 4) : n = 0 ∨ n = 1 ∨ n = 2 ∨ n = 3 ∨ n = 4 := by omega
theorem pn_rng {n : Int} (h : 0 ≤ n ∧ n ≤ 4) : 1 ≤ pn n ∧ pn n ≤ 16 := by
  rcases five h with rfl | rfl | rfl | rfl | rfl <;> decide
theorem qn_rng {n : Int} (h : 0 ≤ n ∧ n ≤ 4) : 2 ≤ qn n ∧ qn n ≤ 65536 := by
  rcases five h with rfl | rfl | rfl | rfl | rfl <;> decide
theorem qn_pn (n : Int) : qn n = 2 ^ (pn n) := rfl
theorem wr1 {n : Int} (h : 0 ≤ n ∧ n ≤ 4) : IntKind.i64.wrap (1 * 2 ^ n.toNat) = (pn n : Int) := by
  rcases five h with rfl | rfl | rfl | rfl | rfl <;> exact IntWalk.i64_in _ (by decide)
theorem wru {n : Int} (h : 0 ≤ n ∧ n ≤ 4) : IntKind.u64.wrap (1 * 2 ^ n.toNat) = (pn n : Int) := by
  rcases five h with rfl | rfl | rfl | rfl | rfl <;> exact IntWalk.u64_in _ (by decide)
theorem wr2 {n : Int} (h : 0 ≤ n ∧ n ≤ 4) : IntKind.i64.wrap (1 * 2 ^ ((pn n : Int)).toNat) = qn n := by
  rcases five h with rfl | rfl | rfl | rfl | rfl <;> exact IntWalk.i64_in _ (by decide)
def TabOk (t : Tab) : Prop := (0 ≤ t.N ∧ t.N ≤ 4) ∧ 0 ≤ t.B ∧ t.B ≤ qn t.N - 1
def tabB (t : Tab) (i : Nat) : Bool := decide (t.B / 2 ^ ((i : Nat) : Int).toNat % 2 = 1)
theorem andB {x : Int} (k : Nat) (h : 0 ≤ x ∧ x ≤ 65535) : bits .and .i64 (x / 2 ^ k) 1 = x / 2 ^ k % 2 := by
  have h1 : (0 : Int) ≤ x / 2 ^ k := Int.ediv_nonneg h.1 (Int.le_of_lt (Int.pow_pos (by decide)))
  have h2 : x / 2 ^ k ≤ x := Int.ediv_le_self _ h.1
  exact Bit.and_one _ h1 (by omega)
theorem an0 : ∀ a, a < 16 → ∀ b, b < 16 → (bits BinOp.andNot IntKind.i64 ((a : Nat) : Int) ((b : Nat) : Int) == 0) = (a &&& b == a) := by decide
theorem an_iff {a b : Nat} (ha : a < 16) (hb : b < 16) : bits BinOp.andNot IntKind.i64 (a : Int) (b : Int) = 0 ↔ a &&& b = a := by
  have := an0 a ha b hb
  rw [Bool.eq_iff_iff] at this; simpa using this
def impN (T : Nat → Bool) (c v k : Nat) : Bool := (List.range k).all (fun i => !((i &&& c) == v) || T i)
theorem impN_succ (T : Nat → Bool) (c v k : Nat) : impN T c v (k + 1) = (impN T c v k && (!((k &&& c) == v) || T k)) := by
  unfold impN; rw [List.range_succ, List.all_append]; simp
theorem impN_iff (T : Nat → Bool) (c v k : Nat) : impN T c v k = true ↔ ∀ i, i < k → i &&& c = v → T i = true := by
  unfold impN
  rw [List.all_eq_true]
  constructor
  · intro h i hi he; have := h i (List.mem_range.2 hi); simpa [he] using this
  · intro h i hi; by_cases he : i &&& c = v
    · simp [h i (List.mem_range.1 hi) he]
    · simp [he]
theorem impN_false {T : Nat → Bool} {c v k n : Nat} (hk : k < n) (h1 : (k &&& c) = v) (h2 : T k = false) : impN T c v n = false := by
  rw [Bool.eq_false_iff]; intro h; rw [(impN_iff T c v n).1 h k hk h1] at h2; cases h2
abbrev c0 : Nat × Nat := (0, 0)
def cubC (d : Nat × Nat) : List Value := [.int .i64 (d.1 : Int), .int .i64 (d.2 : Int)]
def rowA (T : Nat → Bool) (n c k : Nat) : List (Nat × Nat) := ((List.range k).filter (fun v => (v &&& c == v) && impN T c v n)).map (fun v => (c, v))
theorem rowA_yes {T : Nat → Bool} {n c k : Nat} (h1 : k &&& c = k) (h2 : impN T c k n = true) : rowA T n c (k + 1) = rowA T n c k ++ [(c, k)] := by
  unfold rowA
  rw [List.range_succ, List.filter_append, List.map_append]
  simp [h1, h2]
theorem rowA_no1 {T : Nat → Bool} {n c k : Nat} (h : k &&& c ≠ k) : rowA T n c (k + 1) = rowA T n c k := by
  unfold rowA
  rw [List.range_succ, List.filter_append, List.map_append]
  simp [h]
theorem rowA_no2 {T : Nat → Bool} {n c k : Nat} (h : impN T c k n = false) : rowA T n c (k + 1) = rowA T n c k := by
  unfold rowA
  rw [List.range_succ, List.filter_append, List.map_append]
  simp [h]
def allA (T : Nat → Bool) (n k : Nat) : List (Nat × Nat) := (List.range k).flatMap (fun c => rowA T n c (c + 1))
theorem allA_succ (T : Nat → Bool) (n k : Nat) : allA T n (k + 1) = allA T n k ++ rowA T n k (k + 1) := by
  unfold allA; simp [List.range_succ]
theorem rowA_len (T : Nat → Bool) (n c k : Nat) : (rowA T n c k).length ≤ k := by
  unfold rowA; simpa using List.length_filter_le (fun v => (v &&& c == v) && impN T c v n) (List.range k)
theorem allA_len (T : Nat → Bool) (n : Nat) : ∀ k, k ≤ 16 → (allA T n k).length ≤ k * 17
  | 0, _ => by simp [allA]
  | k + 1, hk => by rw [allA_succ, List.length_append]; have := rowA_len T n k (k + 1); have := allA_len T n k (by omega); omega
theorem mem_allA {T : Nat → Bool} {n k : Nat} {d : Nat × Nat} : d ∈ allA T n k ↔ d.1 < k ∧ d.2 ≤ d.1 ∧ d.2 &&& d.1 = d.2 ∧ impN T d.1 d.2 n = true := by
  unfold allA rowA
  simp only [List.mem_flatMap, List.mem_range, List.mem_map, List.mem_filter, Bool.and_eq_true, beq_iff_eq]
  constructor
  · rintro ⟨c, hc, v, ⟨hv, h1, h2⟩, rfl⟩; exact ⟨hc, by omega, h1, h2⟩
  · rintro ⟨h1, h2, h3, h4⟩; exact ⟨d.1, h1, d.2, ⟨by omega, h3, h4⟩, rfl⟩
def cov1 (d c : Nat × Nat) : Bool := (d.1 &&& c.1 == d.1) && (c.2 &&& d.1 == d.2)
def primeN (l : List (Nat × Nat)) (c : Nat × Nat) (k : Nat) : Bool := (l.take k).all (fun d => d == c || !cov1 d c)
theorem take_snoc {α : Type} {l : List α} {k : Nat} (d : α) (h : k < l.length) : l.take (k + 1) = l.take k ++ [l.getD k d] := by
  rw [List.take_succ_eq_append_getElem h, List.getD_eq_getElem?_getD, List.getElem?_eq_getElem h]; rfl
theorem primeN_succ {l : List (Nat × Nat)} {c : Nat × Nat} {k : Nat} (h : k < l.length) : primeN l c (k + 1) = (primeN l c k && (l.getD k c0 == c || !cov1 (l.getD k c0) c)) := by
  unfold primeN; rw [take_snoc c0 h, List.all_append]; simp
def outN (l : List (Nat × Nat)) (k : Nat) : List (Nat × Nat) := (l.take k).filter (fun c => primeN l c l.length)
theorem outN_succ {l : List (Nat × Nat)} {k : Nat} (h : k < l.length) : outN l (k + 1) = if primeN l (l.getD k c0) l.length = true then outN l k ++ [l.getD k c0] else outN l k := by
  unfold outN; rw [take_snoc c0 h, List.filter_append]
  by_cases hp : primeN l (l.getD k c0) l.length = true
  · rw [if_pos hp, List.filter_cons, if_pos hp]; rfl
  · rw [if_neg hp, List.filter_cons, if_neg hp]; simp
theorem outN_len (l : List (Nat × Nat)) (k : Nat) : (outN l k).length ≤ k := by
  unfold outN
  have := List.length_filter_le (fun c => primeN l c l.length) (l.take k)
  rw [List.length_take] at this; omega
abbrev primesN (t : Tab) : List (Nat × Nat) := outN (allA (tabB t) (pn t.N) (pn t.N)) (allA (tabB t) (pn t.N) (pn t.N)).length
theorem primes_mem {t : Tab} {d : Nat × Nat} (h : d ∈ primesN t) : d ∈ allA (tabB t) (pn t.N) (pn t.N) := by
  unfold primesN outN at h
  rw [List.take_length] at h
  exact (List.mem_filter.1 h).1
theorem and_le_r (a b : Nat) : a &&& b ≤ b := Nat.and_le_right
theorem cov_trans {a b c : Nat × Nat} (h1 : cov1 a b = true) (h2 : cov1 b c = true) : cov1 a c = true := by
  unfold cov1 at *
  simp only [Bool.and_eq_true, beq_iff_eq] at *
  obtain ⟨x1, x2⟩ := h1
  obtain ⟨y1, y2⟩ := h2
  refine ⟨?_, ?_⟩
  · rw [← x1, Nat.and_assoc, y1]
  · rw [← x2, ← y2, Nat.and_assoc, Nat.and_comm b.1 a.1, x1]
theorem cov_self {c : Nat × Nat} (h : c.2 &&& c.1 = c.2) : cov1 c c = true := by unfold cov1; simp [h]
theorem cov_lt {d c : Nat × Nat} (h : cov1 d c = true) (hc : c.2 &&& c.1 = c.2) (hne : d ≠ c) : d.1 < c.1 := by
  unfold cov1 at h
  simp only [Bool.and_eq_true, beq_iff_eq] at h
  have hle : d.1 ≤ c.1 := by rw [← h.1]; exact Nat.and_le_right
  rcases Nat.lt_or_eq_of_le hle with hl | he
  · exact hl
  · exfalso; apply hne; apply Prod.ext he; rw [← h.2, he, hc]
/-- every implicant lies in a prime one -/
theorem prime_over {t : Tab} : ∀ (k : Nat) (c : Nat × Nat), c.1 ≤ k → c ∈ allA (tabB t) (pn t.N) (pn t.N) → ∃ p ∈ primesN t, cov1 p c = true
  | k, c, hk, hc => by
    have hm := mem_allA.1 hc
    by_cases hp : primeN (allA (tabB t) (pn t.N) (pn t.N)) c (allA (tabB t) (pn t.N) (pn t.N)).length = true
    · refine ⟨c, ?_, cov_self hm.2.2.1⟩
      unfold primesN outN
      rw [List.take_length]
      exact List.mem_filter.2 ⟨hc, hp⟩
    · have : ∃ d ∈ allA (tabB t) (pn t.N) (pn t.N), d ≠ c ∧ cov1 d c = true := by
        apply Classical.byContradiction
        intro hno
        apply hp
        unfold primeN
        rw [List.take_length, List.all_eq_true]
        intro d hd
        by_cases hdc : d = c
        · simp [hdc]
        · by_cases hcov : cov1 d c = true
          · exact absurd ⟨d, hd, hdc, hcov⟩ hno
          · simp [hcov]
      obtain ⟨d, hd, hdc, hcov⟩ := this
      have hlt := cov_lt hcov hm.2.2.1 hdc
      match k, hk with
      | 0, hk => omega
      | k + 1, hk =>
        obtain ⟨p, hp1, hp2⟩ := prime_over k d (by omega) hd
        exact ⟨p, hp1, cov_trans hp2 hcov⟩
theorem cov_imp {t : Tab} {p : Nat × Nat} {c v : Nat} (hp : p ∈ primesN t) (h : cov1 p (c, v) = true) : impN (tabB t) c v (pn t.N) = true := by
  have hm := (mem_allA.1 (primes_mem hp)).2.2.2
  rw [impN_iff] at hm ⊢
  intro i hi he
  apply hm i hi
  unfold cov1 at h
  simp only [Bool.and_eq_true, beq_iff_eq] at h
  rw [← h.2, ← he, Nat.and_assoc, Nat.and_comm c p.1, h.1]
theorem inside_eq {t : Tab} {c v : Nat} (hc : c < pn t.N) (hv : v &&& c = v) : (primesN t).any (fun p => cov1 p (c, v)) = impN (tabB t) c v (pn t.N) := by
  rw [Bool.eq_iff_iff, List.any_eq_true]
  constructor
  · rintro ⟨p, hp, h⟩; exact cov_imp hp h
  · intro h
    obtain ⟨p, hp, h2⟩ := prime_over c (c, v) (Nat.le_refl _) (mem_allA.2 ⟨hc, by show v ≤ c; rw [← hv]; exact Nat.and_le_right, hv, h⟩)
    exact ⟨p, hp, h2⟩
def neC (a b c d : Nat) : Bool := !((a : Int) == (c : Int) && (b : Int) == (d : Int))
theorem neC_eq (x y : Nat × Nat) : neC x.1 x.2 y.1 y.2 = !(x == y) := by
  unfold neC
  congr 1
  rw [Bool.eq_iff_iff]
  simp only [Bool.and_eq_true, beq_iff_eq, Prod.ext_iff]
  omega
section
variable {N : Nat} {w0 : World} {l : List HP} {env : List (Nat × Value)} {o : Oper}
theorem rv_neC {x y : Operand} {a b c d : Nat} (ho : o.op = .binOp .neq 30 x y 30) (hx : ev env x = some (.agg #[.int .i64 (a : Int), .int .i64 (b : Int)])) (hy : ev env y = some (.agg #[.int .i64 (c : Int), .int .i64 (d : Int)])) :
    RunV Try.prog N w0 l env o (.bool (neC a b c d)) := fun a1 w st => by
  have hg : (eqGuard .neq 30 x y (.agg #[.int .i64 (a : Int), .int .i64 (b : Int)]) (.agg #[.int .i64 (c : Int), .int .i64 (d : Int)])).run Try.prog w = .ok () w := run_eqGuard_agg _ _ _ _ _ _ _ (by kernel_rfl)
  have h2 : (binOp .neq 30 (.agg #[.int .i64 (a : Int), .int .i64 (b : Int)]) (.agg #[.int .i64 (c : Int), .int .i64 (d : Int)])).run Try.prog w = .ok (.bool (neC a b c d)) w := by
    rw [run_neq_struct, run_equalIn_struct _ _ _ _ _ (by kernel_rfl) (by kernel_rfl)]
    have e0 : (Try.prog.fieldsOf 30).toList = [(Try.prog.fieldsOf 30)[0]!, (Try.prog.fieldsOf 30)[1]!] := by kernel_rfl
    have n0 : ((Try.prog.fieldsOf 30)[0]!).name = "Care" := by kernel_rfl
    have n1 : ((Try.prog.fieldsOf 30)[1]!).name = "Value" := by kernel_rfl
    have t0 : ((Try.prog.fieldsOf 30)[0]!).type = 3 := by kernel_rfl
    have t1 : ((Try.prog.fieldsOf 30)[1]!).type = 3 := by kernel_rfl
    have o0 : ((Try.prog.fieldsOf 30)[0]!).offset = 0 := by kernel_rfl
    have o1 : ((Try.prog.fieldsOf 30)[1]!).offset = 1 := by kernel_rfl
    rw [e0]
    generalize (Try.prog.fieldsOf 30)[0]! = f0 at *
    generalize (Try.prog.fieldsOf 30)[1]! = f1 at *
    have m0 : f0.name ≠ "_" := by rw [n0]; decide
    have m1 : f1.name ≠ "_" := by rw [n1]; decide
    have hk : Try.prog.plainKey 3 = true := by kernel_rfl
    have q : ∀ (u v : Int) (w : World), (Op.equalIn 9999 3 (.int .i64 u) (.int .i64 v)).run Try.prog w = .ok (u == v) w := fun u v w => run_equalIn_int w 9998 3 .i64 .i64 u v Try.underlying3
    have pa : ∀ w : World, (part f0.type #[Value.int .i64 (a : Int), .int .i64 (b : Int)] f0.offset).run Try.prog w = .ok (.int .i64 (a : Int)) w := fun w => by rw [t0, o0]; exact run_part_plain w hk rfl
    have pb : ∀ w : World, (part f1.type #[Value.int .i64 (a : Int), .int .i64 (b : Int)] f1.offset).run Try.prog w = .ok (.int .i64 (b : Int)) w := fun w => by rw [t1, o1]; exact run_part_plain w hk rfl
    have pc : ∀ w : World, (part f0.type #[Value.int .i64 (c : Int), .int .i64 (d : Int)] f0.offset).run Try.prog w = .ok (.int .i64 (c : Int)) w := fun w => by rw [t0, o0]; exact run_part_plain w hk rfl
    have pd : ∀ w : World, (part f1.type #[Value.int .i64 (c : Int), .int .i64 (d : Int)] f1.offset).run Try.prog w = .ok (.int .i64 (d : Int)) w := fun w => by rw [t1, o1]; exact run_part_plain w hk rfl
    have q0 : ∀ (u v : Int) (w : World), (Op.equalIn 9999 f0.type (.int .i64 u) (.int .i64 v)).run Try.prog w = .ok (u == v) w := by rw [t0]; exact q
    have q1 : ∀ (u v : Int) (w : World), (Op.equalIn 9999 f1.type (.int .i64 u) (.int .i64 v)).run Try.prog w = .ok (u == v) w := by rw [t1]; exact q
    simp only [Op.eqFields, m0, m1, ne_eq, not_false_eq_true, if_true, Sem.run_bind, pa, pb, pc, pd, q0, q1, Result.andThen_ok, Sem.run_ite, Sem.run_pure]
    unfold neC
    cases ((a : Int) == (c : Int)) <;> cases ((b : Int) == (d : Int)) <;> simp
  simp [execOp, ho, st.eval hx, st.eval hy, hg, h2]
end
end Go.Proofs.Yteccnnpcigkmhaa
