/- Plain laws on bits of natural numbers, and of the model's bit operations at int. -/
import Derived.WalkKit
namespace Go.Proofs.Yteccnnpcigkmhaa.Bit
open Go

theorem i64_small (n : Nat) (h : n < 4294967296) : IntKind.i64.wrap (n : Int) = n := by
  rw [IntKind.wrap_i64]; omega
theorem ofInt_small (a : Nat) (h : a < 4294967296) : (BitVec.ofInt 64 (a : Int)).toNat = a := by
  rw [BitVec.ofInt_natCast, BitVec.toNat_ofNat]; omega
theorem and_nat (a b : Nat) (ha : a < 4294967296) (hb : b < 4294967296) : bits .and .i64 (a : Int) (b : Int) = ((a &&& b : Nat) : Int) := by
  have hx : a &&& b < 2 ^ 32 := Nat.and_lt_two_pow _ (by omega)
  show IntKind.i64.wrap ((BitVec.ofInt 64 (a : Int) &&& BitVec.ofInt 64 (b : Int)).toNat : Int) = _
  rw [BitVec.toNat_and, ofInt_small a ha, ofInt_small b hb, i64_small _ (by omega)]
theorem or_nat (a b : Nat) (ha : a < 4294967296) (hb : b < 4294967296) : bits .or .i64 (a : Int) (b : Int) = ((a ||| b : Nat) : Int) := by
  have hx : a ||| b < 2 ^ 32 := Nat.or_lt_two_pow (by omega) (by omega)
  show IntKind.i64.wrap ((BitVec.ofInt 64 (a : Int) ||| BitVec.ofInt 64 (b : Int)).toNat : Int) = _
  rw [BitVec.toNat_or, ofInt_small a ha, ofInt_small b hb, i64_small _ (by omega)]
theorem xor_nat (a b : Nat) (ha : a < 4294967296) (hb : b < 4294967296) : bits .xor .i64 (a : Int) (b : Int) = ((a ^^^ b : Nat) : Int) := by
  have hx : a ^^^ b < 2 ^ 32 := Nat.xor_lt_two_pow (by omega) (by omega)
  show IntKind.i64.wrap ((BitVec.ofInt 64 (a : Int) ^^^ BitVec.ofInt 64 (b : Int)).toNat : Int) = _
  rw [BitVec.toNat_xor, ofInt_small a ha, ofInt_small b hb, i64_small _ (by omega)]
theorem and_int (a b : Int) (h1 : 0 ≤ a) (h2 : a < 4294967296) (h3 : 0 ≤ b) (h4 : b < 4294967296) : bits .and .i64 a b = ((a.toNat &&& b.toNat : Nat) : Int) := by
  obtain ⟨x, rfl⟩ := Int.eq_ofNat_of_zero_le h1
  obtain ⟨y, rfl⟩ := Int.eq_ofNat_of_zero_le h3
  exact and_nat x y (by omega) (by omega)
theorem or_int (a b : Int) (h1 : 0 ≤ a) (h2 : a < 4294967296) (h3 : 0 ≤ b) (h4 : b < 4294967296) : bits .or .i64 a b = ((a.toNat ||| b.toNat : Nat) : Int) := by
  obtain ⟨x, rfl⟩ := Int.eq_ofNat_of_zero_le h1
  obtain ⟨y, rfl⟩ := Int.eq_ofNat_of_zero_le h3
  exact or_nat x y (by omega) (by omega)
theorem xor_int (a b : Int) (h1 : 0 ≤ a) (h2 : a < 4294967296) (h3 : 0 ≤ b) (h4 : b < 4294967296) : bits .xor .i64 a b = ((a.toNat ^^^ b.toNat : Nat) : Int) := by
  obtain ⟨x, rfl⟩ := Int.eq_ofNat_of_zero_le h1
  obtain ⟨y, rfl⟩ := Int.eq_ofNat_of_zero_le h3
  exact xor_nat x y (by omega) (by omega)
/-- the low bit of whatever int -/
theorem and_one (x : Int) (h1 : 0 ≤ x) (h2 : x < 4294967296) : bits .and .i64 x 1 = x % 2 := by
  obtain ⟨a, rfl⟩ := Int.eq_ofNat_of_zero_le h1
  have := and_nat a 1 (by omega) (by omega)
  rw [Nat.and_one_is_mod] at this
  exact this

/-! ### linear functions over xor -/
theorem lin_ext (f g : Nat → Nat) (hf : ∀ x y, f (x ^^^ y) = f x ^^^ f y) (hg : ∀ x y, g (x ^^^ y) = g x ^^^ g y) (n : Nat) (h : ∀ k, k < n → f (2 ^ k) = g (2 ^ k)) :
    ∀ x, x < 2 ^ n → f x = g x := by
  induction n with
  | zero =>
    intro x hx
    obtain rfl : x = 0 := by simpa using hx
    have a := hf 0 0; have b := hg 0 0
    simp at a b; rw [a, b]
  | succ n ih =>
    intro x hx
    have ih' := ih (fun k hk => h k (by omega))
    by_cases hb : x < 2 ^ n
    · exact ih' x hb
    · have hy : x ^^^ 2 ^ n < 2 ^ n := by
        apply Nat.lt_pow_two_of_testBit
        intro i hi
        rw [Nat.testBit_xor]
        by_cases e : i = n
        · subst e
          have : x.testBit i = true := by
            rw [Nat.testBit_eq_decide_div_mod_eq]
            have hp := Nat.two_pow_pos i
            have h1 : 1 ≤ x / 2 ^ i := (Nat.le_div_iff_mul_le hp).2 (by omega)
            have h2 : x / 2 ^ i < 2 := (Nat.div_lt_iff_lt_mul hp).2 (by rw [Nat.pow_succ] at hx; omega)
            simp; omega
          rw [this, Nat.testBit_two_pow_self]; rfl
        · have : x.testBit i = false := Nat.testBit_lt_two_pow (Nat.lt_of_lt_of_le hx (Nat.pow_le_pow_right (by decide) (by omega)))
          rw [this, Nat.testBit_two_pow_of_ne (by omega)]; rfl
      have e : x = (x ^^^ 2 ^ n) ^^^ 2 ^ n := by rw [Nat.xor_assoc, Nat.xor_self, Nat.xor_zero]
      rw [e, hf, hg, ih' _ hy, h n (by omega)]

theorem bit_xor (x y k : Nat) : (x ^^^ y) / 2 ^ k % 2 = (x / 2 ^ k % 2) ^^^ (y / 2 ^ k % 2) := by
  have := Nat.testBit_xor x y k
  rw [← Nat.toNat_testBit, ← Nat.toNat_testBit, ← Nat.toNat_testBit, this]
  cases x.testBit k <;> cases y.testBit k <;> rfl
theorem bit_lt (x k : Nat) : x / 2 ^ k % 2 < 2 := Nat.mod_lt _ (by decide)
theorem bitmul_xor {a b : Nat} (ha : a < 2) (hb : b < 2) (c : Nat) : (a ^^^ b) * c = (a * c) ^^^ (b * c) := by
  obtain rfl | rfl : a = 0 ∨ a = 1 := by omega
  all_goals obtain rfl | rfl : b = 0 ∨ b = 1 := by omega
  all_goals simp
theorem or_join (x b k : Nat) (hx : x < 2 ^ k) : x ||| b * 2 ^ k = x + b * 2 ^ k := by
  rw [Nat.or_comm, nat_join k (b * 2 ^ k) x (by simp) hx, Nat.add_comm]
theorem xor_of_and {x y : Nat} (h : x &&& y = 0) : x ^^^ y = x ||| y := by
  apply Nat.eq_of_testBit_eq
  intro i
  have := congrArg (fun z => Nat.testBit z i) h
  simp only [Nat.testBit_and, Nat.zero_testBit] at this
  rw [Nat.testBit_xor, Nat.testBit_or]
  cases hx : x.testBit i <;> cases hy : y.testBit i <;> simp_all
theorem add_of_and : ∀ (x y : Nat), x &&& y = 0 → x + y = x ||| y := by
  intro x
  induction x using Nat.strongRecOn with
  | _ x ih =>
    intro y h
    by_cases hx : x = 0
    · subst hx; simp
    · have h2 : x / 2 &&& y / 2 = 0 := by rw [← Nat.and_div_two, h]
      have := ih (x / 2) (by omega) (y / 2) h2
      have e1 : (x ||| y) / 2 = x / 2 ||| y / 2 := Nat.or_div_two
      have e2 : (x ||| y) % 2 = x % 2 ||| y % 2 := by
        have := Nat.or_mod_two_pow (a := x) (b := y) (n := 1); simpa using this
      have e3 : x % 2 &&& y % 2 = 0 := by
        have := Nat.and_mod_two_pow (a := x) (b := y) (n := 1); rw [h] at this; simpa using this.symm
      have m1 : x % 2 < 2 := Nat.mod_lt _ (by decide)
      have m2 : y % 2 < 2 := Nat.mod_lt _ (by decide)
      have e4 : x % 2 + y % 2 = x % 2 ||| y % 2 := by
        generalize x % 2 = a at *
        generalize y % 2 = b at *
        obtain rfl | rfl : a = 0 ∨ a = 1 := by omega
        all_goals obtain rfl | rfl : b = 0 ∨ b = 1 := by omega
        all_goals simp_all
      omega
theorem and_bit_zero (x k b : Nat) (h : x / 2 ^ k % 2 = 0) (hb : b < 2) : x &&& b * 2 ^ k = 0 := by
  obtain rfl | rfl : b = 0 ∨ b = 1 := by omega
  · simp
  · rw [Nat.one_mul, nat_bit, h, Nat.zero_mul]
theorem or_bit (x k b : Nat) (h : x / 2 ^ k % 2 = 0) (hb : b < 2) : x ||| b * 2 ^ k = x + b * 2 ^ k := (add_of_and _ _ (and_bit_zero x k b h hb)).symm
theorem xor_bit (x k b : Nat) (h : x / 2 ^ k % 2 = 0) (hb : b < 2) : x ^^^ b * 2 ^ k = x + b * 2 ^ k := by
  rw [xor_of_and (and_bit_zero x k b h hb), or_bit x k b h hb]
theorem bit_zero_of_lt {x k : Nat} (h : x < 2 ^ k) : x / 2 ^ k % 2 = 0 := by rw [Nat.div_eq_of_lt h]

/-- how many of the lowest n bits are 1 -/
def pop (a : Nat) : Nat → Nat
  | 0 => 0
  | n + 1 => pop a n + a / 2 ^ n % 2
theorem pop_le (a n : Nat) : pop a n ≤ n := by
  induction n with
  | zero => simp [pop]
  | succ n ih => have := bit_lt a n; simp [pop]; omega
theorem pop_half (a n : Nat) : pop a (n + 1) = a % 2 + pop (a / 2) n := by
  induction n with
  | zero => simp [pop]
  | succ n ih =>
    rw [pop, ih, pop, Nat.pow_succ, Nat.mul_comm, ← Nat.div_div_eq_div_mul]; omega
theorem pop_nil (n : Nat) : pop 0 n = 0 := by
  induction n with
  | zero => rfl
  | succ n ih => simp [pop, ih]
theorem pop_small (a n : Nat) (h : a < 2 ^ n) : ∀ m, pop a (n + m) = pop a n := by
  intro m
  induction m with
  | zero => rfl
  | succ m ih =>
    have : a / 2 ^ (n + m) = 0 := Nat.div_eq_of_lt (Nat.lt_of_lt_of_le h (Nat.pow_le_pow_right (by decide) (by omega)))
    rw [← Nat.add_assoc, pop, ih, this]; rfl
theorem pop_step (m : Nat) (h : m < 4194304) : pop m 22 = m % 2 + pop (m / 2) 22 := by
  rw [pop_half, pop_small (m / 2) 21 (by omega) 1]
/-- the parity of the lowest n bits is linear -/
theorem par_xor (x y n : Nat) : pop (x ^^^ y) n % 2 = (pop x n % 2) ^^^ (pop y n % 2) := by
  induction n with
  | zero => simp [pop]
  | succ n ih =>
    have h := bit_xor x y n
    simp only [pop]
    rw [Nat.add_mod, ih, h]
    have a1 := bit_lt x n
    have a2 := bit_lt y n
    have a3 : (pop x n + x / 2 ^ n % 2) % 2 = (pop x n % 2) ^^^ (x / 2 ^ n % 2) := by
      have := Nat.mod_lt (pop x n) (show 0 < 2 by decide)
      rw [Nat.add_mod, Nat.mod_mod]
      generalize pop x n % 2 = p at *; generalize x / 2 ^ n % 2 = q at *
      obtain rfl | rfl : p = 0 ∨ p = 1 := by omega
      all_goals obtain rfl | rfl : q = 0 ∨ q = 1 := by omega
      all_goals rfl
    have a4 : (pop y n + y / 2 ^ n % 2) % 2 = (pop y n % 2) ^^^ (y / 2 ^ n % 2) := by
      have := Nat.mod_lt (pop y n) (show 0 < 2 by decide)
      rw [Nat.add_mod, Nat.mod_mod]
      generalize pop y n % 2 = p at *; generalize y / 2 ^ n % 2 = q at *
      obtain rfl | rfl : p = 0 ∨ p = 1 := by omega
      all_goals obtain rfl | rfl : q = 0 ∨ q = 1 := by omega
      all_goals rfl
    rw [a3, a4]
    have b1 := Nat.mod_lt (pop x n) (show 0 < 2 by decide)
    have b2 := Nat.mod_lt (pop y n) (show 0 < 2 by decide)
    generalize pop x n % 2 = p at *; generalize x / 2 ^ n % 2 = q at *
    generalize pop y n % 2 = r at *; generalize y / 2 ^ n % 2 = s at *
    obtain rfl | rfl : p = 0 ∨ p = 1 := by omega
    all_goals obtain rfl | rfl : q = 0 ∨ q = 1 := by omega
    all_goals obtain rfl | rfl : r = 0 ∨ r = 1 := by omega
    all_goals obtain rfl | rfl : s = 0 ∨ s = 1 := by omega
    all_goals rfl
end Go.Proofs.Yteccnnpcigkmhaa.Bit
