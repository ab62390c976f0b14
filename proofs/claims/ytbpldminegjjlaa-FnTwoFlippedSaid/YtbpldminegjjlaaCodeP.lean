/- Plain laws of the codewords: a linear code of distance four. -/
import Derived.Test.YtbpldminegjjlaaBit
namespace Go.Proofs.Ytbpldminegjjlaa.Bit
open Go

def chk (p : Nat) : Bool := p == 1 || p == 2 || p == 4 || p == 8 || p == 16
def kOf : Nat → Nat
  | 0 => 0
  | p + 1 => if chk (p + 1) then kOf p else kOf p + 1
def synN (a : Nat) : Nat → Nat
  | 0 => 0
  | p + 1 => synN a p ^^^ (a / 2 ^ p % 2) * (p + 1)
def datN (a : Nat) : Nat → Nat
  | 0 => 0
  | p + 1 => if chk (p + 1) then datN a p else datN a p + (a / 2 ^ p % 2) * 2 ^ kOf p
def encN (d : Nat) : Nat → Nat
  | 0 => 0
  | p + 1 => if chk (p + 1) then encN d p else encN d p + (d / 2 ^ kOf p % 2) * 2 ^ p
def chN (s c : Nat) : Nat → Nat
  | 0 => c
  | b + 1 => chN s c b + (s / 2 ^ b % 2) * 2 ^ (2 ^ b - 1)
def enc1 (d : Nat) : Nat := chN (synN (encN d 21) 21) (encN d 21) 5
def enc (d : Nat) : Nat := enc1 d + (pop (enc1 d) 22 % 2) * 2 ^ 21
def syn (a : Nat) : Nat := synN a 21
def dat (a : Nat) : Nat := datN a 21

theorem kOf_le (p : Nat) : kOf p ≤ p := by
  induction p with
  | zero => simp [kOf]
  | succ p ih => simp only [kOf]; split <;> omega
theorem synN_lt (a : Nat) : ∀ p, p ≤ 21 → synN a p < 32 := by
  intro p hp
  induction p with
  | zero => simp [synN]
  | succ p ih =>
    have h := bit_lt a p
    have : (a / 2 ^ p % 2) * (p + 1) < 2 ^ 5 := by
      generalize a / 2 ^ p % 2 = b at *
      obtain rfl | rfl : b = 0 ∨ b = 1 := by omega
      all_goals omega
    exact Nat.xor_lt_two_pow (n := 5) (ih (by omega)) this
theorem synN_xor (x y p : Nat) : synN (x ^^^ y) p = synN x p ^^^ synN y p := by
  induction p with
  | zero => simp [synN]
  | succ p ih =>
    simp only [synN]
    rw [ih, bit_xor, bitmul_xor (bit_lt _ _) (bit_lt _ _)]
    rw [Nat.xor_assoc, Nat.xor_assoc, ← Nat.xor_assoc (synN y p), Nat.xor_comm (synN y p), Nat.xor_assoc]
theorem encN_lt (d p : Nat) : encN d p < 2 ^ p := by
  induction p with
  | zero => simp [encN]
  | succ p ih =>
    have h := bit_lt d (kOf p)
    have e : 2 ^ (p + 1) = 2 ^ p + 2 ^ p := by rw [Nat.pow_succ]; omega
    simp only [encN]
    split
    · omega
    · generalize d / 2 ^ kOf p % 2 = b at *
      obtain rfl | rfl : b = 0 ∨ b = 1 := by omega
      all_goals omega
theorem encN_xor (x y p : Nat) : encN (x ^^^ y) p = encN x p ^^^ encN y p := by
  induction p with
  | zero => simp [encN]
  | succ p ih =>
    simp only [encN]
    split
    · exact ih
    · rw [← xor_bit _ p _ (bit_zero_of_lt (encN_lt _ _)) (bit_lt _ _), ← xor_bit _ p _ (bit_zero_of_lt (encN_lt _ _)) (bit_lt _ _), ← xor_bit _ p _ (bit_zero_of_lt (encN_lt _ _)) (bit_lt _ _)]
      rw [ih, bit_xor, bitmul_xor (bit_lt _ _) (bit_lt _ _)]
      rw [Nat.xor_assoc, Nat.xor_assoc, ← Nat.xor_assoc (encN y p), Nat.xor_comm (encN y p), Nat.xor_assoc]
theorem datN_lt (a p : Nat) : datN a p < 2 ^ kOf p := by
  induction p with
  | zero => simp [datN, kOf]
  | succ p ih =>
    have h := bit_lt a p
    simp only [datN, kOf]
    split
    · exact ih
    · have e : 2 ^ (kOf p + 1) = 2 ^ kOf p + 2 ^ kOf p := by rw [Nat.pow_succ]; omega
      generalize a / 2 ^ p % 2 = b at *
      obtain rfl | rfl : b = 0 ∨ b = 1 := by omega
      all_goals omega
theorem datN_xor (x y p : Nat) : datN (x ^^^ y) p = datN x p ^^^ datN y p := by
  induction p with
  | zero => simp [datN]
  | succ p ih =>
    simp only [datN]
    split
    · exact ih
    · rw [← xor_bit _ _ _ (bit_zero_of_lt (datN_lt _ _)) (bit_lt _ _), ← xor_bit _ _ _ (bit_zero_of_lt (datN_lt _ _)) (bit_lt _ _), ← xor_bit _ _ _ (bit_zero_of_lt (datN_lt _ _)) (bit_lt _ _)]
      rw [ih, bit_xor, bitmul_xor (bit_lt _ _) (bit_lt _ _)]
      rw [Nat.xor_assoc, Nat.xor_assoc, ← Nat.xor_assoc (datN y p), Nat.xor_comm (datN y p), Nat.xor_assoc]
/-- the check positions are empty behind the first loop -/
theorem encN_check (d : Nat) (hd : d < 65536) : ∀ b, b < 5 → encN d 21 / 2 ^ (2 ^ b - 1) % 2 = 0 := by
  intro b hb
  refine lin_ext (fun d => encN d 21 / 2 ^ (2 ^ b - 1) % 2) (fun _ => 0) ?_ (by simp) 16 ?_ d (by simpa using hd)
  · intro x y; simp only [encN_xor, bit_xor]
  · intro k hk
    have : ∀ b, b < 5 → ∀ k, k < 16 → encN (2 ^ k) 21 / 2 ^ (2 ^ b - 1) % 2 = 0 := by decide +kernel
    exact this b hb k hk
def posX (s c : Nat) : Nat → Nat
  | 0 => c
  | b + 1 => posX s c b ^^^ (s / 2 ^ b % 2) * 2 ^ (2 ^ b - 1)
theorem xor4 (a b c d : Nat) : (a ^^^ b) ^^^ (c ^^^ d) = (a ^^^ c) ^^^ (b ^^^ d) := by
  rw [Nat.xor_assoc, Nat.xor_assoc, ← Nat.xor_assoc b, Nat.xor_comm b, Nat.xor_assoc]
theorem posX_xor (s t c e n : Nat) : posX (s ^^^ t) (c ^^^ e) n = posX s c n ^^^ posX t e n := by
  induction n with
  | zero => rfl
  | succ n ih => simp only [posX]; rw [ih, bit_xor, bitmul_xor (bit_lt _ _) (bit_lt _ _), xor4]
/-- while the later check positions are empty, the sum is the exclusive disjunction -/
theorem chN_bit (s c : Nat) (hc : ∀ b, b < 5 → c / 2 ^ (2 ^ b - 1) % 2 = 0) : ∀ n, n ≤ 5 → chN s c n = posX s c n ∧ ∀ b, n ≤ b → b < 5 → chN s c n / 2 ^ (2 ^ b - 1) % 2 = 0 := by
  intro n
  induction n with
  | zero => intro _; exact ⟨rfl, fun b _ hb => hc b hb⟩
  | succ n ih =>
    intro hn
    obtain ⟨h1, h2⟩ := ih (by omega)
    have e : chN s c (n + 1) = chN s c n ^^^ (s / 2 ^ n % 2) * 2 ^ (2 ^ n - 1) := by
      rw [xor_bit _ _ _ (h2 n (by omega) (by omega)) (bit_lt _ _)]; rfl
    refine ⟨by rw [e, h1]; rfl, fun b hb1 hb2 => ?_⟩
    rw [e, bit_xor, h2 b (by omega) hb2]
    have : ∀ n, n < 5 → ∀ b, b < 5 → b ≠ n → ∀ v, v < 2 → v * 2 ^ (2 ^ n - 1) / 2 ^ (2 ^ b - 1) % 2 = 0 := by decide +kernel
    rw [this n (by omega) b hb2 (by omega) _ (bit_lt _ _)]; rfl
theorem enc1_eq (d : Nat) (hd : d < 65536) : enc1 d = posX (synN (encN d 21) 21) (encN d 21) 5 := (chN_bit _ _ (encN_check d hd) 5 (by omega)).1
theorem posX_lt (s c n : Nat) (hn : n ≤ 5) (hc : c < 2 ^ 21) : posX s c n < 2 ^ 21 := by
  induction n with
  | zero => exact hc
  | succ n ih =>
    refine Nat.xor_lt_two_pow (ih (by omega)) ?_
    have : ∀ n, n < 5 → ∀ v, v < 2 → v * 2 ^ (2 ^ n - 1) < 2 ^ 21 := by decide +kernel
    exact this n (by omega) _ (bit_lt _ _)
theorem enc1_lt (d : Nat) (hd : d < 65536) : enc1 d < 2097152 := by
  rw [enc1_eq d hd]; exact posX_lt _ _ _ (by omega) (encN_lt d 21)
/-- the linear form of the encoder, for whatever number -/
def encX (d : Nat) : Nat := let e := posX (synN (encN d 21) 21) (encN d 21) 5; e ^^^ (pop e 22 % 2) * 2 ^ 21
theorem encX_xor (x y : Nat) : encX (x ^^^ y) = encX x ^^^ encX y := by
  simp only [encX, encN_xor, synN_xor, posX_xor, par_xor]
  rw [bitmul_xor (Nat.mod_lt _ (by decide)) (Nat.mod_lt _ (by decide)), xor4]
theorem enc_eq (d : Nat) (hd : d < 65536) : enc d = encX d := by
  have h := enc1_lt d hd
  unfold enc encX
  rw [← xor_bit _ 21 _ (bit_zero_of_lt (by simpa using h)) (Nat.mod_lt _ (by decide)), enc1_eq d hd]
theorem enc_lt (d : Nat) (hd : d < 65536) : enc d < 4194304 := by
  have h := enc1_lt d hd
  have : pop (enc1 d) 22 % 2 < 2 := Nat.mod_lt _ (by decide)
  unfold enc; omega
theorem enc_syn (d : Nat) (hd : d < 65536) : syn (enc d) = 0 := by
  rw [enc_eq d hd]
  refine lin_ext (fun d => syn (encX d)) (fun _ => 0) ?_ (by simp) 16 (by decide +kernel) d (by simpa using hd)
  intro x y; simp only [encX_xor, syn, synN_xor]
theorem enc_par (d : Nat) (hd : d < 65536) : pop (enc d) 22 % 2 = 0 := by
  rw [enc_eq d hd]
  refine lin_ext (fun d => pop (encX d) 22 % 2) (fun _ => 0) ?_ (by simp) 16 (by decide +kernel) d (by simpa using hd)
  intro x y; simp only [encX_xor, par_xor]
theorem enc_dat (d : Nat) (hd : d < 65536) : dat (enc d) = d := by
  rw [enc_eq d hd]
  refine lin_ext (fun d => dat (encX d)) (fun d => d) ?_ (by simp) 16 (by decide +kernel) d (by simpa using hd)
  intro x y; simp only [encX_xor, dat, datN_xor]
/-- the number of bits between codewords: at least four -/
theorem pop_zero (a n : Nat) (h : pop a n = 0) : ∀ k, k < n → a / 2 ^ k % 2 = 0 := by
  induction n with
  | zero => intro k hk; omega
  | succ n ih =>
    intro k hk
    simp only [pop] at h
    by_cases e : k = n
    · subst e; omega
    · exact ih (by omega) k (by omega)
theorem zero_of_bits (a n : Nat) (h : a < 2 ^ n) (hb : ∀ k, k < n → a / 2 ^ k % 2 = 0) : a = 0 := by
  apply Nat.eq_of_testBit_eq
  intro i
  rw [Nat.zero_testBit, Nat.testBit_eq_decide_div_mod_eq]
  by_cases hi : i < n
  · simp [hb i hi]
  · have : a / 2 ^ i = 0 := Nat.div_eq_of_lt (Nat.lt_of_lt_of_le h (Nat.pow_le_pow_right (by decide) (by omega)))
    simp [this]
theorem lt2_zero {q : Nat} (h : q < 2) (h0 : q % 2 = 0) : q = 0 := by omega
theorem lt2_one {q : Nat} (h : q < 2) (h0 : ¬ q % 2 = 0) : q = 1 := by omega
theorem pop_two (a n : Nat) (ha : a < 2 ^ n) (h : pop a n = 2) : ∃ i j, i < j ∧ j < n ∧ a = 2 ^ i ^^^ 2 ^ j := by
  induction n generalizing a with
  | zero => simp [pop] at h
  | succ n ih =>
    have hb := bit_lt a n
    simp only [pop] at h
    have hp := Nat.two_pow_pos n
    have hlt : a / 2 ^ n < 2 := (Nat.div_lt_iff_lt_mul hp).2 (by rw [Nat.pow_succ] at ha; omega)
    have hdm := Nat.div_add_mod a (2 ^ n)
    have hml := Nat.mod_lt a hp
    have key : ∀ m, pop (a % 2 ^ n) m = pop a (min m n) := by
      intro m
      induction m with
      | zero => simp [pop]
      | succ m ih2 =>
        simp only [pop]
        rw [ih2]
        by_cases hm : m < n
        · rw [show min (m + 1) n = m + 1 by omega, show min m n = m by omega, pop]
          have : a % 2 ^ n / 2 ^ m % 2 = a / 2 ^ m % 2 := by
            rw [← Nat.toNat_testBit, ← Nat.toNat_testBit, Nat.testBit_mod_two_pow]; simp [hm]
          rw [this]
        · rw [show min (m + 1) n = n by omega, show min m n = n by omega, Nat.div_eq_of_lt (Nat.lt_of_lt_of_le hml (Nat.pow_le_pow_right (by decide) (by omega)))]; rfl
    have kn := key n
    rw [Nat.min_self] at kn
    by_cases h0 : a / 2 ^ n % 2 = 0
    · have : a < 2 ^ n := by
        have : a / 2 ^ n = 0 := lt2_zero hlt h0
        rw [this] at hdm; omega
      obtain ⟨i, j, h1, h2, h3⟩ := ih a this (by omega)
      exact ⟨i, j, h1, by omega, h3⟩
    · have h1 : pop (a % 2 ^ n) n = 1 := by omega
      have hone : ∀ (n b : Nat), b < 2 ^ n → pop b n = 1 → ∃ i, i < n ∧ b = 2 ^ i := by
        intro n
        induction n with
        | zero => intro b _ h; simp [pop] at h
        | succ n ih =>
          intro b hb h
          have hp := Nat.two_pow_pos n
          have hlt : b / 2 ^ n < 2 := (Nat.div_lt_iff_lt_mul hp).2 (by rw [Nat.pow_succ] at hb; omega)
          have hdm := Nat.div_add_mod b (2 ^ n)
          have hml := Nat.mod_lt b hp
          simp only [pop] at h
          by_cases h0 : b / 2 ^ n % 2 = 0
          · have hz : b / 2 ^ n = 0 := lt2_zero hlt h0
            rw [hz] at hdm
            obtain ⟨i, hi, he⟩ := ih b (by omega) (by omega)
            exact ⟨i, by omega, he⟩
          · have h1 : b / 2 ^ n = 1 := lt2_one hlt h0
            have hpz : pop b n = 0 := by omega
            have hr : b % 2 ^ n = 0 := by
              apply zero_of_bits _ n hml
              intro k hk
              have := pop_zero b n hpz k hk
              rw [← Nat.toNat_testBit] at this ⊢
              rw [Nat.testBit_mod_two_pow]; simpa [hk] using this
            rw [h1, hr] at hdm
            exact ⟨n, by omega, by omega⟩
      obtain ⟨i, hi, he⟩ := hone n (a % 2 ^ n) hml h1
      refine ⟨i, n, hi, by omega, ?_⟩
      have h2 : a / 2 ^ n = 1 := lt2_one hlt h0
      rw [h2, Nat.mul_one, he] at hdm
      have hlt' : 2 ^ i < 2 ^ n := Nat.pow_lt_pow_right (by decide) hi
      have := xor_bit (2 ^ i) n 1 (bit_zero_of_lt hlt') (by decide)
      rw [Nat.one_mul] at this
      rw [this]; omega
theorem code_weight (c : Nat) (hc : c < 4194304) (hs : syn c = 0) (hp : pop c 22 % 2 = 0) : c = 0 ∨ 4 ≤ pop c 22 := by
  by_cases h0 : pop c 22 = 0
  · exact Or.inl (zero_of_bits c 22 (by simpa using hc) (pop_zero c 22 h0))
  · by_cases h2 : pop c 22 = 2
    · obtain ⟨i, j, h1, h3, h4⟩ := pop_two c 22 (by simpa using hc) h2
      have : ∀ j, j < 22 → ∀ i, i < j → syn (2 ^ i ^^^ 2 ^ j) ≠ 0 := by decide +kernel
      exact absurd (h4 ▸ hs) (this j h3 i h1)
    · right; omega
theorem far (x y : Nat) (hx : x < 65536) (hy : y < 65536) (h : x ≠ y) : 4 ≤ pop (enc x ^^^ enc y) 22 := by
  have l1 := enc_lt x hx
  have l2 := enc_lt y hy
  have hlt : enc x ^^^ enc y < 2 ^ 22 := Nat.xor_lt_two_pow (by omega) (by omega)
  rcases code_weight (enc x ^^^ enc y) (by simpa using hlt) (by rw [syn, synN_xor]; have a := enc_syn x hx; have b := enc_syn y hy; unfold syn at a b; rw [a, b]; rfl)
    (by rw [par_xor, enc_par x hx, enc_par y hy]; rfl) with h0 | h0
  · exfalso
    apply h
    have e : enc x = enc y := by
      have := congrArg (fun z => z ^^^ enc y) h0
      simp only [Nat.zero_xor] at this
      rwa [Nat.xor_assoc, Nat.xor_self, Nat.xor_zero] at this
    rw [← enc_dat x hx, ← enc_dat y hy, e]
  · exact h0
theorem pop_self (x : Nat) : pop (x ^^^ x) 22 = 0 := by rw [Nat.xor_self]; decide
/-- two flipped bits -/
theorem two_syn (a b : Nat) (ha : a < 22) (hb : b < 22) (h : a ≠ b) : syn (2 ^ a ^^^ 2 ^ b) ≠ 0 ∧ pop (2 ^ a ^^^ 2 ^ b) 22 = 2 := by
  have : ∀ b, b < 22 → ∀ a, a < 22 → a ≠ b → syn (2 ^ a ^^^ 2 ^ b) ≠ 0 ∧ pop (2 ^ a ^^^ 2 ^ b) 22 = 2 := by decide +kernel
  exact this b hb a ha h
end Go.Proofs.Ytbpldminegjjlaa.Bit
