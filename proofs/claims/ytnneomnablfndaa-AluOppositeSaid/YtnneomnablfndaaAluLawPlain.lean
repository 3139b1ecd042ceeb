/- The plain laws of chapter 7's statements: sums, products, bits, shifts of numbers of 64 bits. -/
import Derived.Test.YtnneomnablfndaaAluPlain
namespace Go.Proofs.Ytnneomnablfndaa
open Go.RowKit

theorem v1 (a b : Nat) : aluV 1 a b = (a + b) % M := rfl
theorem v2 (a b : Nat) : aluV 2 a b = (a + (M - b)) % M := rfl
theorem v3 (a b : Nat) : aluV 3 a b = (a * b) % M := rfl
theorem v4 (a b : Nat) : aluV 4 a b = a / b := rfl
theorem v5 (a b : Nat) : aluV 5 a b = a % b := rfl
theorem v6 (a b : Nat) : aluV 6 a b = a &&& b := rfl
theorem v7 (a b : Nat) : aluV 7 a b = a ||| b := rfl
theorem v8 (a b : Nat) : aluV 8 a b = a ^^^ b := rfl
theorem v9 (a b : Nat) : aluV 9 a b = (a * 2 ^ (b % 64)) % M := rfl
theorem v10 (a b : Nat) : aluV 10 a b = a / 2 ^ (b % 64) := rfl
theorem v11 (a b : Nat) : aluV 11 a b = a / 2 ^ (b % 64) + (if H63 ≤ a then M - 2 ^ (64 - b % 64) else 0) := rfl

-- AluBack
theorem back_add (a b : Nat) (ha : a < M) (hb : b < M) : aluV 2 (aluV 1 a b) b = a := by rw [v2, v1]; unfold M at *; omega
theorem back_xor (a b : Nat) : aluV 8 (aluV 8 a b) b = a := by rw [v8, v8, Nat.xor_assoc, Nat.xor_self, Nat.xor_zero]
theorem back_div (a b : Nat) (ha : a < M) : aluV 1 (aluV 3 (aluV 4 a b) b) (aluV 5 a b) = a := by
  rw [v1, v3, v4, v5]
  have h := Nat.div_add_mod a b
  rw [Nat.mul_comm] at h
  have h1 : a / b * b < M := by omega
  rw [Nat.mod_eq_of_lt h1, h, Nat.mod_eq_of_lt ha]
theorem back_rest (a b : Nat) (hb : ¬ b = 0) : aluV 5 a b < b := by rw [v5]; exact Nat.mod_lt _ (by omega)
theorem and_add_or (a b : Nat) : (a &&& b) + (a ||| b) = a + b := by
  have h : ∀ n a b : Nat, a < 2 ^ n → b < 2 ^ n → (a &&& b) + (a ||| b) = a + b := by
    intro n
    induction n with
    | zero => intro a b ha hb; obtain rfl : a = 0 := by simpa using ha
              obtain rfl : b = 0 := by simpa using hb
              rfl
    | succ n ih =>
      intro a b ha hb
      rw [Nat.pow_succ] at ha hb
      have h := ih (a / 2) (b / 2) (by omega) (by omega)
      have e1 : (a &&& b) / 2 = (a / 2) &&& (b / 2) := Nat.and_div_two
      have e2 : (a ||| b) / 2 = (a / 2) ||| (b / 2) := Nat.or_div_two
      have e3 := @Nat.and_mod_two_eq_one a b
      have e4 := @Nat.or_mod_two_eq_one a b
      have d1 := Nat.div_add_mod (a &&& b) 2
      have d2 := Nat.div_add_mod (a ||| b) 2
      rw [e1] at d1; rw [e2] at d2
      omega
  have hm : a < 2 ^ (max a b) := Nat.lt_of_le_of_lt (Nat.le_max_left a b) Nat.lt_two_pow_self
  have hn : b < 2 ^ (max a b) := Nat.lt_of_le_of_lt (Nat.le_max_right a b) Nat.lt_two_pow_self
  exact h _ a b hm hn
theorem back_bits (a b : Nat) : aluV 1 (aluV 6 a b) (aluV 7 a b) = aluV 1 a b := by rw [v1, v6, v7, v1, and_add_or]

-- AluBits
theorem bits_1 (a b : Nat) : aluV 6 (aluV 6 a b) a = aluV 6 a b := by
  rw [v6, v6]; apply Nat.eq_of_testBit_eq; intro i; simp only [Nat.testBit_and]; cases a.testBit i <;> cases b.testBit i <;> rfl
theorem bits_2 (a b : Nat) : aluV 6 a (aluV 7 a b) = a := by
  rw [v6, v7]; apply Nat.eq_of_testBit_eq; intro i; simp only [Nat.testBit_and, Nat.testBit_or]; cases a.testBit i <;> cases b.testBit i <;> rfl
theorem bits_3 (a b : Nat) : aluV 7 (aluV 6 a b) (aluV 8 a b) = aluV 7 a b := by
  rw [v7, v6, v8, v7]; apply Nat.eq_of_testBit_eq; intro i; simp only [Nat.testBit_and, Nat.testBit_or, Nat.testBit_xor]; cases a.testBit i <;> cases b.testBit i <;> rfl
theorem bits_4 (a b : Nat) : aluV 6 (aluV 6 a b) (aluV 8 a b) = 0 := by
  rw [v6, v6, v8]; apply Nat.eq_of_testBit_eq; intro i; simp only [Nat.testBit_and, Nat.testBit_xor, Nat.zero_testBit]; cases a.testBit i <;> cases b.testBit i <;> rfl
theorem bits_5 (a b : Nat) : aluV 6 b a = aluV 6 a b := by rw [v6, v6, Nat.and_comm]
theorem bits_6 (a b : Nat) : aluV 7 b a = aluV 7 a b := by rw [v7, v7, Nat.or_comm]
theorem bits_7 (a b : Nat) : aluV 8 b a = aluV 8 a b := by rw [v8, v8, Nat.xor_comm]
theorem bits_8 (a b c : Nat) : aluV 6 (aluV 7 a b) c = aluV 7 (aluV 6 a c) (aluV 6 b c) := by
  rw [v6, v7, v7, v6, v6]; apply Nat.eq_of_testBit_eq; intro i; simp only [Nat.testBit_and, Nat.testBit_or]; cases a.testBit i <;> cases b.testBit i <;> cases c.testBit i <;> rfl
theorem holds9 (a b : Nat) : holdsV 9 a b = !decide (aluV 6 a b = 0) := rfl

-- AluRing
theorem ring_1 (a b : Nat) : aluV 1 b a = aluV 1 a b := by rw [v1, v1, Nat.add_comm]
theorem ring_2 (a b : Nat) : aluV 3 b a = aluV 3 a b := by rw [v3, v3, Nat.mul_comm]
theorem ring_3 (a b c : Nat) : aluV 1 (aluV 1 a b) c = aluV 1 a (aluV 1 b c) := by rw [v1, v1, v1, v1, Nat.mod_add_mod, Nat.add_mod_mod, Nat.add_assoc]
theorem ring_4 (a b c : Nat) : aluV 3 (aluV 3 a b) c = aluV 3 a (aluV 3 b c) := by rw [v3, v3, v3, v3, Nat.mod_mul_mod, Nat.mul_mod_mod, Nat.mul_assoc]
theorem ring_5 (a b c : Nat) : aluV 3 a (aluV 1 b c) = aluV 1 (aluV 3 a b) (aluV 3 a c) := by rw [v3, v1, v1, v3, v3, Nat.mul_mod_mod, Nat.mul_add, ← Nat.add_mod]
theorem ring_6 (a : Nat) (ha : a < M) : aluV 2 0 (aluV 2 0 a) = a := by rw [v2, v2]; unfold M at *; omega

-- AluShifts
theorem sh_p (n : Nat) (h : n < 64) : aluV 9 1 n = 2 ^ n := by
  rw [v9, Nat.mod_eq_of_lt h, Nat.one_mul, Nat.mod_eq_of_lt (two_pow_lt_M n h)]
theorem sh_l (a k : Nat) : IntKind.u64.wrap ((a : Int) * ((aluV 9 1 (k % 64) : Nat) : Int)) = ((aluV 9 a k : Nat) : Int) := by
  rw [sh_p _ (Nat.mod_lt _ (by decide)), wrapu_mul]; rfl
theorem sh_r (a k : Nat) (ha : a < M) : IntKind.u64.wrap ((a : Int) / ((aluV 9 1 (k % 64) : Nat) : Int)) = ((aluV 10 a k : Nat) : Int) := by
  rw [sh_p _ (Nat.mod_lt _ (by decide)), ← Int.natCast_ediv, wrapu_nat, Nat.mod_eq_of_lt (Nat.lt_of_le_of_lt (Nat.div_le_self _ _) ha)]; rfl
theorem sh_top (a k : Nat) (ha : a < M) : aluV 11 a k / 9223372036854775808 = a / 9223372036854775808 := by
  rw [v11]
  have hk : k % 64 < 64 := Nat.mod_lt _ (by decide)
  generalize k % 64 = n at hk
  by_cases h : H63 ≤ a
  · rw [if_pos h]
    have hd := div_hi a n ha hk
    have hs := sar_lt a n ha
    rw [if_pos h, Nat.mod_eq_of_lt hk] at hs
    have hp : 2 ^ (64 - n) ≤ M := two_pow_le_M (64 - n) (by omega)
    have hq : H63 / 2 ^ n ≤ a / 2 ^ n := Nat.div_le_div_right h
    have hm : M = 2 ^ n * 2 ^ (64 - n) := pow_split n (by omega)
    have hh : 2 ^ (64 - n) ≤ 2 * (H63 / 2 ^ n) := by
      have e : H63 = 2 ^ n * 2 ^ (63 - n) := by rw [H63_eq, ← Nat.pow_add]; congr 1; omega
      rw [e, Nat.mul_div_cancel_left _ (Nat.two_pow_pos n), Nat.mul_comm, ← Nat.pow_succ]
      exact Nat.pow_le_pow_right (by decide) (by omega)
    generalize 2 ^ (64 - n) = p at *
    generalize a / 2 ^ n = q at *
    generalize H63 / 2 ^ n = r at *
    clear hm
    unfold M H63 at *
    have : q + (18446744073709551616 - p) < 18446744073709551616 := hs
    have : 9223372036854775808 ≤ q + (18446744073709551616 - p) := by omega
    omega
  · rw [if_neg h, Nat.add_zero]
    have := Nat.div_le_self a (2 ^ n)
    generalize a / 2 ^ n = q at *
    unfold H63 at h; omega
theorem sh_ends (a n : Nat) (hn : n < 64) (h0 : 0 < n) : aluV 10 (aluV 9 a n) n = a % aluV 9 1 (64 - n) := by
  rw [v10, v9, Nat.mod_eq_of_lt hn, sh_p (64 - n) (by omega), pow_split n (by omega), Nat.mul_comm a, Nat.mul_mod_mul_left, Nat.mul_div_cancel_left _ (Nat.two_pow_pos n)]
theorem sh_ends0 (a : Nat) (ha : a < M) : aluV 10 (aluV 9 a 0) 0 = a := by
  rw [v10, v9]; simp; exact Nat.mod_eq_of_lt ha
theorem sh_there (a k : Nat) : aluV 9 (aluV 11 a k) (k % 64) = aluV 9 (aluV 10 a k) (k % 64) := by
  rw [v9, v9, v11, v10, Nat.mod_mod]
  have hk : k % 64 < 64 := Nat.mod_lt _ (by decide)
  generalize k % 64 = n at hk
  by_cases h : H63 ≤ a
  · rw [if_pos h, Nat.add_mul]
    have hm : M = 2 ^ n * 2 ^ (64 - n) := pow_split n (by omega)
    have e : (M - 2 ^ (64 - n)) * 2 ^ n = M * (2 ^ n - 1) := by
      rw [Nat.sub_mul, Nat.mul_sub, Nat.mul_one]; congr 1; rw [hm, Nat.mul_comm]
    rw [e, Nat.add_mul_mod_self_left]
  · rw [if_neg h, Nat.add_zero]
end Go.Proofs.Ytnneomnablfndaa
