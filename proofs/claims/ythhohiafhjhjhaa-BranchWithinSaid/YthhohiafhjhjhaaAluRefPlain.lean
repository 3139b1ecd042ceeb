
/- The plain law behind the document's answer of chapter 7: bit by bit. -/
import Derived.Test.YthhohiafhjhjhaaAluPlain
namespace Go.Proofs.Ythhohiafhjhjhaa
open Go.RowKit

/-- two to the k, as a number of 64 bits. -/
def pw (k : Nat) : Nat := 2 ^ k % M
theorem pow_step (k : Nat) : IntKind.u64.wrap (((pw k : Nat) : Int) * 2) = ((pw (k + 1) : Nat) : Int) := by
  unfold pw
  have e : ((2 ^ k % M : Nat) : Int) * 2 = ((2 ^ k % M * 2 : Nat) : Int) := by simp
  rw [e, wrapu_nat, Nat.pow_succ, Nat.mod_mul_mod]

theorem pow_mod (k : Nat) (h : k < 64) : pw k = 2 ^ k := Nat.mod_eq_of_lt (two_pow_lt_M k h)

theorem testBit_div (a i : Nat) : a.testBit i = decide (a / 2 ^ i % 2 = 1) := by
  rw [Nat.testBit_eq_decide_div_mod_eq]

def combF (one two : Bool) (x y : Bool) : Bool := x && y && two || (x != y) && one
def comb (one two : Bool) (a b : Nat) : Nat := Nat.bitwise (combF one two) a b
theorem comb_bit (one two : Bool) (a b i : Nat) : (comb one two a b).testBit i = combF one two (a.testBit i) (b.testBit i) := by
  unfold comb; exact Nat.testBit_bitwise (by simp [combF]) a b i
theorem comb_and (a b : Nat) : comb false true a b = a &&& b := by
  apply Nat.eq_of_testBit_eq; intro i
  rw [comb_bit, Nat.testBit_and]; unfold combF; cases a.testBit i <;> cases b.testBit i <;> rfl
theorem comb_or (a b : Nat) : comb true true a b = a ||| b := by
  apply Nat.eq_of_testBit_eq; intro i
  rw [comb_bit, Nat.testBit_or]; unfold combF; cases a.testBit i <;> cases b.testBit i <;> rfl
theorem comb_xor (a b : Nat) : comb true false a b = a ^^^ b := by
  apply Nat.eq_of_testBit_eq; intro i
  rw [comb_bit, Nat.testBit_xor]; unfold combF; cases a.testBit i <;> cases b.testBit i <;> rfl
theorem comb_lt (one two : Bool) (a b : Nat) (ha : a < M) (hb : b < M) : comb one two a b < M := by
  rw [M_eq] at *; unfold comb; exact Nat.bitwise_lt_two_pow ha hb

theorem mod_succ (c k : Nat) : c % 2 ^ (k + 1) = c % 2 ^ k + if c.testBit k then 2 ^ k else 0 := by
  rw [Nat.mod_pow_succ, testBit_div]
  have := Nat.mod_lt (c / 2 ^ k) (show 2 > 0 by decide)
  by_cases h : c / 2 ^ k % 2 = 1
  · rw [h]; simp
  · rw [show c / 2 ^ k % 2 = 0 by omega]; simp
theorem mod_lt_M (c k : Nat) (hk : k ≤ 64) : c % 2 ^ k < M := Nat.lt_of_lt_of_le (Nat.mod_lt _ (Nat.two_pow_pos k)) (two_pow_le_M k hk)
theorem mod_add_lt (c k : Nat) (hk : k < 64) : c % 2 ^ k + 2 ^ k < M := by
  have h1 := Nat.mod_lt c (Nat.two_pow_pos k)
  have h2 := two_pow_le_M (k + 1) (by omega)
  rw [Nat.pow_succ] at h2; omega
def cb (one two : Bool) (a b k : Nat) : Nat := comb one two a b % 2 ^ k
theorem bits_yes (one two : Bool) (a b k : Nat) (hk : k < 64) (h : combF one two (a.testBit k) (b.testBit k) = true) :
    IntKind.u64.wrap (((cb one two a b k : Nat) : Int) + ((pw k : Nat) : Int)) = ((cb one two a b (k + 1) : Nat) : Int) := by
  unfold cb; rw [wrapu_add, mod_succ, comb_bit, h, if_pos rfl, pow_mod k hk, Nat.mod_eq_of_lt (mod_add_lt _ k hk)]
theorem bits_no (one two : Bool) (a b k : Nat) (h : combF one two (a.testBit k) (b.testBit k) = false) :
    ((cb one two a b k : Nat) : Int) = ((cb one two a b (k + 1) : Nat) : Int) := by
  unfold cb; rw [mod_succ, comb_bit, h]; simp
theorem bits_end (one two : Bool) (a b : Nat) (ha : a < M) (hb : b < M) : cb one two a b 64 = comb one two a b := by
  unfold cb; rw [← M_eq]; exact Nat.mod_eq_of_lt (comb_lt one two a b ha hb)

/-- the shift with its sign, as the document's answer reckons it: from bit 64 - k on. -/
def sarAt (a k j : Nat) : Nat := a / 2 ^ k + (if H63 ≤ a then 2 ^ j - 2 ^ (64 - k) else 0)
theorem sarAt_start (a k : Nat) : sarAt a k (64 - k) = a / 2 ^ k := by unfold sarAt; split <;> simp
theorem sarAt_end (a k : Nat) : sarAt a k 64 = a / 2 ^ k + (if H63 ≤ a then M - 2 ^ (64 - k) else 0) := by unfold sarAt; rw [← M_eq]
theorem top_bit (a : Nat) (ha : a < M) : a.testBit 63 = decide (H63 ≤ a) := by
  rw [testBit_div]; unfold M at ha; unfold H63
  have : a / 2 ^ 63 % 2 = 1 ↔ 9223372036854775808 ≤ a := by omega
  simp only [this]
theorem sarAt_yes (a k j : Nat) (ha : a < M) (hk : k < 64) (h1 : 64 - k ≤ j) (h2 : j < 64) (h : H63 ≤ a) :
    IntKind.u64.wrap (((sarAt a k j : Nat) : Int) + ((pw j : Nat) : Int)) = ((sarAt a k (j + 1) : Nat) : Int) := by
  have hd := div_hi a k ha hk
  have hle : 2 ^ (64 - k) ≤ 2 ^ j := Nat.pow_le_pow_right (by decide) h1
  have h3 := two_pow_le_M (j + 1) (by omega)
  rw [wrapu_add, pow_mod j h2]; unfold sarAt; rw [if_pos h, if_pos h]
  rw [Nat.pow_succ] at h3 ⊢
  generalize a / 2 ^ k = q at *
  generalize 2 ^ (64 - k) = p at *
  generalize 2 ^ j = r at *
  rw [Nat.mod_eq_of_lt (by omega)]
  congr 1; omega
theorem sarAt_no (a k j : Nat) (h : ¬ H63 ≤ a) : sarAt a k j = sarAt a k (j + 1) := by
  unfold sarAt; rw [if_neg h, if_neg h]
theorem pw_pos (k : Nat) (h : k < 64) : ¬ pw k = 0 := by rw [pow_mod k h]; have := Nat.two_pow_pos k; omega
theorem bit_go (a i : Nat) (ha : a < M) (hi : i < 64) : (IntKind.u64.wrap ((a : Int) / ((pw i : Nat) : Int)) % 2 == 1) = a.testBit i := by
  rw [← Int.natCast_ediv, wrapu_nat, pow_mod i hi, Nat.mod_eq_of_lt (Nat.lt_of_le_of_lt (Nat.div_le_self _ _) ha), testBit_div]
  generalize a / 2 ^ i = q
  by_cases h : q % 2 = 1
  · have : (q : Int) % 2 = 1 := by omega
    simp [h, this]
  · have : ¬ (q : Int) % 2 = 1 := by omega
    simp [h, this]
end Go.Proofs.Ythhohiafhjhjhaa
