
/- The plain law of chapter 8: spans as two numbers of 64 bits, no program in sight. -/
import Derived.Test.YtglfmcgpbenckaaAluPlain
import Derived.Lib.BitFns
import Derived.Lib.ItoaNum
namespace Go.Proofs.Ytglfmcgpbenckaa
open Go.RowKit

def spJoin (a b c d : Nat) : Nat × Nat := if a ≤ b ∧ c ≤ d then (min a c, max b d) else (0, 0)
def spJoinE (a b c d : Nat) : Int := if a ≤ b ∧ c ≤ d then 0 else 1
def spMeet (a b c d : Nat) : Nat × Nat := if a ≤ b ∧ c ≤ d then (if max a c ≤ min b d then (max a c, min b d) else (0, 0)) else (0, 0)
def spMeetE (a b c d : Nat) : Int := if a ≤ b ∧ c ≤ d then (if max a c ≤ min b d then 0 else 6) else 1

/-- all bits below the highest one. -/
def filledV (n : Nat) : Nat := 2 ^ Lib.bitLen n - 1
theorem bitLen_bd (n : Nat) (hn : n < M) (h : n ≠ 0) : 1 ≤ Lib.bitLen n ∧ Lib.bitLen n ≤ 64 ∧ 2 ^ (Lib.bitLen n - 1) ≤ n ∧ n < 2 ^ Lib.bitLen n := by
  obtain ⟨h1, h2, h3⟩ := Lib.bitLenAux_bounds 64 n (by rw [← M_eq]; exact hn) h
  refine ⟨h1, ?_, h2, h3⟩
  exact Lib.bitLen_le n 64 (Nat.le_refl _) (by rw [← M_eq]; exact hn)
theorem filledV_0 : filledV 0 = 0 := by decide
theorem filledV_ge (n : Nat) (hn : n < M) : n ≤ filledV n := by
  by_cases h : n = 0
  · subst h; exact Nat.zero_le _
  · obtain ⟨_, _, _, h4⟩ := bitLen_bd n hn h
    unfold filledV; omega
theorem filledV_lt (n : Nat) (hn : n < M) : filledV n < M := by
  by_cases h : n = 0
  · subst h; decide
  · obtain ⟨_, h2, _, _⟩ := bitLen_bd n hn h
    have := two_pow_le_M _ h2
    have := Nat.two_pow_pos (Lib.bitLen n)
    unfold filledV; omega
/-- as the program reckons it. -/
theorem filled_go (n : Nat) (hn : n < M) (h : n ≠ 0) (z : Nat) (hz : z = 64 - Lib.bitLen n) : (18446744073709551615 : Int) / 2 ^ z = ((filledV n : Nat) : Int) := by
  obtain ⟨h1, h2, _, _⟩ := bitLen_bd n hn h
  have e : (18446744073709551615 : Nat) / 2 ^ z = filledV n := by
    unfold filledV
    have hp := Nat.two_pow_pos z
    have hm : M = 2 ^ Lib.bitLen n * 2 ^ z := by rw [← Nat.pow_add, hz, show Lib.bitLen n + (64 - Lib.bitLen n) = 64 by omega, ← M_eq]
    have hq := Nat.two_pow_pos (Lib.bitLen n)
    rw [show (18446744073709551615 : Nat) = (2 ^ Lib.bitLen n - 1) * 2 ^ z + (2 ^ z - 1) by
      rw [Nat.sub_mul, ← hm, Nat.one_mul]
      have : 2 ^ z ≤ M := by rw [hm]; exact Nat.le_mul_of_pos_left _ hq
      unfold M at *; omega]
    rw [Nat.mul_comm, Nat.mul_add_div hp, Nat.div_eq_of_lt (by omega), Nat.add_zero]
  rw [← e]; simp

/-- the row of chapter 8 for what spans become, none of which need be a number alone. -/
def spRow (op : Int) (a b c d : Nat) : Nat × Nat :=
  if op = 1 then (if b + d < M then (a + c, b + d) else (0, M - 1))
  else if op = 2 then (if d ≤ a then (a - d, b - c) else (0, M - 1))
  else if op = 3 then (if b * d < M then (a * c, b * d) else (0, M - 1))
  else if op = 4 then (if c = 0 then (0, b) else (a / d, b / c))
  else if op = 5 then (if b < c ∨ d = 0 then (a, b) else if c = 0 then (0, b) else (0, min b (d - 1)))
  else if op = 6 then (0, min b d)
  else if op = 7 then (max a c, filledV (b ||| d))
  else if op = 8 then (0, filledV (b ||| d))
  else if op = 9 then (if c = d ∧ b * 2 ^ (c % 64) < M then (a * 2 ^ (c % 64), b * 2 ^ (c % 64)) else (0, M - 1))
  else if op = 11 ∧ H63 ≤ b then (0, M - 1)
  else if c = d then (a / 2 ^ (c % 64), b / 2 ^ (c % 64)) else (0, b)

def spDo (op : Int) (a b c d : Nat) : Nat × Nat :=
  if (1 ≤ op ∧ op ≤ 11) ∧ a ≤ b ∧ c ≤ d then (if a = b ∧ c = d then (aluV op a c, aluV op a c) else spRow op a b c d) else (0, 0)
def spDoE (op : Int) (a b c d : Nat) : Int := if (1 ≤ op ∧ op ≤ 11) ∧ a ≤ b ∧ c ≤ d then 0 else 1
theorem M1 : M - 1 = 18446744073709551615 := by decide
end Go.Proofs.Ytglfmcgpbenckaa
