
/- The plain law of chapter 7: numbers of 64 bits as Nat, no program in sight. -/
import Derived.RowKit
import Derived.Laws.Bits64
import Derived.Laws.BitsAllLaws
namespace Go.Proofs.Ytglfmcgpbenckaa
open Go.RowKit

/-- two to the 64. -/
def M : Nat := 18446744073709551616
/-- two to the 63. -/
def H63 : Nat := 9223372036854775808
theorem M_eq : M = 2 ^ 64 := by decide
theorem H63_eq : H63 = 2 ^ 63 := by decide
theorem M_pos : 0 < M := by decide

def aluV (op : Int) (a b : Nat) : Nat :=
  if op = 1 then (a + b) % M else if op = 2 then (a + (M - b)) % M else if op = 3 then (a * b) % M
  else if op = 4 then a / b else if op = 5 then a % b
  else if op = 6 then a &&& b else if op = 7 then a ||| b else if op = 8 then a ^^^ b
  else if op = 9 then (a * 2 ^ (b % 64)) % M else if op = 10 then a / 2 ^ (b % 64)
  else if op = 11 then a / 2 ^ (b % 64) + (if H63 ≤ a then M - 2 ^ (64 - b % 64) else 0)
  else 0
def aluE (op : Int) : Int := if 1 ≤ op ∧ op ≤ 11 then 0 else 1

theorem aluE_0 (op : Int) (h1 : 1 ≤ op) (h2 : op ≤ 11) : aluE op = 0 := by unfold aluE; rw [if_pos ⟨h1, h2⟩]

theorem wrapu_nat (n : Nat) : IntKind.u64.wrap (n : Int) = ((n % M : Nat) : Int) := by
  rw [IntKind.wrap_u64]; simp [M]
theorem wrapu_add (a b : Nat) : IntKind.u64.wrap ((a : Int) + (b : Int)) = (((a + b) % M : Nat) : Int) := by
  rw [IntKind.wrap_u64]; simp [M]
theorem wrapu_mul (a b : Nat) : IntKind.u64.wrap ((a : Int) * (b : Int)) = (((a * b) % M : Nat) : Int) := by
  rw [IntKind.wrap_u64]; simp [M]
theorem wrapu_sub (a b : Nat) (hb : b < M) : IntKind.u64.wrap ((a : Int) - (b : Int)) = (((a + (M - b)) % M : Nat) : Int) := by
  rw [IntKind.wrap_u64]; unfold M at *; omega

theorem and_lt (a b : Nat) (ha : a < M) : a &&& b < M := Nat.lt_of_le_of_lt Nat.and_le_left ha
theorem or_lt (a b : Nat) (ha : a < M) (hb : b < M) : a ||| b < M := by rw [M_eq] at *; exact Nat.or_lt_two_pow ha hb
theorem xor_lt (a b : Nat) (ha : a < M) (hb : b < M) : a ^^^ b < M := by rw [M_eq] at *; exact Nat.xor_lt_two_pow ha hb

theorem bits_and (a b : Nat) (ha : a < M) (hb : b < M) : Go.bits .and .u64 (a : Int) (b : Int) = ((a &&& b : Nat) : Int) := u64_and_nat a b ha hb
theorem bits_or (a b : Nat) (ha : a < M) (hb : b < M) : Go.bits .or .u64 (a : Int) (b : Int) = ((a ||| b : Nat) : Int) := u64_or_nat a b ha hb
theorem bits_xor (a b : Nat) (ha : a < M) (hb : b < M) : Go.bits .xor .u64 (a : Int) (b : Int) = ((a ^^^ b : Nat) : Int) := u64_xor_nat a b ha hb

theorem pow_split (k : Nat) (h : k ≤ 64) : M = 2 ^ k * 2 ^ (64 - k) := by
  rw [← Nat.pow_add, show k + (64 - k) = 64 by omega, ← M_eq]

theorem sgn_lo (a : Nat) (h : a < H63) : wrap64 (a : Int) = a := by unfold wrap64; unfold H63 at h; omega
theorem sgn_hi (a : Nat) (ha : a < M) (h : H63 ≤ a) : wrap64 (a : Int) = (a : Int) - (M : Int) := by unfold wrap64; unfold H63 at h; unfold M at ha ⊢; omega

theorem two_pow_le_M (j : Nat) (h : j ≤ 64) : 2 ^ j ≤ M := by rw [M_eq]; exact Nat.pow_le_pow_right (by decide) h
theorem two_pow_lt_M (j : Nat) (h : j < 64) : 2 ^ j < M := by rw [M_eq]; exact Nat.pow_lt_pow_right (by decide) h

theorem div_hi (a k : Nat) (ha : a < M) (hk : k < 64) : a / 2 ^ k < 2 ^ (64 - k) := by
  rw [Nat.div_lt_iff_lt_mul (Nat.two_pow_pos k), Nat.mul_comm, ← pow_split k (by omega)]; exact ha

/-- the shift with its sign, as Go's own text reckons it. -/
theorem sar_go (a b : Nat) (ha : a < M) : IntKind.u64.wrap (wrap64 (a : Int) / 2 ^ (b % 64)) = ((a / 2 ^ (b % 64) + (if H63 ≤ a then M - 2 ^ (64 - b % 64) else 0) : Nat) : Int) := by
  have hk : b % 64 < 64 := Nat.mod_lt _ (by decide)
  generalize b % 64 = k at hk
  have hp : ((2 : Int) ^ k) = ((2 ^ k : Nat) : Int) := by simp
  by_cases h : H63 ≤ a
  · rw [sgn_hi a ha h, if_pos h]
    have hd := div_hi a k ha hk
    have hle := two_pow_le_M (64 - k) (by omega)
    have e : ((a : Int) - (M : Int)) / 2 ^ k = ((a / 2 ^ k : Nat) : Int) - ((2 ^ (64 - k) : Nat) : Int) := by
      have hM : (M : Int) = ((2 ^ (64 - k) : Nat) : Int) * 2 ^ k := by rw [hp, ← Int.natCast_mul, Nat.mul_comm, ← pow_split k (by omega)]
      rw [hM, Int.sub_mul_ediv_right _ _ (by rw [hp]; have := Nat.two_pow_pos k; omega), hp, ← Int.natCast_ediv]
    rw [e, IntKind.wrap_u64]
    generalize a / 2 ^ k = q at *
    generalize 2 ^ (64 - k) = p at *
    unfold M at *; omega
  · rw [sgn_lo a (by omega), if_neg h, Nat.add_zero, hp, ← Int.natCast_ediv, wrapu_nat, Nat.mod_eq_of_lt (Nat.lt_of_le_of_lt (Nat.div_le_self _ _) ha)]

theorem sar_lt (a b : Nat) (ha : a < M) : a / 2 ^ (b % 64) + (if H63 ≤ a then M - 2 ^ (64 - b % 64) else 0) < M := by
  have hk : b % 64 < 64 := Nat.mod_lt _ (by decide)
  generalize b % 64 = k at hk
  by_cases h : H63 ≤ a
  · rw [if_pos h]
    have hd := div_hi a k ha hk
    have hle := two_pow_le_M (64 - k) (by omega)
    generalize a / 2 ^ k = q at *
    generalize 2 ^ (64 - k) = p at *
    omega
  · rw [if_neg h, Nat.add_zero]; exact Nat.lt_of_le_of_lt (Nat.div_le_self _ _) ha

theorem aluV_lt (op : Int) (a b : Nat) (ha : a < M) (hb : b < M) : aluV op a b < M := by
  unfold aluV
  have hs := sar_lt a b ha
  generalize a / 2 ^ (b % 64) + (if H63 ≤ a then M - 2 ^ (64 - b % 64) else 0) = s at hs
  repeat' split
  all_goals first
    | exact Nat.mod_lt _ M_pos
    | exact Nat.lt_of_le_of_lt (Nat.div_le_self _ _) ha
    | exact Nat.lt_of_le_of_lt (Nat.mod_le _ _) ha
    | exact and_lt a b ha
    | exact or_lt a b ha hb
    | exact xor_lt a b ha hb
    | exact M_pos
    | exact hs

/-- how two numbers stand to each other. -/
def holdsV (c : Int) (a b : Nat) : Bool :=
  if c = 1 then decide (a = b) else if c = 2 then !decide (a = b) else if c = 3 then decide (a < b) else if c = 4 then decide (a ≤ b)
  else if c = 5 then !decide (a ≤ b) else if c = 6 then !decide (a < b)
  else if c = 7 then decide ((a + H63) % M < (b + H63) % M) else if c = 8 then !decide ((a + H63) % M < (b + H63) % M)
  else if c = 9 then !decide (a &&& b = 0) else false
def holdsE (c : Int) : Int := if 1 ≤ c ∧ c ≤ 9 then 0 else 1
theorem holdsE_0 (c : Int) (h1 : 1 ≤ c) (h2 : c ≤ 9) : holdsE c = 0 := by unfold holdsE; rw [if_pos ⟨h1, h2⟩]
theorem sgn_lt (a b : Nat) (_ha : a < M) (_hb : b < M) : (wrap64 (a : Int) < wrap64 (b : Int)) ↔ ((a + H63) % M < (b + H63) % M) := by
  unfold wrap64; unfold M H63 at *; omega

def notV (c : Int) : Int :=
  if c = 1 then 2 else if c = 2 then 1 else if c = 3 then 6 else if c = 4 then 5 else if c = 5 then 4 else if c = 6 then 3 else if c = 7 then 8 else if c = 8 then 7 else 0
def notE (c : Int) : Int := if 1 ≤ c ∧ c ≤ 8 then 0 else 1
theorem notE_0 (c : Int) (h1 : 1 ≤ c) (h2 : c ≤ 8) : notE c = 0 := by unfold notE; rw [if_pos ⟨h1, h2⟩]
end Go.Proofs.Ytglfmcgpbenckaa
