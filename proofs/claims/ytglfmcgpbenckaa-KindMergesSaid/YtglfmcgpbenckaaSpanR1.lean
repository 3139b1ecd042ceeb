
/- The walks of the document's answer of chapter 8 (package turnbuckleref08): its small functions. -/
import Derived.Test.YtglfmcgpbenckaaSpanW1
import Derived.Deep.RegionHeld3
namespace Go.Proofs.Ytglfmcgpbenckaa
open Go.RowKit
set_option linter.unusedVariables false
set_option linter.unusedSimpArgs false

set_option maxHeartbeats 400000 in
theorem rmay_any (a b : Nat) (w : World) :
    Calls Try.prog 34 #[.agg #[.int .u64 a, .int .u64 b]] w fun e w' => e = .returned (.bool (decide (a ≤ b))) ∧ Below w.heap.size w w' := by
  go_enter Try.func34, Try.ntmps34
  go_wp2
  go_ret
  exact ⟨rfl, (by (repeat (first | exact HB | exact Below.refl _ _ | apply below_drew | apply below_draws | refine below_set ?_ (by (try dsimp only); omega) _ | apply below_alloc)))⟩

theorem ret_u {a b : Nat} (h : a = b) : Ending.returned (.int .u64 (a : Int)) = .returned (.int .u64 (b : Int)) := by rw [h]

set_option maxHeartbeats 400000 in
theorem less_any (x y : Nat) (w : World) :
    Calls Try.prog 36 #[.int .u64 x, .int .u64 y] w fun e w' => e = .returned (.int .u64 ((min x y : Nat) : Int)) ∧ w = w' := by
  by_cases h : x < y
  · rw [Nat.min_eq_left (by omega)]
    go_enter Try.func36, Try.ntmps36
    go_wp2
    go_ret
    exact ⟨rfl, rfl⟩
  · rw [Nat.min_eq_right (by omega)]
    go_enter Try.func36, Try.ntmps36
    go_wp2
    go_ret
    exact ⟨rfl, rfl⟩

set_option maxHeartbeats 400000 in
theorem more_any (x y : Nat) (w : World) :
    Calls Try.prog 37 #[.int .u64 x, .int .u64 y] w fun e w' => e = .returned (.int .u64 ((max x y : Nat) : Int)) ∧ w = w' := by
  by_cases h : y < x
  · rw [Nat.max_eq_left (by omega)]
    go_enter Try.func37, Try.ntmps37
    go_wp2
    go_ret
    exact ⟨rfl, rfl⟩
  · rw [Nat.max_eq_right (by omega)]
    go_enter Try.func37, Try.ntmps37
    go_wp2
    go_ret
    exact ⟨rfl, rfl⟩

def mostN : Nat := 18446744073709551615
theorem mostN_eq : mostN = M - 1 := by decide
theorem mostN_cast : ((mostN : Nat) : Int) = 18446744073709551615 := by decide

set_option maxHeartbeats 400000 in
theorem to_any (x y : Int) (w : World) :
    Calls Try.prog 35 #[.int .u64 x, .int .u64 y] w fun e w' => e = .returned (.agg #[.int .u64 x, .int .u64 y]) ∧ w.alloc (.cells #[.int .u64 x, .int .u64 y] 24) = w' := by
  go_enter Try.func35, Try.ntmps35
  go_wp2
  exact bodyPost_ret (v := .agg #[.int .u64 x, .int .u64 y]) (by simp [results, Try.results35, go_sem]) rfl ⟨rfl, rfl⟩

def fj (j : Nat) : Nat := 2 ^ j - 1
theorem fj_succ (j : Nat) : fj (j + 1) = 2 * fj j + 1 := by
  unfold fj; have := Nat.two_pow_pos j; rw [Nat.pow_succ]; omega
theorem filled_step (j n : Nat) (hj : j ≤ 64) (h : fj j < n) (hn : n < M) : IntKind.u64.wrap (IntKind.u64.wrap (2 * ((fj j : Nat) : Int)) + 1) = ((fj (j + 1) : Nat) : Int) ∧ j < 64 := by
  unfold fj at *
  have hj' : j < 64 := by
    rcases Nat.lt_or_ge j 64 with h' | h'
    · exact h'
    · have e : j = 64 := by omega
      rw [e, ← M_eq] at h; omega
  have h2 := two_pow_le_M (j + 1) (by omega)
  have hp := Nat.two_pow_pos j
  refine ⟨?_, hj'⟩
  rw [Nat.pow_succ] at h2 ⊢
  generalize 2 ^ j = p at *
  have e1 : IntKind.u64.wrap (2 * ((p - 1 : Nat) : Int)) = ((2 * (p - 1) : Nat) : Int) := by
    have e : 2 * ((p - 1 : Nat) : Int) = ((2 * (p - 1) : Nat) : Int) := by simp
    rw [e, wrapu_nat, Nat.mod_eq_of_lt (by omega)]
  have e2 : ((2 * (p - 1) : Nat) : Int) + 1 = ((2 * (p - 1) + 1 : Nat) : Int) := by simp
  rw [e1, e2, wrapu_nat, Nat.mod_eq_of_lt (by omega)]
  congr 1; omega
theorem filled_end (j n : Nat) (hj : j ≤ 64) (hn : n < M) (h1 : n ≤ 2 ^ j - 1) (h2 : j = 0 ∨ 2 ^ (j - 1) - 1 < n) : 2 ^ j - 1 = filledV n := by
  by_cases h0 : n = 0
  · subst h0
    rcases h2 with rfl | h2
    · decide
    · omega
  · obtain ⟨b1, b2, b3, b4⟩ := bitLen_bd n hn h0
    unfold filledV
    have e : j = Lib.bitLen n := by
      rcases Nat.lt_trichotomy j (Lib.bitLen n) with h | h | h
      · have := Nat.pow_le_pow_right (show 0 < 2 by decide) (show j ≤ Lib.bitLen n - 1 by omega)
        have := Nat.two_pow_pos j
        omega
      · exact h
      · have h3 := Nat.pow_le_pow_right (show 0 < 2 by decide) (show Lib.bitLen n ≤ j - 1 by omega)
        have := Nat.two_pow_pos (Lib.bitLen n)
        rcases h2 with h2 | h2 <;> omega
    rw [e]

end Go.Proofs.Ytglfmcgpbenckaa
