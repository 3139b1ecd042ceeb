
/- The walks of package alu: what its three functions compute. -/
import Derived.Test.YthhohiafhjhjhaaRows
import Derived.Test.YthhohiafhjhjhaaAluPlain
import Derived.WalkKit
import Derived.WalkSpells
import Derived.WalkLawsBesides
import Derived.Lib.Hide
namespace Go.Proofs.Ythhohiafhjhjhaa
open Go.RowKit

theorem ret2 {k l : IntKind} {a b c d : Int} (h : a = b) (h' : c = d) : Ending.returned (.tuple #[.int k a, .int l c]) = .returned (.tuple #[.int k b, .int l d]) := by rw [h, h']
theorem retb2 {l : IntKind} {a b : Bool} {c d : Int} (h : a = b) (h' : c = d) : Ending.returned (.tuple #[.bool a, .int l c]) = .returned (.tuple #[.bool b, .int l d]) := by rw [h, h']

theorem bne_cast (n : Nat) : ((n : Int) != 0) = !decide (n = 0) := by
  by_cases h : n = 0 <;> simp [h]

set_option maxHeartbeats 400000 in
theorem aluHolds_1 (a b : Nat) (ha : a < M) (hb : b < M) (w : World) :
    Calls Try.prog 12 #[.int .i64 1, .int .u64 a, .int .u64 b] w fun e w' => e = .returned (.tuple #[.bool (holdsV 1 a b), .int .i64 0]) ∧ w = w' := by
  have HA := Lib.hid ha; clear ha
  have HB := Lib.hid hb; clear hb
  go_enter Try.func12, Try.ntmps12
  go_wp2
  go_ret2
  refine ⟨retb2 ?_ rfl, rfl⟩
  exact (by by_cases h : a = b <;> simp [holdsV, h] <;> omega)
set_option maxHeartbeats 400000 in
theorem aluHolds_2 (a b : Nat) (ha : a < M) (hb : b < M) (w : World) :
    Calls Try.prog 12 #[.int .i64 2, .int .u64 a, .int .u64 b] w fun e w' => e = .returned (.tuple #[.bool (holdsV 2 a b), .int .i64 0]) ∧ w = w' := by
  have HA := Lib.hid ha; clear ha
  have HB := Lib.hid hb; clear hb
  go_enter Try.func12, Try.ntmps12
  go_wp2
  go_ret2
  refine ⟨retb2 ?_ rfl, rfl⟩
  exact (by by_cases h : a = b <;> simp [holdsV, h] <;> omega)
set_option maxHeartbeats 400000 in
theorem aluHolds_3 (a b : Nat) (ha : a < M) (hb : b < M) (w : World) :
    Calls Try.prog 12 #[.int .i64 3, .int .u64 a, .int .u64 b] w fun e w' => e = .returned (.tuple #[.bool (holdsV 3 a b), .int .i64 0]) ∧ w = w' := by
  have HA := Lib.hid ha; clear ha
  have HB := Lib.hid hb; clear hb
  go_enter Try.func12, Try.ntmps12
  go_wp2
  go_ret2
  refine ⟨retb2 ?_ rfl, rfl⟩
  exact (by by_cases h : a < b <;> simp [holdsV, h])
set_option maxHeartbeats 400000 in
theorem aluHolds_4 (a b : Nat) (ha : a < M) (hb : b < M) (w : World) :
    Calls Try.prog 12 #[.int .i64 4, .int .u64 a, .int .u64 b] w fun e w' => e = .returned (.tuple #[.bool (holdsV 4 a b), .int .i64 0]) ∧ w = w' := by
  have HA := Lib.hid ha; clear ha
  have HB := Lib.hid hb; clear hb
  go_enter Try.func12, Try.ntmps12
  go_wp2
  go_ret2
  refine ⟨retb2 ?_ rfl, rfl⟩
  exact (by by_cases h : a ≤ b <;> simp [holdsV, h])
set_option maxHeartbeats 400000 in
theorem aluHolds_5 (a b : Nat) (ha : a < M) (hb : b < M) (w : World) :
    Calls Try.prog 12 #[.int .i64 5, .int .u64 a, .int .u64 b] w fun e w' => e = .returned (.tuple #[.bool (holdsV 5 a b), .int .i64 0]) ∧ w = w' := by
  have HA := Lib.hid ha; clear ha
  have HB := Lib.hid hb; clear hb
  go_enter Try.func12, Try.ntmps12
  go_wp2
  go_ret2
  refine ⟨retb2 ?_ rfl, rfl⟩
  exact (by by_cases h : a ≤ b <;> simp [holdsV, h])
set_option maxHeartbeats 400000 in
theorem aluHolds_6 (a b : Nat) (ha : a < M) (hb : b < M) (w : World) :
    Calls Try.prog 12 #[.int .i64 6, .int .u64 a, .int .u64 b] w fun e w' => e = .returned (.tuple #[.bool (holdsV 6 a b), .int .i64 0]) ∧ w = w' := by
  have HA := Lib.hid ha; clear ha
  have HB := Lib.hid hb; clear hb
  go_enter Try.func12, Try.ntmps12
  go_wp2
  go_ret2
  refine ⟨retb2 ?_ rfl, rfl⟩
  exact (by by_cases h : a < b <;> simp [holdsV, h])
set_option maxHeartbeats 400000 in
theorem aluHolds_7 (a b : Nat) (ha : a < M) (hb : b < M) (w : World) :
    Calls Try.prog 12 #[.int .i64 7, .int .u64 a, .int .u64 b] w fun e w' => e = .returned (.tuple #[.bool (holdsV 7 a b), .int .i64 0]) ∧ w = w' := by
  have HA := Lib.hid ha; clear ha
  have HB := Lib.hid hb; clear hb
  go_enter Try.func12, Try.ntmps12
  go_wp2
  go_ret2
  refine ⟨retb2 ?_ rfl, rfl⟩
  exact (by simp only [sgn_lt a b HA.out HB.out]; simp [holdsV])
set_option maxHeartbeats 400000 in
theorem aluHolds_8 (a b : Nat) (ha : a < M) (hb : b < M) (w : World) :
    Calls Try.prog 12 #[.int .i64 8, .int .u64 a, .int .u64 b] w fun e w' => e = .returned (.tuple #[.bool (holdsV 8 a b), .int .i64 0]) ∧ w = w' := by
  have HA := Lib.hid ha; clear ha
  have HB := Lib.hid hb; clear hb
  go_enter Try.func12, Try.ntmps12
  go_wp2
  go_ret2
  refine ⟨retb2 ?_ rfl, rfl⟩
  exact (by simp only [sgn_lt a b HA.out HB.out]; simp [holdsV])
set_option maxHeartbeats 400000 in
theorem aluHolds_9 (a b : Nat) (ha : a < M) (hb : b < M) (w : World) :
    Calls Try.prog 12 #[.int .i64 9, .int .u64 a, .int .u64 b] w fun e w' => e = .returned (.tuple #[.bool (holdsV 9 a b), .int .i64 0]) ∧ w = w' := by
  have HA := Lib.hid ha; clear ha
  have HB := Lib.hid hb; clear hb
  go_enter Try.func12, Try.ntmps12
  go_wp2
  go_ret2
  refine ⟨retb2 ?_ rfl, rfl⟩
  exact (by rw [bits_and a b HA.out HB.out]; simp [holdsV]; exact bne_cast _)
set_option maxHeartbeats 400000 in
theorem aluHolds_no (op : Int) (h : op < 1 ∨ 9 < op) (a b : Nat) (w : World) :
    Calls Try.prog 12 #[.int .i64 op, .int .u64 a, .int .u64 b] w fun e w' => e = .returned (.tuple #[.bool false, .int .i64 1]) ∧ w = w' := by
  have h1 : (op == 1) = false := by simp; omega
  have h2 : (op == 2) = false := by simp; omega
  have h3 : (op == 3) = false := by simp; omega
  have h4 : (op == 4) = false := by simp; omega
  have h5 : (op == 5) = false := by simp; omega
  have h6 : (op == 6) = false := by simp; omega
  have h7 : (op == 7) = false := by simp; omega
  have h8 : (op == 8) = false := by simp; omega
  have h9 : (op == 9) = false := by simp; omega
  clear h
  go_enter Try.func12, Try.ntmps12
  go_wp2
  go_ret2
  exact ⟨rfl, rfl⟩

theorem aluHolds_any (op : Int) (a b : Nat) (ha : a < M) (hb : b < M) (w : World) :
    Calls Try.prog 12 #[.int .i64 op, .int .u64 a, .int .u64 b] w fun e w' => e = .returned (.tuple #[.bool (holdsV op a b), .int .i64 (holdsE op)]) ∧ w = w' := by
  by_cases h : op < 1 ∨ 9 < op
  · have e1 : holdsE op = 1 := by unfold holdsE; rw [if_neg (by omega)]
    have e2 : holdsV op a b = false := by
      unfold holdsV
      rw [if_neg (by omega), if_neg (by omega), if_neg (by omega), if_neg (by omega), if_neg (by omega), if_neg (by omega), if_neg (by omega), if_neg (by omega), if_neg (by omega)]
    rw [e1, e2]; exact aluHolds_no op h a b w
  · rw [holdsE_0 op (by omega) (by omega)]
    by_cases h1 : op = 1
    · subst h1; exact aluHolds_1 a b ha hb w
    by_cases h2 : op = 2
    · subst h2; exact aluHolds_2 a b ha hb w
    by_cases h3 : op = 3
    · subst h3; exact aluHolds_3 a b ha hb w
    by_cases h4 : op = 4
    · subst h4; exact aluHolds_4 a b ha hb w
    by_cases h5 : op = 5
    · subst h5; exact aluHolds_5 a b ha hb w
    by_cases h6 : op = 6
    · subst h6; exact aluHolds_6 a b ha hb w
    by_cases h7 : op = 7
    · subst h7; exact aluHolds_7 a b ha hb w
    by_cases h8 : op = 8
    · subst h8; exact aluHolds_8 a b ha hb w
    obtain rfl : op = 9 := by omega
    exact aluHolds_9 a b ha hb w

set_option maxHeartbeats 400000 in
theorem aluNot_1 (w : World) :
    Calls Try.prog 18 #[.int .i64 1] w fun e w' => e = .returned (.tuple #[.int .i64 2, .int .i64 0]) ∧ Below w.heap.size w w' := by
  go_enter Try.func18, Try.ntmps18
  go_wp2
  go_ret2
  exact ⟨rfl, (Below.refl _ _).alloc (Nat.le_refl _) _⟩
set_option maxHeartbeats 400000 in
theorem aluNot_2 (w : World) :
    Calls Try.prog 18 #[.int .i64 2] w fun e w' => e = .returned (.tuple #[.int .i64 1, .int .i64 0]) ∧ Below w.heap.size w w' := by
  go_enter Try.func18, Try.ntmps18
  go_wp2
  go_ret2
  exact ⟨rfl, (Below.refl _ _).alloc (Nat.le_refl _) _⟩
set_option maxHeartbeats 400000 in
theorem aluNot_3 (w : World) :
    Calls Try.prog 18 #[.int .i64 3] w fun e w' => e = .returned (.tuple #[.int .i64 6, .int .i64 0]) ∧ Below w.heap.size w w' := by
  go_enter Try.func18, Try.ntmps18
  go_wp2
  go_ret2
  exact ⟨rfl, (Below.refl _ _).alloc (Nat.le_refl _) _⟩
set_option maxHeartbeats 400000 in
theorem aluNot_4 (w : World) :
    Calls Try.prog 18 #[.int .i64 4] w fun e w' => e = .returned (.tuple #[.int .i64 5, .int .i64 0]) ∧ Below w.heap.size w w' := by
  go_enter Try.func18, Try.ntmps18
  go_wp2
  go_ret2
  exact ⟨rfl, (Below.refl _ _).alloc (Nat.le_refl _) _⟩
set_option maxHeartbeats 400000 in
theorem aluNot_5 (w : World) :
    Calls Try.prog 18 #[.int .i64 5] w fun e w' => e = .returned (.tuple #[.int .i64 4, .int .i64 0]) ∧ Below w.heap.size w w' := by
  go_enter Try.func18, Try.ntmps18
  go_wp2
  go_ret2
  exact ⟨rfl, (Below.refl _ _).alloc (Nat.le_refl _) _⟩
set_option maxHeartbeats 400000 in
theorem aluNot_6 (w : World) :
    Calls Try.prog 18 #[.int .i64 6] w fun e w' => e = .returned (.tuple #[.int .i64 3, .int .i64 0]) ∧ Below w.heap.size w w' := by
  go_enter Try.func18, Try.ntmps18
  go_wp2
  go_ret2
  exact ⟨rfl, (Below.refl _ _).alloc (Nat.le_refl _) _⟩
set_option maxHeartbeats 400000 in
theorem aluNot_7 (w : World) :
    Calls Try.prog 18 #[.int .i64 7] w fun e w' => e = .returned (.tuple #[.int .i64 8, .int .i64 0]) ∧ Below w.heap.size w w' := by
  go_enter Try.func18, Try.ntmps18
  go_wp2
  go_ret2
  exact ⟨rfl, (Below.refl _ _).alloc (Nat.le_refl _) _⟩
set_option maxHeartbeats 400000 in
theorem aluNot_8 (w : World) :
    Calls Try.prog 18 #[.int .i64 8] w fun e w' => e = .returned (.tuple #[.int .i64 7, .int .i64 0]) ∧ Below w.heap.size w w' := by
  go_enter Try.func18, Try.ntmps18
  go_wp2
  go_ret2
  exact ⟨rfl, (Below.refl _ _).alloc (Nat.le_refl _) _⟩
set_option maxHeartbeats 400000 in
theorem aluNot_no (op : Int) (h : op < 1 ∨ 8 < op) (w : World) :
    Calls Try.prog 18 #[.int .i64 op] w fun e w' => e = .returned (.tuple #[.int .i64 0, .int .i64 1]) ∧ Below w.heap.size w w' := by
  rcases h with h | h
  · go_enter Try.func18, Try.ntmps18
    go_wp2
    go_ret2
    exact ⟨rfl, Below.refl _ _⟩
  · have h' : ¬ op < 1 := by omega
    go_enter Try.func18, Try.ntmps18
    go_wp2
    go_ret2
    exact ⟨rfl, Below.refl _ _⟩

theorem aluNot_any (op : Int) (w : World) :
    Calls Try.prog 18 #[.int .i64 op] w fun e w' => e = .returned (.tuple #[.int .i64 (notV op), .int .i64 (notE op)]) ∧ Below w.heap.size w w' := by
  by_cases h : op < 1 ∨ 8 < op
  · have e1 : notE op = 1 := by unfold notE; rw [if_neg (by omega)]
    have e2 : notV op = 0 := by
      unfold notV
      rw [if_neg (by omega), if_neg (by omega), if_neg (by omega), if_neg (by omega), if_neg (by omega), if_neg (by omega), if_neg (by omega), if_neg (by omega)]
    rw [e1, e2]; exact aluNot_no op h w
  · rw [notE_0 op (by omega) (by omega)]
    by_cases h1 : op = 1
    · subst h1; exact aluNot_1 w
    by_cases h2 : op = 2
    · subst h2; exact aluNot_2 w
    by_cases h3 : op = 3
    · subst h3; exact aluNot_3 w
    by_cases h4 : op = 4
    · subst h4; exact aluNot_4 w
    by_cases h5 : op = 5
    · subst h5; exact aluNot_5 w
    by_cases h6 : op = 6
    · subst h6; exact aluNot_6 w
    by_cases h7 : op = 7
    · subst h7; exact aluNot_7 w
    obtain rfl : op = 8 := by omega
    exact aluNot_8 w
end Go.Proofs.Ythhohiafhjhjhaa
