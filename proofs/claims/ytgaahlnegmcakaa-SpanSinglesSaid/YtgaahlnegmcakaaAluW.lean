
/- The walks of package alu: what its three functions compute. -/
import Derived.Test.YtgaahlnegmcakaaRows
import Derived.Test.YtgaahlnegmcakaaAluPlain
import Derived.WalkKit
import Derived.WalkSpells
import Derived.WalkLawsBesides
import Derived.Lib.Hide
namespace Go.Proofs.Ytgaahlnegmcakaa
open Go.RowKit

theorem ret2 {k l : IntKind} {a b c d : Int} (h : a = b) (h' : c = d) : Ending.returned (.tuple #[.int k a, .int l c]) = .returned (.tuple #[.int k b, .int l d]) := by rw [h, h']
theorem retb2 {l : IntKind} {a b : Bool} {c d : Int} (h : a = b) (h' : c = d) : Ending.returned (.tuple #[.bool a, .int l c]) = .returned (.tuple #[.bool b, .int l d]) := by rw [h, h']

set_option maxHeartbeats 400000 in
theorem aluDo_1 (a b : Nat) (ha : a < M) (hb : b < M) (w : World) :
    Calls Try.prog 15 #[.int .i64 1, .int .u64 a, .int .u64 b] w fun e w' => e = .returned (.tuple #[.int .u64 (aluV 1 a b : Nat), .int .i64 0]) ∧ w = w' := by
  have HA := Lib.hid ha; clear ha
  have HB := Lib.hid hb; clear hb
  go_enter Try.func15, Try.ntmps15
  go_wp2
  go_ret2
  exact ⟨ret2 (wrapu_add a b) rfl, rfl⟩
set_option maxHeartbeats 400000 in
theorem aluDo_2 (a b : Nat) (ha : a < M) (hb : b < M) (w : World) :
    Calls Try.prog 15 #[.int .i64 2, .int .u64 a, .int .u64 b] w fun e w' => e = .returned (.tuple #[.int .u64 (aluV 2 a b : Nat), .int .i64 0]) ∧ w = w' := by
  have HA := Lib.hid ha; clear ha
  have HB := Lib.hid hb; clear hb
  go_enter Try.func15, Try.ntmps15
  go_wp2
  go_ret2
  exact ⟨ret2 (wrapu_sub a b HB.out) rfl, rfl⟩
set_option maxHeartbeats 400000 in
theorem aluDo_3 (a b : Nat) (ha : a < M) (hb : b < M) (w : World) :
    Calls Try.prog 15 #[.int .i64 3, .int .u64 a, .int .u64 b] w fun e w' => e = .returned (.tuple #[.int .u64 (aluV 3 a b : Nat), .int .i64 0]) ∧ w = w' := by
  have HA := Lib.hid ha; clear ha
  have HB := Lib.hid hb; clear hb
  go_enter Try.func15, Try.ntmps15
  go_wp2
  go_ret2
  exact ⟨ret2 (wrapu_mul a b) rfl, rfl⟩
set_option maxHeartbeats 400000 in
theorem aluDo_4 (a b : Nat) (ha : a < M) (hb : b < M) (w : World) :
    Calls Try.prog 15 #[.int .i64 4, .int .u64 a, .int .u64 b] w fun e w' => e = .returned (.tuple #[.int .u64 (aluV 4 a b : Nat), .int .i64 0]) ∧ w = w' := by
  have HA := Lib.hid ha; clear ha
  have HB := Lib.hid hb; clear hb
  by_cases hz : b = 0
  · subst hz
    go_enter Try.func15, Try.ntmps15
    go_wp2
    go_ret2
    exact ⟨ret2 (by simp [aluV]) rfl, rfl⟩
  · have hz1 : ((b : Int) == 0) = false := by simp; omega
    have hz2 : ((b : Int) != 0) = true := by simp; omega
    go_enter Try.func15, Try.ntmps15
    go_wp2
    go_ret2
    exact ⟨ret2 (by rw [← Int.natCast_ediv, wrapu_nat, Nat.mod_eq_of_lt (Nat.lt_of_le_of_lt (Nat.div_le_self _ _) HA.out)]; simp [aluV]) rfl, rfl⟩
set_option maxHeartbeats 400000 in
theorem aluDo_5 (a b : Nat) (ha : a < M) (hb : b < M) (w : World) :
    Calls Try.prog 15 #[.int .i64 5, .int .u64 a, .int .u64 b] w fun e w' => e = .returned (.tuple #[.int .u64 (aluV 5 a b : Nat), .int .i64 0]) ∧ w = w' := by
  have HA := Lib.hid ha; clear ha
  have HB := Lib.hid hb; clear hb
  by_cases hz : b = 0
  · subst hz
    go_enter Try.func15, Try.ntmps15
    go_wp2
    go_ret2
    exact ⟨ret2 (by simp [aluV]) rfl, rfl⟩
  · have hz1 : ((b : Int) == 0) = false := by simp; omega
    have hz2 : ((b : Int) != 0) = true := by simp; omega
    go_enter Try.func15, Try.ntmps15
    go_wp2
    go_ret2
    exact ⟨ret2 (by simp [aluV]) rfl, rfl⟩
set_option maxHeartbeats 400000 in
theorem aluDo_6 (a b : Nat) (ha : a < M) (hb : b < M) (w : World) :
    Calls Try.prog 15 #[.int .i64 6, .int .u64 a, .int .u64 b] w fun e w' => e = .returned (.tuple #[.int .u64 (aluV 6 a b : Nat), .int .i64 0]) ∧ w = w' := by
  have HA := Lib.hid ha; clear ha
  have HB := Lib.hid hb; clear hb
  go_enter Try.func15, Try.ntmps15
  go_wp2
  go_ret2
  exact ⟨ret2 (bits_and a b HA.out HB.out) rfl, rfl⟩
set_option maxHeartbeats 400000 in
theorem aluDo_7 (a b : Nat) (ha : a < M) (hb : b < M) (w : World) :
    Calls Try.prog 15 #[.int .i64 7, .int .u64 a, .int .u64 b] w fun e w' => e = .returned (.tuple #[.int .u64 (aluV 7 a b : Nat), .int .i64 0]) ∧ w = w' := by
  have HA := Lib.hid ha; clear ha
  have HB := Lib.hid hb; clear hb
  go_enter Try.func15, Try.ntmps15
  go_wp2
  go_ret2
  exact ⟨ret2 (bits_or a b HA.out HB.out) rfl, rfl⟩
set_option maxHeartbeats 400000 in
theorem aluDo_8 (a b : Nat) (ha : a < M) (hb : b < M) (w : World) :
    Calls Try.prog 15 #[.int .i64 8, .int .u64 a, .int .u64 b] w fun e w' => e = .returned (.tuple #[.int .u64 (aluV 8 a b : Nat), .int .i64 0]) ∧ w = w' := by
  have HA := Lib.hid ha; clear ha
  have HB := Lib.hid hb; clear hb
  go_enter Try.func15, Try.ntmps15
  go_wp2
  go_ret2
  exact ⟨ret2 (bits_xor a b HA.out HB.out) rfl, rfl⟩
set_option maxHeartbeats 400000 in
theorem aluDo_9 (a b : Nat) (ha : a < M) (hb : b < M) (w : World) :
    Calls Try.prog 15 #[.int .i64 9, .int .u64 a, .int .u64 b] w fun e w' => e = .returned (.tuple #[.int .u64 (aluV 9 a b : Nat), .int .i64 0]) ∧ w = w' := by
  have HA := Lib.hid ha; clear ha
  have HB := Lib.hid hb; clear hb
  go_enter Try.func15, Try.ntmps15
  go_wp2
  go_ret2
  exact ⟨ret2 ((by rw [show ((2 : Int) ^ (b % 64)) = ((2 ^ (b % 64) : Nat) : Int) by simp]; exact wrapu_mul a _)) rfl, rfl⟩
set_option maxHeartbeats 400000 in
theorem aluDo_10 (a b : Nat) (ha : a < M) (hb : b < M) (w : World) :
    Calls Try.prog 15 #[.int .i64 10, .int .u64 a, .int .u64 b] w fun e w' => e = .returned (.tuple #[.int .u64 (aluV 10 a b : Nat), .int .i64 0]) ∧ w = w' := by
  have HA := Lib.hid ha; clear ha
  have HB := Lib.hid hb; clear hb
  go_enter Try.func15, Try.ntmps15
  go_wp2
  go_ret2
  exact ⟨ret2 ((by simp [aluV])) rfl, rfl⟩
set_option maxHeartbeats 400000 in
theorem aluDo_11 (a b : Nat) (ha : a < M) (hb : b < M) (w : World) :
    Calls Try.prog 15 #[.int .i64 11, .int .u64 a, .int .u64 b] w fun e w' => e = .returned (.tuple #[.int .u64 (aluV 11 a b : Nat), .int .i64 0]) ∧ w = w' := by
  have HA := Lib.hid ha; clear ha
  have HB := Lib.hid hb; clear hb
  go_enter Try.func15, Try.ntmps15
  go_wp2
  go_ret2
  exact ⟨ret2 (sar_go a b HA.out) rfl, rfl⟩
set_option maxHeartbeats 400000 in
theorem aluDo_no (op : Int) (h : op < 1 ∨ 11 < op) (a b : Nat) (w : World) :
    Calls Try.prog 15 #[.int .i64 op, .int .u64 a, .int .u64 b] w fun e w' => e = .returned (.tuple #[.int .u64 0, .int .i64 1]) ∧ w = w' := by
  have h1 : (op == 1) = false := by simp; omega
  have h2 : (op == 2) = false := by simp; omega
  have h3 : (op == 3) = false := by simp; omega
  have h4 : (op == 4) = false := by simp; omega
  have h5 : (op == 5) = false := by simp; omega
  have h6 : (op == 6) = false := by simp; omega
  have h7 : (op == 7) = false := by simp; omega
  have h8 : (op == 8) = false := by simp; omega
  have h9 : (op == 9) = false := by simp; omega
  have h10 : (op == 10) = false := by simp; omega
  have h11 : (op == 11) = false := by simp; omega
  clear h
  go_enter Try.func15, Try.ntmps15
  go_wp2
  go_ret2
  exact ⟨rfl, rfl⟩

theorem aluDo_any (op : Int) (a b : Nat) (ha : a < M) (hb : b < M) (w : World) :
    Calls Try.prog 15 #[.int .i64 op, .int .u64 a, .int .u64 b] w fun e w' => e = .returned (.tuple #[.int .u64 (aluV op a b : Nat), .int .i64 (aluE op)]) ∧ w = w' := by
  by_cases h : op < 1 ∨ 11 < op
  · have e1 : aluE op = 1 := by unfold aluE; rw [if_neg (by omega)]
    have e2 : aluV op a b = 0 := by
      unfold aluV
      rw [if_neg (by omega), if_neg (by omega), if_neg (by omega), if_neg (by omega), if_neg (by omega), if_neg (by omega), if_neg (by omega), if_neg (by omega), if_neg (by omega), if_neg (by omega), if_neg (by omega)]
    rw [e1, e2]; exact aluDo_no op h a b w
  · rw [aluE_0 op (by omega) (by omega)]
    by_cases h1 : op = 1
    · subst h1; exact aluDo_1 a b ha hb w
    by_cases h2 : op = 2
    · subst h2; exact aluDo_2 a b ha hb w
    by_cases h3 : op = 3
    · subst h3; exact aluDo_3 a b ha hb w
    by_cases h4 : op = 4
    · subst h4; exact aluDo_4 a b ha hb w
    by_cases h5 : op = 5
    · subst h5; exact aluDo_5 a b ha hb w
    by_cases h6 : op = 6
    · subst h6; exact aluDo_6 a b ha hb w
    by_cases h7 : op = 7
    · subst h7; exact aluDo_7 a b ha hb w
    by_cases h8 : op = 8
    · subst h8; exact aluDo_8 a b ha hb w
    by_cases h9 : op = 9
    · subst h9; exact aluDo_9 a b ha hb w
    by_cases h10 : op = 10
    · subst h10; exact aluDo_10 a b ha hb w
    obtain rfl : op = 11 := by omega
    exact aluDo_11 a b ha hb w

theorem bne_cast (n : Nat) : ((n : Int) != 0) = !decide (n = 0) := by
  by_cases h : n = 0 <;> simp [h]

end Go.Proofs.Ytgaahlnegmcakaa
