
/- The walks of the document's answer of chapter 7 (package turnbuckleref07): Do, Holds, Not. -/
import Derived.Test.YthhohiafhjhjhaaAluRefW
namespace Go.Proofs.Ythhohiafhjhjhaa
open Go.RowKit

theorem shl_ref (a b : Nat) : IntKind.u64.wrap ((a : Int) * ((pw (b % 64) : Nat) : Int)) = ((aluV 9 a b : Nat) : Int) := by
  rw [wrapu_mul, pow_mod _ (Nat.mod_lt _ (by decide))]; rfl
theorem shr_ref (a b : Nat) (ha : a < M) : IntKind.u64.wrap ((a : Int) / ((pw (b % 64) : Nat) : Int)) = ((aluV 10 a b : Nat) : Int) := by
  rw [← Int.natCast_ediv, wrapu_nat, pow_mod _ (Nat.mod_lt _ (by decide)), Nat.mod_eq_of_lt (Nat.lt_of_le_of_lt (Nat.div_le_self _ _) ha)]; rfl
theorem sar_ref0 (a k : Nat) (hk : k < 64) (ha : a < M) : IntKind.u64.wrap ((a : Int) / ((pw k : Nat) : Int)) = ((sarAt a k (64 - k) : Nat) : Int) := by
  rw [← Int.natCast_ediv, wrapu_nat, pow_mod _ hk, Nat.mod_eq_of_lt (Nat.lt_of_le_of_lt (Nat.div_le_self _ _) ha), sarAt_start]

theorem bit63_eq (a : Nat) (x : Bool) (hx : Hid (a.testBit 63 = x)) (ha : Hid (a < M)) (w : World) :
    Calls Try.prog 33 #[.int .u64 a, .int .i64 63] w fun e w' => e = .returned (.bool x) ∧ w = w' := bit_eq a 63 x hx ha (by decide) w
theorem pw63 : pw 63 = H63 := by decide
def tn (a : Nat) : Nat := (a + H63) % M
theorem tn_go (a : Nat) : IntKind.u64.wrap ((a : Int) + ((pw 63 : Nat) : Int)) = ((tn a : Nat) : Int) := by
  rw [wrapu_add, pw63]; rfl
set_option maxHeartbeats 400000 in
theorem turned_any (a : Nat) (w : World) :
    Calls Try.prog 27 #[.int .u64 a] w fun e w' => e = .returned (.int .u64 (tn a : Nat)) ∧ w = w' := by
  have HC := Lib.hid (tn_go a)
  go_enter Try.func27, Try.ntmps27
  go_wp2_with (go_at_call 32; refine (pow_any 63 (by decide) _).mono ?_; rintro e w' ⟨rfl, rfl⟩)
  go_ret
  exact ⟨ret_int HC.out, rfl⟩
theorem holds7 (a b : Nat) : holdsV 7 a b = decide (tn a < tn b) := by
  unfold holdsV; rw [if_neg (by decide), if_neg (by decide), if_neg (by decide), if_neg (by decide), if_neg (by decide), if_neg (by decide), if_pos rfl]; rfl
theorem holds8 (a b : Nat) : holdsV 8 a b = !decide (tn a < tn b) := by
  unfold holdsV; rw [if_neg (by decide), if_neg (by decide), if_neg (by decide), if_neg (by decide), if_neg (by decide), if_neg (by decide), if_neg (by decide), if_pos rfl]; rfl
theorem le_not_lt (x y : Nat) : decide (y ≤ x) = !decide (x < y) := by by_cases h : x < y <;> simp [h] <;> omega
set_option maxHeartbeats 400000 in
theorem refHolds_1 (a b : Nat) (w : World) :
    Calls Try.prog 21 #[.int .i64 1, .int .u64 a, .int .u64 b] w fun e w' => e = .returned (.tuple #[.bool (holdsV 1 a b), .int .i64 0]) ∧ w = w' := by
  go_enter Try.func21, Try.ntmps21
  go_wp2
  go_ret2
  refine ⟨retb2 ?_ rfl, rfl⟩
  exact (by by_cases h : a = b <;> simp [holdsV, h] <;> omega)
set_option maxHeartbeats 400000 in
theorem refHolds_2 (a b : Nat) (w : World) :
    Calls Try.prog 21 #[.int .i64 2, .int .u64 a, .int .u64 b] w fun e w' => e = .returned (.tuple #[.bool (holdsV 2 a b), .int .i64 0]) ∧ w = w' := by
  go_enter Try.func21, Try.ntmps21
  go_wp2
  go_ret2
  refine ⟨retb2 ?_ rfl, rfl⟩
  exact (by by_cases h : a = b <;> simp [holdsV, h] <;> omega)
set_option maxHeartbeats 400000 in
theorem refHolds_3 (a b : Nat) (w : World) :
    Calls Try.prog 21 #[.int .i64 3, .int .u64 a, .int .u64 b] w fun e w' => e = .returned (.tuple #[.bool (holdsV 3 a b), .int .i64 0]) ∧ w = w' := by
  go_enter Try.func21, Try.ntmps21
  go_wp2
  go_ret2
  refine ⟨retb2 ?_ rfl, rfl⟩
  exact (by by_cases h : a < b <;> simp [holdsV, h])
set_option maxHeartbeats 400000 in
theorem refHolds_4 (a b : Nat) (w : World) :
    Calls Try.prog 21 #[.int .i64 4, .int .u64 a, .int .u64 b] w fun e w' => e = .returned (.tuple #[.bool (holdsV 4 a b), .int .i64 0]) ∧ w = w' := by
  go_enter Try.func21, Try.ntmps21
  go_wp2
  go_ret2
  refine ⟨retb2 ?_ rfl, rfl⟩
  exact (by by_cases h : a ≤ b <;> simp [holdsV, h])
set_option maxHeartbeats 400000 in
theorem refHolds_5 (a b : Nat) (w : World) :
    Calls Try.prog 21 #[.int .i64 5, .int .u64 a, .int .u64 b] w fun e w' => e = .returned (.tuple #[.bool (holdsV 5 a b), .int .i64 0]) ∧ w = w' := by
  go_enter Try.func21, Try.ntmps21
  go_wp2
  go_ret2
  refine ⟨retb2 ?_ rfl, rfl⟩
  exact (by by_cases h : a ≤ b <;> simp [holdsV, h] <;> omega)
set_option maxHeartbeats 400000 in
theorem refHolds_6 (a b : Nat) (w : World) :
    Calls Try.prog 21 #[.int .i64 6, .int .u64 a, .int .u64 b] w fun e w' => e = .returned (.tuple #[.bool (holdsV 6 a b), .int .i64 0]) ∧ w = w' := by
  go_enter Try.func21, Try.ntmps21
  go_wp2
  go_ret2
  refine ⟨retb2 ?_ rfl, rfl⟩
  exact (by by_cases h : a < b <;> simp [holdsV, h] <;> omega)
set_option maxHeartbeats 400000 in
theorem refHolds_7 (a b : Nat) (w : World) :
    Calls Try.prog 21 #[.int .i64 7, .int .u64 a, .int .u64 b] w fun e w' => e = .returned (.tuple #[.bool (holdsV 7 a b), .int .i64 0]) ∧ w = w' := by
  go_enter Try.func21, Try.ntmps21
  go_wp2_with (first | (go_at_call 27; ((with_reducible refine (turned_any a _).mono ?_); rintro e w' ⟨rfl, rfl⟩)) | (go_at_call 27; ((with_reducible refine (turned_any b _).mono ?_); rintro e w' ⟨rfl, rfl⟩)))
  go_ret2
  refine ⟨retb2 ?_ rfl, rfl⟩
  exact (by rw [holds7])
set_option maxHeartbeats 400000 in
theorem refHolds_8 (a b : Nat) (w : World) :
    Calls Try.prog 21 #[.int .i64 8, .int .u64 a, .int .u64 b] w fun e w' => e = .returned (.tuple #[.bool (holdsV 8 a b), .int .i64 0]) ∧ w = w' := by
  go_enter Try.func21, Try.ntmps21
  go_wp2_with (first | (go_at_call 27; ((with_reducible refine (turned_any a _).mono ?_); rintro e w' ⟨rfl, rfl⟩)) | (go_at_call 27; ((with_reducible refine (turned_any b _).mono ?_); rintro e w' ⟨rfl, rfl⟩)))
  go_ret2
  refine ⟨retb2 ?_ rfl, rfl⟩
  exact (by rw [holds8]; exact le_not_lt (tn a) (tn b))
set_option maxHeartbeats 400000 in
theorem refHolds_9 (a b : Nat) (ha : a < M) (hb : b < M) (w : World) :
    Calls Try.prog 21 #[.int .i64 9, .int .u64 a, .int .u64 b] w fun e w' => e = .returned (.tuple #[.bool (holdsV 9 a b), .int .i64 0]) ∧ w = w' := by
  have HC : Hid (holdsV 9 a b = !decide (comb false true a b = 0)) := Lib.hid (by rw [comb_and]; rfl)
  go_enter Try.func21, Try.ntmps21
  go_wp2_with (go_at_call 28; refine (bits_any a b false true ha hb _).mono ?_; rintro e w' ⟨rfl, rfl⟩)
  go_ret2
  refine ⟨retb2 ?_ rfl, rfl⟩
  rw [HC.out]
  by_cases h : comb false true a b = 0 <;> simp [h] <;> omega
set_option maxHeartbeats 400000 in
theorem refHolds_no (op : Int) (h : op < 1 ∨ 9 < op) (a b : Nat) (w : World) :
    Calls Try.prog 21 #[.int .i64 op, .int .u64 a, .int .u64 b] w fun e w' => e = .returned (.tuple #[.bool false, .int .i64 1]) ∧ w = w' := by
  have h1 : (op == 1) = false := by simp; omega
  have h2 : (op == 2) = false := by simp; omega
  have h3 : (op == 3) = false := by simp; omega
  have h4 : (op == 4) = false := by simp; omega
  have h5 : (op == 5) = false := by simp; omega
  have h6 : (op == 6) = false := by simp; omega
  have h7 : (op == 7) = false := by simp; omega
  have h8 : (op == 8) = false := by simp; omega
  have h9 : (op == 9) = false := by simp; omega
  clear h
  go_enter Try.func21, Try.ntmps21
  go_wp2
  go_ret2
  exact ⟨rfl, rfl⟩
theorem refHolds_any (op : Int) (a b : Nat) (ha : a < M) (hb : b < M) (w : World) :
    Calls Try.prog 21 #[.int .i64 op, .int .u64 a, .int .u64 b] w fun e w' => e = .returned (.tuple #[.bool (holdsV op a b), .int .i64 (holdsE op)]) ∧ w = w' := by
  by_cases h : op < 1 ∨ 9 < op
  · have e1 : holdsE op = 1 := by unfold holdsE; rw [if_neg (by omega)]
    have e2 : holdsV op a b = false := by
      unfold holdsV
      rw [if_neg (by omega), if_neg (by omega), if_neg (by omega), if_neg (by omega), if_neg (by omega), if_neg (by omega), if_neg (by omega), if_neg (by omega), if_neg (by omega)]
    rw [e1, e2]; exact refHolds_no op h a b w
  · rw [holdsE_0 op (by omega) (by omega)]
    by_cases h1 : op = 1
    · subst h1; exact refHolds_1 a b w
    by_cases h2 : op = 2
    · subst h2; exact refHolds_2 a b w
    by_cases h3 : op = 3
    · subst h3; exact refHolds_3 a b w
    by_cases h4 : op = 4
    · subst h4; exact refHolds_4 a b w
    by_cases h5 : op = 5
    · subst h5; exact refHolds_5 a b w
    by_cases h6 : op = 6
    · subst h6; exact refHolds_6 a b w
    by_cases h7 : op = 7
    · subst h7; exact refHolds_7 a b w
    by_cases h8 : op = 8
    · subst h8; exact refHolds_8 a b w
    obtain rfl : op = 9 := by omega
    exact refHolds_9 a b ha hb w

set_option maxHeartbeats 400000 in
theorem refNot_1 (w : World) :
    Calls Try.prog 22 #[.int .i64 1] w fun e w' => e = .returned (.tuple #[.int .i64 2, .int .i64 0]) ∧ Below w.heap.size w w' := by
  go_enter Try.func22, Try.ntmps22
  go_wp2
  go_ret2
  exact ⟨rfl, (Below.refl _ _).alloc (Nat.le_refl _) _⟩
set_option maxHeartbeats 400000 in
theorem refNot_2 (w : World) :
    Calls Try.prog 22 #[.int .i64 2] w fun e w' => e = .returned (.tuple #[.int .i64 1, .int .i64 0]) ∧ Below w.heap.size w w' := by
  go_enter Try.func22, Try.ntmps22
  go_wp2
  go_ret2
  exact ⟨rfl, (Below.refl _ _).alloc (Nat.le_refl _) _⟩
set_option maxHeartbeats 400000 in
theorem refNot_3 (w : World) :
    Calls Try.prog 22 #[.int .i64 3] w fun e w' => e = .returned (.tuple #[.int .i64 6, .int .i64 0]) ∧ Below w.heap.size w w' := by
  go_enter Try.func22, Try.ntmps22
  go_wp2
  go_ret2
  exact ⟨rfl, (Below.refl _ _).alloc (Nat.le_refl _) _⟩
set_option maxHeartbeats 400000 in
theorem refNot_4 (w : World) :
    Calls Try.prog 22 #[.int .i64 4] w fun e w' => e = .returned (.tuple #[.int .i64 5, .int .i64 0]) ∧ Below w.heap.size w w' := by
  go_enter Try.func22, Try.ntmps22
  go_wp2
  go_ret2
  exact ⟨rfl, (Below.refl _ _).alloc (Nat.le_refl _) _⟩
set_option maxHeartbeats 400000 in
theorem refNot_5 (w : World) :
    Calls Try.prog 22 #[.int .i64 5] w fun e w' => e = .returned (.tuple #[.int .i64 4, .int .i64 0]) ∧ Below w.heap.size w w' := by
  go_enter Try.func22, Try.ntmps22
  go_wp2
  go_ret2
  exact ⟨rfl, (Below.refl _ _).alloc (Nat.le_refl _) _⟩
set_option maxHeartbeats 400000 in
theorem refNot_6 (w : World) :
    Calls Try.prog 22 #[.int .i64 6] w fun e w' => e = .returned (.tuple #[.int .i64 3, .int .i64 0]) ∧ Below w.heap.size w w' := by
  go_enter Try.func22, Try.ntmps22
  go_wp2
  go_ret2
  exact ⟨rfl, (Below.refl _ _).alloc (Nat.le_refl _) _⟩
set_option maxHeartbeats 400000 in
theorem refNot_7 (w : World) :
    Calls Try.prog 22 #[.int .i64 7] w fun e w' => e = .returned (.tuple #[.int .i64 8, .int .i64 0]) ∧ Below w.heap.size w w' := by
  go_enter Try.func22, Try.ntmps22
  go_wp2
  go_ret2
  exact ⟨rfl, (Below.refl _ _).alloc (Nat.le_refl _) _⟩
set_option maxHeartbeats 400000 in
theorem refNot_8 (w : World) :
    Calls Try.prog 22 #[.int .i64 8] w fun e w' => e = .returned (.tuple #[.int .i64 7, .int .i64 0]) ∧ Below w.heap.size w w' := by
  go_enter Try.func22, Try.ntmps22
  go_wp2
  go_ret2
  exact ⟨rfl, (Below.refl _ _).alloc (Nat.le_refl _) _⟩
set_option maxHeartbeats 400000 in
theorem refNot_no (op : Int) (h : op < 1 ∨ 8 < op) (w : World) :
    Calls Try.prog 22 #[.int .i64 op] w fun e w' => e = .returned (.tuple #[.int .i64 0, .int .i64 1]) ∧ Below w.heap.size w w' := by
  rcases h with h | h
  · go_enter Try.func22, Try.ntmps22
    go_wp2
    go_ret2
    exact ⟨rfl, (Below.refl _ _).alloc (Nat.le_refl _) _⟩
  · have h' : ¬ op < 1 := by omega
    go_enter Try.func22, Try.ntmps22
    go_wp2
    go_ret2
    exact ⟨rfl, (Below.refl _ _).alloc (Nat.le_refl _) _⟩
theorem refNot_any (op : Int) (w : World) :
    Calls Try.prog 22 #[.int .i64 op] w fun e w' => e = .returned (.tuple #[.int .i64 (notV op), .int .i64 (notE op)]) ∧ Below w.heap.size w w' := by
  by_cases h : op < 1 ∨ 8 < op
  · have e1 : notE op = 1 := by unfold notE; rw [if_neg (by omega)]
    have e2 : notV op = 0 := by
      unfold notV
      rw [if_neg (by omega), if_neg (by omega), if_neg (by omega), if_neg (by omega), if_neg (by omega), if_neg (by omega), if_neg (by omega), if_neg (by omega)]
    rw [e1, e2]; exact refNot_no op h w
  · rw [notE_0 op (by omega) (by omega)]
    by_cases h1 : op = 1
    · subst h1; exact refNot_1 w
    by_cases h2 : op = 2
    · subst h2; exact refNot_2 w
    by_cases h3 : op = 3
    · subst h3; exact refNot_3 w
    by_cases h4 : op = 4
    · subst h4; exact refNot_4 w
    by_cases h5 : op = 5
    · subst h5; exact refNot_5 w
    by_cases h6 : op = 6
    · subst h6; exact refNot_6 w
    by_cases h7 : op = 7
    · subst h7; exact refNot_7 w
    obtain rfl : op = 8 := by omega
    exact refNot_8 w

end Go.Proofs.Ythhohiafhjhjhaa
