
/- The walks of the document's answer of chapter 7 (package turnbuckleref07): Do, Holds, Not. -/
import Derived.Test.YtgaahlnegmcakaaAluRefW
namespace Go.Proofs.Ytgaahlnegmcakaa
open Go.RowKit

theorem shl_ref (a b : Nat) : IntKind.u64.wrap ((a : Int) * ((pw (b % 64) : Nat) : Int)) = ((aluV 9 a b : Nat) : Int) := by
  rw [wrapu_mul, pow_mod _ (Nat.mod_lt _ (by decide))]; rfl
theorem shr_ref (a b : Nat) (ha : a < M) : IntKind.u64.wrap ((a : Int) / ((pw (b % 64) : Nat) : Int)) = ((aluV 10 a b : Nat) : Int) := by
  rw [← Int.natCast_ediv, wrapu_nat, pow_mod _ (Nat.mod_lt _ (by decide)), Nat.mod_eq_of_lt (Nat.lt_of_le_of_lt (Nat.div_le_self _ _) ha)]; rfl
theorem sar_ref0 (a k : Nat) (hk : k < 64) (ha : a < M) : IntKind.u64.wrap ((a : Int) / ((pw k : Nat) : Int)) = ((sarAt a k (64 - k) : Nat) : Int) := by
  rw [← Int.natCast_ediv, wrapu_nat, pow_mod _ hk, Nat.mod_eq_of_lt (Nat.lt_of_le_of_lt (Nat.div_le_self _ _) ha), sarAt_start]

set_option maxHeartbeats 400000 in
theorem refDo_1 (a b : Nat) (ha : a < M) (hb : b < M) (w : World) :
    Calls Try.prog 29 #[.int .i64 1, .int .u64 a, .int .u64 b] w fun e w' => e = .returned (.tuple #[.int .u64 (aluV 1 a b : Nat), .int .i64 0]) ∧ w = w' := by
  have HA := Lib.hid ha; clear ha
  have HB := Lib.hid hb; clear hb
  go_enter Try.func29, Try.ntmps29
  go_wp2
  go_ret2
  exact ⟨ret2 (wrapu_add a b) rfl, rfl⟩
set_option maxHeartbeats 400000 in
theorem refDo_2 (a b : Nat) (ha : a < M) (hb : b < M) (w : World) :
    Calls Try.prog 29 #[.int .i64 2, .int .u64 a, .int .u64 b] w fun e w' => e = .returned (.tuple #[.int .u64 (aluV 2 a b : Nat), .int .i64 0]) ∧ w = w' := by
  have HA := Lib.hid ha; clear ha
  have HB := Lib.hid hb; clear hb
  go_enter Try.func29, Try.ntmps29
  go_wp2
  go_ret2
  exact ⟨ret2 (wrapu_sub a b HB.out) rfl, rfl⟩
set_option maxHeartbeats 400000 in
theorem refDo_3 (a b : Nat) (ha : a < M) (hb : b < M) (w : World) :
    Calls Try.prog 29 #[.int .i64 3, .int .u64 a, .int .u64 b] w fun e w' => e = .returned (.tuple #[.int .u64 (aluV 3 a b : Nat), .int .i64 0]) ∧ w = w' := by
  have HA := Lib.hid ha; clear ha
  have HB := Lib.hid hb; clear hb
  go_enter Try.func29, Try.ntmps29
  go_wp2
  go_ret2
  exact ⟨ret2 (wrapu_mul a b) rfl, rfl⟩
set_option maxHeartbeats 400000 in
theorem refDo_4 (a b : Nat) (ha : a < M) (hb : b < M) (w : World) :
    Calls Try.prog 29 #[.int .i64 4, .int .u64 a, .int .u64 b] w fun e w' => e = .returned (.tuple #[.int .u64 (aluV 4 a b : Nat), .int .i64 0]) ∧ w = w' := by
  have HA := Lib.hid ha; clear ha
  have HB := Lib.hid hb; clear hb
  by_cases hz : b = 0
  · subst hz
    go_enter Try.func29, Try.ntmps29
    go_wp2
    go_ret2
    exact ⟨ret2 (by simp [aluV]) rfl, rfl⟩
  · have hz1 : ((b : Int) == 0) = false := by simp; omega
    go_enter Try.func29, Try.ntmps29
    go_wp2
    go_ret2
    exact ⟨ret2 (by rw [← Int.natCast_ediv, wrapu_nat, Nat.mod_eq_of_lt (Nat.lt_of_le_of_lt (Nat.div_le_self _ _) HA.out)]; simp [aluV]) rfl, rfl⟩
set_option maxHeartbeats 400000 in
theorem refDo_5 (a b : Nat) (ha : a < M) (hb : b < M) (w : World) :
    Calls Try.prog 29 #[.int .i64 5, .int .u64 a, .int .u64 b] w fun e w' => e = .returned (.tuple #[.int .u64 (aluV 5 a b : Nat), .int .i64 0]) ∧ w = w' := by
  have HA := Lib.hid ha; clear ha
  have HB := Lib.hid hb; clear hb
  by_cases hz : b = 0
  · subst hz
    go_enter Try.func29, Try.ntmps29
    go_wp2
    go_ret2
    exact ⟨ret2 (by simp [aluV]) rfl, rfl⟩
  · have hz1 : ((b : Int) == 0) = false := by simp; omega
    go_enter Try.func29, Try.ntmps29
    go_wp2
    go_ret2
    exact ⟨ret2 (by simp [aluV]) rfl, rfl⟩
set_option maxHeartbeats 400000 in
theorem refDo_6 (a b : Nat) (ha : a < M) (hb : b < M) (w : World) :
    Calls Try.prog 29 #[.int .i64 6, .int .u64 a, .int .u64 b] w fun e w' => e = .returned (.tuple #[.int .u64 (aluV 6 a b : Nat), .int .i64 0]) ∧ w = w' := by
  have HC : Hid (comb false true a b = aluV 6 a b) := Lib.hid (comb_and a b)
  go_enter Try.func29, Try.ntmps29
  go_wp2_with (go_at_call 41; refine (bits_any a b false true ha hb _).mono ?_; rintro e w' ⟨rfl, rfl⟩)
  go_ret2
  exact ⟨ret2 (by rw [HC.out]) rfl, rfl⟩
set_option maxHeartbeats 400000 in
theorem refDo_7 (a b : Nat) (ha : a < M) (hb : b < M) (w : World) :
    Calls Try.prog 29 #[.int .i64 7, .int .u64 a, .int .u64 b] w fun e w' => e = .returned (.tuple #[.int .u64 (aluV 7 a b : Nat), .int .i64 0]) ∧ w = w' := by
  have HC : Hid (comb true true a b = aluV 7 a b) := Lib.hid (comb_or a b)
  go_enter Try.func29, Try.ntmps29
  go_wp2_with (go_at_call 41; refine (bits_any a b true true ha hb _).mono ?_; rintro e w' ⟨rfl, rfl⟩)
  go_ret2
  exact ⟨ret2 (by rw [HC.out]) rfl, rfl⟩
set_option maxHeartbeats 400000 in
theorem refDo_8 (a b : Nat) (ha : a < M) (hb : b < M) (w : World) :
    Calls Try.prog 29 #[.int .i64 8, .int .u64 a, .int .u64 b] w fun e w' => e = .returned (.tuple #[.int .u64 (aluV 8 a b : Nat), .int .i64 0]) ∧ w = w' := by
  have HC : Hid (comb true false a b = aluV 8 a b) := Lib.hid (comb_xor a b)
  go_enter Try.func29, Try.ntmps29
  go_wp2_with (go_at_call 41; refine (bits_any a b true false ha hb _).mono ?_; rintro e w' ⟨rfl, rfl⟩)
  go_ret2
  exact ⟨ret2 (by rw [HC.out]) rfl, rfl⟩
set_option maxHeartbeats 400000 in
theorem refDo_9 (a b : Nat) (_ha : a < M) (_hb : b < M) (w : World) :
    Calls Try.prog 29 #[.int .i64 9, .int .u64 a, .int .u64 b] w fun e w' => e = .returned (.tuple #[.int .u64 (aluV 9 a b : Nat), .int .i64 0]) ∧ w = w' := by
  have h64 : b % 64 ≤ 64 := Nat.le_of_lt (Nat.mod_lt _ (by decide))
  have HC := Lib.hid (shl_ref a b)
  obtain ⟨k, hk⟩ : ∃ k, b % 64 = k := ⟨_, rfl⟩
  have hki : (b : Int) % 64 = (k : Int) := by omega
  rw [hk] at h64 HC
  have HK := Lib.hid hk; clear hk
  go_enter Try.func29, Try.ntmps29
  go_wp2_with (go_at_call 32; refine (pow_any k h64 _).mono ?_; rintro e w' ⟨rfl, rfl⟩)
  go_ret2
  exact ⟨ret2 HC.out rfl, rfl⟩
set_option maxHeartbeats 400000 in
theorem refDo_10 (a b : Nat) (ha : a < M) (_hb : b < M) (w : World) :
    Calls Try.prog 29 #[.int .i64 10, .int .u64 a, .int .u64 b] w fun e w' => e = .returned (.tuple #[.int .u64 (aluV 10 a b : Nat), .int .i64 0]) ∧ w = w' := by
  have h64 : b % 64 ≤ 64 := Nat.le_of_lt (Nat.mod_lt _ (by decide))
  have HC := Lib.hid (shr_ref a b ha)
  have hp : ¬ pw (b % 64) = 0 := pw_pos _ (Nat.mod_lt _ (by decide))
  obtain ⟨k, hk⟩ : ∃ k, b % 64 = k := ⟨_, rfl⟩
  have hki : (b : Int) % 64 = (k : Int) := by omega
  rw [hk] at h64 HC hp
  have HK := Lib.hid hk; clear hk ha
  go_enter Try.func29, Try.ntmps29
  go_wp2_with (go_at_call 32; refine (pow_any k h64 _).mono ?_; rintro e w' ⟨rfl, rfl⟩)
  go_ret2
  exact ⟨ret2 HC.out rfl, rfl⟩
theorem bit63_eq (a : Nat) (x : Bool) (hx : Hid (a.testBit 63 = x)) (ha : Hid (a < M)) (w : World) :
    Calls Try.prog 42 #[.int .u64 a, .int .i64 63] w fun e w' => e = .returned (.bool x) ∧ w = w' := bit_eq a 63 x hx ha (by decide) w
set_option maxHeartbeats 1000000 in
theorem refDo_11 (a b : Nat) (ha : a < M) (_hb : b < M) (w : World) :
    Calls Try.prog 29 #[.int .i64 11, .int .u64 a, .int .u64 b] w fun e w' => e = .returned (.tuple #[.int .u64 (aluV 11 a b : Nat), .int .i64 0]) ∧ w = w' := by
  have hk64 : b % 64 < 64 := Nat.mod_lt _ (by decide)
  obtain ⟨k, hk⟩ : ∃ k, b % 64 = k := ⟨_, rfl⟩
  have hki : (b : Int) % 64 = (k : Int) := by omega
  have hV : aluV 11 a b = sarAt a k 64 := by rw [sarAt_end, ← hk]; rfl
  have HV := Lib.hid hV; clear hV
  rw [hk] at hk64
  have hp : ¬ pw k = 0 := pw_pos _ hk64
  have HC := Lib.hid (sar_ref0 a k hk64 ha)
  have HT := Lib.hid (top_bit a ha)
  have HY : ∀ j, H63 ≤ a → 64 - k ≤ j → j < 64 → _ := fun j h h1 h2 => sarAt_yes a k j ha hk64 h1 h2 h
  have HYY := Lib.hid HY; clear HY
  have HA := Lib.hid ha
  have HK := Lib.hid hk; clear hk ha
  have h64 : k ≤ 64 := by omega
  go_enter Try.func29, Try.ntmps29
  go_wp2_with (go_at_call 32; refine (pow_any k h64 _).mono ?_; rintro e w' ⟨rfl, rfl⟩)
  go_loop [9, 10] (fun v i => ∃ j : Nat, 64 - k ≤ j ∧ j ≤ 64 ∧ i = .int .i64 j ∧ v = .int .u64 ((sarAt a k j : Nat) : Int)) (fun _ i => 64 - (intOf i).toNat)
  case atStart => exact ⟨64 - k, Nat.le_refl _, by omega, by congr 1; omega, by rw [HC.out]⟩
  case round =>
    obtain ⟨j, hj0, hj, rfl, rfl⟩ := hrel
    by_cases hlt : j < 64
    · have hj64 : j ≤ 64 := by omega
      by_cases ht : H63 ≤ a
      · have HX : Hid (a.testBit 63 = true) := Lib.hid (by rw [HT.out]; simpa using ht)
        have HYX := Lib.hid (HYY.out j ht hj0 hlt)
        clear ht
        go_wp2_with (first | (go_at_call 42; ((with_reducible refine (bit63_eq a _ HX HA _).mono ?_); rintro e w' ⟨rfl, rfl⟩)) | (go_at_call 32; ((with_reducible refine (pow_any j hj64 _).mono ?_); rintro e w' ⟨rfl, rfl⟩)))
        go_round
        case rel => exact ⟨j + 1, by omega, by omega, by go_num, by rw [HYX.out]⟩
        case measure => simp [intOf]; omega
      · have HX : Hid (a.testBit 63 = false) := Lib.hid (by rw [HT.out]; simpa using ht)
        have HN := Lib.hid (sarAt_no a k j ht)
        clear ht
        go_wp2_with (go_at_call 42; ((with_reducible refine (bit63_eq a _ HX HA _).mono ?_); rintro e w' ⟨rfl, rfl⟩))
        go_round
        case rel => exact ⟨j + 1, by omega, by omega, by go_num, by rw [HN.out]⟩
        case measure => simp [intOf]; omega
    · obtain rfl : j = 64 := by omega
      go_wp2
      go_ret2
      exact ⟨ret2 (by rw [HV.out]) rfl, rfl⟩

set_option maxHeartbeats 400000 in
theorem refDo_no (op : Int) (h : op < 1 ∨ 11 < op) (a b : Nat) (w : World) :
    Calls Try.prog 29 #[.int .i64 op, .int .u64 a, .int .u64 b] w fun e w' => e = .returned (.tuple #[.int .u64 0, .int .i64 1]) ∧ w = w' := by
  have h1 : (op == 1) = false := by simp; omega
  have h2 : (op == 2) = false := by simp; omega
  have h3 : (op == 3) = false := by simp; omega
  have h4 : (op == 4) = false := by simp; omega
  have h5 : (op == 5) = false := by simp; omega
  have h6 : (op == 6) = false := by simp; omega
  have h7 : (op == 7) = false := by simp; omega
  have h8 : (op == 8) = false := by simp; omega
  have h9 : (op == 9) = false := by simp; omega
  have h10 : (op == 10) = false := by simp; omega
  have h11 : (op == 11) = false := by simp; omega
  clear h
  go_enter Try.func29, Try.ntmps29
  go_wp2
  go_ret2
  exact ⟨rfl, rfl⟩

theorem refDo_any (op : Int) (a b : Nat) (ha : a < M) (hb : b < M) (w : World) :
    Calls Try.prog 29 #[.int .i64 op, .int .u64 a, .int .u64 b] w fun e w' => e = .returned (.tuple #[.int .u64 (aluV op a b : Nat), .int .i64 (aluE op)]) ∧ w = w' := by
  by_cases h : op < 1 ∨ 11 < op
  · have e1 : aluE op = 1 := by unfold aluE; rw [if_neg (by omega)]
    have e2 : aluV op a b = 0 := by
      unfold aluV
      rw [if_neg (by omega), if_neg (by omega), if_neg (by omega), if_neg (by omega), if_neg (by omega), if_neg (by omega), if_neg (by omega), if_neg (by omega), if_neg (by omega), if_neg (by omega), if_neg (by omega)]
    rw [e1, e2]; exact refDo_no op h a b w
  · rw [aluE_0 op (by omega) (by omega)]
    by_cases h1 : op = 1
    · subst h1; exact refDo_1 a b ha hb w
    by_cases h2 : op = 2
    · subst h2; exact refDo_2 a b ha hb w
    by_cases h3 : op = 3
    · subst h3; exact refDo_3 a b ha hb w
    by_cases h4 : op = 4
    · subst h4; exact refDo_4 a b ha hb w
    by_cases h5 : op = 5
    · subst h5; exact refDo_5 a b ha hb w
    by_cases h6 : op = 6
    · subst h6; exact refDo_6 a b ha hb w
    by_cases h7 : op = 7
    · subst h7; exact refDo_7 a b ha hb w
    by_cases h8 : op = 8
    · subst h8; exact refDo_8 a b ha hb w
    by_cases h9 : op = 9
    · subst h9; exact refDo_9 a b ha hb w
    by_cases h10 : op = 10
    · subst h10; exact refDo_10 a b ha hb w
    obtain rfl : op = 11 := by omega
    exact refDo_11 a b ha hb w

theorem pw63 : pw 63 = H63 := by decide
def tn (a : Nat) : Nat := (a + H63) % M
theorem tn_go (a : Nat) : IntKind.u64.wrap ((a : Int) + ((pw 63 : Nat) : Int)) = ((tn a : Nat) : Int) := by
  rw [wrapu_add, pw63]; rfl
theorem holds7 (a b : Nat) : holdsV 7 a b = decide (tn a < tn b) := by
  unfold holdsV; rw [if_neg (by decide), if_neg (by decide), if_neg (by decide), if_neg (by decide), if_neg (by decide), if_neg (by decide), if_pos rfl]; rfl
theorem holds8 (a b : Nat) : holdsV 8 a b = !decide (tn a < tn b) := by
  unfold holdsV; rw [if_neg (by decide), if_neg (by decide), if_neg (by decide), if_neg (by decide), if_neg (by decide), if_neg (by decide), if_neg (by decide), if_pos rfl]; rfl
theorem le_not_lt (x y : Nat) : decide (y ≤ x) = !decide (x < y) := by by_cases h : x < y <;> simp [h] <;> omega
end Go.Proofs.Ytgaahlnegmcakaa
