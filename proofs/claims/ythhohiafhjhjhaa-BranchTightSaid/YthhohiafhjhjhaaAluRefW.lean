
/- The walks of the document's answer of chapter 7 (package turnbuckleref07): what its functions compute. -/
import Derived.Test.YthhohiafhjhjhaaAluW
import Derived.Test.YthhohiafhjhjhaaAluRefPlain
namespace Go.Proofs.Ythhohiafhjhjhaa
open Go.RowKit

theorem ret_int {k : IntKind} {a b : Int} (h : a = b) : Ending.returned (.int k a) = .returned (.int k b) := by rw [h]
theorem ret_bool {a b : Bool} (h : a = b) : Ending.returned (.bool a) = .returned (.bool b) := by rw [h]

set_option maxHeartbeats 400000 in
theorem pow_any (n : Nat) (h : n ≤ 64) (w : World) :
    Calls Try.prog 32 #[.int .i64 n] w fun e w' => e = .returned (.int .u64 ((pw n : Nat) : Int)) ∧ w = w' := by
  go_enter Try.func32, Try.ntmps32
  go_wp2
  go_loop [3, 4] (fun p i => ∃ k : Nat, k ≤ n ∧ i = .int .i64 k ∧ p = .int .u64 ((pw k : Nat) : Int)) (fun _ i => n - (intOf i).toNat)
  case atStart => exact ⟨0, Nat.zero_le _, rfl, rfl⟩
  case round =>
    obtain ⟨k, hk, rfl, rfl⟩ := hrel
    have HS := Lib.hid (pow_step k)
    by_cases hlt : k < n
    · go_wp2
      go_round
      case rel => exact ⟨k + 1, by omega, by go_num, by rw [HS.out]⟩
      case measure => simp [intOf]; omega
    · obtain rfl : k = n := by omega
      go_wp2
      go_ret
      exact ⟨rfl, rfl⟩

set_option maxHeartbeats 400000 in
theorem bit_any (a i : Nat) (ha : a < M) (hi : i < 64) (w : World) :
    Calls Try.prog 33 #[.int .u64 a, .int .i64 i] w fun e w' => e = .returned (.bool (a.testBit i)) ∧ w = w' := by
  have h3 : ¬ pw i = 0 := pw_pos i hi
  have HB := Lib.hid (bit_go a i ha hi)
  have hi2 : i ≤ 64 := by omega
  clear hi ha
  go_enter Try.func33, Try.ntmps33
  go_wp2_with (go_at_call 32; refine (pow_any i hi2 _).mono ?_; rintro e w' ⟨rfl, rfl⟩)
  go_ret
  exact ⟨ret_bool HB.out, rfl⟩

theorem bit_eq (a i : Nat) (x : Bool) (hx : Hid (a.testBit i = x)) (ha : Hid (a < M)) (hi : i < 64) (w : World) :
    Calls Try.prog 33 #[.int .u64 a, .int .i64 i] w fun e w' => e = .returned (.bool x) ∧ w = w' := by
  rw [← hx.out]; exact bit_any a i ha.out hi w

set_option maxHeartbeats 1000000 in
theorem bits_any (a b : Nat) (one two : Bool) (ha : a < M) (hb : b < M) (w : World) :
    Calls Try.prog 28 #[.int .u64 a, .int .u64 b, .bool false, .bool one, .bool two] w fun e w' => e = .returned (.int .u64 ((comb one two a b : Nat) : Int)) ∧ w = w' := by
  have HA := Lib.hid ha
  have HB := Lib.hid hb
  have HE := Lib.hid (bits_end one two a b ha hb)
  clear ha hb
  go_enter Try.func28, Try.ntmps28
  go_wp2
  go_loop [11, 12] (fun v i => ∃ k : Nat, k ≤ 64 ∧ i = .int .i64 k ∧ v = .int .u64 ((cb one two a b k : Nat) : Int)) (fun _ i => 64 - (intOf i).toNat)
  case atStart => exact ⟨0, Nat.zero_le _, rfl, by simp [cb, Nat.mod_one]⟩
  case round =>
    obtain ⟨k, hk, rfl, rfl⟩ := hrel
    by_cases hlt : k < 64
    · obtain ⟨x, hx⟩ : ∃ x, a.testBit k = x := ⟨_, rfl⟩
      obtain ⟨y, hy⟩ : ∃ y, b.testBit k = y := ⟨_, rfl⟩
      have HX := Lib.hid hx; clear hx
      have HY := Lib.hid hy; clear hy
      have hk64 : k ≤ 64 := by omega
      cases x <;> cases y <;> cases one <;> cases two
      all_goals
        go_wp2_with (first | (go_at_call 33; ((with_reducible refine (bit_eq a k _ HX HA hlt _).mono ?_); rintro e w' ⟨rfl, rfl⟩)) | (go_at_call 33; ((with_reducible refine (bit_eq b k _ HY HB hlt _).mono ?_); rintro e w' ⟨rfl, rfl⟩)) | (go_at_call 32; ((with_reducible refine (pow_any k hk64 _).mono ?_); rintro e w' ⟨rfl, rfl⟩)))
        go_round
        case rel => exact ⟨k + 1, by omega, by go_num, by first | rw [bits_yes _ _ a b k hlt (by rw [HX.out, HY.out]; rfl)] | rw [bits_no _ _ a b k (by rw [HX.out, HY.out]; rfl)]⟩
        case measure => simp [intOf]; omega
    · obtain rfl : k = 64 := by omega
      go_wp2
      go_ret
      exact ⟨ret_int (by rw [HE.out]), rfl⟩
end Go.Proofs.Ythhohiafhjhjhaa
