/- The examples at the head of chapter 7's statements, and 'do'. -/
import Derived.Test.YtnneomnablfndaaAluW
namespace Go.Proofs.Ytnneomnablfndaa
open Go.RowKit

set_option maxHeartbeats 1000000 in
theorem shown_any (w : World) : Calls Try.prog 10 #[] w fun e w' => e = .returned (.bool true) ∧ Below w.heap.size w w' := by
  have k1 : IntKind.u64.wrap (wrap64 9223372036854775808 / 2) = 13835058055282163712 := by rw [IntKind.wrap_u64]; unfold wrap64; decide
  have k2 : wrap64 18446744073709551615 = -1 := by unfold wrap64; decide
  go_enter Try.func10, Try.ntmps10
  go_wp2
  go_ret
  exact ⟨rfl, (Below.refl _ _).alloc (Nat.le_refl _) _⟩

theorem do_any (op : Int) (a b : Nat) (h1 : 1 ≤ op) (h2 : op ≤ 11) (ha : a < M) (hb : b < M) (w : World) :
    Calls Try.prog 17 #[.int .i64 op, .int .u64 a, .int .u64 b] w fun e w' => e = .returned (.int .u64 (aluV op a b : Nat)) ∧ w = w' := by
  have HE := Lib.hid (aluE_0 op h1 h2)
  have HC := aluDo_any op a b ha hb
  rw [HE.out] at HC
  clear ha hb h1 h2
  go_enter Try.func17, Try.ntmps17
  go_wp2_with (go_at_call 11; refine (HC _).mono ?_; rintro e w' ⟨rfl, rfl⟩)
  go_ret
  exact ⟨rfl, rfl⟩
end Go.Proofs.Ytnneomnablfndaa
