/- The walks of the statements of chapter 7 that hold the program against the document: AluDoes, AluHolds. -/
import Derived.Test.YtnneomnablfndaaAluShown
import Derived.Test.YtnneomnablfndaaAluRefW2
namespace Go.Proofs.Ytnneomnablfndaa
open Go.RowKit

set_option maxHeartbeats 400000 in
theorem aluDoes_walk (op : Int) (a b : Nat) (ha : a < M) (hb : b < M) (w : World) :
    Calls Try.prog 3 #[.int .i64 op, .int .u64 a, .int .u64 b] w fun e w' => e = .returned (.bool true) ∧ Below w.heap.size w w' := by
  have C1 := aluDo_any op a b ha hb
  have C2 := refDo_any op a b ha hb
  clear ha hb
  go_enter Try.func3, Try.ntmps3
  go_wp2_with (first | (go_at_call 10; refine (shown_any _).mono ?_; rintro e w1 ⟨rfl, hb1⟩) | (go_at_call 11; refine (C1 _).mono ?_; rintro e w' ⟨rfl, rfl⟩) | (go_at_call 12; refine (C2 _).mono ?_; rintro e w' ⟨rfl, rfl⟩))
  go_ret
  exact ⟨rfl, ‹Below _ _ _›⟩

set_option maxHeartbeats 400000 in
theorem aluHolds_walk (op : Int) (a b : Nat) (ha : a < M) (hb : b < M) (w : World) :
    Calls Try.prog 4 #[.int .i64 op, .int .u64 a, .int .u64 b] w fun e w' => e = .returned (.bool true) ∧ Below w.heap.size w w' := by
  have C1 := aluHolds_any op a b ha hb
  have C2 := refHolds_any op a b ha hb
  clear ha hb
  go_enter Try.func4, Try.ntmps4
  go_wp2_with (first | (go_at_call 10; refine (shown_any _).mono ?_; rintro e w1 ⟨rfl, hb1⟩) | (go_at_call 13; refine (C1 _).mono ?_; rintro e w' ⟨rfl, rfl⟩) | (go_at_call 14; refine (C2 _).mono ?_; rintro e w' ⟨rfl, rfl⟩) | (go_at_call 15; refine (aluNot_any op _).mono ?_; rintro e w2 ⟨rfl, hb2⟩) | (go_at_call 16; refine (refNot_any op _).mono ?_; rintro e w3 ⟨rfl, hb3⟩))
  go_ret
  exact ⟨rfl, hb1.trans ((hb2.mono hb1.size).trans (hb3.mono (Nat.le_trans hb1.size hb2.size)))⟩
end Go.Proofs.Ytnneomnablfndaa
