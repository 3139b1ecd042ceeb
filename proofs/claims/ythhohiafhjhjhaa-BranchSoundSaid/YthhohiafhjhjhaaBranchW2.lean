
/- The walks of package branch's inner function where. -/
import Derived.Test.YthhohiafhjhjhaaBranchW1
namespace Go.Proofs.Ythhohiafhjhjhaa
open Go.RowKit
set_option linter.unusedVariables false
set_option linter.unusedSimpArgs false

theorem ret_br {x y z u : Int} {c : Bool} {R : Br} (h1 : x = R.a) (h2 : y = R.b) (h3 : z = R.c) (h4 : u = R.d) (h5 : c = R.can) :
    Ending.returned (.tuple #[.agg #[.int .u64 x, .int .u64 y], .agg #[.int .u64 z, .int .u64 u], .bool c]) = .returned (.tuple #[.agg #[.int .u64 (R.a : Nat), .int .u64 (R.b : Nat)], .agg #[.int .u64 (R.c : Nat), .int .u64 (R.d : Nat)], .bool R.can]) := by
  rw [h1, h2, h3, h4, h5]

set_option maxRecDepth 100000 in
set_option maxHeartbeats 4000000 in
theorem where_3n (a b c d : Nat) (h : d ≤ a) (R : Br) (hR : brWhere 3 a b c d = R) (w : World) :
    Calls Try.prog 19 #[.int .i64 3, .agg #[.int .u64 a, .int .u64 b], .agg #[.int .u64 c, .int .u64 d]] w fun e w' => e = .returned (.tuple #[.agg #[.int .u64 (R.a : Nat), .int .u64 (R.b : Nat)], .agg #[.int .u64 (R.c : Nat), .int .u64 (R.d : Nat)], .bool R.can]) ∧ Below w.heap.size w w' := by
  obtain rfl : R = brNo := by rw [← hR]; unfold brWhere; simp [h]
  clear hR
  have hmm := @run_makeMap Try.prog
  have m1 := map_one
  have m2 := map_two
  have m3 := map_look
  have tk : turnedV 3 = 0 := rfl
  have n0_2 : ¬ w.heap.size = w.heap.size + 1 + 1 := by omega
  have n2_0 : ¬ w.heap.size + 1 + 1 = w.heap.size := by omega
  have n0_3 : ¬ w.heap.size = w.heap.size + 1 + 1 + 1 := by omega
  have n3_0 : ¬ w.heap.size + 1 + 1 + 1 = w.heap.size := by omega
  have n1_3 : ¬ w.heap.size + 1 = w.heap.size + 1 + 1 + 1 := by omega
  have n3_1 : ¬ w.heap.size + 1 + 1 + 1 = w.heap.size + 1 := by omega
  go_enter Try.func19, Try.ntmps19
  go_wp2
  all_goals
    refine bodyPost_ret (v := .tuple #[.agg #[.int .u64 0, .int .u64 0], .agg #[.int .u64 0, .int .u64 0], .bool false]) (by simp [results, Try.results19, go_sem, *]) rfl ⟨?_, (by (repeat (first | exact HB | exact Below.refl _ _ | apply below_drew | apply below_draws | refine below_set ?_ (by (try dsimp only); omega) _ | apply below_alloc)))⟩
    rfl

set_option maxRecDepth 100000 in
set_option maxHeartbeats 4000000 in
theorem where_3y (a b c d : Nat) (hab : a ≤ b) (hcd : c ≤ d) (hb : b < M) (hd : d < M) (h : ¬ d ≤ a) (R : Br) (hR : brWhere 3 a b c d = R) (w : World) :
    Calls Try.prog 19 #[.int .i64 3, .agg #[.int .u64 a, .int .u64 b], .agg #[.int .u64 c, .int .u64 d]] w fun e w' => e = .returned (.tuple #[.agg #[.int .u64 (R.a : Nat), .int .u64 (R.b : Nat)], .agg #[.int .u64 (R.c : Nat), .int .u64 (R.d : Nat)], .bool R.can]) ∧ Below w.heap.size w w' := by
  obtain rfl : R = ⟨a, min b (d - 1), max c (a + 1), d, true⟩ := by rw [← hR]; unfold brWhere; simp [h]
  clear hR
  have w1 : IntKind.u64.wrap ((d : Int) - 1) = ((d - 1 : Nat) : Int) := by rw [IntKind.wrap_u64]; unfold M at hd; omega
  have w2 : IntKind.u64.wrap ((a : Int) + 1) = (a : Int) + 1 := by rw [IntKind.wrap_u64]; unfold M at hb hd; omega
  have hmm := @run_makeMap Try.prog
  have m1 := map_one
  have m2 := map_two
  have m3 := map_look
  have tk : turnedV 3 = 0 := rfl
  have n0_2 : ¬ w.heap.size = w.heap.size + 1 + 1 := by omega
  have n2_0 : ¬ w.heap.size + 1 + 1 = w.heap.size := by omega
  have n0_3 : ¬ w.heap.size = w.heap.size + 1 + 1 + 1 := by omega
  have n3_0 : ¬ w.heap.size + 1 + 1 + 1 = w.heap.size := by omega
  have n1_3 : ¬ w.heap.size + 1 = w.heap.size + 1 + 1 + 1 := by omega
  have n3_1 : ¬ w.heap.size + 1 + 1 + 1 = w.heap.size + 1 := by omega
  go_enter Try.func19, Try.ntmps19
  go_wp2
  go_region
  go_wp2
  all_goals
    refine bodyPost_ret (v := .tuple #[.agg #[.int .u64 a, .int .u64 (min (b : Int) ((d - 1 : Nat) : Int))], .agg #[.int .u64 (max (c : Int) ((a : Int) + 1)), .int .u64 d], .bool true]) (by simp [results, Try.results19, go_sem, *]) rfl ⟨?_, (by (repeat (first | exact HB | exact Below.refl _ _ | apply below_drew | apply below_draws | refine below_set ?_ (by (try dsimp only); omega) _ | apply below_alloc)))⟩
    exact ret_br (R := ⟨a, min b (d - 1), max c (a + 1), d, true⟩) rfl (by show min (b : Int) ((d - 1 : Nat) : Int) = ((min b (d - 1) : Nat) : Int); omega) (by show max (c : Int) ((a : Int) + 1) = ((max c (a + 1) : Nat) : Int); omega) rfl rfl

set_option maxRecDepth 100000 in
set_option maxHeartbeats 4000000 in
theorem where_4n (a b c d : Nat) (h : d < a) (R : Br) (hR : brWhere 4 a b c d = R) (w : World) :
    Calls Try.prog 19 #[.int .i64 4, .agg #[.int .u64 a, .int .u64 b], .agg #[.int .u64 c, .int .u64 d]] w fun e w' => e = .returned (.tuple #[.agg #[.int .u64 (R.a : Nat), .int .u64 (R.b : Nat)], .agg #[.int .u64 (R.c : Nat), .int .u64 (R.d : Nat)], .bool R.can]) ∧ Below w.heap.size w w' := by
  obtain rfl : R = brNo := by rw [← hR]; unfold brWhere; simp [h]
  clear hR
  have hmm := @run_makeMap Try.prog
  have m1 := map_one
  have m2 := map_two
  have m3 := map_look
  have tk : turnedV 4 = 0 := rfl
  have n0_2 : ¬ w.heap.size = w.heap.size + 1 + 1 := by omega
  have n2_0 : ¬ w.heap.size + 1 + 1 = w.heap.size := by omega
  have n0_3 : ¬ w.heap.size = w.heap.size + 1 + 1 + 1 := by omega
  have n3_0 : ¬ w.heap.size + 1 + 1 + 1 = w.heap.size := by omega
  have n1_3 : ¬ w.heap.size + 1 = w.heap.size + 1 + 1 + 1 := by omega
  have n3_1 : ¬ w.heap.size + 1 + 1 + 1 = w.heap.size + 1 := by omega
  go_enter Try.func19, Try.ntmps19
  go_wp2
  all_goals
    refine bodyPost_ret (v := .tuple #[.agg #[.int .u64 0, .int .u64 0], .agg #[.int .u64 0, .int .u64 0], .bool false]) (by simp [results, Try.results19, go_sem, *]) rfl ⟨?_, (by (repeat (first | exact HB | exact Below.refl _ _ | apply below_drew | apply below_draws | refine below_set ?_ (by (try dsimp only); omega) _ | apply below_alloc)))⟩
    rfl

set_option maxRecDepth 100000 in
set_option maxHeartbeats 4000000 in
theorem where_4y (a b c d : Nat) (h : ¬ d < a) (R : Br) (hR : brWhere 4 a b c d = R) (w : World) :
    Calls Try.prog 19 #[.int .i64 4, .agg #[.int .u64 a, .int .u64 b], .agg #[.int .u64 c, .int .u64 d]] w fun e w' => e = .returned (.tuple #[.agg #[.int .u64 (R.a : Nat), .int .u64 (R.b : Nat)], .agg #[.int .u64 (R.c : Nat), .int .u64 (R.d : Nat)], .bool R.can]) ∧ Below w.heap.size w w' := by
  obtain rfl : R = ⟨a, min b d, max c a, d, true⟩ := by rw [← hR]; unfold brWhere; simp [h]
  clear hR
  have hmm := @run_makeMap Try.prog
  have m1 := map_one
  have m2 := map_two
  have m3 := map_look
  have tk : turnedV 4 = 0 := rfl
  have n0_2 : ¬ w.heap.size = w.heap.size + 1 + 1 := by omega
  have n2_0 : ¬ w.heap.size + 1 + 1 = w.heap.size := by omega
  have n0_3 : ¬ w.heap.size = w.heap.size + 1 + 1 + 1 := by omega
  have n3_0 : ¬ w.heap.size + 1 + 1 + 1 = w.heap.size := by omega
  have n1_3 : ¬ w.heap.size + 1 = w.heap.size + 1 + 1 + 1 := by omega
  have n3_1 : ¬ w.heap.size + 1 + 1 + 1 = w.heap.size + 1 := by omega
  go_enter Try.func19, Try.ntmps19
  go_wp2
  go_region
  go_wp2
  all_goals
    refine bodyPost_ret (v := .tuple #[.agg #[.int .u64 a, .int .u64 (min (b : Int) (d : Int))], .agg #[.int .u64 (max (c : Int) (a : Int)), .int .u64 d], .bool true]) (by simp [results, Try.results19, go_sem, *]) rfl ⟨?_, (by (repeat (first | exact HB | exact Below.refl _ _ | apply below_drew | apply below_draws | refine below_set ?_ (by (try dsimp only); omega) _ | apply below_alloc)))⟩
    exact ret_br (R := ⟨a, min b d, max c a, d, true⟩) rfl (by show min (b : Int) (d : Int) = ((min b d : Nat) : Int); omega) (by show max (c : Int) (a : Int) = ((max c a : Nat) : Int); omega) rfl rfl

set_option maxRecDepth 100000 in
set_option maxHeartbeats 4000000 in
theorem where_7 (a b c d : Nat)  (R : Br) (hR : brWhere 7 a b c d = R) (w : World) :
    Calls Try.prog 19 #[.int .i64 7, .agg #[.int .u64 a, .int .u64 b], .agg #[.int .u64 c, .int .u64 d]] w fun e w' => e = .returned (.tuple #[.agg #[.int .u64 (R.a : Nat), .int .u64 (R.b : Nat)], .agg #[.int .u64 (R.c : Nat), .int .u64 (R.d : Nat)], .bool R.can]) ∧ Below w.heap.size w w' := by
  obtain rfl : R = ⟨a, b, c, d, true⟩ := by rw [← hR]; unfold brWhere; simp
  clear hR
  have hmm := @run_makeMap Try.prog
  have m1 := map_one
  have m2 := map_two
  have m3 := map_look
  have tk : turnedV 7 = 0 := rfl
  have n0_2 : ¬ w.heap.size = w.heap.size + 1 + 1 := by omega
  have n2_0 : ¬ w.heap.size + 1 + 1 = w.heap.size := by omega
  have n0_3 : ¬ w.heap.size = w.heap.size + 1 + 1 + 1 := by omega
  have n3_0 : ¬ w.heap.size + 1 + 1 + 1 = w.heap.size := by omega
  have n1_3 : ¬ w.heap.size + 1 = w.heap.size + 1 + 1 + 1 := by omega
  have n3_1 : ¬ w.heap.size + 1 + 1 + 1 = w.heap.size + 1 := by omega
  go_enter Try.func19, Try.ntmps19
  go_wp2
  go_region
  go_wp2
  all_goals
    refine bodyPost_ret (v := .tuple #[.agg #[.int .u64 a, .int .u64 b], .agg #[.int .u64 c, .int .u64 d], .bool true]) (by simp [results, Try.results19, go_sem, *]) rfl ⟨?_, (by (repeat (first | exact HB | exact Below.refl _ _ | apply below_drew | apply below_draws | refine below_set ?_ (by (try dsimp only); omega) _ | apply below_alloc)))⟩
    rfl

set_option maxRecDepth 100000 in
set_option maxHeartbeats 4000000 in
theorem where_8 (a b c d : Nat)  (R : Br) (hR : brWhere 8 a b c d = R) (w : World) :
    Calls Try.prog 19 #[.int .i64 8, .agg #[.int .u64 a, .int .u64 b], .agg #[.int .u64 c, .int .u64 d]] w fun e w' => e = .returned (.tuple #[.agg #[.int .u64 (R.a : Nat), .int .u64 (R.b : Nat)], .agg #[.int .u64 (R.c : Nat), .int .u64 (R.d : Nat)], .bool R.can]) ∧ Below w.heap.size w w' := by
  obtain rfl : R = ⟨a, b, c, d, true⟩ := by rw [← hR]; unfold brWhere; simp
  clear hR
  have hmm := @run_makeMap Try.prog
  have m1 := map_one
  have m2 := map_two
  have m3 := map_look
  have tk : turnedV 8 = 0 := rfl
  have n0_2 : ¬ w.heap.size = w.heap.size + 1 + 1 := by omega
  have n2_0 : ¬ w.heap.size + 1 + 1 = w.heap.size := by omega
  have n0_3 : ¬ w.heap.size = w.heap.size + 1 + 1 + 1 := by omega
  have n3_0 : ¬ w.heap.size + 1 + 1 + 1 = w.heap.size := by omega
  have n1_3 : ¬ w.heap.size + 1 = w.heap.size + 1 + 1 + 1 := by omega
  have n3_1 : ¬ w.heap.size + 1 + 1 + 1 = w.heap.size + 1 := by omega
  go_enter Try.func19, Try.ntmps19
  go_wp2
  go_region
  go_wp2
  all_goals
    refine bodyPost_ret (v := .tuple #[.agg #[.int .u64 a, .int .u64 b], .agg #[.int .u64 c, .int .u64 d], .bool true]) (by simp [results, Try.results19, go_sem, *]) rfl ⟨?_, (by (repeat (first | exact HB | exact Below.refl _ _ | apply below_drew | apply below_draws | refine below_set ?_ (by (try dsimp only); omega) _ | apply below_alloc)))⟩
    rfl

set_option maxRecDepth 100000 in
set_option maxHeartbeats 4000000 in
theorem where_9 (a b c d : Nat)  (R : Br) (hR : brWhere 9 a b c d = R) (w : World) :
    Calls Try.prog 19 #[.int .i64 9, .agg #[.int .u64 a, .int .u64 b], .agg #[.int .u64 c, .int .u64 d]] w fun e w' => e = .returned (.tuple #[.agg #[.int .u64 (R.a : Nat), .int .u64 (R.b : Nat)], .agg #[.int .u64 (R.c : Nat), .int .u64 (R.d : Nat)], .bool R.can]) ∧ Below w.heap.size w w' := by
  obtain rfl : R = ⟨a, b, c, d, true⟩ := by rw [← hR]; unfold brWhere; simp
  clear hR
  have hmm := @run_makeMap Try.prog
  have m1 := map_one
  have m2 := map_two
  have m3 := map_look
  have tk : turnedV 9 = 0 := rfl
  have n0_2 : ¬ w.heap.size = w.heap.size + 1 + 1 := by omega
  have n2_0 : ¬ w.heap.size + 1 + 1 = w.heap.size := by omega
  have n0_3 : ¬ w.heap.size = w.heap.size + 1 + 1 + 1 := by omega
  have n3_0 : ¬ w.heap.size + 1 + 1 + 1 = w.heap.size := by omega
  have n1_3 : ¬ w.heap.size + 1 = w.heap.size + 1 + 1 + 1 := by omega
  have n3_1 : ¬ w.heap.size + 1 + 1 + 1 = w.heap.size + 1 := by omega
  go_enter Try.func19, Try.ntmps19
  go_wp2
  go_region
  go_wp2
  all_goals
    refine bodyPost_ret (v := .tuple #[.agg #[.int .u64 a, .int .u64 b], .agg #[.int .u64 c, .int .u64 d], .bool true]) (by simp [results, Try.results19, go_sem, *]) rfl ⟨?_, (by (repeat (first | exact HB | exact Below.refl _ _ | apply below_drew | apply below_draws | refine below_set ?_ (by (try dsimp only); omega) _ | apply below_alloc)))⟩
    rfl

end Go.Proofs.Ythhohiafhjhjhaa
