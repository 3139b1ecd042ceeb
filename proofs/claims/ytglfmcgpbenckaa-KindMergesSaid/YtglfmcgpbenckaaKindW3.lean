
/- The walk of package kind: Split. -/
import Derived.Test.YtglfmcgpbenckaaKindW2
namespace Go.Proofs.Ytglfmcgpbenckaa
open Go.RowKit
set_option linter.unusedVariables false
set_option linter.unusedSimpArgs false

set_option maxRecDepth 100000 in
set_option maxHeartbeats 2000000 in
theorem ksplit_1 (k t i l : Int) (m : Bool) (a b : Int) (hk : k = 2) (w : World) :
    Calls Try.prog 13 #[.agg #[.int .i64 k, .int .i64 t, .int .i64 i, .int .i64 l, .bool m, .int .u64 a, .int .u64 b], .bool true] w fun e w' => e = .returned (.tuple #[.agg #[.int .i64 2, .int .i64 0, .int .i64 0, .int .i64 0, .bool false, .int .u64 0, .int .u64 0], .bool true]) ∧ Below w.heap.size w w' := by
  have k2 : (k == 2) = true := by simp [hk]
  clear hk
  have n0_2 : ¬ w.heap.size = w.heap.size + 1 + 1 := by omega
  have n2_0 : ¬ w.heap.size + 1 + 1 = w.heap.size := by omega
  go_enter Try.func13, Try.ntmps13
  go_wp2_with (first | (go_at_call 23; ((with_reducible refine (CP _).mono ?_); rintro e w' ⟨rfl, rfl⟩)))
  refine bodyPost_ret (v := .tuple #[.agg #[.int .i64 2, .int .i64 0, .int .i64 0, .int .i64 0, .bool false, .int .u64 0, .int .u64 0], .bool true]) (by simp [results, Try.results13, go_sem, *]) rfl ⟨rfl, (by (repeat (first | (with_reducible exact HB) | (with_reducible exact Below.refl _ _) | (with_reducible refine below_set ?_ (by (try dsimp only); omega) _) | (with_reducible apply below_drew) | (with_reducible apply below_draws) | (with_reducible apply below_alloc))))⟩

set_option maxRecDepth 100000 in
set_option maxHeartbeats 2000000 in
theorem ksplit_2a (k t i l : Int) (m : Bool) (n : Bool) (a b : Int) (hk : ¬ k = 2) (hp : ¬ ptr k) (w : World) :
    Calls Try.prog 13 #[.agg #[.int .i64 k, .int .i64 t, .int .i64 i, .int .i64 l, .bool m, .int .u64 a, .int .u64 b], .bool n] w fun e w' => e = .returned (.tuple #[.agg #[.int .i64 0, .int .i64 0, .int .i64 0, .int .i64 0, .bool false, .int .u64 0, .int .u64 0], .bool false]) ∧ Below w.heap.size w w' := by
  have k2 : (k == 2) = false := by simp [hk]
  have CP := pointer_n k hp
  clear hk hp
  have n0_2 : ¬ w.heap.size = w.heap.size + 1 + 1 := by omega
  have n2_0 : ¬ w.heap.size + 1 + 1 = w.heap.size := by omega
  go_enter Try.func13, Try.ntmps13
  go_wp2_with (first | (go_at_call 23; ((with_reducible refine (CP _).mono ?_); rintro e w' ⟨rfl, rfl⟩)))
  refine bodyPost_ret (v := .tuple #[.agg #[.int .i64 0, .int .i64 0, .int .i64 0, .int .i64 0, .bool false, .int .u64 0, .int .u64 0], .bool false]) (by simp [results, Try.results13, go_sem, *]) rfl ⟨rfl, (by (repeat (first | (with_reducible exact HB) | (with_reducible exact Below.refl _ _) | (with_reducible refine below_set ?_ (by (try dsimp only); omega) _) | (with_reducible apply below_drew) | (with_reducible apply below_draws) | (with_reducible apply below_alloc))))⟩

set_option maxRecDepth 100000 in
set_option maxHeartbeats 2000000 in
theorem ksplit_2b (k t i l : Int) (m : Bool) (a b : Int) (hk : k = 2) (w : World) :
    Calls Try.prog 13 #[.agg #[.int .i64 k, .int .i64 t, .int .i64 i, .int .i64 l, .bool m, .int .u64 a, .int .u64 b], .bool false] w fun e w' => e = .returned (.tuple #[.agg #[.int .i64 0, .int .i64 0, .int .i64 0, .int .i64 0, .bool false, .int .u64 0, .int .u64 0], .bool false]) ∧ Below w.heap.size w w' := by
  have k2 : (k == 2) = true := by simp [hk]
  have CP := pointer_n k (by unfold ptr; omega)
  clear hk
  have n0_2 : ¬ w.heap.size = w.heap.size + 1 + 1 := by omega
  have n2_0 : ¬ w.heap.size + 1 + 1 = w.heap.size := by omega
  go_enter Try.func13, Try.ntmps13
  go_wp2_with (first | (go_at_call 23; ((with_reducible refine (CP _).mono ?_); rintro e w' ⟨rfl, rfl⟩)))
  refine bodyPost_ret (v := .tuple #[.agg #[.int .i64 0, .int .i64 0, .int .i64 0, .int .i64 0, .bool false, .int .u64 0, .int .u64 0], .bool false]) (by simp [results, Try.results13, go_sem, *]) rfl ⟨rfl, (by (repeat (first | (with_reducible exact HB) | (with_reducible exact Below.refl _ _) | (with_reducible refine below_set ?_ (by (try dsimp only); omega) _) | (with_reducible apply below_drew) | (with_reducible apply below_draws) | (with_reducible apply below_alloc))))⟩

set_option maxRecDepth 100000 in
set_option maxHeartbeats 2000000 in
theorem ksplit_3 (k t i l : Int) (a b : Int) (hp : ptr k) (w : World) :
    Calls Try.prog 13 #[.agg #[.int .i64 k, .int .i64 t, .int .i64 i, .int .i64 l, .bool false, .int .u64 a, .int .u64 b], .bool true] w fun e w' => e = .returned (.tuple #[.agg #[.int .i64 0, .int .i64 0, .int .i64 0, .int .i64 0, .bool false, .int .u64 0, .int .u64 0], .bool false]) ∧ Below w.heap.size w w' := by
  have k2 : (k == 2) = false := by unfold ptr at hp; simp; omega
  have CP := pointer_y k hp
  clear hp
  have n0_2 : ¬ w.heap.size = w.heap.size + 1 + 1 := by omega
  have n2_0 : ¬ w.heap.size + 1 + 1 = w.heap.size := by omega
  go_enter Try.func13, Try.ntmps13
  go_wp2_with (first | (go_at_call 23; ((with_reducible refine (CP _).mono ?_); rintro e w' ⟨rfl, rfl⟩)))
  refine bodyPost_ret (v := .tuple #[.agg #[.int .i64 0, .int .i64 0, .int .i64 0, .int .i64 0, .bool false, .int .u64 0, .int .u64 0], .bool false]) (by simp [results, Try.results13, go_sem, *]) rfl ⟨rfl, (by (repeat (first | (with_reducible exact HB) | (with_reducible exact Below.refl _ _) | (with_reducible refine below_set ?_ (by (try dsimp only); omega) _) | (with_reducible apply below_drew) | (with_reducible apply below_draws) | (with_reducible apply below_alloc))))⟩

set_option maxRecDepth 100000 in
set_option maxHeartbeats 2000000 in
theorem ksplit_4 (k t i l : Int) (a b : Int) (hp : ptr k) (w : World) :
    Calls Try.prog 13 #[.agg #[.int .i64 k, .int .i64 t, .int .i64 i, .int .i64 l, .bool true, .int .u64 a, .int .u64 b], .bool true] w fun e w' => e = .returned (.tuple #[.agg #[.int .i64 2, .int .i64 0, .int .i64 0, .int .i64 0, .bool false, .int .u64 0, .int .u64 0], .bool true]) ∧ Below w.heap.size w w' := by
  have k2 : (k == 2) = false := by unfold ptr at hp; simp; omega
  have CP := pointer_y k hp
  clear hp
  have n0_2 : ¬ w.heap.size = w.heap.size + 1 + 1 := by omega
  have n2_0 : ¬ w.heap.size + 1 + 1 = w.heap.size := by omega
  go_enter Try.func13, Try.ntmps13
  go_wp2_with (first | (go_at_call 23; ((with_reducible refine (CP _).mono ?_); rintro e w' ⟨rfl, rfl⟩)))
  refine bodyPost_ret (v := .tuple #[.agg #[.int .i64 2, .int .i64 0, .int .i64 0, .int .i64 0, .bool false, .int .u64 0, .int .u64 0], .bool true]) (by simp [results, Try.results13, go_sem, *]) rfl ⟨rfl, (by (repeat (first | (with_reducible exact HB) | (with_reducible exact Below.refl _ _) | (with_reducible refine below_set ?_ (by (try dsimp only); omega) _) | (with_reducible apply below_drew) | (with_reducible apply below_draws) | (with_reducible apply below_alloc))))⟩

set_option maxRecDepth 100000 in
set_option maxHeartbeats 2000000 in
theorem ksplit_5 (k t i l : Int) (m : Bool) (a b : Int) (hp : ptr k) (w : World) :
    Calls Try.prog 13 #[.agg #[.int .i64 k, .int .i64 t, .int .i64 i, .int .i64 l, .bool m, .int .u64 a, .int .u64 b], .bool false] w fun e w' => e = .returned (.tuple #[.agg #[.int .i64 k, .int .i64 t, .int .i64 i, .int .i64 l, .bool false, .int .u64 a, .int .u64 b], .bool true]) ∧ Below w.heap.size w w' := by
  have k2 : (k == 2) = false := by unfold ptr at hp; simp; omega
  have CP := pointer_y k hp
  clear hp
  have n0_2 : ¬ w.heap.size = w.heap.size + 1 + 1 := by omega
  have n2_0 : ¬ w.heap.size + 1 + 1 = w.heap.size := by omega
  go_enter Try.func13, Try.ntmps13
  go_wp2_with (first | (go_at_call 23; ((with_reducible refine (CP _).mono ?_); rintro e w' ⟨rfl, rfl⟩)))
  refine bodyPost_ret (v := .tuple #[.agg #[.int .i64 k, .int .i64 t, .int .i64 i, .int .i64 l, .bool false, .int .u64 a, .int .u64 b], .bool true]) (by simp [results, Try.results13, go_sem, *]) rfl ⟨rfl, (by (repeat (first | (with_reducible exact HB) | (with_reducible exact Below.refl _ _) | (with_reducible refine below_set ?_ (by (try dsimp only); omega) _) | (with_reducible apply below_drew) | (with_reducible apply below_draws) | (with_reducible apply below_alloc))))⟩

theorem ksplit_any (x : Wh) (n : Bool) (R : Wh) (c : Bool) (hR : whSplit x n = R) (hc : whCan x n = c) (w : World) :
    Calls Try.prog 13 #[.agg #[.int .i64 x.k, .int .i64 x.t, .int .i64 x.i, .int .i64 x.l, .bool x.m, .int .u64 (x.a : Nat), .int .u64 (x.b : Nat)], .bool n] w fun e w' => e = .returned (.tuple #[.agg #[.int .i64 R.k, .int .i64 R.t, .int .i64 R.i, .int .i64 R.l, .bool R.m, .int .u64 (R.a : Nat), .int .u64 (R.b : Nat)], .bool c]) ∧ Below w.heap.size w w' := by
  obtain ⟨k, t, i, l, m, a, b⟩ := x
  subst hR hc
  dsimp only
  by_cases h2 : k = 2
  · have hp : ¬ ptr k := by unfold ptr; omega
    cases n
    · have e1 : whSplit ⟨k, t, i, l, m, a, b⟩ false = junk := by unfold whSplit; rw [if_neg (fun q => by cases q.2), if_pos (Or.inl hp)]
      have e2 : whCan ⟨k, t, i, l, m, a, b⟩ false = false := by unfold whCan; rw [if_neg (fun q => by cases q.2), if_pos (Or.inl hp)]
      rw [e1, e2]; exact ksplit_2b k t i l m a b h2 w
    · have e1 : whSplit ⟨k, t, i, l, m, a, b⟩ true = nullW := by unfold whSplit; rw [if_pos ⟨h2, rfl⟩]
      have e2 : whCan ⟨k, t, i, l, m, a, b⟩ true = true := by unfold whCan; rw [if_pos ⟨h2, rfl⟩]
      rw [e1, e2]; exact ksplit_1 k t i l m a b h2 w
  · by_cases hp : ptr k
    · cases n
      · have e1 : whSplit ⟨k, t, i, l, m, a, b⟩ false = ⟨k, t, i, l, false, a, b⟩ := by
          unfold whSplit; rw [if_neg (fun q => h2 q.1), if_neg (fun q => q.elim (fun z => z hp) (fun z => by cases z.1)), if_neg (by decide)]; rfl
        have e2 : whCan ⟨k, t, i, l, m, a, b⟩ false = true := by
          unfold whCan; rw [if_neg (fun q => h2 q.1), if_neg (fun q => q.elim (fun z => z hp) (fun z => by cases z.1))]
        rw [e1, e2]; exact ksplit_5 k t i l m a b hp w
      · cases m
        · have e1 : whSplit ⟨k, t, i, l, false, a, b⟩ true = junk := by unfold whSplit; rw [if_neg (fun q => h2 q.1), if_pos (Or.inr ⟨rfl, rfl⟩)]
          have e2 : whCan ⟨k, t, i, l, false, a, b⟩ true = false := by unfold whCan; rw [if_neg (fun q => h2 q.1), if_pos (Or.inr ⟨rfl, rfl⟩)]
          rw [e1, e2]; exact ksplit_3 k t i l a b hp w
        · have e1 : whSplit ⟨k, t, i, l, true, a, b⟩ true = nullW := by
            unfold whSplit; rw [if_neg (fun q => h2 q.1), if_neg (fun q => q.elim (fun z => z hp) (fun z => by cases z.2)), if_pos rfl]
          have e2 : whCan ⟨k, t, i, l, true, a, b⟩ true = true := by
            unfold whCan; rw [if_neg (fun q => h2 q.1), if_neg (fun q => q.elim (fun z => z hp) (fun z => by cases z.2))]
          rw [e1, e2]; exact ksplit_4 k t i l a b hp w
    · have e1 : whSplit ⟨k, t, i, l, m, a, b⟩ n = junk := by unfold whSplit; rw [if_neg (fun q => h2 q.1), if_pos (Or.inl hp)]
      have e2 : whCan ⟨k, t, i, l, m, a, b⟩ n = false := by unfold whCan; rw [if_neg (fun q => h2 q.1), if_pos (Or.inl hp)]
      rw [e1, e2]; exact ksplit_2a k t i l m n a b h2 hp w

end Go.Proofs.Ytglfmcgpbenckaa
