
/- The examples at the head of chapter 8's statements. -/
import Derived.Test.YtgaahlnegmcakaaSpanW5
import Derived.Test.YtgaahlnegmcakaaSpanLaw
namespace Go.Proofs.Ytgaahlnegmcakaa
open Go.RowKit
set_option linter.unusedVariables false
set_option linter.unusedSimpArgs false


set_option maxHeartbeats 400000 in
theorem may_x (a b : Nat) (w : World) :
    Calls Try.prog 16 #[.agg #[.int .u64 a, .int .u64 b]] w fun e w' => e = .returned (.bool (decide (a ≤ b))) ∧ w.alloc (.cells #[.int .u64 a, .int .u64 b] 24) = w' := by
  go_enter Try.func16, Try.ntmps16
  go_wp2
  go_ret
  exact ⟨rfl, rfl⟩

set_option maxHeartbeats 400000 in
theorem has_x (a b n : Nat) (w : World) :
    Calls Try.prog 14 #[.agg #[.int .u64 a, .int .u64 b], .int .u64 n] w fun e w' => e = .returned (.bool (decide (a ≤ n) && decide (n ≤ b))) ∧ w.alloc (.cells #[.int .u64 a, .int .u64 b] 24) = w' := by
  by_cases h1 : a ≤ n <;> by_cases h2 : n ≤ b
  all_goals
    go_enter Try.func14, Try.ntmps14
    go_wp2
    go_ret
    exact ⟨by simp [h1, h2], rfl⟩

set_option maxHeartbeats 400000 in
theorem of_x (n : Int) (w : World) :
    Calls Try.prog 17 #[.int .u64 n] w fun e w' => e = .returned (.agg #[.int .u64 n, .int .u64 n]) ∧ w.alloc (.cells #[.int .u64 n, .int .u64 n] 24) = w' := by
  go_enter Try.func17, Try.ntmps17
  go_wp2
  exact bodyPost_ret (v := .agg #[.int .u64 n, .int .u64 n]) (by simp [results, Try.results17, go_sem]) rfl ⟨rfl, rfl⟩

set_option maxHeartbeats 400000 in
theorem all_x  (w : World) :
    Calls Try.prog 22 #[] w fun e w' => e = .returned (.agg #[.int .u64 0, .int .u64 18446744073709551615]) ∧ w.alloc (.cells #[.int .u64 0, .int .u64 18446744073709551615] 24) = w' := by
  go_enter Try.func22, Try.ntmps22
  go_wp2
  exact bodyPost_ret (v := .agg #[.int .u64 0, .int .u64 18446744073709551615]) (by simp [results, Try.results22, go_sem]) rfl ⟨rfl, rfl⟩

theorem ex_1 (w : World) : Calls Try.prog 12 #[.int .i64 1, .agg #[.int .u64 1, .int .u64 2], .agg #[.int .u64 10, .int .u64 20]] w fun e w' => e = .returned (.tuple #[.agg #[.int .u64 11, .int .u64 22], .int .i64 0]) ∧ Below w.heap.size w w' := by
  have h := Do_any 1 1 2 10 20 (by decide) (by decide) (by decide) (by decide) w
  rw [show spDo 1 1 2 10 20 = (11, 22) by decide, show spDoE 1 1 2 10 20 = 0 by decide] at h
  exact h

theorem ex_2 (w : World) : Calls Try.prog 12 #[.int .i64 2, .agg #[.int .u64 1, .int .u64 2], .agg #[.int .u64 2, .int .u64 2]] w fun e w' => e = .returned (.tuple #[.agg #[.int .u64 0, .int .u64 18446744073709551615], .int .i64 0]) ∧ Below w.heap.size w w' := by
  have h := Do_any 2 1 2 2 2 (by decide) (by decide) (by decide) (by decide) w
  rw [show spDo 2 1 2 2 2 = (0, 18446744073709551615) by decide, show spDoE 2 1 2 2 2 = 0 by decide] at h
  exact h

theorem ex_5 (w : World) : Calls Try.prog 12 #[.int .i64 5, .agg #[.int .u64 0, .int .u64 100], .agg #[.int .u64 8, .int .u64 8]] w fun e w' => e = .returned (.tuple #[.agg #[.int .u64 0, .int .u64 7], .int .i64 0]) ∧ Below w.heap.size w w' := by
  have h := Do_any 5 0 100 8 8 (by decide) (by decide) (by decide) (by decide) w
  rw [show spDo 5 0 100 8 8 = (0, 7) by decide, show spDoE 5 0 100 8 8 = 0 by decide] at h
  exact h

theorem ex_7 (w : World) : Calls Try.prog 12 #[.int .i64 7, .agg #[.int .u64 1, .int .u64 4], .agg #[.int .u64 0, .int .u64 3]] w fun e w' => e = .returned (.tuple #[.agg #[.int .u64 1, .int .u64 7], .int .i64 0]) ∧ Below w.heap.size w w' := by
  have h := Do_any 7 1 4 0 3 (by decide) (by decide) (by decide) (by decide) w
  rw [show spDo 7 1 4 0 3 = (1, 7) by decide, show spDoE 7 1 4 0 3 = 0 by decide] at h
  exact h

set_option maxHeartbeats 4000000 in
theorem shown_any (w : World) : Calls Try.prog 11 #[] w fun e w' => e = .returned (.bool true) ∧ Below w.heap.size w w' := by
  have he := eqSpan
  go_enter Try.func11, Try.ntmps11
  go_wp2_with (first | (go_at_call 12; ((with_reducible refine (ex_1 _).mono ?_); rintro e w1 ⟨rfl, hb⟩); have HB : Below w.heap.size w w1 := below_then (by (repeat (first | exact HB | exact Below.refl _ _ | apply below_drew | apply below_draws | refine below_set ?_ (by (try dsimp only); omega) _ | apply below_alloc))) hb; obtain ⟨hc, hf⟩ := bcell hb; have hz := hb.size; (try simp at hz); clear hb hz hc hf) | (go_at_call 12; ((with_reducible refine (ex_2 _).mono ?_); rintro e w2 ⟨rfl, hb⟩); have HB : Below w.heap.size w w2 := below_then (by (repeat (first | exact HB | exact Below.refl _ _ | apply below_drew | apply below_draws | refine below_set ?_ (by (try dsimp only); omega) _ | apply below_alloc))) hb; obtain ⟨hc, hf⟩ := bcell hb; have hz := hb.size; (try simp at hz); (have z2_0 : w1.heap.size < w2.heap.size := by omega); have c2_0 : ∀ o, w2.cell? ⟨w1.heap.size, o, none⟩ = _ := fun o => hc _ o (by first | (simp; done) | (simp; omega) | omega); have g2_0 : ∀ o, w2.frozen? ⟨w1.heap.size, o, none⟩ = _ := fun o => hf _ o (by first | (simp; done) | (simp; omega) | omega); clear hb hz hc hf) | (go_at_call 12; ((with_reducible refine (ex_5 _).mono ?_); rintro e w3 ⟨rfl, hb⟩); have HB : Below w.heap.size w w3 := below_then (by (repeat (first | exact HB | exact Below.refl _ _ | apply below_drew | apply below_draws | refine below_set ?_ (by (try dsimp only); omega) _ | apply below_alloc))) hb; obtain ⟨hc, hf⟩ := bcell hb; have hz := hb.size; (try simp at hz); (have z3_0 : w1.heap.size < w3.heap.size := by omega); have c3_0 : ∀ o, w3.cell? ⟨w1.heap.size, o, none⟩ = _ := fun o => hc _ o (by first | (simp; done) | (simp; omega) | omega); have g3_0 : ∀ o, w3.frozen? ⟨w1.heap.size, o, none⟩ = _ := fun o => hf _ o (by first | (simp; done) | (simp; omega) | omega); (have z3_1 : w2.heap.size < w3.heap.size := by omega); have c3_1 : ∀ o, w3.cell? ⟨w2.heap.size, o, none⟩ = _ := fun o => hc _ o (by first | (simp; done) | (simp; omega) | omega); have g3_1 : ∀ o, w3.frozen? ⟨w2.heap.size, o, none⟩ = _ := fun o => hf _ o (by first | (simp; done) | (simp; omega) | omega); clear hb hz hc hf) | (go_at_call 12; ((with_reducible refine (ex_7 _).mono ?_); rintro e w4 ⟨rfl, hb⟩); have HB : Below w.heap.size w w4 := below_then (by (repeat (first | exact HB | exact Below.refl _ _ | apply below_drew | apply below_draws | refine below_set ?_ (by (try dsimp only); omega) _ | apply below_alloc))) hb; obtain ⟨hc, hf⟩ := bcell hb; have hz := hb.size; (try simp at hz); (have z4_0 : w1.heap.size < w4.heap.size := by omega); have c4_0 : ∀ o, w4.cell? ⟨w1.heap.size, o, none⟩ = _ := fun o => hc _ o (by first | (simp; done) | (simp; omega) | omega); have g4_0 : ∀ o, w4.frozen? ⟨w1.heap.size, o, none⟩ = _ := fun o => hf _ o (by first | (simp; done) | (simp; omega) | omega); (have z4_1 : w2.heap.size < w4.heap.size := by omega); have c4_1 : ∀ o, w4.cell? ⟨w2.heap.size, o, none⟩ = _ := fun o => hc _ o (by first | (simp; done) | (simp; omega) | omega); have g4_1 : ∀ o, w4.frozen? ⟨w2.heap.size, o, none⟩ = _ := fun o => hf _ o (by first | (simp; done) | (simp; omega) | omega); (have z4_2 : w3.heap.size < w4.heap.size := by omega); have c4_2 : ∀ o, w4.cell? ⟨w3.heap.size, o, none⟩ = _ := fun o => hc _ o (by first | (simp; done) | (simp; omega) | omega); have g4_2 : ∀ o, w4.frozen? ⟨w3.heap.size, o, none⟩ = _ := fun o => hf _ o (by first | (simp; done) | (simp; omega) | omega); clear hb hz hc hf) | (go_at_call 17; ((with_reducible refine (of_x _ _).mono ?_); rintro e w' ⟨rfl, rfl⟩)))
  go_region_held3 (fun w' => w'.cell? ⟨w1.heap.size, 0, none⟩ = some (.int .u64 11) ∧ w'.cell? ⟨w1.heap.size, 1, none⟩ = some (.int .u64 22) ∧ w'.cell? ⟨w2.heap.size, 0, none⟩ = some (.int .u64 0) ∧ w'.cell? ⟨w2.heap.size, 1, none⟩ = some (.int .u64 18446744073709551615) ∧ w'.cell? ⟨w3.heap.size, 0, none⟩ = some (.int .u64 0) ∧ w'.cell? ⟨w3.heap.size, 1, none⟩ = some (.int .u64 7) ∧ w'.cell? ⟨w4.heap.size, 0, none⟩ = some (.int .u64 1) ∧ w'.cell? ⟨w4.heap.size, 1, none⟩ = some (.int .u64 7)) (simp (maxDischargeDepth := 8) [*, World.cell?_alloc_some, World.cell?_setCell_far]) (first | (go_at_call 22; refine (all_x _).mono ?_; rintro e w' ⟨rfl, rfl⟩))
  all_goals
    go_wp2
    go_ret
    exact ⟨by rfl, (by (repeat (first | exact HB | exact Below.refl _ _ | apply below_drew | apply below_draws | refine below_set ?_ (by (try dsimp only); omega) _ | apply below_alloc)))⟩

end Go.Proofs.Ytgaahlnegmcakaa
