
/- The examples at the head of chapter 9's statements. -/
import Derived.Test.YthhohiafhjhjhaaBranchW3
import Derived.Test.YthhohiafhjhjhaaBranchR1
namespace Go.Proofs.Ythhohiafhjhjhaa
open Go.RowKit
set_option linter.unusedVariables false
set_option linter.unusedSimpArgs false

theorem of_xx (n : Int) (w : World) :
    Calls Try.prog 16 #[.int .u64 n] w fun e w' => e = .returned (.agg #[.int .u64 n, .int .u64 n]) ∧ w.alloc (.cells #[.int .u64 n, .int .u64 n] 24) = w' := by
  go_enter Try.func16, Try.ntmps16
  go_wp2
  exact bodyPost_ret (v := .agg #[.int .u64 n, .int .u64 n]) (by simp [results, Try.results16, go_sem]) rfl ⟨rfl, rfl⟩

theorem ex_1 (w : World) : Calls Try.prog 10 #[.int .i64 3, .agg #[.int .u64 0, .int .u64 100], .agg #[.int .u64 8, .int .u64 8], .bool true] w fun e w' => e = .returned (.tuple #[.agg #[.int .u64 0, .int .u64 7], .agg #[.int .u64 8, .int .u64 8], .bool true, .int .i64 0]) ∧ Below w.heap.size w w' := by
  have h := refine_any 3 0 100 8 8 true (by decide) (by decide) (by decide) (by decide) ⟨0, 7, 8, 8, true⟩ (by rfl) w
  rw [show brE 3 0 100 8 8 = 0 by decide] at h
  exact h

theorem ex_2 (w : World) : Calls Try.prog 10 #[.int .i64 3, .agg #[.int .u64 0, .int .u64 100], .agg #[.int .u64 8, .int .u64 8], .bool false] w fun e w' => e = .returned (.tuple #[.agg #[.int .u64 8, .int .u64 100], .agg #[.int .u64 8, .int .u64 8], .bool true, .int .i64 0]) ∧ Below w.heap.size w w' := by
  have h := refine_any 3 0 100 8 8 false (by decide) (by decide) (by decide) (by decide) ⟨8, 100, 8, 8, true⟩ (by rfl) w
  rw [show brE 3 0 100 8 8 = 0 by decide] at h
  exact h

theorem ex_3 (w : World) : Calls Try.prog 10 #[.int .i64 2, .agg #[.int .u64 0, .int .u64 9], .agg #[.int .u64 0, .int .u64 0], .bool true] w fun e w' => e = .returned (.tuple #[.agg #[.int .u64 1, .int .u64 9], .agg #[.int .u64 0, .int .u64 0], .bool true, .int .i64 0]) ∧ Below w.heap.size w w' := by
  have h := refine_any 2 0 9 0 0 true (by decide) (by decide) (by decide) (by decide) ⟨1, 9, 0, 0, true⟩ (by rfl) w
  rw [show brE 2 0 9 0 0 = 0 by decide] at h
  exact h

theorem ex_4 (w : World) : Calls Try.prog 10 #[.int .i64 1, .agg #[.int .u64 1, .int .u64 2], .agg #[.int .u64 3, .int .u64 4], .bool true] w fun e w' => e = .returned (.tuple #[.agg #[.int .u64 0, .int .u64 0], .agg #[.int .u64 0, .int .u64 0], .bool false, .int .i64 0]) ∧ Below w.heap.size w w' := by
  have h := refine_any 1 1 2 3 4 true (by decide) (by decide) (by decide) (by decide) ⟨0, 0, 0, 0, false⟩ (by rfl) w
  rw [show brE 1 1 2 3 4 = 0 by decide] at h
  exact h

set_option maxHeartbeats 4000000 in
theorem shown_any (w : World) : Calls Try.prog 9 #[] w fun e w' => e = .returned (.bool true) ∧ Below w.heap.size w w' := by
  have he := eqSpan
  have nn1 : ∀ n : Nat, ¬ n = n + 1 + 1 := fun n => by omega
  have nn2 : ∀ n : Nat, ¬ n + 1 + 1 = n := fun n => by omega
  have nn3 : ∀ n : Nat, ¬ n = n + 1 + 1 + 1 := fun n => by omega
  have nn4 : ∀ n : Nat, ¬ n + 1 + 1 + 1 = n := fun n => by omega
  have nn5 : ∀ n : Nat, ¬ n + 1 = n + 1 + 1 + 1 := fun n => by omega
  have nn6 : ∀ n : Nat, ¬ n + 1 + 1 + 1 = n + 1 := fun n => by omega
  have nn7 : ∀ a b : Nat, a < b → ¬ a = b + 1 + 1 := fun a b h => by omega
  have nn8 : ∀ a b : Nat, a < b → ¬ a = b + 1 := fun a b h => by omega
  have nn9 : ∀ a b : Nat, a < b → ¬ a = b := fun a b h => by omega
  have nn10 : ∀ a b : Nat, a < b → a ≤ b := fun a b h => by omega
  have nn11 : ∀ a b : Nat, a < b → a ≤ b + 1 := fun a b h => by omega
  have nn12 : ∀ a b : Nat, a < b → a < b + 1 + 1 := fun a b h => by omega
  have nn13 : ∀ a b : Nat, a < b → a < b + 1 := fun a b h => by omega
  go_enter Try.func9, Try.ntmps9
  go_upto_region 5 with (first | (go_at_call 10; ((with_reducible refine (ex_1 _).mono ?_); rintro e w1 ⟨rfl, hb⟩); have HB : Below w.heap.size w w1 := below_then (by (repeat (first | exact HB | exact Below.refl _ _ | apply below_drew | apply below_draws | refine below_set ?_ (by (try dsimp only); omega) _ | apply below_alloc))) hb; obtain ⟨hc, hf⟩ := bcell hb; have hz := hb.size; (try simp at hz); clear hb hz hc hf) | (go_at_call 10; ((with_reducible refine (ex_2 _).mono ?_); rintro e w2 ⟨rfl, hb⟩); have HB : Below w.heap.size w w2 := below_then (by (repeat (first | exact HB | exact Below.refl _ _ | apply below_drew | apply below_draws | refine below_set ?_ (by (try dsimp only); omega) _ | apply below_alloc))) hb; obtain ⟨hc, hf⟩ := bcell hb; have hz := hb.size; (try simp at hz); (have z2_0 : w1.heap.size < w2.heap.size := by omega); have c2_0 : ∀ o, w2.cell? ⟨w1.heap.size, o, none⟩ = _ := fun o => hc _ o (by first | (simp; done) | (simp; omega) | omega); have g2_0 : ∀ o, w2.frozen? ⟨w1.heap.size, o, none⟩ = _ := fun o => hf _ o (by first | (simp; done) | (simp; omega) | omega); (have z2_1 : w1.heap.size + 1 < w2.heap.size := by omega); have c2_1 : ∀ o, w2.cell? ⟨w1.heap.size + 1, o, none⟩ = _ := fun o => hc _ o (by first | (simp; done) | (simp; omega) | omega); have g2_1 : ∀ o, w2.frozen? ⟨w1.heap.size + 1, o, none⟩ = _ := fun o => hf _ o (by first | (simp; done) | (simp; omega) | omega); clear hb hz hc hf) | (go_at_call 10; ((with_reducible refine (ex_3 _).mono ?_); rintro e w3 ⟨rfl, hb⟩); have HB : Below w.heap.size w w3 := below_then (by (repeat (first | exact HB | exact Below.refl _ _ | apply below_drew | apply below_draws | refine below_set ?_ (by (try dsimp only); omega) _ | apply below_alloc))) hb; obtain ⟨hc, hf⟩ := bcell hb; have hz := hb.size; (try simp at hz); (have z3_0 : w1.heap.size < w3.heap.size := by omega); have c3_0 : ∀ o, w3.cell? ⟨w1.heap.size, o, none⟩ = _ := fun o => hc _ o (by first | (simp; done) | (simp; omega) | omega); have g3_0 : ∀ o, w3.frozen? ⟨w1.heap.size, o, none⟩ = _ := fun o => hf _ o (by first | (simp; done) | (simp; omega) | omega); (have z3_1 : w1.heap.size + 1 < w3.heap.size := by omega); have c3_1 : ∀ o, w3.cell? ⟨w1.heap.size + 1, o, none⟩ = _ := fun o => hc _ o (by first | (simp; done) | (simp; omega) | omega); have g3_1 : ∀ o, w3.frozen? ⟨w1.heap.size + 1, o, none⟩ = _ := fun o => hf _ o (by first | (simp; done) | (simp; omega) | omega); (have z3_2 : w2.heap.size < w3.heap.size := by omega); have c3_2 : ∀ o, w3.cell? ⟨w2.heap.size, o, none⟩ = _ := fun o => hc _ o (by first | (simp; done) | (simp; omega) | omega); have g3_2 : ∀ o, w3.frozen? ⟨w2.heap.size, o, none⟩ = _ := fun o => hf _ o (by first | (simp; done) | (simp; omega) | omega); (have z3_3 : w2.heap.size + 1 < w3.heap.size := by omega); have c3_3 : ∀ o, w3.cell? ⟨w2.heap.size + 1, o, none⟩ = _ := fun o => hc _ o (by first | (simp; done) | (simp; omega) | omega); have g3_3 : ∀ o, w3.frozen? ⟨w2.heap.size + 1, o, none⟩ = _ := fun o => hf _ o (by first | (simp; done) | (simp; omega) | omega); clear hb hz hc hf) | (go_at_call 10; ((with_reducible refine (ex_4 _).mono ?_); rintro e w4 ⟨rfl, hb⟩); have HB : Below w.heap.size w w4 := below_then (by (repeat (first | exact HB | exact Below.refl _ _ | apply below_drew | apply below_draws | refine below_set ?_ (by (try dsimp only); omega) _ | apply below_alloc))) hb; obtain ⟨hc, hf⟩ := bcell hb; have hz := hb.size; (try simp at hz); (have z4_0 : w1.heap.size < w4.heap.size := by omega); have c4_0 : ∀ o, w4.cell? ⟨w1.heap.size, o, none⟩ = _ := fun o => hc _ o (by first | (simp; done) | (simp; omega) | omega); have g4_0 : ∀ o, w4.frozen? ⟨w1.heap.size, o, none⟩ = _ := fun o => hf _ o (by first | (simp; done) | (simp; omega) | omega); (have z4_1 : w1.heap.size + 1 < w4.heap.size := by omega); have c4_1 : ∀ o, w4.cell? ⟨w1.heap.size + 1, o, none⟩ = _ := fun o => hc _ o (by first | (simp; done) | (simp; omega) | omega); have g4_1 : ∀ o, w4.frozen? ⟨w1.heap.size + 1, o, none⟩ = _ := fun o => hf _ o (by first | (simp; done) | (simp; omega) | omega); (have z4_2 : w2.heap.size < w4.heap.size := by omega); have c4_2 : ∀ o, w4.cell? ⟨w2.heap.size, o, none⟩ = _ := fun o => hc _ o (by first | (simp; done) | (simp; omega) | omega); have g4_2 : ∀ o, w4.frozen? ⟨w2.heap.size, o, none⟩ = _ := fun o => hf _ o (by first | (simp; done) | (simp; omega) | omega); (have z4_3 : w2.heap.size + 1 < w4.heap.size := by omega); have c4_3 : ∀ o, w4.cell? ⟨w2.heap.size + 1, o, none⟩ = _ := fun o => hc _ o (by first | (simp; done) | (simp; omega) | omega); have g4_3 : ∀ o, w4.frozen? ⟨w2.heap.size + 1, o, none⟩ = _ := fun o => hf _ o (by first | (simp; done) | (simp; omega) | omega); (have z4_4 : w3.heap.size < w4.heap.size := by omega); have c4_4 : ∀ o, w4.cell? ⟨w3.heap.size, o, none⟩ = _ := fun o => hc _ o (by first | (simp; done) | (simp; omega) | omega); have g4_4 : ∀ o, w4.frozen? ⟨w3.heap.size, o, none⟩ = _ := fun o => hf _ o (by first | (simp; done) | (simp; omega) | omega); (have z4_5 : w3.heap.size + 1 < w4.heap.size := by omega); have c4_5 : ∀ o, w4.cell? ⟨w3.heap.size + 1, o, none⟩ = _ := fun o => hc _ o (by first | (simp; done) | (simp; omega) | omega); have g4_5 : ∀ o, w4.frozen? ⟨w3.heap.size + 1, o, none⟩ = _ := fun o => hf _ o (by first | (simp; done) | (simp; omega) | omega); clear hb hz hc hf) | (go_at_call 16; ((with_reducible refine (of_xx _ _).mono ?_); rintro e w' ⟨rfl, rfl⟩)))
  refine named (P := fun W => Code.wp _ _ _ _ W) (fun W => Two W (w1.heap.size) (.int .u64 0) (.int .u64 7) ∧ Two W (w1.heap.size + 1) (.int .u64 8) (.int .u64 8) ∧ Two W (w2.heap.size) (.int .u64 8) (.int .u64 100) ∧ Two W (w3.heap.size) (.int .u64 1) (.int .u64 9) ∧ w1.heap.size < W.heap.size ∧ w1.heap.size + 1 < W.heap.size ∧ w2.heap.size < W.heap.size ∧ w3.heap.size < W.heap.size ∧ Below w.heap.size w W) ⟨⟨(by first | assumption | (go_simp; done) | (simp (maxDischargeDepth := 16) [*]; done)), (by first | assumption | (go_simp; done) | (simp (maxDischargeDepth := 16) [*]; done))⟩, ⟨(by first | assumption | (go_simp; done) | (simp (maxDischargeDepth := 16) [*]; done)), (by first | assumption | (go_simp; done) | (simp (maxDischargeDepth := 16) [*]; done))⟩, ⟨(by first | assumption | (go_simp; done) | (simp (maxDischargeDepth := 16) [*]; done)), (by first | assumption | (go_simp; done) | (simp (maxDischargeDepth := 16) [*]; done))⟩, ⟨(by first | assumption | (go_simp; done) | (simp (maxDischargeDepth := 16) [*]; done)), (by first | assumption | (go_simp; done) | (simp (maxDischargeDepth := 16) [*]; done))⟩, (by first | omega | (simp; done) | (simp; omega)), (by first | omega | (simp; done) | (simp; omega)), (by first | omega | (simp; done) | (simp; omega)), (by first | omega | (simp; done) | (simp; omega)), (by (repeat (first | exact HB | exact Below.refl _ _ | apply below_drew | apply below_draws | refine below_set ?_ (by (try dsimp only); omega) _ | apply below_alloc)))⟩ ?_
  rintro W ⟨⟨o00, o01⟩, ⟨o10, o11⟩, ⟨o20, o21⟩, ⟨o30, o31⟩, y0, y1, y2, y3, HB⟩
  go_region_held3 (fun w' => w'.cell? ⟨w1.heap.size, 0, none⟩ = some (.int .u64 0) ∧ w'.cell? ⟨w1.heap.size, 1, none⟩ = some (.int .u64 7) ∧ w'.cell? ⟨w1.heap.size + 1, 0, none⟩ = some (.int .u64 8) ∧ w'.cell? ⟨w1.heap.size + 1, 1, none⟩ = some (.int .u64 8) ∧ w'.cell? ⟨w2.heap.size, 0, none⟩ = some (.int .u64 8) ∧ w'.cell? ⟨w2.heap.size, 1, none⟩ = some (.int .u64 100) ∧ w'.cell? ⟨w3.heap.size, 0, none⟩ = some (.int .u64 1) ∧ w'.cell? ⟨w3.heap.size, 1, none⟩ = some (.int .u64 9)) (simp (maxDischargeDepth := 16) [*, World.cell?_alloc_some, World.cell?_setCell_far]) (first | (go_at_call 16; refine (of_xx _ _).mono ?_; rintro e w' ⟨rfl, rfl⟩))
  all_goals
    go_wp2
    go_ret
    exact ⟨by rfl, (by (repeat (first | exact HB | exact Below.refl _ _ | apply below_drew | apply below_draws | refine below_set ?_ (by (try dsimp only); omega) _ | apply below_alloc)))⟩

end Go.Proofs.Ythhohiafhjhjhaa
