
/- The walks of the document's answer of chapter 8 (package turnbuckleref08): Join, Meet. -/
import Derived.Test.YtglfmcgpbenckaaSpanR1
namespace Go.Proofs.Ytglfmcgpbenckaa
open Go.RowKit
set_option linter.unusedVariables false
set_option linter.unusedSimpArgs false

set_option maxHeartbeats 2000000 in
theorem rjoin_no (a b c d : Nat) (h : ¬ (a ≤ b ∧ c ≤ d)) (w : World) :
    Calls Try.prog 32 #[.agg #[.int .u64 a, .int .u64 b], .agg #[.int .u64 c, .int .u64 d]] w fun e w' => e = .returned (.tuple #[.agg #[.int .u64 ((spJoin a b c d).1 : Nat), .int .u64 ((spJoin a b c d).2 : Nat)], .int .i64 (spJoinE a b c d)]) ∧ Below w.heap.size w w' := by
  have e1 : spJoin a b c d = (0, 0) := by unfold spJoin; rw [if_neg h]
  have e2 : spJoinE a b c d = 1 := by unfold spJoinE; rw [if_neg h]
  rw [e1, e2]
  have h' : ¬ a ≤ b ∨ (a ≤ b ∧ ¬ c ≤ d) := by omega
  clear h e1 e2
  rcases h' with h1 | ⟨h1, h2⟩
  all_goals
    go_enter Try.func32, Try.ntmps32
    go_wp2_with (first | (go_at_call 34; ((with_reducible refine (rmay_any _ _ _).mono ?_); rintro e w1 ⟨rfl, hb⟩); have HB : Below w.heap.size w w1 := below_then (by (repeat (first | exact HB | exact Below.refl _ _ | apply below_drew | apply below_draws | refine below_set ?_ (by (try dsimp only); omega) _ | apply below_alloc))) hb; obtain ⟨hc, hf⟩ := bcell hb; have hz := hb.size; (try simp at hz); (first | (obtain ⟨y0, y1, y2, y3, y4, y5, y6, y7, y8, y9, y10, y11, _⟩ := up12 hz) | (obtain ⟨y0, y1, y2, y3, y4, y5, y6, y7, y8, y9, y10, _⟩ := up11 hz) | (obtain ⟨y0, y1, y2, y3, y4, y5, y6, y7, y8, y9, _⟩ := up10 hz) | (obtain ⟨y0, y1, y2, y3, y4, y5, y6, y7, y8, _⟩ := up9 hz) | (obtain ⟨y0, y1, y2, y3, y4, y5, y6, y7, _⟩ := up8 hz) | (obtain ⟨y0, y1, y2, y3, y4, y5, y6, _⟩ := up7 hz) | (obtain ⟨y0, y1, y2, y3, y4, y5, _⟩ := up6 hz) | (obtain ⟨y0, y1, y2, y3, y4, _⟩ := up5 hz) | (obtain ⟨y0, y1, y2, y3, _⟩ := up4 hz) | (obtain ⟨y0, y1, y2, _⟩ := up3 hz) | (obtain ⟨y0, y1, _⟩ := up2 hz) | (obtain ⟨y0, _⟩ := up1 hz) | skip); (try (have z0 : w.heap.size < w1.heap.size := by omega)); (try (have z1 : w.heap.size + 1 < w1.heap.size := by omega)); (try (have z2 : w.heap.size + 1 + 1 < w1.heap.size := by omega)); (try (have c0 : ∀ o, w1.cell? ⟨w.heap.size, o, none⟩ = _ := fun o => hc _ o (by first | (simp; done) | (simp; omega) | omega))); (try (have g0 : ∀ o, w1.frozen? ⟨w.heap.size, o, none⟩ = _ := fun o => hf _ o (by first | (simp; done) | (simp; omega) | omega))); (try (have c1 : ∀ o, w1.cell? ⟨w.heap.size + 1, o, none⟩ = _ := fun o => hc _ o (by first | (simp; done) | (simp; omega) | omega))); (try (have g1 : ∀ o, w1.frozen? ⟨w.heap.size + 1, o, none⟩ = _ := fun o => hf _ o (by first | (simp; done) | (simp; omega) | omega))); (try (have c2 : ∀ o, w1.cell? ⟨w.heap.size + 1 + 1, o, none⟩ = _ := fun o => hc _ o (by first | (simp; done) | (simp; omega) | omega))); (try (have g2 : ∀ o, w1.frozen? ⟨w.heap.size + 1 + 1, o, none⟩ = _ := fun o => hf _ o (by first | (simp; done) | (simp; omega) | omega))); clear hb hz))
    exact bodyPost_ret (v := .tuple #[.agg #[.int .u64 0, .int .u64 0], .int .i64 1]) (by simp [results, Try.results32, go_sem, *]) rfl ⟨rfl, (by (repeat (first | exact HB | exact Below.refl _ _ | apply below_drew | apply below_draws | refine below_set ?_ (by (try dsimp only); omega) _ | apply below_alloc)))⟩

set_option maxHeartbeats 2000000 in
theorem rjoin_yes (a b c d : Nat) (h1 : a ≤ b) (h2 : c ≤ d) (w : World) :
    Calls Try.prog 32 #[.agg #[.int .u64 a, .int .u64 b], .agg #[.int .u64 c, .int .u64 d]] w fun e w' => e = .returned (.tuple #[.agg #[.int .u64 ((spJoin a b c d).1 : Nat), .int .u64 ((spJoin a b c d).2 : Nat)], .int .i64 (spJoinE a b c d)]) ∧ Below w.heap.size w w' := by
  have e1 : spJoin a b c d = (min a c, max b d) := by unfold spJoin; rw [if_pos ⟨h1, h2⟩]
  have e2 : spJoinE a b c d = 0 := by unfold spJoinE; rw [if_pos ⟨h1, h2⟩]
  rw [e1, e2]
  obtain ⟨lo, elo⟩ : ∃ lo, min a c = lo := ⟨_, rfl⟩
  obtain ⟨hi, ehi⟩ : ∃ hi, max b d = hi := ⟨_, rfl⟩
  have C1 := less_any a c
  have C2 := more_any b d
  rw [elo] at C1 ⊢
  rw [ehi] at C2 ⊢
  clear e1 e2 elo ehi
  have n0_2 : ¬ w.heap.size = w.heap.size + 1 + 1 := by omega
  have n2_0 : ¬ w.heap.size + 1 + 1 = w.heap.size := by omega
  go_enter Try.func32, Try.ntmps32
  go_wp2_with (first | (go_at_call 34; ((with_reducible refine (rmay_any _ _ _).mono ?_); rintro e w1 ⟨rfl, hb⟩); have HB : Below w.heap.size w w1 := below_then (by (repeat (first | exact HB | exact Below.refl _ _ | apply below_drew | apply below_draws | refine below_set ?_ (by (try dsimp only); omega) _ | apply below_alloc))) hb; obtain ⟨hc, hf⟩ := bcell hb; have hz := hb.size; (try simp at hz); (first | (obtain ⟨y0, y1, y2, y3, y4, y5, y6, y7, y8, y9, y10, y11, _⟩ := up12 hz) | (obtain ⟨y0, y1, y2, y3, y4, y5, y6, y7, y8, y9, y10, _⟩ := up11 hz) | (obtain ⟨y0, y1, y2, y3, y4, y5, y6, y7, y8, y9, _⟩ := up10 hz) | (obtain ⟨y0, y1, y2, y3, y4, y5, y6, y7, y8, _⟩ := up9 hz) | (obtain ⟨y0, y1, y2, y3, y4, y5, y6, y7, _⟩ := up8 hz) | (obtain ⟨y0, y1, y2, y3, y4, y5, y6, _⟩ := up7 hz) | (obtain ⟨y0, y1, y2, y3, y4, y5, _⟩ := up6 hz) | (obtain ⟨y0, y1, y2, y3, y4, _⟩ := up5 hz) | (obtain ⟨y0, y1, y2, y3, _⟩ := up4 hz) | (obtain ⟨y0, y1, y2, _⟩ := up3 hz) | (obtain ⟨y0, y1, _⟩ := up2 hz) | (obtain ⟨y0, _⟩ := up1 hz) | skip); (try (have z0 : w.heap.size < w1.heap.size := by omega)); (try (have z1 : w.heap.size + 1 < w1.heap.size := by omega)); (try (have z2 : w.heap.size + 1 + 1 < w1.heap.size := by omega)); (try (have c0 : ∀ o, w1.cell? ⟨w.heap.size, o, none⟩ = _ := fun o => hc _ o (by first | (simp; done) | (simp; omega) | omega))); (try (have g0 : ∀ o, w1.frozen? ⟨w.heap.size, o, none⟩ = _ := fun o => hf _ o (by first | (simp; done) | (simp; omega) | omega))); (try (have c1 : ∀ o, w1.cell? ⟨w.heap.size + 1, o, none⟩ = _ := fun o => hc _ o (by first | (simp; done) | (simp; omega) | omega))); (try (have g1 : ∀ o, w1.frozen? ⟨w.heap.size + 1, o, none⟩ = _ := fun o => hf _ o (by first | (simp; done) | (simp; omega) | omega))); (try (have c2 : ∀ o, w1.cell? ⟨w.heap.size + 1 + 1, o, none⟩ = _ := fun o => hc _ o (by first | (simp; done) | (simp; omega) | omega))); (try (have g2 : ∀ o, w1.frozen? ⟨w.heap.size + 1 + 1, o, none⟩ = _ := fun o => hf _ o (by first | (simp; done) | (simp; omega) | omega))); clear hb hz))
  go_region_held3 (fun w' => w'.cell? ⟨w.heap.size, 0, none⟩ = some (.int .u64 a) ∧ w'.cell? ⟨w.heap.size, 1, none⟩ = some (.int .u64 b) ∧ w'.cell? ⟨w.heap.size + 1, 0, none⟩ = some (.int .u64 c) ∧ w'.cell? ⟨w.heap.size + 1, 1, none⟩ = some (.int .u64 d)) (go_keep) (first | (go_at_call 36; refine (C1 _).mono ?_; rintro e w' ⟨rfl, rfl⟩) | (go_at_call 37; refine (C2 _).mono ?_; rintro e w' ⟨rfl, rfl⟩) | (go_at_call 35; refine (to_any _ _ _).mono ?_; rintro e w' ⟨rfl, rfl⟩))
  all_goals
    go_wp2
    exact bodyPost_ret (v := .tuple #[.agg #[.int .u64 (lo : Nat), .int .u64 (hi : Nat)], .int .i64 0]) (by simp [results, Try.results32, go_sem, *]) rfl ⟨rfl, (by (repeat (first | exact HB | exact Below.refl _ _ | apply below_drew | apply below_draws | refine below_set ?_ (by (try dsimp only); omega) _ | apply below_alloc)))⟩

set_option maxHeartbeats 2000000 in
theorem rjoin_any (a b c d : Nat)  (w : World) :
    Calls Try.prog 32 #[.agg #[.int .u64 a, .int .u64 b], .agg #[.int .u64 c, .int .u64 d]] w fun e w' => e = .returned (.tuple #[.agg #[.int .u64 ((spJoin a b c d).1 : Nat), .int .u64 ((spJoin a b c d).2 : Nat)], .int .i64 (spJoinE a b c d)]) ∧ Below w.heap.size w w' := by
  by_cases h : a ≤ b ∧ c ≤ d
  · exact rjoin_yes a b c d h.1 h.2 w
  · exact rjoin_no a b c d h w

end Go.Proofs.Ytglfmcgpbenckaa
