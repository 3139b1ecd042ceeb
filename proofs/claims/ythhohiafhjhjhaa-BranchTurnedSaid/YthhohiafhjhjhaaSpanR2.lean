
/- The walks of the document's answer of chapter 8 (package turnbuckleref08): Join, Meet. -/
import Derived.Test.YthhohiafhjhjhaaSpanR1
namespace Go.Proofs.Ythhohiafhjhjhaa
open Go.RowKit
set_option linter.unusedVariables false
set_option linter.unusedSimpArgs false

set_option maxHeartbeats 2000000 in
theorem rmeet_no (a b c d : Nat) (h : ¬ (a ≤ b ∧ c ≤ d)) (w : World) :
    Calls Try.prog 23 #[.agg #[.int .u64 a, .int .u64 b], .agg #[.int .u64 c, .int .u64 d]] w fun e w' => e = .returned (.tuple #[.agg #[.int .u64 ((spMeet a b c d).1 : Nat), .int .u64 ((spMeet a b c d).2 : Nat)], .int .i64 (spMeetE a b c d)]) ∧ Below w.heap.size w w' := by
  have e1 : spMeet a b c d = (0, 0) := by unfold spMeet; rw [if_neg h]
  have e2 : spMeetE a b c d = 1 := by unfold spMeetE; rw [if_neg h]
  rw [e1, e2]
  have h' : ¬ a ≤ b ∨ (a ≤ b ∧ ¬ c ≤ d) := by omega
  clear h e1 e2
  rcases h' with h1 | ⟨h1, h2⟩
  all_goals
    go_enter Try.func23, Try.ntmps23
    go_wp2_with (first | (go_at_call 20; ((with_reducible refine (rmay_any _ _ _).mono ?_); rintro e w1 ⟨rfl, hb⟩); have HB : Below w.heap.size w w1 := below_then (by (repeat (first | exact HB | exact Below.refl _ _ | apply below_drew | apply below_draws | refine below_set ?_ (by (try dsimp only); omega) _ | apply below_alloc))) hb; obtain ⟨hc, hf⟩ := bcell hb; have hz := hb.size; (try simp at hz); (first | (obtain ⟨y0, y1, y2, y3, y4, y5, y6, y7, y8, y9, y10, y11, _⟩ := up12 hz) | (obtain ⟨y0, y1, y2, y3, y4, y5, y6, y7, y8, y9, y10, _⟩ := up11 hz) | (obtain ⟨y0, y1, y2, y3, y4, y5, y6, y7, y8, y9, _⟩ := up10 hz) | (obtain ⟨y0, y1, y2, y3, y4, y5, y6, y7, y8, _⟩ := up9 hz) | (obtain ⟨y0, y1, y2, y3, y4, y5, y6, y7, _⟩ := up8 hz) | (obtain ⟨y0, y1, y2, y3, y4, y5, y6, _⟩ := up7 hz) | (obtain ⟨y0, y1, y2, y3, y4, y5, _⟩ := up6 hz) | (obtain ⟨y0, y1, y2, y3, y4, _⟩ := up5 hz) | (obtain ⟨y0, y1, y2, y3, _⟩ := up4 hz) | (obtain ⟨y0, y1, y2, _⟩ := up3 hz) | (obtain ⟨y0, y1, _⟩ := up2 hz) | (obtain ⟨y0, _⟩ := up1 hz) | skip); (try (have z0 : w.heap.size < w1.heap.size := by omega)); (try (have z1 : w.heap.size + 1 < w1.heap.size := by omega)); (try (have z2 : w.heap.size + 1 + 1 < w1.heap.size := by omega)); (try (have c0 : ∀ o, w1.cell? ⟨w.heap.size, o, none⟩ = _ := fun o => hc _ o (by first | (simp; done) | (simp; omega) | omega))); (try (have g0 : ∀ o, w1.frozen? ⟨w.heap.size, o, none⟩ = _ := fun o => hf _ o (by first | (simp; done) | (simp; omega) | omega))); (try (have c1 : ∀ o, w1.cell? ⟨w.heap.size + 1, o, none⟩ = _ := fun o => hc _ o (by first | (simp; done) | (simp; omega) | omega))); (try (have g1 : ∀ o, w1.frozen? ⟨w.heap.size + 1, o, none⟩ = _ := fun o => hf _ o (by first | (simp; done) | (simp; omega) | omega))); (try (have c2 : ∀ o, w1.cell? ⟨w.heap.size + 1 + 1, o, none⟩ = _ := fun o => hc _ o (by first | (simp; done) | (simp; omega) | omega))); (try (have g2 : ∀ o, w1.frozen? ⟨w.heap.size + 1 + 1, o, none⟩ = _ := fun o => hf _ o (by first | (simp; done) | (simp; omega) | omega))); clear hb hz))
    exact bodyPost_ret (v := .tuple #[.agg #[.int .u64 0, .int .u64 0], .int .i64 1]) (by simp [results, Try.results23, go_sem, *]) rfl ⟨rfl, (by (repeat (first | exact HB | exact Below.refl _ _ | apply below_drew | apply below_draws | refine below_set ?_ (by (try dsimp only); omega) _ | apply below_alloc)))⟩

set_option maxHeartbeats 2000000 in
theorem rmeet_yes (a b c d : Nat) (h1 : a ≤ b) (h2 : c ≤ d) (h : max a c ≤ min b d) (w : World) :
    Calls Try.prog 23 #[.agg #[.int .u64 a, .int .u64 b], .agg #[.int .u64 c, .int .u64 d]] w fun e w' => e = .returned (.tuple #[.agg #[.int .u64 ((spMeet a b c d).1 : Nat), .int .u64 ((spMeet a b c d).2 : Nat)], .int .i64 (spMeetE a b c d)]) ∧ Below w.heap.size w w' := by
  have e1 : spMeet a b c d = (max a c, min b d) := by unfold spMeet; rw [if_pos ⟨h1, h2⟩, if_pos h]
  have e2 : spMeetE a b c d = 0 := by unfold spMeetE; rw [if_pos ⟨h1, h2⟩, if_pos h]
  rw [e1, e2]
  have h3 : ¬ b < c := by omega
  have h4 : ¬ d < a := by omega
  obtain ⟨lo, elo⟩ : ∃ lo, max a c = lo := ⟨_, rfl⟩
  obtain ⟨hi, ehi⟩ : ∃ hi, min b d = hi := ⟨_, rfl⟩
  have C1 := more_any a c
  have C2 := less_any b d
  rw [elo] at C1 ⊢
  rw [ehi] at C2 ⊢
  clear e1 e2 elo ehi h
  have n0_2 : ¬ w.heap.size = w.heap.size + 1 + 1 := by omega
  have n2_0 : ¬ w.heap.size + 1 + 1 = w.heap.size := by omega
  go_enter Try.func23, Try.ntmps23
  go_wp2_with (first | (go_at_call 20; ((with_reducible refine (rmay_any _ _ _).mono ?_); rintro e w1 ⟨rfl, hb⟩); have HB : Below w.heap.size w w1 := below_then (by (repeat (first | exact HB | exact Below.refl _ _ | apply below_drew | apply below_draws | refine below_set ?_ (by (try dsimp only); omega) _ | apply below_alloc))) hb; obtain ⟨hc, hf⟩ := bcell hb; have hz := hb.size; (try simp at hz); (first | (obtain ⟨y0, y1, y2, y3, y4, y5, y6, y7, y8, y9, y10, y11, _⟩ := up12 hz) | (obtain ⟨y0, y1, y2, y3, y4, y5, y6, y7, y8, y9, y10, _⟩ := up11 hz) | (obtain ⟨y0, y1, y2, y3, y4, y5, y6, y7, y8, y9, _⟩ := up10 hz) | (obtain ⟨y0, y1, y2, y3, y4, y5, y6, y7, y8, _⟩ := up9 hz) | (obtain ⟨y0, y1, y2, y3, y4, y5, y6, y7, _⟩ := up8 hz) | (obtain ⟨y0, y1, y2, y3, y4, y5, y6, _⟩ := up7 hz) | (obtain ⟨y0, y1, y2, y3, y4, y5, _⟩ := up6 hz) | (obtain ⟨y0, y1, y2, y3, y4, _⟩ := up5 hz) | (obtain ⟨y0, y1, y2, y3, _⟩ := up4 hz) | (obtain ⟨y0, y1, y2, _⟩ := up3 hz) | (obtain ⟨y0, y1, _⟩ := up2 hz) | (obtain ⟨y0, _⟩ := up1 hz) | skip); (try (have z0 : w.heap.size < w1.heap.size := by omega)); (try (have z1 : w.heap.size + 1 < w1.heap.size := by omega)); (try (have z2 : w.heap.size + 1 + 1 < w1.heap.size := by omega)); (try (have c0 : ∀ o, w1.cell? ⟨w.heap.size, o, none⟩ = _ := fun o => hc _ o (by first | (simp; done) | (simp; omega) | omega))); (try (have g0 : ∀ o, w1.frozen? ⟨w.heap.size, o, none⟩ = _ := fun o => hf _ o (by first | (simp; done) | (simp; omega) | omega))); (try (have c1 : ∀ o, w1.cell? ⟨w.heap.size + 1, o, none⟩ = _ := fun o => hc _ o (by first | (simp; done) | (simp; omega) | omega))); (try (have g1 : ∀ o, w1.frozen? ⟨w.heap.size + 1, o, none⟩ = _ := fun o => hf _ o (by first | (simp; done) | (simp; omega) | omega))); (try (have c2 : ∀ o, w1.cell? ⟨w.heap.size + 1 + 1, o, none⟩ = _ := fun o => hc _ o (by first | (simp; done) | (simp; omega) | omega))); (try (have g2 : ∀ o, w1.frozen? ⟨w.heap.size + 1 + 1, o, none⟩ = _ := fun o => hf _ o (by first | (simp; done) | (simp; omega) | omega))); clear hb hz))
  go_region_held3 (fun w' => w'.cell? ⟨w.heap.size, 0, none⟩ = some (.int .u64 a) ∧ w'.cell? ⟨w.heap.size, 1, none⟩ = some (.int .u64 b) ∧ w'.cell? ⟨w.heap.size + 1, 0, none⟩ = some (.int .u64 c) ∧ w'.cell? ⟨w.heap.size + 1, 1, none⟩ = some (.int .u64 d)) (go_keep) (first | (go_at_call 30; refine (C1 _).mono ?_; rintro e w' ⟨rfl, rfl⟩) | (go_at_call 31; refine (C2 _).mono ?_; rintro e w' ⟨rfl, rfl⟩) | (go_at_call 29; refine (to_any _ _ _).mono ?_; rintro e w' ⟨rfl, rfl⟩))
  all_goals
    go_wp2
    exact bodyPost_ret (v := .tuple #[.agg #[.int .u64 (lo : Nat), .int .u64 (hi : Nat)], .int .i64 0]) (by simp [results, Try.results23, go_sem, *]) rfl ⟨rfl, (by (repeat (first | exact HB | exact Below.refl _ _ | apply below_drew | apply below_draws | refine below_set ?_ (by (try dsimp only); omega) _ | apply below_alloc)))⟩

set_option maxHeartbeats 2000000 in
theorem rmeet_apart (a b c d : Nat) (h1 : a ≤ b) (h2 : c ≤ d) (h : ¬ max a c ≤ min b d) (w : World) :
    Calls Try.prog 23 #[.agg #[.int .u64 a, .int .u64 b], .agg #[.int .u64 c, .int .u64 d]] w fun e w' => e = .returned (.tuple #[.agg #[.int .u64 ((spMeet a b c d).1 : Nat), .int .u64 ((spMeet a b c d).2 : Nat)], .int .i64 (spMeetE a b c d)]) ∧ Below w.heap.size w w' := by
  have e1 : spMeet a b c d = (0, 0) := by unfold spMeet; rw [if_pos ⟨h1, h2⟩, if_neg h]
  have e2 : spMeetE a b c d = 6 := by unfold spMeetE; rw [if_pos ⟨h1, h2⟩, if_neg h]
  rw [e1, e2]
  have h' : b < c ∨ (¬ b < c ∧ d < a) := by omega
  clear h e1 e2
  rcases h' with h3 | ⟨h3, h4⟩
  all_goals
    go_enter Try.func23, Try.ntmps23
    go_wp2_with (first | (go_at_call 20; ((with_reducible refine (rmay_any _ _ _).mono ?_); rintro e w1 ⟨rfl, hb⟩); have HB : Below w.heap.size w w1 := below_then (by (repeat (first | exact HB | exact Below.refl _ _ | apply below_drew | apply below_draws | refine below_set ?_ (by (try dsimp only); omega) _ | apply below_alloc))) hb; obtain ⟨hc, hf⟩ := bcell hb; have hz := hb.size; (try simp at hz); (first | (obtain ⟨y0, y1, y2, y3, y4, y5, y6, y7, y8, y9, y10, y11, _⟩ := up12 hz) | (obtain ⟨y0, y1, y2, y3, y4, y5, y6, y7, y8, y9, y10, _⟩ := up11 hz) | (obtain ⟨y0, y1, y2, y3, y4, y5, y6, y7, y8, y9, _⟩ := up10 hz) | (obtain ⟨y0, y1, y2, y3, y4, y5, y6, y7, y8, _⟩ := up9 hz) | (obtain ⟨y0, y1, y2, y3, y4, y5, y6, y7, _⟩ := up8 hz) | (obtain ⟨y0, y1, y2, y3, y4, y5, y6, _⟩ := up7 hz) | (obtain ⟨y0, y1, y2, y3, y4, y5, _⟩ := up6 hz) | (obtain ⟨y0, y1, y2, y3, y4, _⟩ := up5 hz) | (obtain ⟨y0, y1, y2, y3, _⟩ := up4 hz) | (obtain ⟨y0, y1, y2, _⟩ := up3 hz) | (obtain ⟨y0, y1, _⟩ := up2 hz) | (obtain ⟨y0, _⟩ := up1 hz) | skip); (try (have z0 : w.heap.size < w1.heap.size := by omega)); (try (have z1 : w.heap.size + 1 < w1.heap.size := by omega)); (try (have z2 : w.heap.size + 1 + 1 < w1.heap.size := by omega)); (try (have c0 : ∀ o, w1.cell? ⟨w.heap.size, o, none⟩ = _ := fun o => hc _ o (by first | (simp; done) | (simp; omega) | omega))); (try (have g0 : ∀ o, w1.frozen? ⟨w.heap.size, o, none⟩ = _ := fun o => hf _ o (by first | (simp; done) | (simp; omega) | omega))); (try (have c1 : ∀ o, w1.cell? ⟨w.heap.size + 1, o, none⟩ = _ := fun o => hc _ o (by first | (simp; done) | (simp; omega) | omega))); (try (have g1 : ∀ o, w1.frozen? ⟨w.heap.size + 1, o, none⟩ = _ := fun o => hf _ o (by first | (simp; done) | (simp; omega) | omega))); (try (have c2 : ∀ o, w1.cell? ⟨w.heap.size + 1 + 1, o, none⟩ = _ := fun o => hc _ o (by first | (simp; done) | (simp; omega) | omega))); (try (have g2 : ∀ o, w1.frozen? ⟨w.heap.size + 1 + 1, o, none⟩ = _ := fun o => hf _ o (by first | (simp; done) | (simp; omega) | omega))); clear hb hz))
    exact bodyPost_ret (v := .tuple #[.agg #[.int .u64 0, .int .u64 0], .int .i64 6]) (by simp [results, Try.results23, go_sem, *]) rfl ⟨rfl, (by (repeat (first | exact HB | exact Below.refl _ _ | apply below_drew | apply below_draws | refine below_set ?_ (by (try dsimp only); omega) _ | apply below_alloc)))⟩

set_option maxHeartbeats 2000000 in
theorem rmeet_any (a b c d : Nat)  (w : World) :
    Calls Try.prog 23 #[.agg #[.int .u64 a, .int .u64 b], .agg #[.int .u64 c, .int .u64 d]] w fun e w' => e = .returned (.tuple #[.agg #[.int .u64 ((spMeet a b c d).1 : Nat), .int .u64 ((spMeet a b c d).2 : Nat)], .int .i64 (spMeetE a b c d)]) ∧ Below w.heap.size w w' := by
  by_cases h : a ≤ b ∧ c ≤ d
  · by_cases h' : max a c ≤ min b d
    · exact rmeet_yes a b c d h.1 h.2 h' w
    · exact rmeet_apart a b c d h.1 h.2 h' w
  · exact rmeet_no a b c d h w

end Go.Proofs.Ythhohiafhjhjhaa
