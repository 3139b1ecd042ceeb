
/- The walks of package branch's inner function where. -/
import Derived.Test.YthhohiafhjhjhaaBranchW2
namespace Go.Proofs.Ythhohiafhjhjhaa
open Go.RowKit
set_option linter.unusedVariables false
set_option linter.unusedSimpArgs false

def Two (w : World) (p : Nat) (x y : Value) : Prop := w.cell? ⟨p, 0, none⟩ = some x ∧ w.cell? ⟨p, 1, none⟩ = some y
theorem two_put {w : World} {p : Nat} {x y : Value} (h : Two w p x y) (a b : Value) : Two ((w.setCell ⟨p, 0, none⟩ a).setCell ⟨p, 1, none⟩ b) p a b := by
  have h1 : (w.setCell ⟨p, 0, none⟩ a).cell? ⟨p, 0, none⟩ = some a := World.cell?_setCell_same _ _ _ h.1
  have h2 : (w.setCell ⟨p, 0, none⟩ a).cell? ⟨p, 1, none⟩ = some y := by rw [World.cell?_setCell_other _ _ _ _ (by simp)]; exact h.2
  exact ⟨by rw [World.cell?_setCell_other _ _ _ _ (by simp)]; exact h1, World.cell?_setCell_same _ _ _ h2⟩
theorem two_far {w : World} {p q : Nat} {x y : Value} (h : Two w q x y) (hpq : ¬ p = q) (a b : Value) : Two ((w.setCell ⟨p, 0, none⟩ a).setCell ⟨p, 1, none⟩ b) q x y :=
  ⟨by rw [World.cell?_setCell_far _ _ _ _ hpq, World.cell?_setCell_far _ _ _ _ hpq]; exact h.1, by rw [World.cell?_setCell_far _ _ _ _ hpq, World.cell?_setCell_far _ _ _ _ hpq]; exact h.2⟩

set_option maxRecDepth 100000 in
set_option maxHeartbeats 4000000 in
theorem where_5 (a b c d : Nat) (Q : Br) (C : ∀ w : World, Calls Try.prog 19 #[.int .i64 3, .agg #[.int .u64 c, .int .u64 d], .agg #[.int .u64 a, .int .u64 b]] w fun e w' => e = .returned (.tuple #[.agg #[.int .u64 (Q.a : Nat), .int .u64 (Q.b : Nat)], .agg #[.int .u64 (Q.c : Nat), .int .u64 (Q.d : Nat)], .bool Q.can]) ∧ Below w.heap.size w w') (w : World) :
    Calls Try.prog 19 #[.int .i64 5, .agg #[.int .u64 a, .int .u64 b], .agg #[.int .u64 c, .int .u64 d]] w fun e w' => e = .returned (.tuple #[.agg #[.int .u64 (Q.c : Nat), .int .u64 (Q.d : Nat)], .agg #[.int .u64 (Q.a : Nat), .int .u64 (Q.b : Nat)], .bool Q.can]) ∧ Below w.heap.size w w' := by
  have hmm := @run_makeMap Try.prog
  have m1 := map_one
  have m2 := map_two
  have m3 := map_look
  have tk : turnedV 5 = 3 := rfl
  have n0_2 : ¬ w.heap.size = w.heap.size + 1 + 1 := by omega
  have n2_0 : ¬ w.heap.size + 1 + 1 = w.heap.size := by omega
  have n0_3 : ¬ w.heap.size = w.heap.size + 1 + 1 + 1 := by omega
  have n3_0 : ¬ w.heap.size + 1 + 1 + 1 = w.heap.size := by omega
  have n1_3 : ¬ w.heap.size + 1 = w.heap.size + 1 + 1 + 1 := by omega
  have n3_1 : ¬ w.heap.size + 1 + 1 + 1 = w.heap.size + 1 := by omega
  go_enter Try.func19, Try.ntmps19
  go_wp2_with (first | (go_at_call 19; ((with_reducible refine (C _).mono ?_); rintro e w1 ⟨rfl, hb⟩); have HB : Below w.heap.size w w1 := below_then (by (repeat (first | exact HB | exact Below.refl _ _ | apply below_drew | apply below_draws | refine below_set ?_ (by (try dsimp only); omega) _ | apply below_alloc))) hb; obtain ⟨hc, hf⟩ := bcell hb; have hz := hb.size; (try simp at hz); (first | (obtain ⟨y0, y1, y2, y3, y4, y5, y6, y7, y8, y9, y10, y11, _⟩ := up12 hz) | (obtain ⟨y0, y1, y2, y3, y4, y5, y6, y7, y8, y9, y10, _⟩ := up11 hz) | (obtain ⟨y0, y1, y2, y3, y4, y5, y6, y7, y8, y9, _⟩ := up10 hz) | (obtain ⟨y0, y1, y2, y3, y4, y5, y6, y7, y8, _⟩ := up9 hz) | (obtain ⟨y0, y1, y2, y3, y4, y5, y6, y7, _⟩ := up8 hz) | (obtain ⟨y0, y1, y2, y3, y4, y5, y6, _⟩ := up7 hz) | (obtain ⟨y0, y1, y2, y3, y4, y5, _⟩ := up6 hz) | (obtain ⟨y0, y1, y2, y3, y4, _⟩ := up5 hz) | (obtain ⟨y0, y1, y2, y3, _⟩ := up4 hz) | (obtain ⟨y0, y1, y2, _⟩ := up3 hz) | (obtain ⟨y0, y1, _⟩ := up2 hz) | (obtain ⟨y0, _⟩ := up1 hz) | skip); (try (have z0 : w.heap.size < w1.heap.size := by omega)); (try (have z1 : w.heap.size + 1 < w1.heap.size := by omega)); (try (have z2 : w.heap.size + 1 + 1 < w1.heap.size := by omega)); (try (have z3 : w.heap.size + 1 + 1 + 1 < w1.heap.size := by omega)); (try (have z4 : w.heap.size + 1 + 1 + 1 + 1 < w1.heap.size := by omega)); (try (have c0 : ∀ o, w1.cell? ⟨w.heap.size, o, none⟩ = _ := fun o => hc _ o (by first | (simp; done) | (simp; omega) | omega))); (try (have g0 : ∀ o, w1.frozen? ⟨w.heap.size, o, none⟩ = _ := fun o => hf _ o (by first | (simp; done) | (simp; omega) | omega))); (try (have c1 : ∀ o, w1.cell? ⟨w.heap.size + 1, o, none⟩ = _ := fun o => hc _ o (by first | (simp; done) | (simp; omega) | omega))); (try (have g1 : ∀ o, w1.frozen? ⟨w.heap.size + 1, o, none⟩ = _ := fun o => hf _ o (by first | (simp; done) | (simp; omega) | omega))); (try (have c2 : ∀ o, w1.cell? ⟨w.heap.size + 1 + 1, o, none⟩ = _ := fun o => hc _ o (by first | (simp; done) | (simp; omega) | omega))); (try (have g2 : ∀ o, w1.frozen? ⟨w.heap.size + 1 + 1, o, none⟩ = _ := fun o => hf _ o (by first | (simp; done) | (simp; omega) | omega))); (try (have c3 : ∀ o, w1.cell? ⟨w.heap.size + 1 + 1 + 1, o, none⟩ = _ := fun o => hc _ o (by first | (simp; done) | (simp; omega) | omega))); (try (have g3 : ∀ o, w1.frozen? ⟨w.heap.size + 1 + 1 + 1, o, none⟩ = _ := fun o => hf _ o (by first | (simp; done) | (simp; omega) | omega))); (try (have c4 : ∀ o, w1.cell? ⟨w.heap.size + 1 + 1 + 1 + 1, o, none⟩ = _ := fun o => hc _ o (by first | (simp; done) | (simp; omega) | omega))); (try (have g4 : ∀ o, w1.frozen? ⟨w.heap.size + 1 + 1 + 1 + 1, o, none⟩ = _ := fun o => hf _ o (by first | (simp; done) | (simp; omega) | omega))); (try (have q0_0 : w1.cell? ⟨w.heap.size, 0, none⟩ = some (.int .u64 a) := by first | (go_simp; done) | (simp [*]; done))); (try (have r0_0 : ∀ v, (w1.setCell ⟨w.heap.size, 0, none⟩ v).cell? ⟨w.heap.size, 0, none⟩ = some v := fun v => by first | exact World.cell?_setCell_same q0_0 | exact World.cell?_setCell_same _ _ _ q0_0 | exact World.cell?_setCell_same _ _ q0_0)); (try (have q0_1 : w1.cell? ⟨w.heap.size, 1, none⟩ = some (.int .u64 b) := by first | (go_simp; done) | (simp [*]; done))); (try (have r0_1 : ∀ v, (w1.setCell ⟨w.heap.size, 1, none⟩ v).cell? ⟨w.heap.size, 1, none⟩ = some v := fun v => by first | exact World.cell?_setCell_same q0_1 | exact World.cell?_setCell_same _ _ _ q0_1 | exact World.cell?_setCell_same _ _ q0_1)); (try (have q1_0 : w1.cell? ⟨w.heap.size + 1, 0, none⟩ = some (.int .u64 c) := by first | (go_simp; done) | (simp [*]; done))); (try (have r1_0 : ∀ v, (w1.setCell ⟨w.heap.size + 1, 0, none⟩ v).cell? ⟨w.heap.size + 1, 0, none⟩ = some v := fun v => by first | exact World.cell?_setCell_same q1_0 | exact World.cell?_setCell_same _ _ _ q1_0 | exact World.cell?_setCell_same _ _ q1_0)); (try (have q1_1 : w1.cell? ⟨w.heap.size + 1, 1, none⟩ = some (.int .u64 d) := by first | (go_simp; done) | (simp [*]; done))); (try (have r1_1 : ∀ v, (w1.setCell ⟨w.heap.size + 1, 1, none⟩ v).cell? ⟨w.heap.size + 1, 1, none⟩ = some v := fun v => by first | exact World.cell?_setCell_same q1_1 | exact World.cell?_setCell_same _ _ _ q1_1 | exact World.cell?_setCell_same _ _ q1_1)); (try (have q2_0 : w1.cell? ⟨w.heap.size + 1 + 1, 0, none⟩ = some (.int .u64 0) := by first | (go_simp; done) | (simp [*]; done))); (try (have r2_0 : ∀ v, (w1.setCell ⟨w.heap.size + 1 + 1, 0, none⟩ v).cell? ⟨w.heap.size + 1 + 1, 0, none⟩ = some v := fun v => by first | exact World.cell?_setCell_same q2_0 | exact World.cell?_setCell_same _ _ _ q2_0 | exact World.cell?_setCell_same _ _ q2_0)); (try (have q2_1 : w1.cell? ⟨w.heap.size + 1 + 1, 1, none⟩ = some (.int .u64 0) := by first | (go_simp; done) | (simp [*]; done))); (try (have r2_1 : ∀ v, (w1.setCell ⟨w.heap.size + 1 + 1, 1, none⟩ v).cell? ⟨w.heap.size + 1 + 1, 1, none⟩ = some v := fun v => by first | exact World.cell?_setCell_same q2_1 | exact World.cell?_setCell_same _ _ _ q2_1 | exact World.cell?_setCell_same _ _ q2_1)); (try (have q3_0 : w1.cell? ⟨w.heap.size + 1 + 1 + 1, 0, none⟩ = some (.int .u64 0) := by first | (go_simp; done) | (simp [*]; done))); (try (have r3_0 : ∀ v, (w1.setCell ⟨w.heap.size + 1 + 1 + 1, 0, none⟩ v).cell? ⟨w.heap.size + 1 + 1 + 1, 0, none⟩ = some v := fun v => by first | exact World.cell?_setCell_same q3_0 | exact World.cell?_setCell_same _ _ _ q3_0 | exact World.cell?_setCell_same _ _ q3_0)); (try (have q3_1 : w1.cell? ⟨w.heap.size + 1 + 1 + 1, 1, none⟩ = some (.int .u64 0) := by first | (go_simp; done) | (simp [*]; done))); (try (have r3_1 : ∀ v, (w1.setCell ⟨w.heap.size + 1 + 1 + 1, 1, none⟩ v).cell? ⟨w.heap.size + 1 + 1 + 1, 1, none⟩ = some v := fun v => by first | exact World.cell?_setCell_same q3_1 | exact World.cell?_setCell_same _ _ _ q3_1 | exact World.cell?_setCell_same _ _ q3_1)); clear hb hz))
  obtain ⟨W2, e2⟩ : ∃ W2, ((((w1.setCell ⟨w.heap.size + 1 + 1 + 1, 0, none⟩ (.int .u64 (Q.a : Nat))).setCell ⟨w.heap.size + 1 + 1 + 1, 1, none⟩ (.int .u64 (Q.b : Nat))).setCell ⟨w.heap.size + 1 + 1, 0, none⟩ (.int .u64 (Q.c : Nat))).setCell ⟨w.heap.size + 1 + 1, 1, none⟩ (.int .u64 (Q.d : Nat))) = W2 := ⟨_, rfl⟩
  have t1 : Two W2 (w.heap.size + 1 + 1 + 1) (.int .u64 (Q.a : Nat)) (.int .u64 (Q.b : Nat)) := by
    rw [← e2]; exact two_far (two_put ⟨q3_0, q3_1⟩ _ _) (by omega) _ _
  have t2 : Two W2 (w.heap.size + 1 + 1) (.int .u64 (Q.c : Nat)) (.int .u64 (Q.d : Nat)) := by
    rw [← e2]; exact two_put (two_far (⟨q2_0, q2_1⟩ : Two w1 (w.heap.size + 1 + 1) _ _) (by omega) _ _) _ _
  have f1 : ∀ o, W2.frozen? ⟨w.heap.size + 1 + 1 + 1, o, none⟩ = false := fun o => by rw [← e2]; clear e2; first | (go_simp; done) | (simp [*]; go_simp; done)
  have f2 : ∀ o, W2.frozen? ⟨w.heap.size + 1 + 1, o, none⟩ = false := fun o => by rw [← e2]; clear e2; first | (go_simp; done) | (simp [*]; go_simp; done)
  have HB2 : Below w.heap.size w W2 := by rw [← e2]; exact below_set (below_set (below_set (below_set HB (by dsimp only; omega) _) (by dsimp only; omega) _) (by dsimp only; omega) _) (by dsimp only; omega) _
  rw [e2]
  clear e2 hmm m1 m2 m3 HB tk C
  clear q0_0 r0_0 q0_1 r0_1 q1_0 r1_0 q1_1 r1_1 q2_0 r2_0 q2_1 r2_1 q3_0 r3_0 q3_1 r3_1 c0 g0 c1 g1 c2 g2 c3 g3 c4 g4
  obtain ⟨t10, t11⟩ := t1
  obtain ⟨t20, t21⟩ := t2
  have t1 : Two W2 (w.heap.size + 1 + 1 + 1) (.int .u64 (Q.a : Nat)) (.int .u64 (Q.b : Nat)) := ⟨t10, t11⟩
  have t2 : Two W2 (w.heap.size + 1 + 1) (.int .u64 (Q.c : Nat)) (.int .u64 (Q.d : Nat)) := ⟨t20, t21⟩
  go_region
  go_wp2
  obtain ⟨W3, e3⟩ : ∃ W3, ((((W2.setCell ⟨w.heap.size + 1 + 1, 0, none⟩ (.int .u64 (Q.c : Nat))).setCell ⟨w.heap.size + 1 + 1, 1, none⟩ (.int .u64 (Q.d : Nat))).setCell ⟨w.heap.size + 1 + 1 + 1, 0, none⟩ (.int .u64 (Q.a : Nat))).setCell ⟨w.heap.size + 1 + 1 + 1, 1, none⟩ (.int .u64 (Q.b : Nat))) = W3 := ⟨_, rfl⟩
  have s1 : Two W3 (w.heap.size + 1 + 1 + 1) (.int .u64 (Q.a : Nat)) (.int .u64 (Q.b : Nat)) := by
    rw [← e3]; exact two_put (two_far t1 (by omega) _ _) _ _
  have s2 : Two W3 (w.heap.size + 1 + 1) (.int .u64 (Q.c : Nat)) (.int .u64 (Q.d : Nat)) := by
    rw [← e3]; exact two_far (two_put t2 _ _) (by omega) _ _
  have HB : Below w.heap.size w W3 := by rw [← e3]; exact below_set (below_set (below_set (below_set HB2 (by dsimp only; omega) _) (by dsimp only; omega) _) (by dsimp only; omega) _) (by dsimp only; omega) _
  rw [e3]
  clear e3 t10 t11 t20 t21 t1 t2 HB2
  obtain ⟨s10, s11⟩ := s1
  obtain ⟨s20, s21⟩ := s2
  refine bodyPost_ret (v := .tuple #[.agg #[.int .u64 (Q.c : Nat), .int .u64 (Q.d : Nat)], .agg #[.int .u64 (Q.a : Nat), .int .u64 (Q.b : Nat)], .bool Q.can]) (by simp [results, Try.results19, go_sem, *]) rfl ⟨?_, (by (repeat (first | exact HB | exact Below.refl _ _ | apply below_drew | apply below_draws | refine below_set ?_ (by (try dsimp only); omega) _ | apply below_alloc)))⟩
  rfl

set_option maxRecDepth 100000 in
set_option maxHeartbeats 4000000 in
theorem where_6 (a b c d : Nat) (Q : Br) (C : ∀ w : World, Calls Try.prog 19 #[.int .i64 4, .agg #[.int .u64 c, .int .u64 d], .agg #[.int .u64 a, .int .u64 b]] w fun e w' => e = .returned (.tuple #[.agg #[.int .u64 (Q.a : Nat), .int .u64 (Q.b : Nat)], .agg #[.int .u64 (Q.c : Nat), .int .u64 (Q.d : Nat)], .bool Q.can]) ∧ Below w.heap.size w w') (w : World) :
    Calls Try.prog 19 #[.int .i64 6, .agg #[.int .u64 a, .int .u64 b], .agg #[.int .u64 c, .int .u64 d]] w fun e w' => e = .returned (.tuple #[.agg #[.int .u64 (Q.c : Nat), .int .u64 (Q.d : Nat)], .agg #[.int .u64 (Q.a : Nat), .int .u64 (Q.b : Nat)], .bool Q.can]) ∧ Below w.heap.size w w' := by
  have hmm := @run_makeMap Try.prog
  have m1 := map_one
  have m2 := map_two
  have m3 := map_look
  have tk : turnedV 6 = 4 := rfl
  have n0_2 : ¬ w.heap.size = w.heap.size + 1 + 1 := by omega
  have n2_0 : ¬ w.heap.size + 1 + 1 = w.heap.size := by omega
  have n0_3 : ¬ w.heap.size = w.heap.size + 1 + 1 + 1 := by omega
  have n3_0 : ¬ w.heap.size + 1 + 1 + 1 = w.heap.size := by omega
  have n1_3 : ¬ w.heap.size + 1 = w.heap.size + 1 + 1 + 1 := by omega
  have n3_1 : ¬ w.heap.size + 1 + 1 + 1 = w.heap.size + 1 := by omega
  go_enter Try.func19, Try.ntmps19
  go_wp2_with (first | (go_at_call 19; ((with_reducible refine (C _).mono ?_); rintro e w1 ⟨rfl, hb⟩); have HB : Below w.heap.size w w1 := below_then (by (repeat (first | exact HB | exact Below.refl _ _ | apply below_drew | apply below_draws | refine below_set ?_ (by (try dsimp only); omega) _ | apply below_alloc))) hb; obtain ⟨hc, hf⟩ := bcell hb; have hz := hb.size; (try simp at hz); (first | (obtain ⟨y0, y1, y2, y3, y4, y5, y6, y7, y8, y9, y10, y11, _⟩ := up12 hz) | (obtain ⟨y0, y1, y2, y3, y4, y5, y6, y7, y8, y9, y10, _⟩ := up11 hz) | (obtain ⟨y0, y1, y2, y3, y4, y5, y6, y7, y8, y9, _⟩ := up10 hz) | (obtain ⟨y0, y1, y2, y3, y4, y5, y6, y7, y8, _⟩ := up9 hz) | (obtain ⟨y0, y1, y2, y3, y4, y5, y6, y7, _⟩ := up8 hz) | (obtain ⟨y0, y1, y2, y3, y4, y5, y6, _⟩ := up7 hz) | (obtain ⟨y0, y1, y2, y3, y4, y5, _⟩ := up6 hz) | (obtain ⟨y0, y1, y2, y3, y4, _⟩ := up5 hz) | (obtain ⟨y0, y1, y2, y3, _⟩ := up4 hz) | (obtain ⟨y0, y1, y2, _⟩ := up3 hz) | (obtain ⟨y0, y1, _⟩ := up2 hz) | (obtain ⟨y0, _⟩ := up1 hz) | skip); (try (have z0 : w.heap.size < w1.heap.size := by omega)); (try (have z1 : w.heap.size + 1 < w1.heap.size := by omega)); (try (have z2 : w.heap.size + 1 + 1 < w1.heap.size := by omega)); (try (have z3 : w.heap.size + 1 + 1 + 1 < w1.heap.size := by omega)); (try (have z4 : w.heap.size + 1 + 1 + 1 + 1 < w1.heap.size := by omega)); (try (have c0 : ∀ o, w1.cell? ⟨w.heap.size, o, none⟩ = _ := fun o => hc _ o (by first | (simp; done) | (simp; omega) | omega))); (try (have g0 : ∀ o, w1.frozen? ⟨w.heap.size, o, none⟩ = _ := fun o => hf _ o (by first | (simp; done) | (simp; omega) | omega))); (try (have c1 : ∀ o, w1.cell? ⟨w.heap.size + 1, o, none⟩ = _ := fun o => hc _ o (by first | (simp; done) | (simp; omega) | omega))); (try (have g1 : ∀ o, w1.frozen? ⟨w.heap.size + 1, o, none⟩ = _ := fun o => hf _ o (by first | (simp; done) | (simp; omega) | omega))); (try (have c2 : ∀ o, w1.cell? ⟨w.heap.size + 1 + 1, o, none⟩ = _ := fun o => hc _ o (by first | (simp; done) | (simp; omega) | omega))); (try (have g2 : ∀ o, w1.frozen? ⟨w.heap.size + 1 + 1, o, none⟩ = _ := fun o => hf _ o (by first | (simp; done) | (simp; omega) | omega))); (try (have c3 : ∀ o, w1.cell? ⟨w.heap.size + 1 + 1 + 1, o, none⟩ = _ := fun o => hc _ o (by first | (simp; done) | (simp; omega) | omega))); (try (have g3 : ∀ o, w1.frozen? ⟨w.heap.size + 1 + 1 + 1, o, none⟩ = _ := fun o => hf _ o (by first | (simp; done) | (simp; omega) | omega))); (try (have c4 : ∀ o, w1.cell? ⟨w.heap.size + 1 + 1 + 1 + 1, o, none⟩ = _ := fun o => hc _ o (by first | (simp; done) | (simp; omega) | omega))); (try (have g4 : ∀ o, w1.frozen? ⟨w.heap.size + 1 + 1 + 1 + 1, o, none⟩ = _ := fun o => hf _ o (by first | (simp; done) | (simp; omega) | omega))); (try (have q0_0 : w1.cell? ⟨w.heap.size, 0, none⟩ = some (.int .u64 a) := by first | (go_simp; done) | (simp [*]; done))); (try (have r0_0 : ∀ v, (w1.setCell ⟨w.heap.size, 0, none⟩ v).cell? ⟨w.heap.size, 0, none⟩ = some v := fun v => by first | exact World.cell?_setCell_same q0_0 | exact World.cell?_setCell_same _ _ _ q0_0 | exact World.cell?_setCell_same _ _ q0_0)); (try (have q0_1 : w1.cell? ⟨w.heap.size, 1, none⟩ = some (.int .u64 b) := by first | (go_simp; done) | (simp [*]; done))); (try (have r0_1 : ∀ v, (w1.setCell ⟨w.heap.size, 1, none⟩ v).cell? ⟨w.heap.size, 1, none⟩ = some v := fun v => by first | exact World.cell?_setCell_same q0_1 | exact World.cell?_setCell_same _ _ _ q0_1 | exact World.cell?_setCell_same _ _ q0_1)); (try (have q1_0 : w1.cell? ⟨w.heap.size + 1, 0, none⟩ = some (.int .u64 c) := by first | (go_simp; done) | (simp [*]; done))); (try (have r1_0 : ∀ v, (w1.setCell ⟨w.heap.size + 1, 0, none⟩ v).cell? ⟨w.heap.size + 1, 0, none⟩ = some v := fun v => by first | exact World.cell?_setCell_same q1_0 | exact World.cell?_setCell_same _ _ _ q1_0 | exact World.cell?_setCell_same _ _ q1_0)); (try (have q1_1 : w1.cell? ⟨w.heap.size + 1, 1, none⟩ = some (.int .u64 d) := by first | (go_simp; done) | (simp [*]; done))); (try (have r1_1 : ∀ v, (w1.setCell ⟨w.heap.size + 1, 1, none⟩ v).cell? ⟨w.heap.size + 1, 1, none⟩ = some v := fun v => by first | exact World.cell?_setCell_same q1_1 | exact World.cell?_setCell_same _ _ _ q1_1 | exact World.cell?_setCell_same _ _ q1_1)); (try (have q2_0 : w1.cell? ⟨w.heap.size + 1 + 1, 0, none⟩ = some (.int .u64 0) := by first | (go_simp; done) | (simp [*]; done))); (try (have r2_0 : ∀ v, (w1.setCell ⟨w.heap.size + 1 + 1, 0, none⟩ v).cell? ⟨w.heap.size + 1 + 1, 0, none⟩ = some v := fun v => by first | exact World.cell?_setCell_same q2_0 | exact World.cell?_setCell_same _ _ _ q2_0 | exact World.cell?_setCell_same _ _ q2_0)); (try (have q2_1 : w1.cell? ⟨w.heap.size + 1 + 1, 1, none⟩ = some (.int .u64 0) := by first | (go_simp; done) | (simp [*]; done))); (try (have r2_1 : ∀ v, (w1.setCell ⟨w.heap.size + 1 + 1, 1, none⟩ v).cell? ⟨w.heap.size + 1 + 1, 1, none⟩ = some v := fun v => by first | exact World.cell?_setCell_same q2_1 | exact World.cell?_setCell_same _ _ _ q2_1 | exact World.cell?_setCell_same _ _ q2_1)); (try (have q3_0 : w1.cell? ⟨w.heap.size + 1 + 1 + 1, 0, none⟩ = some (.int .u64 0) := by first | (go_simp; done) | (simp [*]; done))); (try (have r3_0 : ∀ v, (w1.setCell ⟨w.heap.size + 1 + 1 + 1, 0, none⟩ v).cell? ⟨w.heap.size + 1 + 1 + 1, 0, none⟩ = some v := fun v => by first | exact World.cell?_setCell_same q3_0 | exact World.cell?_setCell_same _ _ _ q3_0 | exact World.cell?_setCell_same _ _ q3_0)); (try (have q3_1 : w1.cell? ⟨w.heap.size + 1 + 1 + 1, 1, none⟩ = some (.int .u64 0) := by first | (go_simp; done) | (simp [*]; done))); (try (have r3_1 : ∀ v, (w1.setCell ⟨w.heap.size + 1 + 1 + 1, 1, none⟩ v).cell? ⟨w.heap.size + 1 + 1 + 1, 1, none⟩ = some v := fun v => by first | exact World.cell?_setCell_same q3_1 | exact World.cell?_setCell_same _ _ _ q3_1 | exact World.cell?_setCell_same _ _ q3_1)); clear hb hz))
  obtain ⟨W2, e2⟩ : ∃ W2, ((((w1.setCell ⟨w.heap.size + 1 + 1 + 1, 0, none⟩ (.int .u64 (Q.a : Nat))).setCell ⟨w.heap.size + 1 + 1 + 1, 1, none⟩ (.int .u64 (Q.b : Nat))).setCell ⟨w.heap.size + 1 + 1, 0, none⟩ (.int .u64 (Q.c : Nat))).setCell ⟨w.heap.size + 1 + 1, 1, none⟩ (.int .u64 (Q.d : Nat))) = W2 := ⟨_, rfl⟩
  have t1 : Two W2 (w.heap.size + 1 + 1 + 1) (.int .u64 (Q.a : Nat)) (.int .u64 (Q.b : Nat)) := by
    rw [← e2]; exact two_far (two_put ⟨q3_0, q3_1⟩ _ _) (by omega) _ _
  have t2 : Two W2 (w.heap.size + 1 + 1) (.int .u64 (Q.c : Nat)) (.int .u64 (Q.d : Nat)) := by
    rw [← e2]; exact two_put (two_far (⟨q2_0, q2_1⟩ : Two w1 (w.heap.size + 1 + 1) _ _) (by omega) _ _) _ _
  have f1 : ∀ o, W2.frozen? ⟨w.heap.size + 1 + 1 + 1, o, none⟩ = false := fun o => by rw [← e2]; clear e2; first | (go_simp; done) | (simp [*]; go_simp; done)
  have f2 : ∀ o, W2.frozen? ⟨w.heap.size + 1 + 1, o, none⟩ = false := fun o => by rw [← e2]; clear e2; first | (go_simp; done) | (simp [*]; go_simp; done)
  have HB2 : Below w.heap.size w W2 := by rw [← e2]; exact below_set (below_set (below_set (below_set HB (by dsimp only; omega) _) (by dsimp only; omega) _) (by dsimp only; omega) _) (by dsimp only; omega) _
  rw [e2]
  clear e2 hmm m1 m2 m3 HB tk C
  clear q0_0 r0_0 q0_1 r0_1 q1_0 r1_0 q1_1 r1_1 q2_0 r2_0 q2_1 r2_1 q3_0 r3_0 q3_1 r3_1 c0 g0 c1 g1 c2 g2 c3 g3 c4 g4
  obtain ⟨t10, t11⟩ := t1
  obtain ⟨t20, t21⟩ := t2
  have t1 : Two W2 (w.heap.size + 1 + 1 + 1) (.int .u64 (Q.a : Nat)) (.int .u64 (Q.b : Nat)) := ⟨t10, t11⟩
  have t2 : Two W2 (w.heap.size + 1 + 1) (.int .u64 (Q.c : Nat)) (.int .u64 (Q.d : Nat)) := ⟨t20, t21⟩
  go_region
  go_wp2
  obtain ⟨W3, e3⟩ : ∃ W3, ((((W2.setCell ⟨w.heap.size + 1 + 1, 0, none⟩ (.int .u64 (Q.c : Nat))).setCell ⟨w.heap.size + 1 + 1, 1, none⟩ (.int .u64 (Q.d : Nat))).setCell ⟨w.heap.size + 1 + 1 + 1, 0, none⟩ (.int .u64 (Q.a : Nat))).setCell ⟨w.heap.size + 1 + 1 + 1, 1, none⟩ (.int .u64 (Q.b : Nat))) = W3 := ⟨_, rfl⟩
  have s1 : Two W3 (w.heap.size + 1 + 1 + 1) (.int .u64 (Q.a : Nat)) (.int .u64 (Q.b : Nat)) := by
    rw [← e3]; exact two_put (two_far t1 (by omega) _ _) _ _
  have s2 : Two W3 (w.heap.size + 1 + 1) (.int .u64 (Q.c : Nat)) (.int .u64 (Q.d : Nat)) := by
    rw [← e3]; exact two_far (two_put t2 _ _) (by omega) _ _
  have HB : Below w.heap.size w W3 := by rw [← e3]; exact below_set (below_set (below_set (below_set HB2 (by dsimp only; omega) _) (by dsimp only; omega) _) (by dsimp only; omega) _) (by dsimp only; omega) _
  rw [e3]
  clear e3 t10 t11 t20 t21 t1 t2 HB2
  obtain ⟨s10, s11⟩ := s1
  obtain ⟨s20, s21⟩ := s2
  refine bodyPost_ret (v := .tuple #[.agg #[.int .u64 (Q.c : Nat), .int .u64 (Q.d : Nat)], .agg #[.int .u64 (Q.a : Nat), .int .u64 (Q.b : Nat)], .bool Q.can]) (by simp [results, Try.results19, go_sem, *]) rfl ⟨?_, (by (repeat (first | exact HB | exact Below.refl _ _ | apply below_drew | apply below_draws | refine below_set ?_ (by (try dsimp only); omega) _ | apply below_alloc)))⟩
  rfl

end Go.Proofs.Ythhohiafhjhjhaa
