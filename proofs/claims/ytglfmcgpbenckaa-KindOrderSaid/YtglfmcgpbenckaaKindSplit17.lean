
/- The walk of chapter 17's statement KindSplit. -/
import Derived.Test.YtglfmcgpbenckaaKindShown
import Derived.Test.YtglfmcgpbenckaaKindLaw
namespace Go.Proofs.Ytglfmcgpbenckaa
open Go.RowKit
set_option linter.unusedVariables false
set_option linter.unusedSimpArgs false

set_option maxRecDepth 100000 in
set_option maxHeartbeats 8000000 in
theorem split_a0 (x A D : Wh) (S1 : ∀ w : World, Calls Try.prog 13 #[.agg #[.int .i64 x.k, .int .i64 x.t, .int .i64 x.i, .int .i64 x.l, .bool x.m, .int .u64 (x.a : Nat), .int .u64 (x.b : Nat)], .bool true] w fun e w' => e = .returned (.tuple #[.agg #[.int .i64 A.k, .int .i64 A.t, .int .i64 A.i, .int .i64 A.l, .bool A.m, .int .u64 (A.a : Nat), .int .u64 (A.b : Nat)], .bool false]) ∧ Below w.heap.size w w') (S2 : ∀ w : World, Calls Try.prog 13 #[.agg #[.int .i64 x.k, .int .i64 x.t, .int .i64 x.i, .int .i64 x.l, .bool x.m, .int .u64 (x.a : Nat), .int .u64 (x.b : Nat)], .bool false] w fun e w' => e = .returned (.tuple #[.agg #[.int .i64 D.k, .int .i64 D.t, .int .i64 D.i, .int .i64 D.l, .bool D.m, .int .u64 (D.a : Nat), .int .u64 (D.b : Nat)], .bool false]) ∧ Below w.heap.size w w') (M1 : ∀ w : World, Calls Try.prog 12 #[.agg #[.int .i64 x.k, .int .i64 x.t, .int .i64 x.i, .int .i64 x.l, .bool x.m, .int .u64 (x.a : Nat), .int .u64 (x.b : Nat)]] w fun e w' => e = .returned (.bool false) ∧ Below w.heap.size w w') (e0 : (x.k == 0) = true) (g : decide (1 < x.k) = false) (w : World) :
    Calls Try.prog 4 #[.agg #[.int .i64 x.k, .int .i64 x.t, .int .i64 x.i, .int .i64 x.l, .bool x.m, .int .u64 (x.a : Nat), .int .u64 (x.b : Nat)]] w fun e w' => e = .returned (.bool true) ∧ Below w.heap.size w w' := by
  have he := eqWhat
  have nn0 : ∀ n : Nat, ¬ n = n + 1 + 1 := fun n => by omega
  have nn1 : ∀ n : Nat, ¬ n + 1 + 1 = n := fun n => by omega
  have nn2 : ∀ n : Nat, ¬ n = n + 1 + 1 + 1 := fun n => by omega
  have nn3 : ∀ n : Nat, ¬ n + 1 + 1 + 1 = n := fun n => by omega
  have nn4 : ∀ n : Nat, ¬ n + 1 = n + 1 + 1 + 1 := fun n => by omega
  have nn5 : ∀ n : Nat, ¬ n + 1 + 1 + 1 = n + 1 := fun n => by omega
  have nn6 : ∀ a b : Nat, a < b → ¬ a = b + 1 + 1 := fun a b h => by omega
  have nn7 : ∀ a b : Nat, a < b → ¬ a = b + 1 := fun a b h => by omega
  have nn8 : ∀ a b : Nat, a < b → ¬ a = b := fun a b h => by omega
  have nn9 : ∀ a b : Nat, a < b → a ≤ b := fun a b h => by omega
  have nn10 : ∀ a b : Nat, a < b → a ≤ b + 1 := fun a b h => by omega
  have nn11 : ∀ a b : Nat, a < b → a < b + 1 + 1 := fun a b h => by omega
  have nn12 : ∀ a b : Nat, a < b → a < b + 1 := fun a b h => by omega
  have nn13 : ∀ a b : Nat, a < b → ¬ b = a := fun a b h => by omega
  have nn14 : ∀ a b : Nat, a < b → ¬ b + 1 = a := fun a b h => by omega
  go_enter Try.func4, Try.ntmps4
  go_upto_region 4 with (first | (go_at_call 10; ((with_reducible refine (shown_any _).mono ?_); rintro e w1 ⟨rfl, hb⟩); have HB : Below w.heap.size w w1 := below_then (by (repeat (first | (with_reducible exact HB) | (with_reducible exact Below.refl _ _) | (with_reducible refine below_set ?_ (by (try dsimp only); omega) _) | (with_reducible apply below_drew) | (with_reducible apply below_draws) | (with_reducible apply below_alloc)))) hb; obtain ⟨hc, hf⟩ := bcell hb; have hz := hb.size; (try simp at hz); (have z1_0 : w.heap.size < w1.heap.size := by omega); have c1_0 : ∀ o, w1.cell? ⟨w.heap.size, o, none⟩ = _ := fun o => hc _ o (by first | (simp; done) | (simp; omega) | omega); have g1_0 : ∀ o, w1.frozen? ⟨w.heap.size, o, none⟩ = _ := fun o => hf _ o (by first | (simp; done) | (simp; omega) | omega); clear hb hz hc hf) | (go_at_call 13; ((with_reducible refine (S1 _).mono ?_); rintro e w2 ⟨rfl, hb⟩); have HB : Below w.heap.size w w2 := below_then (by (repeat (first | (with_reducible exact HB) | (with_reducible exact Below.refl _ _) | (with_reducible refine below_set ?_ (by (try dsimp only); omega) _) | (with_reducible apply below_drew) | (with_reducible apply below_draws) | (with_reducible apply below_alloc)))) hb; obtain ⟨hc, hf⟩ := bcell hb; have hz := hb.size; (try simp at hz); (have z2_0 : w.heap.size < w2.heap.size := by omega); have c2_0 : ∀ o, w2.cell? ⟨w.heap.size, o, none⟩ = _ := fun o => hc _ o (by first | (simp; done) | (simp; omega) | omega); have g2_0 : ∀ o, w2.frozen? ⟨w.heap.size, o, none⟩ = _ := fun o => hf _ o (by first | (simp; done) | (simp; omega) | omega); clear hb hz hc hf; clear S1) | (go_at_call 13; ((with_reducible refine (S2 _).mono ?_); rintro e w3 ⟨rfl, hb⟩); have HB : Below w.heap.size w w3 := below_then (by (repeat (first | (with_reducible exact HB) | (with_reducible exact Below.refl _ _) | (with_reducible refine below_set ?_ (by (try dsimp only); omega) _) | (with_reducible apply below_drew) | (with_reducible apply below_draws) | (with_reducible apply below_alloc)))) hb; obtain ⟨hc, hf⟩ := bcell hb; have hz := hb.size; (try simp at hz); (have z3_0 : w.heap.size < w3.heap.size := by omega); have c3_0 : ∀ o, w3.cell? ⟨w.heap.size, o, none⟩ = _ := fun o => hc _ o (by first | (simp; done) | (simp; omega) | omega); have g3_0 : ∀ o, w3.frozen? ⟨w.heap.size, o, none⟩ = _ := fun o => hf _ o (by first | (simp; done) | (simp; omega) | omega); (have z3_1 : w2.heap.size < w3.heap.size := by omega); have c3_1 : ∀ o, w3.cell? ⟨w2.heap.size, o, none⟩ = _ := fun o => hc _ o (by first | (simp; done) | (simp; omega) | omega); have g3_1 : ∀ o, w3.frozen? ⟨w2.heap.size, o, none⟩ = _ := fun o => hf _ o (by first | (simp; done) | (simp; omega) | omega); clear hb hz hc hf))
  refine named (P := fun W => Code.wp _ _ _ _ W) (fun W => Seven W (w.heap.size) x.k x.t x.i x.l x.m (x.a : Nat) (x.b : Nat) ∧ Seven W (w2.heap.size) A.k A.t A.i A.l A.m (A.a : Nat) (A.b : Nat) ∧ Seven W (w3.heap.size) D.k D.t D.i D.l D.m (D.a : Nat) (D.b : Nat) ∧ w.heap.size < W.heap.size ∧ w2.heap.size < W.heap.size ∧ w3.heap.size < W.heap.size ∧ Below w.heap.size w W) ⟨⟨(by first | (with_reducible assumption) | (go_simp; done) | (simp (maxDischargeDepth := 16) [*]; done)), (by first | (with_reducible assumption) | (go_simp; done) | (simp (maxDischargeDepth := 16) [*]; done)), (by first | (with_reducible assumption) | (go_simp; done) | (simp (maxDischargeDepth := 16) [*]; done)), (by first | (with_reducible assumption) | (go_simp; done) | (simp (maxDischargeDepth := 16) [*]; done)), (by first | (with_reducible assumption) | (go_simp; done) | (simp (maxDischargeDepth := 16) [*]; done)), (by first | (with_reducible assumption) | (go_simp; done) | (simp (maxDischargeDepth := 16) [*]; done)), (by first | (with_reducible assumption) | (go_simp; done) | (simp (maxDischargeDepth := 16) [*]; done))⟩, ⟨(by first | (with_reducible assumption) | (go_simp; done) | (simp (maxDischargeDepth := 16) [*]; done)), (by first | (with_reducible assumption) | (go_simp; done) | (simp (maxDischargeDepth := 16) [*]; done)), (by first | (with_reducible assumption) | (go_simp; done) | (simp (maxDischargeDepth := 16) [*]; done)), (by first | (with_reducible assumption) | (go_simp; done) | (simp (maxDischargeDepth := 16) [*]; done)), (by first | (with_reducible assumption) | (go_simp; done) | (simp (maxDischargeDepth := 16) [*]; done)), (by first | (with_reducible assumption) | (go_simp; done) | (simp (maxDischargeDepth := 16) [*]; done)), (by first | (with_reducible assumption) | (go_simp; done) | (simp (maxDischargeDepth := 16) [*]; done))⟩, ⟨(by first | (with_reducible assumption) | (go_simp; done) | (simp (maxDischargeDepth := 16) [*]; done)), (by first | (with_reducible assumption) | (go_simp; done) | (simp (maxDischargeDepth := 16) [*]; done)), (by first | (with_reducible assumption) | (go_simp; done) | (simp (maxDischargeDepth := 16) [*]; done)), (by first | (with_reducible assumption) | (go_simp; done) | (simp (maxDischargeDepth := 16) [*]; done)), (by first | (with_reducible assumption) | (go_simp; done) | (simp (maxDischargeDepth := 16) [*]; done)), (by first | (with_reducible assumption) | (go_simp; done) | (simp (maxDischargeDepth := 16) [*]; done)), (by first | (with_reducible assumption) | (go_simp; done) | (simp (maxDischargeDepth := 16) [*]; done))⟩, (by first | omega | (simp; done) | (simp; omega)), (by first | omega | (simp; done) | (simp; omega)), (by first | omega | (simp; done) | (simp; omega)), (by (repeat (first | (with_reducible exact HB) | (with_reducible exact Below.refl _ _) | (with_reducible refine below_set ?_ (by (try dsimp only); omega) _) | (with_reducible apply below_drew) | (with_reducible apply below_draws) | (with_reducible apply below_alloc))))⟩ ?_
  rintro W ⟨⟨o00, o01, o02, o03, o04, o05, o06⟩, ⟨o10, o11, o12, o13, o14, o15, o16⟩, ⟨o20, o21, o22, o23, o24, o25, o26⟩, hs0, hs1, hs2, HB⟩
  clear S2
  go_upto_region 5 with (first | (go_at_call 12; ((with_reducible refine (M1 _).mono ?_); rintro e w4 ⟨rfl, hb⟩); have HB : Below w.heap.size w w4 := below_then (by (repeat (first | (with_reducible exact HB) | (with_reducible exact Below.refl _ _) | (with_reducible refine below_set ?_ (by (try dsimp only); omega) _) | (with_reducible apply below_drew) | (with_reducible apply below_draws) | (with_reducible apply below_alloc)))) hb; obtain ⟨hc, hf⟩ := bcell hb; have hz := hb.size; (try simp at hz); (have z4_0 : w.heap.size < w4.heap.size := by omega); have c4_0 : ∀ o, w4.cell? ⟨w.heap.size, o, none⟩ = _ := fun o => hc _ o (by first | (simp; done) | (simp; omega) | omega); have g4_0 : ∀ o, w4.frozen? ⟨w.heap.size, o, none⟩ = _ := fun o => hf _ o (by first | (simp; done) | (simp; omega) | omega); (have z4_1 : w2.heap.size < w4.heap.size := by omega); have c4_1 : ∀ o, w4.cell? ⟨w2.heap.size, o, none⟩ = _ := fun o => hc _ o (by first | (simp; done) | (simp; omega) | omega); have g4_1 : ∀ o, w4.frozen? ⟨w2.heap.size, o, none⟩ = _ := fun o => hf _ o (by first | (simp; done) | (simp; omega) | omega); (have z4_2 : w3.heap.size < w4.heap.size := by omega); have c4_2 : ∀ o, w4.cell? ⟨w3.heap.size, o, none⟩ = _ := fun o => hc _ o (by first | (simp; done) | (simp; omega) | omega); have g4_2 : ∀ o, w4.frozen? ⟨w3.heap.size, o, none⟩ = _ := fun o => hf _ o (by first | (simp; done) | (simp; omega) | omega); clear hb hz hc hf))
  refine wp_region_noPanic ?_
  refine wp_region_held_drew (S := (fun w' => w'.cell? ⟨w.heap.size, 0, none⟩ = some (.int .i64 x.k) ∧ w'.cell? ⟨w.heap.size, 1, none⟩ = some (.int .i64 x.t) ∧ w'.cell? ⟨w.heap.size, 2, none⟩ = some (.int .i64 x.i) ∧ w'.cell? ⟨w.heap.size, 3, none⟩ = some (.int .i64 x.l) ∧ w'.cell? ⟨w.heap.size, 4, none⟩ = some (.bool x.m) ∧ w'.cell? ⟨w.heap.size, 5, none⟩ = some (.int .u64 (x.a : Nat)) ∧ w'.cell? ⟨w.heap.size, 6, none⟩ = some (.int .u64 (x.b : Nat)))) (by kernel_rfl) ?_ (fun hHeld => ?_)
  · (try dsimp only)
    simp (maxDischargeDepth := 16) [*, World.cell?_alloc_some, World.cell?_setCell_far]
  refine wpAnyH_take (i := 0) (oi := ⟨_, _, _, _, _, _⟩) (v := ?_) rfl (by kernel_rfl) (by kernel_rfl) (by kernel_rfl) (fun _ _ _ h => h) (Or.inl ⟨rfl, ?_⟩) hHeld ?_
  rotate_left
  · (intro w hSw)
    (try dsimp only at hSw)
    (first | (go_simp; done) | (go_simp; with_reducible rfl))
  (try simp only [Act.put, List.setIfInBounds_toArray, List.set_cons_zero, List.set_cons_succ])
  refine wpAnyH_take (i := 1) (oi := ⟨_, _, _, _, _, _⟩) (v := ?_) rfl (by kernel_rfl) (by kernel_rfl) (by kernel_rfl) (fun _ _ _ h => h) (Or.inl ⟨rfl, ?_⟩) hHeld ?_
  rotate_left
  · (intro w hSw)
    (try dsimp only at hSw)
    (first | (go_simp; done) | (go_simp; with_reducible rfl))
  (try simp only [Act.put, List.setIfInBounds_toArray, List.set_cons_zero, List.set_cons_succ])
  refine wpAnyH_take (i := 2) (oi := ⟨_, _, _, _, _, _⟩) (v := ?_) rfl (by kernel_rfl) (by kernel_rfl) (by kernel_rfl) (fun _ _ _ h => h) (Or.inl ⟨rfl, ?_⟩) hHeld ?_
  rotate_left
  · (intro w hSw)
    (try dsimp only at hSw)
    (first | (go_simp; done) | (go_simp; with_reducible rfl))
  (try simp only [Act.put, List.setIfInBounds_toArray, List.set_cons_zero, List.set_cons_succ])
  refine wpAnyH_take (i := 4) (oi := ⟨_, _, _, _, _, _⟩) (v := ?_) rfl (by kernel_rfl) (by kernel_rfl) (by kernel_rfl) (fun _ _ _ h => h) (Or.inl ⟨rfl, ?_⟩) hHeld ?_
  rotate_left
  · (intro w hSw)
    (try dsimp only at hSw)
    (first | (go_simp; done) | (go_simp; with_reducible rfl))
  (try simp only [Act.put, List.setIfInBounds_toArray, List.set_cons_zero, List.set_cons_succ])
  refine wpAnyH_take (i := 5) (oi := ⟨_, _, _, _, _, _⟩) (v := ?_) rfl (by kernel_rfl) (by kernel_rfl) (by kernel_rfl) (fun _ _ _ h => h) (Or.inl ⟨rfl, ?_⟩) hHeld ?_
  rotate_left
  · (intro w hSw)
    (try dsimp only at hSw)
    (first | (go_simp; done) | (go_simp; with_reducible rfl))
  (try simp only [Act.put, List.setIfInBounds_toArray, List.set_cons_zero, List.set_cons_succ])
  refine wpAnyH_take (i := 6) (oi := ⟨_, _, _, _, _, _⟩) (v := ?_) rfl (by kernel_rfl) (by kernel_rfl) (by kernel_rfl) (fun _ _ _ h => h) (Or.inl ⟨rfl, ?_⟩) hHeld ?_
  rotate_left
  · (intro w hSw)
    (try dsimp only at hSw)
    (first | (go_simp; done) | (go_simp; with_reducible rfl))
  (try simp only [Act.put, List.setIfInBounds_toArray, List.set_cons_zero, List.set_cons_succ])
  refine wpAnyH_ready (rs := [3]) (by kernel_rfl) (by simp) ?_
  refine AllReadyH.cons (o := ⟨_, _, _, _, _, _⟩) rfl (fun K hK => ?_) AllReadyH.nil
  go_simp
  (first | (go_at_call 12; refine (M1 _).mono ?_; rintro e w5 ⟨rfl, hb⟩; have HB : Below w.heap.size w w5 := below_then (by (repeat (first | (with_reducible exact HB) | (with_reducible exact Below.refl _ _) | (with_reducible refine below_set ?_ (by (try dsimp only); omega) _) | (with_reducible apply below_drew) | (with_reducible apply below_draws) | (with_reducible apply below_alloc)))) hb; obtain ⟨hc, hf⟩ := bcell hb; have hz := hb.size; (try simp at hz); (have z5_0 : w.heap.size < w5.heap.size := by omega); have c5_0 : ∀ o, w5.cell? ⟨w.heap.size, o, none⟩ = _ := fun o => hc _ o (by first | (simp; done) | (simp; omega) | omega); have g5_0 : ∀ o, w5.frozen? ⟨w.heap.size, o, none⟩ = _ := fun o => hf _ o (by first | (simp; done) | (simp; omega) | omega); (have z5_1 : w2.heap.size < w5.heap.size := by omega); have c5_1 : ∀ o, w5.cell? ⟨w2.heap.size, o, none⟩ = _ := fun o => hc _ o (by first | (simp; done) | (simp; omega) | omega); have g5_1 : ∀ o, w5.frozen? ⟨w2.heap.size, o, none⟩ = _ := fun o => hf _ o (by first | (simp; done) | (simp; omega) | omega); (have z5_2 : w3.heap.size < w5.heap.size := by omega); have c5_2 : ∀ o, w5.cell? ⟨w3.heap.size, o, none⟩ = _ := fun o => hc _ o (by first | (simp; done) | (simp; omega) | omega); have g5_2 : ∀ o, w5.frozen? ⟨w3.heap.size, o, none⟩ = _ := fun o => hf _ o (by first | (simp; done) | (simp; omega) | omega); clear hb hz hc hf))
  (first | (refine hK.out _ _ ?_ (fun hHeld => ?_)) | (go_wp2_with fail; refine hK.out _ _ ?_ (fun hHeld => ?_)))
  · (try dsimp only)
    simp (maxDischargeDepth := 16) [*, World.cell?_alloc_some, World.cell?_setCell_far]
  clear hK K
  (try simp only [Act.put, List.setIfInBounds_toArray, List.set_cons_zero, List.set_cons_succ])
  refine wpAnyH_take (i := 7) (oi := ⟨_, _, _, _, _, _⟩) (v := ?_) rfl (by kernel_rfl) (by kernel_rfl) (by kernel_rfl) (fun _ _ _ h => h) (Or.inl ⟨rfl, ?_⟩) hHeld ?_
  rotate_left
  · (intro w hSw)
    (try dsimp only at hSw)
    (first | (go_simp; done) | (go_simp; with_reducible rfl))
  (try simp only [Act.put, List.setIfInBounds_toArray, List.set_cons_zero, List.set_cons_succ])
  refine wpAnyH_take (i := 8) (oi := ⟨_, _, _, _, _, _⟩) (v := undef) rfl (by kernel_rfl) (by kernel_rfl) (by kernel_rfl) (fun _ _ _ h => h) (Or.inr ⟨rfl, rfl⟩) hHeld ?_
  (try simp only [Act.put, List.setIfInBounds_toArray, List.set_cons_zero, List.set_cons_succ])
  refine wpAnyH_take (i := 9) (oi := ⟨_, _, _, _, _, _⟩) (v := undef) rfl (by kernel_rfl) (by kernel_rfl) (by kernel_rfl) (fun _ _ _ h => h) (Or.inr ⟨rfl, rfl⟩) hHeld ?_
  (try simp only [Act.put, List.setIfInBounds_toArray, List.set_cons_zero, List.set_cons_succ])
  refine wpAnyH_take (i := 10) (oi := ⟨_, _, _, _, _, _⟩) (v := undef) rfl (by kernel_rfl) (by kernel_rfl) (by kernel_rfl) (fun _ _ _ h => h) (Or.inr ⟨rfl, rfl⟩) hHeld ?_
  (try simp only [Act.put, List.setIfInBounds_toArray, List.set_cons_zero, List.set_cons_succ])
  refine wpAnyH_take (i := 11) (oi := ⟨_, _, _, _, _, _⟩) (v := ?_) rfl (by kernel_rfl) (by kernel_rfl) (by kernel_rfl) (fun _ _ _ h => h) (Or.inl ⟨rfl, ?_⟩) hHeld ?_
  rotate_left
  · (intro w hSw)
    (try dsimp only at hSw)
    (first | (go_simp; done) | (go_simp; with_reducible rfl))
  (try simp only [Act.put, List.setIfInBounds_toArray, List.set_cons_zero, List.set_cons_succ])
  refine wpAnyH_take (i := 12) (oi := ⟨_, _, _, _, _, _⟩) (v := ?_) rfl (by kernel_rfl) (by kernel_rfl) (by kernel_rfl) (fun _ _ _ h => h) (Or.inl ⟨rfl, ?_⟩) hHeld ?_
  rotate_left
  · (intro w hSw)
    (try dsimp only at hSw)
    (first | (go_simp; done) | (go_simp; with_reducible rfl))
  (try simp only [Act.put, List.setIfInBounds_toArray, List.set_cons_zero, List.set_cons_succ])
  refine wpAnyH_take (i := 13) (oi := ⟨_, _, _, _, _, _⟩) (v := ?_) rfl (by kernel_rfl) (by kernel_rfl) (by kernel_rfl) (fun _ _ _ h => h) (Or.inl ⟨rfl, ?_⟩) hHeld ?_
  rotate_left
  · (intro w hSw)
    (try dsimp only at hSw)
    (first | (go_simp; done) | (go_simp; with_reducible rfl))
  (try simp only [Act.put, List.setIfInBounds_toArray, List.set_cons_zero, List.set_cons_succ])
  refine wpAnyH_take (i := 14) (oi := ⟨_, _, _, _, _, _⟩) (v := ?_) rfl (by kernel_rfl) (by kernel_rfl) (by kernel_rfl) (fun _ _ _ h => h) (Or.inl ⟨rfl, ?_⟩) hHeld ?_
  rotate_left
  · (intro w hSw)
    (try dsimp only at hSw)
    (first | (go_simp; done) | (go_simp; with_reducible rfl))
  (try simp only [Act.put, List.setIfInBounds_toArray, List.set_cons_zero, List.set_cons_succ])
  refine wpAnyH_ready (rs := [15]) (by kernel_rfl) (by simp) ?_
  refine AllReadyH.cons (o := ⟨_, _, _, _, _, _⟩) rfl (fun K hK => ?_) AllReadyH.nil
  go_simp
  (first | (go_at_call 12; refine (M1 _).mono ?_; rintro e w5 ⟨rfl, hb⟩; have HB : Below w.heap.size w w5 := below_then (by (repeat (first | (with_reducible exact HB) | (with_reducible exact Below.refl _ _) | (with_reducible refine below_set ?_ (by (try dsimp only); omega) _) | (with_reducible apply below_drew) | (with_reducible apply below_draws) | (with_reducible apply below_alloc)))) hb; obtain ⟨hc, hf⟩ := bcell hb; have hz := hb.size; (try simp at hz); (have z5_0 : w.heap.size < w5.heap.size := by omega); have c5_0 : ∀ o, w5.cell? ⟨w.heap.size, o, none⟩ = _ := fun o => hc _ o (by first | (simp; done) | (simp; omega) | omega); have g5_0 : ∀ o, w5.frozen? ⟨w.heap.size, o, none⟩ = _ := fun o => hf _ o (by first | (simp; done) | (simp; omega) | omega); (have z5_1 : w2.heap.size < w5.heap.size := by omega); have c5_1 : ∀ o, w5.cell? ⟨w2.heap.size, o, none⟩ = _ := fun o => hc _ o (by first | (simp; done) | (simp; omega) | omega); have g5_1 : ∀ o, w5.frozen? ⟨w2.heap.size, o, none⟩ = _ := fun o => hf _ o (by first | (simp; done) | (simp; omega) | omega); (have z5_2 : w3.heap.size < w5.heap.size := by omega); have c5_2 : ∀ o, w5.cell? ⟨w3.heap.size, o, none⟩ = _ := fun o => hc _ o (by first | (simp; done) | (simp; omega) | omega); have g5_2 : ∀ o, w5.frozen? ⟨w3.heap.size, o, none⟩ = _ := fun o => hf _ o (by first | (simp; done) | (simp; omega) | omega); clear hb hz hc hf))
  (first | (refine hK.out _ _ ?_ (fun hHeld => ?_)) | (go_wp2_with fail; refine hK.out _ _ ?_ (fun hHeld => ?_)))
  · (try dsimp only)
    simp (maxDischargeDepth := 16) [*, World.cell?_alloc_some, World.cell?_setCell_far]
  clear hK K
  (try simp only [Act.put, List.setIfInBounds_toArray, List.set_cons_zero, List.set_cons_succ])
  refine wpAnyH_take (i := 16) (oi := ⟨_, _, _, _, _, _⟩) (v := ?_) rfl (by kernel_rfl) (by kernel_rfl) (by kernel_rfl) (fun _ _ _ h => h) (Or.inl ⟨rfl, ?_⟩) hHeld ?_
  rotate_left
  · (intro w hSw)
    (try dsimp only at hSw)
    (first | (go_simp; done) | (go_simp; with_reducible rfl))
  (try simp only [Act.put, List.setIfInBounds_toArray, List.set_cons_zero, List.set_cons_succ])
  refine wpAnyH_take (i := 17) (oi := ⟨_, _, _, _, _, _⟩) (v := ?_) rfl (by kernel_rfl) (by kernel_rfl) (by kernel_rfl) (fun _ _ _ h => h) (Or.inl ⟨rfl, ?_⟩) hHeld ?_
  rotate_left
  · (intro w hSw)
    (try dsimp only at hSw)
    (first | (go_simp; done) | (go_simp; with_reducible rfl))
  (try simp only [Act.put, List.setIfInBounds_toArray, List.set_cons_zero, List.set_cons_succ])
  refine wpAnyH_take (i := 18) (oi := ⟨_, _, _, _, _, _⟩) (v := ?_) rfl (by kernel_rfl) (by kernel_rfl) (by kernel_rfl) (fun _ _ _ h => h) (Or.inl ⟨rfl, ?_⟩) hHeld ?_
  rotate_left
  · (intro w hSw)
    (try dsimp only at hSw)
    (first | (go_simp; done) | (go_simp; with_reducible rfl))
  (try simp only [Act.put, List.setIfInBounds_toArray, List.set_cons_zero, List.set_cons_succ])
  refine wpAnyH_take (i := 19) (oi := ⟨_, _, _, _, _, _⟩) (v := ?_) rfl (by kernel_rfl) (by kernel_rfl) (by kernel_rfl) (fun _ _ _ h => h) (Or.inl ⟨rfl, ?_⟩) hHeld ?_
  rotate_left
  · (intro w hSw)
    (try dsimp only at hSw)
    (first | (go_simp; done) | (go_simp; with_reducible rfl))
  (try simp only [Act.put, List.setIfInBounds_toArray, List.set_cons_zero, List.set_cons_succ])
  refine wpAnyH_take (i := 20) (oi := ⟨_, _, _, _, _, _⟩) (v := ?_) rfl (by kernel_rfl) (by kernel_rfl) (by kernel_rfl) (fun _ _ _ h => h) (Or.inl ⟨rfl, ?_⟩) hHeld ?_
  rotate_left
  · (intro w hSw)
    (try dsimp only at hSw)
    (first | (go_simp; done) | (go_simp; with_reducible rfl))
  (try simp only [Act.put, List.setIfInBounds_toArray, List.set_cons_zero, List.set_cons_succ])
  refine wpAnyH_take (i := 21) (oi := ⟨_, _, _, _, _, _⟩) (v := ?_) rfl (by kernel_rfl) (by kernel_rfl) (by kernel_rfl) (fun _ _ _ h => h) (Or.inl ⟨rfl, ?_⟩) hHeld ?_
  rotate_left
  · (intro w hSw)
    (try dsimp only at hSw)
    (first | (go_simp; done) | (go_simp; with_reducible rfl))
  (try simp only [Act.put, List.setIfInBounds_toArray, List.set_cons_zero, List.set_cons_succ])
  refine wpAnyH_take (i := 22) (oi := ⟨_, _, _, _, _, _⟩) (v := ?_) rfl (by kernel_rfl) (by kernel_rfl) (by kernel_rfl) (fun _ _ _ h => h) (Or.inl ⟨rfl, ?_⟩) hHeld ?_
  rotate_left
  · (intro w hSw)
    (try dsimp only at hSw)
    (first | (go_simp; done) | (go_simp; with_reducible rfl))
  (try simp only [Act.put, List.setIfInBounds_toArray, List.set_cons_zero, List.set_cons_succ])
  refine wpAnyH_take (i := 23) (oi := ⟨_, _, _, _, _, _⟩) (v := ?_) rfl (by kernel_rfl) (by kernel_rfl) (by kernel_rfl) (fun _ _ _ h => h) (Or.inl ⟨rfl, ?_⟩) hHeld ?_
  rotate_left
  · (intro w hSw)
    (try dsimp only at hSw)
    (first | (go_simp; done) | (go_simp; with_reducible rfl))
  (try simp only [Act.put, List.setIfInBounds_toArray, List.set_cons_zero, List.set_cons_succ])
  refine wpAnyH_take (i := 24) (oi := ⟨_, _, _, _, _, _⟩) (v := ?_) rfl (by kernel_rfl) (by kernel_rfl) (by kernel_rfl) (fun _ _ _ h => h) (Or.inl ⟨rfl, ?_⟩) hHeld ?_
  rotate_left
  · (intro w hSw)
    (try dsimp only at hSw)
    (first | (go_simp; done) | (go_simp; with_reducible rfl))
  (try simp only [Act.put, List.setIfInBounds_toArray, List.set_cons_zero, List.set_cons_succ])
  refine wpAnyH_take (i := 25) (oi := ⟨_, _, _, _, _, _⟩) (v := ?_) rfl (by kernel_rfl) (by kernel_rfl) (by kernel_rfl) (fun _ _ _ h => h) (Or.inl ⟨rfl, ?_⟩) hHeld ?_
  rotate_left
  · (intro w hSw)
    (try dsimp only at hSw)
    (first | (go_simp; done) | (go_simp; with_reducible rfl))
  (try simp only [Act.put, List.setIfInBounds_toArray, List.set_cons_zero, List.set_cons_succ])
  refine wpAnyH_take (i := 26) (oi := ⟨_, _, _, _, _, _⟩) (v := ?_) rfl (by kernel_rfl) (by kernel_rfl) (by kernel_rfl) (fun _ _ _ h => h) (Or.inl ⟨rfl, ?_⟩) hHeld ?_
  rotate_left
  · (intro w hSw)
    (try dsimp only at hSw)
    (first | (go_simp; done) | (go_simp; with_reducible rfl))
  (try simp only [Act.put, List.setIfInBounds_toArray, List.set_cons_zero, List.set_cons_succ])
  refine wpAnyH_take (i := 27) (oi := ⟨_, _, _, _, _, _⟩) (v := ?_) rfl (by kernel_rfl) (by kernel_rfl) (by kernel_rfl) (fun _ _ _ h => h) (Or.inl ⟨rfl, ?_⟩) hHeld ?_
  rotate_left
  · (intro w hSw)
    (try dsimp only at hSw)
    (first | (go_simp; done) | (go_simp; with_reducible rfl))
  (try simp only [Act.put, List.setIfInBounds_toArray, List.set_cons_zero, List.set_cons_succ])
  refine wpAnyH_take (i := 28) (oi := ⟨_, _, _, _, _, _⟩) (v := ?_) rfl (by kernel_rfl) (by kernel_rfl) (by kernel_rfl) (fun _ _ _ h => h) (Or.inl ⟨rfl, ?_⟩) hHeld ?_
  rotate_left
  · (intro w hSw)
    (try dsimp only at hSw)
    (first | (go_simp; done) | (go_simp; with_reducible rfl))
  (try simp only [Act.put, List.setIfInBounds_toArray, List.set_cons_zero, List.set_cons_succ])
  refine wpAnyH_take (i := 29) (oi := ⟨_, _, _, _, _, _⟩) (v := ?_) rfl (by kernel_rfl) (by kernel_rfl) (by kernel_rfl) (fun _ _ _ h => h) (Or.inl ⟨rfl, ?_⟩) hHeld ?_
  rotate_left
  · (intro w hSw)
    (try dsimp only at hSw)
    (first | (go_simp; done) | (go_simp; with_reducible rfl))
  (try simp only [Act.put, List.setIfInBounds_toArray, List.set_cons_zero, List.set_cons_succ])
  refine wpAnyH_take (i := 30) (oi := ⟨_, _, _, _, _, _⟩) (v := ?_) rfl (by kernel_rfl) (by kernel_rfl) (by kernel_rfl) (fun _ _ _ h => h) (Or.inl ⟨rfl, ?_⟩) hHeld ?_
  rotate_left
  · (intro w hSw)
    (try dsimp only at hSw)
    (first | (go_simp; done) | (go_simp; with_reducible rfl))
  (try simp only [Act.put, List.setIfInBounds_toArray, List.set_cons_zero, List.set_cons_succ])
  refine wpAnyH_take (i := 31) (oi := ⟨_, _, _, _, _, _⟩) (v := ?_) rfl (by kernel_rfl) (by kernel_rfl) (by kernel_rfl) (fun _ _ _ h => h) (Or.inl ⟨rfl, ?_⟩) hHeld ?_
  rotate_left
  · (intro w hSw)
    (try dsimp only at hSw)
    (first | (go_simp; done) | (go_simp; with_reducible rfl))
  (try simp only [Act.put, List.setIfInBounds_toArray, List.set_cons_zero, List.set_cons_succ])
  refine wpAnyH_take (i := 32) (oi := ⟨_, _, _, _, _, _⟩) (v := ?_) rfl (by kernel_rfl) (by kernel_rfl) (by kernel_rfl) (fun _ _ _ h => h) (Or.inl ⟨rfl, ?_⟩) hHeld ?_
  rotate_left
  · (intro w hSw)
    (try dsimp only at hSw)
    (first | (go_simp; done) | (go_simp; with_reducible rfl))
  (try simp only [Act.put, List.setIfInBounds_toArray, List.set_cons_zero, List.set_cons_succ])
  refine wpAnyH_done (by kernel_rfl) ?_ _
  refine NoPanic.normal ?_
  all_goals
    go_wp2
    go_ret
    exact ⟨rfl, (by (repeat (first | (with_reducible exact HB) | (with_reducible exact Below.refl _ _) | (with_reducible refine below_set ?_ (by (try dsimp only); omega) _) | (with_reducible apply below_drew) | (with_reducible apply below_draws) | (with_reducible apply below_alloc))))⟩

set_option maxRecDepth 100000 in
set_option maxHeartbeats 8000000 in
theorem split_a1 (x A D : Wh) (S1 : ∀ w : World, Calls Try.prog 13 #[.agg #[.int .i64 x.k, .int .i64 x.t, .int .i64 x.i, .int .i64 x.l, .bool x.m, .int .u64 (x.a : Nat), .int .u64 (x.b : Nat)], .bool true] w fun e w' => e = .returned (.tuple #[.agg #[.int .i64 A.k, .int .i64 A.t, .int .i64 A.i, .int .i64 A.l, .bool A.m, .int .u64 (A.a : Nat), .int .u64 (A.b : Nat)], .bool false]) ∧ Below w.heap.size w w') (S2 : ∀ w : World, Calls Try.prog 13 #[.agg #[.int .i64 x.k, .int .i64 x.t, .int .i64 x.i, .int .i64 x.l, .bool x.m, .int .u64 (x.a : Nat), .int .u64 (x.b : Nat)], .bool false] w fun e w' => e = .returned (.tuple #[.agg #[.int .i64 D.k, .int .i64 D.t, .int .i64 D.i, .int .i64 D.l, .bool D.m, .int .u64 (D.a : Nat), .int .u64 (D.b : Nat)], .bool false]) ∧ Below w.heap.size w w') (M1 : ∀ w : World, Calls Try.prog 12 #[.agg #[.int .i64 x.k, .int .i64 x.t, .int .i64 x.i, .int .i64 x.l, .bool x.m, .int .u64 (x.a : Nat), .int .u64 (x.b : Nat)]] w fun e w' => e = .returned (.bool false) ∧ Below w.heap.size w w') (e0 : (x.k == 0) = false) (e1 : (x.k == 1) = true) (g : decide (1 < x.k) = false) (w : World) :
    Calls Try.prog 4 #[.agg #[.int .i64 x.k, .int .i64 x.t, .int .i64 x.i, .int .i64 x.l, .bool x.m, .int .u64 (x.a : Nat), .int .u64 (x.b : Nat)]] w fun e w' => e = .returned (.bool true) ∧ Below w.heap.size w w' := by
  have he := eqWhat
  have nn0 : ∀ n : Nat, ¬ n = n + 1 + 1 := fun n => by omega
  have nn1 : ∀ n : Nat, ¬ n + 1 + 1 = n := fun n => by omega
  have nn2 : ∀ n : Nat, ¬ n = n + 1 + 1 + 1 := fun n => by omega
  have nn3 : ∀ n : Nat, ¬ n + 1 + 1 + 1 = n := fun n => by omega
  have nn4 : ∀ n : Nat, ¬ n + 1 = n + 1 + 1 + 1 := fun n => by omega
  have nn5 : ∀ n : Nat, ¬ n + 1 + 1 + 1 = n + 1 := fun n => by omega
  have nn6 : ∀ a b : Nat, a < b → ¬ a = b + 1 + 1 := fun a b h => by omega
  have nn7 : ∀ a b : Nat, a < b → ¬ a = b + 1 := fun a b h => by omega
  have nn8 : ∀ a b : Nat, a < b → ¬ a = b := fun a b h => by omega
  have nn9 : ∀ a b : Nat, a < b → a ≤ b := fun a b h => by omega
  have nn10 : ∀ a b : Nat, a < b → a ≤ b + 1 := fun a b h => by omega
  have nn11 : ∀ a b : Nat, a < b → a < b + 1 + 1 := fun a b h => by omega
  have nn12 : ∀ a b : Nat, a < b → a < b + 1 := fun a b h => by omega
  have nn13 : ∀ a b : Nat, a < b → ¬ b = a := fun a b h => by omega
  have nn14 : ∀ a b : Nat, a < b → ¬ b + 1 = a := fun a b h => by omega
  go_enter Try.func4, Try.ntmps4
  go_upto_region 4 with (first | (go_at_call 10; ((with_reducible refine (shown_any _).mono ?_); rintro e w1 ⟨rfl, hb⟩); have HB : Below w.heap.size w w1 := below_then (by (repeat (first | (with_reducible exact HB) | (with_reducible exact Below.refl _ _) | (with_reducible refine below_set ?_ (by (try dsimp only); omega) _) | (with_reducible apply below_drew) | (with_reducible apply below_draws) | (with_reducible apply below_alloc)))) hb; obtain ⟨hc, hf⟩ := bcell hb; have hz := hb.size; (try simp at hz); (have z1_0 : w.heap.size < w1.heap.size := by omega); have c1_0 : ∀ o, w1.cell? ⟨w.heap.size, o, none⟩ = _ := fun o => hc _ o (by first | (simp; done) | (simp; omega) | omega); have g1_0 : ∀ o, w1.frozen? ⟨w.heap.size, o, none⟩ = _ := fun o => hf _ o (by first | (simp; done) | (simp; omega) | omega); clear hb hz hc hf) | (go_at_call 13; ((with_reducible refine (S1 _).mono ?_); rintro e w2 ⟨rfl, hb⟩); have HB : Below w.heap.size w w2 := below_then (by (repeat (first | (with_reducible exact HB) | (with_reducible exact Below.refl _ _) | (with_reducible refine below_set ?_ (by (try dsimp only); omega) _) | (with_reducible apply below_drew) | (with_reducible apply below_draws) | (with_reducible apply below_alloc)))) hb; obtain ⟨hc, hf⟩ := bcell hb; have hz := hb.size; (try simp at hz); (have z2_0 : w.heap.size < w2.heap.size := by omega); have c2_0 : ∀ o, w2.cell? ⟨w.heap.size, o, none⟩ = _ := fun o => hc _ o (by first | (simp; done) | (simp; omega) | omega); have g2_0 : ∀ o, w2.frozen? ⟨w.heap.size, o, none⟩ = _ := fun o => hf _ o (by first | (simp; done) | (simp; omega) | omega); clear hb hz hc hf; clear S1) | (go_at_call 13; ((with_reducible refine (S2 _).mono ?_); rintro e w3 ⟨rfl, hb⟩); have HB : Below w.heap.size w w3 := below_then (by (repeat (first | (with_reducible exact HB) | (with_reducible exact Below.refl _ _) | (with_reducible refine below_set ?_ (by (try dsimp only); omega) _) | (with_reducible apply below_drew) | (with_reducible apply below_draws) | (with_reducible apply below_alloc)))) hb; obtain ⟨hc, hf⟩ := bcell hb; have hz := hb.size; (try simp at hz); (have z3_0 : w.heap.size < w3.heap.size := by omega); have c3_0 : ∀ o, w3.cell? ⟨w.heap.size, o, none⟩ = _ := fun o => hc _ o (by first | (simp; done) | (simp; omega) | omega); have g3_0 : ∀ o, w3.frozen? ⟨w.heap.size, o, none⟩ = _ := fun o => hf _ o (by first | (simp; done) | (simp; omega) | omega); (have z3_1 : w2.heap.size < w3.heap.size := by omega); have c3_1 : ∀ o, w3.cell? ⟨w2.heap.size, o, none⟩ = _ := fun o => hc _ o (by first | (simp; done) | (simp; omega) | omega); have g3_1 : ∀ o, w3.frozen? ⟨w2.heap.size, o, none⟩ = _ := fun o => hf _ o (by first | (simp; done) | (simp; omega) | omega); clear hb hz hc hf))
  refine named (P := fun W => Code.wp _ _ _ _ W) (fun W => Seven W (w.heap.size) x.k x.t x.i x.l x.m (x.a : Nat) (x.b : Nat) ∧ Seven W (w2.heap.size) A.k A.t A.i A.l A.m (A.a : Nat) (A.b : Nat) ∧ Seven W (w3.heap.size) D.k D.t D.i D.l D.m (D.a : Nat) (D.b : Nat) ∧ w.heap.size < W.heap.size ∧ w2.heap.size < W.heap.size ∧ w3.heap.size < W.heap.size ∧ Below w.heap.size w W) ⟨⟨(by first | (with_reducible assumption) | (go_simp; done) | (simp (maxDischargeDepth := 16) [*]; done)), (by first | (with_reducible assumption) | (go_simp; done) | (simp (maxDischargeDepth := 16) [*]; done)), (by first | (with_reducible assumption) | (go_simp; done) | (simp (maxDischargeDepth := 16) [*]; done)), (by first | (with_reducible assumption) | (go_simp; done) | (simp (maxDischargeDepth := 16) [*]; done)), (by first | (with_reducible assumption) | (go_simp; done) | (simp (maxDischargeDepth := 16) [*]; done)), (by first | (with_reducible assumption) | (go_simp; done) | (simp (maxDischargeDepth := 16) [*]; done)), (by first | (with_reducible assumption) | (go_simp; done) | (simp (maxDischargeDepth := 16) [*]; done))⟩, ⟨(by first | (with_reducible assumption) | (go_simp; done) | (simp (maxDischargeDepth := 16) [*]; done)), (by first | (with_reducible assumption) | (go_simp; done) | (simp (maxDischargeDepth := 16) [*]; done)), (by first | (with_reducible assumption) | (go_simp; done) | (simp (maxDischargeDepth := 16) [*]; done)), (by first | (with_reducible assumption) | (go_simp; done) | (simp (maxDischargeDepth := 16) [*]; done)), (by first | (with_reducible assumption) | (go_simp; done) | (simp (maxDischargeDepth := 16) [*]; done)), (by first | (with_reducible assumption) | (go_simp; done) | (simp (maxDischargeDepth := 16) [*]; done)), (by first | (with_reducible assumption) | (go_simp; done) | (simp (maxDischargeDepth := 16) [*]; done))⟩, ⟨(by first | (with_reducible assumption) | (go_simp; done) | (simp (maxDischargeDepth := 16) [*]; done)), (by first | (with_reducible assumption) | (go_simp; done) | (simp (maxDischargeDepth := 16) [*]; done)), (by first | (with_reducible assumption) | (go_simp; done) | (simp (maxDischargeDepth := 16) [*]; done)), (by first | (with_reducible assumption) | (go_simp; done) | (simp (maxDischargeDepth := 16) [*]; done)), (by first | (with_reducible assumption) | (go_simp; done) | (simp (maxDischargeDepth := 16) [*]; done)), (by first | (with_reducible assumption) | (go_simp; done) | (simp (maxDischargeDepth := 16) [*]; done)), (by first | (with_reducible assumption) | (go_simp; done) | (simp (maxDischargeDepth := 16) [*]; done))⟩, (by first | omega | (simp; done) | (simp; omega)), (by first | omega | (simp; done) | (simp; omega)), (by first | omega | (simp; done) | (simp; omega)), (by (repeat (first | (with_reducible exact HB) | (with_reducible exact Below.refl _ _) | (with_reducible refine below_set ?_ (by (try dsimp only); omega) _) | (with_reducible apply below_drew) | (with_reducible apply below_draws) | (with_reducible apply below_alloc))))⟩ ?_
  rintro W ⟨⟨o00, o01, o02, o03, o04, o05, o06⟩, ⟨o10, o11, o12, o13, o14, o15, o16⟩, ⟨o20, o21, o22, o23, o24, o25, o26⟩, hs0, hs1, hs2, HB⟩
  clear S2
  go_upto_region 5 with (first | (go_at_call 12; ((with_reducible refine (M1 _).mono ?_); rintro e w4 ⟨rfl, hb⟩); have HB : Below w.heap.size w w4 := below_then (by (repeat (first | (with_reducible exact HB) | (with_reducible exact Below.refl _ _) | (with_reducible refine below_set ?_ (by (try dsimp only); omega) _) | (with_reducible apply below_drew) | (with_reducible apply below_draws) | (with_reducible apply below_alloc)))) hb; obtain ⟨hc, hf⟩ := bcell hb; have hz := hb.size; (try simp at hz); (have z4_0 : w.heap.size < w4.heap.size := by omega); have c4_0 : ∀ o, w4.cell? ⟨w.heap.size, o, none⟩ = _ := fun o => hc _ o (by first | (simp; done) | (simp; omega) | omega); have g4_0 : ∀ o, w4.frozen? ⟨w.heap.size, o, none⟩ = _ := fun o => hf _ o (by first | (simp; done) | (simp; omega) | omega); (have z4_1 : w2.heap.size < w4.heap.size := by omega); have c4_1 : ∀ o, w4.cell? ⟨w2.heap.size, o, none⟩ = _ := fun o => hc _ o (by first | (simp; done) | (simp; omega) | omega); have g4_1 : ∀ o, w4.frozen? ⟨w2.heap.size, o, none⟩ = _ := fun o => hf _ o (by first | (simp; done) | (simp; omega) | omega); (have z4_2 : w3.heap.size < w4.heap.size := by omega); have c4_2 : ∀ o, w4.cell? ⟨w3.heap.size, o, none⟩ = _ := fun o => hc _ o (by first | (simp; done) | (simp; omega) | omega); have g4_2 : ∀ o, w4.frozen? ⟨w3.heap.size, o, none⟩ = _ := fun o => hf _ o (by first | (simp; done) | (simp; omega) | omega); clear hb hz hc hf))
  refine wp_region_noPanic ?_
  refine wp_region_held_drew (S := (fun w' => w'.cell? ⟨w.heap.size, 0, none⟩ = some (.int .i64 x.k) ∧ w'.cell? ⟨w.heap.size, 1, none⟩ = some (.int .i64 x.t) ∧ w'.cell? ⟨w.heap.size, 2, none⟩ = some (.int .i64 x.i) ∧ w'.cell? ⟨w.heap.size, 3, none⟩ = some (.int .i64 x.l) ∧ w'.cell? ⟨w.heap.size, 4, none⟩ = some (.bool x.m) ∧ w'.cell? ⟨w.heap.size, 5, none⟩ = some (.int .u64 (x.a : Nat)) ∧ w'.cell? ⟨w.heap.size, 6, none⟩ = some (.int .u64 (x.b : Nat)))) (by kernel_rfl) ?_ (fun hHeld => ?_)
  · (try dsimp only)
    simp (maxDischargeDepth := 16) [*, World.cell?_alloc_some, World.cell?_setCell_far]
  refine wpAnyH_take (i := 0) (oi := ⟨_, _, _, _, _, _⟩) (v := ?_) rfl (by kernel_rfl) (by kernel_rfl) (by kernel_rfl) (fun _ _ _ h => h) (Or.inl ⟨rfl, ?_⟩) hHeld ?_
  rotate_left
  · (intro w hSw)
    (try dsimp only at hSw)
    (first | (go_simp; done) | (go_simp; with_reducible rfl))
  (try simp only [Act.put, List.setIfInBounds_toArray, List.set_cons_zero, List.set_cons_succ])
  refine wpAnyH_take (i := 1) (oi := ⟨_, _, _, _, _, _⟩) (v := ?_) rfl (by kernel_rfl) (by kernel_rfl) (by kernel_rfl) (fun _ _ _ h => h) (Or.inl ⟨rfl, ?_⟩) hHeld ?_
  rotate_left
  · (intro w hSw)
    (try dsimp only at hSw)
    (first | (go_simp; done) | (go_simp; with_reducible rfl))
  (try simp only [Act.put, List.setIfInBounds_toArray, List.set_cons_zero, List.set_cons_succ])
  refine wpAnyH_take (i := 2) (oi := ⟨_, _, _, _, _, _⟩) (v := ?_) rfl (by kernel_rfl) (by kernel_rfl) (by kernel_rfl) (fun _ _ _ h => h) (Or.inl ⟨rfl, ?_⟩) hHeld ?_
  rotate_left
  · (intro w hSw)
    (try dsimp only at hSw)
    (first | (go_simp; done) | (go_simp; with_reducible rfl))
  (try simp only [Act.put, List.setIfInBounds_toArray, List.set_cons_zero, List.set_cons_succ])
  refine wpAnyH_take (i := 4) (oi := ⟨_, _, _, _, _, _⟩) (v := ?_) rfl (by kernel_rfl) (by kernel_rfl) (by kernel_rfl) (fun _ _ _ h => h) (Or.inl ⟨rfl, ?_⟩) hHeld ?_
  rotate_left
  · (intro w hSw)
    (try dsimp only at hSw)
    (first | (go_simp; done) | (go_simp; with_reducible rfl))
  (try simp only [Act.put, List.setIfInBounds_toArray, List.set_cons_zero, List.set_cons_succ])
  refine wpAnyH_take (i := 5) (oi := ⟨_, _, _, _, _, _⟩) (v := ?_) rfl (by kernel_rfl) (by kernel_rfl) (by kernel_rfl) (fun _ _ _ h => h) (Or.inl ⟨rfl, ?_⟩) hHeld ?_
  rotate_left
  · (intro w hSw)
    (try dsimp only at hSw)
    (first | (go_simp; done) | (go_simp; with_reducible rfl))
  (try simp only [Act.put, List.setIfInBounds_toArray, List.set_cons_zero, List.set_cons_succ])
  refine wpAnyH_take (i := 6) (oi := ⟨_, _, _, _, _, _⟩) (v := ?_) rfl (by kernel_rfl) (by kernel_rfl) (by kernel_rfl) (fun _ _ _ h => h) (Or.inl ⟨rfl, ?_⟩) hHeld ?_
  rotate_left
  · (intro w hSw)
    (try dsimp only at hSw)
    (first | (go_simp; done) | (go_simp; with_reducible rfl))
  (try simp only [Act.put, List.setIfInBounds_toArray, List.set_cons_zero, List.set_cons_succ])
  refine wpAnyH_ready (rs := [3]) (by kernel_rfl) (by simp) ?_
  refine AllReadyH.cons (o := ⟨_, _, _, _, _, _⟩) rfl (fun K hK => ?_) AllReadyH.nil
  go_simp
  (first | (go_at_call 12; refine (M1 _).mono ?_; rintro e w5 ⟨rfl, hb⟩; have HB : Below w.heap.size w w5 := below_then (by (repeat (first | (with_reducible exact HB) | (with_reducible exact Below.refl _ _) | (with_reducible refine below_set ?_ (by (try dsimp only); omega) _) | (with_reducible apply below_drew) | (with_reducible apply below_draws) | (with_reducible apply below_alloc)))) hb; obtain ⟨hc, hf⟩ := bcell hb; have hz := hb.size; (try simp at hz); (have z5_0 : w.heap.size < w5.heap.size := by omega); have c5_0 : ∀ o, w5.cell? ⟨w.heap.size, o, none⟩ = _ := fun o => hc _ o (by first | (simp; done) | (simp; omega) | omega); have g5_0 : ∀ o, w5.frozen? ⟨w.heap.size, o, none⟩ = _ := fun o => hf _ o (by first | (simp; done) | (simp; omega) | omega); (have z5_1 : w2.heap.size < w5.heap.size := by omega); have c5_1 : ∀ o, w5.cell? ⟨w2.heap.size, o, none⟩ = _ := fun o => hc _ o (by first | (simp; done) | (simp; omega) | omega); have g5_1 : ∀ o, w5.frozen? ⟨w2.heap.size, o, none⟩ = _ := fun o => hf _ o (by first | (simp; done) | (simp; omega) | omega); (have z5_2 : w3.heap.size < w5.heap.size := by omega); have c5_2 : ∀ o, w5.cell? ⟨w3.heap.size, o, none⟩ = _ := fun o => hc _ o (by first | (simp; done) | (simp; omega) | omega); have g5_2 : ∀ o, w5.frozen? ⟨w3.heap.size, o, none⟩ = _ := fun o => hf _ o (by first | (simp; done) | (simp; omega) | omega); clear hb hz hc hf))
  (first | (refine hK.out _ _ ?_ (fun hHeld => ?_)) | (go_wp2_with fail; refine hK.out _ _ ?_ (fun hHeld => ?_)))
  · (try dsimp only)
    simp (maxDischargeDepth := 16) [*, World.cell?_alloc_some, World.cell?_setCell_far]
  clear hK K
  (try simp only [Act.put, List.setIfInBounds_toArray, List.set_cons_zero, List.set_cons_succ])
  refine wpAnyH_take (i := 7) (oi := ⟨_, _, _, _, _, _⟩) (v := ?_) rfl (by kernel_rfl) (by kernel_rfl) (by kernel_rfl) (fun _ _ _ h => h) (Or.inl ⟨rfl, ?_⟩) hHeld ?_
  rotate_left
  · (intro w hSw)
    (try dsimp only at hSw)
    (first | (go_simp; done) | (go_simp; with_reducible rfl))
  (try simp only [Act.put, List.setIfInBounds_toArray, List.set_cons_zero, List.set_cons_succ])
  refine wpAnyH_take (i := 8) (oi := ⟨_, _, _, _, _, _⟩) (v := ?_) rfl (by kernel_rfl) (by kernel_rfl) (by kernel_rfl) (fun _ _ _ h => h) (Or.inl ⟨rfl, ?_⟩) hHeld ?_
  rotate_left
  · (intro w hSw)
    (try dsimp only at hSw)
    (first | (go_simp; done) | (go_simp; with_reducible rfl))
  (try simp only [Act.put, List.setIfInBounds_toArray, List.set_cons_zero, List.set_cons_succ])
  refine wpAnyH_take (i := 9) (oi := ⟨_, _, _, _, _, _⟩) (v := ?_) rfl (by kernel_rfl) (by kernel_rfl) (by kernel_rfl) (fun _ _ _ h => h) (Or.inl ⟨rfl, ?_⟩) hHeld ?_
  rotate_left
  · (intro w hSw)
    (try dsimp only at hSw)
    (first | (go_simp; done) | (go_simp; with_reducible rfl))
  (try simp only [Act.put, List.setIfInBounds_toArray, List.set_cons_zero, List.set_cons_succ])
  refine wpAnyH_take (i := 10) (oi := ⟨_, _, _, _, _, _⟩) (v := ?_) rfl (by kernel_rfl) (by kernel_rfl) (by kernel_rfl) (fun _ _ _ h => h) (Or.inl ⟨rfl, ?_⟩) hHeld ?_
  rotate_left
  · (intro w hSw)
    (try dsimp only at hSw)
    (first | (go_simp; done) | (go_simp; with_reducible rfl))
  (try simp only [Act.put, List.setIfInBounds_toArray, List.set_cons_zero, List.set_cons_succ])
  refine wpAnyH_take (i := 11) (oi := ⟨_, _, _, _, _, _⟩) (v := ?_) rfl (by kernel_rfl) (by kernel_rfl) (by kernel_rfl) (fun _ _ _ h => h) (Or.inl ⟨rfl, ?_⟩) hHeld ?_
  rotate_left
  · (intro w hSw)
    (try dsimp only at hSw)
    (first | (go_simp; done) | (go_simp; with_reducible rfl))
  (try simp only [Act.put, List.setIfInBounds_toArray, List.set_cons_zero, List.set_cons_succ])
  refine wpAnyH_take (i := 12) (oi := ⟨_, _, _, _, _, _⟩) (v := ?_) rfl (by kernel_rfl) (by kernel_rfl) (by kernel_rfl) (fun _ _ _ h => h) (Or.inl ⟨rfl, ?_⟩) hHeld ?_
  rotate_left
  · (intro w hSw)
    (try dsimp only at hSw)
    (first | (go_simp; done) | (go_simp; with_reducible rfl))
  (try simp only [Act.put, List.setIfInBounds_toArray, List.set_cons_zero, List.set_cons_succ])
  refine wpAnyH_take (i := 13) (oi := ⟨_, _, _, _, _, _⟩) (v := ?_) rfl (by kernel_rfl) (by kernel_rfl) (by kernel_rfl) (fun _ _ _ h => h) (Or.inl ⟨rfl, ?_⟩) hHeld ?_
  rotate_left
  · (intro w hSw)
    (try dsimp only at hSw)
    (first | (go_simp; done) | (go_simp; with_reducible rfl))
  (try simp only [Act.put, List.setIfInBounds_toArray, List.set_cons_zero, List.set_cons_succ])
  refine wpAnyH_take (i := 14) (oi := ⟨_, _, _, _, _, _⟩) (v := ?_) rfl (by kernel_rfl) (by kernel_rfl) (by kernel_rfl) (fun _ _ _ h => h) (Or.inl ⟨rfl, ?_⟩) hHeld ?_
  rotate_left
  · (intro w hSw)
    (try dsimp only at hSw)
    (first | (go_simp; done) | (go_simp; with_reducible rfl))
  (try simp only [Act.put, List.setIfInBounds_toArray, List.set_cons_zero, List.set_cons_succ])
  refine wpAnyH_ready (rs := [15]) (by kernel_rfl) (by simp) ?_
  refine AllReadyH.cons (o := ⟨_, _, _, _, _, _⟩) rfl (fun K hK => ?_) AllReadyH.nil
  go_simp
  (first | (go_at_call 12; refine (M1 _).mono ?_; rintro e w5 ⟨rfl, hb⟩; have HB : Below w.heap.size w w5 := below_then (by (repeat (first | (with_reducible exact HB) | (with_reducible exact Below.refl _ _) | (with_reducible refine below_set ?_ (by (try dsimp only); omega) _) | (with_reducible apply below_drew) | (with_reducible apply below_draws) | (with_reducible apply below_alloc)))) hb; obtain ⟨hc, hf⟩ := bcell hb; have hz := hb.size; (try simp at hz); (have z5_0 : w.heap.size < w5.heap.size := by omega); have c5_0 : ∀ o, w5.cell? ⟨w.heap.size, o, none⟩ = _ := fun o => hc _ o (by first | (simp; done) | (simp; omega) | omega); have g5_0 : ∀ o, w5.frozen? ⟨w.heap.size, o, none⟩ = _ := fun o => hf _ o (by first | (simp; done) | (simp; omega) | omega); (have z5_1 : w2.heap.size < w5.heap.size := by omega); have c5_1 : ∀ o, w5.cell? ⟨w2.heap.size, o, none⟩ = _ := fun o => hc _ o (by first | (simp; done) | (simp; omega) | omega); have g5_1 : ∀ o, w5.frozen? ⟨w2.heap.size, o, none⟩ = _ := fun o => hf _ o (by first | (simp; done) | (simp; omega) | omega); (have z5_2 : w3.heap.size < w5.heap.size := by omega); have c5_2 : ∀ o, w5.cell? ⟨w3.heap.size, o, none⟩ = _ := fun o => hc _ o (by first | (simp; done) | (simp; omega) | omega); have g5_2 : ∀ o, w5.frozen? ⟨w3.heap.size, o, none⟩ = _ := fun o => hf _ o (by first | (simp; done) | (simp; omega) | omega); clear hb hz hc hf))
  (first | (refine hK.out _ _ ?_ (fun hHeld => ?_)) | (go_wp2_with fail; refine hK.out _ _ ?_ (fun hHeld => ?_)))
  · (try dsimp only)
    simp (maxDischargeDepth := 16) [*, World.cell?_alloc_some, World.cell?_setCell_far]
  clear hK K
  (try simp only [Act.put, List.setIfInBounds_toArray, List.set_cons_zero, List.set_cons_succ])
  refine wpAnyH_take (i := 16) (oi := ⟨_, _, _, _, _, _⟩) (v := ?_) rfl (by kernel_rfl) (by kernel_rfl) (by kernel_rfl) (fun _ _ _ h => h) (Or.inl ⟨rfl, ?_⟩) hHeld ?_
  rotate_left
  · (intro w hSw)
    (try dsimp only at hSw)
    (first | (go_simp; done) | (go_simp; with_reducible rfl))
  (try simp only [Act.put, List.setIfInBounds_toArray, List.set_cons_zero, List.set_cons_succ])
  refine wpAnyH_take (i := 17) (oi := ⟨_, _, _, _, _, _⟩) (v := ?_) rfl (by kernel_rfl) (by kernel_rfl) (by kernel_rfl) (fun _ _ _ h => h) (Or.inl ⟨rfl, ?_⟩) hHeld ?_
  rotate_left
  · (intro w hSw)
    (try dsimp only at hSw)
    (first | (go_simp; done) | (go_simp; with_reducible rfl))
  (try simp only [Act.put, List.setIfInBounds_toArray, List.set_cons_zero, List.set_cons_succ])
  refine wpAnyH_take (i := 18) (oi := ⟨_, _, _, _, _, _⟩) (v := ?_) rfl (by kernel_rfl) (by kernel_rfl) (by kernel_rfl) (fun _ _ _ h => h) (Or.inl ⟨rfl, ?_⟩) hHeld ?_
  rotate_left
  · (intro w hSw)
    (try dsimp only at hSw)
    (first | (go_simp; done) | (go_simp; with_reducible rfl))
  (try simp only [Act.put, List.setIfInBounds_toArray, List.set_cons_zero, List.set_cons_succ])
  refine wpAnyH_take (i := 19) (oi := ⟨_, _, _, _, _, _⟩) (v := ?_) rfl (by kernel_rfl) (by kernel_rfl) (by kernel_rfl) (fun _ _ _ h => h) (Or.inl ⟨rfl, ?_⟩) hHeld ?_
  rotate_left
  · (intro w hSw)
    (try dsimp only at hSw)
    (first | (go_simp; done) | (go_simp; with_reducible rfl))
  (try simp only [Act.put, List.setIfInBounds_toArray, List.set_cons_zero, List.set_cons_succ])
  refine wpAnyH_take (i := 20) (oi := ⟨_, _, _, _, _, _⟩) (v := ?_) rfl (by kernel_rfl) (by kernel_rfl) (by kernel_rfl) (fun _ _ _ h => h) (Or.inl ⟨rfl, ?_⟩) hHeld ?_
  rotate_left
  · (intro w hSw)
    (try dsimp only at hSw)
    (first | (go_simp; done) | (go_simp; with_reducible rfl))
  (try simp only [Act.put, List.setIfInBounds_toArray, List.set_cons_zero, List.set_cons_succ])
  refine wpAnyH_take (i := 21) (oi := ⟨_, _, _, _, _, _⟩) (v := ?_) rfl (by kernel_rfl) (by kernel_rfl) (by kernel_rfl) (fun _ _ _ h => h) (Or.inl ⟨rfl, ?_⟩) hHeld ?_
  rotate_left
  · (intro w hSw)
    (try dsimp only at hSw)
    (first | (go_simp; done) | (go_simp; with_reducible rfl))
  (try simp only [Act.put, List.setIfInBounds_toArray, List.set_cons_zero, List.set_cons_succ])
  refine wpAnyH_take (i := 22) (oi := ⟨_, _, _, _, _, _⟩) (v := ?_) rfl (by kernel_rfl) (by kernel_rfl) (by kernel_rfl) (fun _ _ _ h => h) (Or.inl ⟨rfl, ?_⟩) hHeld ?_
  rotate_left
  · (intro w hSw)
    (try dsimp only at hSw)
    (first | (go_simp; done) | (go_simp; with_reducible rfl))
  (try simp only [Act.put, List.setIfInBounds_toArray, List.set_cons_zero, List.set_cons_succ])
  refine wpAnyH_take (i := 23) (oi := ⟨_, _, _, _, _, _⟩) (v := ?_) rfl (by kernel_rfl) (by kernel_rfl) (by kernel_rfl) (fun _ _ _ h => h) (Or.inl ⟨rfl, ?_⟩) hHeld ?_
  rotate_left
  · (intro w hSw)
    (try dsimp only at hSw)
    (first | (go_simp; done) | (go_simp; with_reducible rfl))
  (try simp only [Act.put, List.setIfInBounds_toArray, List.set_cons_zero, List.set_cons_succ])
  refine wpAnyH_take (i := 24) (oi := ⟨_, _, _, _, _, _⟩) (v := ?_) rfl (by kernel_rfl) (by kernel_rfl) (by kernel_rfl) (fun _ _ _ h => h) (Or.inl ⟨rfl, ?_⟩) hHeld ?_
  rotate_left
  · (intro w hSw)
    (try dsimp only at hSw)
    (first | (go_simp; done) | (go_simp; with_reducible rfl))
  (try simp only [Act.put, List.setIfInBounds_toArray, List.set_cons_zero, List.set_cons_succ])
  refine wpAnyH_take (i := 25) (oi := ⟨_, _, _, _, _, _⟩) (v := ?_) rfl (by kernel_rfl) (by kernel_rfl) (by kernel_rfl) (fun _ _ _ h => h) (Or.inl ⟨rfl, ?_⟩) hHeld ?_
  rotate_left
  · (intro w hSw)
    (try dsimp only at hSw)
    (first | (go_simp; done) | (go_simp; with_reducible rfl))
  (try simp only [Act.put, List.setIfInBounds_toArray, List.set_cons_zero, List.set_cons_succ])
  refine wpAnyH_take (i := 26) (oi := ⟨_, _, _, _, _, _⟩) (v := ?_) rfl (by kernel_rfl) (by kernel_rfl) (by kernel_rfl) (fun _ _ _ h => h) (Or.inl ⟨rfl, ?_⟩) hHeld ?_
  rotate_left
  · (intro w hSw)
    (try dsimp only at hSw)
    (first | (go_simp; done) | (go_simp; with_reducible rfl))
  (try simp only [Act.put, List.setIfInBounds_toArray, List.set_cons_zero, List.set_cons_succ])
  refine wpAnyH_take (i := 27) (oi := ⟨_, _, _, _, _, _⟩) (v := ?_) rfl (by kernel_rfl) (by kernel_rfl) (by kernel_rfl) (fun _ _ _ h => h) (Or.inl ⟨rfl, ?_⟩) hHeld ?_
  rotate_left
  · (intro w hSw)
    (try dsimp only at hSw)
    (first | (go_simp; done) | (go_simp; with_reducible rfl))
  (try simp only [Act.put, List.setIfInBounds_toArray, List.set_cons_zero, List.set_cons_succ])
  refine wpAnyH_take (i := 28) (oi := ⟨_, _, _, _, _, _⟩) (v := ?_) rfl (by kernel_rfl) (by kernel_rfl) (by kernel_rfl) (fun _ _ _ h => h) (Or.inl ⟨rfl, ?_⟩) hHeld ?_
  rotate_left
  · (intro w hSw)
    (try dsimp only at hSw)
    (first | (go_simp; done) | (go_simp; with_reducible rfl))
  (try simp only [Act.put, List.setIfInBounds_toArray, List.set_cons_zero, List.set_cons_succ])
  refine wpAnyH_take (i := 29) (oi := ⟨_, _, _, _, _, _⟩) (v := ?_) rfl (by kernel_rfl) (by kernel_rfl) (by kernel_rfl) (fun _ _ _ h => h) (Or.inl ⟨rfl, ?_⟩) hHeld ?_
  rotate_left
  · (intro w hSw)
    (try dsimp only at hSw)
    (first | (go_simp; done) | (go_simp; with_reducible rfl))
  (try simp only [Act.put, List.setIfInBounds_toArray, List.set_cons_zero, List.set_cons_succ])
  refine wpAnyH_take (i := 30) (oi := ⟨_, _, _, _, _, _⟩) (v := ?_) rfl (by kernel_rfl) (by kernel_rfl) (by kernel_rfl) (fun _ _ _ h => h) (Or.inl ⟨rfl, ?_⟩) hHeld ?_
  rotate_left
  · (intro w hSw)
    (try dsimp only at hSw)
    (first | (go_simp; done) | (go_simp; with_reducible rfl))
  (try simp only [Act.put, List.setIfInBounds_toArray, List.set_cons_zero, List.set_cons_succ])
  refine wpAnyH_take (i := 31) (oi := ⟨_, _, _, _, _, _⟩) (v := ?_) rfl (by kernel_rfl) (by kernel_rfl) (by kernel_rfl) (fun _ _ _ h => h) (Or.inl ⟨rfl, ?_⟩) hHeld ?_
  rotate_left
  · (intro w hSw)
    (try dsimp only at hSw)
    (first | (go_simp; done) | (go_simp; with_reducible rfl))
  (try simp only [Act.put, List.setIfInBounds_toArray, List.set_cons_zero, List.set_cons_succ])
  refine wpAnyH_take (i := 32) (oi := ⟨_, _, _, _, _, _⟩) (v := ?_) rfl (by kernel_rfl) (by kernel_rfl) (by kernel_rfl) (fun _ _ _ h => h) (Or.inl ⟨rfl, ?_⟩) hHeld ?_
  rotate_left
  · (intro w hSw)
    (try dsimp only at hSw)
    (first | (go_simp; done) | (go_simp; with_reducible rfl))
  (try simp only [Act.put, List.setIfInBounds_toArray, List.set_cons_zero, List.set_cons_succ])
  refine wpAnyH_done (by kernel_rfl) ?_ _
  refine NoPanic.normal ?_
  all_goals
    go_wp2
    go_ret
    exact ⟨rfl, (by (repeat (first | (with_reducible exact HB) | (with_reducible exact Below.refl _ _) | (with_reducible refine below_set ?_ (by (try dsimp only); omega) _) | (with_reducible apply below_drew) | (with_reducible apply below_draws) | (with_reducible apply below_alloc))))⟩

set_option maxRecDepth 100000 in
set_option maxHeartbeats 8000000 in
theorem split_a2 (x A D : Wh) (c1 c2 : Bool) (S1 : ∀ w : World, Calls Try.prog 13 #[.agg #[.int .i64 x.k, .int .i64 x.t, .int .i64 x.i, .int .i64 x.l, .bool x.m, .int .u64 (x.a : Nat), .int .u64 (x.b : Nat)], .bool true] w fun e w' => e = .returned (.tuple #[.agg #[.int .i64 A.k, .int .i64 A.t, .int .i64 A.i, .int .i64 A.l, .bool A.m, .int .u64 (A.a : Nat), .int .u64 (A.b : Nat)], .bool c1]) ∧ Below w.heap.size w w') (S2 : ∀ w : World, Calls Try.prog 13 #[.agg #[.int .i64 x.k, .int .i64 x.t, .int .i64 x.i, .int .i64 x.l, .bool x.m, .int .u64 (x.a : Nat), .int .u64 (x.b : Nat)], .bool false] w fun e w' => e = .returned (.tuple #[.agg #[.int .i64 D.k, .int .i64 D.t, .int .i64 D.i, .int .i64 D.l, .bool D.m, .int .u64 (D.a : Nat), .int .u64 (D.b : Nat)], .bool c2]) ∧ Below w.heap.size w w') (M1 : ∀ w : World, Calls Try.prog 12 #[.agg #[.int .i64 x.k, .int .i64 x.t, .int .i64 x.i, .int .i64 x.l, .bool x.m, .int .u64 (x.a : Nat), .int .u64 (x.b : Nat)]] w fun e w' => e = .returned (.bool false) ∧ Below w.heap.size w w') (e0 : (x.k == 0) = false) (e1 : (x.k == 1) = false) (g : decide (1 < x.k) = true) (w : World) :
    Calls Try.prog 4 #[.agg #[.int .i64 x.k, .int .i64 x.t, .int .i64 x.i, .int .i64 x.l, .bool x.m, .int .u64 (x.a : Nat), .int .u64 (x.b : Nat)]] w fun e w' => e = .returned (.bool true) ∧ Below w.heap.size w w' := by
  have he := eqWhat
  have nn0 : ∀ n : Nat, ¬ n = n + 1 + 1 := fun n => by omega
  have nn1 : ∀ n : Nat, ¬ n + 1 + 1 = n := fun n => by omega
  have nn2 : ∀ n : Nat, ¬ n = n + 1 + 1 + 1 := fun n => by omega
  have nn3 : ∀ n : Nat, ¬ n + 1 + 1 + 1 = n := fun n => by omega
  have nn4 : ∀ n : Nat, ¬ n + 1 = n + 1 + 1 + 1 := fun n => by omega
  have nn5 : ∀ n : Nat, ¬ n + 1 + 1 + 1 = n + 1 := fun n => by omega
  have nn6 : ∀ a b : Nat, a < b → ¬ a = b + 1 + 1 := fun a b h => by omega
  have nn7 : ∀ a b : Nat, a < b → ¬ a = b + 1 := fun a b h => by omega
  have nn8 : ∀ a b : Nat, a < b → ¬ a = b := fun a b h => by omega
  have nn9 : ∀ a b : Nat, a < b → a ≤ b := fun a b h => by omega
  have nn10 : ∀ a b : Nat, a < b → a ≤ b + 1 := fun a b h => by omega
  have nn11 : ∀ a b : Nat, a < b → a < b + 1 + 1 := fun a b h => by omega
  have nn12 : ∀ a b : Nat, a < b → a < b + 1 := fun a b h => by omega
  have nn13 : ∀ a b : Nat, a < b → ¬ b = a := fun a b h => by omega
  have nn14 : ∀ a b : Nat, a < b → ¬ b + 1 = a := fun a b h => by omega
  go_enter Try.func4, Try.ntmps4
  go_upto_region 4 with (first | (go_at_call 10; ((with_reducible refine (shown_any _).mono ?_); rintro e w1 ⟨rfl, hb⟩); have HB : Below w.heap.size w w1 := below_then (by (repeat (first | (with_reducible exact HB) | (with_reducible exact Below.refl _ _) | (with_reducible refine below_set ?_ (by (try dsimp only); omega) _) | (with_reducible apply below_drew) | (with_reducible apply below_draws) | (with_reducible apply below_alloc)))) hb; obtain ⟨hc, hf⟩ := bcell hb; have hz := hb.size; (try simp at hz); (have z1_0 : w.heap.size < w1.heap.size := by omega); have c1_0 : ∀ o, w1.cell? ⟨w.heap.size, o, none⟩ = _ := fun o => hc _ o (by first | (simp; done) | (simp; omega) | omega); have g1_0 : ∀ o, w1.frozen? ⟨w.heap.size, o, none⟩ = _ := fun o => hf _ o (by first | (simp; done) | (simp; omega) | omega); clear hb hz hc hf) | (go_at_call 13; ((with_reducible refine (S1 _).mono ?_); rintro e w2 ⟨rfl, hb⟩); have HB : Below w.heap.size w w2 := below_then (by (repeat (first | (with_reducible exact HB) | (with_reducible exact Below.refl _ _) | (with_reducible refine below_set ?_ (by (try dsimp only); omega) _) | (with_reducible apply below_drew) | (with_reducible apply below_draws) | (with_reducible apply below_alloc)))) hb; obtain ⟨hc, hf⟩ := bcell hb; have hz := hb.size; (try simp at hz); (have z2_0 : w.heap.size < w2.heap.size := by omega); have c2_0 : ∀ o, w2.cell? ⟨w.heap.size, o, none⟩ = _ := fun o => hc _ o (by first | (simp; done) | (simp; omega) | omega); have g2_0 : ∀ o, w2.frozen? ⟨w.heap.size, o, none⟩ = _ := fun o => hf _ o (by first | (simp; done) | (simp; omega) | omega); clear hb hz hc hf; clear S1) | (go_at_call 13; ((with_reducible refine (S2 _).mono ?_); rintro e w3 ⟨rfl, hb⟩); have HB : Below w.heap.size w w3 := below_then (by (repeat (first | (with_reducible exact HB) | (with_reducible exact Below.refl _ _) | (with_reducible refine below_set ?_ (by (try dsimp only); omega) _) | (with_reducible apply below_drew) | (with_reducible apply below_draws) | (with_reducible apply below_alloc)))) hb; obtain ⟨hc, hf⟩ := bcell hb; have hz := hb.size; (try simp at hz); (have z3_0 : w.heap.size < w3.heap.size := by omega); have c3_0 : ∀ o, w3.cell? ⟨w.heap.size, o, none⟩ = _ := fun o => hc _ o (by first | (simp; done) | (simp; omega) | omega); have g3_0 : ∀ o, w3.frozen? ⟨w.heap.size, o, none⟩ = _ := fun o => hf _ o (by first | (simp; done) | (simp; omega) | omega); (have z3_1 : w2.heap.size < w3.heap.size := by omega); have c3_1 : ∀ o, w3.cell? ⟨w2.heap.size, o, none⟩ = _ := fun o => hc _ o (by first | (simp; done) | (simp; omega) | omega); have g3_1 : ∀ o, w3.frozen? ⟨w2.heap.size, o, none⟩ = _ := fun o => hf _ o (by first | (simp; done) | (simp; omega) | omega); clear hb hz hc hf))
  refine named (P := fun W => Code.wp _ _ _ _ W) (fun W => Seven W (w.heap.size) x.k x.t x.i x.l x.m (x.a : Nat) (x.b : Nat) ∧ Seven W (w2.heap.size) A.k A.t A.i A.l A.m (A.a : Nat) (A.b : Nat) ∧ Seven W (w3.heap.size) D.k D.t D.i D.l D.m (D.a : Nat) (D.b : Nat) ∧ w.heap.size < W.heap.size ∧ w2.heap.size < W.heap.size ∧ w3.heap.size < W.heap.size ∧ Below w.heap.size w W) ⟨⟨(by first | (with_reducible assumption) | (go_simp; done) | (simp (maxDischargeDepth := 16) [*]; done)), (by first | (with_reducible assumption) | (go_simp; done) | (simp (maxDischargeDepth := 16) [*]; done)), (by first | (with_reducible assumption) | (go_simp; done) | (simp (maxDischargeDepth := 16) [*]; done)), (by first | (with_reducible assumption) | (go_simp; done) | (simp (maxDischargeDepth := 16) [*]; done)), (by first | (with_reducible assumption) | (go_simp; done) | (simp (maxDischargeDepth := 16) [*]; done)), (by first | (with_reducible assumption) | (go_simp; done) | (simp (maxDischargeDepth := 16) [*]; done)), (by first | (with_reducible assumption) | (go_simp; done) | (simp (maxDischargeDepth := 16) [*]; done))⟩, ⟨(by first | (with_reducible assumption) | (go_simp; done) | (simp (maxDischargeDepth := 16) [*]; done)), (by first | (with_reducible assumption) | (go_simp; done) | (simp (maxDischargeDepth := 16) [*]; done)), (by first | (with_reducible assumption) | (go_simp; done) | (simp (maxDischargeDepth := 16) [*]; done)), (by first | (with_reducible assumption) | (go_simp; done) | (simp (maxDischargeDepth := 16) [*]; done)), (by first | (with_reducible assumption) | (go_simp; done) | (simp (maxDischargeDepth := 16) [*]; done)), (by first | (with_reducible assumption) | (go_simp; done) | (simp (maxDischargeDepth := 16) [*]; done)), (by first | (with_reducible assumption) | (go_simp; done) | (simp (maxDischargeDepth := 16) [*]; done))⟩, ⟨(by first | (with_reducible assumption) | (go_simp; done) | (simp (maxDischargeDepth := 16) [*]; done)), (by first | (with_reducible assumption) | (go_simp; done) | (simp (maxDischargeDepth := 16) [*]; done)), (by first | (with_reducible assumption) | (go_simp; done) | (simp (maxDischargeDepth := 16) [*]; done)), (by first | (with_reducible assumption) | (go_simp; done) | (simp (maxDischargeDepth := 16) [*]; done)), (by first | (with_reducible assumption) | (go_simp; done) | (simp (maxDischargeDepth := 16) [*]; done)), (by first | (with_reducible assumption) | (go_simp; done) | (simp (maxDischargeDepth := 16) [*]; done)), (by first | (with_reducible assumption) | (go_simp; done) | (simp (maxDischargeDepth := 16) [*]; done))⟩, (by first | omega | (simp; done) | (simp; omega)), (by first | omega | (simp; done) | (simp; omega)), (by first | omega | (simp; done) | (simp; omega)), (by (repeat (first | (with_reducible exact HB) | (with_reducible exact Below.refl _ _) | (with_reducible refine below_set ?_ (by (try dsimp only); omega) _) | (with_reducible apply below_drew) | (with_reducible apply below_draws) | (with_reducible apply below_alloc))))⟩ ?_
  rintro W ⟨⟨o00, o01, o02, o03, o04, o05, o06⟩, ⟨o10, o11, o12, o13, o14, o15, o16⟩, ⟨o20, o21, o22, o23, o24, o25, o26⟩, hs0, hs1, hs2, HB⟩
  clear S2
  go_upto_region 5 with (first | (go_at_call 12; ((with_reducible refine (M1 _).mono ?_); rintro e w4 ⟨rfl, hb⟩); have HB : Below w.heap.size w w4 := below_then (by (repeat (first | (with_reducible exact HB) | (with_reducible exact Below.refl _ _) | (with_reducible refine below_set ?_ (by (try dsimp only); omega) _) | (with_reducible apply below_drew) | (with_reducible apply below_draws) | (with_reducible apply below_alloc)))) hb; obtain ⟨hc, hf⟩ := bcell hb; have hz := hb.size; (try simp at hz); (have z4_0 : w.heap.size < w4.heap.size := by omega); have c4_0 : ∀ o, w4.cell? ⟨w.heap.size, o, none⟩ = _ := fun o => hc _ o (by first | (simp; done) | (simp; omega) | omega); have g4_0 : ∀ o, w4.frozen? ⟨w.heap.size, o, none⟩ = _ := fun o => hf _ o (by first | (simp; done) | (simp; omega) | omega); (have z4_1 : w2.heap.size < w4.heap.size := by omega); have c4_1 : ∀ o, w4.cell? ⟨w2.heap.size, o, none⟩ = _ := fun o => hc _ o (by first | (simp; done) | (simp; omega) | omega); have g4_1 : ∀ o, w4.frozen? ⟨w2.heap.size, o, none⟩ = _ := fun o => hf _ o (by first | (simp; done) | (simp; omega) | omega); (have z4_2 : w3.heap.size < w4.heap.size := by omega); have c4_2 : ∀ o, w4.cell? ⟨w3.heap.size, o, none⟩ = _ := fun o => hc _ o (by first | (simp; done) | (simp; omega) | omega); have g4_2 : ∀ o, w4.frozen? ⟨w3.heap.size, o, none⟩ = _ := fun o => hf _ o (by first | (simp; done) | (simp; omega) | omega); clear hb hz hc hf))
  refine wp_region_noPanic ?_
  refine wp_region_held_drew (S := (fun w' => w'.cell? ⟨w.heap.size, 0, none⟩ = some (.int .i64 x.k) ∧ w'.cell? ⟨w.heap.size, 1, none⟩ = some (.int .i64 x.t) ∧ w'.cell? ⟨w.heap.size, 2, none⟩ = some (.int .i64 x.i) ∧ w'.cell? ⟨w.heap.size, 3, none⟩ = some (.int .i64 x.l) ∧ w'.cell? ⟨w.heap.size, 4, none⟩ = some (.bool x.m) ∧ w'.cell? ⟨w.heap.size, 5, none⟩ = some (.int .u64 (x.a : Nat)) ∧ w'.cell? ⟨w.heap.size, 6, none⟩ = some (.int .u64 (x.b : Nat)))) (by kernel_rfl) ?_ (fun hHeld => ?_)
  · (try dsimp only)
    simp (maxDischargeDepth := 16) [*, World.cell?_alloc_some, World.cell?_setCell_far]
  refine wpAnyH_take (i := 0) (oi := ⟨_, _, _, _, _, _⟩) (v := ?_) rfl (by kernel_rfl) (by kernel_rfl) (by kernel_rfl) (fun _ _ _ h => h) (Or.inl ⟨rfl, ?_⟩) hHeld ?_
  rotate_left
  · (intro w hSw)
    (try dsimp only at hSw)
    (first | (go_simp; done) | (go_simp; with_reducible rfl))
  (try simp only [Act.put, List.setIfInBounds_toArray, List.set_cons_zero, List.set_cons_succ])
  refine wpAnyH_take (i := 1) (oi := ⟨_, _, _, _, _, _⟩) (v := ?_) rfl (by kernel_rfl) (by kernel_rfl) (by kernel_rfl) (fun _ _ _ h => h) (Or.inl ⟨rfl, ?_⟩) hHeld ?_
  rotate_left
  · (intro w hSw)
    (try dsimp only at hSw)
    (first | (go_simp; done) | (go_simp; with_reducible rfl))
  (try simp only [Act.put, List.setIfInBounds_toArray, List.set_cons_zero, List.set_cons_succ])
  refine wpAnyH_take (i := 2) (oi := ⟨_, _, _, _, _, _⟩) (v := ?_) rfl (by kernel_rfl) (by kernel_rfl) (by kernel_rfl) (fun _ _ _ h => h) (Or.inl ⟨rfl, ?_⟩) hHeld ?_
  rotate_left
  · (intro w hSw)
    (try dsimp only at hSw)
    (first | (go_simp; done) | (go_simp; with_reducible rfl))
  (try simp only [Act.put, List.setIfInBounds_toArray, List.set_cons_zero, List.set_cons_succ])
  refine wpAnyH_take (i := 4) (oi := ⟨_, _, _, _, _, _⟩) (v := ?_) rfl (by kernel_rfl) (by kernel_rfl) (by kernel_rfl) (fun _ _ _ h => h) (Or.inl ⟨rfl, ?_⟩) hHeld ?_
  rotate_left
  · (intro w hSw)
    (try dsimp only at hSw)
    (first | (go_simp; done) | (go_simp; with_reducible rfl))
  (try simp only [Act.put, List.setIfInBounds_toArray, List.set_cons_zero, List.set_cons_succ])
  refine wpAnyH_take (i := 5) (oi := ⟨_, _, _, _, _, _⟩) (v := ?_) rfl (by kernel_rfl) (by kernel_rfl) (by kernel_rfl) (fun _ _ _ h => h) (Or.inl ⟨rfl, ?_⟩) hHeld ?_
  rotate_left
  · (intro w hSw)
    (try dsimp only at hSw)
    (first | (go_simp; done) | (go_simp; with_reducible rfl))
  (try simp only [Act.put, List.setIfInBounds_toArray, List.set_cons_zero, List.set_cons_succ])
  refine wpAnyH_take (i := 6) (oi := ⟨_, _, _, _, _, _⟩) (v := ?_) rfl (by kernel_rfl) (by kernel_rfl) (by kernel_rfl) (fun _ _ _ h => h) (Or.inl ⟨rfl, ?_⟩) hHeld ?_
  rotate_left
  · (intro w hSw)
    (try dsimp only at hSw)
    (first | (go_simp; done) | (go_simp; with_reducible rfl))
  (try simp only [Act.put, List.setIfInBounds_toArray, List.set_cons_zero, List.set_cons_succ])
  refine wpAnyH_ready (rs := [3]) (by kernel_rfl) (by simp) ?_
  refine AllReadyH.cons (o := ⟨_, _, _, _, _, _⟩) rfl (fun K hK => ?_) AllReadyH.nil
  go_simp
  (first | (go_at_call 12; refine (M1 _).mono ?_; rintro e w5 ⟨rfl, hb⟩; have HB : Below w.heap.size w w5 := below_then (by (repeat (first | (with_reducible exact HB) | (with_reducible exact Below.refl _ _) | (with_reducible refine below_set ?_ (by (try dsimp only); omega) _) | (with_reducible apply below_drew) | (with_reducible apply below_draws) | (with_reducible apply below_alloc)))) hb; obtain ⟨hc, hf⟩ := bcell hb; have hz := hb.size; (try simp at hz); (have z5_0 : w.heap.size < w5.heap.size := by omega); have c5_0 : ∀ o, w5.cell? ⟨w.heap.size, o, none⟩ = _ := fun o => hc _ o (by first | (simp; done) | (simp; omega) | omega); have g5_0 : ∀ o, w5.frozen? ⟨w.heap.size, o, none⟩ = _ := fun o => hf _ o (by first | (simp; done) | (simp; omega) | omega); (have z5_1 : w2.heap.size < w5.heap.size := by omega); have c5_1 : ∀ o, w5.cell? ⟨w2.heap.size, o, none⟩ = _ := fun o => hc _ o (by first | (simp; done) | (simp; omega) | omega); have g5_1 : ∀ o, w5.frozen? ⟨w2.heap.size, o, none⟩ = _ := fun o => hf _ o (by first | (simp; done) | (simp; omega) | omega); (have z5_2 : w3.heap.size < w5.heap.size := by omega); have c5_2 : ∀ o, w5.cell? ⟨w3.heap.size, o, none⟩ = _ := fun o => hc _ o (by first | (simp; done) | (simp; omega) | omega); have g5_2 : ∀ o, w5.frozen? ⟨w3.heap.size, o, none⟩ = _ := fun o => hf _ o (by first | (simp; done) | (simp; omega) | omega); clear hb hz hc hf))
  (first | (refine hK.out _ _ ?_ (fun hHeld => ?_)) | (go_wp2_with fail; refine hK.out _ _ ?_ (fun hHeld => ?_)))
  · (try dsimp only)
    simp (maxDischargeDepth := 16) [*, World.cell?_alloc_some, World.cell?_setCell_far]
  clear hK K
  (try simp only [Act.put, List.setIfInBounds_toArray, List.set_cons_zero, List.set_cons_succ])
  refine wpAnyH_take (i := 7) (oi := ⟨_, _, _, _, _, _⟩) (v := ?_) rfl (by kernel_rfl) (by kernel_rfl) (by kernel_rfl) (fun _ _ _ h => h) (Or.inl ⟨rfl, ?_⟩) hHeld ?_
  rotate_left
  · (intro w hSw)
    (try dsimp only at hSw)
    (first | (go_simp; done) | (go_simp; with_reducible rfl))
  (try simp only [Act.put, List.setIfInBounds_toArray, List.set_cons_zero, List.set_cons_succ])
  refine wpAnyH_take (i := 8) (oi := ⟨_, _, _, _, _, _⟩) (v := ?_) rfl (by kernel_rfl) (by kernel_rfl) (by kernel_rfl) (fun _ _ _ h => h) (Or.inl ⟨rfl, ?_⟩) hHeld ?_
  rotate_left
  · (intro w hSw)
    (try dsimp only at hSw)
    (first | (go_simp; done) | (go_simp; with_reducible rfl))
  (try simp only [Act.put, List.setIfInBounds_toArray, List.set_cons_zero, List.set_cons_succ])
  refine wpAnyH_take (i := 9) (oi := ⟨_, _, _, _, _, _⟩) (v := ?_) rfl (by kernel_rfl) (by kernel_rfl) (by kernel_rfl) (fun _ _ _ h => h) (Or.inl ⟨rfl, ?_⟩) hHeld ?_
  rotate_left
  · (intro w hSw)
    (try dsimp only at hSw)
    (first | (go_simp; done) | (go_simp; with_reducible rfl))
  (try simp only [Act.put, List.setIfInBounds_toArray, List.set_cons_zero, List.set_cons_succ])
  refine wpAnyH_take (i := 10) (oi := ⟨_, _, _, _, _, _⟩) (v := ?_) rfl (by kernel_rfl) (by kernel_rfl) (by kernel_rfl) (fun _ _ _ h => h) (Or.inl ⟨rfl, ?_⟩) hHeld ?_
  rotate_left
  · (intro w hSw)
    (try dsimp only at hSw)
    (first | (go_simp; done) | (go_simp; with_reducible rfl))
  (try simp only [Act.put, List.setIfInBounds_toArray, List.set_cons_zero, List.set_cons_succ])
  refine wpAnyH_take (i := 11) (oi := ⟨_, _, _, _, _, _⟩) (v := ?_) rfl (by kernel_rfl) (by kernel_rfl) (by kernel_rfl) (fun _ _ _ h => h) (Or.inl ⟨rfl, ?_⟩) hHeld ?_
  rotate_left
  · (intro w hSw)
    (try dsimp only at hSw)
    (first | (go_simp; done) | (go_simp; with_reducible rfl))
  (try simp only [Act.put, List.setIfInBounds_toArray, List.set_cons_zero, List.set_cons_succ])
  refine wpAnyH_take (i := 12) (oi := ⟨_, _, _, _, _, _⟩) (v := ?_) rfl (by kernel_rfl) (by kernel_rfl) (by kernel_rfl) (fun _ _ _ h => h) (Or.inl ⟨rfl, ?_⟩) hHeld ?_
  rotate_left
  · (intro w hSw)
    (try dsimp only at hSw)
    (first | (go_simp; done) | (go_simp; with_reducible rfl))
  (try simp only [Act.put, List.setIfInBounds_toArray, List.set_cons_zero, List.set_cons_succ])
  refine wpAnyH_take (i := 13) (oi := ⟨_, _, _, _, _, _⟩) (v := ?_) rfl (by kernel_rfl) (by kernel_rfl) (by kernel_rfl) (fun _ _ _ h => h) (Or.inl ⟨rfl, ?_⟩) hHeld ?_
  rotate_left
  · (intro w hSw)
    (try dsimp only at hSw)
    (first | (go_simp; done) | (go_simp; with_reducible rfl))
  (try simp only [Act.put, List.setIfInBounds_toArray, List.set_cons_zero, List.set_cons_succ])
  refine wpAnyH_take (i := 14) (oi := ⟨_, _, _, _, _, _⟩) (v := undef) rfl (by kernel_rfl) (by kernel_rfl) (by kernel_rfl) (fun _ _ _ h => h) (Or.inr ⟨rfl, rfl⟩) hHeld ?_
  (try simp only [Act.put, List.setIfInBounds_toArray, List.set_cons_zero, List.set_cons_succ])
  refine wpAnyH_take (i := 15) (oi := ⟨_, _, _, _, _, _⟩) (v := undef) rfl (by kernel_rfl) (by kernel_rfl) (by kernel_rfl) (fun _ _ _ h => h) (Or.inr ⟨rfl, rfl⟩) hHeld ?_
  (try simp only [Act.put, List.setIfInBounds_toArray, List.set_cons_zero, List.set_cons_succ])
  refine wpAnyH_take (i := 16) (oi := ⟨_, _, _, _, _, _⟩) (v := undef) rfl (by kernel_rfl) (by kernel_rfl) (by kernel_rfl) (fun _ _ _ h => h) (Or.inr ⟨rfl, rfl⟩) hHeld ?_
  (try simp only [Act.put, List.setIfInBounds_toArray, List.set_cons_zero, List.set_cons_succ])
  refine wpAnyH_take (i := 17) (oi := ⟨_, _, _, _, _, _⟩) (v := ?_) rfl (by kernel_rfl) (by kernel_rfl) (by kernel_rfl) (fun _ _ _ h => h) (Or.inl ⟨rfl, ?_⟩) hHeld ?_
  rotate_left
  · (intro w hSw)
    (try dsimp only at hSw)
    (first | (go_simp; done) | (go_simp; with_reducible rfl))
  (try simp only [Act.put, List.setIfInBounds_toArray, List.set_cons_zero, List.set_cons_succ])
  refine wpAnyH_take (i := 18) (oi := ⟨_, _, _, _, _, _⟩) (v := ?_) rfl (by kernel_rfl) (by kernel_rfl) (by kernel_rfl) (fun _ _ _ h => h) (Or.inl ⟨rfl, ?_⟩) hHeld ?_
  rotate_left
  · (intro w hSw)
    (try dsimp only at hSw)
    (first | (go_simp; done) | (go_simp; with_reducible rfl))
  (try simp only [Act.put, List.setIfInBounds_toArray, List.set_cons_zero, List.set_cons_succ])
  refine wpAnyH_take (i := 19) (oi := ⟨_, _, _, _, _, _⟩) (v := ?_) rfl (by kernel_rfl) (by kernel_rfl) (by kernel_rfl) (fun _ _ _ h => h) (Or.inl ⟨rfl, ?_⟩) hHeld ?_
  rotate_left
  · (intro w hSw)
    (try dsimp only at hSw)
    (first | (go_simp; done) | (go_simp; with_reducible rfl))
  (try simp only [Act.put, List.setIfInBounds_toArray, List.set_cons_zero, List.set_cons_succ])
  refine wpAnyH_take (i := 20) (oi := ⟨_, _, _, _, _, _⟩) (v := ?_) rfl (by kernel_rfl) (by kernel_rfl) (by kernel_rfl) (fun _ _ _ h => h) (Or.inl ⟨rfl, ?_⟩) hHeld ?_
  rotate_left
  · (intro w hSw)
    (try dsimp only at hSw)
    (first | (go_simp; done) | (go_simp; with_reducible rfl))
  (try simp only [Act.put, List.setIfInBounds_toArray, List.set_cons_zero, List.set_cons_succ])
  refine wpAnyH_take (i := 21) (oi := ⟨_, _, _, _, _, _⟩) (v := ?_) rfl (by kernel_rfl) (by kernel_rfl) (by kernel_rfl) (fun _ _ _ h => h) (Or.inl ⟨rfl, ?_⟩) hHeld ?_
  rotate_left
  · (intro w hSw)
    (try dsimp only at hSw)
    (first | (go_simp; done) | (go_simp; with_reducible rfl))
  (try simp only [Act.put, List.setIfInBounds_toArray, List.set_cons_zero, List.set_cons_succ])
  refine wpAnyH_take (i := 22) (oi := ⟨_, _, _, _, _, _⟩) (v := ?_) rfl (by kernel_rfl) (by kernel_rfl) (by kernel_rfl) (fun _ _ _ h => h) (Or.inl ⟨rfl, ?_⟩) hHeld ?_
  rotate_left
  · (intro w hSw)
    (try dsimp only at hSw)
    (first | (go_simp; done) | (go_simp; with_reducible rfl))
  (try simp only [Act.put, List.setIfInBounds_toArray, List.set_cons_zero, List.set_cons_succ])
  refine wpAnyH_take (i := 23) (oi := ⟨_, _, _, _, _, _⟩) (v := ?_) rfl (by kernel_rfl) (by kernel_rfl) (by kernel_rfl) (fun _ _ _ h => h) (Or.inl ⟨rfl, ?_⟩) hHeld ?_
  rotate_left
  · (intro w hSw)
    (try dsimp only at hSw)
    (first | (go_simp; done) | (go_simp; with_reducible rfl))
  (try simp only [Act.put, List.setIfInBounds_toArray, List.set_cons_zero, List.set_cons_succ])
  refine wpAnyH_take (i := 24) (oi := ⟨_, _, _, _, _, _⟩) (v := undef) rfl (by kernel_rfl) (by kernel_rfl) (by kernel_rfl) (fun _ _ _ h => h) (Or.inr ⟨rfl, rfl⟩) hHeld ?_
  (try simp only [Act.put, List.setIfInBounds_toArray, List.set_cons_zero, List.set_cons_succ])
  refine wpAnyH_take (i := 25) (oi := ⟨_, _, _, _, _, _⟩) (v := undef) rfl (by kernel_rfl) (by kernel_rfl) (by kernel_rfl) (fun _ _ _ h => h) (Or.inr ⟨rfl, rfl⟩) hHeld ?_
  (try simp only [Act.put, List.setIfInBounds_toArray, List.set_cons_zero, List.set_cons_succ])
  refine wpAnyH_take (i := 26) (oi := ⟨_, _, _, _, _, _⟩) (v := undef) rfl (by kernel_rfl) (by kernel_rfl) (by kernel_rfl) (fun _ _ _ h => h) (Or.inr ⟨rfl, rfl⟩) hHeld ?_
  (try simp only [Act.put, List.setIfInBounds_toArray, List.set_cons_zero, List.set_cons_succ])
  refine wpAnyH_take (i := 27) (oi := ⟨_, _, _, _, _, _⟩) (v := undef) rfl (by kernel_rfl) (by kernel_rfl) (by kernel_rfl) (fun _ _ _ h => h) (Or.inr ⟨rfl, rfl⟩) hHeld ?_
  (try simp only [Act.put, List.setIfInBounds_toArray, List.set_cons_zero, List.set_cons_succ])
  refine wpAnyH_take (i := 28) (oi := ⟨_, _, _, _, _, _⟩) (v := undef) rfl (by kernel_rfl) (by kernel_rfl) (by kernel_rfl) (fun _ _ _ h => h) (Or.inr ⟨rfl, rfl⟩) hHeld ?_
  (try simp only [Act.put, List.setIfInBounds_toArray, List.set_cons_zero, List.set_cons_succ])
  refine wpAnyH_take (i := 29) (oi := ⟨_, _, _, _, _, _⟩) (v := undef) rfl (by kernel_rfl) (by kernel_rfl) (by kernel_rfl) (fun _ _ _ h => h) (Or.inr ⟨rfl, rfl⟩) hHeld ?_
  (try simp only [Act.put, List.setIfInBounds_toArray, List.set_cons_zero, List.set_cons_succ])
  refine wpAnyH_take (i := 30) (oi := ⟨_, _, _, _, _, _⟩) (v := ?_) rfl (by kernel_rfl) (by kernel_rfl) (by kernel_rfl) (fun _ _ _ h => h) (Or.inl ⟨rfl, ?_⟩) hHeld ?_
  rotate_left
  · (intro w hSw)
    (try dsimp only at hSw)
    (first | (go_simp; done) | (go_simp; with_reducible rfl))
  (try simp only [Act.put, List.setIfInBounds_toArray, List.set_cons_zero, List.set_cons_succ])
  refine wpAnyH_take (i := 31) (oi := ⟨_, _, _, _, _, _⟩) (v := ?_) rfl (by kernel_rfl) (by kernel_rfl) (by kernel_rfl) (fun _ _ _ h => h) (Or.inl ⟨rfl, ?_⟩) hHeld ?_
  rotate_left
  · (intro w hSw)
    (try dsimp only at hSw)
    (first | (go_simp; done) | (go_simp; with_reducible rfl))
  (try simp only [Act.put, List.setIfInBounds_toArray, List.set_cons_zero, List.set_cons_succ])
  refine wpAnyH_take (i := 32) (oi := ⟨_, _, _, _, _, _⟩) (v := ?_) rfl (by kernel_rfl) (by kernel_rfl) (by kernel_rfl) (fun _ _ _ h => h) (Or.inl ⟨rfl, ?_⟩) hHeld ?_
  rotate_left
  · (intro w hSw)
    (try dsimp only at hSw)
    (first | (go_simp; done) | (go_simp; with_reducible rfl))
  (try simp only [Act.put, List.setIfInBounds_toArray, List.set_cons_zero, List.set_cons_succ])
  refine wpAnyH_done (by kernel_rfl) ?_ _
  refine NoPanic.normal ?_
  all_goals
    go_wp2
    go_ret
    exact ⟨rfl, (by (repeat (first | (with_reducible exact HB) | (with_reducible exact Below.refl _ _) | (with_reducible refine below_set ?_ (by (try dsimp only); omega) _) | (with_reducible apply below_drew) | (with_reducible apply below_draws) | (with_reducible apply below_alloc))))⟩

set_option maxRecDepth 100000 in
set_option maxHeartbeats 8000000 in
theorem split_a3 (x A D : Wh) (S1 : ∀ w : World, Calls Try.prog 13 #[.agg #[.int .i64 x.k, .int .i64 x.t, .int .i64 x.i, .int .i64 x.l, .bool x.m, .int .u64 (x.a : Nat), .int .u64 (x.b : Nat)], .bool true] w fun e w' => e = .returned (.tuple #[.agg #[.int .i64 A.k, .int .i64 A.t, .int .i64 A.i, .int .i64 A.l, .bool A.m, .int .u64 (A.a : Nat), .int .u64 (A.b : Nat)], .bool false]) ∧ Below w.heap.size w w') (S2 : ∀ w : World, Calls Try.prog 13 #[.agg #[.int .i64 x.k, .int .i64 x.t, .int .i64 x.i, .int .i64 x.l, .bool x.m, .int .u64 (x.a : Nat), .int .u64 (x.b : Nat)], .bool false] w fun e w' => e = .returned (.tuple #[.agg #[.int .i64 D.k, .int .i64 D.t, .int .i64 D.i, .int .i64 D.l, .bool D.m, .int .u64 (D.a : Nat), .int .u64 (D.b : Nat)], .bool false]) ∧ Below w.heap.size w w') (M1 : ∀ w : World, Calls Try.prog 12 #[.agg #[.int .i64 x.k, .int .i64 x.t, .int .i64 x.i, .int .i64 x.l, .bool x.m, .int .u64 (x.a : Nat), .int .u64 (x.b : Nat)]] w fun e w' => e = .returned (.bool false) ∧ Below w.heap.size w w') (e0 : (x.k == 0) = false) (e1 : (x.k == 1) = false) (g : decide (1 < x.k) = false) (w : World) :
    Calls Try.prog 4 #[.agg #[.int .i64 x.k, .int .i64 x.t, .int .i64 x.i, .int .i64 x.l, .bool x.m, .int .u64 (x.a : Nat), .int .u64 (x.b : Nat)]] w fun e w' => e = .returned (.bool true) ∧ Below w.heap.size w w' := by
  have he := eqWhat
  have nn0 : ∀ n : Nat, ¬ n = n + 1 + 1 := fun n => by omega
  have nn1 : ∀ n : Nat, ¬ n + 1 + 1 = n := fun n => by omega
  have nn2 : ∀ n : Nat, ¬ n = n + 1 + 1 + 1 := fun n => by omega
  have nn3 : ∀ n : Nat, ¬ n + 1 + 1 + 1 = n := fun n => by omega
  have nn4 : ∀ n : Nat, ¬ n + 1 = n + 1 + 1 + 1 := fun n => by omega
  have nn5 : ∀ n : Nat, ¬ n + 1 + 1 + 1 = n + 1 := fun n => by omega
  have nn6 : ∀ a b : Nat, a < b → ¬ a = b + 1 + 1 := fun a b h => by omega
  have nn7 : ∀ a b : Nat, a < b → ¬ a = b + 1 := fun a b h => by omega
  have nn8 : ∀ a b : Nat, a < b → ¬ a = b := fun a b h => by omega
  have nn9 : ∀ a b : Nat, a < b → a ≤ b := fun a b h => by omega
  have nn10 : ∀ a b : Nat, a < b → a ≤ b + 1 := fun a b h => by omega
  have nn11 : ∀ a b : Nat, a < b → a < b + 1 + 1 := fun a b h => by omega
  have nn12 : ∀ a b : Nat, a < b → a < b + 1 := fun a b h => by omega
  have nn13 : ∀ a b : Nat, a < b → ¬ b = a := fun a b h => by omega
  have nn14 : ∀ a b : Nat, a < b → ¬ b + 1 = a := fun a b h => by omega
  go_enter Try.func4, Try.ntmps4
  go_upto_region 4 with (first | (go_at_call 10; ((with_reducible refine (shown_any _).mono ?_); rintro e w1 ⟨rfl, hb⟩); have HB : Below w.heap.size w w1 := below_then (by (repeat (first | (with_reducible exact HB) | (with_reducible exact Below.refl _ _) | (with_reducible refine below_set ?_ (by (try dsimp only); omega) _) | (with_reducible apply below_drew) | (with_reducible apply below_draws) | (with_reducible apply below_alloc)))) hb; obtain ⟨hc, hf⟩ := bcell hb; have hz := hb.size; (try simp at hz); (have z1_0 : w.heap.size < w1.heap.size := by omega); have c1_0 : ∀ o, w1.cell? ⟨w.heap.size, o, none⟩ = _ := fun o => hc _ o (by first | (simp; done) | (simp; omega) | omega); have g1_0 : ∀ o, w1.frozen? ⟨w.heap.size, o, none⟩ = _ := fun o => hf _ o (by first | (simp; done) | (simp; omega) | omega); clear hb hz hc hf) | (go_at_call 13; ((with_reducible refine (S1 _).mono ?_); rintro e w2 ⟨rfl, hb⟩); have HB : Below w.heap.size w w2 := below_then (by (repeat (first | (with_reducible exact HB) | (with_reducible exact Below.refl _ _) | (with_reducible refine below_set ?_ (by (try dsimp only); omega) _) | (with_reducible apply below_drew) | (with_reducible apply below_draws) | (with_reducible apply below_alloc)))) hb; obtain ⟨hc, hf⟩ := bcell hb; have hz := hb.size; (try simp at hz); (have z2_0 : w.heap.size < w2.heap.size := by omega); have c2_0 : ∀ o, w2.cell? ⟨w.heap.size, o, none⟩ = _ := fun o => hc _ o (by first | (simp; done) | (simp; omega) | omega); have g2_0 : ∀ o, w2.frozen? ⟨w.heap.size, o, none⟩ = _ := fun o => hf _ o (by first | (simp; done) | (simp; omega) | omega); clear hb hz hc hf; clear S1) | (go_at_call 13; ((with_reducible refine (S2 _).mono ?_); rintro e w3 ⟨rfl, hb⟩); have HB : Below w.heap.size w w3 := below_then (by (repeat (first | (with_reducible exact HB) | (with_reducible exact Below.refl _ _) | (with_reducible refine below_set ?_ (by (try dsimp only); omega) _) | (with_reducible apply below_drew) | (with_reducible apply below_draws) | (with_reducible apply below_alloc)))) hb; obtain ⟨hc, hf⟩ := bcell hb; have hz := hb.size; (try simp at hz); (have z3_0 : w.heap.size < w3.heap.size := by omega); have c3_0 : ∀ o, w3.cell? ⟨w.heap.size, o, none⟩ = _ := fun o => hc _ o (by first | (simp; done) | (simp; omega) | omega); have g3_0 : ∀ o, w3.frozen? ⟨w.heap.size, o, none⟩ = _ := fun o => hf _ o (by first | (simp; done) | (simp; omega) | omega); (have z3_1 : w2.heap.size < w3.heap.size := by omega); have c3_1 : ∀ o, w3.cell? ⟨w2.heap.size, o, none⟩ = _ := fun o => hc _ o (by first | (simp; done) | (simp; omega) | omega); have g3_1 : ∀ o, w3.frozen? ⟨w2.heap.size, o, none⟩ = _ := fun o => hf _ o (by first | (simp; done) | (simp; omega) | omega); clear hb hz hc hf))
  refine named (P := fun W => Code.wp _ _ _ _ W) (fun W => Seven W (w.heap.size) x.k x.t x.i x.l x.m (x.a : Nat) (x.b : Nat) ∧ Seven W (w2.heap.size) A.k A.t A.i A.l A.m (A.a : Nat) (A.b : Nat) ∧ Seven W (w3.heap.size) D.k D.t D.i D.l D.m (D.a : Nat) (D.b : Nat) ∧ w.heap.size < W.heap.size ∧ w2.heap.size < W.heap.size ∧ w3.heap.size < W.heap.size ∧ Below w.heap.size w W) ⟨⟨(by first | (with_reducible assumption) | (go_simp; done) | (simp (maxDischargeDepth := 16) [*]; done)), (by first | (with_reducible assumption) | (go_simp; done) | (simp (maxDischargeDepth := 16) [*]; done)), (by first | (with_reducible assumption) | (go_simp; done) | (simp (maxDischargeDepth := 16) [*]; done)), (by first | (with_reducible assumption) | (go_simp; done) | (simp (maxDischargeDepth := 16) [*]; done)), (by first | (with_reducible assumption) | (go_simp; done) | (simp (maxDischargeDepth := 16) [*]; done)), (by first | (with_reducible assumption) | (go_simp; done) | (simp (maxDischargeDepth := 16) [*]; done)), (by first | (with_reducible assumption) | (go_simp; done) | (simp (maxDischargeDepth := 16) [*]; done))⟩, ⟨(by first | (with_reducible assumption) | (go_simp; done) | (simp (maxDischargeDepth := 16) [*]; done)), (by first | (with_reducible assumption) | (go_simp; done) | (simp (maxDischargeDepth := 16) [*]; done)), (by first | (with_reducible assumption) | (go_simp; done) | (simp (maxDischargeDepth := 16) [*]; done)), (by first | (with_reducible assumption) | (go_simp; done) | (simp (maxDischargeDepth := 16) [*]; done)), (by first | (with_reducible assumption) | (go_simp; done) | (simp (maxDischargeDepth := 16) [*]; done)), (by first | (with_reducible assumption) | (go_simp; done) | (simp (maxDischargeDepth := 16) [*]; done)), (by first | (with_reducible assumption) | (go_simp; done) | (simp (maxDischargeDepth := 16) [*]; done))⟩, ⟨(by first | (with_reducible assumption) | (go_simp; done) | (simp (maxDischargeDepth := 16) [*]; done)), (by first | (with_reducible assumption) | (go_simp; done) | (simp (maxDischargeDepth := 16) [*]; done)), (by first | (with_reducible assumption) | (go_simp; done) | (simp (maxDischargeDepth := 16) [*]; done)), (by first | (with_reducible assumption) | (go_simp; done) | (simp (maxDischargeDepth := 16) [*]; done)), (by first | (with_reducible assumption) | (go_simp; done) | (simp (maxDischargeDepth := 16) [*]; done)), (by first | (with_reducible assumption) | (go_simp; done) | (simp (maxDischargeDepth := 16) [*]; done)), (by first | (with_reducible assumption) | (go_simp; done) | (simp (maxDischargeDepth := 16) [*]; done))⟩, (by first | omega | (simp; done) | (simp; omega)), (by first | omega | (simp; done) | (simp; omega)), (by first | omega | (simp; done) | (simp; omega)), (by (repeat (first | (with_reducible exact HB) | (with_reducible exact Below.refl _ _) | (with_reducible refine below_set ?_ (by (try dsimp only); omega) _) | (with_reducible apply below_drew) | (with_reducible apply below_draws) | (with_reducible apply below_alloc))))⟩ ?_
  rintro W ⟨⟨o00, o01, o02, o03, o04, o05, o06⟩, ⟨o10, o11, o12, o13, o14, o15, o16⟩, ⟨o20, o21, o22, o23, o24, o25, o26⟩, hs0, hs1, hs2, HB⟩
  clear S2
  go_upto_region 5 with (first | (go_at_call 12; ((with_reducible refine (M1 _).mono ?_); rintro e w4 ⟨rfl, hb⟩); have HB : Below w.heap.size w w4 := below_then (by (repeat (first | (with_reducible exact HB) | (with_reducible exact Below.refl _ _) | (with_reducible refine below_set ?_ (by (try dsimp only); omega) _) | (with_reducible apply below_drew) | (with_reducible apply below_draws) | (with_reducible apply below_alloc)))) hb; obtain ⟨hc, hf⟩ := bcell hb; have hz := hb.size; (try simp at hz); (have z4_0 : w.heap.size < w4.heap.size := by omega); have c4_0 : ∀ o, w4.cell? ⟨w.heap.size, o, none⟩ = _ := fun o => hc _ o (by first | (simp; done) | (simp; omega) | omega); have g4_0 : ∀ o, w4.frozen? ⟨w.heap.size, o, none⟩ = _ := fun o => hf _ o (by first | (simp; done) | (simp; omega) | omega); (have z4_1 : w2.heap.size < w4.heap.size := by omega); have c4_1 : ∀ o, w4.cell? ⟨w2.heap.size, o, none⟩ = _ := fun o => hc _ o (by first | (simp; done) | (simp; omega) | omega); have g4_1 : ∀ o, w4.frozen? ⟨w2.heap.size, o, none⟩ = _ := fun o => hf _ o (by first | (simp; done) | (simp; omega) | omega); (have z4_2 : w3.heap.size < w4.heap.size := by omega); have c4_2 : ∀ o, w4.cell? ⟨w3.heap.size, o, none⟩ = _ := fun o => hc _ o (by first | (simp; done) | (simp; omega) | omega); have g4_2 : ∀ o, w4.frozen? ⟨w3.heap.size, o, none⟩ = _ := fun o => hf _ o (by first | (simp; done) | (simp; omega) | omega); clear hb hz hc hf))
  refine wp_region_noPanic ?_
  refine wp_region_held_drew (S := (fun w' => w'.cell? ⟨w.heap.size, 0, none⟩ = some (.int .i64 x.k) ∧ w'.cell? ⟨w.heap.size, 1, none⟩ = some (.int .i64 x.t) ∧ w'.cell? ⟨w.heap.size, 2, none⟩ = some (.int .i64 x.i) ∧ w'.cell? ⟨w.heap.size, 3, none⟩ = some (.int .i64 x.l) ∧ w'.cell? ⟨w.heap.size, 4, none⟩ = some (.bool x.m) ∧ w'.cell? ⟨w.heap.size, 5, none⟩ = some (.int .u64 (x.a : Nat)) ∧ w'.cell? ⟨w.heap.size, 6, none⟩ = some (.int .u64 (x.b : Nat)))) (by kernel_rfl) ?_ (fun hHeld => ?_)
  · (try dsimp only)
    simp (maxDischargeDepth := 16) [*, World.cell?_alloc_some, World.cell?_setCell_far]
  refine wpAnyH_take (i := 0) (oi := ⟨_, _, _, _, _, _⟩) (v := ?_) rfl (by kernel_rfl) (by kernel_rfl) (by kernel_rfl) (fun _ _ _ h => h) (Or.inl ⟨rfl, ?_⟩) hHeld ?_
  rotate_left
  · (intro w hSw)
    (try dsimp only at hSw)
    (first | (go_simp; done) | (go_simp; with_reducible rfl))
  (try simp only [Act.put, List.setIfInBounds_toArray, List.set_cons_zero, List.set_cons_succ])
  refine wpAnyH_take (i := 1) (oi := ⟨_, _, _, _, _, _⟩) (v := ?_) rfl (by kernel_rfl) (by kernel_rfl) (by kernel_rfl) (fun _ _ _ h => h) (Or.inl ⟨rfl, ?_⟩) hHeld ?_
  rotate_left
  · (intro w hSw)
    (try dsimp only at hSw)
    (first | (go_simp; done) | (go_simp; with_reducible rfl))
  (try simp only [Act.put, List.setIfInBounds_toArray, List.set_cons_zero, List.set_cons_succ])
  refine wpAnyH_take (i := 2) (oi := ⟨_, _, _, _, _, _⟩) (v := ?_) rfl (by kernel_rfl) (by kernel_rfl) (by kernel_rfl) (fun _ _ _ h => h) (Or.inl ⟨rfl, ?_⟩) hHeld ?_
  rotate_left
  · (intro w hSw)
    (try dsimp only at hSw)
    (first | (go_simp; done) | (go_simp; with_reducible rfl))
  (try simp only [Act.put, List.setIfInBounds_toArray, List.set_cons_zero, List.set_cons_succ])
  refine wpAnyH_take (i := 4) (oi := ⟨_, _, _, _, _, _⟩) (v := ?_) rfl (by kernel_rfl) (by kernel_rfl) (by kernel_rfl) (fun _ _ _ h => h) (Or.inl ⟨rfl, ?_⟩) hHeld ?_
  rotate_left
  · (intro w hSw)
    (try dsimp only at hSw)
    (first | (go_simp; done) | (go_simp; with_reducible rfl))
  (try simp only [Act.put, List.setIfInBounds_toArray, List.set_cons_zero, List.set_cons_succ])
  refine wpAnyH_take (i := 5) (oi := ⟨_, _, _, _, _, _⟩) (v := ?_) rfl (by kernel_rfl) (by kernel_rfl) (by kernel_rfl) (fun _ _ _ h => h) (Or.inl ⟨rfl, ?_⟩) hHeld ?_
  rotate_left
  · (intro w hSw)
    (try dsimp only at hSw)
    (first | (go_simp; done) | (go_simp; with_reducible rfl))
  (try simp only [Act.put, List.setIfInBounds_toArray, List.set_cons_zero, List.set_cons_succ])
  refine wpAnyH_take (i := 6) (oi := ⟨_, _, _, _, _, _⟩) (v := ?_) rfl (by kernel_rfl) (by kernel_rfl) (by kernel_rfl) (fun _ _ _ h => h) (Or.inl ⟨rfl, ?_⟩) hHeld ?_
  rotate_left
  · (intro w hSw)
    (try dsimp only at hSw)
    (first | (go_simp; done) | (go_simp; with_reducible rfl))
  (try simp only [Act.put, List.setIfInBounds_toArray, List.set_cons_zero, List.set_cons_succ])
  refine wpAnyH_ready (rs := [3]) (by kernel_rfl) (by simp) ?_
  refine AllReadyH.cons (o := ⟨_, _, _, _, _, _⟩) rfl (fun K hK => ?_) AllReadyH.nil
  go_simp
  (first | (go_at_call 12; refine (M1 _).mono ?_; rintro e w5 ⟨rfl, hb⟩; have HB : Below w.heap.size w w5 := below_then (by (repeat (first | (with_reducible exact HB) | (with_reducible exact Below.refl _ _) | (with_reducible refine below_set ?_ (by (try dsimp only); omega) _) | (with_reducible apply below_drew) | (with_reducible apply below_draws) | (with_reducible apply below_alloc)))) hb; obtain ⟨hc, hf⟩ := bcell hb; have hz := hb.size; (try simp at hz); (have z5_0 : w.heap.size < w5.heap.size := by omega); have c5_0 : ∀ o, w5.cell? ⟨w.heap.size, o, none⟩ = _ := fun o => hc _ o (by first | (simp; done) | (simp; omega) | omega); have g5_0 : ∀ o, w5.frozen? ⟨w.heap.size, o, none⟩ = _ := fun o => hf _ o (by first | (simp; done) | (simp; omega) | omega); (have z5_1 : w2.heap.size < w5.heap.size := by omega); have c5_1 : ∀ o, w5.cell? ⟨w2.heap.size, o, none⟩ = _ := fun o => hc _ o (by first | (simp; done) | (simp; omega) | omega); have g5_1 : ∀ o, w5.frozen? ⟨w2.heap.size, o, none⟩ = _ := fun o => hf _ o (by first | (simp; done) | (simp; omega) | omega); (have z5_2 : w3.heap.size < w5.heap.size := by omega); have c5_2 : ∀ o, w5.cell? ⟨w3.heap.size, o, none⟩ = _ := fun o => hc _ o (by first | (simp; done) | (simp; omega) | omega); have g5_2 : ∀ o, w5.frozen? ⟨w3.heap.size, o, none⟩ = _ := fun o => hf _ o (by first | (simp; done) | (simp; omega) | omega); clear hb hz hc hf))
  (first | (refine hK.out _ _ ?_ (fun hHeld => ?_)) | (go_wp2_with fail; refine hK.out _ _ ?_ (fun hHeld => ?_)))
  · (try dsimp only)
    simp (maxDischargeDepth := 16) [*, World.cell?_alloc_some, World.cell?_setCell_far]
  clear hK K
  (try simp only [Act.put, List.setIfInBounds_toArray, List.set_cons_zero, List.set_cons_succ])
  refine wpAnyH_take (i := 7) (oi := ⟨_, _, _, _, _, _⟩) (v := ?_) rfl (by kernel_rfl) (by kernel_rfl) (by kernel_rfl) (fun _ _ _ h => h) (Or.inl ⟨rfl, ?_⟩) hHeld ?_
  rotate_left
  · (intro w hSw)
    (try dsimp only at hSw)
    (first | (go_simp; done) | (go_simp; with_reducible rfl))
  (try simp only [Act.put, List.setIfInBounds_toArray, List.set_cons_zero, List.set_cons_succ])
  refine wpAnyH_take (i := 8) (oi := ⟨_, _, _, _, _, _⟩) (v := ?_) rfl (by kernel_rfl) (by kernel_rfl) (by kernel_rfl) (fun _ _ _ h => h) (Or.inl ⟨rfl, ?_⟩) hHeld ?_
  rotate_left
  · (intro w hSw)
    (try dsimp only at hSw)
    (first | (go_simp; done) | (go_simp; with_reducible rfl))
  (try simp only [Act.put, List.setIfInBounds_toArray, List.set_cons_zero, List.set_cons_succ])
  refine wpAnyH_take (i := 9) (oi := ⟨_, _, _, _, _, _⟩) (v := ?_) rfl (by kernel_rfl) (by kernel_rfl) (by kernel_rfl) (fun _ _ _ h => h) (Or.inl ⟨rfl, ?_⟩) hHeld ?_
  rotate_left
  · (intro w hSw)
    (try dsimp only at hSw)
    (first | (go_simp; done) | (go_simp; with_reducible rfl))
  (try simp only [Act.put, List.setIfInBounds_toArray, List.set_cons_zero, List.set_cons_succ])
  refine wpAnyH_take (i := 10) (oi := ⟨_, _, _, _, _, _⟩) (v := ?_) rfl (by kernel_rfl) (by kernel_rfl) (by kernel_rfl) (fun _ _ _ h => h) (Or.inl ⟨rfl, ?_⟩) hHeld ?_
  rotate_left
  · (intro w hSw)
    (try dsimp only at hSw)
    (first | (go_simp; done) | (go_simp; with_reducible rfl))
  (try simp only [Act.put, List.setIfInBounds_toArray, List.set_cons_zero, List.set_cons_succ])
  refine wpAnyH_take (i := 11) (oi := ⟨_, _, _, _, _, _⟩) (v := ?_) rfl (by kernel_rfl) (by kernel_rfl) (by kernel_rfl) (fun _ _ _ h => h) (Or.inl ⟨rfl, ?_⟩) hHeld ?_
  rotate_left
  · (intro w hSw)
    (try dsimp only at hSw)
    (first | (go_simp; done) | (go_simp; with_reducible rfl))
  (try simp only [Act.put, List.setIfInBounds_toArray, List.set_cons_zero, List.set_cons_succ])
  refine wpAnyH_take (i := 12) (oi := ⟨_, _, _, _, _, _⟩) (v := ?_) rfl (by kernel_rfl) (by kernel_rfl) (by kernel_rfl) (fun _ _ _ h => h) (Or.inl ⟨rfl, ?_⟩) hHeld ?_
  rotate_left
  · (intro w hSw)
    (try dsimp only at hSw)
    (first | (go_simp; done) | (go_simp; with_reducible rfl))
  (try simp only [Act.put, List.setIfInBounds_toArray, List.set_cons_zero, List.set_cons_succ])
  refine wpAnyH_take (i := 13) (oi := ⟨_, _, _, _, _, _⟩) (v := ?_) rfl (by kernel_rfl) (by kernel_rfl) (by kernel_rfl) (fun _ _ _ h => h) (Or.inl ⟨rfl, ?_⟩) hHeld ?_
  rotate_left
  · (intro w hSw)
    (try dsimp only at hSw)
    (first | (go_simp; done) | (go_simp; with_reducible rfl))
  (try simp only [Act.put, List.setIfInBounds_toArray, List.set_cons_zero, List.set_cons_succ])
  refine wpAnyH_take (i := 14) (oi := ⟨_, _, _, _, _, _⟩) (v := undef) rfl (by kernel_rfl) (by kernel_rfl) (by kernel_rfl) (fun _ _ _ h => h) (Or.inr ⟨rfl, rfl⟩) hHeld ?_
  (try simp only [Act.put, List.setIfInBounds_toArray, List.set_cons_zero, List.set_cons_succ])
  refine wpAnyH_take (i := 15) (oi := ⟨_, _, _, _, _, _⟩) (v := undef) rfl (by kernel_rfl) (by kernel_rfl) (by kernel_rfl) (fun _ _ _ h => h) (Or.inr ⟨rfl, rfl⟩) hHeld ?_
  (try simp only [Act.put, List.setIfInBounds_toArray, List.set_cons_zero, List.set_cons_succ])
  refine wpAnyH_take (i := 16) (oi := ⟨_, _, _, _, _, _⟩) (v := undef) rfl (by kernel_rfl) (by kernel_rfl) (by kernel_rfl) (fun _ _ _ h => h) (Or.inr ⟨rfl, rfl⟩) hHeld ?_
  (try simp only [Act.put, List.setIfInBounds_toArray, List.set_cons_zero, List.set_cons_succ])
  refine wpAnyH_take (i := 17) (oi := ⟨_, _, _, _, _, _⟩) (v := ?_) rfl (by kernel_rfl) (by kernel_rfl) (by kernel_rfl) (fun _ _ _ h => h) (Or.inl ⟨rfl, ?_⟩) hHeld ?_
  rotate_left
  · (intro w hSw)
    (try dsimp only at hSw)
    (first | (go_simp; done) | (go_simp; with_reducible rfl))
  (try simp only [Act.put, List.setIfInBounds_toArray, List.set_cons_zero, List.set_cons_succ])
  refine wpAnyH_take (i := 18) (oi := ⟨_, _, _, _, _, _⟩) (v := ?_) rfl (by kernel_rfl) (by kernel_rfl) (by kernel_rfl) (fun _ _ _ h => h) (Or.inl ⟨rfl, ?_⟩) hHeld ?_
  rotate_left
  · (intro w hSw)
    (try dsimp only at hSw)
    (first | (go_simp; done) | (go_simp; with_reducible rfl))
  (try simp only [Act.put, List.setIfInBounds_toArray, List.set_cons_zero, List.set_cons_succ])
  refine wpAnyH_take (i := 19) (oi := ⟨_, _, _, _, _, _⟩) (v := ?_) rfl (by kernel_rfl) (by kernel_rfl) (by kernel_rfl) (fun _ _ _ h => h) (Or.inl ⟨rfl, ?_⟩) hHeld ?_
  rotate_left
  · (intro w hSw)
    (try dsimp only at hSw)
    (first | (go_simp; done) | (go_simp; with_reducible rfl))
  (try simp only [Act.put, List.setIfInBounds_toArray, List.set_cons_zero, List.set_cons_succ])
  refine wpAnyH_take (i := 20) (oi := ⟨_, _, _, _, _, _⟩) (v := ?_) rfl (by kernel_rfl) (by kernel_rfl) (by kernel_rfl) (fun _ _ _ h => h) (Or.inl ⟨rfl, ?_⟩) hHeld ?_
  rotate_left
  · (intro w hSw)
    (try dsimp only at hSw)
    (first | (go_simp; done) | (go_simp; with_reducible rfl))
  (try simp only [Act.put, List.setIfInBounds_toArray, List.set_cons_zero, List.set_cons_succ])
  refine wpAnyH_take (i := 21) (oi := ⟨_, _, _, _, _, _⟩) (v := ?_) rfl (by kernel_rfl) (by kernel_rfl) (by kernel_rfl) (fun _ _ _ h => h) (Or.inl ⟨rfl, ?_⟩) hHeld ?_
  rotate_left
  · (intro w hSw)
    (try dsimp only at hSw)
    (first | (go_simp; done) | (go_simp; with_reducible rfl))
  (try simp only [Act.put, List.setIfInBounds_toArray, List.set_cons_zero, List.set_cons_succ])
  refine wpAnyH_take (i := 22) (oi := ⟨_, _, _, _, _, _⟩) (v := ?_) rfl (by kernel_rfl) (by kernel_rfl) (by kernel_rfl) (fun _ _ _ h => h) (Or.inl ⟨rfl, ?_⟩) hHeld ?_
  rotate_left
  · (intro w hSw)
    (try dsimp only at hSw)
    (first | (go_simp; done) | (go_simp; with_reducible rfl))
  (try simp only [Act.put, List.setIfInBounds_toArray, List.set_cons_zero, List.set_cons_succ])
  refine wpAnyH_take (i := 23) (oi := ⟨_, _, _, _, _, _⟩) (v := ?_) rfl (by kernel_rfl) (by kernel_rfl) (by kernel_rfl) (fun _ _ _ h => h) (Or.inl ⟨rfl, ?_⟩) hHeld ?_
  rotate_left
  · (intro w hSw)
    (try dsimp only at hSw)
    (first | (go_simp; done) | (go_simp; with_reducible rfl))
  (try simp only [Act.put, List.setIfInBounds_toArray, List.set_cons_zero, List.set_cons_succ])
  refine wpAnyH_take (i := 24) (oi := ⟨_, _, _, _, _, _⟩) (v := ?_) rfl (by kernel_rfl) (by kernel_rfl) (by kernel_rfl) (fun _ _ _ h => h) (Or.inl ⟨rfl, ?_⟩) hHeld ?_
  rotate_left
  · (intro w hSw)
    (try dsimp only at hSw)
    (first | (go_simp; done) | (go_simp; with_reducible rfl))
  (try simp only [Act.put, List.setIfInBounds_toArray, List.set_cons_zero, List.set_cons_succ])
  refine wpAnyH_take (i := 25) (oi := ⟨_, _, _, _, _, _⟩) (v := ?_) rfl (by kernel_rfl) (by kernel_rfl) (by kernel_rfl) (fun _ _ _ h => h) (Or.inl ⟨rfl, ?_⟩) hHeld ?_
  rotate_left
  · (intro w hSw)
    (try dsimp only at hSw)
    (first | (go_simp; done) | (go_simp; with_reducible rfl))
  (try simp only [Act.put, List.setIfInBounds_toArray, List.set_cons_zero, List.set_cons_succ])
  refine wpAnyH_take (i := 26) (oi := ⟨_, _, _, _, _, _⟩) (v := ?_) rfl (by kernel_rfl) (by kernel_rfl) (by kernel_rfl) (fun _ _ _ h => h) (Or.inl ⟨rfl, ?_⟩) hHeld ?_
  rotate_left
  · (intro w hSw)
    (try dsimp only at hSw)
    (first | (go_simp; done) | (go_simp; with_reducible rfl))
  (try simp only [Act.put, List.setIfInBounds_toArray, List.set_cons_zero, List.set_cons_succ])
  refine wpAnyH_take (i := 27) (oi := ⟨_, _, _, _, _, _⟩) (v := ?_) rfl (by kernel_rfl) (by kernel_rfl) (by kernel_rfl) (fun _ _ _ h => h) (Or.inl ⟨rfl, ?_⟩) hHeld ?_
  rotate_left
  · (intro w hSw)
    (try dsimp only at hSw)
    (first | (go_simp; done) | (go_simp; with_reducible rfl))
  (try simp only [Act.put, List.setIfInBounds_toArray, List.set_cons_zero, List.set_cons_succ])
  refine wpAnyH_take (i := 28) (oi := ⟨_, _, _, _, _, _⟩) (v := ?_) rfl (by kernel_rfl) (by kernel_rfl) (by kernel_rfl) (fun _ _ _ h => h) (Or.inl ⟨rfl, ?_⟩) hHeld ?_
  rotate_left
  · (intro w hSw)
    (try dsimp only at hSw)
    (first | (go_simp; done) | (go_simp; with_reducible rfl))
  (try simp only [Act.put, List.setIfInBounds_toArray, List.set_cons_zero, List.set_cons_succ])
  refine wpAnyH_take (i := 29) (oi := ⟨_, _, _, _, _, _⟩) (v := ?_) rfl (by kernel_rfl) (by kernel_rfl) (by kernel_rfl) (fun _ _ _ h => h) (Or.inl ⟨rfl, ?_⟩) hHeld ?_
  rotate_left
  · (intro w hSw)
    (try dsimp only at hSw)
    (first | (go_simp; done) | (go_simp; with_reducible rfl))
  (try simp only [Act.put, List.setIfInBounds_toArray, List.set_cons_zero, List.set_cons_succ])
  refine wpAnyH_take (i := 30) (oi := ⟨_, _, _, _, _, _⟩) (v := ?_) rfl (by kernel_rfl) (by kernel_rfl) (by kernel_rfl) (fun _ _ _ h => h) (Or.inl ⟨rfl, ?_⟩) hHeld ?_
  rotate_left
  · (intro w hSw)
    (try dsimp only at hSw)
    (first | (go_simp; done) | (go_simp; with_reducible rfl))
  (try simp only [Act.put, List.setIfInBounds_toArray, List.set_cons_zero, List.set_cons_succ])
  refine wpAnyH_take (i := 31) (oi := ⟨_, _, _, _, _, _⟩) (v := ?_) rfl (by kernel_rfl) (by kernel_rfl) (by kernel_rfl) (fun _ _ _ h => h) (Or.inl ⟨rfl, ?_⟩) hHeld ?_
  rotate_left
  · (intro w hSw)
    (try dsimp only at hSw)
    (first | (go_simp; done) | (go_simp; with_reducible rfl))
  (try simp only [Act.put, List.setIfInBounds_toArray, List.set_cons_zero, List.set_cons_succ])
  refine wpAnyH_take (i := 32) (oi := ⟨_, _, _, _, _, _⟩) (v := ?_) rfl (by kernel_rfl) (by kernel_rfl) (by kernel_rfl) (fun _ _ _ h => h) (Or.inl ⟨rfl, ?_⟩) hHeld ?_
  rotate_left
  · (intro w hSw)
    (try dsimp only at hSw)
    (first | (go_simp; done) | (go_simp; with_reducible rfl))
  (try simp only [Act.put, List.setIfInBounds_toArray, List.set_cons_zero, List.set_cons_succ])
  refine wpAnyH_done (by kernel_rfl) ?_ _
  refine NoPanic.normal ?_
  all_goals
    go_wp2
    go_ret
    exact ⟨rfl, (by (repeat (first | (with_reducible exact HB) | (with_reducible exact Below.refl _ _) | (with_reducible refine below_set ?_ (by (try dsimp only); omega) _) | (with_reducible apply below_drew) | (with_reducible apply below_draws) | (with_reducible apply below_alloc))))⟩

set_option maxRecDepth 100000 in
set_option maxHeartbeats 8000000 in
theorem split_b (x A D : Wh) (S1 : ∀ w : World, Calls Try.prog 13 #[.agg #[.int .i64 x.k, .int .i64 x.t, .int .i64 x.i, .int .i64 x.l, .bool x.m, .int .u64 (x.a : Nat), .int .u64 (x.b : Nat)], .bool true] w fun e w' => e = .returned (.tuple #[.agg #[.int .i64 A.k, .int .i64 A.t, .int .i64 A.i, .int .i64 A.l, .bool A.m, .int .u64 (A.a : Nat), .int .u64 (A.b : Nat)], .bool false]) ∧ Below w.heap.size w w') (S2 : ∀ w : World, Calls Try.prog 13 #[.agg #[.int .i64 x.k, .int .i64 x.t, .int .i64 x.i, .int .i64 x.l, .bool x.m, .int .u64 (x.a : Nat), .int .u64 (x.b : Nat)], .bool false] w fun e w' => e = .returned (.tuple #[.agg #[.int .i64 D.k, .int .i64 D.t, .int .i64 D.i, .int .i64 D.l, .bool D.m, .int .u64 (D.a : Nat), .int .u64 (D.b : Nat)], .bool false]) ∧ Below w.heap.size w w') (M1 : ∀ w : World, Calls Try.prog 12 #[.agg #[.int .i64 x.k, .int .i64 x.t, .int .i64 x.i, .int .i64 x.l, .bool x.m, .int .u64 (x.a : Nat), .int .u64 (x.b : Nat)]] w fun e w' => e = .returned (.bool true) ∧ Below w.heap.size w w') (e0 : (x.k == 0) = true) (g : decide (1 < x.k) = false) (w : World) :
    Calls Try.prog 4 #[.agg #[.int .i64 x.k, .int .i64 x.t, .int .i64 x.i, .int .i64 x.l, .bool x.m, .int .u64 (x.a : Nat), .int .u64 (x.b : Nat)]] w fun e w' => e = .returned (.bool true) ∧ Below w.heap.size w w' := by
  have he := eqWhat
  have nn0 : ∀ n : Nat, ¬ n = n + 1 + 1 := fun n => by omega
  have nn1 : ∀ n : Nat, ¬ n + 1 + 1 = n := fun n => by omega
  have nn2 : ∀ n : Nat, ¬ n = n + 1 + 1 + 1 := fun n => by omega
  have nn3 : ∀ n : Nat, ¬ n + 1 + 1 + 1 = n := fun n => by omega
  have nn4 : ∀ n : Nat, ¬ n + 1 = n + 1 + 1 + 1 := fun n => by omega
  have nn5 : ∀ n : Nat, ¬ n + 1 + 1 + 1 = n + 1 := fun n => by omega
  have nn6 : ∀ a b : Nat, a < b → ¬ a = b + 1 + 1 := fun a b h => by omega
  have nn7 : ∀ a b : Nat, a < b → ¬ a = b + 1 := fun a b h => by omega
  have nn8 : ∀ a b : Nat, a < b → ¬ a = b := fun a b h => by omega
  have nn9 : ∀ a b : Nat, a < b → a ≤ b := fun a b h => by omega
  have nn10 : ∀ a b : Nat, a < b → a ≤ b + 1 := fun a b h => by omega
  have nn11 : ∀ a b : Nat, a < b → a < b + 1 + 1 := fun a b h => by omega
  have nn12 : ∀ a b : Nat, a < b → a < b + 1 := fun a b h => by omega
  have nn13 : ∀ a b : Nat, a < b → ¬ b = a := fun a b h => by omega
  have nn14 : ∀ a b : Nat, a < b → ¬ b + 1 = a := fun a b h => by omega
  go_enter Try.func4, Try.ntmps4
  go_upto_region 4 with (first | (go_at_call 10; ((with_reducible refine (shown_any _).mono ?_); rintro e w1 ⟨rfl, hb⟩); have HB : Below w.heap.size w w1 := below_then (by (repeat (first | (with_reducible exact HB) | (with_reducible exact Below.refl _ _) | (with_reducible refine below_set ?_ (by (try dsimp only); omega) _) | (with_reducible apply below_drew) | (with_reducible apply below_draws) | (with_reducible apply below_alloc)))) hb; obtain ⟨hc, hf⟩ := bcell hb; have hz := hb.size; (try simp at hz); (have z1_0 : w.heap.size < w1.heap.size := by omega); have c1_0 : ∀ o, w1.cell? ⟨w.heap.size, o, none⟩ = _ := fun o => hc _ o (by first | (simp; done) | (simp; omega) | omega); have g1_0 : ∀ o, w1.frozen? ⟨w.heap.size, o, none⟩ = _ := fun o => hf _ o (by first | (simp; done) | (simp; omega) | omega); clear hb hz hc hf) | (go_at_call 13; ((with_reducible refine (S1 _).mono ?_); rintro e w2 ⟨rfl, hb⟩); have HB : Below w.heap.size w w2 := below_then (by (repeat (first | (with_reducible exact HB) | (with_reducible exact Below.refl _ _) | (with_reducible refine below_set ?_ (by (try dsimp only); omega) _) | (with_reducible apply below_drew) | (with_reducible apply below_draws) | (with_reducible apply below_alloc)))) hb; obtain ⟨hc, hf⟩ := bcell hb; have hz := hb.size; (try simp at hz); (have z2_0 : w.heap.size < w2.heap.size := by omega); have c2_0 : ∀ o, w2.cell? ⟨w.heap.size, o, none⟩ = _ := fun o => hc _ o (by first | (simp; done) | (simp; omega) | omega); have g2_0 : ∀ o, w2.frozen? ⟨w.heap.size, o, none⟩ = _ := fun o => hf _ o (by first | (simp; done) | (simp; omega) | omega); clear hb hz hc hf; clear S1) | (go_at_call 13; ((with_reducible refine (S2 _).mono ?_); rintro e w3 ⟨rfl, hb⟩); have HB : Below w.heap.size w w3 := below_then (by (repeat (first | (with_reducible exact HB) | (with_reducible exact Below.refl _ _) | (with_reducible refine below_set ?_ (by (try dsimp only); omega) _) | (with_reducible apply below_drew) | (with_reducible apply below_draws) | (with_reducible apply below_alloc)))) hb; obtain ⟨hc, hf⟩ := bcell hb; have hz := hb.size; (try simp at hz); (have z3_0 : w.heap.size < w3.heap.size := by omega); have c3_0 : ∀ o, w3.cell? ⟨w.heap.size, o, none⟩ = _ := fun o => hc _ o (by first | (simp; done) | (simp; omega) | omega); have g3_0 : ∀ o, w3.frozen? ⟨w.heap.size, o, none⟩ = _ := fun o => hf _ o (by first | (simp; done) | (simp; omega) | omega); (have z3_1 : w2.heap.size < w3.heap.size := by omega); have c3_1 : ∀ o, w3.cell? ⟨w2.heap.size, o, none⟩ = _ := fun o => hc _ o (by first | (simp; done) | (simp; omega) | omega); have g3_1 : ∀ o, w3.frozen? ⟨w2.heap.size, o, none⟩ = _ := fun o => hf _ o (by first | (simp; done) | (simp; omega) | omega); clear hb hz hc hf))
  refine named (P := fun W => Code.wp _ _ _ _ W) (fun W => Seven W (w.heap.size) x.k x.t x.i x.l x.m (x.a : Nat) (x.b : Nat) ∧ Seven W (w2.heap.size) A.k A.t A.i A.l A.m (A.a : Nat) (A.b : Nat) ∧ Seven W (w3.heap.size) D.k D.t D.i D.l D.m (D.a : Nat) (D.b : Nat) ∧ w.heap.size < W.heap.size ∧ w2.heap.size < W.heap.size ∧ w3.heap.size < W.heap.size ∧ Below w.heap.size w W) ⟨⟨(by first | (with_reducible assumption) | (go_simp; done) | (simp (maxDischargeDepth := 16) [*]; done)), (by first | (with_reducible assumption) | (go_simp; done) | (simp (maxDischargeDepth := 16) [*]; done)), (by first | (with_reducible assumption) | (go_simp; done) | (simp (maxDischargeDepth := 16) [*]; done)), (by first | (with_reducible assumption) | (go_simp; done) | (simp (maxDischargeDepth := 16) [*]; done)), (by first | (with_reducible assumption) | (go_simp; done) | (simp (maxDischargeDepth := 16) [*]; done)), (by first | (with_reducible assumption) | (go_simp; done) | (simp (maxDischargeDepth := 16) [*]; done)), (by first | (with_reducible assumption) | (go_simp; done) | (simp (maxDischargeDepth := 16) [*]; done))⟩, ⟨(by first | (with_reducible assumption) | (go_simp; done) | (simp (maxDischargeDepth := 16) [*]; done)), (by first | (with_reducible assumption) | (go_simp; done) | (simp (maxDischargeDepth := 16) [*]; done)), (by first | (with_reducible assumption) | (go_simp; done) | (simp (maxDischargeDepth := 16) [*]; done)), (by first | (with_reducible assumption) | (go_simp; done) | (simp (maxDischargeDepth := 16) [*]; done)), (by first | (with_reducible assumption) | (go_simp; done) | (simp (maxDischargeDepth := 16) [*]; done)), (by first | (with_reducible assumption) | (go_simp; done) | (simp (maxDischargeDepth := 16) [*]; done)), (by first | (with_reducible assumption) | (go_simp; done) | (simp (maxDischargeDepth := 16) [*]; done))⟩, ⟨(by first | (with_reducible assumption) | (go_simp; done) | (simp (maxDischargeDepth := 16) [*]; done)), (by first | (with_reducible assumption) | (go_simp; done) | (simp (maxDischargeDepth := 16) [*]; done)), (by first | (with_reducible assumption) | (go_simp; done) | (simp (maxDischargeDepth := 16) [*]; done)), (by first | (with_reducible assumption) | (go_simp; done) | (simp (maxDischargeDepth := 16) [*]; done)), (by first | (with_reducible assumption) | (go_simp; done) | (simp (maxDischargeDepth := 16) [*]; done)), (by first | (with_reducible assumption) | (go_simp; done) | (simp (maxDischargeDepth := 16) [*]; done)), (by first | (with_reducible assumption) | (go_simp; done) | (simp (maxDischargeDepth := 16) [*]; done))⟩, (by first | omega | (simp; done) | (simp; omega)), (by first | omega | (simp; done) | (simp; omega)), (by first | omega | (simp; done) | (simp; omega)), (by (repeat (first | (with_reducible exact HB) | (with_reducible exact Below.refl _ _) | (with_reducible refine below_set ?_ (by (try dsimp only); omega) _) | (with_reducible apply below_drew) | (with_reducible apply below_draws) | (with_reducible apply below_alloc))))⟩ ?_
  rintro W ⟨⟨o00, o01, o02, o03, o04, o05, o06⟩, ⟨o10, o11, o12, o13, o14, o15, o16⟩, ⟨o20, o21, o22, o23, o24, o25, o26⟩, hs0, hs1, hs2, HB⟩
  clear S2
  go_upto_region 5 with (first | (go_at_call 12; ((with_reducible refine (M1 _).mono ?_); rintro e w4 ⟨rfl, hb⟩); have HB : Below w.heap.size w w4 := below_then (by (repeat (first | (with_reducible exact HB) | (with_reducible exact Below.refl _ _) | (with_reducible refine below_set ?_ (by (try dsimp only); omega) _) | (with_reducible apply below_drew) | (with_reducible apply below_draws) | (with_reducible apply below_alloc)))) hb; obtain ⟨hc, hf⟩ := bcell hb; have hz := hb.size; (try simp at hz); (have z4_0 : w.heap.size < w4.heap.size := by omega); have c4_0 : ∀ o, w4.cell? ⟨w.heap.size, o, none⟩ = _ := fun o => hc _ o (by first | (simp; done) | (simp; omega) | omega); have g4_0 : ∀ o, w4.frozen? ⟨w.heap.size, o, none⟩ = _ := fun o => hf _ o (by first | (simp; done) | (simp; omega) | omega); (have z4_1 : w2.heap.size < w4.heap.size := by omega); have c4_1 : ∀ o, w4.cell? ⟨w2.heap.size, o, none⟩ = _ := fun o => hc _ o (by first | (simp; done) | (simp; omega) | omega); have g4_1 : ∀ o, w4.frozen? ⟨w2.heap.size, o, none⟩ = _ := fun o => hf _ o (by first | (simp; done) | (simp; omega) | omega); (have z4_2 : w3.heap.size < w4.heap.size := by omega); have c4_2 : ∀ o, w4.cell? ⟨w3.heap.size, o, none⟩ = _ := fun o => hc _ o (by first | (simp; done) | (simp; omega) | omega); have g4_2 : ∀ o, w4.frozen? ⟨w3.heap.size, o, none⟩ = _ := fun o => hf _ o (by first | (simp; done) | (simp; omega) | omega); clear hb hz hc hf))
  refine wp_region_noPanic ?_
  refine wp_region_held_drew (S := (fun w' => w'.cell? ⟨w.heap.size, 0, none⟩ = some (.int .i64 x.k) ∧ w'.cell? ⟨w.heap.size, 1, none⟩ = some (.int .i64 x.t) ∧ w'.cell? ⟨w.heap.size, 2, none⟩ = some (.int .i64 x.i) ∧ w'.cell? ⟨w.heap.size, 3, none⟩ = some (.int .i64 x.l) ∧ w'.cell? ⟨w.heap.size, 4, none⟩ = some (.bool x.m) ∧ w'.cell? ⟨w.heap.size, 5, none⟩ = some (.int .u64 (x.a : Nat)) ∧ w'.cell? ⟨w.heap.size, 6, none⟩ = some (.int .u64 (x.b : Nat)))) (by kernel_rfl) ?_ (fun hHeld => ?_)
  · (try dsimp only)
    simp (maxDischargeDepth := 16) [*, World.cell?_alloc_some, World.cell?_setCell_far]
  refine wpAnyH_take (i := 0) (oi := ⟨_, _, _, _, _, _⟩) (v := ?_) rfl (by kernel_rfl) (by kernel_rfl) (by kernel_rfl) (fun _ _ _ h => h) (Or.inl ⟨rfl, ?_⟩) hHeld ?_
  rotate_left
  · (intro w hSw)
    (try dsimp only at hSw)
    (first | (go_simp; done) | (go_simp; with_reducible rfl))
  (try simp only [Act.put, List.setIfInBounds_toArray, List.set_cons_zero, List.set_cons_succ])
  refine wpAnyH_take (i := 1) (oi := ⟨_, _, _, _, _, _⟩) (v := ?_) rfl (by kernel_rfl) (by kernel_rfl) (by kernel_rfl) (fun _ _ _ h => h) (Or.inl ⟨rfl, ?_⟩) hHeld ?_
  rotate_left
  · (intro w hSw)
    (try dsimp only at hSw)
    (first | (go_simp; done) | (go_simp; with_reducible rfl))
  (try simp only [Act.put, List.setIfInBounds_toArray, List.set_cons_zero, List.set_cons_succ])
  refine wpAnyH_take (i := 2) (oi := ⟨_, _, _, _, _, _⟩) (v := ?_) rfl (by kernel_rfl) (by kernel_rfl) (by kernel_rfl) (fun _ _ _ h => h) (Or.inl ⟨rfl, ?_⟩) hHeld ?_
  rotate_left
  · (intro w hSw)
    (try dsimp only at hSw)
    (first | (go_simp; done) | (go_simp; with_reducible rfl))
  (try simp only [Act.put, List.setIfInBounds_toArray, List.set_cons_zero, List.set_cons_succ])
  refine wpAnyH_take (i := 4) (oi := ⟨_, _, _, _, _, _⟩) (v := ?_) rfl (by kernel_rfl) (by kernel_rfl) (by kernel_rfl) (fun _ _ _ h => h) (Or.inl ⟨rfl, ?_⟩) hHeld ?_
  rotate_left
  · (intro w hSw)
    (try dsimp only at hSw)
    (first | (go_simp; done) | (go_simp; with_reducible rfl))
  (try simp only [Act.put, List.setIfInBounds_toArray, List.set_cons_zero, List.set_cons_succ])
  refine wpAnyH_take (i := 5) (oi := ⟨_, _, _, _, _, _⟩) (v := ?_) rfl (by kernel_rfl) (by kernel_rfl) (by kernel_rfl) (fun _ _ _ h => h) (Or.inl ⟨rfl, ?_⟩) hHeld ?_
  rotate_left
  · (intro w hSw)
    (try dsimp only at hSw)
    (first | (go_simp; done) | (go_simp; with_reducible rfl))
  (try simp only [Act.put, List.setIfInBounds_toArray, List.set_cons_zero, List.set_cons_succ])
  refine wpAnyH_take (i := 6) (oi := ⟨_, _, _, _, _, _⟩) (v := ?_) rfl (by kernel_rfl) (by kernel_rfl) (by kernel_rfl) (fun _ _ _ h => h) (Or.inl ⟨rfl, ?_⟩) hHeld ?_
  rotate_left
  · (intro w hSw)
    (try dsimp only at hSw)
    (first | (go_simp; done) | (go_simp; with_reducible rfl))
  (try simp only [Act.put, List.setIfInBounds_toArray, List.set_cons_zero, List.set_cons_succ])
  refine wpAnyH_ready (rs := [3]) (by kernel_rfl) (by simp) ?_
  refine AllReadyH.cons (o := ⟨_, _, _, _, _, _⟩) rfl (fun K hK => ?_) AllReadyH.nil
  go_simp
  (first | (go_at_call 12; refine (M1 _).mono ?_; rintro e w5 ⟨rfl, hb⟩; have HB : Below w.heap.size w w5 := below_then (by (repeat (first | (with_reducible exact HB) | (with_reducible exact Below.refl _ _) | (with_reducible refine below_set ?_ (by (try dsimp only); omega) _) | (with_reducible apply below_drew) | (with_reducible apply below_draws) | (with_reducible apply below_alloc)))) hb; obtain ⟨hc, hf⟩ := bcell hb; have hz := hb.size; (try simp at hz); (have z5_0 : w.heap.size < w5.heap.size := by omega); have c5_0 : ∀ o, w5.cell? ⟨w.heap.size, o, none⟩ = _ := fun o => hc _ o (by first | (simp; done) | (simp; omega) | omega); have g5_0 : ∀ o, w5.frozen? ⟨w.heap.size, o, none⟩ = _ := fun o => hf _ o (by first | (simp; done) | (simp; omega) | omega); (have z5_1 : w2.heap.size < w5.heap.size := by omega); have c5_1 : ∀ o, w5.cell? ⟨w2.heap.size, o, none⟩ = _ := fun o => hc _ o (by first | (simp; done) | (simp; omega) | omega); have g5_1 : ∀ o, w5.frozen? ⟨w2.heap.size, o, none⟩ = _ := fun o => hf _ o (by first | (simp; done) | (simp; omega) | omega); (have z5_2 : w3.heap.size < w5.heap.size := by omega); have c5_2 : ∀ o, w5.cell? ⟨w3.heap.size, o, none⟩ = _ := fun o => hc _ o (by first | (simp; done) | (simp; omega) | omega); have g5_2 : ∀ o, w5.frozen? ⟨w3.heap.size, o, none⟩ = _ := fun o => hf _ o (by first | (simp; done) | (simp; omega) | omega); clear hb hz hc hf))
  (first | (refine hK.out _ _ ?_ (fun hHeld => ?_)) | (go_wp2_with fail; refine hK.out _ _ ?_ (fun hHeld => ?_)))
  · (try dsimp only)
    simp (maxDischargeDepth := 16) [*, World.cell?_alloc_some, World.cell?_setCell_far]
  clear hK K
  (try simp only [Act.put, List.setIfInBounds_toArray, List.set_cons_zero, List.set_cons_succ])
  refine wpAnyH_take (i := 7) (oi := ⟨_, _, _, _, _, _⟩) (v := ?_) rfl (by kernel_rfl) (by kernel_rfl) (by kernel_rfl) (fun _ _ _ h => h) (Or.inl ⟨rfl, ?_⟩) hHeld ?_
  rotate_left
  · (intro w hSw)
    (try dsimp only at hSw)
    (first | (go_simp; done) | (go_simp; with_reducible rfl))
  (try simp only [Act.put, List.setIfInBounds_toArray, List.set_cons_zero, List.set_cons_succ])
  refine wpAnyH_take (i := 8) (oi := ⟨_, _, _, _, _, _⟩) (v := undef) rfl (by kernel_rfl) (by kernel_rfl) (by kernel_rfl) (fun _ _ _ h => h) (Or.inr ⟨rfl, rfl⟩) hHeld ?_
  (try simp only [Act.put, List.setIfInBounds_toArray, List.set_cons_zero, List.set_cons_succ])
  refine wpAnyH_take (i := 9) (oi := ⟨_, _, _, _, _, _⟩) (v := undef) rfl (by kernel_rfl) (by kernel_rfl) (by kernel_rfl) (fun _ _ _ h => h) (Or.inr ⟨rfl, rfl⟩) hHeld ?_
  (try simp only [Act.put, List.setIfInBounds_toArray, List.set_cons_zero, List.set_cons_succ])
  refine wpAnyH_take (i := 10) (oi := ⟨_, _, _, _, _, _⟩) (v := undef) rfl (by kernel_rfl) (by kernel_rfl) (by kernel_rfl) (fun _ _ _ h => h) (Or.inr ⟨rfl, rfl⟩) hHeld ?_
  (try simp only [Act.put, List.setIfInBounds_toArray, List.set_cons_zero, List.set_cons_succ])
  refine wpAnyH_take (i := 11) (oi := ⟨_, _, _, _, _, _⟩) (v := ?_) rfl (by kernel_rfl) (by kernel_rfl) (by kernel_rfl) (fun _ _ _ h => h) (Or.inl ⟨rfl, ?_⟩) hHeld ?_
  rotate_left
  · (intro w hSw)
    (try dsimp only at hSw)
    (first | (go_simp; done) | (go_simp; with_reducible rfl))
  (try simp only [Act.put, List.setIfInBounds_toArray, List.set_cons_zero, List.set_cons_succ])
  refine wpAnyH_take (i := 12) (oi := ⟨_, _, _, _, _, _⟩) (v := ?_) rfl (by kernel_rfl) (by kernel_rfl) (by kernel_rfl) (fun _ _ _ h => h) (Or.inl ⟨rfl, ?_⟩) hHeld ?_
  rotate_left
  · (intro w hSw)
    (try dsimp only at hSw)
    (first | (go_simp; done) | (go_simp; with_reducible rfl))
  (try simp only [Act.put, List.setIfInBounds_toArray, List.set_cons_zero, List.set_cons_succ])
  refine wpAnyH_take (i := 13) (oi := ⟨_, _, _, _, _, _⟩) (v := ?_) rfl (by kernel_rfl) (by kernel_rfl) (by kernel_rfl) (fun _ _ _ h => h) (Or.inl ⟨rfl, ?_⟩) hHeld ?_
  rotate_left
  · (intro w hSw)
    (try dsimp only at hSw)
    (first | (go_simp; done) | (go_simp; with_reducible rfl))
  (try simp only [Act.put, List.setIfInBounds_toArray, List.set_cons_zero, List.set_cons_succ])
  refine wpAnyH_take (i := 14) (oi := ⟨_, _, _, _, _, _⟩) (v := undef) rfl (by kernel_rfl) (by kernel_rfl) (by kernel_rfl) (fun _ _ _ h => h) (Or.inr ⟨rfl, rfl⟩) hHeld ?_
  (try simp only [Act.put, List.setIfInBounds_toArray, List.set_cons_zero, List.set_cons_succ])
  refine wpAnyH_take (i := 15) (oi := ⟨_, _, _, _, _, _⟩) (v := undef) rfl (by kernel_rfl) (by kernel_rfl) (by kernel_rfl) (fun _ _ _ h => h) (Or.inr ⟨rfl, rfl⟩) hHeld ?_
  (try simp only [Act.put, List.setIfInBounds_toArray, List.set_cons_zero, List.set_cons_succ])
  refine wpAnyH_take (i := 16) (oi := ⟨_, _, _, _, _, _⟩) (v := undef) rfl (by kernel_rfl) (by kernel_rfl) (by kernel_rfl) (fun _ _ _ h => h) (Or.inr ⟨rfl, rfl⟩) hHeld ?_
  (try simp only [Act.put, List.setIfInBounds_toArray, List.set_cons_zero, List.set_cons_succ])
  refine wpAnyH_take (i := 17) (oi := ⟨_, _, _, _, _, _⟩) (v := ?_) rfl (by kernel_rfl) (by kernel_rfl) (by kernel_rfl) (fun _ _ _ h => h) (Or.inl ⟨rfl, ?_⟩) hHeld ?_
  rotate_left
  · (intro w hSw)
    (try dsimp only at hSw)
    (first | (go_simp; done) | (go_simp; with_reducible rfl))
  (try simp only [Act.put, List.setIfInBounds_toArray, List.set_cons_zero, List.set_cons_succ])
  refine wpAnyH_take (i := 18) (oi := ⟨_, _, _, _, _, _⟩) (v := ?_) rfl (by kernel_rfl) (by kernel_rfl) (by kernel_rfl) (fun _ _ _ h => h) (Or.inl ⟨rfl, ?_⟩) hHeld ?_
  rotate_left
  · (intro w hSw)
    (try dsimp only at hSw)
    (first | (go_simp; done) | (go_simp; with_reducible rfl))
  (try simp only [Act.put, List.setIfInBounds_toArray, List.set_cons_zero, List.set_cons_succ])
  refine wpAnyH_take (i := 19) (oi := ⟨_, _, _, _, _, _⟩) (v := ?_) rfl (by kernel_rfl) (by kernel_rfl) (by kernel_rfl) (fun _ _ _ h => h) (Or.inl ⟨rfl, ?_⟩) hHeld ?_
  rotate_left
  · (intro w hSw)
    (try dsimp only at hSw)
    (first | (go_simp; done) | (go_simp; with_reducible rfl))
  (try simp only [Act.put, List.setIfInBounds_toArray, List.set_cons_zero, List.set_cons_succ])
  refine wpAnyH_take (i := 20) (oi := ⟨_, _, _, _, _, _⟩) (v := ?_) rfl (by kernel_rfl) (by kernel_rfl) (by kernel_rfl) (fun _ _ _ h => h) (Or.inl ⟨rfl, ?_⟩) hHeld ?_
  rotate_left
  · (intro w hSw)
    (try dsimp only at hSw)
    (first | (go_simp; done) | (go_simp; with_reducible rfl))
  (try simp only [Act.put, List.setIfInBounds_toArray, List.set_cons_zero, List.set_cons_succ])
  refine wpAnyH_take (i := 21) (oi := ⟨_, _, _, _, _, _⟩) (v := ?_) rfl (by kernel_rfl) (by kernel_rfl) (by kernel_rfl) (fun _ _ _ h => h) (Or.inl ⟨rfl, ?_⟩) hHeld ?_
  rotate_left
  · (intro w hSw)
    (try dsimp only at hSw)
    (first | (go_simp; done) | (go_simp; with_reducible rfl))
  (try simp only [Act.put, List.setIfInBounds_toArray, List.set_cons_zero, List.set_cons_succ])
  refine wpAnyH_take (i := 22) (oi := ⟨_, _, _, _, _, _⟩) (v := ?_) rfl (by kernel_rfl) (by kernel_rfl) (by kernel_rfl) (fun _ _ _ h => h) (Or.inl ⟨rfl, ?_⟩) hHeld ?_
  rotate_left
  · (intro w hSw)
    (try dsimp only at hSw)
    (first | (go_simp; done) | (go_simp; with_reducible rfl))
  (try simp only [Act.put, List.setIfInBounds_toArray, List.set_cons_zero, List.set_cons_succ])
  refine wpAnyH_take (i := 23) (oi := ⟨_, _, _, _, _, _⟩) (v := ?_) rfl (by kernel_rfl) (by kernel_rfl) (by kernel_rfl) (fun _ _ _ h => h) (Or.inl ⟨rfl, ?_⟩) hHeld ?_
  rotate_left
  · (intro w hSw)
    (try dsimp only at hSw)
    (first | (go_simp; done) | (go_simp; with_reducible rfl))
  (try simp only [Act.put, List.setIfInBounds_toArray, List.set_cons_zero, List.set_cons_succ])
  refine wpAnyH_take (i := 24) (oi := ⟨_, _, _, _, _, _⟩) (v := ?_) rfl (by kernel_rfl) (by kernel_rfl) (by kernel_rfl) (fun _ _ _ h => h) (Or.inl ⟨rfl, ?_⟩) hHeld ?_
  rotate_left
  · (intro w hSw)
    (try dsimp only at hSw)
    (first | (go_simp; done) | (go_simp; with_reducible rfl))
  (try simp only [Act.put, List.setIfInBounds_toArray, List.set_cons_zero, List.set_cons_succ])
  refine wpAnyH_take (i := 25) (oi := ⟨_, _, _, _, _, _⟩) (v := ?_) rfl (by kernel_rfl) (by kernel_rfl) (by kernel_rfl) (fun _ _ _ h => h) (Or.inl ⟨rfl, ?_⟩) hHeld ?_
  rotate_left
  · (intro w hSw)
    (try dsimp only at hSw)
    (first | (go_simp; done) | (go_simp; with_reducible rfl))
  (try simp only [Act.put, List.setIfInBounds_toArray, List.set_cons_zero, List.set_cons_succ])
  refine wpAnyH_take (i := 26) (oi := ⟨_, _, _, _, _, _⟩) (v := ?_) rfl (by kernel_rfl) (by kernel_rfl) (by kernel_rfl) (fun _ _ _ h => h) (Or.inl ⟨rfl, ?_⟩) hHeld ?_
  rotate_left
  · (intro w hSw)
    (try dsimp only at hSw)
    (first | (go_simp; done) | (go_simp; with_reducible rfl))
  (try simp only [Act.put, List.setIfInBounds_toArray, List.set_cons_zero, List.set_cons_succ])
  refine wpAnyH_take (i := 27) (oi := ⟨_, _, _, _, _, _⟩) (v := ?_) rfl (by kernel_rfl) (by kernel_rfl) (by kernel_rfl) (fun _ _ _ h => h) (Or.inl ⟨rfl, ?_⟩) hHeld ?_
  rotate_left
  · (intro w hSw)
    (try dsimp only at hSw)
    (first | (go_simp; done) | (go_simp; with_reducible rfl))
  (try simp only [Act.put, List.setIfInBounds_toArray, List.set_cons_zero, List.set_cons_succ])
  refine wpAnyH_take (i := 28) (oi := ⟨_, _, _, _, _, _⟩) (v := ?_) rfl (by kernel_rfl) (by kernel_rfl) (by kernel_rfl) (fun _ _ _ h => h) (Or.inl ⟨rfl, ?_⟩) hHeld ?_
  rotate_left
  · (intro w hSw)
    (try dsimp only at hSw)
    (first | (go_simp; done) | (go_simp; with_reducible rfl))
  (try simp only [Act.put, List.setIfInBounds_toArray, List.set_cons_zero, List.set_cons_succ])
  refine wpAnyH_take (i := 29) (oi := ⟨_, _, _, _, _, _⟩) (v := ?_) rfl (by kernel_rfl) (by kernel_rfl) (by kernel_rfl) (fun _ _ _ h => h) (Or.inl ⟨rfl, ?_⟩) hHeld ?_
  rotate_left
  · (intro w hSw)
    (try dsimp only at hSw)
    (first | (go_simp; done) | (go_simp; with_reducible rfl))
  (try simp only [Act.put, List.setIfInBounds_toArray, List.set_cons_zero, List.set_cons_succ])
  refine wpAnyH_take (i := 30) (oi := ⟨_, _, _, _, _, _⟩) (v := ?_) rfl (by kernel_rfl) (by kernel_rfl) (by kernel_rfl) (fun _ _ _ h => h) (Or.inl ⟨rfl, ?_⟩) hHeld ?_
  rotate_left
  · (intro w hSw)
    (try dsimp only at hSw)
    (first | (go_simp; done) | (go_simp; with_reducible rfl))
  (try simp only [Act.put, List.setIfInBounds_toArray, List.set_cons_zero, List.set_cons_succ])
  refine wpAnyH_take (i := 31) (oi := ⟨_, _, _, _, _, _⟩) (v := ?_) rfl (by kernel_rfl) (by kernel_rfl) (by kernel_rfl) (fun _ _ _ h => h) (Or.inl ⟨rfl, ?_⟩) hHeld ?_
  rotate_left
  · (intro w hSw)
    (try dsimp only at hSw)
    (first | (go_simp; done) | (go_simp; with_reducible rfl))
  (try simp only [Act.put, List.setIfInBounds_toArray, List.set_cons_zero, List.set_cons_succ])
  refine wpAnyH_take (i := 32) (oi := ⟨_, _, _, _, _, _⟩) (v := ?_) rfl (by kernel_rfl) (by kernel_rfl) (by kernel_rfl) (fun _ _ _ h => h) (Or.inl ⟨rfl, ?_⟩) hHeld ?_
  rotate_left
  · (intro w hSw)
    (try dsimp only at hSw)
    (first | (go_simp; done) | (go_simp; with_reducible rfl))
  (try simp only [Act.put, List.setIfInBounds_toArray, List.set_cons_zero, List.set_cons_succ])
  refine wpAnyH_done (by kernel_rfl) ?_ _
  refine NoPanic.normal ?_
  all_goals
    go_wp2
    go_ret
    exact ⟨rfl, (by (repeat (first | (with_reducible exact HB) | (with_reducible exact Below.refl _ _) | (with_reducible refine below_set ?_ (by (try dsimp only); omega) _) | (with_reducible apply below_drew) | (with_reducible apply below_draws) | (with_reducible apply below_alloc))))⟩

set_option maxRecDepth 100000 in
set_option maxHeartbeats 8000000 in
theorem split_c (x A D : Wh) (S1 : ∀ w : World, Calls Try.prog 13 #[.agg #[.int .i64 x.k, .int .i64 x.t, .int .i64 x.i, .int .i64 x.l, .bool x.m, .int .u64 (x.a : Nat), .int .u64 (x.b : Nat)], .bool true] w fun e w' => e = .returned (.tuple #[.agg #[.int .i64 A.k, .int .i64 A.t, .int .i64 A.i, .int .i64 A.l, .bool A.m, .int .u64 (A.a : Nat), .int .u64 (A.b : Nat)], .bool false]) ∧ Below w.heap.size w w') (S2 : ∀ w : World, Calls Try.prog 13 #[.agg #[.int .i64 x.k, .int .i64 x.t, .int .i64 x.i, .int .i64 x.l, .bool x.m, .int .u64 (x.a : Nat), .int .u64 (x.b : Nat)], .bool false] w fun e w' => e = .returned (.tuple #[.agg #[.int .i64 D.k, .int .i64 D.t, .int .i64 D.i, .int .i64 D.l, .bool D.m, .int .u64 (D.a : Nat), .int .u64 (D.b : Nat)], .bool false]) ∧ Below w.heap.size w w') (M1 : ∀ w : World, Calls Try.prog 12 #[.agg #[.int .i64 x.k, .int .i64 x.t, .int .i64 x.i, .int .i64 x.l, .bool x.m, .int .u64 (x.a : Nat), .int .u64 (x.b : Nat)]] w fun e w' => e = .returned (.bool true) ∧ Below w.heap.size w w') (e0 : (x.k == 0) = false) (e1 : (x.k == 1) = true) (g : decide (1 < x.k) = false) (w : World) :
    Calls Try.prog 4 #[.agg #[.int .i64 x.k, .int .i64 x.t, .int .i64 x.i, .int .i64 x.l, .bool x.m, .int .u64 (x.a : Nat), .int .u64 (x.b : Nat)]] w fun e w' => e = .returned (.bool true) ∧ Below w.heap.size w w' := by
  have he := eqWhat
  have nn0 : ∀ n : Nat, ¬ n = n + 1 + 1 := fun n => by omega
  have nn1 : ∀ n : Nat, ¬ n + 1 + 1 = n := fun n => by omega
  have nn2 : ∀ n : Nat, ¬ n = n + 1 + 1 + 1 := fun n => by omega
  have nn3 : ∀ n : Nat, ¬ n + 1 + 1 + 1 = n := fun n => by omega
  have nn4 : ∀ n : Nat, ¬ n + 1 = n + 1 + 1 + 1 := fun n => by omega
  have nn5 : ∀ n : Nat, ¬ n + 1 + 1 + 1 = n + 1 := fun n => by omega
  have nn6 : ∀ a b : Nat, a < b → ¬ a = b + 1 + 1 := fun a b h => by omega
  have nn7 : ∀ a b : Nat, a < b → ¬ a = b + 1 := fun a b h => by omega
  have nn8 : ∀ a b : Nat, a < b → ¬ a = b := fun a b h => by omega
  have nn9 : ∀ a b : Nat, a < b → a ≤ b := fun a b h => by omega
  have nn10 : ∀ a b : Nat, a < b → a ≤ b + 1 := fun a b h => by omega
  have nn11 : ∀ a b : Nat, a < b → a < b + 1 + 1 := fun a b h => by omega
  have nn12 : ∀ a b : Nat, a < b → a < b + 1 := fun a b h => by omega
  have nn13 : ∀ a b : Nat, a < b → ¬ b = a := fun a b h => by omega
  have nn14 : ∀ a b : Nat, a < b → ¬ b + 1 = a := fun a b h => by omega
  go_enter Try.func4, Try.ntmps4
  go_upto_region 4 with (first | (go_at_call 10; ((with_reducible refine (shown_any _).mono ?_); rintro e w1 ⟨rfl, hb⟩); have HB : Below w.heap.size w w1 := below_then (by (repeat (first | (with_reducible exact HB) | (with_reducible exact Below.refl _ _) | (with_reducible refine below_set ?_ (by (try dsimp only); omega) _) | (with_reducible apply below_drew) | (with_reducible apply below_draws) | (with_reducible apply below_alloc)))) hb; obtain ⟨hc, hf⟩ := bcell hb; have hz := hb.size; (try simp at hz); (have z1_0 : w.heap.size < w1.heap.size := by omega); have c1_0 : ∀ o, w1.cell? ⟨w.heap.size, o, none⟩ = _ := fun o => hc _ o (by first | (simp; done) | (simp; omega) | omega); have g1_0 : ∀ o, w1.frozen? ⟨w.heap.size, o, none⟩ = _ := fun o => hf _ o (by first | (simp; done) | (simp; omega) | omega); clear hb hz hc hf) | (go_at_call 13; ((with_reducible refine (S1 _).mono ?_); rintro e w2 ⟨rfl, hb⟩); have HB : Below w.heap.size w w2 := below_then (by (repeat (first | (with_reducible exact HB) | (with_reducible exact Below.refl _ _) | (with_reducible refine below_set ?_ (by (try dsimp only); omega) _) | (with_reducible apply below_drew) | (with_reducible apply below_draws) | (with_reducible apply below_alloc)))) hb; obtain ⟨hc, hf⟩ := bcell hb; have hz := hb.size; (try simp at hz); (have z2_0 : w.heap.size < w2.heap.size := by omega); have c2_0 : ∀ o, w2.cell? ⟨w.heap.size, o, none⟩ = _ := fun o => hc _ o (by first | (simp; done) | (simp; omega) | omega); have g2_0 : ∀ o, w2.frozen? ⟨w.heap.size, o, none⟩ = _ := fun o => hf _ o (by first | (simp; done) | (simp; omega) | omega); clear hb hz hc hf; clear S1) | (go_at_call 13; ((with_reducible refine (S2 _).mono ?_); rintro e w3 ⟨rfl, hb⟩); have HB : Below w.heap.size w w3 := below_then (by (repeat (first | (with_reducible exact HB) | (with_reducible exact Below.refl _ _) | (with_reducible refine below_set ?_ (by (try dsimp only); omega) _) | (with_reducible apply below_drew) | (with_reducible apply below_draws) | (with_reducible apply below_alloc)))) hb; obtain ⟨hc, hf⟩ := bcell hb; have hz := hb.size; (try simp at hz); (have z3_0 : w.heap.size < w3.heap.size := by omega); have c3_0 : ∀ o, w3.cell? ⟨w.heap.size, o, none⟩ = _ := fun o => hc _ o (by first | (simp; done) | (simp; omega) | omega); have g3_0 : ∀ o, w3.frozen? ⟨w.heap.size, o, none⟩ = _ := fun o => hf _ o (by first | (simp; done) | (simp; omega) | omega); (have z3_1 : w2.heap.size < w3.heap.size := by omega); have c3_1 : ∀ o, w3.cell? ⟨w2.heap.size, o, none⟩ = _ := fun o => hc _ o (by first | (simp; done) | (simp; omega) | omega); have g3_1 : ∀ o, w3.frozen? ⟨w2.heap.size, o, none⟩ = _ := fun o => hf _ o (by first | (simp; done) | (simp; omega) | omega); clear hb hz hc hf))
  refine named (P := fun W => Code.wp _ _ _ _ W) (fun W => Seven W (w.heap.size) x.k x.t x.i x.l x.m (x.a : Nat) (x.b : Nat) ∧ Seven W (w2.heap.size) A.k A.t A.i A.l A.m (A.a : Nat) (A.b : Nat) ∧ Seven W (w3.heap.size) D.k D.t D.i D.l D.m (D.a : Nat) (D.b : Nat) ∧ w.heap.size < W.heap.size ∧ w2.heap.size < W.heap.size ∧ w3.heap.size < W.heap.size ∧ Below w.heap.size w W) ⟨⟨(by first | (with_reducible assumption) | (go_simp; done) | (simp (maxDischargeDepth := 16) [*]; done)), (by first | (with_reducible assumption) | (go_simp; done) | (simp (maxDischargeDepth := 16) [*]; done)), (by first | (with_reducible assumption) | (go_simp; done) | (simp (maxDischargeDepth := 16) [*]; done)), (by first | (with_reducible assumption) | (go_simp; done) | (simp (maxDischargeDepth := 16) [*]; done)), (by first | (with_reducible assumption) | (go_simp; done) | (simp (maxDischargeDepth := 16) [*]; done)), (by first | (with_reducible assumption) | (go_simp; done) | (simp (maxDischargeDepth := 16) [*]; done)), (by first | (with_reducible assumption) | (go_simp; done) | (simp (maxDischargeDepth := 16) [*]; done))⟩, ⟨(by first | (with_reducible assumption) | (go_simp; done) | (simp (maxDischargeDepth := 16) [*]; done)), (by first | (with_reducible assumption) | (go_simp; done) | (simp (maxDischargeDepth := 16) [*]; done)), (by first | (with_reducible assumption) | (go_simp; done) | (simp (maxDischargeDepth := 16) [*]; done)), (by first | (with_reducible assumption) | (go_simp; done) | (simp (maxDischargeDepth := 16) [*]; done)), (by first | (with_reducible assumption) | (go_simp; done) | (simp (maxDischargeDepth := 16) [*]; done)), (by first | (with_reducible assumption) | (go_simp; done) | (simp (maxDischargeDepth := 16) [*]; done)), (by first | (with_reducible assumption) | (go_simp; done) | (simp (maxDischargeDepth := 16) [*]; done))⟩, ⟨(by first | (with_reducible assumption) | (go_simp; done) | (simp (maxDischargeDepth := 16) [*]; done)), (by first | (with_reducible assumption) | (go_simp; done) | (simp (maxDischargeDepth := 16) [*]; done)), (by first | (with_reducible assumption) | (go_simp; done) | (simp (maxDischargeDepth := 16) [*]; done)), (by first | (with_reducible assumption) | (go_simp; done) | (simp (maxDischargeDepth := 16) [*]; done)), (by first | (with_reducible assumption) | (go_simp; done) | (simp (maxDischargeDepth := 16) [*]; done)), (by first | (with_reducible assumption) | (go_simp; done) | (simp (maxDischargeDepth := 16) [*]; done)), (by first | (with_reducible assumption) | (go_simp; done) | (simp (maxDischargeDepth := 16) [*]; done))⟩, (by first | omega | (simp; done) | (simp; omega)), (by first | omega | (simp; done) | (simp; omega)), (by first | omega | (simp; done) | (simp; omega)), (by (repeat (first | (with_reducible exact HB) | (with_reducible exact Below.refl _ _) | (with_reducible refine below_set ?_ (by (try dsimp only); omega) _) | (with_reducible apply below_drew) | (with_reducible apply below_draws) | (with_reducible apply below_alloc))))⟩ ?_
  rintro W ⟨⟨o00, o01, o02, o03, o04, o05, o06⟩, ⟨o10, o11, o12, o13, o14, o15, o16⟩, ⟨o20, o21, o22, o23, o24, o25, o26⟩, hs0, hs1, hs2, HB⟩
  clear S2
  go_upto_region 5 with (first | (go_at_call 12; ((with_reducible refine (M1 _).mono ?_); rintro e w4 ⟨rfl, hb⟩); have HB : Below w.heap.size w w4 := below_then (by (repeat (first | (with_reducible exact HB) | (with_reducible exact Below.refl _ _) | (with_reducible refine below_set ?_ (by (try dsimp only); omega) _) | (with_reducible apply below_drew) | (with_reducible apply below_draws) | (with_reducible apply below_alloc)))) hb; obtain ⟨hc, hf⟩ := bcell hb; have hz := hb.size; (try simp at hz); (have z4_0 : w.heap.size < w4.heap.size := by omega); have c4_0 : ∀ o, w4.cell? ⟨w.heap.size, o, none⟩ = _ := fun o => hc _ o (by first | (simp; done) | (simp; omega) | omega); have g4_0 : ∀ o, w4.frozen? ⟨w.heap.size, o, none⟩ = _ := fun o => hf _ o (by first | (simp; done) | (simp; omega) | omega); (have z4_1 : w2.heap.size < w4.heap.size := by omega); have c4_1 : ∀ o, w4.cell? ⟨w2.heap.size, o, none⟩ = _ := fun o => hc _ o (by first | (simp; done) | (simp; omega) | omega); have g4_1 : ∀ o, w4.frozen? ⟨w2.heap.size, o, none⟩ = _ := fun o => hf _ o (by first | (simp; done) | (simp; omega) | omega); (have z4_2 : w3.heap.size < w4.heap.size := by omega); have c4_2 : ∀ o, w4.cell? ⟨w3.heap.size, o, none⟩ = _ := fun o => hc _ o (by first | (simp; done) | (simp; omega) | omega); have g4_2 : ∀ o, w4.frozen? ⟨w3.heap.size, o, none⟩ = _ := fun o => hf _ o (by first | (simp; done) | (simp; omega) | omega); clear hb hz hc hf))
  refine wp_region_noPanic ?_
  refine wp_region_held_drew (S := (fun w' => w'.cell? ⟨w.heap.size, 0, none⟩ = some (.int .i64 x.k) ∧ w'.cell? ⟨w.heap.size, 1, none⟩ = some (.int .i64 x.t) ∧ w'.cell? ⟨w.heap.size, 2, none⟩ = some (.int .i64 x.i) ∧ w'.cell? ⟨w.heap.size, 3, none⟩ = some (.int .i64 x.l) ∧ w'.cell? ⟨w.heap.size, 4, none⟩ = some (.bool x.m) ∧ w'.cell? ⟨w.heap.size, 5, none⟩ = some (.int .u64 (x.a : Nat)) ∧ w'.cell? ⟨w.heap.size, 6, none⟩ = some (.int .u64 (x.b : Nat)))) (by kernel_rfl) ?_ (fun hHeld => ?_)
  · (try dsimp only)
    simp (maxDischargeDepth := 16) [*, World.cell?_alloc_some, World.cell?_setCell_far]
  refine wpAnyH_take (i := 0) (oi := ⟨_, _, _, _, _, _⟩) (v := ?_) rfl (by kernel_rfl) (by kernel_rfl) (by kernel_rfl) (fun _ _ _ h => h) (Or.inl ⟨rfl, ?_⟩) hHeld ?_
  rotate_left
  · (intro w hSw)
    (try dsimp only at hSw)
    (first | (go_simp; done) | (go_simp; with_reducible rfl))
  (try simp only [Act.put, List.setIfInBounds_toArray, List.set_cons_zero, List.set_cons_succ])
  refine wpAnyH_take (i := 1) (oi := ⟨_, _, _, _, _, _⟩) (v := ?_) rfl (by kernel_rfl) (by kernel_rfl) (by kernel_rfl) (fun _ _ _ h => h) (Or.inl ⟨rfl, ?_⟩) hHeld ?_
  rotate_left
  · (intro w hSw)
    (try dsimp only at hSw)
    (first | (go_simp; done) | (go_simp; with_reducible rfl))
  (try simp only [Act.put, List.setIfInBounds_toArray, List.set_cons_zero, List.set_cons_succ])
  refine wpAnyH_take (i := 2) (oi := ⟨_, _, _, _, _, _⟩) (v := ?_) rfl (by kernel_rfl) (by kernel_rfl) (by kernel_rfl) (fun _ _ _ h => h) (Or.inl ⟨rfl, ?_⟩) hHeld ?_
  rotate_left
  · (intro w hSw)
    (try dsimp only at hSw)
    (first | (go_simp; done) | (go_simp; with_reducible rfl))
  (try simp only [Act.put, List.setIfInBounds_toArray, List.set_cons_zero, List.set_cons_succ])
  refine wpAnyH_take (i := 4) (oi := ⟨_, _, _, _, _, _⟩) (v := ?_) rfl (by kernel_rfl) (by kernel_rfl) (by kernel_rfl) (fun _ _ _ h => h) (Or.inl ⟨rfl, ?_⟩) hHeld ?_
  rotate_left
  · (intro w hSw)
    (try dsimp only at hSw)
    (first | (go_simp; done) | (go_simp; with_reducible rfl))
  (try simp only [Act.put, List.setIfInBounds_toArray, List.set_cons_zero, List.set_cons_succ])
  refine wpAnyH_take (i := 5) (oi := ⟨_, _, _, _, _, _⟩) (v := ?_) rfl (by kernel_rfl) (by kernel_rfl) (by kernel_rfl) (fun _ _ _ h => h) (Or.inl ⟨rfl, ?_⟩) hHeld ?_
  rotate_left
  · (intro w hSw)
    (try dsimp only at hSw)
    (first | (go_simp; done) | (go_simp; with_reducible rfl))
  (try simp only [Act.put, List.setIfInBounds_toArray, List.set_cons_zero, List.set_cons_succ])
  refine wpAnyH_take (i := 6) (oi := ⟨_, _, _, _, _, _⟩) (v := ?_) rfl (by kernel_rfl) (by kernel_rfl) (by kernel_rfl) (fun _ _ _ h => h) (Or.inl ⟨rfl, ?_⟩) hHeld ?_
  rotate_left
  · (intro w hSw)
    (try dsimp only at hSw)
    (first | (go_simp; done) | (go_simp; with_reducible rfl))
  (try simp only [Act.put, List.setIfInBounds_toArray, List.set_cons_zero, List.set_cons_succ])
  refine wpAnyH_ready (rs := [3]) (by kernel_rfl) (by simp) ?_
  refine AllReadyH.cons (o := ⟨_, _, _, _, _, _⟩) rfl (fun K hK => ?_) AllReadyH.nil
  go_simp
  (first | (go_at_call 12; refine (M1 _).mono ?_; rintro e w5 ⟨rfl, hb⟩; have HB : Below w.heap.size w w5 := below_then (by (repeat (first | (with_reducible exact HB) | (with_reducible exact Below.refl _ _) | (with_reducible refine below_set ?_ (by (try dsimp only); omega) _) | (with_reducible apply below_drew) | (with_reducible apply below_draws) | (with_reducible apply below_alloc)))) hb; obtain ⟨hc, hf⟩ := bcell hb; have hz := hb.size; (try simp at hz); (have z5_0 : w.heap.size < w5.heap.size := by omega); have c5_0 : ∀ o, w5.cell? ⟨w.heap.size, o, none⟩ = _ := fun o => hc _ o (by first | (simp; done) | (simp; omega) | omega); have g5_0 : ∀ o, w5.frozen? ⟨w.heap.size, o, none⟩ = _ := fun o => hf _ o (by first | (simp; done) | (simp; omega) | omega); (have z5_1 : w2.heap.size < w5.heap.size := by omega); have c5_1 : ∀ o, w5.cell? ⟨w2.heap.size, o, none⟩ = _ := fun o => hc _ o (by first | (simp; done) | (simp; omega) | omega); have g5_1 : ∀ o, w5.frozen? ⟨w2.heap.size, o, none⟩ = _ := fun o => hf _ o (by first | (simp; done) | (simp; omega) | omega); (have z5_2 : w3.heap.size < w5.heap.size := by omega); have c5_2 : ∀ o, w5.cell? ⟨w3.heap.size, o, none⟩ = _ := fun o => hc _ o (by first | (simp; done) | (simp; omega) | omega); have g5_2 : ∀ o, w5.frozen? ⟨w3.heap.size, o, none⟩ = _ := fun o => hf _ o (by first | (simp; done) | (simp; omega) | omega); clear hb hz hc hf))
  (first | (refine hK.out _ _ ?_ (fun hHeld => ?_)) | (go_wp2_with fail; refine hK.out _ _ ?_ (fun hHeld => ?_)))
  · (try dsimp only)
    simp (maxDischargeDepth := 16) [*, World.cell?_alloc_some, World.cell?_setCell_far]
  clear hK K
  (try simp only [Act.put, List.setIfInBounds_toArray, List.set_cons_zero, List.set_cons_succ])
  refine wpAnyH_take (i := 7) (oi := ⟨_, _, _, _, _, _⟩) (v := ?_) rfl (by kernel_rfl) (by kernel_rfl) (by kernel_rfl) (fun _ _ _ h => h) (Or.inl ⟨rfl, ?_⟩) hHeld ?_
  rotate_left
  · (intro w hSw)
    (try dsimp only at hSw)
    (first | (go_simp; done) | (go_simp; with_reducible rfl))
  (try simp only [Act.put, List.setIfInBounds_toArray, List.set_cons_zero, List.set_cons_succ])
  refine wpAnyH_take (i := 8) (oi := ⟨_, _, _, _, _, _⟩) (v := ?_) rfl (by kernel_rfl) (by kernel_rfl) (by kernel_rfl) (fun _ _ _ h => h) (Or.inl ⟨rfl, ?_⟩) hHeld ?_
  rotate_left
  · (intro w hSw)
    (try dsimp only at hSw)
    (first | (go_simp; done) | (go_simp; with_reducible rfl))
  (try simp only [Act.put, List.setIfInBounds_toArray, List.set_cons_zero, List.set_cons_succ])
  refine wpAnyH_take (i := 9) (oi := ⟨_, _, _, _, _, _⟩) (v := ?_) rfl (by kernel_rfl) (by kernel_rfl) (by kernel_rfl) (fun _ _ _ h => h) (Or.inl ⟨rfl, ?_⟩) hHeld ?_
  rotate_left
  · (intro w hSw)
    (try dsimp only at hSw)
    (first | (go_simp; done) | (go_simp; with_reducible rfl))
  (try simp only [Act.put, List.setIfInBounds_toArray, List.set_cons_zero, List.set_cons_succ])
  refine wpAnyH_take (i := 10) (oi := ⟨_, _, _, _, _, _⟩) (v := ?_) rfl (by kernel_rfl) (by kernel_rfl) (by kernel_rfl) (fun _ _ _ h => h) (Or.inl ⟨rfl, ?_⟩) hHeld ?_
  rotate_left
  · (intro w hSw)
    (try dsimp only at hSw)
    (first | (go_simp; done) | (go_simp; with_reducible rfl))
  (try simp only [Act.put, List.setIfInBounds_toArray, List.set_cons_zero, List.set_cons_succ])
  refine wpAnyH_take (i := 11) (oi := ⟨_, _, _, _, _, _⟩) (v := ?_) rfl (by kernel_rfl) (by kernel_rfl) (by kernel_rfl) (fun _ _ _ h => h) (Or.inl ⟨rfl, ?_⟩) hHeld ?_
  rotate_left
  · (intro w hSw)
    (try dsimp only at hSw)
    (first | (go_simp; done) | (go_simp; with_reducible rfl))
  (try simp only [Act.put, List.setIfInBounds_toArray, List.set_cons_zero, List.set_cons_succ])
  refine wpAnyH_take (i := 12) (oi := ⟨_, _, _, _, _, _⟩) (v := ?_) rfl (by kernel_rfl) (by kernel_rfl) (by kernel_rfl) (fun _ _ _ h => h) (Or.inl ⟨rfl, ?_⟩) hHeld ?_
  rotate_left
  · (intro w hSw)
    (try dsimp only at hSw)
    (first | (go_simp; done) | (go_simp; with_reducible rfl))
  (try simp only [Act.put, List.setIfInBounds_toArray, List.set_cons_zero, List.set_cons_succ])
  refine wpAnyH_take (i := 13) (oi := ⟨_, _, _, _, _, _⟩) (v := ?_) rfl (by kernel_rfl) (by kernel_rfl) (by kernel_rfl) (fun _ _ _ h => h) (Or.inl ⟨rfl, ?_⟩) hHeld ?_
  rotate_left
  · (intro w hSw)
    (try dsimp only at hSw)
    (first | (go_simp; done) | (go_simp; with_reducible rfl))
  (try simp only [Act.put, List.setIfInBounds_toArray, List.set_cons_zero, List.set_cons_succ])
  refine wpAnyH_take (i := 14) (oi := ⟨_, _, _, _, _, _⟩) (v := undef) rfl (by kernel_rfl) (by kernel_rfl) (by kernel_rfl) (fun _ _ _ h => h) (Or.inr ⟨rfl, rfl⟩) hHeld ?_
  (try simp only [Act.put, List.setIfInBounds_toArray, List.set_cons_zero, List.set_cons_succ])
  refine wpAnyH_take (i := 15) (oi := ⟨_, _, _, _, _, _⟩) (v := undef) rfl (by kernel_rfl) (by kernel_rfl) (by kernel_rfl) (fun _ _ _ h => h) (Or.inr ⟨rfl, rfl⟩) hHeld ?_
  (try simp only [Act.put, List.setIfInBounds_toArray, List.set_cons_zero, List.set_cons_succ])
  refine wpAnyH_take (i := 16) (oi := ⟨_, _, _, _, _, _⟩) (v := undef) rfl (by kernel_rfl) (by kernel_rfl) (by kernel_rfl) (fun _ _ _ h => h) (Or.inr ⟨rfl, rfl⟩) hHeld ?_
  (try simp only [Act.put, List.setIfInBounds_toArray, List.set_cons_zero, List.set_cons_succ])
  refine wpAnyH_take (i := 17) (oi := ⟨_, _, _, _, _, _⟩) (v := ?_) rfl (by kernel_rfl) (by kernel_rfl) (by kernel_rfl) (fun _ _ _ h => h) (Or.inl ⟨rfl, ?_⟩) hHeld ?_
  rotate_left
  · (intro w hSw)
    (try dsimp only at hSw)
    (first | (go_simp; done) | (go_simp; with_reducible rfl))
  (try simp only [Act.put, List.setIfInBounds_toArray, List.set_cons_zero, List.set_cons_succ])
  refine wpAnyH_take (i := 18) (oi := ⟨_, _, _, _, _, _⟩) (v := ?_) rfl (by kernel_rfl) (by kernel_rfl) (by kernel_rfl) (fun _ _ _ h => h) (Or.inl ⟨rfl, ?_⟩) hHeld ?_
  rotate_left
  · (intro w hSw)
    (try dsimp only at hSw)
    (first | (go_simp; done) | (go_simp; with_reducible rfl))
  (try simp only [Act.put, List.setIfInBounds_toArray, List.set_cons_zero, List.set_cons_succ])
  refine wpAnyH_take (i := 19) (oi := ⟨_, _, _, _, _, _⟩) (v := ?_) rfl (by kernel_rfl) (by kernel_rfl) (by kernel_rfl) (fun _ _ _ h => h) (Or.inl ⟨rfl, ?_⟩) hHeld ?_
  rotate_left
  · (intro w hSw)
    (try dsimp only at hSw)
    (first | (go_simp; done) | (go_simp; with_reducible rfl))
  (try simp only [Act.put, List.setIfInBounds_toArray, List.set_cons_zero, List.set_cons_succ])
  refine wpAnyH_take (i := 20) (oi := ⟨_, _, _, _, _, _⟩) (v := ?_) rfl (by kernel_rfl) (by kernel_rfl) (by kernel_rfl) (fun _ _ _ h => h) (Or.inl ⟨rfl, ?_⟩) hHeld ?_
  rotate_left
  · (intro w hSw)
    (try dsimp only at hSw)
    (first | (go_simp; done) | (go_simp; with_reducible rfl))
  (try simp only [Act.put, List.setIfInBounds_toArray, List.set_cons_zero, List.set_cons_succ])
  refine wpAnyH_take (i := 21) (oi := ⟨_, _, _, _, _, _⟩) (v := ?_) rfl (by kernel_rfl) (by kernel_rfl) (by kernel_rfl) (fun _ _ _ h => h) (Or.inl ⟨rfl, ?_⟩) hHeld ?_
  rotate_left
  · (intro w hSw)
    (try dsimp only at hSw)
    (first | (go_simp; done) | (go_simp; with_reducible rfl))
  (try simp only [Act.put, List.setIfInBounds_toArray, List.set_cons_zero, List.set_cons_succ])
  refine wpAnyH_take (i := 22) (oi := ⟨_, _, _, _, _, _⟩) (v := ?_) rfl (by kernel_rfl) (by kernel_rfl) (by kernel_rfl) (fun _ _ _ h => h) (Or.inl ⟨rfl, ?_⟩) hHeld ?_
  rotate_left
  · (intro w hSw)
    (try dsimp only at hSw)
    (first | (go_simp; done) | (go_simp; with_reducible rfl))
  (try simp only [Act.put, List.setIfInBounds_toArray, List.set_cons_zero, List.set_cons_succ])
  refine wpAnyH_take (i := 23) (oi := ⟨_, _, _, _, _, _⟩) (v := ?_) rfl (by kernel_rfl) (by kernel_rfl) (by kernel_rfl) (fun _ _ _ h => h) (Or.inl ⟨rfl, ?_⟩) hHeld ?_
  rotate_left
  · (intro w hSw)
    (try dsimp only at hSw)
    (first | (go_simp; done) | (go_simp; with_reducible rfl))
  (try simp only [Act.put, List.setIfInBounds_toArray, List.set_cons_zero, List.set_cons_succ])
  refine wpAnyH_take (i := 24) (oi := ⟨_, _, _, _, _, _⟩) (v := ?_) rfl (by kernel_rfl) (by kernel_rfl) (by kernel_rfl) (fun _ _ _ h => h) (Or.inl ⟨rfl, ?_⟩) hHeld ?_
  rotate_left
  · (intro w hSw)
    (try dsimp only at hSw)
    (first | (go_simp; done) | (go_simp; with_reducible rfl))
  (try simp only [Act.put, List.setIfInBounds_toArray, List.set_cons_zero, List.set_cons_succ])
  refine wpAnyH_take (i := 25) (oi := ⟨_, _, _, _, _, _⟩) (v := ?_) rfl (by kernel_rfl) (by kernel_rfl) (by kernel_rfl) (fun _ _ _ h => h) (Or.inl ⟨rfl, ?_⟩) hHeld ?_
  rotate_left
  · (intro w hSw)
    (try dsimp only at hSw)
    (first | (go_simp; done) | (go_simp; with_reducible rfl))
  (try simp only [Act.put, List.setIfInBounds_toArray, List.set_cons_zero, List.set_cons_succ])
  refine wpAnyH_take (i := 26) (oi := ⟨_, _, _, _, _, _⟩) (v := ?_) rfl (by kernel_rfl) (by kernel_rfl) (by kernel_rfl) (fun _ _ _ h => h) (Or.inl ⟨rfl, ?_⟩) hHeld ?_
  rotate_left
  · (intro w hSw)
    (try dsimp only at hSw)
    (first | (go_simp; done) | (go_simp; with_reducible rfl))
  (try simp only [Act.put, List.setIfInBounds_toArray, List.set_cons_zero, List.set_cons_succ])
  refine wpAnyH_take (i := 27) (oi := ⟨_, _, _, _, _, _⟩) (v := ?_) rfl (by kernel_rfl) (by kernel_rfl) (by kernel_rfl) (fun _ _ _ h => h) (Or.inl ⟨rfl, ?_⟩) hHeld ?_
  rotate_left
  · (intro w hSw)
    (try dsimp only at hSw)
    (first | (go_simp; done) | (go_simp; with_reducible rfl))
  (try simp only [Act.put, List.setIfInBounds_toArray, List.set_cons_zero, List.set_cons_succ])
  refine wpAnyH_take (i := 28) (oi := ⟨_, _, _, _, _, _⟩) (v := ?_) rfl (by kernel_rfl) (by kernel_rfl) (by kernel_rfl) (fun _ _ _ h => h) (Or.inl ⟨rfl, ?_⟩) hHeld ?_
  rotate_left
  · (intro w hSw)
    (try dsimp only at hSw)
    (first | (go_simp; done) | (go_simp; with_reducible rfl))
  (try simp only [Act.put, List.setIfInBounds_toArray, List.set_cons_zero, List.set_cons_succ])
  refine wpAnyH_take (i := 29) (oi := ⟨_, _, _, _, _, _⟩) (v := ?_) rfl (by kernel_rfl) (by kernel_rfl) (by kernel_rfl) (fun _ _ _ h => h) (Or.inl ⟨rfl, ?_⟩) hHeld ?_
  rotate_left
  · (intro w hSw)
    (try dsimp only at hSw)
    (first | (go_simp; done) | (go_simp; with_reducible rfl))
  (try simp only [Act.put, List.setIfInBounds_toArray, List.set_cons_zero, List.set_cons_succ])
  refine wpAnyH_take (i := 30) (oi := ⟨_, _, _, _, _, _⟩) (v := ?_) rfl (by kernel_rfl) (by kernel_rfl) (by kernel_rfl) (fun _ _ _ h => h) (Or.inl ⟨rfl, ?_⟩) hHeld ?_
  rotate_left
  · (intro w hSw)
    (try dsimp only at hSw)
    (first | (go_simp; done) | (go_simp; with_reducible rfl))
  (try simp only [Act.put, List.setIfInBounds_toArray, List.set_cons_zero, List.set_cons_succ])
  refine wpAnyH_take (i := 31) (oi := ⟨_, _, _, _, _, _⟩) (v := ?_) rfl (by kernel_rfl) (by kernel_rfl) (by kernel_rfl) (fun _ _ _ h => h) (Or.inl ⟨rfl, ?_⟩) hHeld ?_
  rotate_left
  · (intro w hSw)
    (try dsimp only at hSw)
    (first | (go_simp; done) | (go_simp; with_reducible rfl))
  (try simp only [Act.put, List.setIfInBounds_toArray, List.set_cons_zero, List.set_cons_succ])
  refine wpAnyH_take (i := 32) (oi := ⟨_, _, _, _, _, _⟩) (v := ?_) rfl (by kernel_rfl) (by kernel_rfl) (by kernel_rfl) (fun _ _ _ h => h) (Or.inl ⟨rfl, ?_⟩) hHeld ?_
  rotate_left
  · (intro w hSw)
    (try dsimp only at hSw)
    (first | (go_simp; done) | (go_simp; with_reducible rfl))
  (try simp only [Act.put, List.setIfInBounds_toArray, List.set_cons_zero, List.set_cons_succ])
  refine wpAnyH_done (by kernel_rfl) ?_ _
  refine NoPanic.normal ?_
  all_goals
    go_wp2
    go_ret
    exact ⟨rfl, (by (repeat (first | (with_reducible exact HB) | (with_reducible exact Below.refl _ _) | (with_reducible refine below_set ?_ (by (try dsimp only); omega) _) | (with_reducible apply below_drew) | (with_reducible apply below_draws) | (with_reducible apply below_alloc))))⟩

set_option maxRecDepth 100000 in
set_option maxHeartbeats 8000000 in
theorem split_null (x A D : Wh) (S1 : ∀ w : World, Calls Try.prog 13 #[.agg #[.int .i64 x.k, .int .i64 x.t, .int .i64 x.i, .int .i64 x.l, .bool x.m, .int .u64 (x.a : Nat), .int .u64 (x.b : Nat)], .bool true] w fun e w' => e = .returned (.tuple #[.agg #[.int .i64 A.k, .int .i64 A.t, .int .i64 A.i, .int .i64 A.l, .bool A.m, .int .u64 (A.a : Nat), .int .u64 (A.b : Nat)], .bool true]) ∧ Below w.heap.size w w') (S2 : ∀ w : World, Calls Try.prog 13 #[.agg #[.int .i64 x.k, .int .i64 x.t, .int .i64 x.i, .int .i64 x.l, .bool x.m, .int .u64 (x.a : Nat), .int .u64 (x.b : Nat)], .bool false] w fun e w' => e = .returned (.tuple #[.agg #[.int .i64 D.k, .int .i64 D.t, .int .i64 D.i, .int .i64 D.l, .bool D.m, .int .u64 (D.a : Nat), .int .u64 (D.b : Nat)], .bool false]) ∧ Below w.heap.size w w') (M1 : ∀ w : World, Calls Try.prog 12 #[.agg #[.int .i64 x.k, .int .i64 x.t, .int .i64 x.i, .int .i64 x.l, .bool x.m, .int .u64 (x.a : Nat), .int .u64 (x.b : Nat)]] w fun e w' => e = .returned (.bool true) ∧ Below w.heap.size w w') (e0 : (x.k == 0) = false) (e1 : (x.k == 1) = false) (e2 : (x.k == 2) = true) (hq : eqB A.k A.t A.i A.l A.m (A.a : Nat) (A.b : Nat) x.k x.t x.i x.l x.m (x.a : Nat) (x.b : Nat) = true) (w : World) :
    Calls Try.prog 4 #[.agg #[.int .i64 x.k, .int .i64 x.t, .int .i64 x.i, .int .i64 x.l, .bool x.m, .int .u64 (x.a : Nat), .int .u64 (x.b : Nat)]] w fun e w' => e = .returned (.bool true) ∧ Below w.heap.size w w' := by
  have he := eqWhat
  have nn0 : ∀ n : Nat, ¬ n = n + 1 + 1 := fun n => by omega
  have nn1 : ∀ n : Nat, ¬ n + 1 + 1 = n := fun n => by omega
  have nn2 : ∀ n : Nat, ¬ n = n + 1 + 1 + 1 := fun n => by omega
  have nn3 : ∀ n : Nat, ¬ n + 1 + 1 + 1 = n := fun n => by omega
  have nn4 : ∀ n : Nat, ¬ n + 1 = n + 1 + 1 + 1 := fun n => by omega
  have nn5 : ∀ n : Nat, ¬ n + 1 + 1 + 1 = n + 1 := fun n => by omega
  have nn6 : ∀ a b : Nat, a < b → ¬ a = b + 1 + 1 := fun a b h => by omega
  have nn7 : ∀ a b : Nat, a < b → ¬ a = b + 1 := fun a b h => by omega
  have nn8 : ∀ a b : Nat, a < b → ¬ a = b := fun a b h => by omega
  have nn9 : ∀ a b : Nat, a < b → a ≤ b := fun a b h => by omega
  have nn10 : ∀ a b : Nat, a < b → a ≤ b + 1 := fun a b h => by omega
  have nn11 : ∀ a b : Nat, a < b → a < b + 1 + 1 := fun a b h => by omega
  have nn12 : ∀ a b : Nat, a < b → a < b + 1 := fun a b h => by omega
  have nn13 : ∀ a b : Nat, a < b → ¬ b = a := fun a b h => by omega
  have nn14 : ∀ a b : Nat, a < b → ¬ b + 1 = a := fun a b h => by omega
  go_enter Try.func4, Try.ntmps4
  go_upto_region 4 with (first | (go_at_call 10; ((with_reducible refine (shown_any _).mono ?_); rintro e w1 ⟨rfl, hb⟩); have HB : Below w.heap.size w w1 := below_then (by (repeat (first | (with_reducible exact HB) | (with_reducible exact Below.refl _ _) | (with_reducible refine below_set ?_ (by (try dsimp only); omega) _) | (with_reducible apply below_drew) | (with_reducible apply below_draws) | (with_reducible apply below_alloc)))) hb; obtain ⟨hc, hf⟩ := bcell hb; have hz := hb.size; (try simp at hz); (have z1_0 : w.heap.size < w1.heap.size := by omega); have c1_0 : ∀ o, w1.cell? ⟨w.heap.size, o, none⟩ = _ := fun o => hc _ o (by first | (simp; done) | (simp; omega) | omega); have g1_0 : ∀ o, w1.frozen? ⟨w.heap.size, o, none⟩ = _ := fun o => hf _ o (by first | (simp; done) | (simp; omega) | omega); clear hb hz hc hf) | (go_at_call 13; ((with_reducible refine (S1 _).mono ?_); rintro e w2 ⟨rfl, hb⟩); have HB : Below w.heap.size w w2 := below_then (by (repeat (first | (with_reducible exact HB) | (with_reducible exact Below.refl _ _) | (with_reducible refine below_set ?_ (by (try dsimp only); omega) _) | (with_reducible apply below_drew) | (with_reducible apply below_draws) | (with_reducible apply below_alloc)))) hb; obtain ⟨hc, hf⟩ := bcell hb; have hz := hb.size; (try simp at hz); (have z2_0 : w.heap.size < w2.heap.size := by omega); have c2_0 : ∀ o, w2.cell? ⟨w.heap.size, o, none⟩ = _ := fun o => hc _ o (by first | (simp; done) | (simp; omega) | omega); have g2_0 : ∀ o, w2.frozen? ⟨w.heap.size, o, none⟩ = _ := fun o => hf _ o (by first | (simp; done) | (simp; omega) | omega); clear hb hz hc hf; clear S1) | (go_at_call 13; ((with_reducible refine (S2 _).mono ?_); rintro e w3 ⟨rfl, hb⟩); have HB : Below w.heap.size w w3 := below_then (by (repeat (first | (with_reducible exact HB) | (with_reducible exact Below.refl _ _) | (with_reducible refine below_set ?_ (by (try dsimp only); omega) _) | (with_reducible apply below_drew) | (with_reducible apply below_draws) | (with_reducible apply below_alloc)))) hb; obtain ⟨hc, hf⟩ := bcell hb; have hz := hb.size; (try simp at hz); (have z3_0 : w.heap.size < w3.heap.size := by omega); have c3_0 : ∀ o, w3.cell? ⟨w.heap.size, o, none⟩ = _ := fun o => hc _ o (by first | (simp; done) | (simp; omega) | omega); have g3_0 : ∀ o, w3.frozen? ⟨w.heap.size, o, none⟩ = _ := fun o => hf _ o (by first | (simp; done) | (simp; omega) | omega); (have z3_1 : w2.heap.size < w3.heap.size := by omega); have c3_1 : ∀ o, w3.cell? ⟨w2.heap.size, o, none⟩ = _ := fun o => hc _ o (by first | (simp; done) | (simp; omega) | omega); have g3_1 : ∀ o, w3.frozen? ⟨w2.heap.size, o, none⟩ = _ := fun o => hf _ o (by first | (simp; done) | (simp; omega) | omega); clear hb hz hc hf))
  refine named (P := fun W => Code.wp _ _ _ _ W) (fun W => Seven W (w.heap.size) x.k x.t x.i x.l x.m (x.a : Nat) (x.b : Nat) ∧ Seven W (w2.heap.size) A.k A.t A.i A.l A.m (A.a : Nat) (A.b : Nat) ∧ Seven W (w3.heap.size) D.k D.t D.i D.l D.m (D.a : Nat) (D.b : Nat) ∧ w.heap.size < W.heap.size ∧ w2.heap.size < W.heap.size ∧ w3.heap.size < W.heap.size ∧ Below w.heap.size w W) ⟨⟨(by first | (with_reducible assumption) | (go_simp; done) | (simp (maxDischargeDepth := 16) [*]; done)), (by first | (with_reducible assumption) | (go_simp; done) | (simp (maxDischargeDepth := 16) [*]; done)), (by first | (with_reducible assumption) | (go_simp; done) | (simp (maxDischargeDepth := 16) [*]; done)), (by first | (with_reducible assumption) | (go_simp; done) | (simp (maxDischargeDepth := 16) [*]; done)), (by first | (with_reducible assumption) | (go_simp; done) | (simp (maxDischargeDepth := 16) [*]; done)), (by first | (with_reducible assumption) | (go_simp; done) | (simp (maxDischargeDepth := 16) [*]; done)), (by first | (with_reducible assumption) | (go_simp; done) | (simp (maxDischargeDepth := 16) [*]; done))⟩, ⟨(by first | (with_reducible assumption) | (go_simp; done) | (simp (maxDischargeDepth := 16) [*]; done)), (by first | (with_reducible assumption) | (go_simp; done) | (simp (maxDischargeDepth := 16) [*]; done)), (by first | (with_reducible assumption) | (go_simp; done) | (simp (maxDischargeDepth := 16) [*]; done)), (by first | (with_reducible assumption) | (go_simp; done) | (simp (maxDischargeDepth := 16) [*]; done)), (by first | (with_reducible assumption) | (go_simp; done) | (simp (maxDischargeDepth := 16) [*]; done)), (by first | (with_reducible assumption) | (go_simp; done) | (simp (maxDischargeDepth := 16) [*]; done)), (by first | (with_reducible assumption) | (go_simp; done) | (simp (maxDischargeDepth := 16) [*]; done))⟩, ⟨(by first | (with_reducible assumption) | (go_simp; done) | (simp (maxDischargeDepth := 16) [*]; done)), (by first | (with_reducible assumption) | (go_simp; done) | (simp (maxDischargeDepth := 16) [*]; done)), (by first | (with_reducible assumption) | (go_simp; done) | (simp (maxDischargeDepth := 16) [*]; done)), (by first | (with_reducible assumption) | (go_simp; done) | (simp (maxDischargeDepth := 16) [*]; done)), (by first | (with_reducible assumption) | (go_simp; done) | (simp (maxDischargeDepth := 16) [*]; done)), (by first | (with_reducible assumption) | (go_simp; done) | (simp (maxDischargeDepth := 16) [*]; done)), (by first | (with_reducible assumption) | (go_simp; done) | (simp (maxDischargeDepth := 16) [*]; done))⟩, (by first | omega | (simp; done) | (simp; omega)), (by first | omega | (simp; done) | (simp; omega)), (by first | omega | (simp; done) | (simp; omega)), (by (repeat (first | (with_reducible exact HB) | (with_reducible exact Below.refl _ _) | (with_reducible refine below_set ?_ (by (try dsimp only); omega) _) | (with_reducible apply below_drew) | (with_reducible apply below_draws) | (with_reducible apply below_alloc))))⟩ ?_
  rintro W ⟨⟨o00, o01, o02, o03, o04, o05, o06⟩, ⟨o10, o11, o12, o13, o14, o15, o16⟩, ⟨o20, o21, o22, o23, o24, o25, o26⟩, hs0, hs1, hs2, HB⟩
  clear S2
  go_wp2_with (first | (go_at_call 12; ((with_reducible refine (M1 _).mono ?_); rintro e w4 ⟨rfl, hb⟩); have HB : Below w.heap.size w w4 := below_then (by (repeat (first | (with_reducible exact HB) | (with_reducible exact Below.refl _ _) | (with_reducible refine below_set ?_ (by (try dsimp only); omega) _) | (with_reducible apply below_drew) | (with_reducible apply below_draws) | (with_reducible apply below_alloc)))) hb; obtain ⟨hc, hf⟩ := bcell hb; have hz := hb.size; (try simp at hz); (have z4_0 : w.heap.size < w4.heap.size := by omega); have c4_0 : ∀ o, w4.cell? ⟨w.heap.size, o, none⟩ = _ := fun o => hc _ o (by first | (simp; done) | (simp; omega) | omega); have g4_0 : ∀ o, w4.frozen? ⟨w.heap.size, o, none⟩ = _ := fun o => hf _ o (by first | (simp; done) | (simp; omega) | omega); (have z4_1 : w2.heap.size < w4.heap.size := by omega); have c4_1 : ∀ o, w4.cell? ⟨w2.heap.size, o, none⟩ = _ := fun o => hc _ o (by first | (simp; done) | (simp; omega) | omega); have g4_1 : ∀ o, w4.frozen? ⟨w2.heap.size, o, none⟩ = _ := fun o => hf _ o (by first | (simp; done) | (simp; omega) | omega); (have z4_2 : w3.heap.size < w4.heap.size := by omega); have c4_2 : ∀ o, w4.cell? ⟨w3.heap.size, o, none⟩ = _ := fun o => hc _ o (by first | (simp; done) | (simp; omega) | omega); have g4_2 : ∀ o, w4.frozen? ⟨w3.heap.size, o, none⟩ = _ := fun o => hf _ o (by first | (simp; done) | (simp; omega) | omega); clear hb hz hc hf))
  go_ret
  exact ⟨rfl, (by (repeat (first | (with_reducible exact HB) | (with_reducible exact Below.refl _ _) | (with_reducible refine below_set ?_ (by (try dsimp only); omega) _) | (with_reducible apply below_drew) | (with_reducible apply below_draws) | (with_reducible apply below_alloc))))⟩

end Go.Proofs.Ytglfmcgpbenckaa
