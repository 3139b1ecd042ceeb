
/- The walk of chapter 17's statement KindOrder: none is junk. -/
import Derived.Test.YtglfmcgpbenckaaKindShown
import Derived.Test.YtglfmcgpbenckaaKindLaw
namespace Go.Proofs.Ytglfmcgpbenckaa
open Go.RowKit
set_option linter.unusedVariables false
set_option linter.unusedSimpArgs false

set_option maxRecDepth 100000 in
set_option maxHeartbeats 8000000 in
theorem order_3 (x y z U V : Wh) (C1 : ∀ w : World, Calls Try.prog 11 #[.agg #[.int .i64 x.k, .int .i64 x.t, .int .i64 x.i, .int .i64 x.l, .bool x.m, .int .u64 (x.a : Nat), .int .u64 (x.b : Nat)], .agg #[.int .i64 y.k, .int .i64 y.t, .int .i64 y.i, .int .i64 y.l, .bool y.m, .int .u64 (y.a : Nat), .int .u64 (y.b : Nat)]] w fun e w' => e = .returned (.agg #[.int .i64 U.k, .int .i64 U.t, .int .i64 U.i, .int .i64 U.l, .bool U.m, .int .u64 (U.a : Nat), .int .u64 (U.b : Nat)]) ∧ Below w.heap.size w w') (C2 : ∀ w : World, Calls Try.prog 11 #[.agg #[.int .i64 y.k, .int .i64 y.t, .int .i64 y.i, .int .i64 y.l, .bool y.m, .int .u64 (y.a : Nat), .int .u64 (y.b : Nat)], .agg #[.int .i64 z.k, .int .i64 z.t, .int .i64 z.i, .int .i64 z.l, .bool z.m, .int .u64 (z.a : Nat), .int .u64 (z.b : Nat)]] w fun e w' => e = .returned (.agg #[.int .i64 V.k, .int .i64 V.t, .int .i64 V.i, .int .i64 V.l, .bool V.m, .int .u64 (V.a : Nat), .int .u64 (V.b : Nat)]) ∧ Below w.heap.size w w') (C3 : ∀ w : World, Calls Try.prog 11 #[.agg #[.int .i64 y.k, .int .i64 y.t, .int .i64 y.i, .int .i64 y.l, .bool y.m, .int .u64 (y.a : Nat), .int .u64 (y.b : Nat)], .agg #[.int .i64 x.k, .int .i64 x.t, .int .i64 x.i, .int .i64 x.l, .bool x.m, .int .u64 (x.a : Nat), .int .u64 (x.b : Nat)]] w fun e w' => e = .returned (.agg #[.int .i64 U.k, .int .i64 U.t, .int .i64 U.i, .int .i64 U.l, .bool U.m, .int .u64 (U.a : Nat), .int .u64 (U.b : Nat)]) ∧ Below w.heap.size w w') (M1 : ∀ w : World, Calls Try.prog 12 #[.agg #[.int .i64 U.k, .int .i64 U.t, .int .i64 U.i, .int .i64 U.l, .bool U.m, .int .u64 (U.a : Nat), .int .u64 (U.b : Nat)]] w fun e w' => e = .returned (.bool true) ∧ Below w.heap.size w w') (M2 : ∀ w : World, Calls Try.prog 12 #[.agg #[.int .i64 x.k, .int .i64 x.t, .int .i64 x.i, .int .i64 x.l, .bool x.m, .int .u64 (x.a : Nat), .int .u64 (x.b : Nat)]] w fun e w' => e = .returned (.bool true) ∧ Below w.heap.size w w') (C4 : ∀ w : World, Calls Try.prog 11 #[.agg #[.int .i64 x.k, .int .i64 x.t, .int .i64 x.i, .int .i64 x.l, .bool x.m, .int .u64 (x.a : Nat), .int .u64 (x.b : Nat)], .agg #[.int .i64 x.k, .int .i64 x.t, .int .i64 x.i, .int .i64 x.l, .bool x.m, .int .u64 (x.a : Nat), .int .u64 (x.b : Nat)]] w fun e w' => e = .returned (.agg #[.int .i64 x.k, .int .i64 x.t, .int .i64 x.i, .int .i64 x.l, .bool x.m, .int .u64 (x.a : Nat), .int .u64 (x.b : Nat)]) ∧ Below w.heap.size w w') (C5 : ∀ w : World, Calls Try.prog 11 #[.agg #[.int .i64 U.k, .int .i64 U.t, .int .i64 U.i, .int .i64 U.l, .bool U.m, .int .u64 (U.a : Nat), .int .u64 (U.b : Nat)], .agg #[.int .i64 U.k, .int .i64 U.t, .int .i64 U.i, .int .i64 U.l, .bool U.m, .int .u64 (U.a : Nat), .int .u64 (U.b : Nat)]] w fun e w' => e = .returned (.agg #[.int .i64 U.k, .int .i64 U.t, .int .i64 U.i, .int .i64 U.l, .bool U.m, .int .u64 (U.a : Nat), .int .u64 (U.b : Nat)]) ∧ Below w.heap.size w w') (hU : eqB U.k U.t U.i U.l U.m (U.a : Nat) (U.b : Nat) U.k U.t U.i U.l U.m (U.a : Nat) (U.b : Nat) = true) (hx : eqB x.k x.t x.i x.l x.m (x.a : Nat) (x.b : Nat) x.k x.t x.i x.l x.m (x.a : Nat) (x.b : Nat) = true) (q0 : eqB U.k U.t U.i U.l U.m (U.a : Nat) (U.b : Nat) 0 0 0 0 false 0 0 = false) (q1 : eqB V.k V.t V.i V.l V.m (V.a : Nat) (V.b : Nat) 0 0 0 0 false 0 0 = false) (P T : Wh) (C6 : ∀ w : World, Calls Try.prog 11 #[.agg #[.int .i64 x.k, .int .i64 x.t, .int .i64 x.i, .int .i64 x.l, .bool x.m, .int .u64 (x.a : Nat), .int .u64 (x.b : Nat)], .agg #[.int .i64 z.k, .int .i64 z.t, .int .i64 z.i, .int .i64 z.l, .bool z.m, .int .u64 (z.a : Nat), .int .u64 (z.b : Nat)]] w fun e w' => e = .returned (.agg #[.int .i64 P.k, .int .i64 P.t, .int .i64 P.i, .int .i64 P.l, .bool P.m, .int .u64 (P.a : Nat), .int .u64 (P.b : Nat)]) ∧ Below w.heap.size w w') (q2 : eqB P.k P.t P.i P.l P.m (P.a : Nat) (P.b : Nat) 0 0 0 0 false 0 0 = false) (C7 : ∀ w : World, Calls Try.prog 11 #[.agg #[.int .i64 U.k, .int .i64 U.t, .int .i64 U.i, .int .i64 U.l, .bool U.m, .int .u64 (U.a : Nat), .int .u64 (U.b : Nat)], .agg #[.int .i64 z.k, .int .i64 z.t, .int .i64 z.i, .int .i64 z.l, .bool z.m, .int .u64 (z.a : Nat), .int .u64 (z.b : Nat)]] w fun e w' => e = .returned (.agg #[.int .i64 T.k, .int .i64 T.t, .int .i64 T.i, .int .i64 T.l, .bool T.m, .int .u64 (T.a : Nat), .int .u64 (T.b : Nat)]) ∧ Below w.heap.size w w') (C8 : ∀ w : World, Calls Try.prog 11 #[.agg #[.int .i64 x.k, .int .i64 x.t, .int .i64 x.i, .int .i64 x.l, .bool x.m, .int .u64 (x.a : Nat), .int .u64 (x.b : Nat)], .agg #[.int .i64 V.k, .int .i64 V.t, .int .i64 V.i, .int .i64 V.l, .bool V.m, .int .u64 (V.a : Nat), .int .u64 (V.b : Nat)]] w fun e w' => e = .returned (.agg #[.int .i64 T.k, .int .i64 T.t, .int .i64 T.i, .int .i64 T.l, .bool T.m, .int .u64 (T.a : Nat), .int .u64 (T.b : Nat)]) ∧ Below w.heap.size w w') (hT : eqB T.k T.t T.i T.l T.m (T.a : Nat) (T.b : Nat) T.k T.t T.i T.l T.m (T.a : Nat) (T.b : Nat) = true) (C9 : ∀ w : World, Calls Try.prog 11 #[.agg #[.int .i64 x.k, .int .i64 x.t, .int .i64 x.i, .int .i64 x.l, .bool x.m, .int .u64 (x.a : Nat), .int .u64 (x.b : Nat)], .agg #[.int .i64 U.k, .int .i64 U.t, .int .i64 U.i, .int .i64 U.l, .bool U.m, .int .u64 (U.a : Nat), .int .u64 (U.b : Nat)]] w fun e w' => e = .returned (.agg #[.int .i64 U.k, .int .i64 U.t, .int .i64 U.i, .int .i64 U.l, .bool U.m, .int .u64 (U.a : Nat), .int .u64 (U.b : Nat)]) ∧ Below w.heap.size w w') (w : World) :
    Calls Try.prog 3 #[.agg #[.int .i64 x.k, .int .i64 x.t, .int .i64 x.i, .int .i64 x.l, .bool x.m, .int .u64 (x.a : Nat), .int .u64 (x.b : Nat)], .agg #[.int .i64 y.k, .int .i64 y.t, .int .i64 y.i, .int .i64 y.l, .bool y.m, .int .u64 (y.a : Nat), .int .u64 (y.b : Nat)], .agg #[.int .i64 z.k, .int .i64 z.t, .int .i64 z.i, .int .i64 z.l, .bool z.m, .int .u64 (z.a : Nat), .int .u64 (z.b : Nat)]] w fun e w' => e = .returned (.bool true) ∧ Below w.heap.size w w' := by
  have he := eqWhat
  have n0_2 : ¬ w.heap.size = w.heap.size + 1 + 1 := by omega
  have n2_0 : ¬ w.heap.size + 1 + 1 = w.heap.size := by omega
  have nn0 : ∀ n : Nat, ¬ n = n + 1 + 1 := fun n => by omega
  have nn1 : ∀ n : Nat, ¬ n + 1 + 1 = n := fun n => by omega
  have nn2 : ∀ n : Nat, ¬ n = n + 1 + 1 + 1 := fun n => by omega
  have nn3 : ∀ n : Nat, ¬ n + 1 + 1 + 1 = n := fun n => by omega
  have nn4 : ∀ n : Nat, ¬ n + 1 = n + 1 + 1 + 1 := fun n => by omega
  have nn5 : ∀ n : Nat, ¬ n + 1 + 1 + 1 = n + 1 := fun n => by omega
  have nn6 : ∀ a b : Nat, a < b → ¬ a = b + 1 + 1 := fun a b h => by omega
  have nn7 : ∀ a b : Nat, a < b → ¬ a = b + 1 := fun a b h => by omega
  have nn8 : ∀ a b : Nat, a < b → ¬ a = b := fun a b h => by omega
  have nn9 : ∀ a b : Nat, a < b → a ≤ b := fun a b h => by omega
  have nn10 : ∀ a b : Nat, a < b → a ≤ b + 1 := fun a b h => by omega
  have nn11 : ∀ a b : Nat, a < b → a < b + 1 + 1 := fun a b h => by omega
  have nn12 : ∀ a b : Nat, a < b → a < b + 1 := fun a b h => by omega
  have nn13 : ∀ a b : Nat, a < b → ¬ b = a := fun a b h => by omega
  have nn14 : ∀ a b : Nat, a < b → ¬ b + 1 = a := fun a b h => by omega
  go_enter Try.func3, Try.ntmps3
  go_upto_region 4 with (first | (go_at_call 10; ((with_reducible refine (shown_any _).mono ?_); rintro e w1 ⟨rfl, hb⟩); have HB : Below w.heap.size w w1 := below_then (by (repeat (first | (with_reducible exact HB) | (with_reducible exact Below.refl _ _) | (with_reducible refine below_set ?_ (by (try dsimp only); omega) _) | (with_reducible apply below_drew) | (with_reducible apply below_draws) | (with_reducible apply below_alloc)))) hb; obtain ⟨hc, hf⟩ := bcell hb; have hz := hb.size; (try simp at hz); (have z1_0 : w.heap.size < w1.heap.size := by omega); have c1_0 : ∀ o, w1.cell? ⟨w.heap.size, o, none⟩ = _ := fun o => hc _ o (by first | (simp; done) | (simp; omega) | omega); have g1_0 : ∀ o, w1.frozen? ⟨w.heap.size, o, none⟩ = _ := fun o => hf _ o (by first | (simp; done) | (simp; omega) | omega); (have z1_1 : w.heap.size + 1 < w1.heap.size := by omega); have c1_1 : ∀ o, w1.cell? ⟨w.heap.size + 1, o, none⟩ = _ := fun o => hc _ o (by first | (simp; done) | (simp; omega) | omega); have g1_1 : ∀ o, w1.frozen? ⟨w.heap.size + 1, o, none⟩ = _ := fun o => hf _ o (by first | (simp; done) | (simp; omega) | omega); (have z1_2 : w.heap.size + 1 + 1 < w1.heap.size := by omega); have c1_2 : ∀ o, w1.cell? ⟨w.heap.size + 1 + 1, o, none⟩ = _ := fun o => hc _ o (by first | (simp; done) | (simp; omega) | omega); have g1_2 : ∀ o, w1.frozen? ⟨w.heap.size + 1 + 1, o, none⟩ = _ := fun o => hf _ o (by first | (simp; done) | (simp; omega) | omega); clear hb hz hc hf) | (go_at_call 11; ((with_reducible refine (C1 _).mono ?_); rintro e w2 ⟨rfl, hb⟩); have HB : Below w.heap.size w w2 := below_then (by (repeat (first | (with_reducible exact HB) | (with_reducible exact Below.refl _ _) | (with_reducible refine below_set ?_ (by (try dsimp only); omega) _) | (with_reducible apply below_drew) | (with_reducible apply below_draws) | (with_reducible apply below_alloc)))) hb; obtain ⟨hc, hf⟩ := bcell hb; have hz := hb.size; (try simp at hz); (have z2_0 : w.heap.size < w2.heap.size := by omega); have c2_0 : ∀ o, w2.cell? ⟨w.heap.size, o, none⟩ = _ := fun o => hc _ o (by first | (simp; done) | (simp; omega) | omega); have g2_0 : ∀ o, w2.frozen? ⟨w.heap.size, o, none⟩ = _ := fun o => hf _ o (by first | (simp; done) | (simp; omega) | omega); (have z2_1 : w.heap.size + 1 < w2.heap.size := by omega); have c2_1 : ∀ o, w2.cell? ⟨w.heap.size + 1, o, none⟩ = _ := fun o => hc _ o (by first | (simp; done) | (simp; omega) | omega); have g2_1 : ∀ o, w2.frozen? ⟨w.heap.size + 1, o, none⟩ = _ := fun o => hf _ o (by first | (simp; done) | (simp; omega) | omega); (have z2_2 : w.heap.size + 1 + 1 < w2.heap.size := by omega); have c2_2 : ∀ o, w2.cell? ⟨w.heap.size + 1 + 1, o, none⟩ = _ := fun o => hc _ o (by first | (simp; done) | (simp; omega) | omega); have g2_2 : ∀ o, w2.frozen? ⟨w.heap.size + 1 + 1, o, none⟩ = _ := fun o => hf _ o (by first | (simp; done) | (simp; omega) | omega); clear hb hz hc hf; clear C1) | (go_at_call 11; ((with_reducible refine (C2 _).mono ?_); rintro e w3 ⟨rfl, hb⟩); have HB : Below w.heap.size w w3 := below_then (by (repeat (first | (with_reducible exact HB) | (with_reducible exact Below.refl _ _) | (with_reducible refine below_set ?_ (by (try dsimp only); omega) _) | (with_reducible apply below_drew) | (with_reducible apply below_draws) | (with_reducible apply below_alloc)))) hb; obtain ⟨hc, hf⟩ := bcell hb; have hz := hb.size; (try simp at hz); (have z3_0 : w.heap.size < w3.heap.size := by omega); have c3_0 : ∀ o, w3.cell? ⟨w.heap.size, o, none⟩ = _ := fun o => hc _ o (by first | (simp; done) | (simp; omega) | omega); have g3_0 : ∀ o, w3.frozen? ⟨w.heap.size, o, none⟩ = _ := fun o => hf _ o (by first | (simp; done) | (simp; omega) | omega); (have z3_1 : w.heap.size + 1 < w3.heap.size := by omega); have c3_1 : ∀ o, w3.cell? ⟨w.heap.size + 1, o, none⟩ = _ := fun o => hc _ o (by first | (simp; done) | (simp; omega) | omega); have g3_1 : ∀ o, w3.frozen? ⟨w.heap.size + 1, o, none⟩ = _ := fun o => hf _ o (by first | (simp; done) | (simp; omega) | omega); (have z3_2 : w.heap.size + 1 + 1 < w3.heap.size := by omega); have c3_2 : ∀ o, w3.cell? ⟨w.heap.size + 1 + 1, o, none⟩ = _ := fun o => hc _ o (by first | (simp; done) | (simp; omega) | omega); have g3_2 : ∀ o, w3.frozen? ⟨w.heap.size + 1 + 1, o, none⟩ = _ := fun o => hf _ o (by first | (simp; done) | (simp; omega) | omega); (have z3_3 : w2.heap.size < w3.heap.size := by omega); have c3_3 : ∀ o, w3.cell? ⟨w2.heap.size, o, none⟩ = _ := fun o => hc _ o (by first | (simp; done) | (simp; omega) | omega); have g3_3 : ∀ o, w3.frozen? ⟨w2.heap.size, o, none⟩ = _ := fun o => hf _ o (by first | (simp; done) | (simp; omega) | omega); clear hb hz hc hf))
  refine named (P := fun W => Code.wp _ _ _ _ W) (fun W => Seven W (w.heap.size) x.k x.t x.i x.l x.m (x.a : Nat) (x.b : Nat) ∧ Seven W (w.heap.size + 1) y.k y.t y.i y.l y.m (y.a : Nat) (y.b : Nat) ∧ Seven W (w.heap.size + 1 + 1) z.k z.t z.i z.l z.m (z.a : Nat) (z.b : Nat) ∧ Seven W (w2.heap.size) U.k U.t U.i U.l U.m (U.a : Nat) (U.b : Nat) ∧ Seven W (w3.heap.size) V.k V.t V.i V.l V.m (V.a : Nat) (V.b : Nat) ∧ w.heap.size < W.heap.size ∧ w.heap.size + 1 < W.heap.size ∧ w.heap.size + 1 + 1 < W.heap.size ∧ w2.heap.size < W.heap.size ∧ w3.heap.size < W.heap.size ∧ Below w.heap.size w W) ⟨⟨(by first | (with_reducible assumption) | (go_simp; done) | (simp (maxDischargeDepth := 16) [*]; done)), (by first | (with_reducible assumption) | (go_simp; done) | (simp (maxDischargeDepth := 16) [*]; done)), (by first | (with_reducible assumption) | (go_simp; done) | (simp (maxDischargeDepth := 16) [*]; done)), (by first | (with_reducible assumption) | (go_simp; done) | (simp (maxDischargeDepth := 16) [*]; done)), (by first | (with_reducible assumption) | (go_simp; done) | (simp (maxDischargeDepth := 16) [*]; done)), (by first | (with_reducible assumption) | (go_simp; done) | (simp (maxDischargeDepth := 16) [*]; done)), (by first | (with_reducible assumption) | (go_simp; done) | (simp (maxDischargeDepth := 16) [*]; done))⟩, ⟨(by first | (with_reducible assumption) | (go_simp; done) | (simp (maxDischargeDepth := 16) [*]; done)), (by first | (with_reducible assumption) | (go_simp; done) | (simp (maxDischargeDepth := 16) [*]; done)), (by first | (with_reducible assumption) | (go_simp; done) | (simp (maxDischargeDepth := 16) [*]; done)), (by first | (with_reducible assumption) | (go_simp; done) | (simp (maxDischargeDepth := 16) [*]; done)), (by first | (with_reducible assumption) | (go_simp; done) | (simp (maxDischargeDepth := 16) [*]; done)), (by first | (with_reducible assumption) | (go_simp; done) | (simp (maxDischargeDepth := 16) [*]; done)), (by first | (with_reducible assumption) | (go_simp; done) | (simp (maxDischargeDepth := 16) [*]; done))⟩, ⟨(by first | (with_reducible assumption) | (go_simp; done) | (simp (maxDischargeDepth := 16) [*]; done)), (by first | (with_reducible assumption) | (go_simp; done) | (simp (maxDischargeDepth := 16) [*]; done)), (by first | (with_reducible assumption) | (go_simp; done) | (simp (maxDischargeDepth := 16) [*]; done)), (by first | (with_reducible assumption) | (go_simp; done) | (simp (maxDischargeDepth := 16) [*]; done)), (by first | (with_reducible assumption) | (go_simp; done) | (simp (maxDischargeDepth := 16) [*]; done)), (by first | (with_reducible assumption) | (go_simp; done) | (simp (maxDischargeDepth := 16) [*]; done)), (by first | (with_reducible assumption) | (go_simp; done) | (simp (maxDischargeDepth := 16) [*]; done))⟩, ⟨(by first | (with_reducible assumption) | (go_simp; done) | (simp (maxDischargeDepth := 16) [*]; done)), (by first | (with_reducible assumption) | (go_simp; done) | (simp (maxDischargeDepth := 16) [*]; done)), (by first | (with_reducible assumption) | (go_simp; done) | (simp (maxDischargeDepth := 16) [*]; done)), (by first | (with_reducible assumption) | (go_simp; done) | (simp (maxDischargeDepth := 16) [*]; done)), (by first | (with_reducible assumption) | (go_simp; done) | (simp (maxDischargeDepth := 16) [*]; done)), (by first | (with_reducible assumption) | (go_simp; done) | (simp (maxDischargeDepth := 16) [*]; done)), (by first | (with_reducible assumption) | (go_simp; done) | (simp (maxDischargeDepth := 16) [*]; done))⟩, ⟨(by first | (with_reducible assumption) | (go_simp; done) | (simp (maxDischargeDepth := 16) [*]; done)), (by first | (with_reducible assumption) | (go_simp; done) | (simp (maxDischargeDepth := 16) [*]; done)), (by first | (with_reducible assumption) | (go_simp; done) | (simp (maxDischargeDepth := 16) [*]; done)), (by first | (with_reducible assumption) | (go_simp; done) | (simp (maxDischargeDepth := 16) [*]; done)), (by first | (with_reducible assumption) | (go_simp; done) | (simp (maxDischargeDepth := 16) [*]; done)), (by first | (with_reducible assumption) | (go_simp; done) | (simp (maxDischargeDepth := 16) [*]; done)), (by first | (with_reducible assumption) | (go_simp; done) | (simp (maxDischargeDepth := 16) [*]; done))⟩, (by first | omega | (simp; done) | (simp; omega)), (by first | omega | (simp; done) | (simp; omega)), (by first | omega | (simp; done) | (simp; omega)), (by first | omega | (simp; done) | (simp; omega)), (by first | omega | (simp; done) | (simp; omega)), (by (repeat (first | (with_reducible exact HB) | (with_reducible exact Below.refl _ _) | (with_reducible refine below_set ?_ (by (try dsimp only); omega) _) | (with_reducible apply below_drew) | (with_reducible apply below_draws) | (with_reducible apply below_alloc))))⟩ ?_
  rintro W ⟨⟨o00, o01, o02, o03, o04, o05, o06⟩, ⟨o10, o11, o12, o13, o14, o15, o16⟩, ⟨o20, o21, o22, o23, o24, o25, o26⟩, ⟨o30, o31, o32, o33, o34, o35, o36⟩, ⟨o40, o41, o42, o43, o44, o45, o46⟩, hs0, hs1, hs2, hs3, hs4, HB⟩
  clear C2
  refine wp_region_noPanic ?_
  refine wp_region_held_drew (S := (fun w' => w'.cell? ⟨w.heap.size, 0, none⟩ = some (.int .i64 x.k) ∧ w'.cell? ⟨w.heap.size, 1, none⟩ = some (.int .i64 x.t) ∧ w'.cell? ⟨w.heap.size, 2, none⟩ = some (.int .i64 x.i) ∧ w'.cell? ⟨w.heap.size, 3, none⟩ = some (.int .i64 x.l) ∧ w'.cell? ⟨w.heap.size, 4, none⟩ = some (.bool x.m) ∧ w'.cell? ⟨w.heap.size, 5, none⟩ = some (.int .u64 (x.a : Nat)) ∧ w'.cell? ⟨w.heap.size, 6, none⟩ = some (.int .u64 (x.b : Nat)) ∧ w'.cell? ⟨w.heap.size + 1, 0, none⟩ = some (.int .i64 y.k) ∧ w'.cell? ⟨w.heap.size + 1, 1, none⟩ = some (.int .i64 y.t) ∧ w'.cell? ⟨w.heap.size + 1, 2, none⟩ = some (.int .i64 y.i) ∧ w'.cell? ⟨w.heap.size + 1, 3, none⟩ = some (.int .i64 y.l) ∧ w'.cell? ⟨w.heap.size + 1, 4, none⟩ = some (.bool y.m) ∧ w'.cell? ⟨w.heap.size + 1, 5, none⟩ = some (.int .u64 (y.a : Nat)) ∧ w'.cell? ⟨w.heap.size + 1, 6, none⟩ = some (.int .u64 (y.b : Nat)) ∧ w'.cell? ⟨w2.heap.size, 0, none⟩ = some (.int .i64 U.k) ∧ w'.cell? ⟨w2.heap.size, 1, none⟩ = some (.int .i64 U.t) ∧ w'.cell? ⟨w2.heap.size, 2, none⟩ = some (.int .i64 U.i) ∧ w'.cell? ⟨w2.heap.size, 3, none⟩ = some (.int .i64 U.l) ∧ w'.cell? ⟨w2.heap.size, 4, none⟩ = some (.bool U.m) ∧ w'.cell? ⟨w2.heap.size, 5, none⟩ = some (.int .u64 (U.a : Nat)) ∧ w'.cell? ⟨w2.heap.size, 6, none⟩ = some (.int .u64 (U.b : Nat)))) (by kernel_rfl) ?_ (fun hHeld => ?_)
  · (try dsimp only)
    simp (maxDischargeDepth := 16) [*, World.cell?_alloc_some, World.cell?_setCell_far]
  refine wpAnyH_take (i := 0) (oi := ⟨_, _, _, _, _, _⟩) (v := ?_) rfl (by kernel_rfl) (by kernel_rfl) (by kernel_rfl) (fun _ _ _ h => h) (Or.inl ⟨rfl, ?_⟩) hHeld ?_
  rotate_left
  · (intro w hSw)
    (try dsimp only at hSw)
    (first | (go_simp; done) | (go_simp; with_reducible rfl))
  (try simp only [Act.put, List.setIfInBounds_toArray, List.set_cons_zero, List.set_cons_succ])
  refine wpAnyH_take (i := 1) (oi := ⟨_, _, _, _, _, _⟩) (v := ?_) rfl (by kernel_rfl) (by kernel_rfl) (by kernel_rfl) (fun _ _ _ h => h) (Or.inl ⟨rfl, ?_⟩) hHeld ?_
  rotate_left
  · (intro w hSw)
    (try dsimp only at hSw)
    (first | (go_simp; done) | (go_simp; with_reducible rfl))
  (try simp only [Act.put, List.setIfInBounds_toArray, List.set_cons_zero, List.set_cons_succ])
  refine wpAnyH_take (i := 2) (oi := ⟨_, _, _, _, _, _⟩) (v := ?_) rfl (by kernel_rfl) (by kernel_rfl) (by kernel_rfl) (fun _ _ _ h => h) (Or.inl ⟨rfl, ?_⟩) hHeld ?_
  rotate_left
  · (intro w hSw)
    (try dsimp only at hSw)
    (first | (go_simp; done) | (go_simp; with_reducible rfl))
  (try simp only [Act.put, List.setIfInBounds_toArray, List.set_cons_zero, List.set_cons_succ])
  refine wpAnyH_ready (rs := [3]) (by kernel_rfl) (by simp) ?_
  refine AllReadyH.cons (o := ⟨_, _, _, _, _, _⟩) rfl (fun K hK => ?_) AllReadyH.nil
  go_simp
  (first | (go_at_call 11; refine (C3 _).mono ?_; rintro e w4 ⟨rfl, hb⟩; have HB : Below w.heap.size w w4 := below_then (by (repeat (first | (with_reducible exact HB) | (with_reducible exact Below.refl _ _) | (with_reducible refine below_set ?_ (by (try dsimp only); omega) _) | (with_reducible apply below_drew) | (with_reducible apply below_draws) | (with_reducible apply below_alloc)))) hb; obtain ⟨hc, hf⟩ := bcell hb; have hz := hb.size; (try simp at hz); (have z4_0 : w.heap.size < w4.heap.size := by omega); have c4_0 : ∀ o, w4.cell? ⟨w.heap.size, o, none⟩ = _ := fun o => hc _ o (by first | (simp; done) | (simp; omega) | omega); have g4_0 : ∀ o, w4.frozen? ⟨w.heap.size, o, none⟩ = _ := fun o => hf _ o (by first | (simp; done) | (simp; omega) | omega); (have z4_1 : w.heap.size + 1 < w4.heap.size := by omega); have c4_1 : ∀ o, w4.cell? ⟨w.heap.size + 1, o, none⟩ = _ := fun o => hc _ o (by first | (simp; done) | (simp; omega) | omega); have g4_1 : ∀ o, w4.frozen? ⟨w.heap.size + 1, o, none⟩ = _ := fun o => hf _ o (by first | (simp; done) | (simp; omega) | omega); (have z4_2 : w.heap.size + 1 + 1 < w4.heap.size := by omega); have c4_2 : ∀ o, w4.cell? ⟨w.heap.size + 1 + 1, o, none⟩ = _ := fun o => hc _ o (by first | (simp; done) | (simp; omega) | omega); have g4_2 : ∀ o, w4.frozen? ⟨w.heap.size + 1 + 1, o, none⟩ = _ := fun o => hf _ o (by first | (simp; done) | (simp; omega) | omega); (have z4_3 : w2.heap.size < w4.heap.size := by omega); have c4_3 : ∀ o, w4.cell? ⟨w2.heap.size, o, none⟩ = _ := fun o => hc _ o (by first | (simp; done) | (simp; omega) | omega); have g4_3 : ∀ o, w4.frozen? ⟨w2.heap.size, o, none⟩ = _ := fun o => hf _ o (by first | (simp; done) | (simp; omega) | omega); (have z4_4 : w3.heap.size < w4.heap.size := by omega); have c4_4 : ∀ o, w4.cell? ⟨w3.heap.size, o, none⟩ = _ := fun o => hc _ o (by first | (simp; done) | (simp; omega) | omega); have g4_4 : ∀ o, w4.frozen? ⟨w3.heap.size, o, none⟩ = _ := fun o => hf _ o (by first | (simp; done) | (simp; omega) | omega); clear hb hz hc hf; clear C3))
  (first | (refine hK.out _ _ ?_ (fun hHeld => ?_)) | (go_wp2_with fail; refine hK.out _ _ ?_ (fun hHeld => ?_)))
  · (try dsimp only)
    simp (maxDischargeDepth := 16) [*, World.cell?_alloc_some, World.cell?_setCell_far]
  clear hK K
  (try simp only [Act.put, List.setIfInBounds_toArray, List.set_cons_zero, List.set_cons_succ])
  refine wpAnyH_take (i := 4) (oi := ⟨_, _, _, _, _, _⟩) (v := ?_) rfl (by kernel_rfl) (by kernel_rfl) (by kernel_rfl) (fun _ _ _ h => h) (Or.inl ⟨rfl, ?_⟩) hHeld ?_
  rotate_left
  · (intro w hSw)
    (try dsimp only at hSw)
    (first | (go_simp; done) | (go_simp; with_reducible rfl))
  (try simp only [Act.put, List.setIfInBounds_toArray, List.set_cons_zero, List.set_cons_succ])
  refine wpAnyH_take (i := 5) (oi := ⟨_, _, _, _, _, _⟩) (v := ?_) rfl (by kernel_rfl) (by kernel_rfl) (by kernel_rfl) (fun _ _ _ h => h) (Or.inl ⟨rfl, ?_⟩) hHeld ?_
  rotate_left
  · (intro w hSw)
    (try dsimp only at hSw)
    (first | (go_simp; done) | (go_simp; with_reducible rfl))
  (try simp only [Act.put, List.setIfInBounds_toArray, List.set_cons_zero, List.set_cons_succ])
  refine wpAnyH_take (i := 6) (oi := ⟨_, _, _, _, _, _⟩) (v := ?_) rfl (by kernel_rfl) (by kernel_rfl) (by kernel_rfl) (fun _ _ _ h => h) (Or.inl ⟨rfl, ?_⟩) hHeld ?_
  rotate_left
  · (intro w hSw)
    (try dsimp only at hSw)
    (first | (go_simp; done) | (go_simp; with_reducible rfl))
  (try simp only [Act.put, List.setIfInBounds_toArray, List.set_cons_zero, List.set_cons_succ])
  refine wpAnyH_ready (rs := [7]) (by kernel_rfl) (by simp) ?_
  refine AllReadyH.cons (o := ⟨_, _, _, _, _, _⟩) rfl (fun K hK => ?_) AllReadyH.nil
  go_simp
  (first | (go_at_call 12; refine (M1 _).mono ?_; rintro e w5 ⟨rfl, hb⟩; have HB : Below w.heap.size w w5 := below_then (by (repeat (first | (with_reducible exact HB) | (with_reducible exact Below.refl _ _) | (with_reducible refine below_set ?_ (by (try dsimp only); omega) _) | (with_reducible apply below_drew) | (with_reducible apply below_draws) | (with_reducible apply below_alloc)))) hb; obtain ⟨hc, hf⟩ := bcell hb; have hz := hb.size; (try simp at hz); (have z5_0 : w.heap.size < w5.heap.size := by omega); have c5_0 : ∀ o, w5.cell? ⟨w.heap.size, o, none⟩ = _ := fun o => hc _ o (by first | (simp; done) | (simp; omega) | omega); have g5_0 : ∀ o, w5.frozen? ⟨w.heap.size, o, none⟩ = _ := fun o => hf _ o (by first | (simp; done) | (simp; omega) | omega); (have z5_1 : w.heap.size + 1 < w5.heap.size := by omega); have c5_1 : ∀ o, w5.cell? ⟨w.heap.size + 1, o, none⟩ = _ := fun o => hc _ o (by first | (simp; done) | (simp; omega) | omega); have g5_1 : ∀ o, w5.frozen? ⟨w.heap.size + 1, o, none⟩ = _ := fun o => hf _ o (by first | (simp; done) | (simp; omega) | omega); (have z5_2 : w.heap.size + 1 + 1 < w5.heap.size := by omega); have c5_2 : ∀ o, w5.cell? ⟨w.heap.size + 1 + 1, o, none⟩ = _ := fun o => hc _ o (by first | (simp; done) | (simp; omega) | omega); have g5_2 : ∀ o, w5.frozen? ⟨w.heap.size + 1 + 1, o, none⟩ = _ := fun o => hf _ o (by first | (simp; done) | (simp; omega) | omega); (have z5_3 : w2.heap.size < w5.heap.size := by omega); have c5_3 : ∀ o, w5.cell? ⟨w2.heap.size, o, none⟩ = _ := fun o => hc _ o (by first | (simp; done) | (simp; omega) | omega); have g5_3 : ∀ o, w5.frozen? ⟨w2.heap.size, o, none⟩ = _ := fun o => hf _ o (by first | (simp; done) | (simp; omega) | omega); (have z5_4 : w3.heap.size < w5.heap.size := by omega); have c5_4 : ∀ o, w5.cell? ⟨w3.heap.size, o, none⟩ = _ := fun o => hc _ o (by first | (simp; done) | (simp; omega) | omega); have g5_4 : ∀ o, w5.frozen? ⟨w3.heap.size, o, none⟩ = _ := fun o => hf _ o (by first | (simp; done) | (simp; omega) | omega); clear hb hz hc hf; clear M1))
  (first | (refine hK.out _ _ ?_ (fun hHeld => ?_)) | (go_wp2_with fail; refine hK.out _ _ ?_ (fun hHeld => ?_)))
  · (try dsimp only)
    simp (maxDischargeDepth := 16) [*, World.cell?_alloc_some, World.cell?_setCell_far]
  clear hK K
  (try simp only [Act.put, List.setIfInBounds_toArray, List.set_cons_zero, List.set_cons_succ])
  refine wpAnyH_take (i := 8) (oi := ⟨_, _, _, _, _, _⟩) (v := ?_) rfl (by kernel_rfl) (by kernel_rfl) (by kernel_rfl) (fun _ _ _ h => h) (Or.inl ⟨rfl, ?_⟩) hHeld ?_
  rotate_left
  · (intro w hSw)
    (try dsimp only at hSw)
    (first | (go_simp; done) | (go_simp; with_reducible rfl))
  (try simp only [Act.put, List.setIfInBounds_toArray, List.set_cons_zero, List.set_cons_succ])
  refine wpAnyH_take (i := 9) (oi := ⟨_, _, _, _, _, _⟩) (v := ?_) rfl (by kernel_rfl) (by kernel_rfl) (by kernel_rfl) (fun _ _ _ h => h) (Or.inl ⟨rfl, ?_⟩) hHeld ?_
  rotate_left
  · (intro w hSw)
    (try dsimp only at hSw)
    (first | (go_simp; done) | (go_simp; with_reducible rfl))
  (try simp only [Act.put, List.setIfInBounds_toArray, List.set_cons_zero, List.set_cons_succ])
  refine wpAnyH_take (i := 10) (oi := ⟨_, _, _, _, _, _⟩) (v := ?_) rfl (by kernel_rfl) (by kernel_rfl) (by kernel_rfl) (fun _ _ _ h => h) (Or.inl ⟨rfl, ?_⟩) hHeld ?_
  rotate_left
  · (intro w hSw)
    (try dsimp only at hSw)
    (first | (go_simp; done) | (go_simp; with_reducible rfl))
  (try simp only [Act.put, List.setIfInBounds_toArray, List.set_cons_zero, List.set_cons_succ])
  refine wpAnyH_take (i := 11) (oi := ⟨_, _, _, _, _, _⟩) (v := ?_) rfl (by kernel_rfl) (by kernel_rfl) (by kernel_rfl) (fun _ _ _ h => h) (Or.inl ⟨rfl, ?_⟩) hHeld ?_
  rotate_left
  · (intro w hSw)
    (try dsimp only at hSw)
    (first | (go_simp; done) | (go_simp; with_reducible rfl))
  (try simp only [Act.put, List.setIfInBounds_toArray, List.set_cons_zero, List.set_cons_succ])
  refine wpAnyH_ready (rs := [12]) (by kernel_rfl) (by simp) ?_
  refine AllReadyH.cons (o := ⟨_, _, _, _, _, _⟩) rfl (fun K hK => ?_) AllReadyH.nil
  go_simp
  (first | (go_at_call 12; refine (M2 _).mono ?_; rintro e w6 ⟨rfl, hb⟩; have HB : Below w.heap.size w w6 := below_then (by (repeat (first | (with_reducible exact HB) | (with_reducible exact Below.refl _ _) | (with_reducible refine below_set ?_ (by (try dsimp only); omega) _) | (with_reducible apply below_drew) | (with_reducible apply below_draws) | (with_reducible apply below_alloc)))) hb; obtain ⟨hc, hf⟩ := bcell hb; have hz := hb.size; (try simp at hz); (have z6_0 : w.heap.size < w6.heap.size := by omega); have c6_0 : ∀ o, w6.cell? ⟨w.heap.size, o, none⟩ = _ := fun o => hc _ o (by first | (simp; done) | (simp; omega) | omega); have g6_0 : ∀ o, w6.frozen? ⟨w.heap.size, o, none⟩ = _ := fun o => hf _ o (by first | (simp; done) | (simp; omega) | omega); (have z6_1 : w.heap.size + 1 < w6.heap.size := by omega); have c6_1 : ∀ o, w6.cell? ⟨w.heap.size + 1, o, none⟩ = _ := fun o => hc _ o (by first | (simp; done) | (simp; omega) | omega); have g6_1 : ∀ o, w6.frozen? ⟨w.heap.size + 1, o, none⟩ = _ := fun o => hf _ o (by first | (simp; done) | (simp; omega) | omega); (have z6_2 : w.heap.size + 1 + 1 < w6.heap.size := by omega); have c6_2 : ∀ o, w6.cell? ⟨w.heap.size + 1 + 1, o, none⟩ = _ := fun o => hc _ o (by first | (simp; done) | (simp; omega) | omega); have g6_2 : ∀ o, w6.frozen? ⟨w.heap.size + 1 + 1, o, none⟩ = _ := fun o => hf _ o (by first | (simp; done) | (simp; omega) | omega); (have z6_3 : w2.heap.size < w6.heap.size := by omega); have c6_3 : ∀ o, w6.cell? ⟨w2.heap.size, o, none⟩ = _ := fun o => hc _ o (by first | (simp; done) | (simp; omega) | omega); have g6_3 : ∀ o, w6.frozen? ⟨w2.heap.size, o, none⟩ = _ := fun o => hf _ o (by first | (simp; done) | (simp; omega) | omega); (have z6_4 : w3.heap.size < w6.heap.size := by omega); have c6_4 : ∀ o, w6.cell? ⟨w3.heap.size, o, none⟩ = _ := fun o => hc _ o (by first | (simp; done) | (simp; omega) | omega); have g6_4 : ∀ o, w6.frozen? ⟨w3.heap.size, o, none⟩ = _ := fun o => hf _ o (by first | (simp; done) | (simp; omega) | omega); clear hb hz hc hf))
  (first | (refine hK.out _ _ ?_ (fun hHeld => ?_)) | (go_wp2_with fail; refine hK.out _ _ ?_ (fun hHeld => ?_)))
  · (try dsimp only)
    simp (maxDischargeDepth := 16) [*, World.cell?_alloc_some, World.cell?_setCell_far]
  clear hK K
  (try simp only [Act.put, List.setIfInBounds_toArray, List.set_cons_zero, List.set_cons_succ])
  refine wpAnyH_take (i := 13) (oi := ⟨_, _, _, _, _, _⟩) (v := ?_) rfl (by kernel_rfl) (by kernel_rfl) (by kernel_rfl) (fun _ _ _ h => h) (Or.inl ⟨rfl, ?_⟩) hHeld ?_
  rotate_left
  · (intro w hSw)
    (try dsimp only at hSw)
    (first | (go_simp; done) | (go_simp; with_reducible rfl))
  (try simp only [Act.put, List.setIfInBounds_toArray, List.set_cons_zero, List.set_cons_succ])
  refine wpAnyH_take (i := 14) (oi := ⟨_, _, _, _, _, _⟩) (v := ?_) rfl (by kernel_rfl) (by kernel_rfl) (by kernel_rfl) (fun _ _ _ h => h) (Or.inl ⟨rfl, ?_⟩) hHeld ?_
  rotate_left
  · (intro w hSw)
    (try dsimp only at hSw)
    (first | (go_simp; done) | (go_simp; with_reducible rfl))
  (try simp only [Act.put, List.setIfInBounds_toArray, List.set_cons_zero, List.set_cons_succ])
  refine wpAnyH_take (i := 15) (oi := ⟨_, _, _, _, _, _⟩) (v := ?_) rfl (by kernel_rfl) (by kernel_rfl) (by kernel_rfl) (fun _ _ _ h => h) (Or.inl ⟨rfl, ?_⟩) hHeld ?_
  rotate_left
  · (intro w hSw)
    (try dsimp only at hSw)
    (first | (go_simp; done) | (go_simp; with_reducible rfl))
  (try simp only [Act.put, List.setIfInBounds_toArray, List.set_cons_zero, List.set_cons_succ])
  refine wpAnyH_take (i := 17) (oi := ⟨_, _, _, _, _, _⟩) (v := ?_) rfl (by kernel_rfl) (by kernel_rfl) (by kernel_rfl) (fun _ _ _ h => h) (Or.inl ⟨rfl, ?_⟩) hHeld ?_
  rotate_left
  · (intro w hSw)
    (try dsimp only at hSw)
    (first | (go_simp; done) | (go_simp; with_reducible rfl))
  (try simp only [Act.put, List.setIfInBounds_toArray, List.set_cons_zero, List.set_cons_succ])
  refine wpAnyH_ready (rs := [16]) (by kernel_rfl) (by simp) ?_
  refine AllReadyH.cons (o := ⟨_, _, _, _, _, _⟩) rfl (fun K hK => ?_) AllReadyH.nil
  go_simp
  (first | (go_at_call 11; refine (C4 _).mono ?_; rintro e w7 ⟨rfl, hb⟩; have HB : Below w.heap.size w w7 := below_then (by (repeat (first | (with_reducible exact HB) | (with_reducible exact Below.refl _ _) | (with_reducible refine below_set ?_ (by (try dsimp only); omega) _) | (with_reducible apply below_drew) | (with_reducible apply below_draws) | (with_reducible apply below_alloc)))) hb; obtain ⟨hc, hf⟩ := bcell hb; have hz := hb.size; (try simp at hz); (have z7_0 : w.heap.size < w7.heap.size := by omega); have c7_0 : ∀ o, w7.cell? ⟨w.heap.size, o, none⟩ = _ := fun o => hc _ o (by first | (simp; done) | (simp; omega) | omega); have g7_0 : ∀ o, w7.frozen? ⟨w.heap.size, o, none⟩ = _ := fun o => hf _ o (by first | (simp; done) | (simp; omega) | omega); (have z7_1 : w.heap.size + 1 < w7.heap.size := by omega); have c7_1 : ∀ o, w7.cell? ⟨w.heap.size + 1, o, none⟩ = _ := fun o => hc _ o (by first | (simp; done) | (simp; omega) | omega); have g7_1 : ∀ o, w7.frozen? ⟨w.heap.size + 1, o, none⟩ = _ := fun o => hf _ o (by first | (simp; done) | (simp; omega) | omega); (have z7_2 : w.heap.size + 1 + 1 < w7.heap.size := by omega); have c7_2 : ∀ o, w7.cell? ⟨w.heap.size + 1 + 1, o, none⟩ = _ := fun o => hc _ o (by first | (simp; done) | (simp; omega) | omega); have g7_2 : ∀ o, w7.frozen? ⟨w.heap.size + 1 + 1, o, none⟩ = _ := fun o => hf _ o (by first | (simp; done) | (simp; omega) | omega); (have z7_3 : w2.heap.size < w7.heap.size := by omega); have c7_3 : ∀ o, w7.cell? ⟨w2.heap.size, o, none⟩ = _ := fun o => hc _ o (by first | (simp; done) | (simp; omega) | omega); have g7_3 : ∀ o, w7.frozen? ⟨w2.heap.size, o, none⟩ = _ := fun o => hf _ o (by first | (simp; done) | (simp; omega) | omega); (have z7_4 : w3.heap.size < w7.heap.size := by omega); have c7_4 : ∀ o, w7.cell? ⟨w3.heap.size, o, none⟩ = _ := fun o => hc _ o (by first | (simp; done) | (simp; omega) | omega); have g7_4 : ∀ o, w7.frozen? ⟨w3.heap.size, o, none⟩ = _ := fun o => hf _ o (by first | (simp; done) | (simp; omega) | omega); clear hb hz hc hf; clear C4))
  (first | (refine hK.out _ _ ?_ (fun hHeld => ?_)) | (go_wp2_with fail; refine hK.out _ _ ?_ (fun hHeld => ?_)))
  · (try dsimp only)
    simp (maxDischargeDepth := 16) [*, World.cell?_alloc_some, World.cell?_setCell_far]
  clear hK K
  (try simp only [Act.put, List.setIfInBounds_toArray, List.set_cons_zero, List.set_cons_succ])
  refine wpAnyH_take (i := 18) (oi := ⟨_, _, _, _, _, _⟩) (v := ?_) rfl (by kernel_rfl) (by kernel_rfl) (by kernel_rfl) (fun _ _ _ h => h) (Or.inl ⟨rfl, ?_⟩) hHeld ?_
  rotate_left
  · (intro w hSw)
    (try dsimp only at hSw)
    (first | (go_simp; done) | (go_simp; with_reducible rfl))
  (try simp only [Act.put, List.setIfInBounds_toArray, List.set_cons_zero, List.set_cons_succ])
  refine wpAnyH_take (i := 19) (oi := ⟨_, _, _, _, _, _⟩) (v := ?_) rfl (by kernel_rfl) (by kernel_rfl) (by kernel_rfl) (fun _ _ _ h => h) (Or.inl ⟨rfl, ?_⟩) hHeld ?_
  rotate_left
  · (intro w hSw)
    (try dsimp only at hSw)
    (first | (go_simp; done) | (go_simp; with_reducible rfl))
  (try simp only [Act.put, List.setIfInBounds_toArray, List.set_cons_zero, List.set_cons_succ])
  refine wpAnyH_take (i := 20) (oi := ⟨_, _, _, _, _, _⟩) (v := ?_) rfl (by kernel_rfl) (by kernel_rfl) (by kernel_rfl) (fun _ _ _ h => h) (Or.inl ⟨rfl, ?_⟩) hHeld ?_
  rotate_left
  · (intro w hSw)
    (try dsimp only at hSw)
    (first | (go_simp; done) | (go_simp; with_reducible rfl))
  (try simp only [Act.put, List.setIfInBounds_toArray, List.set_cons_zero, List.set_cons_succ])
  refine wpAnyH_take (i := 21) (oi := ⟨_, _, _, _, _, _⟩) (v := ?_) rfl (by kernel_rfl) (by kernel_rfl) (by kernel_rfl) (fun _ _ _ h => h) (Or.inl ⟨rfl, ?_⟩) hHeld ?_
  rotate_left
  · (intro w hSw)
    (try dsimp only at hSw)
    (first | (go_simp; done) | (go_simp; with_reducible rfl))
  (try simp only [Act.put, List.setIfInBounds_toArray, List.set_cons_zero, List.set_cons_succ])
  refine wpAnyH_take (i := 22) (oi := ⟨_, _, _, _, _, _⟩) (v := ?_) rfl (by kernel_rfl) (by kernel_rfl) (by kernel_rfl) (fun _ _ _ h => h) (Or.inl ⟨rfl, ?_⟩) hHeld ?_
  rotate_left
  · (intro w hSw)
    (try dsimp only at hSw)
    (first | (go_simp; done) | (go_simp; with_reducible rfl))
  (try simp only [Act.put, List.setIfInBounds_toArray, List.set_cons_zero, List.set_cons_succ])
  refine wpAnyH_take (i := 23) (oi := ⟨_, _, _, _, _, _⟩) (v := ?_) rfl (by kernel_rfl) (by kernel_rfl) (by kernel_rfl) (fun _ _ _ h => h) (Or.inl ⟨rfl, ?_⟩) hHeld ?_
  rotate_left
  · (intro w hSw)
    (try dsimp only at hSw)
    (first | (go_simp; done) | (go_simp; with_reducible rfl))
  (try simp only [Act.put, List.setIfInBounds_toArray, List.set_cons_zero, List.set_cons_succ])
  refine wpAnyH_take (i := 25) (oi := ⟨_, _, _, _, _, _⟩) (v := ?_) rfl (by kernel_rfl) (by kernel_rfl) (by kernel_rfl) (fun _ _ _ h => h) (Or.inl ⟨rfl, ?_⟩) hHeld ?_
  rotate_left
  · (intro w hSw)
    (try dsimp only at hSw)
    (first | (go_simp; done) | (go_simp; with_reducible rfl))
  (try simp only [Act.put, List.setIfInBounds_toArray, List.set_cons_zero, List.set_cons_succ])
  refine wpAnyH_ready (rs := [24]) (by kernel_rfl) (by simp) ?_
  refine AllReadyH.cons (o := ⟨_, _, _, _, _, _⟩) rfl (fun K hK => ?_) AllReadyH.nil
  go_simp
  (first | (go_at_call 11; refine (C5 _).mono ?_; rintro e w8 ⟨rfl, hb⟩; have HB : Below w.heap.size w w8 := below_then (by (repeat (first | (with_reducible exact HB) | (with_reducible exact Below.refl _ _) | (with_reducible refine below_set ?_ (by (try dsimp only); omega) _) | (with_reducible apply below_drew) | (with_reducible apply below_draws) | (with_reducible apply below_alloc)))) hb; obtain ⟨hc, hf⟩ := bcell hb; have hz := hb.size; (try simp at hz); (have z8_0 : w.heap.size < w8.heap.size := by omega); have c8_0 : ∀ o, w8.cell? ⟨w.heap.size, o, none⟩ = _ := fun o => hc _ o (by first | (simp; done) | (simp; omega) | omega); have g8_0 : ∀ o, w8.frozen? ⟨w.heap.size, o, none⟩ = _ := fun o => hf _ o (by first | (simp; done) | (simp; omega) | omega); (have z8_1 : w.heap.size + 1 < w8.heap.size := by omega); have c8_1 : ∀ o, w8.cell? ⟨w.heap.size + 1, o, none⟩ = _ := fun o => hc _ o (by first | (simp; done) | (simp; omega) | omega); have g8_1 : ∀ o, w8.frozen? ⟨w.heap.size + 1, o, none⟩ = _ := fun o => hf _ o (by first | (simp; done) | (simp; omega) | omega); (have z8_2 : w.heap.size + 1 + 1 < w8.heap.size := by omega); have c8_2 : ∀ o, w8.cell? ⟨w.heap.size + 1 + 1, o, none⟩ = _ := fun o => hc _ o (by first | (simp; done) | (simp; omega) | omega); have g8_2 : ∀ o, w8.frozen? ⟨w.heap.size + 1 + 1, o, none⟩ = _ := fun o => hf _ o (by first | (simp; done) | (simp; omega) | omega); (have z8_3 : w2.heap.size < w8.heap.size := by omega); have c8_3 : ∀ o, w8.cell? ⟨w2.heap.size, o, none⟩ = _ := fun o => hc _ o (by first | (simp; done) | (simp; omega) | omega); have g8_3 : ∀ o, w8.frozen? ⟨w2.heap.size, o, none⟩ = _ := fun o => hf _ o (by first | (simp; done) | (simp; omega) | omega); (have z8_4 : w3.heap.size < w8.heap.size := by omega); have c8_4 : ∀ o, w8.cell? ⟨w3.heap.size, o, none⟩ = _ := fun o => hc _ o (by first | (simp; done) | (simp; omega) | omega); have g8_4 : ∀ o, w8.frozen? ⟨w3.heap.size, o, none⟩ = _ := fun o => hf _ o (by first | (simp; done) | (simp; omega) | omega); clear hb hz hc hf))
  (first | (refine hK.out _ _ ?_ (fun hHeld => ?_)) | (go_wp2_with fail; refine hK.out _ _ ?_ (fun hHeld => ?_)))
  · (try dsimp only)
    simp (maxDischargeDepth := 16) [*, World.cell?_alloc_some, World.cell?_setCell_far]
  clear hK K
  (try simp only [Act.put, List.setIfInBounds_toArray, List.set_cons_zero, List.set_cons_succ])
  refine wpAnyH_take (i := 26) (oi := ⟨_, _, _, _, _, _⟩) (v := ?_) rfl (by kernel_rfl) (by kernel_rfl) (by kernel_rfl) (fun _ _ _ h => h) (Or.inl ⟨rfl, ?_⟩) hHeld ?_
  rotate_left
  · (intro w hSw)
    (try dsimp only at hSw)
    (first | (go_simp; done) | (go_simp; with_reducible rfl))
  (try simp only [Act.put, List.setIfInBounds_toArray, List.set_cons_zero, List.set_cons_succ])
  refine wpAnyH_take (i := 27) (oi := ⟨_, _, _, _, _, _⟩) (v := ?_) rfl (by kernel_rfl) (by kernel_rfl) (by kernel_rfl) (fun _ _ _ h => h) (Or.inl ⟨rfl, ?_⟩) hHeld ?_
  rotate_left
  · (intro w hSw)
    (try dsimp only at hSw)
    (first | (go_simp; done) | (go_simp; with_reducible rfl))
  (try simp only [Act.put, List.setIfInBounds_toArray, List.set_cons_zero, List.set_cons_succ])
  refine wpAnyH_done (by kernel_rfl) ?_ _
  refine NoPanic.normal ?_
  go_upto_region 7 with fail
  refine named (P := fun W7 => Code.wp _ _ _ _ W7) (fun W7 => Seven W7 (w.heap.size) x.k x.t x.i x.l x.m (x.a : Nat) (x.b : Nat) ∧ Seven W7 (w.heap.size + 1) y.k y.t y.i y.l y.m (y.a : Nat) (y.b : Nat) ∧ Seven W7 (w.heap.size + 1 + 1) z.k z.t z.i z.l z.m (z.a : Nat) (z.b : Nat) ∧ Seven W7 (w2.heap.size) U.k U.t U.i U.l U.m (U.a : Nat) (U.b : Nat) ∧ Seven W7 (w3.heap.size) V.k V.t V.i V.l V.m (V.a : Nat) (V.b : Nat) ∧ Seven W7 (w8.heap.size) 0 0 0 0 false 0 0 ∧ w.heap.size < W7.heap.size ∧ w.heap.size + 1 < W7.heap.size ∧ w.heap.size + 1 + 1 < W7.heap.size ∧ w2.heap.size < W7.heap.size ∧ w3.heap.size < W7.heap.size ∧ w8.heap.size < W7.heap.size ∧ Below w.heap.size w W7) ⟨⟨(by first | (with_reducible assumption) | (go_simp; done) | (simp (maxDischargeDepth := 16) [*]; done)), (by first | (with_reducible assumption) | (go_simp; done) | (simp (maxDischargeDepth := 16) [*]; done)), (by first | (with_reducible assumption) | (go_simp; done) | (simp (maxDischargeDepth := 16) [*]; done)), (by first | (with_reducible assumption) | (go_simp; done) | (simp (maxDischargeDepth := 16) [*]; done)), (by first | (with_reducible assumption) | (go_simp; done) | (simp (maxDischargeDepth := 16) [*]; done)), (by first | (with_reducible assumption) | (go_simp; done) | (simp (maxDischargeDepth := 16) [*]; done)), (by first | (with_reducible assumption) | (go_simp; done) | (simp (maxDischargeDepth := 16) [*]; done))⟩, ⟨(by first | (with_reducible assumption) | (go_simp; done) | (simp (maxDischargeDepth := 16) [*]; done)), (by first | (with_reducible assumption) | (go_simp; done) | (simp (maxDischargeDepth := 16) [*]; done)), (by first | (with_reducible assumption) | (go_simp; done) | (simp (maxDischargeDepth := 16) [*]; done)), (by first | (with_reducible assumption) | (go_simp; done) | (simp (maxDischargeDepth := 16) [*]; done)), (by first | (with_reducible assumption) | (go_simp; done) | (simp (maxDischargeDepth := 16) [*]; done)), (by first | (with_reducible assumption) | (go_simp; done) | (simp (maxDischargeDepth := 16) [*]; done)), (by first | (with_reducible assumption) | (go_simp; done) | (simp (maxDischargeDepth := 16) [*]; done))⟩, ⟨(by first | (with_reducible assumption) | (go_simp; done) | (simp (maxDischargeDepth := 16) [*]; done)), (by first | (with_reducible assumption) | (go_simp; done) | (simp (maxDischargeDepth := 16) [*]; done)), (by first | (with_reducible assumption) | (go_simp; done) | (simp (maxDischargeDepth := 16) [*]; done)), (by first | (with_reducible assumption) | (go_simp; done) | (simp (maxDischargeDepth := 16) [*]; done)), (by first | (with_reducible assumption) | (go_simp; done) | (simp (maxDischargeDepth := 16) [*]; done)), (by first | (with_reducible assumption) | (go_simp; done) | (simp (maxDischargeDepth := 16) [*]; done)), (by first | (with_reducible assumption) | (go_simp; done) | (simp (maxDischargeDepth := 16) [*]; done))⟩, ⟨(by first | (with_reducible assumption) | (go_simp; done) | (simp (maxDischargeDepth := 16) [*]; done)), (by first | (with_reducible assumption) | (go_simp; done) | (simp (maxDischargeDepth := 16) [*]; done)), (by first | (with_reducible assumption) | (go_simp; done) | (simp (maxDischargeDepth := 16) [*]; done)), (by first | (with_reducible assumption) | (go_simp; done) | (simp (maxDischargeDepth := 16) [*]; done)), (by first | (with_reducible assumption) | (go_simp; done) | (simp (maxDischargeDepth := 16) [*]; done)), (by first | (with_reducible assumption) | (go_simp; done) | (simp (maxDischargeDepth := 16) [*]; done)), (by first | (with_reducible assumption) | (go_simp; done) | (simp (maxDischargeDepth := 16) [*]; done))⟩, ⟨(by first | (with_reducible assumption) | (go_simp; done) | (simp (maxDischargeDepth := 16) [*]; done)), (by first | (with_reducible assumption) | (go_simp; done) | (simp (maxDischargeDepth := 16) [*]; done)), (by first | (with_reducible assumption) | (go_simp; done) | (simp (maxDischargeDepth := 16) [*]; done)), (by first | (with_reducible assumption) | (go_simp; done) | (simp (maxDischargeDepth := 16) [*]; done)), (by first | (with_reducible assumption) | (go_simp; done) | (simp (maxDischargeDepth := 16) [*]; done)), (by first | (with_reducible assumption) | (go_simp; done) | (simp (maxDischargeDepth := 16) [*]; done)), (by first | (with_reducible assumption) | (go_simp; done) | (simp (maxDischargeDepth := 16) [*]; done))⟩, ⟨(by first | (with_reducible assumption) | (go_simp; done) | (simp (maxDischargeDepth := 16) [*]; done)), (by first | (with_reducible assumption) | (go_simp; done) | (simp (maxDischargeDepth := 16) [*]; done)), (by first | (with_reducible assumption) | (go_simp; done) | (simp (maxDischargeDepth := 16) [*]; done)), (by first | (with_reducible assumption) | (go_simp; done) | (simp (maxDischargeDepth := 16) [*]; done)), (by first | (with_reducible assumption) | (go_simp; done) | (simp (maxDischargeDepth := 16) [*]; done)), (by first | (with_reducible assumption) | (go_simp; done) | (simp (maxDischargeDepth := 16) [*]; done)), (by first | (with_reducible assumption) | (go_simp; done) | (simp (maxDischargeDepth := 16) [*]; done))⟩, (by first | omega | (simp; done) | (simp; omega)), (by first | omega | (simp; done) | (simp; omega)), (by first | omega | (simp; done) | (simp; omega)), (by first | omega | (simp; done) | (simp; omega)), (by first | omega | (simp; done) | (simp; omega)), (by first | omega | (simp; done) | (simp; omega)), (by (repeat (first | (with_reducible exact HB) | (with_reducible exact Below.refl _ _) | (with_reducible refine below_set ?_ (by (try dsimp only); omega) _) | (with_reducible apply below_drew) | (with_reducible apply below_draws) | (with_reducible apply below_alloc))))⟩ ?_
  rintro W7 ⟨⟨o00, o01, o02, o03, o04, o05, o06⟩, ⟨o10, o11, o12, o13, o14, o15, o16⟩, ⟨o20, o21, o22, o23, o24, o25, o26⟩, ⟨o30, o31, o32, o33, o34, o35, o36⟩, ⟨o40, o41, o42, o43, o44, o45, o46⟩, ⟨o50, o51, o52, o53, o54, o55, o56⟩, hs0, hs1, hs2, hs3, hs4, hs5, HB⟩
  clear C5
  refine wp_region_noPanic ?_
  refine wp_region_held_drew (S := (fun w' => w'.cell? ⟨w.heap.size, 0, none⟩ = some (.int .i64 x.k) ∧ w'.cell? ⟨w.heap.size, 1, none⟩ = some (.int .i64 x.t) ∧ w'.cell? ⟨w.heap.size, 2, none⟩ = some (.int .i64 x.i) ∧ w'.cell? ⟨w.heap.size, 3, none⟩ = some (.int .i64 x.l) ∧ w'.cell? ⟨w.heap.size, 4, none⟩ = some (.bool x.m) ∧ w'.cell? ⟨w.heap.size, 5, none⟩ = some (.int .u64 (x.a : Nat)) ∧ w'.cell? ⟨w.heap.size, 6, none⟩ = some (.int .u64 (x.b : Nat)) ∧ w'.cell? ⟨w.heap.size + 1 + 1, 0, none⟩ = some (.int .i64 z.k) ∧ w'.cell? ⟨w.heap.size + 1 + 1, 1, none⟩ = some (.int .i64 z.t) ∧ w'.cell? ⟨w.heap.size + 1 + 1, 2, none⟩ = some (.int .i64 z.i) ∧ w'.cell? ⟨w.heap.size + 1 + 1, 3, none⟩ = some (.int .i64 z.l) ∧ w'.cell? ⟨w.heap.size + 1 + 1, 4, none⟩ = some (.bool z.m) ∧ w'.cell? ⟨w.heap.size + 1 + 1, 5, none⟩ = some (.int .u64 (z.a : Nat)) ∧ w'.cell? ⟨w.heap.size + 1 + 1, 6, none⟩ = some (.int .u64 (z.b : Nat)) ∧ w'.cell? ⟨w2.heap.size, 0, none⟩ = some (.int .i64 U.k) ∧ w'.cell? ⟨w2.heap.size, 1, none⟩ = some (.int .i64 U.t) ∧ w'.cell? ⟨w2.heap.size, 2, none⟩ = some (.int .i64 U.i) ∧ w'.cell? ⟨w2.heap.size, 3, none⟩ = some (.int .i64 U.l) ∧ w'.cell? ⟨w2.heap.size, 4, none⟩ = some (.bool U.m) ∧ w'.cell? ⟨w2.heap.size, 5, none⟩ = some (.int .u64 (U.a : Nat)) ∧ w'.cell? ⟨w2.heap.size, 6, none⟩ = some (.int .u64 (U.b : Nat)) ∧ w'.cell? ⟨w3.heap.size, 0, none⟩ = some (.int .i64 V.k) ∧ w'.cell? ⟨w3.heap.size, 1, none⟩ = some (.int .i64 V.t) ∧ w'.cell? ⟨w3.heap.size, 2, none⟩ = some (.int .i64 V.i) ∧ w'.cell? ⟨w3.heap.size, 3, none⟩ = some (.int .i64 V.l) ∧ w'.cell? ⟨w3.heap.size, 4, none⟩ = some (.bool V.m) ∧ w'.cell? ⟨w3.heap.size, 5, none⟩ = some (.int .u64 (V.a : Nat)) ∧ w'.cell? ⟨w3.heap.size, 6, none⟩ = some (.int .u64 (V.b : Nat)) ∧ w'.cell? ⟨w8.heap.size, 0, none⟩ = some (.int .i64 0) ∧ w'.cell? ⟨w8.heap.size, 1, none⟩ = some (.int .i64 0) ∧ w'.cell? ⟨w8.heap.size, 2, none⟩ = some (.int .i64 0) ∧ w'.cell? ⟨w8.heap.size, 3, none⟩ = some (.int .i64 0) ∧ w'.cell? ⟨w8.heap.size, 4, none⟩ = some (.bool false) ∧ w'.cell? ⟨w8.heap.size, 5, none⟩ = some (.int .u64 0) ∧ w'.cell? ⟨w8.heap.size, 6, none⟩ = some (.int .u64 0))) (by kernel_rfl) ?_ (fun hHeld => ?_)
  · (try dsimp only)
    simp (maxDischargeDepth := 16) [*, World.cell?_alloc_some, World.cell?_setCell_far]
  refine wpAnyH_take (i := 0) (oi := ⟨_, _, _, _, _, _⟩) (v := ?_) rfl (by kernel_rfl) (by kernel_rfl) (by kernel_rfl) (fun _ _ _ h => h) (Or.inl ⟨rfl, ?_⟩) hHeld ?_
  rotate_left
  · (intro w hSw)
    (try dsimp only at hSw)
    (first | (go_simp; done) | (go_simp; with_reducible rfl))
  (try simp only [Act.put, List.setIfInBounds_toArray, List.set_cons_zero, List.set_cons_succ])
  refine wpAnyH_take (i := 1) (oi := ⟨_, _, _, _, _, _⟩) (v := ?_) rfl (by kernel_rfl) (by kernel_rfl) (by kernel_rfl) (fun _ _ _ h => h) (Or.inl ⟨rfl, ?_⟩) hHeld ?_
  rotate_left
  · (intro w hSw)
    (try dsimp only at hSw)
    (first | (go_simp; done) | (go_simp; with_reducible rfl))
  (try simp only [Act.put, List.setIfInBounds_toArray, List.set_cons_zero, List.set_cons_succ])
  refine wpAnyH_take (i := 2) (oi := ⟨_, _, _, _, _, _⟩) (v := ?_) rfl (by kernel_rfl) (by kernel_rfl) (by kernel_rfl) (fun _ _ _ h => h) (Or.inl ⟨rfl, ?_⟩) hHeld ?_
  rotate_left
  · (intro w hSw)
    (try dsimp only at hSw)
    (first | (go_simp; done) | (go_simp; with_reducible rfl))
  (try simp only [Act.put, List.setIfInBounds_toArray, List.set_cons_zero, List.set_cons_succ])
  refine wpAnyH_take (i := 3) (oi := ⟨_, _, _, _, _, _⟩) (v := ?_) rfl (by kernel_rfl) (by kernel_rfl) (by kernel_rfl) (fun _ _ _ h => h) (Or.inl ⟨rfl, ?_⟩) hHeld ?_
  rotate_left
  · (intro w hSw)
    (try dsimp only at hSw)
    (first | (go_simp; done) | (go_simp; with_reducible rfl))
  (try simp only [Act.put, List.setIfInBounds_toArray, List.set_cons_zero, List.set_cons_succ])
  refine wpAnyH_take (i := 4) (oi := ⟨_, _, _, _, _, _⟩) (v := ?_) rfl (by kernel_rfl) (by kernel_rfl) (by kernel_rfl) (fun _ _ _ h => h) (Or.inl ⟨rfl, ?_⟩) hHeld ?_
  rotate_left
  · (intro w hSw)
    (try dsimp only at hSw)
    (first | (go_simp; done) | (go_simp; with_reducible rfl))
  (try simp only [Act.put, List.setIfInBounds_toArray, List.set_cons_zero, List.set_cons_succ])
  refine wpAnyH_take (i := 5) (oi := ⟨_, _, _, _, _, _⟩) (v := ?_) rfl (by kernel_rfl) (by kernel_rfl) (by kernel_rfl) (fun _ _ _ h => h) (Or.inl ⟨rfl, ?_⟩) hHeld ?_
  rotate_left
  · (intro w hSw)
    (try dsimp only at hSw)
    (first | (go_simp; done) | (go_simp; with_reducible rfl))
  (try simp only [Act.put, List.setIfInBounds_toArray, List.set_cons_zero, List.set_cons_succ])
  refine wpAnyH_take (i := 6) (oi := ⟨_, _, _, _, _, _⟩) (v := ?_) rfl (by kernel_rfl) (by kernel_rfl) (by kernel_rfl) (fun _ _ _ h => h) (Or.inl ⟨rfl, ?_⟩) hHeld ?_
  rotate_left
  · (intro w hSw)
    (try dsimp only at hSw)
    (first | (go_simp; done) | (go_simp; with_reducible rfl))
  (try simp only [Act.put, List.setIfInBounds_toArray, List.set_cons_zero, List.set_cons_succ])
  refine wpAnyH_take (i := 7) (oi := ⟨_, _, _, _, _, _⟩) (v := ?_) rfl (by kernel_rfl) (by kernel_rfl) (by kernel_rfl) (fun _ _ _ h => h) (Or.inl ⟨rfl, ?_⟩) hHeld ?_
  rotate_left
  · (intro w hSw)
    (try dsimp only at hSw)
    (first | (go_simp; done) | (go_simp; with_reducible rfl))
  (try simp only [Act.put, List.setIfInBounds_toArray, List.set_cons_zero, List.set_cons_succ])
  refine wpAnyH_take (i := 8) (oi := ⟨_, _, _, _, _, _⟩) (v := ?_) rfl (by kernel_rfl) (by kernel_rfl) (by kernel_rfl) (fun _ _ _ h => h) (Or.inl ⟨rfl, ?_⟩) hHeld ?_
  rotate_left
  · (intro w hSw)
    (try dsimp only at hSw)
    (first | (go_simp; done) | (go_simp; with_reducible rfl))
  (try simp only [Act.put, List.setIfInBounds_toArray, List.set_cons_zero, List.set_cons_succ])
  refine wpAnyH_take (i := 9) (oi := ⟨_, _, _, _, _, _⟩) (v := ?_) rfl (by kernel_rfl) (by kernel_rfl) (by kernel_rfl) (fun _ _ _ h => h) (Or.inl ⟨rfl, ?_⟩) hHeld ?_
  rotate_left
  · (intro w hSw)
    (try dsimp only at hSw)
    (first | (go_simp; done) | (go_simp; with_reducible rfl))
  (try simp only [Act.put, List.setIfInBounds_toArray, List.set_cons_zero, List.set_cons_succ])
  refine wpAnyH_take (i := 10) (oi := ⟨_, _, _, _, _, _⟩) (v := ?_) rfl (by kernel_rfl) (by kernel_rfl) (by kernel_rfl) (fun _ _ _ h => h) (Or.inl ⟨rfl, ?_⟩) hHeld ?_
  rotate_left
  · (intro w hSw)
    (try dsimp only at hSw)
    (first | (go_simp; done) | (go_simp; with_reducible rfl))
  (try simp only [Act.put, List.setIfInBounds_toArray, List.set_cons_zero, List.set_cons_succ])
  refine wpAnyH_take (i := 12) (oi := ⟨_, _, _, _, _, _⟩) (v := ?_) rfl (by kernel_rfl) (by kernel_rfl) (by kernel_rfl) (fun _ _ _ h => h) (Or.inl ⟨rfl, ?_⟩) hHeld ?_
  rotate_left
  · (intro w hSw)
    (try dsimp only at hSw)
    (first | (go_simp; done) | (go_simp; with_reducible rfl))
  (try simp only [Act.put, List.setIfInBounds_toArray, List.set_cons_zero, List.set_cons_succ])
  refine wpAnyH_ready (rs := [11]) (by kernel_rfl) (by simp) ?_
  refine AllReadyH.cons (o := ⟨_, _, _, _, _, _⟩) rfl (fun K hK => ?_) AllReadyH.nil
  go_simp
  (first | (go_at_call 11; refine (C6 _).mono ?_; rintro e w9 ⟨rfl, hb⟩; have HB : Below w.heap.size w w9 := below_then (by (repeat (first | (with_reducible exact HB) | (with_reducible exact Below.refl _ _) | (with_reducible refine below_set ?_ (by (try dsimp only); omega) _) | (with_reducible apply below_drew) | (with_reducible apply below_draws) | (with_reducible apply below_alloc)))) hb; obtain ⟨hc, hf⟩ := bcell hb; have hz := hb.size; (try simp at hz); (have z9_0 : w.heap.size < w9.heap.size := by omega); have c9_0 : ∀ o, w9.cell? ⟨w.heap.size, o, none⟩ = _ := fun o => hc _ o (by first | (simp; done) | (simp; omega) | omega); have g9_0 : ∀ o, w9.frozen? ⟨w.heap.size, o, none⟩ = _ := fun o => hf _ o (by first | (simp; done) | (simp; omega) | omega); (have z9_1 : w.heap.size + 1 < w9.heap.size := by omega); have c9_1 : ∀ o, w9.cell? ⟨w.heap.size + 1, o, none⟩ = _ := fun o => hc _ o (by first | (simp; done) | (simp; omega) | omega); have g9_1 : ∀ o, w9.frozen? ⟨w.heap.size + 1, o, none⟩ = _ := fun o => hf _ o (by first | (simp; done) | (simp; omega) | omega); (have z9_2 : w.heap.size + 1 + 1 < w9.heap.size := by omega); have c9_2 : ∀ o, w9.cell? ⟨w.heap.size + 1 + 1, o, none⟩ = _ := fun o => hc _ o (by first | (simp; done) | (simp; omega) | omega); have g9_2 : ∀ o, w9.frozen? ⟨w.heap.size + 1 + 1, o, none⟩ = _ := fun o => hf _ o (by first | (simp; done) | (simp; omega) | omega); (have z9_3 : w2.heap.size < w9.heap.size := by omega); have c9_3 : ∀ o, w9.cell? ⟨w2.heap.size, o, none⟩ = _ := fun o => hc _ o (by first | (simp; done) | (simp; omega) | omega); have g9_3 : ∀ o, w9.frozen? ⟨w2.heap.size, o, none⟩ = _ := fun o => hf _ o (by first | (simp; done) | (simp; omega) | omega); (have z9_4 : w3.heap.size < w9.heap.size := by omega); have c9_4 : ∀ o, w9.cell? ⟨w3.heap.size, o, none⟩ = _ := fun o => hc _ o (by first | (simp; done) | (simp; omega) | omega); have g9_4 : ∀ o, w9.frozen? ⟨w3.heap.size, o, none⟩ = _ := fun o => hf _ o (by first | (simp; done) | (simp; omega) | omega); (have z9_5 : w8.heap.size < w9.heap.size := by omega); have c9_5 : ∀ o, w9.cell? ⟨w8.heap.size, o, none⟩ = _ := fun o => hc _ o (by first | (simp; done) | (simp; omega) | omega); have g9_5 : ∀ o, w9.frozen? ⟨w8.heap.size, o, none⟩ = _ := fun o => hf _ o (by first | (simp; done) | (simp; omega) | omega); clear hb hz hc hf))
  (first | (refine hK.out _ _ ?_ (fun hHeld => ?_)) | (go_wp2_with fail; refine hK.out _ _ ?_ (fun hHeld => ?_)))
  · (try dsimp only)
    simp (maxDischargeDepth := 16) [*, World.cell?_alloc_some, World.cell?_setCell_far]
  clear hK K
  (try simp only [Act.put, List.setIfInBounds_toArray, List.set_cons_zero, List.set_cons_succ])
  refine wpAnyH_take (i := 13) (oi := ⟨_, _, _, _, _, _⟩) (v := ?_) rfl (by kernel_rfl) (by kernel_rfl) (by kernel_rfl) (fun _ _ _ h => h) (Or.inl ⟨rfl, ?_⟩) hHeld ?_
  rotate_left
  · (intro w hSw)
    (try dsimp only at hSw)
    (first | (go_simp; done) | (go_simp; with_reducible rfl))
  (try simp only [Act.put, List.setIfInBounds_toArray, List.set_cons_zero, List.set_cons_succ])
  refine wpAnyH_take (i := 14) (oi := ⟨_, _, _, _, _, _⟩) (v := ?_) rfl (by kernel_rfl) (by kernel_rfl) (by kernel_rfl) (fun _ _ _ h => h) (Or.inl ⟨rfl, ?_⟩) hHeld ?_
  rotate_left
  · (intro w hSw)
    (try dsimp only at hSw)
    (first | (go_simp; done) | (go_simp; with_reducible rfl))
  (try simp only [Act.put, List.setIfInBounds_toArray, List.set_cons_zero, List.set_cons_succ])
  refine wpAnyH_done (by kernel_rfl) ?_ _
  refine NoPanic.normal ?_
  clear C6
  go_upto_region 9 with fail
  refine named (P := fun W9 => Code.wp _ _ _ _ W9) (fun W9 => Seven W9 (w.heap.size) x.k x.t x.i x.l x.m (x.a : Nat) (x.b : Nat) ∧ Seven W9 (w.heap.size + 1) y.k y.t y.i y.l y.m (y.a : Nat) (y.b : Nat) ∧ Seven W9 (w.heap.size + 1 + 1) z.k z.t z.i z.l z.m (z.a : Nat) (z.b : Nat) ∧ Seven W9 (w2.heap.size) U.k U.t U.i U.l U.m (U.a : Nat) (U.b : Nat) ∧ Seven W9 (w3.heap.size) V.k V.t V.i V.l V.m (V.a : Nat) (V.b : Nat) ∧ w.heap.size < W9.heap.size ∧ w.heap.size + 1 < W9.heap.size ∧ w.heap.size + 1 + 1 < W9.heap.size ∧ w2.heap.size < W9.heap.size ∧ w3.heap.size < W9.heap.size ∧ w8.heap.size < W9.heap.size ∧ Below w.heap.size w W9) ⟨⟨(by first | (with_reducible assumption) | (go_simp; done) | (simp (maxDischargeDepth := 16) [*]; done)), (by first | (with_reducible assumption) | (go_simp; done) | (simp (maxDischargeDepth := 16) [*]; done)), (by first | (with_reducible assumption) | (go_simp; done) | (simp (maxDischargeDepth := 16) [*]; done)), (by first | (with_reducible assumption) | (go_simp; done) | (simp (maxDischargeDepth := 16) [*]; done)), (by first | (with_reducible assumption) | (go_simp; done) | (simp (maxDischargeDepth := 16) [*]; done)), (by first | (with_reducible assumption) | (go_simp; done) | (simp (maxDischargeDepth := 16) [*]; done)), (by first | (with_reducible assumption) | (go_simp; done) | (simp (maxDischargeDepth := 16) [*]; done))⟩, ⟨(by first | (with_reducible assumption) | (go_simp; done) | (simp (maxDischargeDepth := 16) [*]; done)), (by first | (with_reducible assumption) | (go_simp; done) | (simp (maxDischargeDepth := 16) [*]; done)), (by first | (with_reducible assumption) | (go_simp; done) | (simp (maxDischargeDepth := 16) [*]; done)), (by first | (with_reducible assumption) | (go_simp; done) | (simp (maxDischargeDepth := 16) [*]; done)), (by first | (with_reducible assumption) | (go_simp; done) | (simp (maxDischargeDepth := 16) [*]; done)), (by first | (with_reducible assumption) | (go_simp; done) | (simp (maxDischargeDepth := 16) [*]; done)), (by first | (with_reducible assumption) | (go_simp; done) | (simp (maxDischargeDepth := 16) [*]; done))⟩, ⟨(by first | (with_reducible assumption) | (go_simp; done) | (simp (maxDischargeDepth := 16) [*]; done)), (by first | (with_reducible assumption) | (go_simp; done) | (simp (maxDischargeDepth := 16) [*]; done)), (by first | (with_reducible assumption) | (go_simp; done) | (simp (maxDischargeDepth := 16) [*]; done)), (by first | (with_reducible assumption) | (go_simp; done) | (simp (maxDischargeDepth := 16) [*]; done)), (by first | (with_reducible assumption) | (go_simp; done) | (simp (maxDischargeDepth := 16) [*]; done)), (by first | (with_reducible assumption) | (go_simp; done) | (simp (maxDischargeDepth := 16) [*]; done)), (by first | (with_reducible assumption) | (go_simp; done) | (simp (maxDischargeDepth := 16) [*]; done))⟩, ⟨(by first | (with_reducible assumption) | (go_simp; done) | (simp (maxDischargeDepth := 16) [*]; done)), (by first | (with_reducible assumption) | (go_simp; done) | (simp (maxDischargeDepth := 16) [*]; done)), (by first | (with_reducible assumption) | (go_simp; done) | (simp (maxDischargeDepth := 16) [*]; done)), (by first | (with_reducible assumption) | (go_simp; done) | (simp (maxDischargeDepth := 16) [*]; done)), (by first | (with_reducible assumption) | (go_simp; done) | (simp (maxDischargeDepth := 16) [*]; done)), (by first | (with_reducible assumption) | (go_simp; done) | (simp (maxDischargeDepth := 16) [*]; done)), (by first | (with_reducible assumption) | (go_simp; done) | (simp (maxDischargeDepth := 16) [*]; done))⟩, ⟨(by first | (with_reducible assumption) | (go_simp; done) | (simp (maxDischargeDepth := 16) [*]; done)), (by first | (with_reducible assumption) | (go_simp; done) | (simp (maxDischargeDepth := 16) [*]; done)), (by first | (with_reducible assumption) | (go_simp; done) | (simp (maxDischargeDepth := 16) [*]; done)), (by first | (with_reducible assumption) | (go_simp; done) | (simp (maxDischargeDepth := 16) [*]; done)), (by first | (with_reducible assumption) | (go_simp; done) | (simp (maxDischargeDepth := 16) [*]; done)), (by first | (with_reducible assumption) | (go_simp; done) | (simp (maxDischargeDepth := 16) [*]; done)), (by first | (with_reducible assumption) | (go_simp; done) | (simp (maxDischargeDepth := 16) [*]; done))⟩, (by first | omega | (simp; done) | (simp; omega)), (by first | omega | (simp; done) | (simp; omega)), (by first | omega | (simp; done) | (simp; omega)), (by first | omega | (simp; done) | (simp; omega)), (by first | omega | (simp; done) | (simp; omega)), (by first | omega | (simp; done) | (simp; omega)), (by (repeat (first | (with_reducible exact HB) | (with_reducible exact Below.refl _ _) | (with_reducible refine below_set ?_ (by (try dsimp only); omega) _) | (with_reducible apply below_drew) | (with_reducible apply below_draws) | (with_reducible apply below_alloc))))⟩ ?_
  rintro W9 ⟨⟨o00, o01, o02, o03, o04, o05, o06⟩, ⟨o10, o11, o12, o13, o14, o15, o16⟩, ⟨o20, o21, o22, o23, o24, o25, o26⟩, ⟨o30, o31, o32, o33, o34, o35, o36⟩, ⟨o40, o41, o42, o43, o44, o45, o46⟩, hs0, hs1, hs2, hs3, hs4, hs5, HB⟩
  refine wp_region_noPanic ?_
  refine wp_region_held_drew (S := (fun w' => w'.cell? ⟨w.heap.size, 0, none⟩ = some (.int .i64 x.k) ∧ w'.cell? ⟨w.heap.size, 1, none⟩ = some (.int .i64 x.t) ∧ w'.cell? ⟨w.heap.size, 2, none⟩ = some (.int .i64 x.i) ∧ w'.cell? ⟨w.heap.size, 3, none⟩ = some (.int .i64 x.l) ∧ w'.cell? ⟨w.heap.size, 4, none⟩ = some (.bool x.m) ∧ w'.cell? ⟨w.heap.size, 5, none⟩ = some (.int .u64 (x.a : Nat)) ∧ w'.cell? ⟨w.heap.size, 6, none⟩ = some (.int .u64 (x.b : Nat)) ∧ w'.cell? ⟨w.heap.size + 1 + 1, 0, none⟩ = some (.int .i64 z.k) ∧ w'.cell? ⟨w.heap.size + 1 + 1, 1, none⟩ = some (.int .i64 z.t) ∧ w'.cell? ⟨w.heap.size + 1 + 1, 2, none⟩ = some (.int .i64 z.i) ∧ w'.cell? ⟨w.heap.size + 1 + 1, 3, none⟩ = some (.int .i64 z.l) ∧ w'.cell? ⟨w.heap.size + 1 + 1, 4, none⟩ = some (.bool z.m) ∧ w'.cell? ⟨w.heap.size + 1 + 1, 5, none⟩ = some (.int .u64 (z.a : Nat)) ∧ w'.cell? ⟨w.heap.size + 1 + 1, 6, none⟩ = some (.int .u64 (z.b : Nat)) ∧ w'.cell? ⟨w2.heap.size, 0, none⟩ = some (.int .i64 U.k) ∧ w'.cell? ⟨w2.heap.size, 1, none⟩ = some (.int .i64 U.t) ∧ w'.cell? ⟨w2.heap.size, 2, none⟩ = some (.int .i64 U.i) ∧ w'.cell? ⟨w2.heap.size, 3, none⟩ = some (.int .i64 U.l) ∧ w'.cell? ⟨w2.heap.size, 4, none⟩ = some (.bool U.m) ∧ w'.cell? ⟨w2.heap.size, 5, none⟩ = some (.int .u64 (U.a : Nat)) ∧ w'.cell? ⟨w2.heap.size, 6, none⟩ = some (.int .u64 (U.b : Nat)) ∧ w'.cell? ⟨w3.heap.size, 0, none⟩ = some (.int .i64 V.k) ∧ w'.cell? ⟨w3.heap.size, 1, none⟩ = some (.int .i64 V.t) ∧ w'.cell? ⟨w3.heap.size, 2, none⟩ = some (.int .i64 V.i) ∧ w'.cell? ⟨w3.heap.size, 3, none⟩ = some (.int .i64 V.l) ∧ w'.cell? ⟨w3.heap.size, 4, none⟩ = some (.bool V.m) ∧ w'.cell? ⟨w3.heap.size, 5, none⟩ = some (.int .u64 (V.a : Nat)) ∧ w'.cell? ⟨w3.heap.size, 6, none⟩ = some (.int .u64 (V.b : Nat)))) (by kernel_rfl) ?_ (fun hHeld => ?_)
  · (try dsimp only)
    simp (maxDischargeDepth := 16) [*, World.cell?_alloc_some, World.cell?_setCell_far]
  refine wpAnyH_take (i := 0) (oi := ⟨_, _, _, _, _, _⟩) (v := ?_) rfl (by kernel_rfl) (by kernel_rfl) (by kernel_rfl) (fun _ _ _ h => h) (Or.inl ⟨rfl, ?_⟩) hHeld ?_
  rotate_left
  · (intro w hSw)
    (try dsimp only at hSw)
    (first | (go_simp; done) | (go_simp; with_reducible rfl))
  (try simp only [Act.put, List.setIfInBounds_toArray, List.set_cons_zero, List.set_cons_succ])
  refine wpAnyH_take (i := 1) (oi := ⟨_, _, _, _, _, _⟩) (v := ?_) rfl (by kernel_rfl) (by kernel_rfl) (by kernel_rfl) (fun _ _ _ h => h) (Or.inl ⟨rfl, ?_⟩) hHeld ?_
  rotate_left
  · (intro w hSw)
    (try dsimp only at hSw)
    (first | (go_simp; done) | (go_simp; with_reducible rfl))
  (try simp only [Act.put, List.setIfInBounds_toArray, List.set_cons_zero, List.set_cons_succ])
  refine wpAnyH_take (i := 2) (oi := ⟨_, _, _, _, _, _⟩) (v := ?_) rfl (by kernel_rfl) (by kernel_rfl) (by kernel_rfl) (fun _ _ _ h => h) (Or.inl ⟨rfl, ?_⟩) hHeld ?_
  rotate_left
  · (intro w hSw)
    (try dsimp only at hSw)
    (first | (go_simp; done) | (go_simp; with_reducible rfl))
  (try simp only [Act.put, List.setIfInBounds_toArray, List.set_cons_zero, List.set_cons_succ])
  refine wpAnyH_take (i := 3) (oi := ⟨_, _, _, _, _, _⟩) (v := ?_) rfl (by kernel_rfl) (by kernel_rfl) (by kernel_rfl) (fun _ _ _ h => h) (Or.inl ⟨rfl, ?_⟩) hHeld ?_
  rotate_left
  · (intro w hSw)
    (try dsimp only at hSw)
    (first | (go_simp; done) | (go_simp; with_reducible rfl))
  (try simp only [Act.put, List.setIfInBounds_toArray, List.set_cons_zero, List.set_cons_succ])
  refine wpAnyH_take (i := 5) (oi := ⟨_, _, _, _, _, _⟩) (v := ?_) rfl (by kernel_rfl) (by kernel_rfl) (by kernel_rfl) (fun _ _ _ h => h) (Or.inl ⟨rfl, ?_⟩) hHeld ?_
  rotate_left
  · (intro w hSw)
    (try dsimp only at hSw)
    (first | (go_simp; done) | (go_simp; with_reducible rfl))
  (try simp only [Act.put, List.setIfInBounds_toArray, List.set_cons_zero, List.set_cons_succ])
  refine wpAnyH_take (i := 6) (oi := ⟨_, _, _, _, _, _⟩) (v := ?_) rfl (by kernel_rfl) (by kernel_rfl) (by kernel_rfl) (fun _ _ _ h => h) (Or.inl ⟨rfl, ?_⟩) hHeld ?_
  rotate_left
  · (intro w hSw)
    (try dsimp only at hSw)
    (first | (go_simp; done) | (go_simp; with_reducible rfl))
  (try simp only [Act.put, List.setIfInBounds_toArray, List.set_cons_zero, List.set_cons_succ])
  refine wpAnyH_ready (rs := [4]) (by kernel_rfl) (by simp) ?_
  refine AllReadyH.cons (o := ⟨_, _, _, _, _, _⟩) rfl (fun K hK => ?_) AllReadyH.nil
  go_simp
  (first | (go_at_call 11; refine (C7 _).mono ?_; rintro e w10 ⟨rfl, hb⟩; have HB : Below w.heap.size w w10 := below_then (by (repeat (first | (with_reducible exact HB) | (with_reducible exact Below.refl _ _) | (with_reducible refine below_set ?_ (by (try dsimp only); omega) _) | (with_reducible apply below_drew) | (with_reducible apply below_draws) | (with_reducible apply below_alloc)))) hb; obtain ⟨hc, hf⟩ := bcell hb; have hz := hb.size; (try simp at hz); (have z10_0 : w.heap.size < w10.heap.size := by omega); have c10_0 : ∀ o, w10.cell? ⟨w.heap.size, o, none⟩ = _ := fun o => hc _ o (by first | (simp; done) | (simp; omega) | omega); have g10_0 : ∀ o, w10.frozen? ⟨w.heap.size, o, none⟩ = _ := fun o => hf _ o (by first | (simp; done) | (simp; omega) | omega); (have z10_1 : w.heap.size + 1 < w10.heap.size := by omega); have c10_1 : ∀ o, w10.cell? ⟨w.heap.size + 1, o, none⟩ = _ := fun o => hc _ o (by first | (simp; done) | (simp; omega) | omega); have g10_1 : ∀ o, w10.frozen? ⟨w.heap.size + 1, o, none⟩ = _ := fun o => hf _ o (by first | (simp; done) | (simp; omega) | omega); (have z10_2 : w.heap.size + 1 + 1 < w10.heap.size := by omega); have c10_2 : ∀ o, w10.cell? ⟨w.heap.size + 1 + 1, o, none⟩ = _ := fun o => hc _ o (by first | (simp; done) | (simp; omega) | omega); have g10_2 : ∀ o, w10.frozen? ⟨w.heap.size + 1 + 1, o, none⟩ = _ := fun o => hf _ o (by first | (simp; done) | (simp; omega) | omega); (have z10_3 : w2.heap.size < w10.heap.size := by omega); have c10_3 : ∀ o, w10.cell? ⟨w2.heap.size, o, none⟩ = _ := fun o => hc _ o (by first | (simp; done) | (simp; omega) | omega); have g10_3 : ∀ o, w10.frozen? ⟨w2.heap.size, o, none⟩ = _ := fun o => hf _ o (by first | (simp; done) | (simp; omega) | omega); (have z10_4 : w3.heap.size < w10.heap.size := by omega); have c10_4 : ∀ o, w10.cell? ⟨w3.heap.size, o, none⟩ = _ := fun o => hc _ o (by first | (simp; done) | (simp; omega) | omega); have g10_4 : ∀ o, w10.frozen? ⟨w3.heap.size, o, none⟩ = _ := fun o => hf _ o (by first | (simp; done) | (simp; omega) | omega); (have z10_5 : w8.heap.size < w10.heap.size := by omega); have c10_5 : ∀ o, w10.cell? ⟨w8.heap.size, o, none⟩ = _ := fun o => hc _ o (by first | (simp; done) | (simp; omega) | omega); have g10_5 : ∀ o, w10.frozen? ⟨w8.heap.size, o, none⟩ = _ := fun o => hf _ o (by first | (simp; done) | (simp; omega) | omega); clear hb hz hc hf; clear C7))
  (first | (refine hK.out _ _ ?_ (fun hHeld => ?_)) | (go_wp2_with fail; refine hK.out _ _ ?_ (fun hHeld => ?_)))
  · (try dsimp only)
    simp (maxDischargeDepth := 16) [*, World.cell?_alloc_some, World.cell?_setCell_far]
  clear hK K
  (try simp only [Act.put, List.setIfInBounds_toArray, List.set_cons_zero, List.set_cons_succ])
  refine wpAnyH_ready (rs := [7]) (by kernel_rfl) (by simp) ?_
  refine AllReadyH.cons (o := ⟨_, _, _, _, _, _⟩) rfl (fun K hK => ?_) AllReadyH.nil
  go_simp
  (first | (go_at_call 11; refine (C8 _).mono ?_; rintro e w11 ⟨rfl, hb⟩; have HB : Below w.heap.size w w11 := below_then (by (repeat (first | (with_reducible exact HB) | (with_reducible exact Below.refl _ _) | (with_reducible refine below_set ?_ (by (try dsimp only); omega) _) | (with_reducible apply below_drew) | (with_reducible apply below_draws) | (with_reducible apply below_alloc)))) hb; obtain ⟨hc, hf⟩ := bcell hb; have hz := hb.size; (try simp at hz); (have z11_0 : w.heap.size < w11.heap.size := by omega); have c11_0 : ∀ o, w11.cell? ⟨w.heap.size, o, none⟩ = _ := fun o => hc _ o (by first | (simp; done) | (simp; omega) | omega); have g11_0 : ∀ o, w11.frozen? ⟨w.heap.size, o, none⟩ = _ := fun o => hf _ o (by first | (simp; done) | (simp; omega) | omega); (have z11_1 : w.heap.size + 1 < w11.heap.size := by omega); have c11_1 : ∀ o, w11.cell? ⟨w.heap.size + 1, o, none⟩ = _ := fun o => hc _ o (by first | (simp; done) | (simp; omega) | omega); have g11_1 : ∀ o, w11.frozen? ⟨w.heap.size + 1, o, none⟩ = _ := fun o => hf _ o (by first | (simp; done) | (simp; omega) | omega); (have z11_2 : w.heap.size + 1 + 1 < w11.heap.size := by omega); have c11_2 : ∀ o, w11.cell? ⟨w.heap.size + 1 + 1, o, none⟩ = _ := fun o => hc _ o (by first | (simp; done) | (simp; omega) | omega); have g11_2 : ∀ o, w11.frozen? ⟨w.heap.size + 1 + 1, o, none⟩ = _ := fun o => hf _ o (by first | (simp; done) | (simp; omega) | omega); (have z11_3 : w2.heap.size < w11.heap.size := by omega); have c11_3 : ∀ o, w11.cell? ⟨w2.heap.size, o, none⟩ = _ := fun o => hc _ o (by first | (simp; done) | (simp; omega) | omega); have g11_3 : ∀ o, w11.frozen? ⟨w2.heap.size, o, none⟩ = _ := fun o => hf _ o (by first | (simp; done) | (simp; omega) | omega); (have z11_4 : w3.heap.size < w11.heap.size := by omega); have c11_4 : ∀ o, w11.cell? ⟨w3.heap.size, o, none⟩ = _ := fun o => hc _ o (by first | (simp; done) | (simp; omega) | omega); have g11_4 : ∀ o, w11.frozen? ⟨w3.heap.size, o, none⟩ = _ := fun o => hf _ o (by first | (simp; done) | (simp; omega) | omega); (have z11_5 : w8.heap.size < w11.heap.size := by omega); have c11_5 : ∀ o, w11.cell? ⟨w8.heap.size, o, none⟩ = _ := fun o => hc _ o (by first | (simp; done) | (simp; omega) | omega); have g11_5 : ∀ o, w11.frozen? ⟨w8.heap.size, o, none⟩ = _ := fun o => hf _ o (by first | (simp; done) | (simp; omega) | omega); clear hb hz hc hf; clear C8))
  (first | (refine hK.out _ _ ?_ (fun hHeld => ?_)) | (go_wp2_with fail; refine hK.out _ _ ?_ (fun hHeld => ?_)))
  · (try dsimp only)
    simp (maxDischargeDepth := 16) [*, World.cell?_alloc_some, World.cell?_setCell_far]
  clear hK K
  (try simp only [Act.put, List.setIfInBounds_toArray, List.set_cons_zero, List.set_cons_succ])
  refine wpAnyH_take (i := 8) (oi := ⟨_, _, _, _, _, _⟩) (v := ?_) rfl (by kernel_rfl) (by kernel_rfl) (by kernel_rfl) (fun _ _ _ h => h) (Or.inl ⟨rfl, ?_⟩) hHeld ?_
  rotate_left
  · (intro w hSw)
    (try dsimp only at hSw)
    (first | (go_simp; done) | (go_simp; with_reducible rfl))
  (try simp only [Act.put, List.setIfInBounds_toArray, List.set_cons_zero, List.set_cons_succ])
  refine wpAnyH_take (i := 9) (oi := ⟨_, _, _, _, _, _⟩) (v := ?_) rfl (by kernel_rfl) (by kernel_rfl) (by kernel_rfl) (fun _ _ _ h => h) (Or.inl ⟨rfl, ?_⟩) hHeld ?_
  rotate_left
  · (intro w hSw)
    (try dsimp only at hSw)
    (first | (go_simp; done) | (go_simp; with_reducible rfl))
  (try simp only [Act.put, List.setIfInBounds_toArray, List.set_cons_zero, List.set_cons_succ])
  refine wpAnyH_take (i := 10) (oi := ⟨_, _, _, _, _, _⟩) (v := ?_) rfl (by kernel_rfl) (by kernel_rfl) (by kernel_rfl) (fun _ _ _ h => h) (Or.inl ⟨rfl, ?_⟩) hHeld ?_
  rotate_left
  · (intro w hSw)
    (try dsimp only at hSw)
    (first | (go_simp; done) | (go_simp; with_reducible rfl))
  (try simp only [Act.put, List.setIfInBounds_toArray, List.set_cons_zero, List.set_cons_succ])
  refine wpAnyH_take (i := 11) (oi := ⟨_, _, _, _, _, _⟩) (v := ?_) rfl (by kernel_rfl) (by kernel_rfl) (by kernel_rfl) (fun _ _ _ h => h) (Or.inl ⟨rfl, ?_⟩) hHeld ?_
  rotate_left
  · (intro w hSw)
    (try dsimp only at hSw)
    (first | (go_simp; done) | (go_simp; with_reducible rfl))
  (try simp only [Act.put, List.setIfInBounds_toArray, List.set_cons_zero, List.set_cons_succ])
  refine wpAnyH_take (i := 12) (oi := ⟨_, _, _, _, _, _⟩) (v := ?_) rfl (by kernel_rfl) (by kernel_rfl) (by kernel_rfl) (fun _ _ _ h => h) (Or.inl ⟨rfl, ?_⟩) hHeld ?_
  rotate_left
  · (intro w hSw)
    (try dsimp only at hSw)
    (first | (go_simp; done) | (go_simp; with_reducible rfl))
  (try simp only [Act.put, List.setIfInBounds_toArray, List.set_cons_zero, List.set_cons_succ])
  refine wpAnyH_take (i := 14) (oi := ⟨_, _, _, _, _, _⟩) (v := ?_) rfl (by kernel_rfl) (by kernel_rfl) (by kernel_rfl) (fun _ _ _ h => h) (Or.inl ⟨rfl, ?_⟩) hHeld ?_
  rotate_left
  · (intro w hSw)
    (try dsimp only at hSw)
    (first | (go_simp; done) | (go_simp; with_reducible rfl))
  (try simp only [Act.put, List.setIfInBounds_toArray, List.set_cons_zero, List.set_cons_succ])
  refine wpAnyH_ready (rs := [13]) (by kernel_rfl) (by simp) ?_
  refine AllReadyH.cons (o := ⟨_, _, _, _, _, _⟩) rfl (fun K hK => ?_) AllReadyH.nil
  go_simp
  (first | (go_at_call 11; refine (C9 _).mono ?_; rintro e w12 ⟨rfl, hb⟩; have HB : Below w.heap.size w w12 := below_then (by (repeat (first | (with_reducible exact HB) | (with_reducible exact Below.refl _ _) | (with_reducible refine below_set ?_ (by (try dsimp only); omega) _) | (with_reducible apply below_drew) | (with_reducible apply below_draws) | (with_reducible apply below_alloc)))) hb; obtain ⟨hc, hf⟩ := bcell hb; have hz := hb.size; (try simp at hz); (have z12_0 : w.heap.size < w12.heap.size := by omega); have c12_0 : ∀ o, w12.cell? ⟨w.heap.size, o, none⟩ = _ := fun o => hc _ o (by first | (simp; done) | (simp; omega) | omega); have g12_0 : ∀ o, w12.frozen? ⟨w.heap.size, o, none⟩ = _ := fun o => hf _ o (by first | (simp; done) | (simp; omega) | omega); (have z12_1 : w.heap.size + 1 < w12.heap.size := by omega); have c12_1 : ∀ o, w12.cell? ⟨w.heap.size + 1, o, none⟩ = _ := fun o => hc _ o (by first | (simp; done) | (simp; omega) | omega); have g12_1 : ∀ o, w12.frozen? ⟨w.heap.size + 1, o, none⟩ = _ := fun o => hf _ o (by first | (simp; done) | (simp; omega) | omega); (have z12_2 : w.heap.size + 1 + 1 < w12.heap.size := by omega); have c12_2 : ∀ o, w12.cell? ⟨w.heap.size + 1 + 1, o, none⟩ = _ := fun o => hc _ o (by first | (simp; done) | (simp; omega) | omega); have g12_2 : ∀ o, w12.frozen? ⟨w.heap.size + 1 + 1, o, none⟩ = _ := fun o => hf _ o (by first | (simp; done) | (simp; omega) | omega); (have z12_3 : w2.heap.size < w12.heap.size := by omega); have c12_3 : ∀ o, w12.cell? ⟨w2.heap.size, o, none⟩ = _ := fun o => hc _ o (by first | (simp; done) | (simp; omega) | omega); have g12_3 : ∀ o, w12.frozen? ⟨w2.heap.size, o, none⟩ = _ := fun o => hf _ o (by first | (simp; done) | (simp; omega) | omega); (have z12_4 : w3.heap.size < w12.heap.size := by omega); have c12_4 : ∀ o, w12.cell? ⟨w3.heap.size, o, none⟩ = _ := fun o => hc _ o (by first | (simp; done) | (simp; omega) | omega); have g12_4 : ∀ o, w12.frozen? ⟨w3.heap.size, o, none⟩ = _ := fun o => hf _ o (by first | (simp; done) | (simp; omega) | omega); (have z12_5 : w8.heap.size < w12.heap.size := by omega); have c12_5 : ∀ o, w12.cell? ⟨w8.heap.size, o, none⟩ = _ := fun o => hc _ o (by first | (simp; done) | (simp; omega) | omega); have g12_5 : ∀ o, w12.frozen? ⟨w8.heap.size, o, none⟩ = _ := fun o => hf _ o (by first | (simp; done) | (simp; omega) | omega); clear hb hz hc hf))
  (first | (refine hK.out _ _ ?_ (fun hHeld => ?_)) | (go_wp2_with fail; refine hK.out _ _ ?_ (fun hHeld => ?_)))
  · (try dsimp only)
    simp (maxDischargeDepth := 16) [*, World.cell?_alloc_some, World.cell?_setCell_far]
  clear hK K
  (try simp only [Act.put, List.setIfInBounds_toArray, List.set_cons_zero, List.set_cons_succ])
  refine wpAnyH_take (i := 15) (oi := ⟨_, _, _, _, _, _⟩) (v := ?_) rfl (by kernel_rfl) (by kernel_rfl) (by kernel_rfl) (fun _ _ _ h => h) (Or.inl ⟨rfl, ?_⟩) hHeld ?_
  rotate_left
  · (intro w hSw)
    (try dsimp only at hSw)
    (first | (go_simp; done) | (go_simp; with_reducible rfl))
  (try simp only [Act.put, List.setIfInBounds_toArray, List.set_cons_zero, List.set_cons_succ])
  refine wpAnyH_take (i := 16) (oi := ⟨_, _, _, _, _, _⟩) (v := ?_) rfl (by kernel_rfl) (by kernel_rfl) (by kernel_rfl) (fun _ _ _ h => h) (Or.inl ⟨rfl, ?_⟩) hHeld ?_
  rotate_left
  · (intro w hSw)
    (try dsimp only at hSw)
    (first | (go_simp; done) | (go_simp; with_reducible rfl))
  (try simp only [Act.put, List.setIfInBounds_toArray, List.set_cons_zero, List.set_cons_succ])
  refine wpAnyH_take (i := 17) (oi := ⟨_, _, _, _, _, _⟩) (v := ?_) rfl (by kernel_rfl) (by kernel_rfl) (by kernel_rfl) (fun _ _ _ h => h) (Or.inl ⟨rfl, ?_⟩) hHeld ?_
  rotate_left
  · (intro w hSw)
    (try dsimp only at hSw)
    (first | (go_simp; done) | (go_simp; with_reducible rfl))
  (try simp only [Act.put, List.setIfInBounds_toArray, List.set_cons_zero, List.set_cons_succ])
  refine wpAnyH_done (by kernel_rfl) ?_ _
  refine NoPanic.normal ?_
  go_wp2
  go_ret
  exact ⟨rfl, (by (repeat (first | (with_reducible exact HB) | (with_reducible exact Below.refl _ _) | (with_reducible refine below_set ?_ (by (try dsimp only); omega) _) | (with_reducible apply below_drew) | (with_reducible apply below_draws) | (with_reducible apply below_alloc))))⟩

end Go.Proofs.Ytglfmcgpbenckaa
