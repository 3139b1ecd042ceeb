
/- The walks of the small functions of package span. -/
import Derived.Test.YthhohiafhjhjhaaRows
import Derived.Test.YthhohiafhjhjhaaBelow
import Derived.Test.YthhohiafhjhjhaaSpanPlain
import Derived.WalkKit
import Derived.WalkSpells
import Derived.WalkLawsBesides
import Derived.Lib.Hide
import Derived.Deep.RegionWith
import Derived.Deep.QuietTactic
import Derived.BigQuiet
import Derived.Outline
namespace Go.Proofs.Ythhohiafhjhjhaa
open Go.RowKit

theorem eqSpan (d : Nat) (w : World) (x0 x1 y0 y1 : Int) :
    (Op.equalIn (d + 2) 24 (.agg #[.int .u64 x0, .int .u64 x1]) (.agg #[.int .u64 y0, .int .u64 y1])).run Try.prog w = .ok (decide (x0 = y0) && decide (x1 = y1)) w := by
  rw [run_equalIn_struct w (d + 1) 24 _ _ (by kernel_rfl) (by kernel_rfl)]
  go_simp
  by_cases h0 : x0 = y0 <;> by_cases h1 : x1 = y1 <;> simp [h0, h1]
theorem ret_sp {a b c d : Nat} (h : a = c) (h' : b = d) : Ending.returned (.agg #[.int .u64 (a : Int), .int .u64 (b : Int)]) = .returned (.agg #[.int .u64 (c : Int), .int .u64 (d : Int)]) := by rw [h, h']
theorem ret_spi {x y : Int} {p : Nat × Nat} (h1 : x = p.1) (h2 : y = p.2) : Ending.returned (.agg #[.int .u64 x, .int .u64 y]) = .returned (.agg #[.int .u64 (p.1 : Nat), .int .u64 (p.2 : Nat)]) := by rw [h1, h2]
theorem ret_spt {x y z e : Int} {p : Nat × Nat} (h1 : x = p.1) (h2 : y = p.2) (h3 : z = e) : Ending.returned (.tuple #[.agg #[.int .u64 x, .int .u64 y], .int .i64 z]) = .returned (.tuple #[.agg #[.int .u64 (p.1 : Nat), .int .u64 (p.2 : Nat)], .int .i64 e]) := by rw [h1, h2, h3]
theorem retbool {a b : Bool} (h : a = b) : Ending.returned (.bool a) = .returned (.bool b) := by rw [h]

set_option maxHeartbeats 400000 in
theorem of_any (n : Nat) (w : World) :
    Calls Try.prog 16 #[.int .u64 n] w fun e w' => e = .returned (.agg #[.int .u64 n, .int .u64 n]) ∧ Below w.heap.size w w' := by
  go_enter Try.func16, Try.ntmps16
  go_wp2
  exact bodyPost_ret (v := .agg #[.int .u64 n, .int .u64 n]) (by simp [results, Try.results16, go_sem]) rfl ⟨rfl, (by (repeat (first | exact HB | exact Below.refl _ _ | apply below_drew | apply below_draws | refine below_set ?_ (by (try dsimp only); omega) _ | apply below_alloc)))⟩

set_option maxHeartbeats 400000 in
theorem may_any (a b : Nat) (w : World) :
    Calls Try.prog 14 #[.agg #[.int .u64 a, .int .u64 b]] w fun e w' => e = .returned (.bool (decide (a ≤ b))) ∧ Below w.heap.size w w' := by
  go_enter Try.func14, Try.ntmps14
  go_wp2
  go_ret
  exact ⟨rfl, (by (repeat (first | exact HB | exact Below.refl _ _ | apply below_drew | apply below_draws | refine below_set ?_ (by (try dsimp only); omega) _ | apply below_alloc)))⟩

set_option maxHeartbeats 400000 in
theorem has_any (a b n : Nat) (w : World) :
    Calls Try.prog 13 #[.agg #[.int .u64 a, .int .u64 b], .int .u64 n] w fun e w' => e = .returned (.bool (decide (a ≤ n) && decide (n ≤ b))) ∧ Below w.heap.size w w' := by
  by_cases h1 : a ≤ n <;> by_cases h2 : n ≤ b
  all_goals
    go_enter Try.func13, Try.ntmps13
    go_wp2
    go_ret
    exact ⟨by simp [h1, h2], (by (repeat (first | exact HB | exact Below.refl _ _ | apply below_drew | apply below_draws | refine below_set ?_ (by (try dsimp only); omega) _ | apply below_alloc)))⟩

set_option maxHeartbeats 1000000 in
theorem within_any (a b c d : Nat) (w : World) :
    Calls Try.prog 15 #[.agg #[.int .u64 a, .int .u64 b], .agg #[.int .u64 c, .int .u64 d]] w fun e w' => e = .returned (.bool (decide (a ≤ b) && decide (c ≤ d) && decide (c ≤ a) && decide (b ≤ d))) ∧ Below w.heap.size w w' := by
  by_cases h1 : a ≤ b <;> by_cases h2 : c ≤ d <;> by_cases h3 : c ≤ a <;> by_cases h4 : b ≤ d
  all_goals
    go_enter Try.func15, Try.ntmps15
    go_wp2_with (first | (go_at_call 14; ((with_reducible refine (may_any _ _ _).mono ?_); rintro e w1 ⟨rfl, hb⟩); have HB : Below w.heap.size w w1 := below_then (by (repeat (first | exact HB | exact Below.refl _ _ | apply below_drew | apply below_draws | refine below_set ?_ (by (try dsimp only); omega) _ | apply below_alloc))) hb; obtain ⟨hc, hf⟩ := bcell hb; have hz := hb.size; (try simp at hz); (first | (obtain ⟨y0, y1, y2, y3, y4, y5, y6, y7, y8, y9, y10, y11, _⟩ := up12 hz) | (obtain ⟨y0, y1, y2, y3, y4, y5, y6, y7, y8, y9, y10, _⟩ := up11 hz) | (obtain ⟨y0, y1, y2, y3, y4, y5, y6, y7, y8, y9, _⟩ := up10 hz) | (obtain ⟨y0, y1, y2, y3, y4, y5, y6, y7, y8, _⟩ := up9 hz) | (obtain ⟨y0, y1, y2, y3, y4, y5, y6, y7, _⟩ := up8 hz) | (obtain ⟨y0, y1, y2, y3, y4, y5, y6, _⟩ := up7 hz) | (obtain ⟨y0, y1, y2, y3, y4, y5, _⟩ := up6 hz) | (obtain ⟨y0, y1, y2, y3, y4, _⟩ := up5 hz) | (obtain ⟨y0, y1, y2, y3, _⟩ := up4 hz) | (obtain ⟨y0, y1, y2, _⟩ := up3 hz) | (obtain ⟨y0, y1, _⟩ := up2 hz) | (obtain ⟨y0, _⟩ := up1 hz) | skip); (try (have z0 : w.heap.size < w1.heap.size := by omega)); (try (have z1 : w.heap.size + 1 < w1.heap.size := by omega)); (try (have c0 : ∀ o, w1.cell? ⟨w.heap.size, o, none⟩ = _ := fun o => hc _ o (by first | (simp; done) | (simp; omega) | omega))); (try (have g0 : ∀ o, w1.frozen? ⟨w.heap.size, o, none⟩ = _ := fun o => hf _ o (by first | (simp; done) | (simp; omega) | omega))); (try (have c1 : ∀ o, w1.cell? ⟨w.heap.size + 1, o, none⟩ = _ := fun o => hc _ o (by first | (simp; done) | (simp; omega) | omega))); (try (have g1 : ∀ o, w1.frozen? ⟨w.heap.size + 1, o, none⟩ = _ := fun o => hf _ o (by first | (simp; done) | (simp; omega) | omega))); clear hb hz))
    go_ret
    exact ⟨by simp [h1, h2, h3, h4], (by (repeat (first | exact HB | exact Below.refl _ _ | apply below_drew | apply below_draws | refine below_set ?_ (by (try dsimp only); omega) _ | apply below_alloc)))⟩

end Go.Proofs.Ythhohiafhjhjhaa
