
/- The walks of package kind: its small functions, and May. -/
import Derived.Test.YtglfmcgpbenckaaKindPlain
import Derived.Test.YtglfmcgpbenckaaBelow
import Derived.Test.YtglfmcgpbenckaaSpanW1
import Derived.Deep.DeepCutAuto
import Derived.Deep.RegionHeld3
namespace Go.Proofs.Ytglfmcgpbenckaa
open Go.RowKit
set_option linter.unusedVariables false
set_option linter.unusedSimpArgs false

theorem eqWhat (d : Nat) (w : World) (k t i l : Int) (m : Bool) (a b : Int) (k' t' i' l' : Int) (m' : Bool) (a' b' : Int) :
    (Op.equalIn (d + 3) 26 (.agg #[.int .i64 k, .int .i64 t, .int .i64 i, .int .i64 l, .bool m, .int .u64 a, .int .u64 b]) (.agg #[.int .i64 k', .int .i64 t', .int .i64 i', .int .i64 l', .bool m', .int .u64 a', .int .u64 b'])).run Try.prog w = .ok (eqB k t i l m a b k' t' i' l' m' a' b') w := by
  rw [run_equalIn_struct w (d + 2) 26 _ _ (by kernel_rfl) (by kernel_rfl)]
  have he := eqSpan
  go_simp
  unfold eqB
  by_cases h0 : k = k' <;> by_cases h1 : t = t' <;> by_cases h2 : i = i' <;> by_cases h3 : l = l' <;> by_cases h4 : m = m' <;> by_cases h5 : a = a' <;> by_cases h6 : b = b' <;> simp [*]
theorem named {P : World → Prop} {w0 : World} (F : World → Prop) (k : F w0) (h : ∀ W, F W → P W) : P w0 := h _ k

set_option maxHeartbeats 2000000 in
theorem pointer_y (k : Int) (h : ptr k) (w : World) :
    Calls Try.prog 23 #[.int .i64 k] w fun e w' => e = .returned (.bool true) ∧ w = w' := by
  obtain ⟨h1, h2⟩ := h
  go_enter Try.func23, Try.ntmps23
  go_wp2
  go_ret
  exact ⟨by simp [h2], rfl⟩

set_option maxHeartbeats 2000000 in
theorem pointer_n (k : Int) (h : ¬ ptr k) (w : World) :
    Calls Try.prog 23 #[.int .i64 k] w fun e w' => e = .returned (.bool false) ∧ w = w' := by
  have h' : ¬ 3 ≤ k ∨ (3 ≤ k ∧ ¬ k ≤ 6) := by unfold ptr at h; omega
  clear h
  rcases h' with h1 | ⟨h1, h2⟩
  all_goals
    go_enter Try.func23, Try.ntmps23
    go_wp2
    go_ret
    exact ⟨by simp [*], rfl⟩

set_option maxHeartbeats 2000000 in
theorem pointer_any (k : Int) (w : World) :
    Calls Try.prog 23 #[.int .i64 k] w fun e w' => e = .returned (.bool (decide (ptr k))) ∧ w = w' := by
  by_cases h : ptr k
  · rw [decide_eq_true h]; exact pointer_y k h w
  · rw [decide_eq_false h]; exact pointer_n k h w

set_option maxHeartbeats 2000000 in
theorem alone_any (k : Int) (w : World) :
    Calls Try.prog 25 #[.int .i64 k] w fun e w' => e = .returned (.bool (decide (lone k))) ∧ w = w' := by
  unfold lone
  by_cases h1 : k = 4
  · subst h1
    go_enter Try.func25, Try.ntmps25
    go_wp2
    go_ret
    exact ⟨by simp, rfl⟩
  · have q : (k == 4) = false := by simp [h1]
    go_enter Try.func25, Try.ntmps25
    go_wp2
    go_ret
    exact ⟨by by_cases h2 : k = 6 <;> simp [h1, h2], rfl⟩

set_option maxHeartbeats 2000000 in
theorem maybe_any (k t i l : Int) (m : Bool) (a b : Int) (w : World) :
    Calls Try.prog 24 #[.agg #[.int .i64 k, .int .i64 t, .int .i64 i, .int .i64 l, .bool m, .int .u64 a, .int .u64 b]] w fun e w' => e = .returned (.agg #[.int .i64 k, .int .i64 t, .int .i64 i, .int .i64 l, .bool true, .int .u64 a, .int .u64 b]) ∧ Below w.heap.size w w' := by
  go_enter Try.func24, Try.ntmps24
  go_wp2
  exact bodyPost_ret (v := .agg #[.int .i64 k, .int .i64 t, .int .i64 i, .int .i64 l, .bool true, .int .u64 a, .int .u64 b]) (by simp [results, Try.results24, go_sem]) rfl ⟨rfl, (by (repeat (first | (with_reducible exact HB) | (with_reducible exact Below.refl _ _) | (with_reducible refine below_set ?_ (by (try dsimp only); omega) _) | (with_reducible apply below_drew) | (with_reducible apply below_draws) | (with_reducible apply below_alloc))))⟩

theorem ret_bool {a b : Bool} (h : a = b) : Ending.returned (.bool a) = .returned (.bool b) := by rw [h]
theorem eqB_t {k t i l : Int} {m : Bool} {a b k' t' i' l' : Int} {m' : Bool} {a' b' : Int} (h : k = k' ∧ t = t' ∧ i = i' ∧ l = l' ∧ m = m' ∧ a = a' ∧ b = b') : eqB k t i l m a b k' t' i' l' m' a' b' = true := by
  unfold eqB; exact decide_eq_true h
theorem eqB_f {k t i l : Int} {m : Bool} {a b k' t' i' l' : Int} {m' : Bool} {a' b' : Int} (h : ¬ (k = k' ∧ t = t' ∧ i = i' ∧ l = l' ∧ m = m' ∧ a = a' ∧ b = b')) : eqB k t i l m a b k' t' i' l' m' a' b' = false := by
  unfold eqB; exact decide_eq_false h

set_option maxHeartbeats 4000000 in
theorem may_0 (k t i l : Int) (m : Bool) (a b : Nat) (hk : k = 0) (w : World) :
    Calls Try.prog 12 #[.agg #[.int .i64 k, .int .i64 t, .int .i64 i, .int .i64 l, .bool m, .int .u64 a, .int .u64 b]] w fun e w' => e = .returned (.bool (eqB 0 t i l m a b 0 0 0 0 false 0 0)) ∧ Below w.heap.size w w' := by
  have he := eqWhat
  subst hk
  go_enter Try.func12, Try.ntmps12
  go_wp2
  go_ret
  exact ⟨rfl, (by (repeat (first | (with_reducible exact HB) | (with_reducible exact Below.refl _ _) | (with_reducible refine below_set ?_ (by (try dsimp only); omega) _) | (with_reducible apply below_drew) | (with_reducible apply below_draws) | (with_reducible apply below_alloc))))⟩

set_option maxHeartbeats 4000000 in
theorem may_2 (k t i l : Int) (m : Bool) (a b : Nat) (hk : k = 2) (w : World) :
    Calls Try.prog 12 #[.agg #[.int .i64 k, .int .i64 t, .int .i64 i, .int .i64 l, .bool m, .int .u64 a, .int .u64 b]] w fun e w' => e = .returned (.bool (eqB 2 t i l m a b 2 0 0 0 false 0 0)) ∧ Below w.heap.size w w' := by
  have he := eqWhat
  subst hk
  go_enter Try.func12, Try.ntmps12
  go_wp2
  go_ret
  exact ⟨rfl, (by (repeat (first | (with_reducible exact HB) | (with_reducible exact Below.refl _ _) | (with_reducible refine below_set ?_ (by (try dsimp only); omega) _) | (with_reducible apply below_drew) | (with_reducible apply below_draws) | (with_reducible apply below_alloc))))⟩

set_option maxHeartbeats 4000000 in
theorem may_1y (k t i l : Int) (m : Bool) (a b : Nat) (hk : k = 1) (h : a ≤ b) (w : World) :
    Calls Try.prog 12 #[.agg #[.int .i64 k, .int .i64 t, .int .i64 i, .int .i64 l, .bool m, .int .u64 a, .int .u64 b]] w fun e w' => e = .returned (.bool (eqB 1 t i l m 0 0 1 0 0 0 false 0 0)) ∧ Below w.heap.size w w' := by
  have he := eqWhat
  subst hk
  go_enter Try.func12, Try.ntmps12
  go_wp2_with (first | (go_at_call 26; ((with_reducible refine (may_any _ _ _).mono ?_); rintro e w1 ⟨rfl, hb⟩); have HB : Below w.heap.size w w1 := below_then (by (repeat (first | (with_reducible exact HB) | (with_reducible exact Below.refl _ _) | (with_reducible refine below_set ?_ (by (try dsimp only); omega) _) | (with_reducible apply below_drew) | (with_reducible apply below_draws) | (with_reducible apply below_alloc)))) hb; obtain ⟨hc, hf⟩ := bcell hb; have hz := hb.size; (try simp at hz); (first | (obtain ⟨y0, y1, y2, y3, y4, y5, y6, y7, y8, y9, y10, y11, _⟩ := up12 hz) | (obtain ⟨y0, y1, y2, y3, y4, y5, y6, y7, y8, y9, y10, _⟩ := up11 hz) | (obtain ⟨y0, y1, y2, y3, y4, y5, y6, y7, y8, y9, _⟩ := up10 hz) | (obtain ⟨y0, y1, y2, y3, y4, y5, y6, y7, y8, _⟩ := up9 hz) | (obtain ⟨y0, y1, y2, y3, y4, y5, y6, y7, _⟩ := up8 hz) | (obtain ⟨y0, y1, y2, y3, y4, y5, y6, _⟩ := up7 hz) | (obtain ⟨y0, y1, y2, y3, y4, y5, _⟩ := up6 hz) | (obtain ⟨y0, y1, y2, y3, y4, _⟩ := up5 hz) | (obtain ⟨y0, y1, y2, y3, _⟩ := up4 hz) | (obtain ⟨y0, y1, y2, _⟩ := up3 hz) | (obtain ⟨y0, y1, _⟩ := up2 hz) | (obtain ⟨y0, _⟩ := up1 hz) | skip); (try (have z0 : w.heap.size < w1.heap.size := by omega)); (try (have z1 : w.heap.size + 1 < w1.heap.size := by omega)); (try (have c0 : ∀ o, w1.cell? ⟨w.heap.size, o, none⟩ = _ := fun o => hc _ o (by first | (simp; done) | (simp; omega) | omega))); (try (have g0 : ∀ o, w1.frozen? ⟨w.heap.size, o, none⟩ = _ := fun o => hf _ o (by first | (simp; done) | (simp; omega) | omega))); (try (have c1 : ∀ o, w1.cell? ⟨w.heap.size + 1, o, none⟩ = _ := fun o => hc _ o (by first | (simp; done) | (simp; omega) | omega))); (try (have g1 : ∀ o, w1.frozen? ⟨w.heap.size + 1, o, none⟩ = _ := fun o => hf _ o (by first | (simp; done) | (simp; omega) | omega))); clear hb hz))
  go_ret
  exact ⟨rfl, (by (repeat (first | (with_reducible exact HB) | (with_reducible exact Below.refl _ _) | (with_reducible refine below_set ?_ (by (try dsimp only); omega) _) | (with_reducible apply below_drew) | (with_reducible apply below_draws) | (with_reducible apply below_alloc))))⟩

set_option maxHeartbeats 4000000 in
theorem may_1n (k t i l : Int) (m : Bool) (a b : Nat) (hk : k = 1) (h : ¬ a ≤ b) (w : World) :
    Calls Try.prog 12 #[.agg #[.int .i64 k, .int .i64 t, .int .i64 i, .int .i64 l, .bool m, .int .u64 a, .int .u64 b]] w fun e w' => e = .returned (.bool false) ∧ Below w.heap.size w w' := by
  have he := eqWhat
  subst hk
  go_enter Try.func12, Try.ntmps12
  go_wp2_with (first | (go_at_call 26; ((with_reducible refine (may_any _ _ _).mono ?_); rintro e w1 ⟨rfl, hb⟩); have HB : Below w.heap.size w w1 := below_then (by (repeat (first | (with_reducible exact HB) | (with_reducible exact Below.refl _ _) | (with_reducible refine below_set ?_ (by (try dsimp only); omega) _) | (with_reducible apply below_drew) | (with_reducible apply below_draws) | (with_reducible apply below_alloc)))) hb; obtain ⟨hc, hf⟩ := bcell hb; have hz := hb.size; (try simp at hz); (first | (obtain ⟨y0, y1, y2, y3, y4, y5, y6, y7, y8, y9, y10, y11, _⟩ := up12 hz) | (obtain ⟨y0, y1, y2, y3, y4, y5, y6, y7, y8, y9, y10, _⟩ := up11 hz) | (obtain ⟨y0, y1, y2, y3, y4, y5, y6, y7, y8, y9, _⟩ := up10 hz) | (obtain ⟨y0, y1, y2, y3, y4, y5, y6, y7, y8, _⟩ := up9 hz) | (obtain ⟨y0, y1, y2, y3, y4, y5, y6, y7, _⟩ := up8 hz) | (obtain ⟨y0, y1, y2, y3, y4, y5, y6, _⟩ := up7 hz) | (obtain ⟨y0, y1, y2, y3, y4, y5, _⟩ := up6 hz) | (obtain ⟨y0, y1, y2, y3, y4, _⟩ := up5 hz) | (obtain ⟨y0, y1, y2, y3, _⟩ := up4 hz) | (obtain ⟨y0, y1, y2, _⟩ := up3 hz) | (obtain ⟨y0, y1, _⟩ := up2 hz) | (obtain ⟨y0, _⟩ := up1 hz) | skip); (try (have z0 : w.heap.size < w1.heap.size := by omega)); (try (have z1 : w.heap.size + 1 < w1.heap.size := by omega)); (try (have c0 : ∀ o, w1.cell? ⟨w.heap.size, o, none⟩ = _ := fun o => hc _ o (by first | (simp; done) | (simp; omega) | omega))); (try (have g0 : ∀ o, w1.frozen? ⟨w.heap.size, o, none⟩ = _ := fun o => hf _ o (by first | (simp; done) | (simp; omega) | omega))); (try (have c1 : ∀ o, w1.cell? ⟨w.heap.size + 1, o, none⟩ = _ := fun o => hc _ o (by first | (simp; done) | (simp; omega) | omega))); (try (have g1 : ∀ o, w1.frozen? ⟨w.heap.size + 1, o, none⟩ = _ := fun o => hf _ o (by first | (simp; done) | (simp; omega) | omega))); clear hb hz))
  go_ret
  exact ⟨rfl, (by (repeat (first | (with_reducible exact HB) | (with_reducible exact Below.refl _ _) | (with_reducible refine below_set ?_ (by (try dsimp only); omega) _) | (with_reducible apply below_drew) | (with_reducible apply below_draws) | (with_reducible apply below_alloc))))⟩

set_option maxHeartbeats 4000000 in
theorem may_no (k t i l : Int) (m : Bool) (a b : Nat) (hk : ¬ (0 ≤ k ∧ k ≤ 6)) (w : World) :
    Calls Try.prog 12 #[.agg #[.int .i64 k, .int .i64 t, .int .i64 i, .int .i64 l, .bool m, .int .u64 a, .int .u64 b]] w fun e w' => e = .returned (.bool false) ∧ Below w.heap.size w w' := by
  have he := eqWhat
  have k0 : (k == 0) = false := by simp; omega
  have k1 : (k == 1) = false := by simp; omega
  have k2 : (k == 2) = false := by simp; omega
  have CP := pointer_n k (by unfold ptr; omega)
  clear hk
  go_enter Try.func12, Try.ntmps12
  go_wp2_with (first | (go_at_call 23; ((with_reducible refine (CP _).mono ?_); rintro e w' ⟨rfl, rfl⟩)))
  go_ret
  exact ⟨rfl, (by (repeat (first | (with_reducible exact HB) | (with_reducible exact Below.refl _ _) | (with_reducible refine below_set ?_ (by (try dsimp only); omega) _) | (with_reducible apply below_drew) | (with_reducible apply below_draws) | (with_reducible apply below_alloc))))⟩

set_option maxHeartbeats 4000000 in
theorem may_pn1 (k t i l : Int) (m : Bool) (a b : Nat) (hk : ptr k) (h : ¬ (a = 0 ∧ b = 0)) (w : World) :
    Calls Try.prog 12 #[.agg #[.int .i64 k, .int .i64 t, .int .i64 i, .int .i64 l, .bool m, .int .u64 a, .int .u64 b]] w fun e w' => e = .returned (.bool false) ∧ Below w.heap.size w w' := by
  have he := eqWhat
  have hk' := hk
  unfold ptr at hk'
  have k0 : (k == 0) = false := by simp; omega
  have k1 : (k == 1) = false := by simp; omega
  have k2 : (k == 2) = false := by simp; omega
  have CP := pointer_y k hk
  have hq : eqB k t i l m 0 0 k t i l m a b = false := by apply eqB_f; simp; omega
  clear hk hk' h
  go_enter Try.func12, Try.ntmps12
  go_wp2_with (first | (go_at_call 23; ((with_reducible refine (CP _).mono ?_); rintro e w' ⟨rfl, rfl⟩)))
  go_ret
  exact ⟨rfl, (by (repeat (first | (with_reducible exact HB) | (with_reducible exact Below.refl _ _) | (with_reducible refine below_set ?_ (by (try dsimp only); omega) _) | (with_reducible apply below_drew) | (with_reducible apply below_draws) | (with_reducible apply below_alloc))))⟩

set_option maxHeartbeats 4000000 in
theorem may_pn2 (k t i l : Int) (m : Bool) (a b : Nat) (hk : ptr k) (h : a = 0 ∧ b = 0) (ht : t < 0) (w : World) :
    Calls Try.prog 12 #[.agg #[.int .i64 k, .int .i64 t, .int .i64 i, .int .i64 l, .bool m, .int .u64 a, .int .u64 b]] w fun e w' => e = .returned (.bool false) ∧ Below w.heap.size w w' := by
  have he := eqWhat
  have hk' := hk
  unfold ptr at hk'
  have k0 : (k == 0) = false := by simp; omega
  have k1 : (k == 1) = false := by simp; omega
  have k2 : (k == 2) = false := by simp; omega
  have CP := pointer_y k hk
  have hq : eqB k t i l m 0 0 k t i l m a b = true := by apply eqB_t; simp; omega
  clear hk hk' h
  go_enter Try.func12, Try.ntmps12
  go_wp2_with (first | (go_at_call 23; ((with_reducible refine (CP _).mono ?_); rintro e w' ⟨rfl, rfl⟩)))
  go_ret
  exact ⟨rfl, (by (repeat (first | (with_reducible exact HB) | (with_reducible exact Below.refl _ _) | (with_reducible refine below_set ?_ (by (try dsimp only); omega) _) | (with_reducible apply below_drew) | (with_reducible apply below_draws) | (with_reducible apply below_alloc))))⟩

set_option maxHeartbeats 4000000 in
theorem may_4y (k t i l : Int) (m : Bool) (a b : Nat) (hk : ptr k) (hk4 : k = 4) (h : a = 0 ∧ b = 0) (ht : ¬ t < 0) (hi : 1 ≤ i) (w : World) :
    Calls Try.prog 12 #[.agg #[.int .i64 k, .int .i64 t, .int .i64 i, .int .i64 l, .bool m, .int .u64 a, .int .u64 b]] w fun e w' => e = .returned (.bool (decide (0 ≤ l))) ∧ Below w.heap.size w w' := by
  have he := eqWhat
  have hk' := hk
  unfold ptr at hk'
  have k0 : (k == 0) = false := by simp; omega
  have k1 : (k == 1) = false := by simp; omega
  have k2 : (k == 2) = false := by simp; omega
  have CP := pointer_y k hk
  have hq : eqB k t i l m 0 0 k t i l m a b = true := by apply eqB_t; simp; omega
  have k4 : (k == 4) = true := by simp; omega
  clear hk hk' hk4 h
  go_enter Try.func12, Try.ntmps12
  go_wp2_with (first | (go_at_call 23; ((with_reducible refine (CP _).mono ?_); rintro e w' ⟨rfl, rfl⟩)))
  go_ret
  exact ⟨rfl, (by (repeat (first | (with_reducible exact HB) | (with_reducible exact Below.refl _ _) | (with_reducible refine below_set ?_ (by (try dsimp only); omega) _) | (with_reducible apply below_drew) | (with_reducible apply below_draws) | (with_reducible apply below_alloc))))⟩

set_option maxHeartbeats 4000000 in
theorem may_4n (k t i l : Int) (m : Bool) (a b : Nat) (hk : ptr k) (hk4 : k = 4) (h : a = 0 ∧ b = 0) (ht : ¬ t < 0) (hi : ¬ 1 ≤ i) (w : World) :
    Calls Try.prog 12 #[.agg #[.int .i64 k, .int .i64 t, .int .i64 i, .int .i64 l, .bool m, .int .u64 a, .int .u64 b]] w fun e w' => e = .returned (.bool false) ∧ Below w.heap.size w w' := by
  have he := eqWhat
  have hk' := hk
  unfold ptr at hk'
  have k0 : (k == 0) = false := by simp; omega
  have k1 : (k == 1) = false := by simp; omega
  have k2 : (k == 2) = false := by simp; omega
  have CP := pointer_y k hk
  have hq : eqB k t i l m 0 0 k t i l m a b = true := by apply eqB_t; simp; omega
  have k4 : (k == 4) = true := by simp; omega
  clear hk hk' hk4 h
  go_enter Try.func12, Try.ntmps12
  go_wp2_with (first | (go_at_call 23; ((with_reducible refine (CP _).mono ?_); rintro e w' ⟨rfl, rfl⟩)))
  go_ret
  exact ⟨rfl, (by (repeat (first | (with_reducible exact HB) | (with_reducible exact Below.refl _ _) | (with_reducible refine below_set ?_ (by (try dsimp only); omega) _) | (with_reducible apply below_drew) | (with_reducible apply below_draws) | (with_reducible apply below_alloc))))⟩

set_option maxHeartbeats 4000000 in
theorem may_6y (k t i l : Int) (m : Bool) (a b : Nat) (hk : ptr k) (hk4 : k = 6) (h : a = 0 ∧ b = 0) (ht : ¬ t < 0) (hi : i = 0) (w : World) :
    Calls Try.prog 12 #[.agg #[.int .i64 k, .int .i64 t, .int .i64 i, .int .i64 l, .bool m, .int .u64 a, .int .u64 b]] w fun e w' => e = .returned (.bool (l == 0)) ∧ Below w.heap.size w w' := by
  have he := eqWhat
  have hk' := hk
  unfold ptr at hk'
  have k0 : (k == 0) = false := by simp; omega
  have k1 : (k == 1) = false := by simp; omega
  have k2 : (k == 2) = false := by simp; omega
  have CP := pointer_y k hk
  have hq : eqB k t i l m 0 0 k t i l m a b = true := by apply eqB_t; simp; omega
  have k4 : (k == 4) = false := by simp; omega
  have k6 : (k == 6) = true := by simp; omega
  have hc : (i == 0) = true := by simp; omega
  clear hk hk' hk4 h
  clear hi
  go_enter Try.func12, Try.ntmps12
  go_wp2_with (first | (go_at_call 23; ((with_reducible refine (CP _).mono ?_); rintro e w' ⟨rfl, rfl⟩)))
  go_ret
  exact ⟨rfl, (by (repeat (first | (with_reducible exact HB) | (with_reducible exact Below.refl _ _) | (with_reducible refine below_set ?_ (by (try dsimp only); omega) _) | (with_reducible apply below_drew) | (with_reducible apply below_draws) | (with_reducible apply below_alloc))))⟩

set_option maxHeartbeats 4000000 in
theorem may_6n (k t i l : Int) (m : Bool) (a b : Nat) (hk : ptr k) (hk4 : k = 6) (h : a = 0 ∧ b = 0) (ht : ¬ t < 0) (hi : ¬ i = 0) (w : World) :
    Calls Try.prog 12 #[.agg #[.int .i64 k, .int .i64 t, .int .i64 i, .int .i64 l, .bool m, .int .u64 a, .int .u64 b]] w fun e w' => e = .returned (.bool false) ∧ Below w.heap.size w w' := by
  have he := eqWhat
  have hk' := hk
  unfold ptr at hk'
  have k0 : (k == 0) = false := by simp; omega
  have k1 : (k == 1) = false := by simp; omega
  have k2 : (k == 2) = false := by simp; omega
  have CP := pointer_y k hk
  have hq : eqB k t i l m 0 0 k t i l m a b = true := by apply eqB_t; simp; omega
  have k4 : (k == 4) = false := by simp; omega
  have k6 : (k == 6) = true := by simp; omega
  have hc : (i == 0) = false := by simp; omega
  clear hk hk' hk4 h
  clear hi
  go_enter Try.func12, Try.ntmps12
  go_wp2_with (first | (go_at_call 23; ((with_reducible refine (CP _).mono ?_); rintro e w' ⟨rfl, rfl⟩)))
  go_ret
  exact ⟨rfl, (by (repeat (first | (with_reducible exact HB) | (with_reducible exact Below.refl _ _) | (with_reducible refine below_set ?_ (by (try dsimp only); omega) _) | (with_reducible apply below_drew) | (with_reducible apply below_draws) | (with_reducible apply below_alloc))))⟩

set_option maxHeartbeats 4000000 in
theorem may_5y (k t i l : Int) (m : Bool) (a b : Nat) (hk : ptr k) (hk4 : (k = 3 ∨ k = 5)) (h : a = 0 ∧ b = 0) (ht : ¬ t < 0) (hi : 1 ≤ i) (w : World) :
    Calls Try.prog 12 #[.agg #[.int .i64 k, .int .i64 t, .int .i64 i, .int .i64 l, .bool m, .int .u64 a, .int .u64 b]] w fun e w' => e = .returned (.bool (l == 0)) ∧ Below w.heap.size w w' := by
  have he := eqWhat
  have hk' := hk
  unfold ptr at hk'
  have k0 : (k == 0) = false := by simp; omega
  have k1 : (k == 1) = false := by simp; omega
  have k2 : (k == 2) = false := by simp; omega
  have CP := pointer_y k hk
  have hq : eqB k t i l m 0 0 k t i l m a b = true := by apply eqB_t; simp; omega
  have k4 : (k == 4) = false := by simp; omega
  have k6 : (k == 6) = false := by simp; omega
  clear hk hk' hk4 h
  go_enter Try.func12, Try.ntmps12
  go_wp2_with (first | (go_at_call 23; ((with_reducible refine (CP _).mono ?_); rintro e w' ⟨rfl, rfl⟩)))
  go_ret
  exact ⟨rfl, (by (repeat (first | (with_reducible exact HB) | (with_reducible exact Below.refl _ _) | (with_reducible refine below_set ?_ (by (try dsimp only); omega) _) | (with_reducible apply below_drew) | (with_reducible apply below_draws) | (with_reducible apply below_alloc))))⟩

set_option maxHeartbeats 4000000 in
theorem may_5n (k t i l : Int) (m : Bool) (a b : Nat) (hk : ptr k) (hk4 : (k = 3 ∨ k = 5)) (h : a = 0 ∧ b = 0) (ht : ¬ t < 0) (hi : ¬ 1 ≤ i) (w : World) :
    Calls Try.prog 12 #[.agg #[.int .i64 k, .int .i64 t, .int .i64 i, .int .i64 l, .bool m, .int .u64 a, .int .u64 b]] w fun e w' => e = .returned (.bool false) ∧ Below w.heap.size w w' := by
  have he := eqWhat
  have hk' := hk
  unfold ptr at hk'
  have k0 : (k == 0) = false := by simp; omega
  have k1 : (k == 1) = false := by simp; omega
  have k2 : (k == 2) = false := by simp; omega
  have CP := pointer_y k hk
  have hq : eqB k t i l m 0 0 k t i l m a b = true := by apply eqB_t; simp; omega
  have k4 : (k == 4) = false := by simp; omega
  have k6 : (k == 6) = false := by simp; omega
  clear hk hk' hk4 h
  go_enter Try.func12, Try.ntmps12
  go_wp2_with (first | (go_at_call 23; ((with_reducible refine (CP _).mono ?_); rintro e w' ⟨rfl, rfl⟩)))
  go_ret
  exact ⟨rfl, (by (repeat (first | (with_reducible exact HB) | (with_reducible exact Below.refl _ _) | (with_reducible refine below_set ?_ (by (try dsimp only); omega) _) | (with_reducible apply below_drew) | (with_reducible apply below_draws) | (with_reducible apply below_alloc))))⟩

set_option maxHeartbeats 2000000 in
theorem kmay_any (k t i l : Int) (m : Bool) (a b : Nat) (w : World) :
    Calls Try.prog 12 #[.agg #[.int .i64 k, .int .i64 t, .int .i64 i, .int .i64 l, .bool m, .int .u64 a, .int .u64 b]] w fun e w' => e = .returned (.bool (whMay ⟨k, t, i, l, m, a, b⟩)) ∧ Below w.heap.size w w' := by
  have E : ∀ (v : Bool) (q : Wok ⟨k, t, i, l, m, a, b⟩ ↔ v = true), Calls Try.prog 12 #[.agg #[.int .i64 k, .int .i64 t, .int .i64 i, .int .i64 l, .bool m, .int .u64 a, .int .u64 b]] w (fun e w' => e = .returned (.bool v) ∧ Below w.heap.size w w') → Calls Try.prog 12 #[.agg #[.int .i64 k, .int .i64 t, .int .i64 i, .int .i64 l, .bool m, .int .u64 a, .int .u64 b]] w fun e w' => e = .returned (.bool (whMay ⟨k, t, i, l, m, a, b⟩)) ∧ Below w.heap.size w w' := by
    intro v q h
    have e : whMay ⟨k, t, i, l, m, a, b⟩ = v := by unfold whMay; rw [Bool.eq_iff_iff]; simp [q]
    rw [e]; exact h
  by_cases hk : 0 ≤ k ∧ k ≤ 6
  · by_cases k0 : k = 0
    · refine E _ ?_ (may_0 k t i l m a b k0 w)
      unfold Wok eqB; cases m <;> simp <;> omega
    · by_cases k2 : k = 2
      · refine E _ ?_ (may_2 k t i l m a b k2 w)
        unfold Wok eqB; cases m <;> simp <;> omega
      · by_cases k1 : k = 1
        · by_cases h : a ≤ b
          · refine E _ ?_ (may_1y k t i l m a b k1 h w)
            unfold Wok eqB; cases m <;> simp <;> omega
          · refine E _ ?_ (may_1n k t i l m a b k1 h w)
            unfold Wok; cases m <;> simp <;> omega
        · have hp : ptr k := by unfold ptr; omega
          by_cases h : a = 0 ∧ b = 0
          · by_cases ht : t < 0
            · refine E _ ?_ (may_pn2 k t i l m a b hp h ht w)
              unfold Wok; cases m <;> simp <;> omega
            · by_cases k4 : k = 4
              · by_cases hi : 1 ≤ i
                · refine E _ ?_ (may_4y k t i l m a b hp k4 h ht hi w)
                  unfold Wok; cases m <;> simp <;> omega
                · refine E _ ?_ (may_4n k t i l m a b hp k4 h ht hi w)
                  unfold Wok; cases m <;> simp <;> omega
              · by_cases k6 : k = 6
                · by_cases hi : i = 0
                  · refine E _ ?_ (may_6y k t i l m a b hp k6 h ht hi w)
                    unfold Wok; cases m <;> simp <;> omega
                  · refine E _ ?_ (may_6n k t i l m a b hp k6 h ht hi w)
                    unfold Wok; cases m <;> simp <;> omega
                · have k5 : k = 3 ∨ k = 5 := by omega
                  by_cases hi : 1 ≤ i
                  · refine E _ ?_ (may_5y k t i l m a b hp k5 h ht hi w)
                    unfold Wok; cases m <;> simp <;> omega
                  · refine E _ ?_ (may_5n k t i l m a b hp k5 h ht hi w)
                    unfold Wok; cases m <;> simp <;> omega
          · refine E _ ?_ (may_pn1 k t i l m a b hp h w)
            unfold Wok; cases m <;> simp <;> omega
  · refine E _ ?_ (may_no k t i l m a b hk w)
    unfold Wok; cases m <;> simp <;> omega

end Go.Proofs.Ytglfmcgpbenckaa
