
/- The walks of package span's do. -/
import Derived.Test.YtgaahlnegmcakaaSpanW3
import Derived.StillTailTactics
namespace Go.Proofs.Ytgaahlnegmcakaa
open Go.RowKit
set_option linter.unusedVariables false
set_option linter.unusedSimpArgs false

theorem mul64_any (x y : Nat) (hx : x < M) (hy : y < M) (h l : Nat) (eh : x * y / M = h) (el : x * y % M = l) (w : World) :
    Calls Try.prog 37 #[.int .u64 x, .int .u64 y] w fun e w' => e = .returned (.tuple #[.int .u64 (h : Nat), .int .u64 (l : Nat)]) ∧ w = w' := by
  subst eh; subst el
  exact (Try.bits_Mul64 x y hx hy w).mono fun e w' h => ⟨h.1, h.2.symm⟩
theorem add64_run (x y : Nat) (s k : Nat) (hs : (x + y) % M = s) (hk : (x + y) / M = k) (w : World) :
    (callFunc 36 #[.int .u64 x, .int .u64 y, .int .u64 0]).run Try.prog w = .ok (.value (.tuple #[.int .u64 (s : Nat), .int .u64 (k : Nat)])) w := by
  rw [run_callFunc_extern Try.func36 (by kernel_rfl) (by kernel_rfl) (by kernel_rfl) (e := add64Entry) (by kernel_rfl), run_add64 x y 0 (by omega) (by omega) (by omega) (by omega)]
  have e1 : ((x : Int) + y + 0) % 18446744073709551616 = (s : Int) := by subst hs; unfold M; omega
  have e2 : ((x : Int) + y + 0) / 18446744073709551616 = (k : Int) := by subst hk; unfold M; omega
  rw [e1, e2]; rfl
theorem div_hid (a b : Nat) : ((a : Int) / (b : Int)) = ((a / b : Nat) : Int) := by simp

set_option maxHeartbeats 2000000 in
theorem do_1y (a b c d : Nat) (hab : a ≤ b) (hcd : c ≤ d) (hbM : b < M) (hdM : d < M) (hf : b + d < M) (w : World) :
    Calls Try.prog 28 #[.int .i64 1, .agg #[.int .u64 a, .int .u64 b], .agg #[.int .u64 c, .int .u64 d]] w fun e w' => e = .returned (.agg #[.int .u64 ((spRow 1 a b c d).1 : Nat), .int .u64 ((spRow 1 a b c d).2 : Nat)]) ∧ Below w.heap.size w w' := by
  have e : spRow 1 a b c d = (a + c, b + d) := by simp [spRow, hf]
  have HE := Lib.hid e; clear e
  have h1 := add64_run b d (b + d) 0 (Nat.mod_eq_of_lt hf) (Nat.div_eq_of_lt hf)
  have h2 : IntKind.u64.wrap ((a : Int) + (c : Int)) = ((a + c : Nat) : Int) := by rw [wrapu_add, Nat.mod_eq_of_lt (by omega)]
  clear hab hcd hbM hdM hf
  go_enter Try.func28, Try.ntmps28
  go_wp2
  refine bodyPost_ret (v := .agg #[.int .u64 ((a : Int) + (c : Int)), .int .u64 ((b : Int) + (d : Int))]) (by simp [results, Try.results28, go_sem, *]) rfl ⟨?_, (by (repeat (first | exact HB | exact Below.refl _ _ | apply below_drew | apply below_draws | refine below_set ?_ (by (try dsimp only); omega) _ | apply below_alloc)))⟩
  rw [HE.out] <;> simp

set_option maxHeartbeats 2000000 in
theorem do_1n (a b c d : Nat) (hab : a ≤ b) (hcd : c ≤ d) (hbM : b < M) (hdM : d < M) (hf : ¬ b + d < M) (w : World) :
    Calls Try.prog 28 #[.int .i64 1, .agg #[.int .u64 a, .int .u64 b], .agg #[.int .u64 c, .int .u64 d]] w fun e w' => e = .returned (.agg #[.int .u64 ((spRow 1 a b c d).1 : Nat), .int .u64 ((spRow 1 a b c d).2 : Nat)]) ∧ Below w.heap.size w w' := by
  have e : spRow 1 a b c d = (0, M - 1) := by simp [spRow, hf]
  have HE := Lib.hid e; clear e
  have h1 := add64_run b d ((b + d) % M) 1 rfl (by unfold M at *; omega)
  obtain ⟨s, hs⟩ : ∃ s, (b + d) % M = s := ⟨_, rfl⟩
  rw [hs] at h1
  clear hs hab hcd hbM hdM hf
  go_enter Try.func28, Try.ntmps28
  go_wp2_with (first | (go_at_call 22; ((with_reducible refine (all_any _).mono ?_); rintro e w1 ⟨rfl, hb⟩); have HB : Below w.heap.size w w1 := below_then (by (repeat (first | exact HB | exact Below.refl _ _ | apply below_drew | apply below_draws | refine below_set ?_ (by (try dsimp only); omega) _ | apply below_alloc))) hb; obtain ⟨hc, hf⟩ := bcell hb; have hz := hb.size; (try simp at hz); (first | (obtain ⟨y0, y1, y2, y3, y4, y5, y6, y7, y8, y9, y10, y11, _⟩ := up12 hz) | (obtain ⟨y0, y1, y2, y3, y4, y5, y6, y7, y8, y9, y10, _⟩ := up11 hz) | (obtain ⟨y0, y1, y2, y3, y4, y5, y6, y7, y8, y9, _⟩ := up10 hz) | (obtain ⟨y0, y1, y2, y3, y4, y5, y6, y7, y8, _⟩ := up9 hz) | (obtain ⟨y0, y1, y2, y3, y4, y5, y6, y7, _⟩ := up8 hz) | (obtain ⟨y0, y1, y2, y3, y4, y5, y6, _⟩ := up7 hz) | (obtain ⟨y0, y1, y2, y3, y4, y5, _⟩ := up6 hz) | (obtain ⟨y0, y1, y2, y3, y4, _⟩ := up5 hz) | (obtain ⟨y0, y1, y2, y3, _⟩ := up4 hz) | (obtain ⟨y0, y1, y2, _⟩ := up3 hz) | (obtain ⟨y0, y1, _⟩ := up2 hz) | (obtain ⟨y0, _⟩ := up1 hz) | skip); (try (have z0 : w.heap.size < w1.heap.size := by omega)); (try (have z1 : w.heap.size + 1 < w1.heap.size := by omega)); (try (have z2 : w.heap.size + 1 + 1 < w1.heap.size := by omega)); (try (have c0 : ∀ o, w1.cell? ⟨w.heap.size, o, none⟩ = _ := fun o => hc _ o (by first | (simp; done) | (simp; omega) | omega))); (try (have g0 : ∀ o, w1.frozen? ⟨w.heap.size, o, none⟩ = _ := fun o => hf _ o (by first | (simp; done) | (simp; omega) | omega))); (try (have c1 : ∀ o, w1.cell? ⟨w.heap.size + 1, o, none⟩ = _ := fun o => hc _ o (by first | (simp; done) | (simp; omega) | omega))); (try (have g1 : ∀ o, w1.frozen? ⟨w.heap.size + 1, o, none⟩ = _ := fun o => hf _ o (by first | (simp; done) | (simp; omega) | omega))); (try (have c2 : ∀ o, w1.cell? ⟨w.heap.size + 1 + 1, o, none⟩ = _ := fun o => hc _ o (by first | (simp; done) | (simp; omega) | omega))); (try (have g2 : ∀ o, w1.frozen? ⟨w.heap.size + 1 + 1, o, none⟩ = _ := fun o => hf _ o (by first | (simp; done) | (simp; omega) | omega))); clear hb hz))
  refine bodyPost_ret (v := .agg #[.int .u64 0, .int .u64 18446744073709551615]) (by simp [results, Try.results28, go_sem, *]) rfl ⟨?_, (by (repeat (first | exact HB | exact Below.refl _ _ | apply below_drew | apply below_draws | refine below_set ?_ (by (try dsimp only); omega) _ | apply below_alloc)))⟩
  rw [HE.out] <;> rfl

set_option maxHeartbeats 2000000 in
theorem do_2y (a b c d : Nat) (hab : a ≤ b) (hcd : c ≤ d) (hbM : b < M) (hdM : d < M) (hf : d ≤ a) (w : World) :
    Calls Try.prog 28 #[.int .i64 2, .agg #[.int .u64 a, .int .u64 b], .agg #[.int .u64 c, .int .u64 d]] w fun e w' => e = .returned (.agg #[.int .u64 ((spRow 2 a b c d).1 : Nat), .int .u64 ((spRow 2 a b c d).2 : Nat)]) ∧ Below w.heap.size w w' := by
  have e : spRow 2 a b c d = (a - d, b - c) := by simp [spRow, hf]
  have HE := Lib.hid e; clear e
  have h1 : IntKind.u64.wrap ((a : Int) - (d : Int)) = ((a - d : Nat) : Int) := by rw [wrapu_sub a d hdM]; unfold M at *; omega
  have h2 : IntKind.u64.wrap ((b : Int) - (c : Int)) = ((b - c : Nat) : Int) := by rw [wrapu_sub b c (by omega)]; unfold M at *; omega
  clear hab hcd hbM hdM
  go_enter Try.func28, Try.ntmps28
  go_wp2
  refine bodyPost_ret (v := .agg #[.int .u64 ((a - d : Nat) : Int), .int .u64 ((b - c : Nat) : Int)]) (by simp [results, Try.results28, go_sem, *]) rfl ⟨?_, (by (repeat (first | exact HB | exact Below.refl _ _ | apply below_drew | apply below_draws | refine below_set ?_ (by (try dsimp only); omega) _ | apply below_alloc)))⟩
  rw [HE.out]

set_option maxHeartbeats 2000000 in
theorem do_2n (a b c d : Nat) (hab : a ≤ b) (hcd : c ≤ d) (hbM : b < M) (hdM : d < M) (hf : ¬ d ≤ a) (w : World) :
    Calls Try.prog 28 #[.int .i64 2, .agg #[.int .u64 a, .int .u64 b], .agg #[.int .u64 c, .int .u64 d]] w fun e w' => e = .returned (.agg #[.int .u64 ((spRow 2 a b c d).1 : Nat), .int .u64 ((spRow 2 a b c d).2 : Nat)]) ∧ Below w.heap.size w w' := by
  have e : spRow 2 a b c d = (0, M - 1) := by simp [spRow, hf]
  have HE := Lib.hid e; clear e
  clear hab hcd hbM hdM
  go_enter Try.func28, Try.ntmps28
  go_wp2_with (first | (go_at_call 22; ((with_reducible refine (all_any _).mono ?_); rintro e w1 ⟨rfl, hb⟩); have HB : Below w.heap.size w w1 := below_then (by (repeat (first | exact HB | exact Below.refl _ _ | apply below_drew | apply below_draws | refine below_set ?_ (by (try dsimp only); omega) _ | apply below_alloc))) hb; obtain ⟨hc, hf⟩ := bcell hb; have hz := hb.size; (try simp at hz); (first | (obtain ⟨y0, y1, y2, y3, y4, y5, y6, y7, y8, y9, y10, y11, _⟩ := up12 hz) | (obtain ⟨y0, y1, y2, y3, y4, y5, y6, y7, y8, y9, y10, _⟩ := up11 hz) | (obtain ⟨y0, y1, y2, y3, y4, y5, y6, y7, y8, y9, _⟩ := up10 hz) | (obtain ⟨y0, y1, y2, y3, y4, y5, y6, y7, y8, _⟩ := up9 hz) | (obtain ⟨y0, y1, y2, y3, y4, y5, y6, y7, _⟩ := up8 hz) | (obtain ⟨y0, y1, y2, y3, y4, y5, y6, _⟩ := up7 hz) | (obtain ⟨y0, y1, y2, y3, y4, y5, _⟩ := up6 hz) | (obtain ⟨y0, y1, y2, y3, y4, _⟩ := up5 hz) | (obtain ⟨y0, y1, y2, y3, _⟩ := up4 hz) | (obtain ⟨y0, y1, y2, _⟩ := up3 hz) | (obtain ⟨y0, y1, _⟩ := up2 hz) | (obtain ⟨y0, _⟩ := up1 hz) | skip); (try (have z0 : w.heap.size < w1.heap.size := by omega)); (try (have z1 : w.heap.size + 1 < w1.heap.size := by omega)); (try (have z2 : w.heap.size + 1 + 1 < w1.heap.size := by omega)); (try (have c0 : ∀ o, w1.cell? ⟨w.heap.size, o, none⟩ = _ := fun o => hc _ o (by first | (simp; done) | (simp; omega) | omega))); (try (have g0 : ∀ o, w1.frozen? ⟨w.heap.size, o, none⟩ = _ := fun o => hf _ o (by first | (simp; done) | (simp; omega) | omega))); (try (have c1 : ∀ o, w1.cell? ⟨w.heap.size + 1, o, none⟩ = _ := fun o => hc _ o (by first | (simp; done) | (simp; omega) | omega))); (try (have g1 : ∀ o, w1.frozen? ⟨w.heap.size + 1, o, none⟩ = _ := fun o => hf _ o (by first | (simp; done) | (simp; omega) | omega))); (try (have c2 : ∀ o, w1.cell? ⟨w.heap.size + 1 + 1, o, none⟩ = _ := fun o => hc _ o (by first | (simp; done) | (simp; omega) | omega))); (try (have g2 : ∀ o, w1.frozen? ⟨w.heap.size + 1 + 1, o, none⟩ = _ := fun o => hf _ o (by first | (simp; done) | (simp; omega) | omega))); clear hb hz))
  refine bodyPost_ret (v := .agg #[.int .u64 0, .int .u64 18446744073709551615]) (by simp [results, Try.results28, go_sem, *]) rfl ⟨?_, (by (repeat (first | exact HB | exact Below.refl _ _ | apply below_drew | apply below_draws | refine below_set ?_ (by (try dsimp only); omega) _ | apply below_alloc)))⟩
  rw [HE.out] <;> rfl

set_option maxHeartbeats 2000000 in
theorem do_3y (a b c d : Nat) (hab : a ≤ b) (hcd : c ≤ d) (hbM : b < M) (hdM : d < M) (hf : b * d < M) (w : World) :
    Calls Try.prog 28 #[.int .i64 3, .agg #[.int .u64 a, .int .u64 b], .agg #[.int .u64 c, .int .u64 d]] w fun e w' => e = .returned (.agg #[.int .u64 ((spRow 3 a b c d).1 : Nat), .int .u64 ((spRow 3 a b c d).2 : Nat)]) ∧ Below w.heap.size w w' := by
  have e : spRow 3 a b c d = (a * c, b * d) := by simp [spRow, hf]
  have HE := Lib.hid e; clear e
  have C := mul64_any b d hbM hdM 0 (b * d) (Nat.div_eq_of_lt hf) (Nat.mod_eq_of_lt hf)
  have h2 : IntKind.u64.wrap ((a : Int) * (c : Int)) = ((a * c : Nat) : Int) := by rw [wrapu_mul, Nat.mod_eq_of_lt (Nat.lt_of_le_of_lt (Nat.mul_le_mul hab hcd) hf)]
  clear hab hcd hbM hdM hf
  go_enter Try.func28, Try.ntmps28
  go_wp2_with (first | (go_at_call 37; ((with_reducible refine (C _).mono ?_); rintro e w' ⟨rfl, rfl⟩)))
  refine bodyPost_ret (v := .agg #[.int .u64 ((a : Int) * (c : Int)), .int .u64 ((b : Int) * (d : Int))]) (by simp [results, Try.results28, go_sem, *]) rfl ⟨?_, (by (repeat (first | exact HB | exact Below.refl _ _ | apply below_drew | apply below_draws | refine below_set ?_ (by (try dsimp only); omega) _ | apply below_alloc)))⟩
  rw [HE.out] <;> simp

set_option maxHeartbeats 2000000 in
theorem do_3n (a b c d : Nat) (hab : a ≤ b) (hcd : c ≤ d) (hbM : b < M) (hdM : d < M) (hf : ¬ b * d < M) (w : World) :
    Calls Try.prog 28 #[.int .i64 3, .agg #[.int .u64 a, .int .u64 b], .agg #[.int .u64 c, .int .u64 d]] w fun e w' => e = .returned (.agg #[.int .u64 ((spRow 3 a b c d).1 : Nat), .int .u64 ((spRow 3 a b c d).2 : Nat)]) ∧ Below w.heap.size w w' := by
  have e : spRow 3 a b c d = (0, M - 1) := by simp [spRow, hf]
  have HE := Lib.hid e; clear e
  obtain ⟨h, eh⟩ : ∃ h, b * d / M = h := ⟨_, rfl⟩
  obtain ⟨l, el⟩ : ∃ l, b * d % M = l := ⟨_, rfl⟩
  have C := mul64_any b d hbM hdM h l eh el
  have hn : ¬ h = 0 := by rw [← eh]; intro hh; exact hf ((Nat.div_eq_zero_iff_lt M_pos).1 hh)
  have hn2 : ((h : Int) == 0) = false := by simp [hn]
  clear eh el hab hcd hbM hdM hf
  go_enter Try.func28, Try.ntmps28
  go_wp2_with (first | (go_at_call 37; ((with_reducible refine (C _).mono ?_); rintro e w' ⟨rfl, rfl⟩)) | (go_at_call 22; ((with_reducible refine (all_any _).mono ?_); rintro e w1 ⟨rfl, hb⟩); have HB : Below w.heap.size w w1 := below_then (by (repeat (first | exact HB | exact Below.refl _ _ | apply below_drew | apply below_draws | refine below_set ?_ (by (try dsimp only); omega) _ | apply below_alloc))) hb; obtain ⟨hc, hf⟩ := bcell hb; have hz := hb.size; (try simp at hz); (first | (obtain ⟨y0, y1, y2, y3, y4, y5, y6, y7, y8, y9, y10, y11, _⟩ := up12 hz) | (obtain ⟨y0, y1, y2, y3, y4, y5, y6, y7, y8, y9, y10, _⟩ := up11 hz) | (obtain ⟨y0, y1, y2, y3, y4, y5, y6, y7, y8, y9, _⟩ := up10 hz) | (obtain ⟨y0, y1, y2, y3, y4, y5, y6, y7, y8, _⟩ := up9 hz) | (obtain ⟨y0, y1, y2, y3, y4, y5, y6, y7, _⟩ := up8 hz) | (obtain ⟨y0, y1, y2, y3, y4, y5, y6, _⟩ := up7 hz) | (obtain ⟨y0, y1, y2, y3, y4, y5, _⟩ := up6 hz) | (obtain ⟨y0, y1, y2, y3, y4, _⟩ := up5 hz) | (obtain ⟨y0, y1, y2, y3, _⟩ := up4 hz) | (obtain ⟨y0, y1, y2, _⟩ := up3 hz) | (obtain ⟨y0, y1, _⟩ := up2 hz) | (obtain ⟨y0, _⟩ := up1 hz) | skip); (try (have z0 : w.heap.size < w1.heap.size := by omega)); (try (have z1 : w.heap.size + 1 < w1.heap.size := by omega)); (try (have z2 : w.heap.size + 1 + 1 < w1.heap.size := by omega)); (try (have c0 : ∀ o, w1.cell? ⟨w.heap.size, o, none⟩ = _ := fun o => hc _ o (by first | (simp; done) | (simp; omega) | omega))); (try (have g0 : ∀ o, w1.frozen? ⟨w.heap.size, o, none⟩ = _ := fun o => hf _ o (by first | (simp; done) | (simp; omega) | omega))); (try (have c1 : ∀ o, w1.cell? ⟨w.heap.size + 1, o, none⟩ = _ := fun o => hc _ o (by first | (simp; done) | (simp; omega) | omega))); (try (have g1 : ∀ o, w1.frozen? ⟨w.heap.size + 1, o, none⟩ = _ := fun o => hf _ o (by first | (simp; done) | (simp; omega) | omega))); (try (have c2 : ∀ o, w1.cell? ⟨w.heap.size + 1 + 1, o, none⟩ = _ := fun o => hc _ o (by first | (simp; done) | (simp; omega) | omega))); (try (have g2 : ∀ o, w1.frozen? ⟨w.heap.size + 1 + 1, o, none⟩ = _ := fun o => hf _ o (by first | (simp; done) | (simp; omega) | omega))); clear hb hz))
  refine bodyPost_ret (v := .agg #[.int .u64 0, .int .u64 18446744073709551615]) (by simp [results, Try.results28, go_sem, *]) rfl ⟨?_, (by (repeat (first | exact HB | exact Below.refl _ _ | apply below_drew | apply below_draws | refine below_set ?_ (by (try dsimp only); omega) _ | apply below_alloc)))⟩
  rw [HE.out] <;> rfl

set_option maxHeartbeats 2000000 in
theorem do_4z (a b c d : Nat) (hab : a ≤ b) (hcd : c ≤ d) (hbM : b < M) (hdM : d < M) (hf : c = 0) (w : World) :
    Calls Try.prog 28 #[.int .i64 4, .agg #[.int .u64 a, .int .u64 b], .agg #[.int .u64 c, .int .u64 d]] w fun e w' => e = .returned (.agg #[.int .u64 ((spRow 4 a b c d).1 : Nat), .int .u64 ((spRow 4 a b c d).2 : Nat)]) ∧ Below w.heap.size w w' := by
  have e : spRow 4 a b c d = (0, b) := by simp [spRow, hf]
  have HE := Lib.hid e; clear e
  have hc0 : ((c : Int) == 0) = true := by simp [hf]
  clear hab hcd hbM hdM hf
  go_enter Try.func28, Try.ntmps28
  go_wp2
  refine bodyPost_ret (v := .agg #[.int .u64 0, .int .u64 b]) (by simp [results, Try.results28, go_sem, *]) rfl ⟨?_, (by (repeat (first | exact HB | exact Below.refl _ _ | apply below_drew | apply below_draws | refine below_set ?_ (by (try dsimp only); omega) _ | apply below_alloc)))⟩
  rw [HE.out] <;> rfl

set_option maxHeartbeats 2000000 in
theorem do_4n (a b c d : Nat) (hab : a ≤ b) (hcd : c ≤ d) (hbM : b < M) (hdM : d < M) (hf : ¬ c = 0) (w : World) :
    Calls Try.prog 28 #[.int .i64 4, .agg #[.int .u64 a, .int .u64 b], .agg #[.int .u64 c, .int .u64 d]] w fun e w' => e = .returned (.agg #[.int .u64 ((spRow 4 a b c d).1 : Nat), .int .u64 ((spRow 4 a b c d).2 : Nat)]) ∧ Below w.heap.size w w' := by
  have e : spRow 4 a b c d = (a / d, b / c) := by simp [spRow, hf]
  have HE := Lib.hid e; clear e
  have hc0 : ((c : Int) == 0) = false := by simp [hf]
  have hd0 : ¬ d = 0 := by omega
  have h1 : IntKind.u64.wrap ((a : Int) / (d : Int)) = (a : Int) / (d : Int) := by rw [div_hid, wrapu_nat, Nat.mod_eq_of_lt (Nat.lt_of_le_of_lt (Nat.div_le_self _ _) (by omega))]
  have h2 : IntKind.u64.wrap ((b : Int) / (c : Int)) = (b : Int) / (c : Int) := by rw [div_hid, wrapu_nat, Nat.mod_eq_of_lt (Nat.lt_of_le_of_lt (Nat.div_le_self _ _) hbM)]
  clear hab hcd hbM hdM
  go_enter Try.func28, Try.ntmps28
  go_wp2
  go_region
  go_wp2
  refine bodyPost_ret (v := .agg #[.int .u64 ((a : Int) / (d : Int)), .int .u64 ((b : Int) / (c : Int))]) (by simp [results, Try.results28, go_sem, *]) rfl ⟨?_, (by (repeat (first | exact HB | exact Below.refl _ _ | apply below_drew | apply below_draws | refine below_set ?_ (by (try dsimp only); omega) _ | apply below_alloc)))⟩
  rw [HE.out] <;> simp

set_option maxHeartbeats 2000000 in
theorem do_5 (a b c d : Nat) (hab : a ≤ b) (hcd : c ≤ d) (hbM : b < M) (hdM : d < M)  (w : World) :
    Calls Try.prog 28 #[.int .i64 5, .agg #[.int .u64 a, .int .u64 b], .agg #[.int .u64 c, .int .u64 d]] w fun e w' => e = .returned (.agg #[.int .u64 ((spRow 5 a b c d).1 : Nat), .int .u64 ((spRow 5 a b c d).2 : Nat)]) ∧ Below w.heap.size w w' := by
  have C := mod_any a b c d hcd hdM
  clear hab hcd hbM hdM
  go_enter Try.func28, Try.ntmps28
  go_wp2_with (first | (go_at_call 38; ((with_reducible refine (C _).mono ?_); rintro e w1 ⟨rfl, hb⟩); have HB : Below w.heap.size w w1 := below_then (by (repeat (first | exact HB | exact Below.refl _ _ | apply below_drew | apply below_draws | refine below_set ?_ (by (try dsimp only); omega) _ | apply below_alloc))) hb; obtain ⟨hc, hf⟩ := bcell hb; have hz := hb.size; (try simp at hz); (first | (obtain ⟨y0, y1, y2, y3, y4, y5, y6, y7, y8, y9, y10, y11, _⟩ := up12 hz) | (obtain ⟨y0, y1, y2, y3, y4, y5, y6, y7, y8, y9, y10, _⟩ := up11 hz) | (obtain ⟨y0, y1, y2, y3, y4, y5, y6, y7, y8, y9, _⟩ := up10 hz) | (obtain ⟨y0, y1, y2, y3, y4, y5, y6, y7, y8, _⟩ := up9 hz) | (obtain ⟨y0, y1, y2, y3, y4, y5, y6, y7, _⟩ := up8 hz) | (obtain ⟨y0, y1, y2, y3, y4, y5, y6, _⟩ := up7 hz) | (obtain ⟨y0, y1, y2, y3, y4, y5, _⟩ := up6 hz) | (obtain ⟨y0, y1, y2, y3, y4, _⟩ := up5 hz) | (obtain ⟨y0, y1, y2, y3, _⟩ := up4 hz) | (obtain ⟨y0, y1, y2, _⟩ := up3 hz) | (obtain ⟨y0, y1, _⟩ := up2 hz) | (obtain ⟨y0, _⟩ := up1 hz) | skip); (try (have z0 : w.heap.size < w1.heap.size := by omega)); (try (have z1 : w.heap.size + 1 < w1.heap.size := by omega)); (try (have z2 : w.heap.size + 1 + 1 < w1.heap.size := by omega)); (try (have c0 : ∀ o, w1.cell? ⟨w.heap.size, o, none⟩ = _ := fun o => hc _ o (by first | (simp; done) | (simp; omega) | omega))); (try (have g0 : ∀ o, w1.frozen? ⟨w.heap.size, o, none⟩ = _ := fun o => hf _ o (by first | (simp; done) | (simp; omega) | omega))); (try (have c1 : ∀ o, w1.cell? ⟨w.heap.size + 1, o, none⟩ = _ := fun o => hc _ o (by first | (simp; done) | (simp; omega) | omega))); (try (have g1 : ∀ o, w1.frozen? ⟨w.heap.size + 1, o, none⟩ = _ := fun o => hf _ o (by first | (simp; done) | (simp; omega) | omega))); (try (have c2 : ∀ o, w1.cell? ⟨w.heap.size + 1 + 1, o, none⟩ = _ := fun o => hc _ o (by first | (simp; done) | (simp; omega) | omega))); (try (have g2 : ∀ o, w1.frozen? ⟨w.heap.size + 1 + 1, o, none⟩ = _ := fun o => hf _ o (by first | (simp; done) | (simp; omega) | omega))); clear hb hz))
  refine bodyPost_ret (v := .agg #[.int .u64 ((spRow 5 a b c d).1 : Nat), .int .u64 ((spRow 5 a b c d).2 : Nat)]) (by simp [results, Try.results28, go_sem, *]) rfl ⟨?_, (by (repeat (first | exact HB | exact Below.refl _ _ | apply below_drew | apply below_draws | refine below_set ?_ (by (try dsimp only); omega) _ | apply below_alloc)))⟩
  rfl

set_option maxHeartbeats 2000000 in
theorem do_6 (a b c d : Nat) (hab : a ≤ b) (hcd : c ≤ d) (hbM : b < M) (hdM : d < M)  (w : World) :
    Calls Try.prog 28 #[.int .i64 6, .agg #[.int .u64 a, .int .u64 b], .agg #[.int .u64 c, .int .u64 d]] w fun e w' => e = .returned (.agg #[.int .u64 ((spRow 6 a b c d).1 : Nat), .int .u64 ((spRow 6 a b c d).2 : Nat)]) ∧ Below w.heap.size w w' := by
  have e : spRow 6 a b c d = (0, min b d) := by rfl
  have HE := Lib.hid e; clear e
  clear hab hcd hbM hdM
  go_enter Try.func28, Try.ntmps28
  go_wp2
  refine bodyPost_ret (v := .agg #[.int .u64 0, .int .u64 (min (b : Int) (d : Int))]) (by simp [results, Try.results28, go_sem, *]) rfl ⟨?_, (by (repeat (first | exact HB | exact Below.refl _ _ | apply below_drew | apply below_draws | refine below_set ?_ (by (try dsimp only); omega) _ | apply below_alloc)))⟩
  rw [HE.out]; exact ret_sp0 (by omega)

set_option maxHeartbeats 2000000 in
theorem do_8 (a b c d : Nat) (hab : a ≤ b) (hcd : c ≤ d) (hbM : b < M) (hdM : d < M)  (w : World) :
    Calls Try.prog 28 #[.int .i64 8, .agg #[.int .u64 a, .int .u64 b], .agg #[.int .u64 c, .int .u64 d]] w fun e w' => e = .returned (.agg #[.int .u64 ((spRow 8 a b c d).1 : Nat), .int .u64 ((spRow 8 a b c d).2 : Nat)]) ∧ Below w.heap.size w w' := by
  have e : spRow 8 a b c d = (0, filledV (b ||| d)) := by rfl
  have HE := Lib.hid e; clear e
  have hor := bits_or b d hbM hdM
  have hlt := or_lt b d hbM hdM
  obtain ⟨o, ho⟩ : ∃ o, b ||| d = o := ⟨_, rfl⟩
  rw [ho] at hor hlt HE
  have C := filled_any o hlt
  clear ho hlt hab hcd hbM hdM
  go_enter Try.func28, Try.ntmps28
  go_wp2_with (first | (go_at_call 39; ((with_reducible refine (C _).mono ?_); rintro e w' ⟨rfl, rfl⟩)))
  refine bodyPost_ret (v := .agg #[.int .u64 0, .int .u64 ((filledV o : Nat) : Int)]) (by simp [results, Try.results28, go_sem, *]) rfl ⟨?_, (by (repeat (first | exact HB | exact Below.refl _ _ | apply below_drew | apply below_draws | refine below_set ?_ (by (try dsimp only); omega) _ | apply below_alloc)))⟩
  rw [HE.out] <;> rfl

set_option maxHeartbeats 2000000 in
theorem do_7 (a b c d : Nat) (hbM : b < M) (hdM : d < M) (w : World) :
    Calls Try.prog 28 #[.int .i64 7, .agg #[.int .u64 a, .int .u64 b], .agg #[.int .u64 c, .int .u64 d]] w fun e w' => e = .returned (.agg #[.int .u64 ((spRow 7 a b c d).1 : Nat), .int .u64 ((spRow 7 a b c d).2 : Nat)]) ∧ Below w.heap.size w w' := by
  have e : spRow 7 a b c d = (max a c, filledV (b ||| d)) := rfl
  have HE := Lib.hid e; clear e
  have hor := bits_or b d hbM hdM
  have hlt := or_lt b d hbM hdM
  obtain ⟨o, ho⟩ : ∃ o, b ||| d = o := ⟨_, rfl⟩
  rw [ho] at hor hlt HE
  have C := filled_any o hlt
  clear ho hlt hbM hdM
  go_enter Try.func28, Try.ntmps28
  go_wp2
  go_region_held3 (fun w' => w'.cell? ⟨w.heap.size, 0, none⟩ = some (.int .u64 a) ∧ w'.cell? ⟨w.heap.size, 1, none⟩ = some (.int .u64 b) ∧ w'.cell? ⟨w.heap.size + 1, 0, none⟩ = some (.int .u64 c) ∧ w'.cell? ⟨w.heap.size + 1, 1, none⟩ = some (.int .u64 d)) (go_keep) (first | (go_at_call 39; refine (C _).mono ?_; rintro e w' ⟨rfl, rfl⟩))
  all_goals
    go_wp2
    refine bodyPost_ret (v := .agg #[.int .u64 (max (a : Int) (c : Int)), .int .u64 ((filledV o : Nat) : Int)]) (by simp [results, Try.results28, go_sem, *]) rfl ⟨?_, (by (repeat (first | exact HB | exact Below.refl _ _ | apply below_drew | apply below_draws | refine below_set ?_ (by (try dsimp only); omega) _ | apply below_alloc)))⟩
    rw [HE.out]
    exact ret_spi (p := (max a c, filledV o)) (by show max (a : Int) c = ((max a c : Nat) : Int); omega) rfl

theorem do_any (op : Int) (h1 : 1 ≤ op) (h2 : op ≤ 11) (a b c d : Nat) (hab : a ≤ b) (hcd : c ≤ d) (hb : b < M) (hd : d < M) (w : World) :
    Calls Try.prog 28 #[.int .i64 op, .agg #[.int .u64 a, .int .u64 b], .agg #[.int .u64 c, .int .u64 d]] w fun e w' => e = .returned (.agg #[.int .u64 ((spRow op a b c d).1 : Nat), .int .u64 ((spRow op a b c d).2 : Nat)]) ∧ Below w.heap.size w w' := by
  by_cases o1 : op = 1
  · subst o1
    by_cases hf : b + d < M
    · exact do_1y a b c d hab hcd hb hd hf w
    · exact do_1n a b c d hab hcd hb hd hf w
  by_cases o2 : op = 2
  · subst o2
    by_cases hf : d ≤ a
    · exact do_2y a b c d hab hcd hb hd hf w
    · exact do_2n a b c d hab hcd hb hd hf w
  by_cases o3 : op = 3
  · subst o3
    by_cases hf : b * d < M
    · exact do_3y a b c d hab hcd hb hd hf w
    · exact do_3n a b c d hab hcd hb hd hf w
  by_cases o4 : op = 4
  · subst o4
    by_cases hf : c = 0
    · exact do_4z a b c d hab hcd hb hd hf w
    · exact do_4n a b c d hab hcd hb hd hf w
  by_cases o5 : op = 5
  · subst o5; exact do_5 a b c d hab hcd hb hd w
  by_cases o6 : op = 6
  · subst o6; exact do_6 a b c d hab hcd hb hd w
  by_cases o7 : op = 7
  · subst o7; exact do_7 a b c d hb hd w
  by_cases o8 : op = 8
  · subst o8; exact do_8 a b c d hab hcd hb hd w
  have e1 : (op == 1) = false := by simp [o1]
  have e2 : (op == 2) = false := by simp [o2]
  have e3 : (op == 3) = false := by simp [o3]
  have e4 : (op == 4) = false := by simp [o4]
  have e5 : (op == 5) = false := by simp [o5]
  have e6 : (op == 6) = false := by simp [o6]
  have e7 : (op == 7) = false := by simp [o7]
  have e8 : (op == 8) = false := by simp [o8]
  have C := shift_any op (by omega) a b c d hab hb
  clear o1 o2 o3 o4 o5 o6 o7 o8 h1 h2 hab hcd hb hd
  go_enter Try.func28, Try.ntmps28
  go_wp2_with (first | (go_at_call 40; ((with_reducible refine (C _).mono ?_); rintro e w1 ⟨rfl, hb⟩); have HB : Below w.heap.size w w1 := below_then (by (repeat (first | exact HB | exact Below.refl _ _ | apply below_drew | apply below_draws | refine below_set ?_ (by (try dsimp only); omega) _ | apply below_alloc))) hb; obtain ⟨hc, hf⟩ := bcell hb; have hz := hb.size; (try simp at hz); (first | (obtain ⟨y0, y1, y2, y3, y4, y5, y6, y7, y8, y9, y10, y11, _⟩ := up12 hz) | (obtain ⟨y0, y1, y2, y3, y4, y5, y6, y7, y8, y9, y10, _⟩ := up11 hz) | (obtain ⟨y0, y1, y2, y3, y4, y5, y6, y7, y8, y9, _⟩ := up10 hz) | (obtain ⟨y0, y1, y2, y3, y4, y5, y6, y7, y8, _⟩ := up9 hz) | (obtain ⟨y0, y1, y2, y3, y4, y5, y6, y7, _⟩ := up8 hz) | (obtain ⟨y0, y1, y2, y3, y4, y5, y6, _⟩ := up7 hz) | (obtain ⟨y0, y1, y2, y3, y4, y5, _⟩ := up6 hz) | (obtain ⟨y0, y1, y2, y3, y4, _⟩ := up5 hz) | (obtain ⟨y0, y1, y2, y3, _⟩ := up4 hz) | (obtain ⟨y0, y1, y2, _⟩ := up3 hz) | (obtain ⟨y0, y1, _⟩ := up2 hz) | (obtain ⟨y0, _⟩ := up1 hz) | skip); (try (have z0 : w.heap.size < w1.heap.size := by omega)); (try (have z1 : w.heap.size + 1 < w1.heap.size := by omega)); (try (have z2 : w.heap.size + 1 + 1 < w1.heap.size := by omega)); (try (have c0 : ∀ o, w1.cell? ⟨w.heap.size, o, none⟩ = _ := fun o => hc _ o (by first | (simp; done) | (simp; omega) | omega))); (try (have g0 : ∀ o, w1.frozen? ⟨w.heap.size, o, none⟩ = _ := fun o => hf _ o (by first | (simp; done) | (simp; omega) | omega))); (try (have c1 : ∀ o, w1.cell? ⟨w.heap.size + 1, o, none⟩ = _ := fun o => hc _ o (by first | (simp; done) | (simp; omega) | omega))); (try (have g1 : ∀ o, w1.frozen? ⟨w.heap.size + 1, o, none⟩ = _ := fun o => hf _ o (by first | (simp; done) | (simp; omega) | omega))); (try (have c2 : ∀ o, w1.cell? ⟨w.heap.size + 1 + 1, o, none⟩ = _ := fun o => hc _ o (by first | (simp; done) | (simp; omega) | omega))); (try (have g2 : ∀ o, w1.frozen? ⟨w.heap.size + 1 + 1, o, none⟩ = _ := fun o => hf _ o (by first | (simp; done) | (simp; omega) | omega))); clear hb hz))
  exact bodyPost_ret (v := .agg #[.int .u64 ((spRow op a b c d).1 : Nat), .int .u64 ((spRow op a b c d).2 : Nat)]) (by simp [results, Try.results28, go_sem, *]) rfl ⟨rfl, (by (repeat (first | exact HB | exact Below.refl _ _ | apply below_drew | apply below_draws | refine below_set ?_ (by (try dsimp only); omega) _ | apply below_alloc)))⟩

end Go.Proofs.Ytgaahlnegmcakaa
