
/- The walks of the document's answer of chapter 8 (package turnbuckleref08): Do, further rows. -/
import Derived.Test.YtgaahlnegmcakaaSpanR2
import Derived.Test.YtgaahlnegmcakaaAluRefW2
import Derived.Test.YtgaahlnegmcakaaSpanW4
namespace Go.Proofs.Ytgaahlnegmcakaa
open Go.RowKit
set_option linter.unusedVariables false
set_option linter.unusedSimpArgs false

theorem most_q4 (w : World) : Calls Try.prog 31 #[] w fun e w' => e = .returned (.int .u64 (mostN : Nat)) ∧ w' = w := (most_any w).mono fun e w' h => ⟨h.1, h.2.symm⟩

set_option maxRecDepth 100000 in
set_option maxHeartbeats 2000000 in
theorem rdo_5a1 (a b c d : Nat) (hab : a ≤ b) (hcd : c ≤ d) (hbM : b < M) (hdM : d < M) (hs : decide (a = b) = false ∨ decide (c = d) = false) (h1 : b < c) (w : World) :
    Calls Try.prog 13 #[.int .i64 5, .agg #[.int .u64 a, .int .u64 b], .agg #[.int .u64 c, .int .u64 d]] w fun e w' => e = .returned (.tuple #[.agg #[.int .u64 ((spRow 5 a b c d).1 : Nat), .int .u64 ((spRow 5 a b c d).2 : Nat)], .int .i64 0]) ∧ Below w.heap.size w w' := by
  have e : spRow 5 a b c d = (a, b) := by unfold spRow; rw [if_neg (by decide), if_neg (by decide), if_neg (by decide), if_neg (by decide), if_pos rfl, if_pos (by omega)]
  have HE := Lib.hid e; clear e
  have hk64 : c % 64 ≤ 64 := Nat.le_of_lt (Nat.mod_lt _ (by decide))
  have CP0 := pow_any (c % 64) hk64
  have hpp : ¬ pw (c % 64) = 0 := pw_pos _ (Nat.mod_lt _ (by decide))
  obtain ⟨k, hk⟩ : ∃ k, c % 64 = k := ⟨_, rfl⟩
  have hki : (c : Int) % 64 = (k : Int) := by omega
  have CO := refDo_any 7 b d hbM hdM
  obtain ⟨o, ho⟩ : ∃ o, aluV 7 b d = o := ⟨_, rfl⟩
  rw [ho, show aluE 7 = 0 by decide] at CO
  rw [hk] at CP0 hk64 hpp
  obtain ⟨P, hP⟩ : ∃ P, pw k = P := ⟨_, rfl⟩
  have CP := CP0
  rw [hP] at CP hpp
  clear CP0
  have HO := Lib.hid ho; clear ho
  have HK := Lib.hid hk; clear hk
  have HP := Lib.hid hP; clear hP
  clear hbM hdM
  have hs' : (a = b ∧ ¬ c = d) ∨ ¬ a = b := by
    rcases hs with hs | hs
    · right; simpa using hs
    · by_cases h : a = b
      · left; exact ⟨h, by simpa using hs⟩
      · right; exact h
  clear hs
  rcases hs' with ⟨hs1, hs2⟩ | hs1
  · have s1 : ((a : Int) == (b : Int)) = true := by simp [hs1]
    have s2 : ((c : Int) == (d : Int)) = false := by simp; omega
    have HS1 := Lib.hid hs1; clear hs1
    have HS2 := Lib.hid hs2; clear hs2
    go_enter Try.func13, Try.ntmps13
    go_wp2_with (first | (go_at_call 18; ((with_reducible refine (rmay_any _ _ _).mono ?_); rintro e w1 ⟨rfl, hb⟩); have HB : Below w.heap.size w w1 := below_then (by (repeat (first | exact HB | exact Below.refl _ _ | apply below_drew | apply below_draws | refine below_set ?_ (by (try dsimp only); omega) _ | apply below_alloc))) hb; obtain ⟨hc, hf⟩ := bcell hb; have hz := hb.size; (try simp at hz); (first | (obtain ⟨y0, y1, y2, y3, y4, y5, y6, y7, y8, y9, y10, y11, _⟩ := up12 hz) | (obtain ⟨y0, y1, y2, y3, y4, y5, y6, y7, y8, y9, y10, _⟩ := up11 hz) | (obtain ⟨y0, y1, y2, y3, y4, y5, y6, y7, y8, y9, _⟩ := up10 hz) | (obtain ⟨y0, y1, y2, y3, y4, y5, y6, y7, y8, _⟩ := up9 hz) | (obtain ⟨y0, y1, y2, y3, y4, y5, y6, y7, _⟩ := up8 hz) | (obtain ⟨y0, y1, y2, y3, y4, y5, y6, _⟩ := up7 hz) | (obtain ⟨y0, y1, y2, y3, y4, y5, _⟩ := up6 hz) | (obtain ⟨y0, y1, y2, y3, y4, _⟩ := up5 hz) | (obtain ⟨y0, y1, y2, y3, _⟩ := up4 hz) | (obtain ⟨y0, y1, y2, _⟩ := up3 hz) | (obtain ⟨y0, y1, _⟩ := up2 hz) | (obtain ⟨y0, _⟩ := up1 hz) | skip); (try (have z0 : w.heap.size < w1.heap.size := by omega)); (try (have z1 : w.heap.size + 1 < w1.heap.size := by omega)); (try (have z2 : w.heap.size + 1 + 1 < w1.heap.size := by omega)); (try (have c0 : ∀ o, w1.cell? ⟨w.heap.size, o, none⟩ = _ := fun o => hc _ o (by first | (simp; done) | (simp; omega) | omega))); (try (have g0 : ∀ o, w1.frozen? ⟨w.heap.size, o, none⟩ = _ := fun o => hf _ o (by first | (simp; done) | (simp; omega) | omega))); (try (have c1 : ∀ o, w1.cell? ⟨w.heap.size + 1, o, none⟩ = _ := fun o => hc _ o (by first | (simp; done) | (simp; omega) | omega))); (try (have g1 : ∀ o, w1.frozen? ⟨w.heap.size + 1, o, none⟩ = _ := fun o => hf _ o (by first | (simp; done) | (simp; omega) | omega))); (try (have c2 : ∀ o, w1.cell? ⟨w.heap.size + 1 + 1, o, none⟩ = _ := fun o => hc _ o (by first | (simp; done) | (simp; omega) | omega))); (try (have g2 : ∀ o, w1.frozen? ⟨w.heap.size + 1 + 1, o, none⟩ = _ := fun o => hf _ o (by first | (simp; done) | (simp; omega) | omega))); clear hb hz) | (go_at_call 32; ((with_reducible refine (CP _).mono ?_); rintro e w' ⟨rfl, rfl⟩)) | (go_at_call 29; ((with_reducible refine (CO _).mono ?_); rintro e w' ⟨rfl, rfl⟩)) | (go_at_call 31; ((with_reducible refine (most_any _).mono ?_); rintro e w' ⟨rfl, rfl⟩)) | (go_at_call 30; ((with_reducible refine (to_any _ _ _).mono ?_); rintro e w' ⟨rfl, rfl⟩)))
    refine bodyPost_ret (v := .tuple #[.agg #[.int .u64 a, .int .u64 b], .int .i64 0]) (by simp [results, Try.results13, go_sem, *]) rfl ⟨?_, (by (repeat (first | exact HB | exact Below.refl _ _ | apply below_drew | apply below_draws | refine below_set ?_ (by (try dsimp only); omega) _ | apply below_alloc)))⟩
    rw [HE.out]
  · have s1 : ((a : Int) == (b : Int)) = false := by simp; omega
    have HS1 := Lib.hid hs1; clear hs1
    go_enter Try.func13, Try.ntmps13
    go_wp2_with (first | (go_at_call 18; ((with_reducible refine (rmay_any _ _ _).mono ?_); rintro e w1 ⟨rfl, hb⟩); have HB : Below w.heap.size w w1 := below_then (by (repeat (first | exact HB | exact Below.refl _ _ | apply below_drew | apply below_draws | refine below_set ?_ (by (try dsimp only); omega) _ | apply below_alloc))) hb; obtain ⟨hc, hf⟩ := bcell hb; have hz := hb.size; (try simp at hz); (first | (obtain ⟨y0, y1, y2, y3, y4, y5, y6, y7, y8, y9, y10, y11, _⟩ := up12 hz) | (obtain ⟨y0, y1, y2, y3, y4, y5, y6, y7, y8, y9, y10, _⟩ := up11 hz) | (obtain ⟨y0, y1, y2, y3, y4, y5, y6, y7, y8, y9, _⟩ := up10 hz) | (obtain ⟨y0, y1, y2, y3, y4, y5, y6, y7, y8, _⟩ := up9 hz) | (obtain ⟨y0, y1, y2, y3, y4, y5, y6, y7, _⟩ := up8 hz) | (obtain ⟨y0, y1, y2, y3, y4, y5, y6, _⟩ := up7 hz) | (obtain ⟨y0, y1, y2, y3, y4, y5, _⟩ := up6 hz) | (obtain ⟨y0, y1, y2, y3, y4, _⟩ := up5 hz) | (obtain ⟨y0, y1, y2, y3, _⟩ := up4 hz) | (obtain ⟨y0, y1, y2, _⟩ := up3 hz) | (obtain ⟨y0, y1, _⟩ := up2 hz) | (obtain ⟨y0, _⟩ := up1 hz) | skip); (try (have z0 : w.heap.size < w1.heap.size := by omega)); (try (have z1 : w.heap.size + 1 < w1.heap.size := by omega)); (try (have z2 : w.heap.size + 1 + 1 < w1.heap.size := by omega)); (try (have c0 : ∀ o, w1.cell? ⟨w.heap.size, o, none⟩ = _ := fun o => hc _ o (by first | (simp; done) | (simp; omega) | omega))); (try (have g0 : ∀ o, w1.frozen? ⟨w.heap.size, o, none⟩ = _ := fun o => hf _ o (by first | (simp; done) | (simp; omega) | omega))); (try (have c1 : ∀ o, w1.cell? ⟨w.heap.size + 1, o, none⟩ = _ := fun o => hc _ o (by first | (simp; done) | (simp; omega) | omega))); (try (have g1 : ∀ o, w1.frozen? ⟨w.heap.size + 1, o, none⟩ = _ := fun o => hf _ o (by first | (simp; done) | (simp; omega) | omega))); (try (have c2 : ∀ o, w1.cell? ⟨w.heap.size + 1 + 1, o, none⟩ = _ := fun o => hc _ o (by first | (simp; done) | (simp; omega) | omega))); (try (have g2 : ∀ o, w1.frozen? ⟨w.heap.size + 1 + 1, o, none⟩ = _ := fun o => hf _ o (by first | (simp; done) | (simp; omega) | omega))); clear hb hz) | (go_at_call 32; ((with_reducible refine (CP _).mono ?_); rintro e w' ⟨rfl, rfl⟩)) | (go_at_call 29; ((with_reducible refine (CO _).mono ?_); rintro e w' ⟨rfl, rfl⟩)) | (go_at_call 31; ((with_reducible refine (most_any _).mono ?_); rintro e w' ⟨rfl, rfl⟩)) | (go_at_call 30; ((with_reducible refine (to_any _ _ _).mono ?_); rintro e w' ⟨rfl, rfl⟩)))
    refine bodyPost_ret (v := .tuple #[.agg #[.int .u64 a, .int .u64 b], .int .i64 0]) (by simp [results, Try.results13, go_sem, *]) rfl ⟨?_, (by (repeat (first | exact HB | exact Below.refl _ _ | apply below_drew | apply below_draws | refine below_set ?_ (by (try dsimp only); omega) _ | apply below_alloc)))⟩
    rw [HE.out]

set_option maxRecDepth 100000 in
set_option maxHeartbeats 2000000 in
theorem rdo_5a2 (a b c d : Nat) (hab : a ≤ b) (hcd : c ≤ d) (hbM : b < M) (hdM : d < M) (hs : decide (a = b) = false ∨ decide (c = d) = false) (h1 : ¬ b < c) (h2 : d = 0) (w : World) :
    Calls Try.prog 13 #[.int .i64 5, .agg #[.int .u64 a, .int .u64 b], .agg #[.int .u64 c, .int .u64 d]] w fun e w' => e = .returned (.tuple #[.agg #[.int .u64 ((spRow 5 a b c d).1 : Nat), .int .u64 ((spRow 5 a b c d).2 : Nat)], .int .i64 0]) ∧ Below w.heap.size w w' := by
  have e : spRow 5 a b c d = (a, b) := by unfold spRow; rw [if_neg (by decide), if_neg (by decide), if_neg (by decide), if_neg (by decide), if_pos rfl, if_pos (by omega)]
  have HE := Lib.hid e; clear e
  have hk64 : c % 64 ≤ 64 := Nat.le_of_lt (Nat.mod_lt _ (by decide))
  have CP0 := pow_any (c % 64) hk64
  have hpp : ¬ pw (c % 64) = 0 := pw_pos _ (Nat.mod_lt _ (by decide))
  obtain ⟨k, hk⟩ : ∃ k, c % 64 = k := ⟨_, rfl⟩
  have hki : (c : Int) % 64 = (k : Int) := by omega
  have CO := refDo_any 7 b d hbM hdM
  obtain ⟨o, ho⟩ : ∃ o, aluV 7 b d = o := ⟨_, rfl⟩
  rw [ho, show aluE 7 = 0 by decide] at CO
  rw [hk] at CP0 hk64 hpp
  obtain ⟨P, hP⟩ : ∃ P, pw k = P := ⟨_, rfl⟩
  have CP := CP0
  rw [hP] at CP hpp
  clear CP0
  have HO := Lib.hid ho; clear ho
  have HK := Lib.hid hk; clear hk
  have HP := Lib.hid hP; clear hP
  have d0 : ((d : Int) == 0) = true := by simp [h2]
  have HF := Lib.hid h2; clear h2
  clear hbM hdM
  have hs' : (a = b ∧ ¬ c = d) ∨ ¬ a = b := by
    rcases hs with hs | hs
    · right; simpa using hs
    · by_cases h : a = b
      · left; exact ⟨h, by simpa using hs⟩
      · right; exact h
  clear hs
  rcases hs' with ⟨hs1, hs2⟩ | hs1
  · have s1 : ((a : Int) == (b : Int)) = true := by simp [hs1]
    have s2 : ((c : Int) == (d : Int)) = false := by simp; omega
    have HS1 := Lib.hid hs1; clear hs1
    have HS2 := Lib.hid hs2; clear hs2
    go_enter Try.func13, Try.ntmps13
    go_wp2_with (first | (go_at_call 18; ((with_reducible refine (rmay_any _ _ _).mono ?_); rintro e w1 ⟨rfl, hb⟩); have HB : Below w.heap.size w w1 := below_then (by (repeat (first | exact HB | exact Below.refl _ _ | apply below_drew | apply below_draws | refine below_set ?_ (by (try dsimp only); omega) _ | apply below_alloc))) hb; obtain ⟨hc, hf⟩ := bcell hb; have hz := hb.size; (try simp at hz); (first | (obtain ⟨y0, y1, y2, y3, y4, y5, y6, y7, y8, y9, y10, y11, _⟩ := up12 hz) | (obtain ⟨y0, y1, y2, y3, y4, y5, y6, y7, y8, y9, y10, _⟩ := up11 hz) | (obtain ⟨y0, y1, y2, y3, y4, y5, y6, y7, y8, y9, _⟩ := up10 hz) | (obtain ⟨y0, y1, y2, y3, y4, y5, y6, y7, y8, _⟩ := up9 hz) | (obtain ⟨y0, y1, y2, y3, y4, y5, y6, y7, _⟩ := up8 hz) | (obtain ⟨y0, y1, y2, y3, y4, y5, y6, _⟩ := up7 hz) | (obtain ⟨y0, y1, y2, y3, y4, y5, _⟩ := up6 hz) | (obtain ⟨y0, y1, y2, y3, y4, _⟩ := up5 hz) | (obtain ⟨y0, y1, y2, y3, _⟩ := up4 hz) | (obtain ⟨y0, y1, y2, _⟩ := up3 hz) | (obtain ⟨y0, y1, _⟩ := up2 hz) | (obtain ⟨y0, _⟩ := up1 hz) | skip); (try (have z0 : w.heap.size < w1.heap.size := by omega)); (try (have z1 : w.heap.size + 1 < w1.heap.size := by omega)); (try (have z2 : w.heap.size + 1 + 1 < w1.heap.size := by omega)); (try (have c0 : ∀ o, w1.cell? ⟨w.heap.size, o, none⟩ = _ := fun o => hc _ o (by first | (simp; done) | (simp; omega) | omega))); (try (have g0 : ∀ o, w1.frozen? ⟨w.heap.size, o, none⟩ = _ := fun o => hf _ o (by first | (simp; done) | (simp; omega) | omega))); (try (have c1 : ∀ o, w1.cell? ⟨w.heap.size + 1, o, none⟩ = _ := fun o => hc _ o (by first | (simp; done) | (simp; omega) | omega))); (try (have g1 : ∀ o, w1.frozen? ⟨w.heap.size + 1, o, none⟩ = _ := fun o => hf _ o (by first | (simp; done) | (simp; omega) | omega))); (try (have c2 : ∀ o, w1.cell? ⟨w.heap.size + 1 + 1, o, none⟩ = _ := fun o => hc _ o (by first | (simp; done) | (simp; omega) | omega))); (try (have g2 : ∀ o, w1.frozen? ⟨w.heap.size + 1 + 1, o, none⟩ = _ := fun o => hf _ o (by first | (simp; done) | (simp; omega) | omega))); clear hb hz) | (go_at_call 32; ((with_reducible refine (CP _).mono ?_); rintro e w' ⟨rfl, rfl⟩)) | (go_at_call 29; ((with_reducible refine (CO _).mono ?_); rintro e w' ⟨rfl, rfl⟩)) | (go_at_call 31; ((with_reducible refine (most_any _).mono ?_); rintro e w' ⟨rfl, rfl⟩)) | (go_at_call 30; ((with_reducible refine (to_any _ _ _).mono ?_); rintro e w' ⟨rfl, rfl⟩)))
    refine bodyPost_ret (v := .tuple #[.agg #[.int .u64 a, .int .u64 b], .int .i64 0]) (by simp [results, Try.results13, go_sem, *]) rfl ⟨?_, (by (repeat (first | exact HB | exact Below.refl _ _ | apply below_drew | apply below_draws | refine below_set ?_ (by (try dsimp only); omega) _ | apply below_alloc)))⟩
    rw [HE.out]
  · have s1 : ((a : Int) == (b : Int)) = false := by simp; omega
    have HS1 := Lib.hid hs1; clear hs1
    go_enter Try.func13, Try.ntmps13
    go_wp2_with (first | (go_at_call 18; ((with_reducible refine (rmay_any _ _ _).mono ?_); rintro e w1 ⟨rfl, hb⟩); have HB : Below w.heap.size w w1 := below_then (by (repeat (first | exact HB | exact Below.refl _ _ | apply below_drew | apply below_draws | refine below_set ?_ (by (try dsimp only); omega) _ | apply below_alloc))) hb; obtain ⟨hc, hf⟩ := bcell hb; have hz := hb.size; (try simp at hz); (first | (obtain ⟨y0, y1, y2, y3, y4, y5, y6, y7, y8, y9, y10, y11, _⟩ := up12 hz) | (obtain ⟨y0, y1, y2, y3, y4, y5, y6, y7, y8, y9, y10, _⟩ := up11 hz) | (obtain ⟨y0, y1, y2, y3, y4, y5, y6, y7, y8, y9, _⟩ := up10 hz) | (obtain ⟨y0, y1, y2, y3, y4, y5, y6, y7, y8, _⟩ := up9 hz) | (obtain ⟨y0, y1, y2, y3, y4, y5, y6, y7, _⟩ := up8 hz) | (obtain ⟨y0, y1, y2, y3, y4, y5, y6, _⟩ := up7 hz) | (obtain ⟨y0, y1, y2, y3, y4, y5, _⟩ := up6 hz) | (obtain ⟨y0, y1, y2, y3, y4, _⟩ := up5 hz) | (obtain ⟨y0, y1, y2, y3, _⟩ := up4 hz) | (obtain ⟨y0, y1, y2, _⟩ := up3 hz) | (obtain ⟨y0, y1, _⟩ := up2 hz) | (obtain ⟨y0, _⟩ := up1 hz) | skip); (try (have z0 : w.heap.size < w1.heap.size := by omega)); (try (have z1 : w.heap.size + 1 < w1.heap.size := by omega)); (try (have z2 : w.heap.size + 1 + 1 < w1.heap.size := by omega)); (try (have c0 : ∀ o, w1.cell? ⟨w.heap.size, o, none⟩ = _ := fun o => hc _ o (by first | (simp; done) | (simp; omega) | omega))); (try (have g0 : ∀ o, w1.frozen? ⟨w.heap.size, o, none⟩ = _ := fun o => hf _ o (by first | (simp; done) | (simp; omega) | omega))); (try (have c1 : ∀ o, w1.cell? ⟨w.heap.size + 1, o, none⟩ = _ := fun o => hc _ o (by first | (simp; done) | (simp; omega) | omega))); (try (have g1 : ∀ o, w1.frozen? ⟨w.heap.size + 1, o, none⟩ = _ := fun o => hf _ o (by first | (simp; done) | (simp; omega) | omega))); (try (have c2 : ∀ o, w1.cell? ⟨w.heap.size + 1 + 1, o, none⟩ = _ := fun o => hc _ o (by first | (simp; done) | (simp; omega) | omega))); (try (have g2 : ∀ o, w1.frozen? ⟨w.heap.size + 1 + 1, o, none⟩ = _ := fun o => hf _ o (by first | (simp; done) | (simp; omega) | omega))); clear hb hz) | (go_at_call 32; ((with_reducible refine (CP _).mono ?_); rintro e w' ⟨rfl, rfl⟩)) | (go_at_call 29; ((with_reducible refine (CO _).mono ?_); rintro e w' ⟨rfl, rfl⟩)) | (go_at_call 31; ((with_reducible refine (most_any _).mono ?_); rintro e w' ⟨rfl, rfl⟩)) | (go_at_call 30; ((with_reducible refine (to_any _ _ _).mono ?_); rintro e w' ⟨rfl, rfl⟩)))
    refine bodyPost_ret (v := .tuple #[.agg #[.int .u64 a, .int .u64 b], .int .i64 0]) (by simp [results, Try.results13, go_sem, *]) rfl ⟨?_, (by (repeat (first | exact HB | exact Below.refl _ _ | apply below_drew | apply below_draws | refine below_set ?_ (by (try dsimp only); omega) _ | apply below_alloc)))⟩
    rw [HE.out]

set_option maxRecDepth 100000 in
set_option maxHeartbeats 2000000 in
theorem rdo_5b (a b c d : Nat) (hab : a ≤ b) (hcd : c ≤ d) (hbM : b < M) (hdM : d < M) (hs : decide (a = b) = false ∨ decide (c = d) = false) (h1 : ¬ b < c) (h2 : ¬ d = 0) (h3 : c = 0) (w : World) :
    Calls Try.prog 13 #[.int .i64 5, .agg #[.int .u64 a, .int .u64 b], .agg #[.int .u64 c, .int .u64 d]] w fun e w' => e = .returned (.tuple #[.agg #[.int .u64 ((spRow 5 a b c d).1 : Nat), .int .u64 ((spRow 5 a b c d).2 : Nat)], .int .i64 0]) ∧ Below w.heap.size w w' := by
  have e : spRow 5 a b c d = (0, b) := by simp [spRow, h1, h2, h3]
  have HE := Lib.hid e; clear e
  have hk64 : c % 64 ≤ 64 := Nat.le_of_lt (Nat.mod_lt _ (by decide))
  have CP0 := pow_any (c % 64) hk64
  have hpp : ¬ pw (c % 64) = 0 := pw_pos _ (Nat.mod_lt _ (by decide))
  obtain ⟨k, hk⟩ : ∃ k, c % 64 = k := ⟨_, rfl⟩
  have hki : (c : Int) % 64 = (k : Int) := by omega
  have CO := refDo_any 7 b d hbM hdM
  obtain ⟨o, ho⟩ : ∃ o, aluV 7 b d = o := ⟨_, rfl⟩
  rw [ho, show aluE 7 = 0 by decide] at CO
  rw [hk] at CP0 hk64 hpp
  obtain ⟨P, hP⟩ : ∃ P, pw k = P := ⟨_, rfl⟩
  have CP := CP0
  rw [hP] at CP hpp
  clear CP0
  have HO := Lib.hid ho; clear ho
  have HK := Lib.hid hk; clear hk
  have HP := Lib.hid hP; clear hP
  have d0 : ((d : Int) == 0) = false := by simp [h2]
  have c0 : ((c : Int) == 0) = true := by simp [h3]
  have HF := Lib.hid h3; clear h3
  clear hbM hdM
  have hs' : (a = b ∧ ¬ c = d) ∨ ¬ a = b := by
    rcases hs with hs | hs
    · right; simpa using hs
    · by_cases h : a = b
      · left; exact ⟨h, by simpa using hs⟩
      · right; exact h
  clear hs
  rcases hs' with ⟨hs1, hs2⟩ | hs1
  · have s1 : ((a : Int) == (b : Int)) = true := by simp [hs1]
    have s2 : ((c : Int) == (d : Int)) = false := by simp; omega
    have HS1 := Lib.hid hs1; clear hs1
    have HS2 := Lib.hid hs2; clear hs2
    go_enter Try.func13, Try.ntmps13
    go_wp2_with (first | (go_at_call 18; ((with_reducible refine (rmay_any _ _ _).mono ?_); rintro e w1 ⟨rfl, hb⟩); have HB : Below w.heap.size w w1 := below_then (by (repeat (first | exact HB | exact Below.refl _ _ | apply below_drew | apply below_draws | refine below_set ?_ (by (try dsimp only); omega) _ | apply below_alloc))) hb; obtain ⟨hc, hf⟩ := bcell hb; have hz := hb.size; (try simp at hz); (first | (obtain ⟨y0, y1, y2, y3, y4, y5, y6, y7, y8, y9, y10, y11, _⟩ := up12 hz) | (obtain ⟨y0, y1, y2, y3, y4, y5, y6, y7, y8, y9, y10, _⟩ := up11 hz) | (obtain ⟨y0, y1, y2, y3, y4, y5, y6, y7, y8, y9, _⟩ := up10 hz) | (obtain ⟨y0, y1, y2, y3, y4, y5, y6, y7, y8, _⟩ := up9 hz) | (obtain ⟨y0, y1, y2, y3, y4, y5, y6, y7, _⟩ := up8 hz) | (obtain ⟨y0, y1, y2, y3, y4, y5, y6, _⟩ := up7 hz) | (obtain ⟨y0, y1, y2, y3, y4, y5, _⟩ := up6 hz) | (obtain ⟨y0, y1, y2, y3, y4, _⟩ := up5 hz) | (obtain ⟨y0, y1, y2, y3, _⟩ := up4 hz) | (obtain ⟨y0, y1, y2, _⟩ := up3 hz) | (obtain ⟨y0, y1, _⟩ := up2 hz) | (obtain ⟨y0, _⟩ := up1 hz) | skip); (try (have z0 : w.heap.size < w1.heap.size := by omega)); (try (have z1 : w.heap.size + 1 < w1.heap.size := by omega)); (try (have z2 : w.heap.size + 1 + 1 < w1.heap.size := by omega)); (try (have c0 : ∀ o, w1.cell? ⟨w.heap.size, o, none⟩ = _ := fun o => hc _ o (by first | (simp; done) | (simp; omega) | omega))); (try (have g0 : ∀ o, w1.frozen? ⟨w.heap.size, o, none⟩ = _ := fun o => hf _ o (by first | (simp; done) | (simp; omega) | omega))); (try (have c1 : ∀ o, w1.cell? ⟨w.heap.size + 1, o, none⟩ = _ := fun o => hc _ o (by first | (simp; done) | (simp; omega) | omega))); (try (have g1 : ∀ o, w1.frozen? ⟨w.heap.size + 1, o, none⟩ = _ := fun o => hf _ o (by first | (simp; done) | (simp; omega) | omega))); (try (have c2 : ∀ o, w1.cell? ⟨w.heap.size + 1 + 1, o, none⟩ = _ := fun o => hc _ o (by first | (simp; done) | (simp; omega) | omega))); (try (have g2 : ∀ o, w1.frozen? ⟨w.heap.size + 1 + 1, o, none⟩ = _ := fun o => hf _ o (by first | (simp; done) | (simp; omega) | omega))); clear hb hz) | (go_at_call 32; ((with_reducible refine (CP _).mono ?_); rintro e w' ⟨rfl, rfl⟩)) | (go_at_call 29; ((with_reducible refine (CO _).mono ?_); rintro e w' ⟨rfl, rfl⟩)) | (go_at_call 31; ((with_reducible refine (most_any _).mono ?_); rintro e w' ⟨rfl, rfl⟩)) | (go_at_call 30; ((with_reducible refine (to_any _ _ _).mono ?_); rintro e w' ⟨rfl, rfl⟩)) | (go_at_call 33; ((with_reducible refine (less_any _ _ _).mono ?_); rintro e w' ⟨rfl, rfl⟩)))
    refine bodyPost_ret (v := .tuple #[.agg #[.int .u64 0, .int .u64 b], .int .i64 0]) (by simp [results, Try.results13, go_sem, *]) rfl ⟨?_, (by (repeat (first | exact HB | exact Below.refl _ _ | apply below_drew | apply below_draws | refine below_set ?_ (by (try dsimp only); omega) _ | apply below_alloc)))⟩
    rw [HE.out] <;> rfl
  · have s1 : ((a : Int) == (b : Int)) = false := by simp; omega
    have HS1 := Lib.hid hs1; clear hs1
    go_enter Try.func13, Try.ntmps13
    go_wp2_with (first | (go_at_call 18; ((with_reducible refine (rmay_any _ _ _).mono ?_); rintro e w1 ⟨rfl, hb⟩); have HB : Below w.heap.size w w1 := below_then (by (repeat (first | exact HB | exact Below.refl _ _ | apply below_drew | apply below_draws | refine below_set ?_ (by (try dsimp only); omega) _ | apply below_alloc))) hb; obtain ⟨hc, hf⟩ := bcell hb; have hz := hb.size; (try simp at hz); (first | (obtain ⟨y0, y1, y2, y3, y4, y5, y6, y7, y8, y9, y10, y11, _⟩ := up12 hz) | (obtain ⟨y0, y1, y2, y3, y4, y5, y6, y7, y8, y9, y10, _⟩ := up11 hz) | (obtain ⟨y0, y1, y2, y3, y4, y5, y6, y7, y8, y9, _⟩ := up10 hz) | (obtain ⟨y0, y1, y2, y3, y4, y5, y6, y7, y8, _⟩ := up9 hz) | (obtain ⟨y0, y1, y2, y3, y4, y5, y6, y7, _⟩ := up8 hz) | (obtain ⟨y0, y1, y2, y3, y4, y5, y6, _⟩ := up7 hz) | (obtain ⟨y0, y1, y2, y3, y4, y5, _⟩ := up6 hz) | (obtain ⟨y0, y1, y2, y3, y4, _⟩ := up5 hz) | (obtain ⟨y0, y1, y2, y3, _⟩ := up4 hz) | (obtain ⟨y0, y1, y2, _⟩ := up3 hz) | (obtain ⟨y0, y1, _⟩ := up2 hz) | (obtain ⟨y0, _⟩ := up1 hz) | skip); (try (have z0 : w.heap.size < w1.heap.size := by omega)); (try (have z1 : w.heap.size + 1 < w1.heap.size := by omega)); (try (have z2 : w.heap.size + 1 + 1 < w1.heap.size := by omega)); (try (have c0 : ∀ o, w1.cell? ⟨w.heap.size, o, none⟩ = _ := fun o => hc _ o (by first | (simp; done) | (simp; omega) | omega))); (try (have g0 : ∀ o, w1.frozen? ⟨w.heap.size, o, none⟩ = _ := fun o => hf _ o (by first | (simp; done) | (simp; omega) | omega))); (try (have c1 : ∀ o, w1.cell? ⟨w.heap.size + 1, o, none⟩ = _ := fun o => hc _ o (by first | (simp; done) | (simp; omega) | omega))); (try (have g1 : ∀ o, w1.frozen? ⟨w.heap.size + 1, o, none⟩ = _ := fun o => hf _ o (by first | (simp; done) | (simp; omega) | omega))); (try (have c2 : ∀ o, w1.cell? ⟨w.heap.size + 1 + 1, o, none⟩ = _ := fun o => hc _ o (by first | (simp; done) | (simp; omega) | omega))); (try (have g2 : ∀ o, w1.frozen? ⟨w.heap.size + 1 + 1, o, none⟩ = _ := fun o => hf _ o (by first | (simp; done) | (simp; omega) | omega))); clear hb hz) | (go_at_call 32; ((with_reducible refine (CP _).mono ?_); rintro e w' ⟨rfl, rfl⟩)) | (go_at_call 29; ((with_reducible refine (CO _).mono ?_); rintro e w' ⟨rfl, rfl⟩)) | (go_at_call 31; ((with_reducible refine (most_any _).mono ?_); rintro e w' ⟨rfl, rfl⟩)) | (go_at_call 30; ((with_reducible refine (to_any _ _ _).mono ?_); rintro e w' ⟨rfl, rfl⟩)) | (go_at_call 33; ((with_reducible refine (less_any _ _ _).mono ?_); rintro e w' ⟨rfl, rfl⟩)))
    refine bodyPost_ret (v := .tuple #[.agg #[.int .u64 0, .int .u64 b], .int .i64 0]) (by simp [results, Try.results13, go_sem, *]) rfl ⟨?_, (by (repeat (first | exact HB | exact Below.refl _ _ | apply below_drew | apply below_draws | refine below_set ?_ (by (try dsimp only); omega) _ | apply below_alloc)))⟩
    rw [HE.out] <;> rfl

set_option maxRecDepth 100000 in
set_option maxHeartbeats 2000000 in
theorem rdo_5c (a b c d : Nat) (hab : a ≤ b) (hcd : c ≤ d) (hbM : b < M) (hdM : d < M) (hs : decide (a = b) = false ∨ decide (c = d) = false) (h1 : ¬ b < c) (h2 : ¬ d = 0) (h3 : ¬ c = 0) (w : World) :
    Calls Try.prog 13 #[.int .i64 5, .agg #[.int .u64 a, .int .u64 b], .agg #[.int .u64 c, .int .u64 d]] w fun e w' => e = .returned (.tuple #[.agg #[.int .u64 ((spRow 5 a b c d).1 : Nat), .int .u64 ((spRow 5 a b c d).2 : Nat)], .int .i64 0]) ∧ Below w.heap.size w w' := by
  have e : spRow 5 a b c d = (0, min b (d - 1)) := by simp [spRow, h1, h2, h3]
  have HE := Lib.hid e; clear e
  have hk64 : c % 64 ≤ 64 := Nat.le_of_lt (Nat.mod_lt _ (by decide))
  have CP0 := pow_any (c % 64) hk64
  have hpp : ¬ pw (c % 64) = 0 := pw_pos _ (Nat.mod_lt _ (by decide))
  obtain ⟨k, hk⟩ : ∃ k, c % 64 = k := ⟨_, rfl⟩
  have hki : (c : Int) % 64 = (k : Int) := by omega
  have CO := refDo_any 7 b d hbM hdM
  obtain ⟨o, ho⟩ : ∃ o, aluV 7 b d = o := ⟨_, rfl⟩
  rw [ho, show aluE 7 = 0 by decide] at CO
  rw [hk] at CP0 hk64 hpp
  obtain ⟨P, hP⟩ : ∃ P, pw k = P := ⟨_, rfl⟩
  have CP := CP0
  rw [hP] at CP hpp
  clear CP0
  have HO := Lib.hid ho; clear ho
  have HK := Lib.hid hk; clear hk
  have HP := Lib.hid hP; clear hP
  have d0 : ((d : Int) == 0) = false := by simp [h2]
  have c0 : ((c : Int) == 0) = false := by simp [h3]
  have hw : IntKind.u64.wrap ((d : Int) - 1) = ((d - 1 : Nat) : Int) := by rw [IntKind.wrap_u64]; unfold M at hdM; omega
  obtain ⟨m, hm⟩ : ∃ m, d - 1 = m := ⟨_, rfl⟩
  have CL := less_any b m
  obtain ⟨z, hz⟩ : ∃ z, min b m = z := ⟨_, rfl⟩
  rw [hm] at hw HE
  rw [hz] at CL HE
  clear hm hz
  clear hbM hdM
  have hs' : (a = b ∧ ¬ c = d) ∨ ¬ a = b := by
    rcases hs with hs | hs
    · right; simpa using hs
    · by_cases h : a = b
      · left; exact ⟨h, by simpa using hs⟩
      · right; exact h
  clear hs
  rcases hs' with ⟨hs1, hs2⟩ | hs1
  · have s1 : ((a : Int) == (b : Int)) = true := by simp [hs1]
    have s2 : ((c : Int) == (d : Int)) = false := by simp; omega
    have HS1 := Lib.hid hs1; clear hs1
    have HS2 := Lib.hid hs2; clear hs2
    go_enter Try.func13, Try.ntmps13
    go_wp2_with (first | (go_at_call 18; ((with_reducible refine (rmay_any _ _ _).mono ?_); rintro e w1 ⟨rfl, hb⟩); have HB : Below w.heap.size w w1 := below_then (by (repeat (first | exact HB | exact Below.refl _ _ | apply below_drew | apply below_draws | refine below_set ?_ (by (try dsimp only); omega) _ | apply below_alloc))) hb; obtain ⟨hc, hf⟩ := bcell hb; have hz := hb.size; (try simp at hz); (first | (obtain ⟨y0, y1, y2, y3, y4, y5, y6, y7, y8, y9, y10, y11, _⟩ := up12 hz) | (obtain ⟨y0, y1, y2, y3, y4, y5, y6, y7, y8, y9, y10, _⟩ := up11 hz) | (obtain ⟨y0, y1, y2, y3, y4, y5, y6, y7, y8, y9, _⟩ := up10 hz) | (obtain ⟨y0, y1, y2, y3, y4, y5, y6, y7, y8, _⟩ := up9 hz) | (obtain ⟨y0, y1, y2, y3, y4, y5, y6, y7, _⟩ := up8 hz) | (obtain ⟨y0, y1, y2, y3, y4, y5, y6, _⟩ := up7 hz) | (obtain ⟨y0, y1, y2, y3, y4, y5, _⟩ := up6 hz) | (obtain ⟨y0, y1, y2, y3, y4, _⟩ := up5 hz) | (obtain ⟨y0, y1, y2, y3, _⟩ := up4 hz) | (obtain ⟨y0, y1, y2, _⟩ := up3 hz) | (obtain ⟨y0, y1, _⟩ := up2 hz) | (obtain ⟨y0, _⟩ := up1 hz) | skip); (try (have z0 : w.heap.size < w1.heap.size := by omega)); (try (have z1 : w.heap.size + 1 < w1.heap.size := by omega)); (try (have z2 : w.heap.size + 1 + 1 < w1.heap.size := by omega)); (try (have c0 : ∀ o, w1.cell? ⟨w.heap.size, o, none⟩ = _ := fun o => hc _ o (by first | (simp; done) | (simp; omega) | omega))); (try (have g0 : ∀ o, w1.frozen? ⟨w.heap.size, o, none⟩ = _ := fun o => hf _ o (by first | (simp; done) | (simp; omega) | omega))); (try (have c1 : ∀ o, w1.cell? ⟨w.heap.size + 1, o, none⟩ = _ := fun o => hc _ o (by first | (simp; done) | (simp; omega) | omega))); (try (have g1 : ∀ o, w1.frozen? ⟨w.heap.size + 1, o, none⟩ = _ := fun o => hf _ o (by first | (simp; done) | (simp; omega) | omega))); (try (have c2 : ∀ o, w1.cell? ⟨w.heap.size + 1 + 1, o, none⟩ = _ := fun o => hc _ o (by first | (simp; done) | (simp; omega) | omega))); (try (have g2 : ∀ o, w1.frozen? ⟨w.heap.size + 1 + 1, o, none⟩ = _ := fun o => hf _ o (by first | (simp; done) | (simp; omega) | omega))); clear hb hz) | (go_at_call 32; ((with_reducible refine (CP _).mono ?_); rintro e w' ⟨rfl, rfl⟩)) | (go_at_call 29; ((with_reducible refine (CO _).mono ?_); rintro e w' ⟨rfl, rfl⟩)) | (go_at_call 31; ((with_reducible refine (most_any _).mono ?_); rintro e w' ⟨rfl, rfl⟩)) | (go_at_call 30; ((with_reducible refine (to_any _ _ _).mono ?_); rintro e w' ⟨rfl, rfl⟩)) | (go_at_call 33; ((with_reducible refine (CL _).mono ?_); rintro e w' ⟨rfl, rfl⟩)))
    refine bodyPost_ret (v := .tuple #[.agg #[.int .u64 0, .int .u64 ((z : Nat) : Int)], .int .i64 0]) (by simp [results, Try.results13, go_sem, *]) rfl ⟨?_, (by (repeat (first | exact HB | exact Below.refl _ _ | apply below_drew | apply below_draws | refine below_set ?_ (by (try dsimp only); omega) _ | apply below_alloc)))⟩
    rw [HE.out] <;> rfl
  · have s1 : ((a : Int) == (b : Int)) = false := by simp; omega
    have HS1 := Lib.hid hs1; clear hs1
    go_enter Try.func13, Try.ntmps13
    go_wp2_with (first | (go_at_call 18; ((with_reducible refine (rmay_any _ _ _).mono ?_); rintro e w1 ⟨rfl, hb⟩); have HB : Below w.heap.size w w1 := below_then (by (repeat (first | exact HB | exact Below.refl _ _ | apply below_drew | apply below_draws | refine below_set ?_ (by (try dsimp only); omega) _ | apply below_alloc))) hb; obtain ⟨hc, hf⟩ := bcell hb; have hz := hb.size; (try simp at hz); (first | (obtain ⟨y0, y1, y2, y3, y4, y5, y6, y7, y8, y9, y10, y11, _⟩ := up12 hz) | (obtain ⟨y0, y1, y2, y3, y4, y5, y6, y7, y8, y9, y10, _⟩ := up11 hz) | (obtain ⟨y0, y1, y2, y3, y4, y5, y6, y7, y8, y9, _⟩ := up10 hz) | (obtain ⟨y0, y1, y2, y3, y4, y5, y6, y7, y8, _⟩ := up9 hz) | (obtain ⟨y0, y1, y2, y3, y4, y5, y6, y7, _⟩ := up8 hz) | (obtain ⟨y0, y1, y2, y3, y4, y5, y6, _⟩ := up7 hz) | (obtain ⟨y0, y1, y2, y3, y4, y5, _⟩ := up6 hz) | (obtain ⟨y0, y1, y2, y3, y4, _⟩ := up5 hz) | (obtain ⟨y0, y1, y2, y3, _⟩ := up4 hz) | (obtain ⟨y0, y1, y2, _⟩ := up3 hz) | (obtain ⟨y0, y1, _⟩ := up2 hz) | (obtain ⟨y0, _⟩ := up1 hz) | skip); (try (have z0 : w.heap.size < w1.heap.size := by omega)); (try (have z1 : w.heap.size + 1 < w1.heap.size := by omega)); (try (have z2 : w.heap.size + 1 + 1 < w1.heap.size := by omega)); (try (have c0 : ∀ o, w1.cell? ⟨w.heap.size, o, none⟩ = _ := fun o => hc _ o (by first | (simp; done) | (simp; omega) | omega))); (try (have g0 : ∀ o, w1.frozen? ⟨w.heap.size, o, none⟩ = _ := fun o => hf _ o (by first | (simp; done) | (simp; omega) | omega))); (try (have c1 : ∀ o, w1.cell? ⟨w.heap.size + 1, o, none⟩ = _ := fun o => hc _ o (by first | (simp; done) | (simp; omega) | omega))); (try (have g1 : ∀ o, w1.frozen? ⟨w.heap.size + 1, o, none⟩ = _ := fun o => hf _ o (by first | (simp; done) | (simp; omega) | omega))); (try (have c2 : ∀ o, w1.cell? ⟨w.heap.size + 1 + 1, o, none⟩ = _ := fun o => hc _ o (by first | (simp; done) | (simp; omega) | omega))); (try (have g2 : ∀ o, w1.frozen? ⟨w.heap.size + 1 + 1, o, none⟩ = _ := fun o => hf _ o (by first | (simp; done) | (simp; omega) | omega))); clear hb hz) | (go_at_call 32; ((with_reducible refine (CP _).mono ?_); rintro e w' ⟨rfl, rfl⟩)) | (go_at_call 29; ((with_reducible refine (CO _).mono ?_); rintro e w' ⟨rfl, rfl⟩)) | (go_at_call 31; ((with_reducible refine (most_any _).mono ?_); rintro e w' ⟨rfl, rfl⟩)) | (go_at_call 30; ((with_reducible refine (to_any _ _ _).mono ?_); rintro e w' ⟨rfl, rfl⟩)) | (go_at_call 33; ((with_reducible refine (CL _).mono ?_); rintro e w' ⟨rfl, rfl⟩)))
    refine bodyPost_ret (v := .tuple #[.agg #[.int .u64 0, .int .u64 ((z : Nat) : Int)], .int .i64 0]) (by simp [results, Try.results13, go_sem, *]) rfl ⟨?_, (by (repeat (first | exact HB | exact Below.refl _ _ | apply below_drew | apply below_draws | refine below_set ?_ (by (try dsimp only); omega) _ | apply below_alloc)))⟩
    rw [HE.out] <;> rfl

set_option maxRecDepth 100000 in
set_option maxHeartbeats 2000000 in
theorem rdo_6 (a b c d : Nat) (hab : a ≤ b) (hcd : c ≤ d) (hbM : b < M) (hdM : d < M) (hs : decide (a = b) = false ∨ decide (c = d) = false) (w : World) :
    Calls Try.prog 13 #[.int .i64 6, .agg #[.int .u64 a, .int .u64 b], .agg #[.int .u64 c, .int .u64 d]] w fun e w' => e = .returned (.tuple #[.agg #[.int .u64 ((spRow 6 a b c d).1 : Nat), .int .u64 ((spRow 6 a b c d).2 : Nat)], .int .i64 0]) ∧ Below w.heap.size w w' := by
  have e : spRow 6 a b c d = (0, min b d) := by rfl
  have HE := Lib.hid e; clear e
  have hk64 : c % 64 ≤ 64 := Nat.le_of_lt (Nat.mod_lt _ (by decide))
  have CP0 := pow_any (c % 64) hk64
  have hpp : ¬ pw (c % 64) = 0 := pw_pos _ (Nat.mod_lt _ (by decide))
  obtain ⟨k, hk⟩ : ∃ k, c % 64 = k := ⟨_, rfl⟩
  have hki : (c : Int) % 64 = (k : Int) := by omega
  have CO := refDo_any 7 b d hbM hdM
  obtain ⟨o, ho⟩ : ∃ o, aluV 7 b d = o := ⟨_, rfl⟩
  rw [ho, show aluE 7 = 0 by decide] at CO
  rw [hk] at CP0 hk64 hpp
  obtain ⟨P, hP⟩ : ∃ P, pw k = P := ⟨_, rfl⟩
  have CP := CP0
  rw [hP] at CP hpp
  clear CP0
  have HO := Lib.hid ho; clear ho
  have HK := Lib.hid hk; clear hk
  have HP := Lib.hid hP; clear hP
  have CL := less_any b d
  obtain ⟨z, hz⟩ : ∃ z, min b d = z := ⟨_, rfl⟩
  rw [hz] at CL HE
  clear hz
  clear hbM hdM
  have hs' : (a = b ∧ ¬ c = d) ∨ ¬ a = b := by
    rcases hs with hs | hs
    · right; simpa using hs
    · by_cases h : a = b
      · left; exact ⟨h, by simpa using hs⟩
      · right; exact h
  clear hs
  rcases hs' with ⟨hs1, hs2⟩ | hs1
  · have s1 : ((a : Int) == (b : Int)) = true := by simp [hs1]
    have s2 : ((c : Int) == (d : Int)) = false := by simp; omega
    have HS1 := Lib.hid hs1; clear hs1
    have HS2 := Lib.hid hs2; clear hs2
    go_enter Try.func13, Try.ntmps13
    go_wp2_with (first | (go_at_call 18; ((with_reducible refine (rmay_any _ _ _).mono ?_); rintro e w1 ⟨rfl, hb⟩); have HB : Below w.heap.size w w1 := below_then (by (repeat (first | exact HB | exact Below.refl _ _ | apply below_drew | apply below_draws | refine below_set ?_ (by (try dsimp only); omega) _ | apply below_alloc))) hb; obtain ⟨hc, hf⟩ := bcell hb; have hz := hb.size; (try simp at hz); (first | (obtain ⟨y0, y1, y2, y3, y4, y5, y6, y7, y8, y9, y10, y11, _⟩ := up12 hz) | (obtain ⟨y0, y1, y2, y3, y4, y5, y6, y7, y8, y9, y10, _⟩ := up11 hz) | (obtain ⟨y0, y1, y2, y3, y4, y5, y6, y7, y8, y9, _⟩ := up10 hz) | (obtain ⟨y0, y1, y2, y3, y4, y5, y6, y7, y8, _⟩ := up9 hz) | (obtain ⟨y0, y1, y2, y3, y4, y5, y6, y7, _⟩ := up8 hz) | (obtain ⟨y0, y1, y2, y3, y4, y5, y6, _⟩ := up7 hz) | (obtain ⟨y0, y1, y2, y3, y4, y5, _⟩ := up6 hz) | (obtain ⟨y0, y1, y2, y3, y4, _⟩ := up5 hz) | (obtain ⟨y0, y1, y2, y3, _⟩ := up4 hz) | (obtain ⟨y0, y1, y2, _⟩ := up3 hz) | (obtain ⟨y0, y1, _⟩ := up2 hz) | (obtain ⟨y0, _⟩ := up1 hz) | skip); (try (have z0 : w.heap.size < w1.heap.size := by omega)); (try (have z1 : w.heap.size + 1 < w1.heap.size := by omega)); (try (have z2 : w.heap.size + 1 + 1 < w1.heap.size := by omega)); (try (have c0 : ∀ o, w1.cell? ⟨w.heap.size, o, none⟩ = _ := fun o => hc _ o (by first | (simp; done) | (simp; omega) | omega))); (try (have g0 : ∀ o, w1.frozen? ⟨w.heap.size, o, none⟩ = _ := fun o => hf _ o (by first | (simp; done) | (simp; omega) | omega))); (try (have c1 : ∀ o, w1.cell? ⟨w.heap.size + 1, o, none⟩ = _ := fun o => hc _ o (by first | (simp; done) | (simp; omega) | omega))); (try (have g1 : ∀ o, w1.frozen? ⟨w.heap.size + 1, o, none⟩ = _ := fun o => hf _ o (by first | (simp; done) | (simp; omega) | omega))); (try (have c2 : ∀ o, w1.cell? ⟨w.heap.size + 1 + 1, o, none⟩ = _ := fun o => hc _ o (by first | (simp; done) | (simp; omega) | omega))); (try (have g2 : ∀ o, w1.frozen? ⟨w.heap.size + 1 + 1, o, none⟩ = _ := fun o => hf _ o (by first | (simp; done) | (simp; omega) | omega))); clear hb hz) | (go_at_call 32; ((with_reducible refine (CP _).mono ?_); rintro e w' ⟨rfl, rfl⟩)) | (go_at_call 29; ((with_reducible refine (CO _).mono ?_); rintro e w' ⟨rfl, rfl⟩)) | (go_at_call 31; ((with_reducible refine (most_any _).mono ?_); rintro e w' ⟨rfl, rfl⟩)) | (go_at_call 30; ((with_reducible refine (to_any _ _ _).mono ?_); rintro e w' ⟨rfl, rfl⟩)) | (go_at_call 33; ((with_reducible refine (CL _).mono ?_); rintro e w' ⟨rfl, rfl⟩)))
    refine bodyPost_ret (v := .tuple #[.agg #[.int .u64 0, .int .u64 ((z : Nat) : Int)], .int .i64 0]) (by simp [results, Try.results13, go_sem, *]) rfl ⟨?_, (by (repeat (first | exact HB | exact Below.refl _ _ | apply below_drew | apply below_draws | refine below_set ?_ (by (try dsimp only); omega) _ | apply below_alloc)))⟩
    rw [HE.out] <;> rfl
  · have s1 : ((a : Int) == (b : Int)) = false := by simp; omega
    have HS1 := Lib.hid hs1; clear hs1
    go_enter Try.func13, Try.ntmps13
    go_wp2_with (first | (go_at_call 18; ((with_reducible refine (rmay_any _ _ _).mono ?_); rintro e w1 ⟨rfl, hb⟩); have HB : Below w.heap.size w w1 := below_then (by (repeat (first | exact HB | exact Below.refl _ _ | apply below_drew | apply below_draws | refine below_set ?_ (by (try dsimp only); omega) _ | apply below_alloc))) hb; obtain ⟨hc, hf⟩ := bcell hb; have hz := hb.size; (try simp at hz); (first | (obtain ⟨y0, y1, y2, y3, y4, y5, y6, y7, y8, y9, y10, y11, _⟩ := up12 hz) | (obtain ⟨y0, y1, y2, y3, y4, y5, y6, y7, y8, y9, y10, _⟩ := up11 hz) | (obtain ⟨y0, y1, y2, y3, y4, y5, y6, y7, y8, y9, _⟩ := up10 hz) | (obtain ⟨y0, y1, y2, y3, y4, y5, y6, y7, y8, _⟩ := up9 hz) | (obtain ⟨y0, y1, y2, y3, y4, y5, y6, y7, _⟩ := up8 hz) | (obtain ⟨y0, y1, y2, y3, y4, y5, y6, _⟩ := up7 hz) | (obtain ⟨y0, y1, y2, y3, y4, y5, _⟩ := up6 hz) | (obtain ⟨y0, y1, y2, y3, y4, _⟩ := up5 hz) | (obtain ⟨y0, y1, y2, y3, _⟩ := up4 hz) | (obtain ⟨y0, y1, y2, _⟩ := up3 hz) | (obtain ⟨y0, y1, _⟩ := up2 hz) | (obtain ⟨y0, _⟩ := up1 hz) | skip); (try (have z0 : w.heap.size < w1.heap.size := by omega)); (try (have z1 : w.heap.size + 1 < w1.heap.size := by omega)); (try (have z2 : w.heap.size + 1 + 1 < w1.heap.size := by omega)); (try (have c0 : ∀ o, w1.cell? ⟨w.heap.size, o, none⟩ = _ := fun o => hc _ o (by first | (simp; done) | (simp; omega) | omega))); (try (have g0 : ∀ o, w1.frozen? ⟨w.heap.size, o, none⟩ = _ := fun o => hf _ o (by first | (simp; done) | (simp; omega) | omega))); (try (have c1 : ∀ o, w1.cell? ⟨w.heap.size + 1, o, none⟩ = _ := fun o => hc _ o (by first | (simp; done) | (simp; omega) | omega))); (try (have g1 : ∀ o, w1.frozen? ⟨w.heap.size + 1, o, none⟩ = _ := fun o => hf _ o (by first | (simp; done) | (simp; omega) | omega))); (try (have c2 : ∀ o, w1.cell? ⟨w.heap.size + 1 + 1, o, none⟩ = _ := fun o => hc _ o (by first | (simp; done) | (simp; omega) | omega))); (try (have g2 : ∀ o, w1.frozen? ⟨w.heap.size + 1 + 1, o, none⟩ = _ := fun o => hf _ o (by first | (simp; done) | (simp; omega) | omega))); clear hb hz) | (go_at_call 32; ((with_reducible refine (CP _).mono ?_); rintro e w' ⟨rfl, rfl⟩)) | (go_at_call 29; ((with_reducible refine (CO _).mono ?_); rintro e w' ⟨rfl, rfl⟩)) | (go_at_call 31; ((with_reducible refine (most_any _).mono ?_); rintro e w' ⟨rfl, rfl⟩)) | (go_at_call 30; ((with_reducible refine (to_any _ _ _).mono ?_); rintro e w' ⟨rfl, rfl⟩)) | (go_at_call 33; ((with_reducible refine (CL _).mono ?_); rintro e w' ⟨rfl, rfl⟩)))
    refine bodyPost_ret (v := .tuple #[.agg #[.int .u64 0, .int .u64 ((z : Nat) : Int)], .int .i64 0]) (by simp [results, Try.results13, go_sem, *]) rfl ⟨?_, (by (repeat (first | exact HB | exact Below.refl _ _ | apply below_drew | apply below_draws | refine below_set ?_ (by (try dsimp only); omega) _ | apply below_alloc)))⟩
    rw [HE.out] <;> rfl

set_option maxRecDepth 100000 in
set_option maxHeartbeats 2000000 in
theorem rdo_7 (a b c d : Nat) (hab : a ≤ b) (hcd : c ≤ d) (hbM : b < M) (hdM : d < M) (hs : decide (a = b) = false ∨ decide (c = d) = false) (w : World) :
    Calls Try.prog 13 #[.int .i64 7, .agg #[.int .u64 a, .int .u64 b], .agg #[.int .u64 c, .int .u64 d]] w fun e w' => e = .returned (.tuple #[.agg #[.int .u64 ((spRow 7 a b c d).1 : Nat), .int .u64 ((spRow 7 a b c d).2 : Nat)], .int .i64 0]) ∧ Below w.heap.size w w' := by
  have e : spRow 7 a b c d = (max a c, filledV (b ||| d)) := by rfl
  have HE := Lib.hid e; clear e
  have hk64 : c % 64 ≤ 64 := Nat.le_of_lt (Nat.mod_lt _ (by decide))
  have CP0 := pow_any (c % 64) hk64
  have hpp : ¬ pw (c % 64) = 0 := pw_pos _ (Nat.mod_lt _ (by decide))
  obtain ⟨k, hk⟩ : ∃ k, c % 64 = k := ⟨_, rfl⟩
  have hki : (c : Int) % 64 = (k : Int) := by omega
  have CO := refDo_any 7 b d hbM hdM
  obtain ⟨o, ho⟩ : ∃ o, aluV 7 b d = o := ⟨_, rfl⟩
  rw [ho, show aluE 7 = 0 by decide] at CO
  rw [hk] at CP0 hk64 hpp
  obtain ⟨P, hP⟩ : ∃ P, pw k = P := ⟨_, rfl⟩
  have CP := CP0
  rw [hP] at CP hpp
  clear CP0
  have HO := Lib.hid ho; clear ho
  have HK := Lib.hid hk; clear hk
  have HP := Lib.hid hP; clear hP
  have e7 : aluV 7 b d = b ||| d := rfl
  have CF := rfilled_any o (by rw [← HO.out]; exact aluV_lt 7 b d hbM hdM)
  rw [← e7, HO.out] at HE
  clear e7
  have CM := more_any a c
  obtain ⟨z, hz⟩ : ∃ z, max a c = z := ⟨_, rfl⟩
  rw [hz] at CM HE
  clear hz
  clear hbM hdM
  have hs' : (a = b ∧ ¬ c = d) ∨ ¬ a = b := by
    rcases hs with hs | hs
    · right; simpa using hs
    · by_cases h : a = b
      · left; exact ⟨h, by simpa using hs⟩
      · right; exact h
  clear hs
  rcases hs' with ⟨hs1, hs2⟩ | hs1
  · have s1 : ((a : Int) == (b : Int)) = true := by simp [hs1]
    have s2 : ((c : Int) == (d : Int)) = false := by simp; omega
    have HS1 := Lib.hid hs1; clear hs1
    have HS2 := Lib.hid hs2; clear hs2
    go_enter Try.func13, Try.ntmps13
    go_wp2_with (first | (go_at_call 18; ((with_reducible refine (rmay_any _ _ _).mono ?_); rintro e w1 ⟨rfl, hb⟩); have HB : Below w.heap.size w w1 := below_then (by (repeat (first | exact HB | exact Below.refl _ _ | apply below_drew | apply below_draws | refine below_set ?_ (by (try dsimp only); omega) _ | apply below_alloc))) hb; obtain ⟨hc, hf⟩ := bcell hb; have hz := hb.size; (try simp at hz); (first | (obtain ⟨y0, y1, y2, y3, y4, y5, y6, y7, y8, y9, y10, y11, _⟩ := up12 hz) | (obtain ⟨y0, y1, y2, y3, y4, y5, y6, y7, y8, y9, y10, _⟩ := up11 hz) | (obtain ⟨y0, y1, y2, y3, y4, y5, y6, y7, y8, y9, _⟩ := up10 hz) | (obtain ⟨y0, y1, y2, y3, y4, y5, y6, y7, y8, _⟩ := up9 hz) | (obtain ⟨y0, y1, y2, y3, y4, y5, y6, y7, _⟩ := up8 hz) | (obtain ⟨y0, y1, y2, y3, y4, y5, y6, _⟩ := up7 hz) | (obtain ⟨y0, y1, y2, y3, y4, y5, _⟩ := up6 hz) | (obtain ⟨y0, y1, y2, y3, y4, _⟩ := up5 hz) | (obtain ⟨y0, y1, y2, y3, _⟩ := up4 hz) | (obtain ⟨y0, y1, y2, _⟩ := up3 hz) | (obtain ⟨y0, y1, _⟩ := up2 hz) | (obtain ⟨y0, _⟩ := up1 hz) | skip); (try (have z0 : w.heap.size < w1.heap.size := by omega)); (try (have z1 : w.heap.size + 1 < w1.heap.size := by omega)); (try (have z2 : w.heap.size + 1 + 1 < w1.heap.size := by omega)); (try (have c0 : ∀ o, w1.cell? ⟨w.heap.size, o, none⟩ = _ := fun o => hc _ o (by first | (simp; done) | (simp; omega) | omega))); (try (have g0 : ∀ o, w1.frozen? ⟨w.heap.size, o, none⟩ = _ := fun o => hf _ o (by first | (simp; done) | (simp; omega) | omega))); (try (have c1 : ∀ o, w1.cell? ⟨w.heap.size + 1, o, none⟩ = _ := fun o => hc _ o (by first | (simp; done) | (simp; omega) | omega))); (try (have g1 : ∀ o, w1.frozen? ⟨w.heap.size + 1, o, none⟩ = _ := fun o => hf _ o (by first | (simp; done) | (simp; omega) | omega))); (try (have c2 : ∀ o, w1.cell? ⟨w.heap.size + 1 + 1, o, none⟩ = _ := fun o => hc _ o (by first | (simp; done) | (simp; omega) | omega))); (try (have g2 : ∀ o, w1.frozen? ⟨w.heap.size + 1 + 1, o, none⟩ = _ := fun o => hf _ o (by first | (simp; done) | (simp; omega) | omega))); clear hb hz) | (go_at_call 32; ((with_reducible refine (CP _).mono ?_); rintro e w' ⟨rfl, rfl⟩)) | (go_at_call 29; ((with_reducible refine (CO _).mono ?_); rintro e w' ⟨rfl, rfl⟩)) | (go_at_call 31; ((with_reducible refine (most_any _).mono ?_); rintro e w' ⟨rfl, rfl⟩)) | (go_at_call 30; ((with_reducible refine (to_any _ _ _).mono ?_); rintro e w' ⟨rfl, rfl⟩)) | (go_at_call 34; ((with_reducible refine (CM _).mono ?_); rintro e w' ⟨rfl, rfl⟩)) | (go_at_call 35; ((with_reducible refine (CF _).mono ?_); rintro e w' ⟨rfl, rfl⟩)))
    refine bodyPost_ret (v := .tuple #[.agg #[.int .u64 ((z : Nat) : Int), .int .u64 ((filledV o : Nat) : Int)], .int .i64 0]) (by simp [results, Try.results13, go_sem, *]) rfl ⟨?_, (by (repeat (first | exact HB | exact Below.refl _ _ | apply below_drew | apply below_draws | refine below_set ?_ (by (try dsimp only); omega) _ | apply below_alloc)))⟩
    rw [HE.out]
  · have s1 : ((a : Int) == (b : Int)) = false := by simp; omega
    have HS1 := Lib.hid hs1; clear hs1
    go_enter Try.func13, Try.ntmps13
    go_wp2_with (first | (go_at_call 18; ((with_reducible refine (rmay_any _ _ _).mono ?_); rintro e w1 ⟨rfl, hb⟩); have HB : Below w.heap.size w w1 := below_then (by (repeat (first | exact HB | exact Below.refl _ _ | apply below_drew | apply below_draws | refine below_set ?_ (by (try dsimp only); omega) _ | apply below_alloc))) hb; obtain ⟨hc, hf⟩ := bcell hb; have hz := hb.size; (try simp at hz); (first | (obtain ⟨y0, y1, y2, y3, y4, y5, y6, y7, y8, y9, y10, y11, _⟩ := up12 hz) | (obtain ⟨y0, y1, y2, y3, y4, y5, y6, y7, y8, y9, y10, _⟩ := up11 hz) | (obtain ⟨y0, y1, y2, y3, y4, y5, y6, y7, y8, y9, _⟩ := up10 hz) | (obtain ⟨y0, y1, y2, y3, y4, y5, y6, y7, y8, _⟩ := up9 hz) | (obtain ⟨y0, y1, y2, y3, y4, y5, y6, y7, _⟩ := up8 hz) | (obtain ⟨y0, y1, y2, y3, y4, y5, y6, _⟩ := up7 hz) | (obtain ⟨y0, y1, y2, y3, y4, y5, _⟩ := up6 hz) | (obtain ⟨y0, y1, y2, y3, y4, _⟩ := up5 hz) | (obtain ⟨y0, y1, y2, y3, _⟩ := up4 hz) | (obtain ⟨y0, y1, y2, _⟩ := up3 hz) | (obtain ⟨y0, y1, _⟩ := up2 hz) | (obtain ⟨y0, _⟩ := up1 hz) | skip); (try (have z0 : w.heap.size < w1.heap.size := by omega)); (try (have z1 : w.heap.size + 1 < w1.heap.size := by omega)); (try (have z2 : w.heap.size + 1 + 1 < w1.heap.size := by omega)); (try (have c0 : ∀ o, w1.cell? ⟨w.heap.size, o, none⟩ = _ := fun o => hc _ o (by first | (simp; done) | (simp; omega) | omega))); (try (have g0 : ∀ o, w1.frozen? ⟨w.heap.size, o, none⟩ = _ := fun o => hf _ o (by first | (simp; done) | (simp; omega) | omega))); (try (have c1 : ∀ o, w1.cell? ⟨w.heap.size + 1, o, none⟩ = _ := fun o => hc _ o (by first | (simp; done) | (simp; omega) | omega))); (try (have g1 : ∀ o, w1.frozen? ⟨w.heap.size + 1, o, none⟩ = _ := fun o => hf _ o (by first | (simp; done) | (simp; omega) | omega))); (try (have c2 : ∀ o, w1.cell? ⟨w.heap.size + 1 + 1, o, none⟩ = _ := fun o => hc _ o (by first | (simp; done) | (simp; omega) | omega))); (try (have g2 : ∀ o, w1.frozen? ⟨w.heap.size + 1 + 1, o, none⟩ = _ := fun o => hf _ o (by first | (simp; done) | (simp; omega) | omega))); clear hb hz) | (go_at_call 32; ((with_reducible refine (CP _).mono ?_); rintro e w' ⟨rfl, rfl⟩)) | (go_at_call 29; ((with_reducible refine (CO _).mono ?_); rintro e w' ⟨rfl, rfl⟩)) | (go_at_call 31; ((with_reducible refine (most_any _).mono ?_); rintro e w' ⟨rfl, rfl⟩)) | (go_at_call 30; ((with_reducible refine (to_any _ _ _).mono ?_); rintro e w' ⟨rfl, rfl⟩)) | (go_at_call 34; ((with_reducible refine (CM _).mono ?_); rintro e w' ⟨rfl, rfl⟩)) | (go_at_call 35; ((with_reducible refine (CF _).mono ?_); rintro e w' ⟨rfl, rfl⟩)))
    refine bodyPost_ret (v := .tuple #[.agg #[.int .u64 ((z : Nat) : Int), .int .u64 ((filledV o : Nat) : Int)], .int .i64 0]) (by simp [results, Try.results13, go_sem, *]) rfl ⟨?_, (by (repeat (first | exact HB | exact Below.refl _ _ | apply below_drew | apply below_draws | refine below_set ?_ (by (try dsimp only); omega) _ | apply below_alloc)))⟩
    rw [HE.out]

set_option maxRecDepth 100000 in
set_option maxHeartbeats 2000000 in
theorem rdo_8 (a b c d : Nat) (hab : a ≤ b) (hcd : c ≤ d) (hbM : b < M) (hdM : d < M) (hs : decide (a = b) = false ∨ decide (c = d) = false) (w : World) :
    Calls Try.prog 13 #[.int .i64 8, .agg #[.int .u64 a, .int .u64 b], .agg #[.int .u64 c, .int .u64 d]] w fun e w' => e = .returned (.tuple #[.agg #[.int .u64 ((spRow 8 a b c d).1 : Nat), .int .u64 ((spRow 8 a b c d).2 : Nat)], .int .i64 0]) ∧ Below w.heap.size w w' := by
  have e : spRow 8 a b c d = (0, filledV (b ||| d)) := by rfl
  have HE := Lib.hid e; clear e
  have hk64 : c % 64 ≤ 64 := Nat.le_of_lt (Nat.mod_lt _ (by decide))
  have CP0 := pow_any (c % 64) hk64
  have hpp : ¬ pw (c % 64) = 0 := pw_pos _ (Nat.mod_lt _ (by decide))
  obtain ⟨k, hk⟩ : ∃ k, c % 64 = k := ⟨_, rfl⟩
  have hki : (c : Int) % 64 = (k : Int) := by omega
  have CO := refDo_any 7 b d hbM hdM
  obtain ⟨o, ho⟩ : ∃ o, aluV 7 b d = o := ⟨_, rfl⟩
  rw [ho, show aluE 7 = 0 by decide] at CO
  rw [hk] at CP0 hk64 hpp
  obtain ⟨P, hP⟩ : ∃ P, pw k = P := ⟨_, rfl⟩
  have CP := CP0
  rw [hP] at CP hpp
  clear CP0
  have HO := Lib.hid ho; clear ho
  have HK := Lib.hid hk; clear hk
  have HP := Lib.hid hP; clear hP
  have e7 : aluV 7 b d = b ||| d := rfl
  have CF := rfilled_any o (by rw [← HO.out]; exact aluV_lt 7 b d hbM hdM)
  rw [← e7, HO.out] at HE
  clear e7
  clear hbM hdM
  have hs' : (a = b ∧ ¬ c = d) ∨ ¬ a = b := by
    rcases hs with hs | hs
    · right; simpa using hs
    · by_cases h : a = b
      · left; exact ⟨h, by simpa using hs⟩
      · right; exact h
  clear hs
  rcases hs' with ⟨hs1, hs2⟩ | hs1
  · have s1 : ((a : Int) == (b : Int)) = true := by simp [hs1]
    have s2 : ((c : Int) == (d : Int)) = false := by simp; omega
    have HS1 := Lib.hid hs1; clear hs1
    have HS2 := Lib.hid hs2; clear hs2
    go_enter Try.func13, Try.ntmps13
    go_wp2_with (first | (go_at_call 18; ((with_reducible refine (rmay_any _ _ _).mono ?_); rintro e w1 ⟨rfl, hb⟩); have HB : Below w.heap.size w w1 := below_then (by (repeat (first | exact HB | exact Below.refl _ _ | apply below_drew | apply below_draws | refine below_set ?_ (by (try dsimp only); omega) _ | apply below_alloc))) hb; obtain ⟨hc, hf⟩ := bcell hb; have hz := hb.size; (try simp at hz); (first | (obtain ⟨y0, y1, y2, y3, y4, y5, y6, y7, y8, y9, y10, y11, _⟩ := up12 hz) | (obtain ⟨y0, y1, y2, y3, y4, y5, y6, y7, y8, y9, y10, _⟩ := up11 hz) | (obtain ⟨y0, y1, y2, y3, y4, y5, y6, y7, y8, y9, _⟩ := up10 hz) | (obtain ⟨y0, y1, y2, y3, y4, y5, y6, y7, y8, _⟩ := up9 hz) | (obtain ⟨y0, y1, y2, y3, y4, y5, y6, y7, _⟩ := up8 hz) | (obtain ⟨y0, y1, y2, y3, y4, y5, y6, _⟩ := up7 hz) | (obtain ⟨y0, y1, y2, y3, y4, y5, _⟩ := up6 hz) | (obtain ⟨y0, y1, y2, y3, y4, _⟩ := up5 hz) | (obtain ⟨y0, y1, y2, y3, _⟩ := up4 hz) | (obtain ⟨y0, y1, y2, _⟩ := up3 hz) | (obtain ⟨y0, y1, _⟩ := up2 hz) | (obtain ⟨y0, _⟩ := up1 hz) | skip); (try (have z0 : w.heap.size < w1.heap.size := by omega)); (try (have z1 : w.heap.size + 1 < w1.heap.size := by omega)); (try (have z2 : w.heap.size + 1 + 1 < w1.heap.size := by omega)); (try (have c0 : ∀ o, w1.cell? ⟨w.heap.size, o, none⟩ = _ := fun o => hc _ o (by first | (simp; done) | (simp; omega) | omega))); (try (have g0 : ∀ o, w1.frozen? ⟨w.heap.size, o, none⟩ = _ := fun o => hf _ o (by first | (simp; done) | (simp; omega) | omega))); (try (have c1 : ∀ o, w1.cell? ⟨w.heap.size + 1, o, none⟩ = _ := fun o => hc _ o (by first | (simp; done) | (simp; omega) | omega))); (try (have g1 : ∀ o, w1.frozen? ⟨w.heap.size + 1, o, none⟩ = _ := fun o => hf _ o (by first | (simp; done) | (simp; omega) | omega))); (try (have c2 : ∀ o, w1.cell? ⟨w.heap.size + 1 + 1, o, none⟩ = _ := fun o => hc _ o (by first | (simp; done) | (simp; omega) | omega))); (try (have g2 : ∀ o, w1.frozen? ⟨w.heap.size + 1 + 1, o, none⟩ = _ := fun o => hf _ o (by first | (simp; done) | (simp; omega) | omega))); clear hb hz) | (go_at_call 32; ((with_reducible refine (CP _).mono ?_); rintro e w' ⟨rfl, rfl⟩)) | (go_at_call 29; ((with_reducible refine (CO _).mono ?_); rintro e w' ⟨rfl, rfl⟩)) | (go_at_call 31; ((with_reducible refine (most_any _).mono ?_); rintro e w' ⟨rfl, rfl⟩)) | (go_at_call 30; ((with_reducible refine (to_any _ _ _).mono ?_); rintro e w' ⟨rfl, rfl⟩)) | (go_at_call 35; ((with_reducible refine (CF _).mono ?_); rintro e w' ⟨rfl, rfl⟩)))
    refine bodyPost_ret (v := .tuple #[.agg #[.int .u64 0, .int .u64 ((filledV o : Nat) : Int)], .int .i64 0]) (by simp [results, Try.results13, go_sem, *]) rfl ⟨?_, (by (repeat (first | exact HB | exact Below.refl _ _ | apply below_drew | apply below_draws | refine below_set ?_ (by (try dsimp only); omega) _ | apply below_alloc)))⟩
    rw [HE.out] <;> rfl
  · have s1 : ((a : Int) == (b : Int)) = false := by simp; omega
    have HS1 := Lib.hid hs1; clear hs1
    go_enter Try.func13, Try.ntmps13
    go_wp2_with (first | (go_at_call 18; ((with_reducible refine (rmay_any _ _ _).mono ?_); rintro e w1 ⟨rfl, hb⟩); have HB : Below w.heap.size w w1 := below_then (by (repeat (first | exact HB | exact Below.refl _ _ | apply below_drew | apply below_draws | refine below_set ?_ (by (try dsimp only); omega) _ | apply below_alloc))) hb; obtain ⟨hc, hf⟩ := bcell hb; have hz := hb.size; (try simp at hz); (first | (obtain ⟨y0, y1, y2, y3, y4, y5, y6, y7, y8, y9, y10, y11, _⟩ := up12 hz) | (obtain ⟨y0, y1, y2, y3, y4, y5, y6, y7, y8, y9, y10, _⟩ := up11 hz) | (obtain ⟨y0, y1, y2, y3, y4, y5, y6, y7, y8, y9, _⟩ := up10 hz) | (obtain ⟨y0, y1, y2, y3, y4, y5, y6, y7, y8, _⟩ := up9 hz) | (obtain ⟨y0, y1, y2, y3, y4, y5, y6, y7, _⟩ := up8 hz) | (obtain ⟨y0, y1, y2, y3, y4, y5, y6, _⟩ := up7 hz) | (obtain ⟨y0, y1, y2, y3, y4, y5, _⟩ := up6 hz) | (obtain ⟨y0, y1, y2, y3, y4, _⟩ := up5 hz) | (obtain ⟨y0, y1, y2, y3, _⟩ := up4 hz) | (obtain ⟨y0, y1, y2, _⟩ := up3 hz) | (obtain ⟨y0, y1, _⟩ := up2 hz) | (obtain ⟨y0, _⟩ := up1 hz) | skip); (try (have z0 : w.heap.size < w1.heap.size := by omega)); (try (have z1 : w.heap.size + 1 < w1.heap.size := by omega)); (try (have z2 : w.heap.size + 1 + 1 < w1.heap.size := by omega)); (try (have c0 : ∀ o, w1.cell? ⟨w.heap.size, o, none⟩ = _ := fun o => hc _ o (by first | (simp; done) | (simp; omega) | omega))); (try (have g0 : ∀ o, w1.frozen? ⟨w.heap.size, o, none⟩ = _ := fun o => hf _ o (by first | (simp; done) | (simp; omega) | omega))); (try (have c1 : ∀ o, w1.cell? ⟨w.heap.size + 1, o, none⟩ = _ := fun o => hc _ o (by first | (simp; done) | (simp; omega) | omega))); (try (have g1 : ∀ o, w1.frozen? ⟨w.heap.size + 1, o, none⟩ = _ := fun o => hf _ o (by first | (simp; done) | (simp; omega) | omega))); (try (have c2 : ∀ o, w1.cell? ⟨w.heap.size + 1 + 1, o, none⟩ = _ := fun o => hc _ o (by first | (simp; done) | (simp; omega) | omega))); (try (have g2 : ∀ o, w1.frozen? ⟨w.heap.size + 1 + 1, o, none⟩ = _ := fun o => hf _ o (by first | (simp; done) | (simp; omega) | omega))); clear hb hz) | (go_at_call 32; ((with_reducible refine (CP _).mono ?_); rintro e w' ⟨rfl, rfl⟩)) | (go_at_call 29; ((with_reducible refine (CO _).mono ?_); rintro e w' ⟨rfl, rfl⟩)) | (go_at_call 31; ((with_reducible refine (most_any _).mono ?_); rintro e w' ⟨rfl, rfl⟩)) | (go_at_call 30; ((with_reducible refine (to_any _ _ _).mono ?_); rintro e w' ⟨rfl, rfl⟩)) | (go_at_call 35; ((with_reducible refine (CF _).mono ?_); rintro e w' ⟨rfl, rfl⟩)))
    refine bodyPost_ret (v := .tuple #[.agg #[.int .u64 0, .int .u64 ((filledV o : Nat) : Int)], .int .i64 0]) (by simp [results, Try.results13, go_sem, *]) rfl ⟨?_, (by (repeat (first | exact HB | exact Below.refl _ _ | apply below_drew | apply below_draws | refine below_set ?_ (by (try dsimp only); omega) _ | apply below_alloc)))⟩
    rw [HE.out] <;> rfl

set_option maxRecDepth 100000 in
set_option maxHeartbeats 2000000 in
theorem rdo_9y (a b c d : Nat) (hab : a ≤ b) (hcd : c ≤ d) (hbM : b < M) (hdM : d < M) (hs : decide (a = b) = false ∨ decide (c = d) = false) (h3 : c = d) (hf : b * 2 ^ (c % 64) < M) (w : World) :
    Calls Try.prog 13 #[.int .i64 9, .agg #[.int .u64 a, .int .u64 b], .agg #[.int .u64 c, .int .u64 d]] w fun e w' => e = .returned (.tuple #[.agg #[.int .u64 ((spRow 9 a b c d).1 : Nat), .int .u64 ((spRow 9 a b c d).2 : Nat)], .int .i64 0]) ∧ Below w.heap.size w w' := by
  have e : spRow 9 a b c d = (a * 2 ^ (c % 64), b * 2 ^ (c % 64)) := by unfold spRow; rw [if_neg (by decide), if_neg (by decide), if_neg (by decide), if_neg (by decide), if_neg (by decide), if_neg (by decide), if_neg (by decide), if_neg (by decide), if_pos rfl, if_pos ⟨h3, hf⟩]
  have HE := Lib.hid e; clear e
  have hk64 : c % 64 ≤ 64 := Nat.le_of_lt (Nat.mod_lt _ (by decide))
  have CP0 := pow_any (c % 64) hk64
  have hpp : ¬ pw (c % 64) = 0 := pw_pos _ (Nat.mod_lt _ (by decide))
  obtain ⟨k, hk⟩ : ∃ k, c % 64 = k := ⟨_, rfl⟩
  have hki : (c : Int) % 64 = (k : Int) := by omega
  have CO := refDo_any 7 b d hbM hdM
  obtain ⟨o, ho⟩ : ∃ o, aluV 7 b d = o := ⟨_, rfl⟩
  rw [ho, show aluE 7 = 0 by decide] at CO
  rw [hk] at CP0 hk64 hpp
  obtain ⟨P, hP⟩ : ∃ P, pw k = P := ⟨_, rfl⟩
  have CP := CP0
  rw [hP] at CP hpp
  clear CP0
  have HO := Lib.hid ho; clear ho
  have HK := Lib.hid hk; clear hk
  have HP := Lib.hid hP; clear hP
  have hPk : P = 2 ^ k := by rw [← HP.out]; exact pow_mod k (by rw [← HK.out]; exact Nat.mod_lt _ (by decide))
  have e64 : c % 64 = k := HK.out
  have h1 : IntKind.u64.wrap (((mostN : Nat) : Int) / (P : Int)) = (((M - 1) / P : Nat) : Int) := by
    rw [mostN_eq, ← Int.natCast_ediv, wrapu_nat, Nat.mod_eq_of_lt (Nat.lt_of_le_of_lt (Nat.div_le_self _ _) (by decide))]
  have hq : b ≤ (M - 1) / P ↔ b * P < M := by rw [Nat.le_div_iff_mul_le (by omega)]; unfold M; omega
  obtain ⟨q, eq⟩ : ∃ q, (M - 1) / P = q := ⟨_, rfl⟩
  rw [eq] at h1 hq
  rw [e64, ← hPk] at HE hf
  have hle : b ≤ q := hq.2 hf
  have o1 : ((c : Int) == (d : Int)) = true := by simp [h3]
  have h2 : IntKind.u64.wrap ((a : Int) * (P : Int)) = ((a * P : Nat) : Int) := by rw [wrapu_mul, Nat.mod_eq_of_lt (Nat.lt_of_le_of_lt (Nat.mul_le_mul_right _ hab) hf)]
  have h4 : IntKind.u64.wrap ((b : Int) * (P : Int)) = ((b * P : Nat) : Int) := by rw [wrapu_mul, Nat.mod_eq_of_lt hf]
  have H3 := Lib.hid h3; clear h3
  clear hf hq eq hPk e64
  clear hbM hdM
  have CPq : ∀ w : World, Calls Try.prog 32 #[.int .i64 k] w fun e w' => e = .returned (.int .u64 (P : Nat)) ∧ w' = w := fun w => (CP w).mono fun e w' h => ⟨h.1, h.2.symm⟩
  have hs' : (a = b ∧ ¬ c = d) ∨ ¬ a = b := by
    rcases hs with hs | hs
    · right; simpa using hs
    · by_cases h : a = b
      · left; exact ⟨h, by simpa using hs⟩
      · right; exact h
  clear hs
  rcases hs' with ⟨hs1, hs2⟩ | hs1
  · exact absurd H3.out hs2
  · have s1 : ((a : Int) == (b : Int)) = false := by simp; omega
    have HS1 := Lib.hid hs1; clear hs1
    go_enter Try.func13, Try.ntmps13
    go_wp2_with (first | (go_at_call 18; ((with_reducible refine (rmay_any _ _ _).mono ?_); rintro e w1 ⟨rfl, hb⟩); have HB : Below w.heap.size w w1 := below_then (by (repeat (first | exact HB | exact Below.refl _ _ | apply below_drew | apply below_draws | refine below_set ?_ (by (try dsimp only); omega) _ | apply below_alloc))) hb; obtain ⟨hc, hf⟩ := bcell hb; have hz := hb.size; (try simp at hz); (first | (obtain ⟨y0, y1, y2, y3, y4, y5, y6, y7, y8, y9, y10, y11, _⟩ := up12 hz) | (obtain ⟨y0, y1, y2, y3, y4, y5, y6, y7, y8, y9, y10, _⟩ := up11 hz) | (obtain ⟨y0, y1, y2, y3, y4, y5, y6, y7, y8, y9, _⟩ := up10 hz) | (obtain ⟨y0, y1, y2, y3, y4, y5, y6, y7, y8, _⟩ := up9 hz) | (obtain ⟨y0, y1, y2, y3, y4, y5, y6, y7, _⟩ := up8 hz) | (obtain ⟨y0, y1, y2, y3, y4, y5, y6, _⟩ := up7 hz) | (obtain ⟨y0, y1, y2, y3, y4, y5, _⟩ := up6 hz) | (obtain ⟨y0, y1, y2, y3, y4, _⟩ := up5 hz) | (obtain ⟨y0, y1, y2, y3, _⟩ := up4 hz) | (obtain ⟨y0, y1, y2, _⟩ := up3 hz) | (obtain ⟨y0, y1, _⟩ := up2 hz) | (obtain ⟨y0, _⟩ := up1 hz) | skip); (try (have z0 : w.heap.size < w1.heap.size := by omega)); (try (have z1 : w.heap.size + 1 < w1.heap.size := by omega)); (try (have z2 : w.heap.size + 1 + 1 < w1.heap.size := by omega)); (try (have c0 : ∀ o, w1.cell? ⟨w.heap.size, o, none⟩ = _ := fun o => hc _ o (by first | (simp; done) | (simp; omega) | omega))); (try (have g0 : ∀ o, w1.frozen? ⟨w.heap.size, o, none⟩ = _ := fun o => hf _ o (by first | (simp; done) | (simp; omega) | omega))); (try (have c1 : ∀ o, w1.cell? ⟨w.heap.size + 1, o, none⟩ = _ := fun o => hc _ o (by first | (simp; done) | (simp; omega) | omega))); (try (have g1 : ∀ o, w1.frozen? ⟨w.heap.size + 1, o, none⟩ = _ := fun o => hf _ o (by first | (simp; done) | (simp; omega) | omega))); (try (have c2 : ∀ o, w1.cell? ⟨w.heap.size + 1 + 1, o, none⟩ = _ := fun o => hc _ o (by first | (simp; done) | (simp; omega) | omega))); (try (have g2 : ∀ o, w1.frozen? ⟨w.heap.size + 1 + 1, o, none⟩ = _ := fun o => hf _ o (by first | (simp; done) | (simp; omega) | omega))); clear hb hz) | (go_at_call 32; ((with_reducible refine (CP _).mono ?_); rintro e w' ⟨rfl, rfl⟩)) | (go_at_call 29; ((with_reducible refine (CO _).mono ?_); rintro e w' ⟨rfl, rfl⟩)) | (go_at_call 31; ((with_reducible refine (most_any _).mono ?_); rintro e w' ⟨rfl, rfl⟩)) | (go_at_call 30; ((with_reducible refine (to_any _ _ _).mono ?_); rintro e w' ⟨rfl, rfl⟩)))
    go_quiet (first | (go_at_call 31; exact Calls.quiet_of_same (most_q4 _)) | (go_at_call 32; exact Calls.quiet_of_same (CPq _)))
    go_wp2_with (first | (go_at_call 18; ((with_reducible refine (rmay_any _ _ _).mono ?_); rintro e w1 ⟨rfl, hb⟩); have HB : Below w.heap.size w w1 := below_then (by (repeat (first | exact HB | exact Below.refl _ _ | apply below_drew | apply below_draws | refine below_set ?_ (by (try dsimp only); omega) _ | apply below_alloc))) hb; obtain ⟨hc, hf⟩ := bcell hb; have hz := hb.size; (try simp at hz); (first | (obtain ⟨y0, y1, y2, y3, y4, y5, y6, y7, y8, y9, y10, y11, _⟩ := up12 hz) | (obtain ⟨y0, y1, y2, y3, y4, y5, y6, y7, y8, y9, y10, _⟩ := up11 hz) | (obtain ⟨y0, y1, y2, y3, y4, y5, y6, y7, y8, y9, _⟩ := up10 hz) | (obtain ⟨y0, y1, y2, y3, y4, y5, y6, y7, y8, _⟩ := up9 hz) | (obtain ⟨y0, y1, y2, y3, y4, y5, y6, y7, _⟩ := up8 hz) | (obtain ⟨y0, y1, y2, y3, y4, y5, y6, _⟩ := up7 hz) | (obtain ⟨y0, y1, y2, y3, y4, y5, _⟩ := up6 hz) | (obtain ⟨y0, y1, y2, y3, y4, _⟩ := up5 hz) | (obtain ⟨y0, y1, y2, y3, _⟩ := up4 hz) | (obtain ⟨y0, y1, y2, _⟩ := up3 hz) | (obtain ⟨y0, y1, _⟩ := up2 hz) | (obtain ⟨y0, _⟩ := up1 hz) | skip); (try (have z0 : w.heap.size < w1.heap.size := by omega)); (try (have z1 : w.heap.size + 1 < w1.heap.size := by omega)); (try (have z2 : w.heap.size + 1 + 1 < w1.heap.size := by omega)); (try (have c0 : ∀ o, w1.cell? ⟨w.heap.size, o, none⟩ = _ := fun o => hc _ o (by first | (simp; done) | (simp; omega) | omega))); (try (have g0 : ∀ o, w1.frozen? ⟨w.heap.size, o, none⟩ = _ := fun o => hf _ o (by first | (simp; done) | (simp; omega) | omega))); (try (have c1 : ∀ o, w1.cell? ⟨w.heap.size + 1, o, none⟩ = _ := fun o => hc _ o (by first | (simp; done) | (simp; omega) | omega))); (try (have g1 : ∀ o, w1.frozen? ⟨w.heap.size + 1, o, none⟩ = _ := fun o => hf _ o (by first | (simp; done) | (simp; omega) | omega))); (try (have c2 : ∀ o, w1.cell? ⟨w.heap.size + 1 + 1, o, none⟩ = _ := fun o => hc _ o (by first | (simp; done) | (simp; omega) | omega))); (try (have g2 : ∀ o, w1.frozen? ⟨w.heap.size + 1 + 1, o, none⟩ = _ := fun o => hf _ o (by first | (simp; done) | (simp; omega) | omega))); clear hb hz) | (go_at_call 32; ((with_reducible refine (CP _).mono ?_); rintro e w' ⟨rfl, rfl⟩)) | (go_at_call 29; ((with_reducible refine (CO _).mono ?_); rintro e w' ⟨rfl, rfl⟩)) | (go_at_call 31; ((with_reducible refine (most_any _).mono ?_); rintro e w' ⟨rfl, rfl⟩)) | (go_at_call 30; ((with_reducible refine (to_any _ _ _).mono ?_); rintro e w' ⟨rfl, rfl⟩)))
    refine bodyPost_ret (v := .tuple #[.agg #[.int .u64 ((a : Int) * (P : Int)), .int .u64 ((b : Int) * (P : Int))], .int .i64 0]) (by simp [results, Try.results13, go_sem, *]) rfl ⟨?_, (by (repeat (first | exact HB | exact Below.refl _ _ | apply below_drew | apply below_draws | refine below_set ?_ (by (try dsimp only); omega) _ | apply below_alloc)))⟩
    rw [HE.out] <;> simp

set_option maxRecDepth 100000 in
set_option maxHeartbeats 2000000 in
theorem rdo_9n (a b c d : Nat) (hab : a ≤ b) (hcd : c ≤ d) (hbM : b < M) (hdM : d < M) (hs : decide (a = b) = false ∨ decide (c = d) = false) (h3 : c = d) (hf : ¬ b * 2 ^ (c % 64) < M) (w : World) :
    Calls Try.prog 13 #[.int .i64 9, .agg #[.int .u64 a, .int .u64 b], .agg #[.int .u64 c, .int .u64 d]] w fun e w' => e = .returned (.tuple #[.agg #[.int .u64 ((spRow 9 a b c d).1 : Nat), .int .u64 ((spRow 9 a b c d).2 : Nat)], .int .i64 0]) ∧ Below w.heap.size w w' := by
  have e : spRow 9 a b c d = (0, M - 1) := by unfold spRow; rw [if_neg (by decide), if_neg (by decide), if_neg (by decide), if_neg (by decide), if_neg (by decide), if_neg (by decide), if_neg (by decide), if_neg (by decide), if_pos rfl, if_neg (fun h => hf h.2)]
  have HE := Lib.hid e; clear e
  have hk64 : c % 64 ≤ 64 := Nat.le_of_lt (Nat.mod_lt _ (by decide))
  have CP0 := pow_any (c % 64) hk64
  have hpp : ¬ pw (c % 64) = 0 := pw_pos _ (Nat.mod_lt _ (by decide))
  obtain ⟨k, hk⟩ : ∃ k, c % 64 = k := ⟨_, rfl⟩
  have hki : (c : Int) % 64 = (k : Int) := by omega
  have CO := refDo_any 7 b d hbM hdM
  obtain ⟨o, ho⟩ : ∃ o, aluV 7 b d = o := ⟨_, rfl⟩
  rw [ho, show aluE 7 = 0 by decide] at CO
  rw [hk] at CP0 hk64 hpp
  obtain ⟨P, hP⟩ : ∃ P, pw k = P := ⟨_, rfl⟩
  have CP := CP0
  rw [hP] at CP hpp
  clear CP0
  have HO := Lib.hid ho; clear ho
  have HK := Lib.hid hk; clear hk
  have HP := Lib.hid hP; clear hP
  have hPk : P = 2 ^ k := by rw [← HP.out]; exact pow_mod k (by rw [← HK.out]; exact Nat.mod_lt _ (by decide))
  have e64 : c % 64 = k := HK.out
  have h1 : IntKind.u64.wrap (((mostN : Nat) : Int) / (P : Int)) = (((M - 1) / P : Nat) : Int) := by
    rw [mostN_eq, ← Int.natCast_ediv, wrapu_nat, Nat.mod_eq_of_lt (Nat.lt_of_le_of_lt (Nat.div_le_self _ _) (by decide))]
  have hq : b ≤ (M - 1) / P ↔ b * P < M := by rw [Nat.le_div_iff_mul_le (by omega)]; unfold M; omega
  obtain ⟨q, eq⟩ : ∃ q, (M - 1) / P = q := ⟨_, rfl⟩
  rw [eq] at h1 hq
  rw [e64, ← hPk] at hf
  have hle : ¬ b ≤ q := fun h => hf (hq.1 h)
  have o1 : ((c : Int) == (d : Int)) = true := by simp [h3]
  have H3 := Lib.hid h3; clear h3
  clear hf hq eq hPk e64
  clear hbM hdM
  have CPq : ∀ w : World, Calls Try.prog 32 #[.int .i64 k] w fun e w' => e = .returned (.int .u64 (P : Nat)) ∧ w' = w := fun w => (CP w).mono fun e w' h => ⟨h.1, h.2.symm⟩
  have hs' : (a = b ∧ ¬ c = d) ∨ ¬ a = b := by
    rcases hs with hs | hs
    · right; simpa using hs
    · by_cases h : a = b
      · left; exact ⟨h, by simpa using hs⟩
      · right; exact h
  clear hs
  rcases hs' with ⟨hs1, hs2⟩ | hs1
  · exact absurd H3.out hs2
  · have s1 : ((a : Int) == (b : Int)) = false := by simp; omega
    have HS1 := Lib.hid hs1; clear hs1
    go_enter Try.func13, Try.ntmps13
    go_wp2_with (first | (go_at_call 18; ((with_reducible refine (rmay_any _ _ _).mono ?_); rintro e w1 ⟨rfl, hb⟩); have HB : Below w.heap.size w w1 := below_then (by (repeat (first | exact HB | exact Below.refl _ _ | apply below_drew | apply below_draws | refine below_set ?_ (by (try dsimp only); omega) _ | apply below_alloc))) hb; obtain ⟨hc, hf⟩ := bcell hb; have hz := hb.size; (try simp at hz); (first | (obtain ⟨y0, y1, y2, y3, y4, y5, y6, y7, y8, y9, y10, y11, _⟩ := up12 hz) | (obtain ⟨y0, y1, y2, y3, y4, y5, y6, y7, y8, y9, y10, _⟩ := up11 hz) | (obtain ⟨y0, y1, y2, y3, y4, y5, y6, y7, y8, y9, _⟩ := up10 hz) | (obtain ⟨y0, y1, y2, y3, y4, y5, y6, y7, y8, _⟩ := up9 hz) | (obtain ⟨y0, y1, y2, y3, y4, y5, y6, y7, _⟩ := up8 hz) | (obtain ⟨y0, y1, y2, y3, y4, y5, y6, _⟩ := up7 hz) | (obtain ⟨y0, y1, y2, y3, y4, y5, _⟩ := up6 hz) | (obtain ⟨y0, y1, y2, y3, y4, _⟩ := up5 hz) | (obtain ⟨y0, y1, y2, y3, _⟩ := up4 hz) | (obtain ⟨y0, y1, y2, _⟩ := up3 hz) | (obtain ⟨y0, y1, _⟩ := up2 hz) | (obtain ⟨y0, _⟩ := up1 hz) | skip); (try (have z0 : w.heap.size < w1.heap.size := by omega)); (try (have z1 : w.heap.size + 1 < w1.heap.size := by omega)); (try (have z2 : w.heap.size + 1 + 1 < w1.heap.size := by omega)); (try (have c0 : ∀ o, w1.cell? ⟨w.heap.size, o, none⟩ = _ := fun o => hc _ o (by first | (simp; done) | (simp; omega) | omega))); (try (have g0 : ∀ o, w1.frozen? ⟨w.heap.size, o, none⟩ = _ := fun o => hf _ o (by first | (simp; done) | (simp; omega) | omega))); (try (have c1 : ∀ o, w1.cell? ⟨w.heap.size + 1, o, none⟩ = _ := fun o => hc _ o (by first | (simp; done) | (simp; omega) | omega))); (try (have g1 : ∀ o, w1.frozen? ⟨w.heap.size + 1, o, none⟩ = _ := fun o => hf _ o (by first | (simp; done) | (simp; omega) | omega))); (try (have c2 : ∀ o, w1.cell? ⟨w.heap.size + 1 + 1, o, none⟩ = _ := fun o => hc _ o (by first | (simp; done) | (simp; omega) | omega))); (try (have g2 : ∀ o, w1.frozen? ⟨w.heap.size + 1 + 1, o, none⟩ = _ := fun o => hf _ o (by first | (simp; done) | (simp; omega) | omega))); clear hb hz) | (go_at_call 32; ((with_reducible refine (CP _).mono ?_); rintro e w' ⟨rfl, rfl⟩)) | (go_at_call 29; ((with_reducible refine (CO _).mono ?_); rintro e w' ⟨rfl, rfl⟩)) | (go_at_call 31; ((with_reducible refine (most_any _).mono ?_); rintro e w' ⟨rfl, rfl⟩)) | (go_at_call 30; ((with_reducible refine (to_any _ _ _).mono ?_); rintro e w' ⟨rfl, rfl⟩)))
    go_quiet (first | (go_at_call 31; exact Calls.quiet_of_same (most_q4 _)) | (go_at_call 32; exact Calls.quiet_of_same (CPq _)))
    go_wp2_with (first | (go_at_call 18; ((with_reducible refine (rmay_any _ _ _).mono ?_); rintro e w1 ⟨rfl, hb⟩); have HB : Below w.heap.size w w1 := below_then (by (repeat (first | exact HB | exact Below.refl _ _ | apply below_drew | apply below_draws | refine below_set ?_ (by (try dsimp only); omega) _ | apply below_alloc))) hb; obtain ⟨hc, hf⟩ := bcell hb; have hz := hb.size; (try simp at hz); (first | (obtain ⟨y0, y1, y2, y3, y4, y5, y6, y7, y8, y9, y10, y11, _⟩ := up12 hz) | (obtain ⟨y0, y1, y2, y3, y4, y5, y6, y7, y8, y9, y10, _⟩ := up11 hz) | (obtain ⟨y0, y1, y2, y3, y4, y5, y6, y7, y8, y9, _⟩ := up10 hz) | (obtain ⟨y0, y1, y2, y3, y4, y5, y6, y7, y8, _⟩ := up9 hz) | (obtain ⟨y0, y1, y2, y3, y4, y5, y6, y7, _⟩ := up8 hz) | (obtain ⟨y0, y1, y2, y3, y4, y5, y6, _⟩ := up7 hz) | (obtain ⟨y0, y1, y2, y3, y4, y5, _⟩ := up6 hz) | (obtain ⟨y0, y1, y2, y3, y4, _⟩ := up5 hz) | (obtain ⟨y0, y1, y2, y3, _⟩ := up4 hz) | (obtain ⟨y0, y1, y2, _⟩ := up3 hz) | (obtain ⟨y0, y1, _⟩ := up2 hz) | (obtain ⟨y0, _⟩ := up1 hz) | skip); (try (have z0 : w.heap.size < w1.heap.size := by omega)); (try (have z1 : w.heap.size + 1 < w1.heap.size := by omega)); (try (have z2 : w.heap.size + 1 + 1 < w1.heap.size := by omega)); (try (have c0 : ∀ o, w1.cell? ⟨w.heap.size, o, none⟩ = _ := fun o => hc _ o (by first | (simp; done) | (simp; omega) | omega))); (try (have g0 : ∀ o, w1.frozen? ⟨w.heap.size, o, none⟩ = _ := fun o => hf _ o (by first | (simp; done) | (simp; omega) | omega))); (try (have c1 : ∀ o, w1.cell? ⟨w.heap.size + 1, o, none⟩ = _ := fun o => hc _ o (by first | (simp; done) | (simp; omega) | omega))); (try (have g1 : ∀ o, w1.frozen? ⟨w.heap.size + 1, o, none⟩ = _ := fun o => hf _ o (by first | (simp; done) | (simp; omega) | omega))); (try (have c2 : ∀ o, w1.cell? ⟨w.heap.size + 1 + 1, o, none⟩ = _ := fun o => hc _ o (by first | (simp; done) | (simp; omega) | omega))); (try (have g2 : ∀ o, w1.frozen? ⟨w.heap.size + 1 + 1, o, none⟩ = _ := fun o => hf _ o (by first | (simp; done) | (simp; omega) | omega))); clear hb hz) | (go_at_call 32; ((with_reducible refine (CP _).mono ?_); rintro e w' ⟨rfl, rfl⟩)) | (go_at_call 29; ((with_reducible refine (CO _).mono ?_); rintro e w' ⟨rfl, rfl⟩)) | (go_at_call 31; ((with_reducible refine (most_any _).mono ?_); rintro e w' ⟨rfl, rfl⟩)) | (go_at_call 30; ((with_reducible refine (to_any _ _ _).mono ?_); rintro e w' ⟨rfl, rfl⟩)))
    refine bodyPost_ret (v := .tuple #[.agg #[.int .u64 0, .int .u64 ((mostN : Nat) : Int)], .int .i64 0]) (by simp [results, Try.results13, go_sem, *]) rfl ⟨?_, (by (repeat (first | exact HB | exact Below.refl _ _ | apply below_drew | apply below_draws | refine below_set ?_ (by (try dsimp only); omega) _ | apply below_alloc)))⟩
    rw [HE.out] <;> rfl

set_option maxRecDepth 100000 in
set_option maxHeartbeats 2000000 in
theorem rdo_9m (a b c d : Nat) (hab : a ≤ b) (hcd : c ≤ d) (hbM : b < M) (hdM : d < M) (hs : decide (a = b) = false ∨ decide (c = d) = false) (h3 : ¬ c = d) (w : World) :
    Calls Try.prog 13 #[.int .i64 9, .agg #[.int .u64 a, .int .u64 b], .agg #[.int .u64 c, .int .u64 d]] w fun e w' => e = .returned (.tuple #[.agg #[.int .u64 ((spRow 9 a b c d).1 : Nat), .int .u64 ((spRow 9 a b c d).2 : Nat)], .int .i64 0]) ∧ Below w.heap.size w w' := by
  have e : spRow 9 a b c d = (0, M - 1) := by simp [spRow, h3]
  have HE := Lib.hid e; clear e
  have hk64 : c % 64 ≤ 64 := Nat.le_of_lt (Nat.mod_lt _ (by decide))
  have CP0 := pow_any (c % 64) hk64
  have hpp : ¬ pw (c % 64) = 0 := pw_pos _ (Nat.mod_lt _ (by decide))
  obtain ⟨k, hk⟩ : ∃ k, c % 64 = k := ⟨_, rfl⟩
  have hki : (c : Int) % 64 = (k : Int) := by omega
  have CO := refDo_any 7 b d hbM hdM
  obtain ⟨o, ho⟩ : ∃ o, aluV 7 b d = o := ⟨_, rfl⟩
  rw [ho, show aluE 7 = 0 by decide] at CO
  rw [hk] at CP0 hk64 hpp
  obtain ⟨P, hP⟩ : ∃ P, pw k = P := ⟨_, rfl⟩
  have CP := CP0
  rw [hP] at CP hpp
  clear CP0
  have HO := Lib.hid ho; clear ho
  have HK := Lib.hid hk; clear hk
  have HP := Lib.hid hP; clear hP
  have o1 : ((c : Int) == (d : Int)) = false := by simp; omega
  clear h3
  clear hbM hdM
  have CPq : ∀ w : World, Calls Try.prog 32 #[.int .i64 k] w fun e w' => e = .returned (.int .u64 (P : Nat)) ∧ w' = w := fun w => (CP w).mono fun e w' h => ⟨h.1, h.2.symm⟩
  have hs' : (a = b ∧ ¬ c = d) ∨ ¬ a = b := by
    rcases hs with hs | hs
    · right; simpa using hs
    · by_cases h : a = b
      · left; exact ⟨h, by simpa using hs⟩
      · right; exact h
  clear hs
  rcases hs' with ⟨hs1, hs2⟩ | hs1
  · have s1 : ((a : Int) == (b : Int)) = true := by simp [hs1]
    have s2 : ((c : Int) == (d : Int)) = false := by simp; omega
    have HS1 := Lib.hid hs1; clear hs1
    have HS2 := Lib.hid hs2; clear hs2
    go_enter Try.func13, Try.ntmps13
    go_wp2_with (first | (go_at_call 18; ((with_reducible refine (rmay_any _ _ _).mono ?_); rintro e w1 ⟨rfl, hb⟩); have HB : Below w.heap.size w w1 := below_then (by (repeat (first | exact HB | exact Below.refl _ _ | apply below_drew | apply below_draws | refine below_set ?_ (by (try dsimp only); omega) _ | apply below_alloc))) hb; obtain ⟨hc, hf⟩ := bcell hb; have hz := hb.size; (try simp at hz); (first | (obtain ⟨y0, y1, y2, y3, y4, y5, y6, y7, y8, y9, y10, y11, _⟩ := up12 hz) | (obtain ⟨y0, y1, y2, y3, y4, y5, y6, y7, y8, y9, y10, _⟩ := up11 hz) | (obtain ⟨y0, y1, y2, y3, y4, y5, y6, y7, y8, y9, _⟩ := up10 hz) | (obtain ⟨y0, y1, y2, y3, y4, y5, y6, y7, y8, _⟩ := up9 hz) | (obtain ⟨y0, y1, y2, y3, y4, y5, y6, y7, _⟩ := up8 hz) | (obtain ⟨y0, y1, y2, y3, y4, y5, y6, _⟩ := up7 hz) | (obtain ⟨y0, y1, y2, y3, y4, y5, _⟩ := up6 hz) | (obtain ⟨y0, y1, y2, y3, y4, _⟩ := up5 hz) | (obtain ⟨y0, y1, y2, y3, _⟩ := up4 hz) | (obtain ⟨y0, y1, y2, _⟩ := up3 hz) | (obtain ⟨y0, y1, _⟩ := up2 hz) | (obtain ⟨y0, _⟩ := up1 hz) | skip); (try (have z0 : w.heap.size < w1.heap.size := by omega)); (try (have z1 : w.heap.size + 1 < w1.heap.size := by omega)); (try (have z2 : w.heap.size + 1 + 1 < w1.heap.size := by omega)); (try (have c0 : ∀ o, w1.cell? ⟨w.heap.size, o, none⟩ = _ := fun o => hc _ o (by first | (simp; done) | (simp; omega) | omega))); (try (have g0 : ∀ o, w1.frozen? ⟨w.heap.size, o, none⟩ = _ := fun o => hf _ o (by first | (simp; done) | (simp; omega) | omega))); (try (have c1 : ∀ o, w1.cell? ⟨w.heap.size + 1, o, none⟩ = _ := fun o => hc _ o (by first | (simp; done) | (simp; omega) | omega))); (try (have g1 : ∀ o, w1.frozen? ⟨w.heap.size + 1, o, none⟩ = _ := fun o => hf _ o (by first | (simp; done) | (simp; omega) | omega))); (try (have c2 : ∀ o, w1.cell? ⟨w.heap.size + 1 + 1, o, none⟩ = _ := fun o => hc _ o (by first | (simp; done) | (simp; omega) | omega))); (try (have g2 : ∀ o, w1.frozen? ⟨w.heap.size + 1 + 1, o, none⟩ = _ := fun o => hf _ o (by first | (simp; done) | (simp; omega) | omega))); clear hb hz) | (go_at_call 32; ((with_reducible refine (CP _).mono ?_); rintro e w' ⟨rfl, rfl⟩)) | (go_at_call 29; ((with_reducible refine (CO _).mono ?_); rintro e w' ⟨rfl, rfl⟩)) | (go_at_call 31; ((with_reducible refine (most_any _).mono ?_); rintro e w' ⟨rfl, rfl⟩)) | (go_at_call 30; ((with_reducible refine (to_any _ _ _).mono ?_); rintro e w' ⟨rfl, rfl⟩)))
    go_quiet (first | (go_at_call 31; exact Calls.quiet_of_same (most_q4 _)) | (go_at_call 32; exact Calls.quiet_of_same (CPq _)))
    go_wp2_with (first | (go_at_call 18; ((with_reducible refine (rmay_any _ _ _).mono ?_); rintro e w1 ⟨rfl, hb⟩); have HB : Below w.heap.size w w1 := below_then (by (repeat (first | exact HB | exact Below.refl _ _ | apply below_drew | apply below_draws | refine below_set ?_ (by (try dsimp only); omega) _ | apply below_alloc))) hb; obtain ⟨hc, hf⟩ := bcell hb; have hz := hb.size; (try simp at hz); (first | (obtain ⟨y0, y1, y2, y3, y4, y5, y6, y7, y8, y9, y10, y11, _⟩ := up12 hz) | (obtain ⟨y0, y1, y2, y3, y4, y5, y6, y7, y8, y9, y10, _⟩ := up11 hz) | (obtain ⟨y0, y1, y2, y3, y4, y5, y6, y7, y8, y9, _⟩ := up10 hz) | (obtain ⟨y0, y1, y2, y3, y4, y5, y6, y7, y8, _⟩ := up9 hz) | (obtain ⟨y0, y1, y2, y3, y4, y5, y6, y7, _⟩ := up8 hz) | (obtain ⟨y0, y1, y2, y3, y4, y5, y6, _⟩ := up7 hz) | (obtain ⟨y0, y1, y2, y3, y4, y5, _⟩ := up6 hz) | (obtain ⟨y0, y1, y2, y3, y4, _⟩ := up5 hz) | (obtain ⟨y0, y1, y2, y3, _⟩ := up4 hz) | (obtain ⟨y0, y1, y2, _⟩ := up3 hz) | (obtain ⟨y0, y1, _⟩ := up2 hz) | (obtain ⟨y0, _⟩ := up1 hz) | skip); (try (have z0 : w.heap.size < w1.heap.size := by omega)); (try (have z1 : w.heap.size + 1 < w1.heap.size := by omega)); (try (have z2 : w.heap.size + 1 + 1 < w1.heap.size := by omega)); (try (have c0 : ∀ o, w1.cell? ⟨w.heap.size, o, none⟩ = _ := fun o => hc _ o (by first | (simp; done) | (simp; omega) | omega))); (try (have g0 : ∀ o, w1.frozen? ⟨w.heap.size, o, none⟩ = _ := fun o => hf _ o (by first | (simp; done) | (simp; omega) | omega))); (try (have c1 : ∀ o, w1.cell? ⟨w.heap.size + 1, o, none⟩ = _ := fun o => hc _ o (by first | (simp; done) | (simp; omega) | omega))); (try (have g1 : ∀ o, w1.frozen? ⟨w.heap.size + 1, o, none⟩ = _ := fun o => hf _ o (by first | (simp; done) | (simp; omega) | omega))); (try (have c2 : ∀ o, w1.cell? ⟨w.heap.size + 1 + 1, o, none⟩ = _ := fun o => hc _ o (by first | (simp; done) | (simp; omega) | omega))); (try (have g2 : ∀ o, w1.frozen? ⟨w.heap.size + 1 + 1, o, none⟩ = _ := fun o => hf _ o (by first | (simp; done) | (simp; omega) | omega))); clear hb hz) | (go_at_call 32; ((with_reducible refine (CP _).mono ?_); rintro e w' ⟨rfl, rfl⟩)) | (go_at_call 29; ((with_reducible refine (CO _).mono ?_); rintro e w' ⟨rfl, rfl⟩)) | (go_at_call 31; ((with_reducible refine (most_any _).mono ?_); rintro e w' ⟨rfl, rfl⟩)) | (go_at_call 30; ((with_reducible refine (to_any _ _ _).mono ?_); rintro e w' ⟨rfl, rfl⟩)))
    refine bodyPost_ret (v := .tuple #[.agg #[.int .u64 0, .int .u64 ((mostN : Nat) : Int)], .int .i64 0]) (by simp [results, Try.results13, go_sem, *]) rfl ⟨?_, (by (repeat (first | exact HB | exact Below.refl _ _ | apply below_drew | apply below_draws | refine below_set ?_ (by (try dsimp only); omega) _ | apply below_alloc)))⟩
    rw [HE.out] <;> rfl
  · have s1 : ((a : Int) == (b : Int)) = false := by simp; omega
    have HS1 := Lib.hid hs1; clear hs1
    go_enter Try.func13, Try.ntmps13
    go_wp2_with (first | (go_at_call 18; ((with_reducible refine (rmay_any _ _ _).mono ?_); rintro e w1 ⟨rfl, hb⟩); have HB : Below w.heap.size w w1 := below_then (by (repeat (first | exact HB | exact Below.refl _ _ | apply below_drew | apply below_draws | refine below_set ?_ (by (try dsimp only); omega) _ | apply below_alloc))) hb; obtain ⟨hc, hf⟩ := bcell hb; have hz := hb.size; (try simp at hz); (first | (obtain ⟨y0, y1, y2, y3, y4, y5, y6, y7, y8, y9, y10, y11, _⟩ := up12 hz) | (obtain ⟨y0, y1, y2, y3, y4, y5, y6, y7, y8, y9, y10, _⟩ := up11 hz) | (obtain ⟨y0, y1, y2, y3, y4, y5, y6, y7, y8, y9, _⟩ := up10 hz) | (obtain ⟨y0, y1, y2, y3, y4, y5, y6, y7, y8, _⟩ := up9 hz) | (obtain ⟨y0, y1, y2, y3, y4, y5, y6, y7, _⟩ := up8 hz) | (obtain ⟨y0, y1, y2, y3, y4, y5, y6, _⟩ := up7 hz) | (obtain ⟨y0, y1, y2, y3, y4, y5, _⟩ := up6 hz) | (obtain ⟨y0, y1, y2, y3, y4, _⟩ := up5 hz) | (obtain ⟨y0, y1, y2, y3, _⟩ := up4 hz) | (obtain ⟨y0, y1, y2, _⟩ := up3 hz) | (obtain ⟨y0, y1, _⟩ := up2 hz) | (obtain ⟨y0, _⟩ := up1 hz) | skip); (try (have z0 : w.heap.size < w1.heap.size := by omega)); (try (have z1 : w.heap.size + 1 < w1.heap.size := by omega)); (try (have z2 : w.heap.size + 1 + 1 < w1.heap.size := by omega)); (try (have c0 : ∀ o, w1.cell? ⟨w.heap.size, o, none⟩ = _ := fun o => hc _ o (by first | (simp; done) | (simp; omega) | omega))); (try (have g0 : ∀ o, w1.frozen? ⟨w.heap.size, o, none⟩ = _ := fun o => hf _ o (by first | (simp; done) | (simp; omega) | omega))); (try (have c1 : ∀ o, w1.cell? ⟨w.heap.size + 1, o, none⟩ = _ := fun o => hc _ o (by first | (simp; done) | (simp; omega) | omega))); (try (have g1 : ∀ o, w1.frozen? ⟨w.heap.size + 1, o, none⟩ = _ := fun o => hf _ o (by first | (simp; done) | (simp; omega) | omega))); (try (have c2 : ∀ o, w1.cell? ⟨w.heap.size + 1 + 1, o, none⟩ = _ := fun o => hc _ o (by first | (simp; done) | (simp; omega) | omega))); (try (have g2 : ∀ o, w1.frozen? ⟨w.heap.size + 1 + 1, o, none⟩ = _ := fun o => hf _ o (by first | (simp; done) | (simp; omega) | omega))); clear hb hz) | (go_at_call 32; ((with_reducible refine (CP _).mono ?_); rintro e w' ⟨rfl, rfl⟩)) | (go_at_call 29; ((with_reducible refine (CO _).mono ?_); rintro e w' ⟨rfl, rfl⟩)) | (go_at_call 31; ((with_reducible refine (most_any _).mono ?_); rintro e w' ⟨rfl, rfl⟩)) | (go_at_call 30; ((with_reducible refine (to_any _ _ _).mono ?_); rintro e w' ⟨rfl, rfl⟩)))
    go_quiet (first | (go_at_call 31; exact Calls.quiet_of_same (most_q4 _)) | (go_at_call 32; exact Calls.quiet_of_same (CPq _)))
    go_wp2_with (first | (go_at_call 18; ((with_reducible refine (rmay_any _ _ _).mono ?_); rintro e w1 ⟨rfl, hb⟩); have HB : Below w.heap.size w w1 := below_then (by (repeat (first | exact HB | exact Below.refl _ _ | apply below_drew | apply below_draws | refine below_set ?_ (by (try dsimp only); omega) _ | apply below_alloc))) hb; obtain ⟨hc, hf⟩ := bcell hb; have hz := hb.size; (try simp at hz); (first | (obtain ⟨y0, y1, y2, y3, y4, y5, y6, y7, y8, y9, y10, y11, _⟩ := up12 hz) | (obtain ⟨y0, y1, y2, y3, y4, y5, y6, y7, y8, y9, y10, _⟩ := up11 hz) | (obtain ⟨y0, y1, y2, y3, y4, y5, y6, y7, y8, y9, _⟩ := up10 hz) | (obtain ⟨y0, y1, y2, y3, y4, y5, y6, y7, y8, _⟩ := up9 hz) | (obtain ⟨y0, y1, y2, y3, y4, y5, y6, y7, _⟩ := up8 hz) | (obtain ⟨y0, y1, y2, y3, y4, y5, y6, _⟩ := up7 hz) | (obtain ⟨y0, y1, y2, y3, y4, y5, _⟩ := up6 hz) | (obtain ⟨y0, y1, y2, y3, y4, _⟩ := up5 hz) | (obtain ⟨y0, y1, y2, y3, _⟩ := up4 hz) | (obtain ⟨y0, y1, y2, _⟩ := up3 hz) | (obtain ⟨y0, y1, _⟩ := up2 hz) | (obtain ⟨y0, _⟩ := up1 hz) | skip); (try (have z0 : w.heap.size < w1.heap.size := by omega)); (try (have z1 : w.heap.size + 1 < w1.heap.size := by omega)); (try (have z2 : w.heap.size + 1 + 1 < w1.heap.size := by omega)); (try (have c0 : ∀ o, w1.cell? ⟨w.heap.size, o, none⟩ = _ := fun o => hc _ o (by first | (simp; done) | (simp; omega) | omega))); (try (have g0 : ∀ o, w1.frozen? ⟨w.heap.size, o, none⟩ = _ := fun o => hf _ o (by first | (simp; done) | (simp; omega) | omega))); (try (have c1 : ∀ o, w1.cell? ⟨w.heap.size + 1, o, none⟩ = _ := fun o => hc _ o (by first | (simp; done) | (simp; omega) | omega))); (try (have g1 : ∀ o, w1.frozen? ⟨w.heap.size + 1, o, none⟩ = _ := fun o => hf _ o (by first | (simp; done) | (simp; omega) | omega))); (try (have c2 : ∀ o, w1.cell? ⟨w.heap.size + 1 + 1, o, none⟩ = _ := fun o => hc _ o (by first | (simp; done) | (simp; omega) | omega))); (try (have g2 : ∀ o, w1.frozen? ⟨w.heap.size + 1 + 1, o, none⟩ = _ := fun o => hf _ o (by first | (simp; done) | (simp; omega) | omega))); clear hb hz) | (go_at_call 32; ((with_reducible refine (CP _).mono ?_); rintro e w' ⟨rfl, rfl⟩)) | (go_at_call 29; ((with_reducible refine (CO _).mono ?_); rintro e w' ⟨rfl, rfl⟩)) | (go_at_call 31; ((with_reducible refine (most_any _).mono ?_); rintro e w' ⟨rfl, rfl⟩)) | (go_at_call 30; ((with_reducible refine (to_any _ _ _).mono ?_); rintro e w' ⟨rfl, rfl⟩)))
    refine bodyPost_ret (v := .tuple #[.agg #[.int .u64 0, .int .u64 ((mostN : Nat) : Int)], .int .i64 0]) (by simp [results, Try.results13, go_sem, *]) rfl ⟨?_, (by (repeat (first | exact HB | exact Below.refl _ _ | apply below_drew | apply below_draws | refine below_set ?_ (by (try dsimp only); omega) _ | apply below_alloc)))⟩
    rw [HE.out] <;> rfl

set_option maxRecDepth 100000 in
set_option maxHeartbeats 2000000 in
theorem rdo_10y (a b c d : Nat) (hab : a ≤ b) (hcd : c ≤ d) (hbM : b < M) (hdM : d < M) (hs : decide (a = b) = false ∨ decide (c = d) = false) (h3 : c = d) (w : World) :
    Calls Try.prog 13 #[.int .i64 10, .agg #[.int .u64 a, .int .u64 b], .agg #[.int .u64 c, .int .u64 d]] w fun e w' => e = .returned (.tuple #[.agg #[.int .u64 ((spRow 10 a b c d).1 : Nat), .int .u64 ((spRow 10 a b c d).2 : Nat)], .int .i64 0]) ∧ Below w.heap.size w w' := by
  have e : spRow 10 a b c d = (a / 2 ^ (c % 64), b / 2 ^ (c % 64)) := by unfold spRow; simp [h3]
  have HE := Lib.hid e; clear e
  have hk64 : c % 64 ≤ 64 := Nat.le_of_lt (Nat.mod_lt _ (by decide))
  have CP0 := pow_any (c % 64) hk64
  have hpp : ¬ pw (c % 64) = 0 := pw_pos _ (Nat.mod_lt _ (by decide))
  obtain ⟨k, hk⟩ : ∃ k, c % 64 = k := ⟨_, rfl⟩
  have hki : (c : Int) % 64 = (k : Int) := by omega
  have CO := refDo_any 7 b d hbM hdM
  obtain ⟨o, ho⟩ : ∃ o, aluV 7 b d = o := ⟨_, rfl⟩
  rw [ho, show aluE 7 = 0 by decide] at CO
  rw [hk] at CP0 hk64 hpp
  obtain ⟨P, hP⟩ : ∃ P, pw k = P := ⟨_, rfl⟩
  have CP := CP0
  rw [hP] at CP hpp
  clear CP0
  have HO := Lib.hid ho; clear ho
  have HK := Lib.hid hk; clear hk
  have HP := Lib.hid hP; clear hP
  have hPk : P = 2 ^ k := by rw [← HP.out]; exact pow_mod k (by rw [← HK.out]; exact Nat.mod_lt _ (by decide))
  have e64 : c % 64 = k := HK.out
  have e10 : ((10 : Int) == 11) = false := rfl
  rw [e64, ← hPk] at HE
  have o1 : ((c : Int) == (d : Int)) = true := by simp [h3]
  have h1 : IntKind.u64.wrap ((a : Int) / (P : Int)) = (a : Int) / (P : Int) := by rw [div_hid, wrapu_nat, Nat.mod_eq_of_lt (Nat.lt_of_le_of_lt (Nat.div_le_self _ _) (by omega))]
  have h2 : IntKind.u64.wrap ((b : Int) / (P : Int)) = (b : Int) / (P : Int) := by rw [div_hid, wrapu_nat, Nat.mod_eq_of_lt (Nat.lt_of_le_of_lt (Nat.div_le_self _ _) hbM)]
  have H3 := Lib.hid h3; clear h3
  clear hPk e64
  have n0_2 : ¬ w.heap.size = w.heap.size + 1 + 1 := by omega
  have n2_0 : ¬ w.heap.size + 1 + 1 = w.heap.size := by omega
  clear hbM hdM
  have hs' : (a = b ∧ ¬ c = d) ∨ ¬ a = b := by
    rcases hs with hs | hs
    · right; simpa using hs
    · by_cases h : a = b
      · left; exact ⟨h, by simpa using hs⟩
      · right; exact h
  clear hs
  rcases hs' with ⟨hs1, hs2⟩ | hs1
  · exact absurd H3.out hs2
  · have s1 : ((a : Int) == (b : Int)) = false := by simp; omega
    have HS1 := Lib.hid hs1; clear hs1
    go_enter Try.func13, Try.ntmps13
    go_wp2_with (first | (go_at_call 18; ((with_reducible refine (rmay_any _ _ _).mono ?_); rintro e w1 ⟨rfl, hb⟩); have HB : Below w.heap.size w w1 := below_then (by (repeat (first | exact HB | exact Below.refl _ _ | apply below_drew | apply below_draws | refine below_set ?_ (by (try dsimp only); omega) _ | apply below_alloc))) hb; obtain ⟨hc, hf⟩ := bcell hb; have hz := hb.size; (try simp at hz); (first | (obtain ⟨y0, y1, y2, y3, y4, y5, y6, y7, y8, y9, y10, y11, _⟩ := up12 hz) | (obtain ⟨y0, y1, y2, y3, y4, y5, y6, y7, y8, y9, y10, _⟩ := up11 hz) | (obtain ⟨y0, y1, y2, y3, y4, y5, y6, y7, y8, y9, _⟩ := up10 hz) | (obtain ⟨y0, y1, y2, y3, y4, y5, y6, y7, y8, _⟩ := up9 hz) | (obtain ⟨y0, y1, y2, y3, y4, y5, y6, y7, _⟩ := up8 hz) | (obtain ⟨y0, y1, y2, y3, y4, y5, y6, _⟩ := up7 hz) | (obtain ⟨y0, y1, y2, y3, y4, y5, _⟩ := up6 hz) | (obtain ⟨y0, y1, y2, y3, y4, _⟩ := up5 hz) | (obtain ⟨y0, y1, y2, y3, _⟩ := up4 hz) | (obtain ⟨y0, y1, y2, _⟩ := up3 hz) | (obtain ⟨y0, y1, _⟩ := up2 hz) | (obtain ⟨y0, _⟩ := up1 hz) | skip); (try (have z0 : w.heap.size < w1.heap.size := by omega)); (try (have z1 : w.heap.size + 1 < w1.heap.size := by omega)); (try (have z2 : w.heap.size + 1 + 1 < w1.heap.size := by omega)); (try (have c0 : ∀ o, w1.cell? ⟨w.heap.size, o, none⟩ = _ := fun o => hc _ o (by first | (simp; done) | (simp; omega) | omega))); (try (have g0 : ∀ o, w1.frozen? ⟨w.heap.size, o, none⟩ = _ := fun o => hf _ o (by first | (simp; done) | (simp; omega) | omega))); (try (have c1 : ∀ o, w1.cell? ⟨w.heap.size + 1, o, none⟩ = _ := fun o => hc _ o (by first | (simp; done) | (simp; omega) | omega))); (try (have g1 : ∀ o, w1.frozen? ⟨w.heap.size + 1, o, none⟩ = _ := fun o => hf _ o (by first | (simp; done) | (simp; omega) | omega))); (try (have c2 : ∀ o, w1.cell? ⟨w.heap.size + 1 + 1, o, none⟩ = _ := fun o => hc _ o (by first | (simp; done) | (simp; omega) | omega))); (try (have g2 : ∀ o, w1.frozen? ⟨w.heap.size + 1 + 1, o, none⟩ = _ := fun o => hf _ o (by first | (simp; done) | (simp; omega) | omega))); clear hb hz) | (go_at_call 32; ((with_reducible refine (CP _).mono ?_); rintro e w' ⟨rfl, rfl⟩)) | (go_at_call 29; ((with_reducible refine (CO _).mono ?_); rintro e w' ⟨rfl, rfl⟩)) | (go_at_call 31; ((with_reducible refine (most_any _).mono ?_); rintro e w' ⟨rfl, rfl⟩)) | (go_at_call 30; ((with_reducible refine (to_any _ _ _).mono ?_); rintro e w' ⟨rfl, rfl⟩)))
    go_quiet (fail)
    go_wp2_with (first | (go_at_call 18; ((with_reducible refine (rmay_any _ _ _).mono ?_); rintro e w1 ⟨rfl, hb⟩); have HB : Below w.heap.size w w1 := below_then (by (repeat (first | exact HB | exact Below.refl _ _ | apply below_drew | apply below_draws | refine below_set ?_ (by (try dsimp only); omega) _ | apply below_alloc))) hb; obtain ⟨hc, hf⟩ := bcell hb; have hz := hb.size; (try simp at hz); (first | (obtain ⟨y0, y1, y2, y3, y4, y5, y6, y7, y8, y9, y10, y11, _⟩ := up12 hz) | (obtain ⟨y0, y1, y2, y3, y4, y5, y6, y7, y8, y9, y10, _⟩ := up11 hz) | (obtain ⟨y0, y1, y2, y3, y4, y5, y6, y7, y8, y9, _⟩ := up10 hz) | (obtain ⟨y0, y1, y2, y3, y4, y5, y6, y7, y8, _⟩ := up9 hz) | (obtain ⟨y0, y1, y2, y3, y4, y5, y6, y7, _⟩ := up8 hz) | (obtain ⟨y0, y1, y2, y3, y4, y5, y6, _⟩ := up7 hz) | (obtain ⟨y0, y1, y2, y3, y4, y5, _⟩ := up6 hz) | (obtain ⟨y0, y1, y2, y3, y4, _⟩ := up5 hz) | (obtain ⟨y0, y1, y2, y3, _⟩ := up4 hz) | (obtain ⟨y0, y1, y2, _⟩ := up3 hz) | (obtain ⟨y0, y1, _⟩ := up2 hz) | (obtain ⟨y0, _⟩ := up1 hz) | skip); (try (have z0 : w.heap.size < w1.heap.size := by omega)); (try (have z1 : w.heap.size + 1 < w1.heap.size := by omega)); (try (have z2 : w.heap.size + 1 + 1 < w1.heap.size := by omega)); (try (have c0 : ∀ o, w1.cell? ⟨w.heap.size, o, none⟩ = _ := fun o => hc _ o (by first | (simp; done) | (simp; omega) | omega))); (try (have g0 : ∀ o, w1.frozen? ⟨w.heap.size, o, none⟩ = _ := fun o => hf _ o (by first | (simp; done) | (simp; omega) | omega))); (try (have c1 : ∀ o, w1.cell? ⟨w.heap.size + 1, o, none⟩ = _ := fun o => hc _ o (by first | (simp; done) | (simp; omega) | omega))); (try (have g1 : ∀ o, w1.frozen? ⟨w.heap.size + 1, o, none⟩ = _ := fun o => hf _ o (by first | (simp; done) | (simp; omega) | omega))); (try (have c2 : ∀ o, w1.cell? ⟨w.heap.size + 1 + 1, o, none⟩ = _ := fun o => hc _ o (by first | (simp; done) | (simp; omega) | omega))); (try (have g2 : ∀ o, w1.frozen? ⟨w.heap.size + 1 + 1, o, none⟩ = _ := fun o => hf _ o (by first | (simp; done) | (simp; omega) | omega))); clear hb hz) | (go_at_call 32; ((with_reducible refine (CP _).mono ?_); rintro e w' ⟨rfl, rfl⟩)) | (go_at_call 29; ((with_reducible refine (CO _).mono ?_); rintro e w' ⟨rfl, rfl⟩)) | (go_at_call 31; ((with_reducible refine (most_any _).mono ?_); rintro e w' ⟨rfl, rfl⟩)) | (go_at_call 30; ((with_reducible refine (to_any _ _ _).mono ?_); rintro e w' ⟨rfl, rfl⟩)))
    go_region_held3 (fun w' => w'.cell? ⟨w.heap.size, 0, none⟩ = some (.int .u64 a) ∧ w'.cell? ⟨w.heap.size, 1, none⟩ = some (.int .u64 b) ∧ w'.cell? ⟨w.heap.size + 1, 0, none⟩ = some (.int .u64 c) ∧ w'.cell? ⟨w.heap.size + 1, 1, none⟩ = some (.int .u64 d)) (simp (maxDischargeDepth := 8) [*, World.cell?_alloc_some, World.cell?_setCell_far]) (first | (go_at_call 30; refine (to_any _ _ _).mono ?_; rintro e w' ⟨rfl, rfl⟩))
    go_wp2_with (first | (go_at_call 18; ((with_reducible refine (rmay_any _ _ _).mono ?_); rintro e w1 ⟨rfl, hb⟩); have HB : Below w.heap.size w w1 := below_then (by (repeat (first | exact HB | exact Below.refl _ _ | apply below_drew | apply below_draws | refine below_set ?_ (by (try dsimp only); omega) _ | apply below_alloc))) hb; obtain ⟨hc, hf⟩ := bcell hb; have hz := hb.size; (try simp at hz); (first | (obtain ⟨y0, y1, y2, y3, y4, y5, y6, y7, y8, y9, y10, y11, _⟩ := up12 hz) | (obtain ⟨y0, y1, y2, y3, y4, y5, y6, y7, y8, y9, y10, _⟩ := up11 hz) | (obtain ⟨y0, y1, y2, y3, y4, y5, y6, y7, y8, y9, _⟩ := up10 hz) | (obtain ⟨y0, y1, y2, y3, y4, y5, y6, y7, y8, _⟩ := up9 hz) | (obtain ⟨y0, y1, y2, y3, y4, y5, y6, y7, _⟩ := up8 hz) | (obtain ⟨y0, y1, y2, y3, y4, y5, y6, _⟩ := up7 hz) | (obtain ⟨y0, y1, y2, y3, y4, y5, _⟩ := up6 hz) | (obtain ⟨y0, y1, y2, y3, y4, _⟩ := up5 hz) | (obtain ⟨y0, y1, y2, y3, _⟩ := up4 hz) | (obtain ⟨y0, y1, y2, _⟩ := up3 hz) | (obtain ⟨y0, y1, _⟩ := up2 hz) | (obtain ⟨y0, _⟩ := up1 hz) | skip); (try (have z0 : w.heap.size < w1.heap.size := by omega)); (try (have z1 : w.heap.size + 1 < w1.heap.size := by omega)); (try (have z2 : w.heap.size + 1 + 1 < w1.heap.size := by omega)); (try (have c0 : ∀ o, w1.cell? ⟨w.heap.size, o, none⟩ = _ := fun o => hc _ o (by first | (simp; done) | (simp; omega) | omega))); (try (have g0 : ∀ o, w1.frozen? ⟨w.heap.size, o, none⟩ = _ := fun o => hf _ o (by first | (simp; done) | (simp; omega) | omega))); (try (have c1 : ∀ o, w1.cell? ⟨w.heap.size + 1, o, none⟩ = _ := fun o => hc _ o (by first | (simp; done) | (simp; omega) | omega))); (try (have g1 : ∀ o, w1.frozen? ⟨w.heap.size + 1, o, none⟩ = _ := fun o => hf _ o (by first | (simp; done) | (simp; omega) | omega))); (try (have c2 : ∀ o, w1.cell? ⟨w.heap.size + 1 + 1, o, none⟩ = _ := fun o => hc _ o (by first | (simp; done) | (simp; omega) | omega))); (try (have g2 : ∀ o, w1.frozen? ⟨w.heap.size + 1 + 1, o, none⟩ = _ := fun o => hf _ o (by first | (simp; done) | (simp; omega) | omega))); clear hb hz) | (go_at_call 32; ((with_reducible refine (CP _).mono ?_); rintro e w' ⟨rfl, rfl⟩)) | (go_at_call 29; ((with_reducible refine (CO _).mono ?_); rintro e w' ⟨rfl, rfl⟩)) | (go_at_call 31; ((with_reducible refine (most_any _).mono ?_); rintro e w' ⟨rfl, rfl⟩)) | (go_at_call 30; ((with_reducible refine (to_any _ _ _).mono ?_); rintro e w' ⟨rfl, rfl⟩)))
    refine bodyPost_ret (v := .tuple #[.agg #[.int .u64 ((a : Int) / (P : Int)), .int .u64 ((b : Int) / (P : Int))], .int .i64 0]) (by simp [results, Try.results13, go_sem, *]) rfl ⟨?_, (by (repeat (first | exact HB | exact Below.refl _ _ | apply below_drew | apply below_draws | refine below_set ?_ (by (try dsimp only); omega) _ | apply below_alloc)))⟩
    rw [HE.out] <;> simp

set_option maxRecDepth 100000 in
set_option maxHeartbeats 2000000 in
theorem rdo_10n (a b c d : Nat) (hab : a ≤ b) (hcd : c ≤ d) (hbM : b < M) (hdM : d < M) (hs : decide (a = b) = false ∨ decide (c = d) = false) (h3 : ¬ c = d) (w : World) :
    Calls Try.prog 13 #[.int .i64 10, .agg #[.int .u64 a, .int .u64 b], .agg #[.int .u64 c, .int .u64 d]] w fun e w' => e = .returned (.tuple #[.agg #[.int .u64 ((spRow 10 a b c d).1 : Nat), .int .u64 ((spRow 10 a b c d).2 : Nat)], .int .i64 0]) ∧ Below w.heap.size w w' := by
  have e : spRow 10 a b c d = (0, b) := by simp [spRow, h3]
  have HE := Lib.hid e; clear e
  have hk64 : c % 64 ≤ 64 := Nat.le_of_lt (Nat.mod_lt _ (by decide))
  have CP0 := pow_any (c % 64) hk64
  have hpp : ¬ pw (c % 64) = 0 := pw_pos _ (Nat.mod_lt _ (by decide))
  obtain ⟨k, hk⟩ : ∃ k, c % 64 = k := ⟨_, rfl⟩
  have hki : (c : Int) % 64 = (k : Int) := by omega
  have CO := refDo_any 7 b d hbM hdM
  obtain ⟨o, ho⟩ : ∃ o, aluV 7 b d = o := ⟨_, rfl⟩
  rw [ho, show aluE 7 = 0 by decide] at CO
  rw [hk] at CP0 hk64 hpp
  obtain ⟨P, hP⟩ : ∃ P, pw k = P := ⟨_, rfl⟩
  have CP := CP0
  rw [hP] at CP hpp
  clear CP0
  have HO := Lib.hid ho; clear ho
  have HK := Lib.hid hk; clear hk
  have HP := Lib.hid hP; clear hP
  have e10 : ((10 : Int) == 11) = false := rfl
  have o1 : ((c : Int) == (d : Int)) = false := by simp; omega
  clear h3
  clear hbM hdM
  have hs' : (a = b ∧ ¬ c = d) ∨ ¬ a = b := by
    rcases hs with hs | hs
    · right; simpa using hs
    · by_cases h : a = b
      · left; exact ⟨h, by simpa using hs⟩
      · right; exact h
  clear hs
  rcases hs' with ⟨hs1, hs2⟩ | hs1
  · have s1 : ((a : Int) == (b : Int)) = true := by simp [hs1]
    have s2 : ((c : Int) == (d : Int)) = false := by simp; omega
    have HS1 := Lib.hid hs1; clear hs1
    have HS2 := Lib.hid hs2; clear hs2
    go_enter Try.func13, Try.ntmps13
    go_wp2_with (first | (go_at_call 18; ((with_reducible refine (rmay_any _ _ _).mono ?_); rintro e w1 ⟨rfl, hb⟩); have HB : Below w.heap.size w w1 := below_then (by (repeat (first | exact HB | exact Below.refl _ _ | apply below_drew | apply below_draws | refine below_set ?_ (by (try dsimp only); omega) _ | apply below_alloc))) hb; obtain ⟨hc, hf⟩ := bcell hb; have hz := hb.size; (try simp at hz); (first | (obtain ⟨y0, y1, y2, y3, y4, y5, y6, y7, y8, y9, y10, y11, _⟩ := up12 hz) | (obtain ⟨y0, y1, y2, y3, y4, y5, y6, y7, y8, y9, y10, _⟩ := up11 hz) | (obtain ⟨y0, y1, y2, y3, y4, y5, y6, y7, y8, y9, _⟩ := up10 hz) | (obtain ⟨y0, y1, y2, y3, y4, y5, y6, y7, y8, _⟩ := up9 hz) | (obtain ⟨y0, y1, y2, y3, y4, y5, y6, y7, _⟩ := up8 hz) | (obtain ⟨y0, y1, y2, y3, y4, y5, y6, _⟩ := up7 hz) | (obtain ⟨y0, y1, y2, y3, y4, y5, _⟩ := up6 hz) | (obtain ⟨y0, y1, y2, y3, y4, _⟩ := up5 hz) | (obtain ⟨y0, y1, y2, y3, _⟩ := up4 hz) | (obtain ⟨y0, y1, y2, _⟩ := up3 hz) | (obtain ⟨y0, y1, _⟩ := up2 hz) | (obtain ⟨y0, _⟩ := up1 hz) | skip); (try (have z0 : w.heap.size < w1.heap.size := by omega)); (try (have z1 : w.heap.size + 1 < w1.heap.size := by omega)); (try (have z2 : w.heap.size + 1 + 1 < w1.heap.size := by omega)); (try (have c0 : ∀ o, w1.cell? ⟨w.heap.size, o, none⟩ = _ := fun o => hc _ o (by first | (simp; done) | (simp; omega) | omega))); (try (have g0 : ∀ o, w1.frozen? ⟨w.heap.size, o, none⟩ = _ := fun o => hf _ o (by first | (simp; done) | (simp; omega) | omega))); (try (have c1 : ∀ o, w1.cell? ⟨w.heap.size + 1, o, none⟩ = _ := fun o => hc _ o (by first | (simp; done) | (simp; omega) | omega))); (try (have g1 : ∀ o, w1.frozen? ⟨w.heap.size + 1, o, none⟩ = _ := fun o => hf _ o (by first | (simp; done) | (simp; omega) | omega))); (try (have c2 : ∀ o, w1.cell? ⟨w.heap.size + 1 + 1, o, none⟩ = _ := fun o => hc _ o (by first | (simp; done) | (simp; omega) | omega))); (try (have g2 : ∀ o, w1.frozen? ⟨w.heap.size + 1 + 1, o, none⟩ = _ := fun o => hf _ o (by first | (simp; done) | (simp; omega) | omega))); clear hb hz) | (go_at_call 32; ((with_reducible refine (CP _).mono ?_); rintro e w' ⟨rfl, rfl⟩)) | (go_at_call 29; ((with_reducible refine (CO _).mono ?_); rintro e w' ⟨rfl, rfl⟩)) | (go_at_call 31; ((with_reducible refine (most_any _).mono ?_); rintro e w' ⟨rfl, rfl⟩)) | (go_at_call 30; ((with_reducible refine (to_any _ _ _).mono ?_); rintro e w' ⟨rfl, rfl⟩)))
    go_quiet (fail)
    go_wp2_with (first | (go_at_call 18; ((with_reducible refine (rmay_any _ _ _).mono ?_); rintro e w1 ⟨rfl, hb⟩); have HB : Below w.heap.size w w1 := below_then (by (repeat (first | exact HB | exact Below.refl _ _ | apply below_drew | apply below_draws | refine below_set ?_ (by (try dsimp only); omega) _ | apply below_alloc))) hb; obtain ⟨hc, hf⟩ := bcell hb; have hz := hb.size; (try simp at hz); (first | (obtain ⟨y0, y1, y2, y3, y4, y5, y6, y7, y8, y9, y10, y11, _⟩ := up12 hz) | (obtain ⟨y0, y1, y2, y3, y4, y5, y6, y7, y8, y9, y10, _⟩ := up11 hz) | (obtain ⟨y0, y1, y2, y3, y4, y5, y6, y7, y8, y9, _⟩ := up10 hz) | (obtain ⟨y0, y1, y2, y3, y4, y5, y6, y7, y8, _⟩ := up9 hz) | (obtain ⟨y0, y1, y2, y3, y4, y5, y6, y7, _⟩ := up8 hz) | (obtain ⟨y0, y1, y2, y3, y4, y5, y6, _⟩ := up7 hz) | (obtain ⟨y0, y1, y2, y3, y4, y5, _⟩ := up6 hz) | (obtain ⟨y0, y1, y2, y3, y4, _⟩ := up5 hz) | (obtain ⟨y0, y1, y2, y3, _⟩ := up4 hz) | (obtain ⟨y0, y1, y2, _⟩ := up3 hz) | (obtain ⟨y0, y1, _⟩ := up2 hz) | (obtain ⟨y0, _⟩ := up1 hz) | skip); (try (have z0 : w.heap.size < w1.heap.size := by omega)); (try (have z1 : w.heap.size + 1 < w1.heap.size := by omega)); (try (have z2 : w.heap.size + 1 + 1 < w1.heap.size := by omega)); (try (have c0 : ∀ o, w1.cell? ⟨w.heap.size, o, none⟩ = _ := fun o => hc _ o (by first | (simp; done) | (simp; omega) | omega))); (try (have g0 : ∀ o, w1.frozen? ⟨w.heap.size, o, none⟩ = _ := fun o => hf _ o (by first | (simp; done) | (simp; omega) | omega))); (try (have c1 : ∀ o, w1.cell? ⟨w.heap.size + 1, o, none⟩ = _ := fun o => hc _ o (by first | (simp; done) | (simp; omega) | omega))); (try (have g1 : ∀ o, w1.frozen? ⟨w.heap.size + 1, o, none⟩ = _ := fun o => hf _ o (by first | (simp; done) | (simp; omega) | omega))); (try (have c2 : ∀ o, w1.cell? ⟨w.heap.size + 1 + 1, o, none⟩ = _ := fun o => hc _ o (by first | (simp; done) | (simp; omega) | omega))); (try (have g2 : ∀ o, w1.frozen? ⟨w.heap.size + 1 + 1, o, none⟩ = _ := fun o => hf _ o (by first | (simp; done) | (simp; omega) | omega))); clear hb hz) | (go_at_call 32; ((with_reducible refine (CP _).mono ?_); rintro e w' ⟨rfl, rfl⟩)) | (go_at_call 29; ((with_reducible refine (CO _).mono ?_); rintro e w' ⟨rfl, rfl⟩)) | (go_at_call 31; ((with_reducible refine (most_any _).mono ?_); rintro e w' ⟨rfl, rfl⟩)) | (go_at_call 30; ((with_reducible refine (to_any _ _ _).mono ?_); rintro e w' ⟨rfl, rfl⟩)))
    refine bodyPost_ret (v := .tuple #[.agg #[.int .u64 0, .int .u64 b], .int .i64 0]) (by simp [results, Try.results13, go_sem, *]) rfl ⟨?_, (by (repeat (first | exact HB | exact Below.refl _ _ | apply below_drew | apply below_draws | refine below_set ?_ (by (try dsimp only); omega) _ | apply below_alloc)))⟩
    rw [HE.out] <;> rfl
  · have s1 : ((a : Int) == (b : Int)) = false := by simp; omega
    have HS1 := Lib.hid hs1; clear hs1
    go_enter Try.func13, Try.ntmps13
    go_wp2_with (first | (go_at_call 18; ((with_reducible refine (rmay_any _ _ _).mono ?_); rintro e w1 ⟨rfl, hb⟩); have HB : Below w.heap.size w w1 := below_then (by (repeat (first | exact HB | exact Below.refl _ _ | apply below_drew | apply below_draws | refine below_set ?_ (by (try dsimp only); omega) _ | apply below_alloc))) hb; obtain ⟨hc, hf⟩ := bcell hb; have hz := hb.size; (try simp at hz); (first | (obtain ⟨y0, y1, y2, y3, y4, y5, y6, y7, y8, y9, y10, y11, _⟩ := up12 hz) | (obtain ⟨y0, y1, y2, y3, y4, y5, y6, y7, y8, y9, y10, _⟩ := up11 hz) | (obtain ⟨y0, y1, y2, y3, y4, y5, y6, y7, y8, y9, _⟩ := up10 hz) | (obtain ⟨y0, y1, y2, y3, y4, y5, y6, y7, y8, _⟩ := up9 hz) | (obtain ⟨y0, y1, y2, y3, y4, y5, y6, y7, _⟩ := up8 hz) | (obtain ⟨y0, y1, y2, y3, y4, y5, y6, _⟩ := up7 hz) | (obtain ⟨y0, y1, y2, y3, y4, y5, _⟩ := up6 hz) | (obtain ⟨y0, y1, y2, y3, y4, _⟩ := up5 hz) | (obtain ⟨y0, y1, y2, y3, _⟩ := up4 hz) | (obtain ⟨y0, y1, y2, _⟩ := up3 hz) | (obtain ⟨y0, y1, _⟩ := up2 hz) | (obtain ⟨y0, _⟩ := up1 hz) | skip); (try (have z0 : w.heap.size < w1.heap.size := by omega)); (try (have z1 : w.heap.size + 1 < w1.heap.size := by omega)); (try (have z2 : w.heap.size + 1 + 1 < w1.heap.size := by omega)); (try (have c0 : ∀ o, w1.cell? ⟨w.heap.size, o, none⟩ = _ := fun o => hc _ o (by first | (simp; done) | (simp; omega) | omega))); (try (have g0 : ∀ o, w1.frozen? ⟨w.heap.size, o, none⟩ = _ := fun o => hf _ o (by first | (simp; done) | (simp; omega) | omega))); (try (have c1 : ∀ o, w1.cell? ⟨w.heap.size + 1, o, none⟩ = _ := fun o => hc _ o (by first | (simp; done) | (simp; omega) | omega))); (try (have g1 : ∀ o, w1.frozen? ⟨w.heap.size + 1, o, none⟩ = _ := fun o => hf _ o (by first | (simp; done) | (simp; omega) | omega))); (try (have c2 : ∀ o, w1.cell? ⟨w.heap.size + 1 + 1, o, none⟩ = _ := fun o => hc _ o (by first | (simp; done) | (simp; omega) | omega))); (try (have g2 : ∀ o, w1.frozen? ⟨w.heap.size + 1 + 1, o, none⟩ = _ := fun o => hf _ o (by first | (simp; done) | (simp; omega) | omega))); clear hb hz) | (go_at_call 32; ((with_reducible refine (CP _).mono ?_); rintro e w' ⟨rfl, rfl⟩)) | (go_at_call 29; ((with_reducible refine (CO _).mono ?_); rintro e w' ⟨rfl, rfl⟩)) | (go_at_call 31; ((with_reducible refine (most_any _).mono ?_); rintro e w' ⟨rfl, rfl⟩)) | (go_at_call 30; ((with_reducible refine (to_any _ _ _).mono ?_); rintro e w' ⟨rfl, rfl⟩)))
    go_quiet (fail)
    go_wp2_with (first | (go_at_call 18; ((with_reducible refine (rmay_any _ _ _).mono ?_); rintro e w1 ⟨rfl, hb⟩); have HB : Below w.heap.size w w1 := below_then (by (repeat (first | exact HB | exact Below.refl _ _ | apply below_drew | apply below_draws | refine below_set ?_ (by (try dsimp only); omega) _ | apply below_alloc))) hb; obtain ⟨hc, hf⟩ := bcell hb; have hz := hb.size; (try simp at hz); (first | (obtain ⟨y0, y1, y2, y3, y4, y5, y6, y7, y8, y9, y10, y11, _⟩ := up12 hz) | (obtain ⟨y0, y1, y2, y3, y4, y5, y6, y7, y8, y9, y10, _⟩ := up11 hz) | (obtain ⟨y0, y1, y2, y3, y4, y5, y6, y7, y8, y9, _⟩ := up10 hz) | (obtain ⟨y0, y1, y2, y3, y4, y5, y6, y7, y8, _⟩ := up9 hz) | (obtain ⟨y0, y1, y2, y3, y4, y5, y6, y7, _⟩ := up8 hz) | (obtain ⟨y0, y1, y2, y3, y4, y5, y6, _⟩ := up7 hz) | (obtain ⟨y0, y1, y2, y3, y4, y5, _⟩ := up6 hz) | (obtain ⟨y0, y1, y2, y3, y4, _⟩ := up5 hz) | (obtain ⟨y0, y1, y2, y3, _⟩ := up4 hz) | (obtain ⟨y0, y1, y2, _⟩ := up3 hz) | (obtain ⟨y0, y1, _⟩ := up2 hz) | (obtain ⟨y0, _⟩ := up1 hz) | skip); (try (have z0 : w.heap.size < w1.heap.size := by omega)); (try (have z1 : w.heap.size + 1 < w1.heap.size := by omega)); (try (have z2 : w.heap.size + 1 + 1 < w1.heap.size := by omega)); (try (have c0 : ∀ o, w1.cell? ⟨w.heap.size, o, none⟩ = _ := fun o => hc _ o (by first | (simp; done) | (simp; omega) | omega))); (try (have g0 : ∀ o, w1.frozen? ⟨w.heap.size, o, none⟩ = _ := fun o => hf _ o (by first | (simp; done) | (simp; omega) | omega))); (try (have c1 : ∀ o, w1.cell? ⟨w.heap.size + 1, o, none⟩ = _ := fun o => hc _ o (by first | (simp; done) | (simp; omega) | omega))); (try (have g1 : ∀ o, w1.frozen? ⟨w.heap.size + 1, o, none⟩ = _ := fun o => hf _ o (by first | (simp; done) | (simp; omega) | omega))); (try (have c2 : ∀ o, w1.cell? ⟨w.heap.size + 1 + 1, o, none⟩ = _ := fun o => hc _ o (by first | (simp; done) | (simp; omega) | omega))); (try (have g2 : ∀ o, w1.frozen? ⟨w.heap.size + 1 + 1, o, none⟩ = _ := fun o => hf _ o (by first | (simp; done) | (simp; omega) | omega))); clear hb hz) | (go_at_call 32; ((with_reducible refine (CP _).mono ?_); rintro e w' ⟨rfl, rfl⟩)) | (go_at_call 29; ((with_reducible refine (CO _).mono ?_); rintro e w' ⟨rfl, rfl⟩)) | (go_at_call 31; ((with_reducible refine (most_any _).mono ?_); rintro e w' ⟨rfl, rfl⟩)) | (go_at_call 30; ((with_reducible refine (to_any _ _ _).mono ?_); rintro e w' ⟨rfl, rfl⟩)))
    refine bodyPost_ret (v := .tuple #[.agg #[.int .u64 0, .int .u64 b], .int .i64 0]) (by simp [results, Try.results13, go_sem, *]) rfl ⟨?_, (by (repeat (first | exact HB | exact Below.refl _ _ | apply below_drew | apply below_draws | refine below_set ?_ (by (try dsimp only); omega) _ | apply below_alloc)))⟩
    rw [HE.out] <;> rfl

set_option maxRecDepth 100000 in
set_option maxHeartbeats 2000000 in
theorem rdo_11y (a b c d : Nat) (hab : a ≤ b) (hcd : c ≤ d) (hbM : b < M) (hdM : d < M) (hs : decide (a = b) = false ∨ decide (c = d) = false) (h3 : c = d) (ht : ¬ H63 ≤ b) (w : World) :
    Calls Try.prog 13 #[.int .i64 11, .agg #[.int .u64 a, .int .u64 b], .agg #[.int .u64 c, .int .u64 d]] w fun e w' => e = .returned (.tuple #[.agg #[.int .u64 ((spRow 11 a b c d).1 : Nat), .int .u64 ((spRow 11 a b c d).2 : Nat)], .int .i64 0]) ∧ Below w.heap.size w w' := by
  have e : spRow 11 a b c d = (a / 2 ^ (c % 64), b / 2 ^ (c % 64)) := by unfold spRow; simp [h3, ht]
  have HE := Lib.hid e; clear e
  have hk64 : c % 64 ≤ 64 := Nat.le_of_lt (Nat.mod_lt _ (by decide))
  have CP0 := pow_any (c % 64) hk64
  have hpp : ¬ pw (c % 64) = 0 := pw_pos _ (Nat.mod_lt _ (by decide))
  obtain ⟨k, hk⟩ : ∃ k, c % 64 = k := ⟨_, rfl⟩
  have hki : (c : Int) % 64 = (k : Int) := by omega
  have CO := refDo_any 7 b d hbM hdM
  obtain ⟨o, ho⟩ : ∃ o, aluV 7 b d = o := ⟨_, rfl⟩
  rw [ho, show aluE 7 = 0 by decide] at CO
  rw [hk] at CP0 hk64 hpp
  obtain ⟨P, hP⟩ : ∃ P, pw k = P := ⟨_, rfl⟩
  have CP := CP0
  rw [hP] at CP hpp
  clear CP0
  have HO := Lib.hid ho; clear ho
  have HK := Lib.hid hk; clear hk
  have HP := Lib.hid hP; clear hP
  have hPk : P = 2 ^ k := by rw [← HP.out]; exact pow_mod k (by rw [← HK.out]; exact Nat.mod_lt _ (by decide))
  have e64 : c % 64 = k := HK.out
  have e10 : ((11 : Int) == 11) = true := rfl
  have ht2 : ¬ H63 ≤ b := ht
  have ht1 : decide ((b : Int) ≥ ((H63 : Nat) : Int)) = false := by simp; omega
  have CQ : ∀ w : World, Calls Try.prog 32 #[.int .i64 63] w fun e w' => e = .returned (.int .u64 (H63 : Nat)) ∧ w' = w := fun w => (pow_any 63 (by decide) w).mono fun e w' h => ⟨by rw [h.1, pw63], h.2.symm⟩
  rw [e64, ← hPk] at HE
  have o1 : ((c : Int) == (d : Int)) = true := by simp [h3]
  have h1 : IntKind.u64.wrap ((a : Int) / (P : Int)) = (a : Int) / (P : Int) := by rw [div_hid, wrapu_nat, Nat.mod_eq_of_lt (Nat.lt_of_le_of_lt (Nat.div_le_self _ _) (by omega))]
  have h2 : IntKind.u64.wrap ((b : Int) / (P : Int)) = (b : Int) / (P : Int) := by rw [div_hid, wrapu_nat, Nat.mod_eq_of_lt (Nat.lt_of_le_of_lt (Nat.div_le_self _ _) hbM)]
  have H3 := Lib.hid h3; clear h3
  clear hPk e64
  have n0_2 : ¬ w.heap.size = w.heap.size + 1 + 1 := by omega
  have n2_0 : ¬ w.heap.size + 1 + 1 = w.heap.size := by omega
  clear hbM hdM
  have hs' : (a = b ∧ ¬ c = d) ∨ ¬ a = b := by
    rcases hs with hs | hs
    · right; simpa using hs
    · by_cases h : a = b
      · left; exact ⟨h, by simpa using hs⟩
      · right; exact h
  clear hs
  rcases hs' with ⟨hs1, hs2⟩ | hs1
  · exact absurd H3.out hs2
  · have s1 : ((a : Int) == (b : Int)) = false := by simp; omega
    have HS1 := Lib.hid hs1; clear hs1
    go_enter Try.func13, Try.ntmps13
    go_wp2_with (first | (go_at_call 18; ((with_reducible refine (rmay_any _ _ _).mono ?_); rintro e w1 ⟨rfl, hb⟩); have HB : Below w.heap.size w w1 := below_then (by (repeat (first | exact HB | exact Below.refl _ _ | apply below_drew | apply below_draws | refine below_set ?_ (by (try dsimp only); omega) _ | apply below_alloc))) hb; obtain ⟨hc, hf⟩ := bcell hb; have hz := hb.size; (try simp at hz); (first | (obtain ⟨y0, y1, y2, y3, y4, y5, y6, y7, y8, y9, y10, y11, _⟩ := up12 hz) | (obtain ⟨y0, y1, y2, y3, y4, y5, y6, y7, y8, y9, y10, _⟩ := up11 hz) | (obtain ⟨y0, y1, y2, y3, y4, y5, y6, y7, y8, y9, _⟩ := up10 hz) | (obtain ⟨y0, y1, y2, y3, y4, y5, y6, y7, y8, _⟩ := up9 hz) | (obtain ⟨y0, y1, y2, y3, y4, y5, y6, y7, _⟩ := up8 hz) | (obtain ⟨y0, y1, y2, y3, y4, y5, y6, _⟩ := up7 hz) | (obtain ⟨y0, y1, y2, y3, y4, y5, _⟩ := up6 hz) | (obtain ⟨y0, y1, y2, y3, y4, _⟩ := up5 hz) | (obtain ⟨y0, y1, y2, y3, _⟩ := up4 hz) | (obtain ⟨y0, y1, y2, _⟩ := up3 hz) | (obtain ⟨y0, y1, _⟩ := up2 hz) | (obtain ⟨y0, _⟩ := up1 hz) | skip); (try (have z0 : w.heap.size < w1.heap.size := by omega)); (try (have z1 : w.heap.size + 1 < w1.heap.size := by omega)); (try (have z2 : w.heap.size + 1 + 1 < w1.heap.size := by omega)); (try (have c0 : ∀ o, w1.cell? ⟨w.heap.size, o, none⟩ = _ := fun o => hc _ o (by first | (simp; done) | (simp; omega) | omega))); (try (have g0 : ∀ o, w1.frozen? ⟨w.heap.size, o, none⟩ = _ := fun o => hf _ o (by first | (simp; done) | (simp; omega) | omega))); (try (have c1 : ∀ o, w1.cell? ⟨w.heap.size + 1, o, none⟩ = _ := fun o => hc _ o (by first | (simp; done) | (simp; omega) | omega))); (try (have g1 : ∀ o, w1.frozen? ⟨w.heap.size + 1, o, none⟩ = _ := fun o => hf _ o (by first | (simp; done) | (simp; omega) | omega))); (try (have c2 : ∀ o, w1.cell? ⟨w.heap.size + 1 + 1, o, none⟩ = _ := fun o => hc _ o (by first | (simp; done) | (simp; omega) | omega))); (try (have g2 : ∀ o, w1.frozen? ⟨w.heap.size + 1 + 1, o, none⟩ = _ := fun o => hf _ o (by first | (simp; done) | (simp; omega) | omega))); clear hb hz) | (go_at_call 32; ((with_reducible refine (CP _).mono ?_); rintro e w' ⟨rfl, rfl⟩)) | (go_at_call 29; ((with_reducible refine (CO _).mono ?_); rintro e w' ⟨rfl, rfl⟩)) | (go_at_call 31; ((with_reducible refine (most_any _).mono ?_); rintro e w' ⟨rfl, rfl⟩)) | (go_at_call 30; ((with_reducible refine (to_any _ _ _).mono ?_); rintro e w' ⟨rfl, rfl⟩)))
    go_quiet ((go_at_call 32; exact Calls.quiet_of_same (CQ _)))
    go_wp2_with (first | (go_at_call 18; ((with_reducible refine (rmay_any _ _ _).mono ?_); rintro e w1 ⟨rfl, hb⟩); have HB : Below w.heap.size w w1 := below_then (by (repeat (first | exact HB | exact Below.refl _ _ | apply below_drew | apply below_draws | refine below_set ?_ (by (try dsimp only); omega) _ | apply below_alloc))) hb; obtain ⟨hc, hf⟩ := bcell hb; have hz := hb.size; (try simp at hz); (first | (obtain ⟨y0, y1, y2, y3, y4, y5, y6, y7, y8, y9, y10, y11, _⟩ := up12 hz) | (obtain ⟨y0, y1, y2, y3, y4, y5, y6, y7, y8, y9, y10, _⟩ := up11 hz) | (obtain ⟨y0, y1, y2, y3, y4, y5, y6, y7, y8, y9, _⟩ := up10 hz) | (obtain ⟨y0, y1, y2, y3, y4, y5, y6, y7, y8, _⟩ := up9 hz) | (obtain ⟨y0, y1, y2, y3, y4, y5, y6, y7, _⟩ := up8 hz) | (obtain ⟨y0, y1, y2, y3, y4, y5, y6, _⟩ := up7 hz) | (obtain ⟨y0, y1, y2, y3, y4, y5, _⟩ := up6 hz) | (obtain ⟨y0, y1, y2, y3, y4, _⟩ := up5 hz) | (obtain ⟨y0, y1, y2, y3, _⟩ := up4 hz) | (obtain ⟨y0, y1, y2, _⟩ := up3 hz) | (obtain ⟨y0, y1, _⟩ := up2 hz) | (obtain ⟨y0, _⟩ := up1 hz) | skip); (try (have z0 : w.heap.size < w1.heap.size := by omega)); (try (have z1 : w.heap.size + 1 < w1.heap.size := by omega)); (try (have z2 : w.heap.size + 1 + 1 < w1.heap.size := by omega)); (try (have c0 : ∀ o, w1.cell? ⟨w.heap.size, o, none⟩ = _ := fun o => hc _ o (by first | (simp; done) | (simp; omega) | omega))); (try (have g0 : ∀ o, w1.frozen? ⟨w.heap.size, o, none⟩ = _ := fun o => hf _ o (by first | (simp; done) | (simp; omega) | omega))); (try (have c1 : ∀ o, w1.cell? ⟨w.heap.size + 1, o, none⟩ = _ := fun o => hc _ o (by first | (simp; done) | (simp; omega) | omega))); (try (have g1 : ∀ o, w1.frozen? ⟨w.heap.size + 1, o, none⟩ = _ := fun o => hf _ o (by first | (simp; done) | (simp; omega) | omega))); (try (have c2 : ∀ o, w1.cell? ⟨w.heap.size + 1 + 1, o, none⟩ = _ := fun o => hc _ o (by first | (simp; done) | (simp; omega) | omega))); (try (have g2 : ∀ o, w1.frozen? ⟨w.heap.size + 1 + 1, o, none⟩ = _ := fun o => hf _ o (by first | (simp; done) | (simp; omega) | omega))); clear hb hz) | (go_at_call 32; ((with_reducible refine (CP _).mono ?_); rintro e w' ⟨rfl, rfl⟩)) | (go_at_call 29; ((with_reducible refine (CO _).mono ?_); rintro e w' ⟨rfl, rfl⟩)) | (go_at_call 31; ((with_reducible refine (most_any _).mono ?_); rintro e w' ⟨rfl, rfl⟩)) | (go_at_call 30; ((with_reducible refine (to_any _ _ _).mono ?_); rintro e w' ⟨rfl, rfl⟩)))
    go_region_held3 (fun w' => w'.cell? ⟨w.heap.size, 0, none⟩ = some (.int .u64 a) ∧ w'.cell? ⟨w.heap.size, 1, none⟩ = some (.int .u64 b) ∧ w'.cell? ⟨w.heap.size + 1, 0, none⟩ = some (.int .u64 c) ∧ w'.cell? ⟨w.heap.size + 1, 1, none⟩ = some (.int .u64 d)) (simp (maxDischargeDepth := 8) [*, World.cell?_alloc_some, World.cell?_setCell_far]) (first | (go_at_call 30; refine (to_any _ _ _).mono ?_; rintro e w' ⟨rfl, rfl⟩))
    go_wp2_with (first | (go_at_call 18; ((with_reducible refine (rmay_any _ _ _).mono ?_); rintro e w1 ⟨rfl, hb⟩); have HB : Below w.heap.size w w1 := below_then (by (repeat (first | exact HB | exact Below.refl _ _ | apply below_drew | apply below_draws | refine below_set ?_ (by (try dsimp only); omega) _ | apply below_alloc))) hb; obtain ⟨hc, hf⟩ := bcell hb; have hz := hb.size; (try simp at hz); (first | (obtain ⟨y0, y1, y2, y3, y4, y5, y6, y7, y8, y9, y10, y11, _⟩ := up12 hz) | (obtain ⟨y0, y1, y2, y3, y4, y5, y6, y7, y8, y9, y10, _⟩ := up11 hz) | (obtain ⟨y0, y1, y2, y3, y4, y5, y6, y7, y8, y9, _⟩ := up10 hz) | (obtain ⟨y0, y1, y2, y3, y4, y5, y6, y7, y8, _⟩ := up9 hz) | (obtain ⟨y0, y1, y2, y3, y4, y5, y6, y7, _⟩ := up8 hz) | (obtain ⟨y0, y1, y2, y3, y4, y5, y6, _⟩ := up7 hz) | (obtain ⟨y0, y1, y2, y3, y4, y5, _⟩ := up6 hz) | (obtain ⟨y0, y1, y2, y3, y4, _⟩ := up5 hz) | (obtain ⟨y0, y1, y2, y3, _⟩ := up4 hz) | (obtain ⟨y0, y1, y2, _⟩ := up3 hz) | (obtain ⟨y0, y1, _⟩ := up2 hz) | (obtain ⟨y0, _⟩ := up1 hz) | skip); (try (have z0 : w.heap.size < w1.heap.size := by omega)); (try (have z1 : w.heap.size + 1 < w1.heap.size := by omega)); (try (have z2 : w.heap.size + 1 + 1 < w1.heap.size := by omega)); (try (have c0 : ∀ o, w1.cell? ⟨w.heap.size, o, none⟩ = _ := fun o => hc _ o (by first | (simp; done) | (simp; omega) | omega))); (try (have g0 : ∀ o, w1.frozen? ⟨w.heap.size, o, none⟩ = _ := fun o => hf _ o (by first | (simp; done) | (simp; omega) | omega))); (try (have c1 : ∀ o, w1.cell? ⟨w.heap.size + 1, o, none⟩ = _ := fun o => hc _ o (by first | (simp; done) | (simp; omega) | omega))); (try (have g1 : ∀ o, w1.frozen? ⟨w.heap.size + 1, o, none⟩ = _ := fun o => hf _ o (by first | (simp; done) | (simp; omega) | omega))); (try (have c2 : ∀ o, w1.cell? ⟨w.heap.size + 1 + 1, o, none⟩ = _ := fun o => hc _ o (by first | (simp; done) | (simp; omega) | omega))); (try (have g2 : ∀ o, w1.frozen? ⟨w.heap.size + 1 + 1, o, none⟩ = _ := fun o => hf _ o (by first | (simp; done) | (simp; omega) | omega))); clear hb hz) | (go_at_call 32; ((with_reducible refine (CP _).mono ?_); rintro e w' ⟨rfl, rfl⟩)) | (go_at_call 29; ((with_reducible refine (CO _).mono ?_); rintro e w' ⟨rfl, rfl⟩)) | (go_at_call 31; ((with_reducible refine (most_any _).mono ?_); rintro e w' ⟨rfl, rfl⟩)) | (go_at_call 30; ((with_reducible refine (to_any _ _ _).mono ?_); rintro e w' ⟨rfl, rfl⟩)))
    refine bodyPost_ret (v := .tuple #[.agg #[.int .u64 ((a : Int) / (P : Int)), .int .u64 ((b : Int) / (P : Int))], .int .i64 0]) (by simp [results, Try.results13, go_sem, *]) rfl ⟨?_, (by (repeat (first | exact HB | exact Below.refl _ _ | apply below_drew | apply below_draws | refine below_set ?_ (by (try dsimp only); omega) _ | apply below_alloc)))⟩
    rw [HE.out] <;> simp

set_option maxRecDepth 100000 in
set_option maxHeartbeats 2000000 in
theorem rdo_11n (a b c d : Nat) (hab : a ≤ b) (hcd : c ≤ d) (hbM : b < M) (hdM : d < M) (hs : decide (a = b) = false ∨ decide (c = d) = false) (h3 : ¬ c = d) (ht : ¬ H63 ≤ b) (w : World) :
    Calls Try.prog 13 #[.int .i64 11, .agg #[.int .u64 a, .int .u64 b], .agg #[.int .u64 c, .int .u64 d]] w fun e w' => e = .returned (.tuple #[.agg #[.int .u64 ((spRow 11 a b c d).1 : Nat), .int .u64 ((spRow 11 a b c d).2 : Nat)], .int .i64 0]) ∧ Below w.heap.size w w' := by
  have e : spRow 11 a b c d = (0, b) := by simp [spRow, h3, ht]
  have HE := Lib.hid e; clear e
  have hk64 : c % 64 ≤ 64 := Nat.le_of_lt (Nat.mod_lt _ (by decide))
  have CP0 := pow_any (c % 64) hk64
  have hpp : ¬ pw (c % 64) = 0 := pw_pos _ (Nat.mod_lt _ (by decide))
  obtain ⟨k, hk⟩ : ∃ k, c % 64 = k := ⟨_, rfl⟩
  have hki : (c : Int) % 64 = (k : Int) := by omega
  have CO := refDo_any 7 b d hbM hdM
  obtain ⟨o, ho⟩ : ∃ o, aluV 7 b d = o := ⟨_, rfl⟩
  rw [ho, show aluE 7 = 0 by decide] at CO
  rw [hk] at CP0 hk64 hpp
  obtain ⟨P, hP⟩ : ∃ P, pw k = P := ⟨_, rfl⟩
  have CP := CP0
  rw [hP] at CP hpp
  clear CP0
  have HO := Lib.hid ho; clear ho
  have HK := Lib.hid hk; clear hk
  have HP := Lib.hid hP; clear hP
  have e10 : ((11 : Int) == 11) = true := rfl
  have ht2 : ¬ H63 ≤ b := ht
  have ht1 : decide ((b : Int) ≥ ((H63 : Nat) : Int)) = false := by simp; omega
  have CQ : ∀ w : World, Calls Try.prog 32 #[.int .i64 63] w fun e w' => e = .returned (.int .u64 (H63 : Nat)) ∧ w' = w := fun w => (pow_any 63 (by decide) w).mono fun e w' h => ⟨by rw [h.1, pw63], h.2.symm⟩
  have o1 : ((c : Int) == (d : Int)) = false := by simp; omega
  clear h3
  clear hbM hdM
  have hs' : (a = b ∧ ¬ c = d) ∨ ¬ a = b := by
    rcases hs with hs | hs
    · right; simpa using hs
    · by_cases h : a = b
      · left; exact ⟨h, by simpa using hs⟩
      · right; exact h
  clear hs
  rcases hs' with ⟨hs1, hs2⟩ | hs1
  · have s1 : ((a : Int) == (b : Int)) = true := by simp [hs1]
    have s2 : ((c : Int) == (d : Int)) = false := by simp; omega
    have HS1 := Lib.hid hs1; clear hs1
    have HS2 := Lib.hid hs2; clear hs2
    go_enter Try.func13, Try.ntmps13
    go_wp2_with (first | (go_at_call 18; ((with_reducible refine (rmay_any _ _ _).mono ?_); rintro e w1 ⟨rfl, hb⟩); have HB : Below w.heap.size w w1 := below_then (by (repeat (first | exact HB | exact Below.refl _ _ | apply below_drew | apply below_draws | refine below_set ?_ (by (try dsimp only); omega) _ | apply below_alloc))) hb; obtain ⟨hc, hf⟩ := bcell hb; have hz := hb.size; (try simp at hz); (first | (obtain ⟨y0, y1, y2, y3, y4, y5, y6, y7, y8, y9, y10, y11, _⟩ := up12 hz) | (obtain ⟨y0, y1, y2, y3, y4, y5, y6, y7, y8, y9, y10, _⟩ := up11 hz) | (obtain ⟨y0, y1, y2, y3, y4, y5, y6, y7, y8, y9, _⟩ := up10 hz) | (obtain ⟨y0, y1, y2, y3, y4, y5, y6, y7, y8, _⟩ := up9 hz) | (obtain ⟨y0, y1, y2, y3, y4, y5, y6, y7, _⟩ := up8 hz) | (obtain ⟨y0, y1, y2, y3, y4, y5, y6, _⟩ := up7 hz) | (obtain ⟨y0, y1, y2, y3, y4, y5, _⟩ := up6 hz) | (obtain ⟨y0, y1, y2, y3, y4, _⟩ := up5 hz) | (obtain ⟨y0, y1, y2, y3, _⟩ := up4 hz) | (obtain ⟨y0, y1, y2, _⟩ := up3 hz) | (obtain ⟨y0, y1, _⟩ := up2 hz) | (obtain ⟨y0, _⟩ := up1 hz) | skip); (try (have z0 : w.heap.size < w1.heap.size := by omega)); (try (have z1 : w.heap.size + 1 < w1.heap.size := by omega)); (try (have z2 : w.heap.size + 1 + 1 < w1.heap.size := by omega)); (try (have c0 : ∀ o, w1.cell? ⟨w.heap.size, o, none⟩ = _ := fun o => hc _ o (by first | (simp; done) | (simp; omega) | omega))); (try (have g0 : ∀ o, w1.frozen? ⟨w.heap.size, o, none⟩ = _ := fun o => hf _ o (by first | (simp; done) | (simp; omega) | omega))); (try (have c1 : ∀ o, w1.cell? ⟨w.heap.size + 1, o, none⟩ = _ := fun o => hc _ o (by first | (simp; done) | (simp; omega) | omega))); (try (have g1 : ∀ o, w1.frozen? ⟨w.heap.size + 1, o, none⟩ = _ := fun o => hf _ o (by first | (simp; done) | (simp; omega) | omega))); (try (have c2 : ∀ o, w1.cell? ⟨w.heap.size + 1 + 1, o, none⟩ = _ := fun o => hc _ o (by first | (simp; done) | (simp; omega) | omega))); (try (have g2 : ∀ o, w1.frozen? ⟨w.heap.size + 1 + 1, o, none⟩ = _ := fun o => hf _ o (by first | (simp; done) | (simp; omega) | omega))); clear hb hz) | (go_at_call 32; ((with_reducible refine (CP _).mono ?_); rintro e w' ⟨rfl, rfl⟩)) | (go_at_call 29; ((with_reducible refine (CO _).mono ?_); rintro e w' ⟨rfl, rfl⟩)) | (go_at_call 31; ((with_reducible refine (most_any _).mono ?_); rintro e w' ⟨rfl, rfl⟩)) | (go_at_call 30; ((with_reducible refine (to_any _ _ _).mono ?_); rintro e w' ⟨rfl, rfl⟩)))
    go_quiet ((go_at_call 32; exact Calls.quiet_of_same (CQ _)))
    go_wp2_with (first | (go_at_call 18; ((with_reducible refine (rmay_any _ _ _).mono ?_); rintro e w1 ⟨rfl, hb⟩); have HB : Below w.heap.size w w1 := below_then (by (repeat (first | exact HB | exact Below.refl _ _ | apply below_drew | apply below_draws | refine below_set ?_ (by (try dsimp only); omega) _ | apply below_alloc))) hb; obtain ⟨hc, hf⟩ := bcell hb; have hz := hb.size; (try simp at hz); (first | (obtain ⟨y0, y1, y2, y3, y4, y5, y6, y7, y8, y9, y10, y11, _⟩ := up12 hz) | (obtain ⟨y0, y1, y2, y3, y4, y5, y6, y7, y8, y9, y10, _⟩ := up11 hz) | (obtain ⟨y0, y1, y2, y3, y4, y5, y6, y7, y8, y9, _⟩ := up10 hz) | (obtain ⟨y0, y1, y2, y3, y4, y5, y6, y7, y8, _⟩ := up9 hz) | (obtain ⟨y0, y1, y2, y3, y4, y5, y6, y7, _⟩ := up8 hz) | (obtain ⟨y0, y1, y2, y3, y4, y5, y6, _⟩ := up7 hz) | (obtain ⟨y0, y1, y2, y3, y4, y5, _⟩ := up6 hz) | (obtain ⟨y0, y1, y2, y3, y4, _⟩ := up5 hz) | (obtain ⟨y0, y1, y2, y3, _⟩ := up4 hz) | (obtain ⟨y0, y1, y2, _⟩ := up3 hz) | (obtain ⟨y0, y1, _⟩ := up2 hz) | (obtain ⟨y0, _⟩ := up1 hz) | skip); (try (have z0 : w.heap.size < w1.heap.size := by omega)); (try (have z1 : w.heap.size + 1 < w1.heap.size := by omega)); (try (have z2 : w.heap.size + 1 + 1 < w1.heap.size := by omega)); (try (have c0 : ∀ o, w1.cell? ⟨w.heap.size, o, none⟩ = _ := fun o => hc _ o (by first | (simp; done) | (simp; omega) | omega))); (try (have g0 : ∀ o, w1.frozen? ⟨w.heap.size, o, none⟩ = _ := fun o => hf _ o (by first | (simp; done) | (simp; omega) | omega))); (try (have c1 : ∀ o, w1.cell? ⟨w.heap.size + 1, o, none⟩ = _ := fun o => hc _ o (by first | (simp; done) | (simp; omega) | omega))); (try (have g1 : ∀ o, w1.frozen? ⟨w.heap.size + 1, o, none⟩ = _ := fun o => hf _ o (by first | (simp; done) | (simp; omega) | omega))); (try (have c2 : ∀ o, w1.cell? ⟨w.heap.size + 1 + 1, o, none⟩ = _ := fun o => hc _ o (by first | (simp; done) | (simp; omega) | omega))); (try (have g2 : ∀ o, w1.frozen? ⟨w.heap.size + 1 + 1, o, none⟩ = _ := fun o => hf _ o (by first | (simp; done) | (simp; omega) | omega))); clear hb hz) | (go_at_call 32; ((with_reducible refine (CP _).mono ?_); rintro e w' ⟨rfl, rfl⟩)) | (go_at_call 29; ((with_reducible refine (CO _).mono ?_); rintro e w' ⟨rfl, rfl⟩)) | (go_at_call 31; ((with_reducible refine (most_any _).mono ?_); rintro e w' ⟨rfl, rfl⟩)) | (go_at_call 30; ((with_reducible refine (to_any _ _ _).mono ?_); rintro e w' ⟨rfl, rfl⟩)))
    refine bodyPost_ret (v := .tuple #[.agg #[.int .u64 0, .int .u64 b], .int .i64 0]) (by simp [results, Try.results13, go_sem, *]) rfl ⟨?_, (by (repeat (first | exact HB | exact Below.refl _ _ | apply below_drew | apply below_draws | refine below_set ?_ (by (try dsimp only); omega) _ | apply below_alloc)))⟩
    rw [HE.out] <;> rfl
  · have s1 : ((a : Int) == (b : Int)) = false := by simp; omega
    have HS1 := Lib.hid hs1; clear hs1
    go_enter Try.func13, Try.ntmps13
    go_wp2_with (first | (go_at_call 18; ((with_reducible refine (rmay_any _ _ _).mono ?_); rintro e w1 ⟨rfl, hb⟩); have HB : Below w.heap.size w w1 := below_then (by (repeat (first | exact HB | exact Below.refl _ _ | apply below_drew | apply below_draws | refine below_set ?_ (by (try dsimp only); omega) _ | apply below_alloc))) hb; obtain ⟨hc, hf⟩ := bcell hb; have hz := hb.size; (try simp at hz); (first | (obtain ⟨y0, y1, y2, y3, y4, y5, y6, y7, y8, y9, y10, y11, _⟩ := up12 hz) | (obtain ⟨y0, y1, y2, y3, y4, y5, y6, y7, y8, y9, y10, _⟩ := up11 hz) | (obtain ⟨y0, y1, y2, y3, y4, y5, y6, y7, y8, y9, _⟩ := up10 hz) | (obtain ⟨y0, y1, y2, y3, y4, y5, y6, y7, y8, _⟩ := up9 hz) | (obtain ⟨y0, y1, y2, y3, y4, y5, y6, y7, _⟩ := up8 hz) | (obtain ⟨y0, y1, y2, y3, y4, y5, y6, _⟩ := up7 hz) | (obtain ⟨y0, y1, y2, y3, y4, y5, _⟩ := up6 hz) | (obtain ⟨y0, y1, y2, y3, y4, _⟩ := up5 hz) | (obtain ⟨y0, y1, y2, y3, _⟩ := up4 hz) | (obtain ⟨y0, y1, y2, _⟩ := up3 hz) | (obtain ⟨y0, y1, _⟩ := up2 hz) | (obtain ⟨y0, _⟩ := up1 hz) | skip); (try (have z0 : w.heap.size < w1.heap.size := by omega)); (try (have z1 : w.heap.size + 1 < w1.heap.size := by omega)); (try (have z2 : w.heap.size + 1 + 1 < w1.heap.size := by omega)); (try (have c0 : ∀ o, w1.cell? ⟨w.heap.size, o, none⟩ = _ := fun o => hc _ o (by first | (simp; done) | (simp; omega) | omega))); (try (have g0 : ∀ o, w1.frozen? ⟨w.heap.size, o, none⟩ = _ := fun o => hf _ o (by first | (simp; done) | (simp; omega) | omega))); (try (have c1 : ∀ o, w1.cell? ⟨w.heap.size + 1, o, none⟩ = _ := fun o => hc _ o (by first | (simp; done) | (simp; omega) | omega))); (try (have g1 : ∀ o, w1.frozen? ⟨w.heap.size + 1, o, none⟩ = _ := fun o => hf _ o (by first | (simp; done) | (simp; omega) | omega))); (try (have c2 : ∀ o, w1.cell? ⟨w.heap.size + 1 + 1, o, none⟩ = _ := fun o => hc _ o (by first | (simp; done) | (simp; omega) | omega))); (try (have g2 : ∀ o, w1.frozen? ⟨w.heap.size + 1 + 1, o, none⟩ = _ := fun o => hf _ o (by first | (simp; done) | (simp; omega) | omega))); clear hb hz) | (go_at_call 32; ((with_reducible refine (CP _).mono ?_); rintro e w' ⟨rfl, rfl⟩)) | (go_at_call 29; ((with_reducible refine (CO _).mono ?_); rintro e w' ⟨rfl, rfl⟩)) | (go_at_call 31; ((with_reducible refine (most_any _).mono ?_); rintro e w' ⟨rfl, rfl⟩)) | (go_at_call 30; ((with_reducible refine (to_any _ _ _).mono ?_); rintro e w' ⟨rfl, rfl⟩)))
    go_quiet ((go_at_call 32; exact Calls.quiet_of_same (CQ _)))
    go_wp2_with (first | (go_at_call 18; ((with_reducible refine (rmay_any _ _ _).mono ?_); rintro e w1 ⟨rfl, hb⟩); have HB : Below w.heap.size w w1 := below_then (by (repeat (first | exact HB | exact Below.refl _ _ | apply below_drew | apply below_draws | refine below_set ?_ (by (try dsimp only); omega) _ | apply below_alloc))) hb; obtain ⟨hc, hf⟩ := bcell hb; have hz := hb.size; (try simp at hz); (first | (obtain ⟨y0, y1, y2, y3, y4, y5, y6, y7, y8, y9, y10, y11, _⟩ := up12 hz) | (obtain ⟨y0, y1, y2, y3, y4, y5, y6, y7, y8, y9, y10, _⟩ := up11 hz) | (obtain ⟨y0, y1, y2, y3, y4, y5, y6, y7, y8, y9, _⟩ := up10 hz) | (obtain ⟨y0, y1, y2, y3, y4, y5, y6, y7, y8, _⟩ := up9 hz) | (obtain ⟨y0, y1, y2, y3, y4, y5, y6, y7, _⟩ := up8 hz) | (obtain ⟨y0, y1, y2, y3, y4, y5, y6, _⟩ := up7 hz) | (obtain ⟨y0, y1, y2, y3, y4, y5, _⟩ := up6 hz) | (obtain ⟨y0, y1, y2, y3, y4, _⟩ := up5 hz) | (obtain ⟨y0, y1, y2, y3, _⟩ := up4 hz) | (obtain ⟨y0, y1, y2, _⟩ := up3 hz) | (obtain ⟨y0, y1, _⟩ := up2 hz) | (obtain ⟨y0, _⟩ := up1 hz) | skip); (try (have z0 : w.heap.size < w1.heap.size := by omega)); (try (have z1 : w.heap.size + 1 < w1.heap.size := by omega)); (try (have z2 : w.heap.size + 1 + 1 < w1.heap.size := by omega)); (try (have c0 : ∀ o, w1.cell? ⟨w.heap.size, o, none⟩ = _ := fun o => hc _ o (by first | (simp; done) | (simp; omega) | omega))); (try (have g0 : ∀ o, w1.frozen? ⟨w.heap.size, o, none⟩ = _ := fun o => hf _ o (by first | (simp; done) | (simp; omega) | omega))); (try (have c1 : ∀ o, w1.cell? ⟨w.heap.size + 1, o, none⟩ = _ := fun o => hc _ o (by first | (simp; done) | (simp; omega) | omega))); (try (have g1 : ∀ o, w1.frozen? ⟨w.heap.size + 1, o, none⟩ = _ := fun o => hf _ o (by first | (simp; done) | (simp; omega) | omega))); (try (have c2 : ∀ o, w1.cell? ⟨w.heap.size + 1 + 1, o, none⟩ = _ := fun o => hc _ o (by first | (simp; done) | (simp; omega) | omega))); (try (have g2 : ∀ o, w1.frozen? ⟨w.heap.size + 1 + 1, o, none⟩ = _ := fun o => hf _ o (by first | (simp; done) | (simp; omega) | omega))); clear hb hz) | (go_at_call 32; ((with_reducible refine (CP _).mono ?_); rintro e w' ⟨rfl, rfl⟩)) | (go_at_call 29; ((with_reducible refine (CO _).mono ?_); rintro e w' ⟨rfl, rfl⟩)) | (go_at_call 31; ((with_reducible refine (most_any _).mono ?_); rintro e w' ⟨rfl, rfl⟩)) | (go_at_call 30; ((with_reducible refine (to_any _ _ _).mono ?_); rintro e w' ⟨rfl, rfl⟩)))
    refine bodyPost_ret (v := .tuple #[.agg #[.int .u64 0, .int .u64 b], .int .i64 0]) (by simp [results, Try.results13, go_sem, *]) rfl ⟨?_, (by (repeat (first | exact HB | exact Below.refl _ _ | apply below_drew | apply below_draws | refine below_set ?_ (by (try dsimp only); omega) _ | apply below_alloc)))⟩
    rw [HE.out] <;> rfl

set_option maxRecDepth 100000 in
set_option maxHeartbeats 2000000 in
theorem rdo_11t (a b c d : Nat) (hab : a ≤ b) (hcd : c ≤ d) (hbM : b < M) (hdM : d < M) (hs : decide (a = b) = false ∨ decide (c = d) = false) (ht : H63 ≤ b) (w : World) :
    Calls Try.prog 13 #[.int .i64 11, .agg #[.int .u64 a, .int .u64 b], .agg #[.int .u64 c, .int .u64 d]] w fun e w' => e = .returned (.tuple #[.agg #[.int .u64 ((spRow 11 a b c d).1 : Nat), .int .u64 ((spRow 11 a b c d).2 : Nat)], .int .i64 0]) ∧ Below w.heap.size w w' := by
  have e : spRow 11 a b c d = (0, M - 1) := by simp [spRow, ht]
  have HE := Lib.hid e; clear e
  have hk64 : c % 64 ≤ 64 := Nat.le_of_lt (Nat.mod_lt _ (by decide))
  have CP0 := pow_any (c % 64) hk64
  have hpp : ¬ pw (c % 64) = 0 := pw_pos _ (Nat.mod_lt _ (by decide))
  obtain ⟨k, hk⟩ : ∃ k, c % 64 = k := ⟨_, rfl⟩
  have hki : (c : Int) % 64 = (k : Int) := by omega
  have CO := refDo_any 7 b d hbM hdM
  obtain ⟨o, ho⟩ : ∃ o, aluV 7 b d = o := ⟨_, rfl⟩
  rw [ho, show aluE 7 = 0 by decide] at CO
  rw [hk] at CP0 hk64 hpp
  obtain ⟨P, hP⟩ : ∃ P, pw k = P := ⟨_, rfl⟩
  have CP := CP0
  rw [hP] at CP hpp
  clear CP0
  have HO := Lib.hid ho; clear ho
  have HK := Lib.hid hk; clear hk
  have HP := Lib.hid hP; clear hP
  have e10 : ((11 : Int) == 11) = true := rfl
  have CQ : ∀ w : World, Calls Try.prog 32 #[.int .i64 63] w fun e w' => e = .returned (.int .u64 (H63 : Nat)) ∧ w' = w := fun w => (pow_any 63 (by decide) w).mono fun e w' h => ⟨by rw [h.1, pw63], h.2.symm⟩
  clear hbM hdM
  have hs' : (a = b ∧ ¬ c = d) ∨ ¬ a = b := by
    rcases hs with hs | hs
    · right; simpa using hs
    · by_cases h : a = b
      · left; exact ⟨h, by simpa using hs⟩
      · right; exact h
  clear hs
  rcases hs' with ⟨hs1, hs2⟩ | hs1
  · have s1 : ((a : Int) == (b : Int)) = true := by simp [hs1]
    have s2 : ((c : Int) == (d : Int)) = false := by simp; omega
    have HS1 := Lib.hid hs1; clear hs1
    have HS2 := Lib.hid hs2; clear hs2
    go_enter Try.func13, Try.ntmps13
    go_wp2_with (first | (go_at_call 18; ((with_reducible refine (rmay_any _ _ _).mono ?_); rintro e w1 ⟨rfl, hb⟩); have HB : Below w.heap.size w w1 := below_then (by (repeat (first | exact HB | exact Below.refl _ _ | apply below_drew | apply below_draws | refine below_set ?_ (by (try dsimp only); omega) _ | apply below_alloc))) hb; obtain ⟨hc, hf⟩ := bcell hb; have hz := hb.size; (try simp at hz); (first | (obtain ⟨y0, y1, y2, y3, y4, y5, y6, y7, y8, y9, y10, y11, _⟩ := up12 hz) | (obtain ⟨y0, y1, y2, y3, y4, y5, y6, y7, y8, y9, y10, _⟩ := up11 hz) | (obtain ⟨y0, y1, y2, y3, y4, y5, y6, y7, y8, y9, _⟩ := up10 hz) | (obtain ⟨y0, y1, y2, y3, y4, y5, y6, y7, y8, _⟩ := up9 hz) | (obtain ⟨y0, y1, y2, y3, y4, y5, y6, y7, _⟩ := up8 hz) | (obtain ⟨y0, y1, y2, y3, y4, y5, y6, _⟩ := up7 hz) | (obtain ⟨y0, y1, y2, y3, y4, y5, _⟩ := up6 hz) | (obtain ⟨y0, y1, y2, y3, y4, _⟩ := up5 hz) | (obtain ⟨y0, y1, y2, y3, _⟩ := up4 hz) | (obtain ⟨y0, y1, y2, _⟩ := up3 hz) | (obtain ⟨y0, y1, _⟩ := up2 hz) | (obtain ⟨y0, _⟩ := up1 hz) | skip); (try (have z0 : w.heap.size < w1.heap.size := by omega)); (try (have z1 : w.heap.size + 1 < w1.heap.size := by omega)); (try (have z2 : w.heap.size + 1 + 1 < w1.heap.size := by omega)); (try (have c0 : ∀ o, w1.cell? ⟨w.heap.size, o, none⟩ = _ := fun o => hc _ o (by first | (simp; done) | (simp; omega) | omega))); (try (have g0 : ∀ o, w1.frozen? ⟨w.heap.size, o, none⟩ = _ := fun o => hf _ o (by first | (simp; done) | (simp; omega) | omega))); (try (have c1 : ∀ o, w1.cell? ⟨w.heap.size + 1, o, none⟩ = _ := fun o => hc _ o (by first | (simp; done) | (simp; omega) | omega))); (try (have g1 : ∀ o, w1.frozen? ⟨w.heap.size + 1, o, none⟩ = _ := fun o => hf _ o (by first | (simp; done) | (simp; omega) | omega))); (try (have c2 : ∀ o, w1.cell? ⟨w.heap.size + 1 + 1, o, none⟩ = _ := fun o => hc _ o (by first | (simp; done) | (simp; omega) | omega))); (try (have g2 : ∀ o, w1.frozen? ⟨w.heap.size + 1 + 1, o, none⟩ = _ := fun o => hf _ o (by first | (simp; done) | (simp; omega) | omega))); clear hb hz) | (go_at_call 32; ((with_reducible refine (CP _).mono ?_); rintro e w' ⟨rfl, rfl⟩)) | (go_at_call 29; ((with_reducible refine (CO _).mono ?_); rintro e w' ⟨rfl, rfl⟩)) | (go_at_call 31; ((with_reducible refine (most_any _).mono ?_); rintro e w' ⟨rfl, rfl⟩)) | (go_at_call 30; ((with_reducible refine (to_any _ _ _).mono ?_); rintro e w' ⟨rfl, rfl⟩)))
    go_quiet ((go_at_call 32; exact Calls.quiet_of_same (CQ _)))
    go_wp2_with (first | (go_at_call 18; ((with_reducible refine (rmay_any _ _ _).mono ?_); rintro e w1 ⟨rfl, hb⟩); have HB : Below w.heap.size w w1 := below_then (by (repeat (first | exact HB | exact Below.refl _ _ | apply below_drew | apply below_draws | refine below_set ?_ (by (try dsimp only); omega) _ | apply below_alloc))) hb; obtain ⟨hc, hf⟩ := bcell hb; have hz := hb.size; (try simp at hz); (first | (obtain ⟨y0, y1, y2, y3, y4, y5, y6, y7, y8, y9, y10, y11, _⟩ := up12 hz) | (obtain ⟨y0, y1, y2, y3, y4, y5, y6, y7, y8, y9, y10, _⟩ := up11 hz) | (obtain ⟨y0, y1, y2, y3, y4, y5, y6, y7, y8, y9, _⟩ := up10 hz) | (obtain ⟨y0, y1, y2, y3, y4, y5, y6, y7, y8, _⟩ := up9 hz) | (obtain ⟨y0, y1, y2, y3, y4, y5, y6, y7, _⟩ := up8 hz) | (obtain ⟨y0, y1, y2, y3, y4, y5, y6, _⟩ := up7 hz) | (obtain ⟨y0, y1, y2, y3, y4, y5, _⟩ := up6 hz) | (obtain ⟨y0, y1, y2, y3, y4, _⟩ := up5 hz) | (obtain ⟨y0, y1, y2, y3, _⟩ := up4 hz) | (obtain ⟨y0, y1, y2, _⟩ := up3 hz) | (obtain ⟨y0, y1, _⟩ := up2 hz) | (obtain ⟨y0, _⟩ := up1 hz) | skip); (try (have z0 : w.heap.size < w1.heap.size := by omega)); (try (have z1 : w.heap.size + 1 < w1.heap.size := by omega)); (try (have z2 : w.heap.size + 1 + 1 < w1.heap.size := by omega)); (try (have c0 : ∀ o, w1.cell? ⟨w.heap.size, o, none⟩ = _ := fun o => hc _ o (by first | (simp; done) | (simp; omega) | omega))); (try (have g0 : ∀ o, w1.frozen? ⟨w.heap.size, o, none⟩ = _ := fun o => hf _ o (by first | (simp; done) | (simp; omega) | omega))); (try (have c1 : ∀ o, w1.cell? ⟨w.heap.size + 1, o, none⟩ = _ := fun o => hc _ o (by first | (simp; done) | (simp; omega) | omega))); (try (have g1 : ∀ o, w1.frozen? ⟨w.heap.size + 1, o, none⟩ = _ := fun o => hf _ o (by first | (simp; done) | (simp; omega) | omega))); (try (have c2 : ∀ o, w1.cell? ⟨w.heap.size + 1 + 1, o, none⟩ = _ := fun o => hc _ o (by first | (simp; done) | (simp; omega) | omega))); (try (have g2 : ∀ o, w1.frozen? ⟨w.heap.size + 1 + 1, o, none⟩ = _ := fun o => hf _ o (by first | (simp; done) | (simp; omega) | omega))); clear hb hz) | (go_at_call 32; ((with_reducible refine (CP _).mono ?_); rintro e w' ⟨rfl, rfl⟩)) | (go_at_call 29; ((with_reducible refine (CO _).mono ?_); rintro e w' ⟨rfl, rfl⟩)) | (go_at_call 31; ((with_reducible refine (most_any _).mono ?_); rintro e w' ⟨rfl, rfl⟩)) | (go_at_call 30; ((with_reducible refine (to_any _ _ _).mono ?_); rintro e w' ⟨rfl, rfl⟩)))
    refine bodyPost_ret (v := .tuple #[.agg #[.int .u64 0, .int .u64 ((mostN : Nat) : Int)], .int .i64 0]) (by simp [results, Try.results13, go_sem, *]) rfl ⟨?_, (by (repeat (first | exact HB | exact Below.refl _ _ | apply below_drew | apply below_draws | refine below_set ?_ (by (try dsimp only); omega) _ | apply below_alloc)))⟩
    rw [HE.out] <;> rfl
  · have s1 : ((a : Int) == (b : Int)) = false := by simp; omega
    have HS1 := Lib.hid hs1; clear hs1
    go_enter Try.func13, Try.ntmps13
    go_wp2_with (first | (go_at_call 18; ((with_reducible refine (rmay_any _ _ _).mono ?_); rintro e w1 ⟨rfl, hb⟩); have HB : Below w.heap.size w w1 := below_then (by (repeat (first | exact HB | exact Below.refl _ _ | apply below_drew | apply below_draws | refine below_set ?_ (by (try dsimp only); omega) _ | apply below_alloc))) hb; obtain ⟨hc, hf⟩ := bcell hb; have hz := hb.size; (try simp at hz); (first | (obtain ⟨y0, y1, y2, y3, y4, y5, y6, y7, y8, y9, y10, y11, _⟩ := up12 hz) | (obtain ⟨y0, y1, y2, y3, y4, y5, y6, y7, y8, y9, y10, _⟩ := up11 hz) | (obtain ⟨y0, y1, y2, y3, y4, y5, y6, y7, y8, y9, _⟩ := up10 hz) | (obtain ⟨y0, y1, y2, y3, y4, y5, y6, y7, y8, _⟩ := up9 hz) | (obtain ⟨y0, y1, y2, y3, y4, y5, y6, y7, _⟩ := up8 hz) | (obtain ⟨y0, y1, y2, y3, y4, y5, y6, _⟩ := up7 hz) | (obtain ⟨y0, y1, y2, y3, y4, y5, _⟩ := up6 hz) | (obtain ⟨y0, y1, y2, y3, y4, _⟩ := up5 hz) | (obtain ⟨y0, y1, y2, y3, _⟩ := up4 hz) | (obtain ⟨y0, y1, y2, _⟩ := up3 hz) | (obtain ⟨y0, y1, _⟩ := up2 hz) | (obtain ⟨y0, _⟩ := up1 hz) | skip); (try (have z0 : w.heap.size < w1.heap.size := by omega)); (try (have z1 : w.heap.size + 1 < w1.heap.size := by omega)); (try (have z2 : w.heap.size + 1 + 1 < w1.heap.size := by omega)); (try (have c0 : ∀ o, w1.cell? ⟨w.heap.size, o, none⟩ = _ := fun o => hc _ o (by first | (simp; done) | (simp; omega) | omega))); (try (have g0 : ∀ o, w1.frozen? ⟨w.heap.size, o, none⟩ = _ := fun o => hf _ o (by first | (simp; done) | (simp; omega) | omega))); (try (have c1 : ∀ o, w1.cell? ⟨w.heap.size + 1, o, none⟩ = _ := fun o => hc _ o (by first | (simp; done) | (simp; omega) | omega))); (try (have g1 : ∀ o, w1.frozen? ⟨w.heap.size + 1, o, none⟩ = _ := fun o => hf _ o (by first | (simp; done) | (simp; omega) | omega))); (try (have c2 : ∀ o, w1.cell? ⟨w.heap.size + 1 + 1, o, none⟩ = _ := fun o => hc _ o (by first | (simp; done) | (simp; omega) | omega))); (try (have g2 : ∀ o, w1.frozen? ⟨w.heap.size + 1 + 1, o, none⟩ = _ := fun o => hf _ o (by first | (simp; done) | (simp; omega) | omega))); clear hb hz) | (go_at_call 32; ((with_reducible refine (CP _).mono ?_); rintro e w' ⟨rfl, rfl⟩)) | (go_at_call 29; ((with_reducible refine (CO _).mono ?_); rintro e w' ⟨rfl, rfl⟩)) | (go_at_call 31; ((with_reducible refine (most_any _).mono ?_); rintro e w' ⟨rfl, rfl⟩)) | (go_at_call 30; ((with_reducible refine (to_any _ _ _).mono ?_); rintro e w' ⟨rfl, rfl⟩)))
    go_quiet ((go_at_call 32; exact Calls.quiet_of_same (CQ _)))
    go_wp2_with (first | (go_at_call 18; ((with_reducible refine (rmay_any _ _ _).mono ?_); rintro e w1 ⟨rfl, hb⟩); have HB : Below w.heap.size w w1 := below_then (by (repeat (first | exact HB | exact Below.refl _ _ | apply below_drew | apply below_draws | refine below_set ?_ (by (try dsimp only); omega) _ | apply below_alloc))) hb; obtain ⟨hc, hf⟩ := bcell hb; have hz := hb.size; (try simp at hz); (first | (obtain ⟨y0, y1, y2, y3, y4, y5, y6, y7, y8, y9, y10, y11, _⟩ := up12 hz) | (obtain ⟨y0, y1, y2, y3, y4, y5, y6, y7, y8, y9, y10, _⟩ := up11 hz) | (obtain ⟨y0, y1, y2, y3, y4, y5, y6, y7, y8, y9, _⟩ := up10 hz) | (obtain ⟨y0, y1, y2, y3, y4, y5, y6, y7, y8, _⟩ := up9 hz) | (obtain ⟨y0, y1, y2, y3, y4, y5, y6, y7, _⟩ := up8 hz) | (obtain ⟨y0, y1, y2, y3, y4, y5, y6, _⟩ := up7 hz) | (obtain ⟨y0, y1, y2, y3, y4, y5, _⟩ := up6 hz) | (obtain ⟨y0, y1, y2, y3, y4, _⟩ := up5 hz) | (obtain ⟨y0, y1, y2, y3, _⟩ := up4 hz) | (obtain ⟨y0, y1, y2, _⟩ := up3 hz) | (obtain ⟨y0, y1, _⟩ := up2 hz) | (obtain ⟨y0, _⟩ := up1 hz) | skip); (try (have z0 : w.heap.size < w1.heap.size := by omega)); (try (have z1 : w.heap.size + 1 < w1.heap.size := by omega)); (try (have z2 : w.heap.size + 1 + 1 < w1.heap.size := by omega)); (try (have c0 : ∀ o, w1.cell? ⟨w.heap.size, o, none⟩ = _ := fun o => hc _ o (by first | (simp; done) | (simp; omega) | omega))); (try (have g0 : ∀ o, w1.frozen? ⟨w.heap.size, o, none⟩ = _ := fun o => hf _ o (by first | (simp; done) | (simp; omega) | omega))); (try (have c1 : ∀ o, w1.cell? ⟨w.heap.size + 1, o, none⟩ = _ := fun o => hc _ o (by first | (simp; done) | (simp; omega) | omega))); (try (have g1 : ∀ o, w1.frozen? ⟨w.heap.size + 1, o, none⟩ = _ := fun o => hf _ o (by first | (simp; done) | (simp; omega) | omega))); (try (have c2 : ∀ o, w1.cell? ⟨w.heap.size + 1 + 1, o, none⟩ = _ := fun o => hc _ o (by first | (simp; done) | (simp; omega) | omega))); (try (have g2 : ∀ o, w1.frozen? ⟨w.heap.size + 1 + 1, o, none⟩ = _ := fun o => hf _ o (by first | (simp; done) | (simp; omega) | omega))); clear hb hz) | (go_at_call 32; ((with_reducible refine (CP _).mono ?_); rintro e w' ⟨rfl, rfl⟩)) | (go_at_call 29; ((with_reducible refine (CO _).mono ?_); rintro e w' ⟨rfl, rfl⟩)) | (go_at_call 31; ((with_reducible refine (most_any _).mono ?_); rintro e w' ⟨rfl, rfl⟩)) | (go_at_call 30; ((with_reducible refine (to_any _ _ _).mono ?_); rintro e w' ⟨rfl, rfl⟩)))
    refine bodyPost_ret (v := .tuple #[.agg #[.int .u64 0, .int .u64 ((mostN : Nat) : Int)], .int .i64 0]) (by simp [results, Try.results13, go_sem, *]) rfl ⟨?_, (by (repeat (first | exact HB | exact Below.refl _ _ | apply below_drew | apply below_draws | refine below_set ?_ (by (try dsimp only); omega) _ | apply below_alloc)))⟩
    rw [HE.out] <;> rfl

end Go.Proofs.Ytgaahlnegmcakaa
