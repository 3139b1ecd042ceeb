
/- The walks of package span's inner functions: filled, single, mod, shift. -/
import Derived.Test.YtgaahlnegmcakaaSpanW1
import Derived.Test.YtgaahlnegmcakaaShelf
import Derived.Deep.RegionHeld3
import Derived.Deep.DeepCutAuto
namespace Go.Proofs.Ytgaahlnegmcakaa
open Go.RowKit

set_option maxHeartbeats 400000 in
theorem filled_any (n : Nat) (hn : n < M) (w : World) :
    Calls Try.prog 39 #[.int .u64 n] w fun e w' => e = .returned (.int .u64 (filledV n : Nat)) ∧ w = w' := by
  by_cases hz : n = 0
  · subst hz
    go_enter Try.func39, Try.ntmps39
    go_wp2
    go_ret
    exact ⟨by rw [filledV_0]; rfl, rfl⟩
  · have C0 := Try.bits_LeadingZeros64 (n : Int)
    obtain ⟨z, ez⟩ : ∃ z, z = 64 - Lib.bitLen n := ⟨_, rfl⟩
    obtain ⟨b1, b2, _, _⟩ := bitLen_bd n hn hz
    have C : ∀ w : World, Calls Try.prog 43 #[.int .u64 n] w fun e w' => e = .returned (.int .i64 (z : Nat)) ∧ w = w' := by
      intro w
      refine (C0 w (by omega) (by unfold M at hn; omega)).mono fun e w' h => ?_
      rw [h.1, h.2, Int.toNat_natCast]
      refine ⟨?_, rfl⟩
      rw [show (64 : Int) - (Lib.bitLen n : Int) = ((z : Nat) : Int) by omega]
    have hz64 : z ≤ 64 := by omega
    have HF := Lib.hid (filled_go n hn hz z ez)
    have hz1 : ((n : Int) == 0) = false := by simp [hz]
    clear C0 ez b1 b2 hz
    go_enter Try.func39, Try.ntmps39
    go_wp2_with (go_at_call 43; refine (C _).mono ?_; rintro e w' ⟨rfl, rfl⟩)
    go_ret
    exact ⟨by rw [← HF.out]; rfl, rfl⟩

set_option maxHeartbeats 400000 in
theorem single_any (a b : Nat) (w : World) :
    Calls Try.prog 27 #[.agg #[.int .u64 a, .int .u64 b]] w fun e w' => e = .returned (.bool (decide (a = b))) ∧ Below w.heap.size w w' := by
  have he := eqSpan
  go_enter Try.func27, Try.ntmps27
  go_wp2
  go_region_with (go_at_call 17; refine (of_any _ _).mono ?_; rintro e w1 ⟨rfl, hb⟩; have HB : Below w.heap.size w w1 := below_then (by (repeat (first | exact HB | exact Below.refl _ _ | apply below_drew | apply below_draws | refine below_set ?_ (by (try dsimp only); omega) _ | apply below_alloc))) hb; obtain ⟨hc, hf⟩ := bcell hb; have hz := hb.size; (try simp at hz); (first | (obtain ⟨y0, y1, y2, y3, y4, y5, y6, y7, y8, y9, y10, y11, _⟩ := up12 hz) | (obtain ⟨y0, y1, y2, y3, y4, y5, y6, y7, y8, y9, y10, _⟩ := up11 hz) | (obtain ⟨y0, y1, y2, y3, y4, y5, y6, y7, y8, y9, _⟩ := up10 hz) | (obtain ⟨y0, y1, y2, y3, y4, y5, y6, y7, y8, _⟩ := up9 hz) | (obtain ⟨y0, y1, y2, y3, y4, y5, y6, y7, _⟩ := up8 hz) | (obtain ⟨y0, y1, y2, y3, y4, y5, y6, _⟩ := up7 hz) | (obtain ⟨y0, y1, y2, y3, y4, y5, _⟩ := up6 hz) | (obtain ⟨y0, y1, y2, y3, y4, _⟩ := up5 hz) | (obtain ⟨y0, y1, y2, y3, _⟩ := up4 hz) | (obtain ⟨y0, y1, y2, _⟩ := up3 hz) | (obtain ⟨y0, y1, _⟩ := up2 hz) | (obtain ⟨y0, _⟩ := up1 hz) | skip); (try (have z0 : w.heap.size < w1.heap.size := by omega)); (try (have c0 : ∀ o, w1.cell? ⟨w.heap.size, o, none⟩ = _ := fun o => hc _ o (by first | (simp; done) | (simp; omega) | omega))); (try (have g0 : ∀ o, w1.frozen? ⟨w.heap.size, o, none⟩ = _ := fun o => hf _ o (by first | (simp; done) | (simp; omega) | omega))); clear hb hz)
  all_goals
    go_wp2
    go_ret
    refine ⟨retbool ?_, (by (repeat (first | exact HB | exact Below.refl _ _ | apply below_drew | apply below_draws | refine below_set ?_ (by (try dsimp only); omega) _ | apply below_alloc)))⟩
    simp
    omega

theorem ret_sp0 {y : Int} {d : Nat} (h' : y = d) : Ending.returned (.agg #[.int .u64 0, .int .u64 y]) = .returned (.agg #[.int .u64 ((0 : Nat) : Int), .int .u64 (d : Int)]) := by rw [h']; rfl
theorem of_zero (w : World) : Calls Try.prog 17 #[.int .u64 0] w fun e w' => e = .returned (.agg #[.int .u64 0, .int .u64 0]) ∧ Below w.heap.size w w' := of_any 0 w
set_option maxHeartbeats 1000000 in
theorem mod_any (a b c d : Nat) (hcd : c ≤ d) (hdM : d < M) (w : World) :
    Calls Try.prog 38 #[.agg #[.int .u64 a, .int .u64 b], .agg #[.int .u64 c, .int .u64 d]] w fun e w' => e = .returned (.agg #[.int .u64 ((spRow 5 a b c d).1 : Nat), .int .u64 ((spRow 5 a b c d).2 : Nat)]) ∧ Below w.heap.size w w' := by
  have he := eqSpan
  by_cases h : b < c
  · have hd : decide ((b : Int) < (c : Int)) = true := by simp [h]
    have e : spRow 5 a b c d = (a, b) := by simp [spRow, h]
    have HE := Lib.hid e; clear e
    go_enter Try.func38, Try.ntmps38
    go_wp2
    go_quiet (fail)
    go_wp2
    refine bodyPost_ret (v := .agg #[.int .u64 a, .int .u64 b]) (by simp [results, Try.results38, go_sem, *]) rfl ⟨?_, (by (repeat (first | exact HB | exact Below.refl _ _ | apply below_drew | apply below_draws | refine below_set ?_ (by (try dsimp only); omega) _ | apply below_alloc)))⟩
    rw [HE.out]
  · have hd : decide ((b : Int) < (c : Int)) = false := by simp; omega
    have h' : ¬ ((b : Int) < (c : Int)) := by omega
    by_cases h2 : d = 0
    · obtain rfl : c = 0 := by omega
      subst h2
      have e : spRow 5 a b 0 0 = (a, b) := by simp [spRow]
      have HE := Lib.hid e; clear e
      go_enter Try.func38, Try.ntmps38
      go_wp2
      go_region_with (go_at_call 17; refine (of_zero _).mono ?_; rintro e w1 ⟨rfl, hb⟩; have HB : Below w.heap.size w w1 := below_then (by (repeat (first | exact HB | exact Below.refl _ _ | apply below_drew | apply below_draws | refine below_set ?_ (by (try dsimp only); omega) _ | apply below_alloc))) hb; obtain ⟨hc, hf⟩ := bcell hb; have hz := hb.size; (try simp at hz); (first | (obtain ⟨y0, y1, y2, y3, y4, y5, y6, y7, y8, y9, y10, y11, _⟩ := up12 hz) | (obtain ⟨y0, y1, y2, y3, y4, y5, y6, y7, y8, y9, y10, _⟩ := up11 hz) | (obtain ⟨y0, y1, y2, y3, y4, y5, y6, y7, y8, y9, _⟩ := up10 hz) | (obtain ⟨y0, y1, y2, y3, y4, y5, y6, y7, y8, _⟩ := up9 hz) | (obtain ⟨y0, y1, y2, y3, y4, y5, y6, y7, _⟩ := up8 hz) | (obtain ⟨y0, y1, y2, y3, y4, y5, y6, _⟩ := up7 hz) | (obtain ⟨y0, y1, y2, y3, y4, y5, _⟩ := up6 hz) | (obtain ⟨y0, y1, y2, y3, y4, _⟩ := up5 hz) | (obtain ⟨y0, y1, y2, y3, _⟩ := up4 hz) | (obtain ⟨y0, y1, y2, _⟩ := up3 hz) | (obtain ⟨y0, y1, _⟩ := up2 hz) | (obtain ⟨y0, _⟩ := up1 hz) | skip); (try (have z0 : w.heap.size < w1.heap.size := by omega)); (try (have z1 : w.heap.size + 1 < w1.heap.size := by omega)); (try (have z2 : w.heap.size + 1 + 1 < w1.heap.size := by omega)); (try (have c0 : ∀ o, w1.cell? ⟨w.heap.size, o, none⟩ = _ := fun o => hc _ o (by first | (simp; done) | (simp; omega) | omega))); (try (have g0 : ∀ o, w1.frozen? ⟨w.heap.size, o, none⟩ = _ := fun o => hf _ o (by first | (simp; done) | (simp; omega) | omega))); (try (have c1 : ∀ o, w1.cell? ⟨w.heap.size + 1, o, none⟩ = _ := fun o => hc _ o (by first | (simp; done) | (simp; omega) | omega))); (try (have g1 : ∀ o, w1.frozen? ⟨w.heap.size + 1, o, none⟩ = _ := fun o => hf _ o (by first | (simp; done) | (simp; omega) | omega))); (try (have c2 : ∀ o, w1.cell? ⟨w.heap.size + 1 + 1, o, none⟩ = _ := fun o => hc _ o (by first | (simp; done) | (simp; omega) | omega))); (try (have g2 : ∀ o, w1.frozen? ⟨w.heap.size + 1 + 1, o, none⟩ = _ := fun o => hf _ o (by first | (simp; done) | (simp; omega) | omega))); clear hb hz)
      all_goals
        go_wp2
        refine bodyPost_ret (v := .agg #[.int .u64 a, .int .u64 b]) (by simp [results, Try.results38, go_sem, *]) rfl ⟨?_, (by (repeat (first | exact HB | exact Below.refl _ _ | apply below_drew | apply below_draws | refine below_set ?_ (by (try dsimp only); omega) _ | apply below_alloc)))⟩
        rw [HE.out]
    · have hd2 : decide ((d : Int) = 0) = false := by simp [h2]
      by_cases h3 : c = 0
      · subst h3
        have e : spRow 5 a b 0 d = (0, b) := by simp [spRow, h2]
        have HE := Lib.hid e; clear e
        go_enter Try.func38, Try.ntmps38
        go_wp2
        go_region_with (go_at_call 17; refine (of_zero _).mono ?_; rintro e w1 ⟨rfl, hb⟩; have HB : Below w.heap.size w w1 := below_then (by (repeat (first | exact HB | exact Below.refl _ _ | apply below_drew | apply below_draws | refine below_set ?_ (by (try dsimp only); omega) _ | apply below_alloc))) hb; obtain ⟨hc, hf⟩ := bcell hb; have hz := hb.size; (try simp at hz); (first | (obtain ⟨y0, y1, y2, y3, y4, y5, y6, y7, y8, y9, y10, y11, _⟩ := up12 hz) | (obtain ⟨y0, y1, y2, y3, y4, y5, y6, y7, y8, y9, y10, _⟩ := up11 hz) | (obtain ⟨y0, y1, y2, y3, y4, y5, y6, y7, y8, y9, _⟩ := up10 hz) | (obtain ⟨y0, y1, y2, y3, y4, y5, y6, y7, y8, _⟩ := up9 hz) | (obtain ⟨y0, y1, y2, y3, y4, y5, y6, y7, _⟩ := up8 hz) | (obtain ⟨y0, y1, y2, y3, y4, y5, y6, _⟩ := up7 hz) | (obtain ⟨y0, y1, y2, y3, y4, y5, _⟩ := up6 hz) | (obtain ⟨y0, y1, y2, y3, y4, _⟩ := up5 hz) | (obtain ⟨y0, y1, y2, y3, _⟩ := up4 hz) | (obtain ⟨y0, y1, y2, _⟩ := up3 hz) | (obtain ⟨y0, y1, _⟩ := up2 hz) | (obtain ⟨y0, _⟩ := up1 hz) | skip); (try (have z0 : w.heap.size < w1.heap.size := by omega)); (try (have z1 : w.heap.size + 1 < w1.heap.size := by omega)); (try (have z2 : w.heap.size + 1 + 1 < w1.heap.size := by omega)); (try (have c0 : ∀ o, w1.cell? ⟨w.heap.size, o, none⟩ = _ := fun o => hc _ o (by first | (simp; done) | (simp; omega) | omega))); (try (have g0 : ∀ o, w1.frozen? ⟨w.heap.size, o, none⟩ = _ := fun o => hf _ o (by first | (simp; done) | (simp; omega) | omega))); (try (have c1 : ∀ o, w1.cell? ⟨w.heap.size + 1, o, none⟩ = _ := fun o => hc _ o (by first | (simp; done) | (simp; omega) | omega))); (try (have g1 : ∀ o, w1.frozen? ⟨w.heap.size + 1, o, none⟩ = _ := fun o => hf _ o (by first | (simp; done) | (simp; omega) | omega))); (try (have c2 : ∀ o, w1.cell? ⟨w.heap.size + 1 + 1, o, none⟩ = _ := fun o => hc _ o (by first | (simp; done) | (simp; omega) | omega))); (try (have g2 : ∀ o, w1.frozen? ⟨w.heap.size + 1 + 1, o, none⟩ = _ := fun o => hf _ o (by first | (simp; done) | (simp; omega) | omega))); clear hb hz)
        all_goals
          go_wp2
          refine bodyPost_ret (v := .agg #[.int .u64 0, .int .u64 b]) (by simp [results, Try.results38, go_sem, *]) rfl ⟨?_, (by (repeat (first | exact HB | exact Below.refl _ _ | apply below_drew | apply below_draws | refine below_set ?_ (by (try dsimp only); omega) _ | apply below_alloc)))⟩
          rw [HE.out]; rfl
      · have hc2 : decide ((c : Int) = 0) = false := by simp [h3]
        have hw : IntKind.u64.wrap ((d : Int) - 1) = ((d - 1 : Nat) : Int) := by rw [IntKind.wrap_u64]; unfold M at hdM; omega
        have e : spRow 5 a b c d = (0, min b (d - 1)) := by simp [spRow, h, h2, h3]
        have HE := Lib.hid e; clear e
        go_enter Try.func38, Try.ntmps38
        go_wp2
        go_region_with (go_at_call 17; refine (of_zero _).mono ?_; rintro e w1 ⟨rfl, hb⟩; have HB : Below w.heap.size w w1 := below_then (by (repeat (first | exact HB | exact Below.refl _ _ | apply below_drew | apply below_draws | refine below_set ?_ (by (try dsimp only); omega) _ | apply below_alloc))) hb; obtain ⟨hc, hf⟩ := bcell hb; have hz := hb.size; (try simp at hz); (first | (obtain ⟨y0, y1, y2, y3, y4, y5, y6, y7, y8, y9, y10, y11, _⟩ := up12 hz) | (obtain ⟨y0, y1, y2, y3, y4, y5, y6, y7, y8, y9, y10, _⟩ := up11 hz) | (obtain ⟨y0, y1, y2, y3, y4, y5, y6, y7, y8, y9, _⟩ := up10 hz) | (obtain ⟨y0, y1, y2, y3, y4, y5, y6, y7, y8, _⟩ := up9 hz) | (obtain ⟨y0, y1, y2, y3, y4, y5, y6, y7, _⟩ := up8 hz) | (obtain ⟨y0, y1, y2, y3, y4, y5, y6, _⟩ := up7 hz) | (obtain ⟨y0, y1, y2, y3, y4, y5, _⟩ := up6 hz) | (obtain ⟨y0, y1, y2, y3, y4, _⟩ := up5 hz) | (obtain ⟨y0, y1, y2, y3, _⟩ := up4 hz) | (obtain ⟨y0, y1, y2, _⟩ := up3 hz) | (obtain ⟨y0, y1, _⟩ := up2 hz) | (obtain ⟨y0, _⟩ := up1 hz) | skip); (try (have z0 : w.heap.size < w1.heap.size := by omega)); (try (have z1 : w.heap.size + 1 < w1.heap.size := by omega)); (try (have z2 : w.heap.size + 1 + 1 < w1.heap.size := by omega)); (try (have c0 : ∀ o, w1.cell? ⟨w.heap.size, o, none⟩ = _ := fun o => hc _ o (by first | (simp; done) | (simp; omega) | omega))); (try (have g0 : ∀ o, w1.frozen? ⟨w.heap.size, o, none⟩ = _ := fun o => hf _ o (by first | (simp; done) | (simp; omega) | omega))); (try (have c1 : ∀ o, w1.cell? ⟨w.heap.size + 1, o, none⟩ = _ := fun o => hc _ o (by first | (simp; done) | (simp; omega) | omega))); (try (have g1 : ∀ o, w1.frozen? ⟨w.heap.size + 1, o, none⟩ = _ := fun o => hf _ o (by first | (simp; done) | (simp; omega) | omega))); (try (have c2 : ∀ o, w1.cell? ⟨w.heap.size + 1 + 1, o, none⟩ = _ := fun o => hc _ o (by first | (simp; done) | (simp; omega) | omega))); (try (have g2 : ∀ o, w1.frozen? ⟨w.heap.size + 1 + 1, o, none⟩ = _ := fun o => hf _ o (by first | (simp; done) | (simp; omega) | omega))); clear hb hz)
        all_goals
          go_wp2
          refine bodyPost_ret (v := .agg #[.int .u64 0, .int .u64 (min (b : Int) ((d - 1 : Nat) : Int))]) (by simp [results, Try.results38, go_sem, *]) rfl ⟨?_, (by (repeat (first | exact HB | exact Below.refl _ _ | apply below_drew | apply below_draws | refine below_set ?_ (by (try dsimp only); omega) _ | apply below_alloc)))⟩
          rw [HE.out]; exact ret_sp0 (by omega)

end Go.Proofs.Ytgaahlnegmcakaa
