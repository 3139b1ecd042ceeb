
/- The walks of package branch's inner functions: single, without; of the document's answer: ends. -/
import Derived.Test.YthhohiafhjhjhaaBranchMap
import Derived.Test.YthhohiafhjhjhaaBranchPlain
import Derived.Test.YthhohiafhjhjhaaSpanR2
namespace Go.Proofs.Ythhohiafhjhjhaa
open Go.RowKit
set_option linter.unusedVariables false
set_option linter.unusedSimpArgs false

set_option maxHeartbeats 400000 in
theorem bsingle_any (a b : Nat) (w : World) :
    Calls Try.prog 17 #[.agg #[.int .u64 a, .int .u64 b]] w fun e w' => e = .returned (.bool (decide (a = b))) ∧ Below w.heap.size w w' := by
  go_enter Try.func17, Try.ntmps17
  go_wp2
  go_ret
  refine ⟨retbool ?_, (by (repeat (first | exact HB | exact Below.refl _ _ | apply below_drew | apply below_draws | refine below_set ?_ (by (try dsimp only); omega) _ | apply below_alloc)))⟩
  by_cases h : a = b
  · simp [h]
  · simp [h]; omega

set_option maxHeartbeats 2000000 in
theorem without_any (a b c d : Nat) (hab : a ≤ b) (hb : b < M) (w : World) :
    Calls Try.prog 26 #[.agg #[.int .u64 a, .int .u64 b], .agg #[.int .u64 c, .int .u64 d]] w fun e w' => e = .returned (.agg #[.int .u64 ((wout a b c d).1 : Nat), .int .u64 ((wout a b c d).2 : Nat)]) ∧ Below w.heap.size w w' := by
  obtain ⟨r, hr⟩ : ∃ r, wout a b c d = r := ⟨_, rfl⟩
  by_cases h1 : c = d
  · by_cases h2 : a = b
    · have e : wout a b c d = (a, b) := by unfold wout; rw [if_neg (fun h => h.2 h2)]
      have HE := Lib.hid e; clear e
      clear hab hb hr
      have s_cd : decide (c = d) = true := by simp [h1]
      have t_cd : ((c : Int) == (d : Int)) = true := by simp [h1]
      have u_cd : ((c : Int) != (d : Int)) = false := by simp [h1]
      have s_ab : decide (a = b) = true := by simp [h2]
      have t_ab : ((a : Int) == (b : Int)) = true := by simp [h2]
      have u_ab : ((a : Int) != (b : Int)) = false := by simp [h2]
      have H1 := Lib.hid h1; clear h1
      have H2 := Lib.hid h2; clear h2
      go_enter Try.func26, Try.ntmps26
      go_wp2_with (first | (go_at_call 17; ((with_reducible refine (bsingle_any _ _ _).mono ?_); rintro e w1 ⟨rfl, hb⟩); have HB : Below w.heap.size w w1 := below_then (by (repeat (first | exact HB | exact Below.refl _ _ | apply below_drew | apply below_draws | refine below_set ?_ (by (try dsimp only); omega) _ | apply below_alloc))) hb; obtain ⟨hc, hf⟩ := bcell hb; have hz := hb.size; (try simp at hz); (first | (obtain ⟨y0, y1, y2, y3, y4, y5, y6, y7, y8, y9, y10, y11, _⟩ := up12 hz) | (obtain ⟨y0, y1, y2, y3, y4, y5, y6, y7, y8, y9, y10, _⟩ := up11 hz) | (obtain ⟨y0, y1, y2, y3, y4, y5, y6, y7, y8, y9, _⟩ := up10 hz) | (obtain ⟨y0, y1, y2, y3, y4, y5, y6, y7, y8, _⟩ := up9 hz) | (obtain ⟨y0, y1, y2, y3, y4, y5, y6, y7, _⟩ := up8 hz) | (obtain ⟨y0, y1, y2, y3, y4, y5, y6, _⟩ := up7 hz) | (obtain ⟨y0, y1, y2, y3, y4, y5, _⟩ := up6 hz) | (obtain ⟨y0, y1, y2, y3, y4, _⟩ := up5 hz) | (obtain ⟨y0, y1, y2, y3, _⟩ := up4 hz) | (obtain ⟨y0, y1, y2, _⟩ := up3 hz) | (obtain ⟨y0, y1, _⟩ := up2 hz) | (obtain ⟨y0, _⟩ := up1 hz) | skip); (try (have z0 : w.heap.size < w1.heap.size := by omega)); (try (have z1 : w.heap.size + 1 < w1.heap.size := by omega)); (try (have z2 : w.heap.size + 1 + 1 < w1.heap.size := by omega)); (try (have c0 : ∀ o, w1.cell? ⟨w.heap.size, o, none⟩ = _ := fun o => hc _ o (by first | (simp; done) | (simp; omega) | omega))); (try (have g0 : ∀ o, w1.frozen? ⟨w.heap.size, o, none⟩ = _ := fun o => hf _ o (by first | (simp; done) | (simp; omega) | omega))); (try (have c1 : ∀ o, w1.cell? ⟨w.heap.size + 1, o, none⟩ = _ := fun o => hc _ o (by first | (simp; done) | (simp; omega) | omega))); (try (have g1 : ∀ o, w1.frozen? ⟨w.heap.size + 1, o, none⟩ = _ := fun o => hf _ o (by first | (simp; done) | (simp; omega) | omega))); (try (have c2 : ∀ o, w1.cell? ⟨w.heap.size + 1 + 1, o, none⟩ = _ := fun o => hc _ o (by first | (simp; done) | (simp; omega) | omega))); (try (have g2 : ∀ o, w1.frozen? ⟨w.heap.size + 1 + 1, o, none⟩ = _ := fun o => hf _ o (by first | (simp; done) | (simp; omega) | omega))); (try (have q0_0 : w1.cell? ⟨w.heap.size, 0, none⟩ = some (.int .u64 a) := by first | (go_simp; done) | (simp [*]; done))); (try (have r0_0 : ∀ v, (w1.setCell ⟨w.heap.size, 0, none⟩ v).cell? ⟨w.heap.size, 0, none⟩ = some v := fun v => by first | exact World.cell?_setCell_same q0_0 | exact World.cell?_setCell_same _ _ _ q0_0 | exact World.cell?_setCell_same _ _ q0_0)); (try (have q0_1 : w1.cell? ⟨w.heap.size, 1, none⟩ = some (.int .u64 b) := by first | (go_simp; done) | (simp [*]; done))); (try (have r0_1 : ∀ v, (w1.setCell ⟨w.heap.size, 1, none⟩ v).cell? ⟨w.heap.size, 1, none⟩ = some v := fun v => by first | exact World.cell?_setCell_same q0_1 | exact World.cell?_setCell_same _ _ _ q0_1 | exact World.cell?_setCell_same _ _ q0_1)); (try (have q1_0 : w1.cell? ⟨w.heap.size + 1, 0, none⟩ = some (.int .u64 c) := by first | (go_simp; done) | (simp [*]; done))); (try (have r1_0 : ∀ v, (w1.setCell ⟨w.heap.size + 1, 0, none⟩ v).cell? ⟨w.heap.size + 1, 0, none⟩ = some v := fun v => by first | exact World.cell?_setCell_same q1_0 | exact World.cell?_setCell_same _ _ _ q1_0 | exact World.cell?_setCell_same _ _ q1_0)); (try (have q1_1 : w1.cell? ⟨w.heap.size + 1, 1, none⟩ = some (.int .u64 d) := by first | (go_simp; done) | (simp [*]; done))); (try (have r1_1 : ∀ v, (w1.setCell ⟨w.heap.size + 1, 1, none⟩ v).cell? ⟨w.heap.size + 1, 1, none⟩ = some v := fun v => by first | exact World.cell?_setCell_same q1_1 | exact World.cell?_setCell_same _ _ _ q1_1 | exact World.cell?_setCell_same _ _ q1_1)); (try (have q2_0 : w1.cell? ⟨w.heap.size + 1 + 1, 0, none⟩ = some (.int .u64 0) := by first | (go_simp; done) | (simp [*]; done))); (try (have r2_0 : ∀ v, (w1.setCell ⟨w.heap.size + 1 + 1, 0, none⟩ v).cell? ⟨w.heap.size + 1 + 1, 0, none⟩ = some v := fun v => by first | exact World.cell?_setCell_same q2_0 | exact World.cell?_setCell_same _ _ _ q2_0 | exact World.cell?_setCell_same _ _ q2_0)); (try (have q2_1 : w1.cell? ⟨w.heap.size + 1 + 1, 1, none⟩ = some (.int .u64 0) := by first | (go_simp; done) | (simp [*]; done))); (try (have r2_1 : ∀ v, (w1.setCell ⟨w.heap.size + 1 + 1, 1, none⟩ v).cell? ⟨w.heap.size + 1 + 1, 1, none⟩ = some v := fun v => by first | exact World.cell?_setCell_same q2_1 | exact World.cell?_setCell_same _ _ _ q2_1 | exact World.cell?_setCell_same _ _ q2_1)); clear hb hz))
      refine bodyPost_ret (v := .agg #[.int .u64 a, .int .u64 b]) (by simp [results, Try.results26, go_sem, *]) rfl ⟨?_, (by (repeat (first | exact HB | exact Below.refl _ _ | apply below_drew | apply below_draws | refine below_set ?_ (by (try dsimp only); omega) _ | apply below_alloc)))⟩
      rw [HE.out]
    · by_cases h3 : a = c
      · have e : wout a b c d = (a + 1, b) := by unfold wout; rw [if_pos ⟨h1, h2⟩, if_pos h3]
        have HE := Lib.hid e; clear e
        have hw : IntKind.u64.wrap ((a : Int) + 1) = (a : Int) + 1 := by rw [IntKind.wrap_u64]; unfold M at hb; omega
        clear hab hb hr
        have s_cd : decide (c = d) = true := by simp [h1]
        have t_cd : ((c : Int) == (d : Int)) = true := by simp [h1]
        have u_cd : ((c : Int) != (d : Int)) = false := by simp [h1]
        have s_ab : decide (a = b) = false := by simp [h2]
        have t_ab : ((a : Int) == (b : Int)) = false := by simp [h2]; try omega
        have u_ab : ((a : Int) != (b : Int)) = true := by simp [h2]; try omega
        have s_ac : decide (a = c) = true := by simp [h3]
        have t_ac : ((a : Int) == (c : Int)) = true := by simp [h3]
        have u_ac : ((a : Int) != (c : Int)) = false := by simp [h3]
        have H1 := Lib.hid h1; clear h1
        have H2 := Lib.hid h2; clear h2
        have H3 := Lib.hid h3; clear h3
        go_enter Try.func26, Try.ntmps26
        go_wp2_with (first | (go_at_call 17; ((with_reducible refine (bsingle_any _ _ _).mono ?_); rintro e w1 ⟨rfl, hb⟩); have HB : Below w.heap.size w w1 := below_then (by (repeat (first | exact HB | exact Below.refl _ _ | apply below_drew | apply below_draws | refine below_set ?_ (by (try dsimp only); omega) _ | apply below_alloc))) hb; obtain ⟨hc, hf⟩ := bcell hb; have hz := hb.size; (try simp at hz); (first | (obtain ⟨y0, y1, y2, y3, y4, y5, y6, y7, y8, y9, y10, y11, _⟩ := up12 hz) | (obtain ⟨y0, y1, y2, y3, y4, y5, y6, y7, y8, y9, y10, _⟩ := up11 hz) | (obtain ⟨y0, y1, y2, y3, y4, y5, y6, y7, y8, y9, _⟩ := up10 hz) | (obtain ⟨y0, y1, y2, y3, y4, y5, y6, y7, y8, _⟩ := up9 hz) | (obtain ⟨y0, y1, y2, y3, y4, y5, y6, y7, _⟩ := up8 hz) | (obtain ⟨y0, y1, y2, y3, y4, y5, y6, _⟩ := up7 hz) | (obtain ⟨y0, y1, y2, y3, y4, y5, _⟩ := up6 hz) | (obtain ⟨y0, y1, y2, y3, y4, _⟩ := up5 hz) | (obtain ⟨y0, y1, y2, y3, _⟩ := up4 hz) | (obtain ⟨y0, y1, y2, _⟩ := up3 hz) | (obtain ⟨y0, y1, _⟩ := up2 hz) | (obtain ⟨y0, _⟩ := up1 hz) | skip); (try (have z0 : w.heap.size < w1.heap.size := by omega)); (try (have z1 : w.heap.size + 1 < w1.heap.size := by omega)); (try (have z2 : w.heap.size + 1 + 1 < w1.heap.size := by omega)); (try (have c0 : ∀ o, w1.cell? ⟨w.heap.size, o, none⟩ = _ := fun o => hc _ o (by first | (simp; done) | (simp; omega) | omega))); (try (have g0 : ∀ o, w1.frozen? ⟨w.heap.size, o, none⟩ = _ := fun o => hf _ o (by first | (simp; done) | (simp; omega) | omega))); (try (have c1 : ∀ o, w1.cell? ⟨w.heap.size + 1, o, none⟩ = _ := fun o => hc _ o (by first | (simp; done) | (simp; omega) | omega))); (try (have g1 : ∀ o, w1.frozen? ⟨w.heap.size + 1, o, none⟩ = _ := fun o => hf _ o (by first | (simp; done) | (simp; omega) | omega))); (try (have c2 : ∀ o, w1.cell? ⟨w.heap.size + 1 + 1, o, none⟩ = _ := fun o => hc _ o (by first | (simp; done) | (simp; omega) | omega))); (try (have g2 : ∀ o, w1.frozen? ⟨w.heap.size + 1 + 1, o, none⟩ = _ := fun o => hf _ o (by first | (simp; done) | (simp; omega) | omega))); (try (have q0_0 : w1.cell? ⟨w.heap.size, 0, none⟩ = some (.int .u64 a) := by first | (go_simp; done) | (simp [*]; done))); (try (have r0_0 : ∀ v, (w1.setCell ⟨w.heap.size, 0, none⟩ v).cell? ⟨w.heap.size, 0, none⟩ = some v := fun v => by first | exact World.cell?_setCell_same q0_0 | exact World.cell?_setCell_same _ _ _ q0_0 | exact World.cell?_setCell_same _ _ q0_0)); (try (have q0_1 : w1.cell? ⟨w.heap.size, 1, none⟩ = some (.int .u64 b) := by first | (go_simp; done) | (simp [*]; done))); (try (have r0_1 : ∀ v, (w1.setCell ⟨w.heap.size, 1, none⟩ v).cell? ⟨w.heap.size, 1, none⟩ = some v := fun v => by first | exact World.cell?_setCell_same q0_1 | exact World.cell?_setCell_same _ _ _ q0_1 | exact World.cell?_setCell_same _ _ q0_1)); (try (have q1_0 : w1.cell? ⟨w.heap.size + 1, 0, none⟩ = some (.int .u64 c) := by first | (go_simp; done) | (simp [*]; done))); (try (have r1_0 : ∀ v, (w1.setCell ⟨w.heap.size + 1, 0, none⟩ v).cell? ⟨w.heap.size + 1, 0, none⟩ = some v := fun v => by first | exact World.cell?_setCell_same q1_0 | exact World.cell?_setCell_same _ _ _ q1_0 | exact World.cell?_setCell_same _ _ q1_0)); (try (have q1_1 : w1.cell? ⟨w.heap.size + 1, 1, none⟩ = some (.int .u64 d) := by first | (go_simp; done) | (simp [*]; done))); (try (have r1_1 : ∀ v, (w1.setCell ⟨w.heap.size + 1, 1, none⟩ v).cell? ⟨w.heap.size + 1, 1, none⟩ = some v := fun v => by first | exact World.cell?_setCell_same q1_1 | exact World.cell?_setCell_same _ _ _ q1_1 | exact World.cell?_setCell_same _ _ q1_1)); (try (have q2_0 : w1.cell? ⟨w.heap.size + 1 + 1, 0, none⟩ = some (.int .u64 0) := by first | (go_simp; done) | (simp [*]; done))); (try (have r2_0 : ∀ v, (w1.setCell ⟨w.heap.size + 1 + 1, 0, none⟩ v).cell? ⟨w.heap.size + 1 + 1, 0, none⟩ = some v := fun v => by first | exact World.cell?_setCell_same q2_0 | exact World.cell?_setCell_same _ _ _ q2_0 | exact World.cell?_setCell_same _ _ q2_0)); (try (have q2_1 : w1.cell? ⟨w.heap.size + 1 + 1, 1, none⟩ = some (.int .u64 0) := by first | (go_simp; done) | (simp [*]; done))); (try (have r2_1 : ∀ v, (w1.setCell ⟨w.heap.size + 1 + 1, 1, none⟩ v).cell? ⟨w.heap.size + 1 + 1, 1, none⟩ = some v := fun v => by first | exact World.cell?_setCell_same q2_1 | exact World.cell?_setCell_same _ _ _ q2_1 | exact World.cell?_setCell_same _ _ q2_1)); clear hb hz))
        refine bodyPost_ret (v := .agg #[.int .u64 ((a : Int) + 1), .int .u64 b]) (by simp [results, Try.results26, go_sem, *]) rfl ⟨?_, (by (repeat (first | exact HB | exact Below.refl _ _ | apply below_drew | apply below_draws | refine below_set ?_ (by (try dsimp only); omega) _ | apply below_alloc)))⟩
        rw [HE.out] <;> rfl
      · by_cases h4 : b = c
        · have e : wout a b c d = (a, b - 1) := by unfold wout; rw [if_pos ⟨h1, h2⟩, if_neg h3, if_pos h4]
          have HE := Lib.hid e; clear e
          have hw : IntKind.u64.wrap ((b : Int) - 1) = ((b - 1 : Nat) : Int) := by rw [IntKind.wrap_u64]; unfold M at hb; omega
          clear hab hb hr
          have s_cd : decide (c = d) = true := by simp [h1]
          have t_cd : ((c : Int) == (d : Int)) = true := by simp [h1]
          have u_cd : ((c : Int) != (d : Int)) = false := by simp [h1]
          have s_ab : decide (a = b) = false := by simp [h2]
          have t_ab : ((a : Int) == (b : Int)) = false := by simp [h2]; try omega
          have u_ab : ((a : Int) != (b : Int)) = true := by simp [h2]; try omega
          have s_ac : decide (a = c) = false := by simp [h3]
          have t_ac : ((a : Int) == (c : Int)) = false := by simp [h3]; try omega
          have u_ac : ((a : Int) != (c : Int)) = true := by simp [h3]; try omega
          have s_bc : decide (b = c) = true := by simp [h4]
          have t_bc : ((b : Int) == (c : Int)) = true := by simp [h4]
          have u_bc : ((b : Int) != (c : Int)) = false := by simp [h4]
          have H1 := Lib.hid h1; clear h1
          have H2 := Lib.hid h2; clear h2
          have H3 := Lib.hid h3; clear h3
          have H4 := Lib.hid h4; clear h4
          go_enter Try.func26, Try.ntmps26
          go_wp2_with (first | (go_at_call 17; ((with_reducible refine (bsingle_any _ _ _).mono ?_); rintro e w1 ⟨rfl, hb⟩); have HB : Below w.heap.size w w1 := below_then (by (repeat (first | exact HB | exact Below.refl _ _ | apply below_drew | apply below_draws | refine below_set ?_ (by (try dsimp only); omega) _ | apply below_alloc))) hb; obtain ⟨hc, hf⟩ := bcell hb; have hz := hb.size; (try simp at hz); (first | (obtain ⟨y0, y1, y2, y3, y4, y5, y6, y7, y8, y9, y10, y11, _⟩ := up12 hz) | (obtain ⟨y0, y1, y2, y3, y4, y5, y6, y7, y8, y9, y10, _⟩ := up11 hz) | (obtain ⟨y0, y1, y2, y3, y4, y5, y6, y7, y8, y9, _⟩ := up10 hz) | (obtain ⟨y0, y1, y2, y3, y4, y5, y6, y7, y8, _⟩ := up9 hz) | (obtain ⟨y0, y1, y2, y3, y4, y5, y6, y7, _⟩ := up8 hz) | (obtain ⟨y0, y1, y2, y3, y4, y5, y6, _⟩ := up7 hz) | (obtain ⟨y0, y1, y2, y3, y4, y5, _⟩ := up6 hz) | (obtain ⟨y0, y1, y2, y3, y4, _⟩ := up5 hz) | (obtain ⟨y0, y1, y2, y3, _⟩ := up4 hz) | (obtain ⟨y0, y1, y2, _⟩ := up3 hz) | (obtain ⟨y0, y1, _⟩ := up2 hz) | (obtain ⟨y0, _⟩ := up1 hz) | skip); (try (have z0 : w.heap.size < w1.heap.size := by omega)); (try (have z1 : w.heap.size + 1 < w1.heap.size := by omega)); (try (have z2 : w.heap.size + 1 + 1 < w1.heap.size := by omega)); (try (have c0 : ∀ o, w1.cell? ⟨w.heap.size, o, none⟩ = _ := fun o => hc _ o (by first | (simp; done) | (simp; omega) | omega))); (try (have g0 : ∀ o, w1.frozen? ⟨w.heap.size, o, none⟩ = _ := fun o => hf _ o (by first | (simp; done) | (simp; omega) | omega))); (try (have c1 : ∀ o, w1.cell? ⟨w.heap.size + 1, o, none⟩ = _ := fun o => hc _ o (by first | (simp; done) | (simp; omega) | omega))); (try (have g1 : ∀ o, w1.frozen? ⟨w.heap.size + 1, o, none⟩ = _ := fun o => hf _ o (by first | (simp; done) | (simp; omega) | omega))); (try (have c2 : ∀ o, w1.cell? ⟨w.heap.size + 1 + 1, o, none⟩ = _ := fun o => hc _ o (by first | (simp; done) | (simp; omega) | omega))); (try (have g2 : ∀ o, w1.frozen? ⟨w.heap.size + 1 + 1, o, none⟩ = _ := fun o => hf _ o (by first | (simp; done) | (simp; omega) | omega))); (try (have q0_0 : w1.cell? ⟨w.heap.size, 0, none⟩ = some (.int .u64 a) := by first | (go_simp; done) | (simp [*]; done))); (try (have r0_0 : ∀ v, (w1.setCell ⟨w.heap.size, 0, none⟩ v).cell? ⟨w.heap.size, 0, none⟩ = some v := fun v => by first | exact World.cell?_setCell_same q0_0 | exact World.cell?_setCell_same _ _ _ q0_0 | exact World.cell?_setCell_same _ _ q0_0)); (try (have q0_1 : w1.cell? ⟨w.heap.size, 1, none⟩ = some (.int .u64 b) := by first | (go_simp; done) | (simp [*]; done))); (try (have r0_1 : ∀ v, (w1.setCell ⟨w.heap.size, 1, none⟩ v).cell? ⟨w.heap.size, 1, none⟩ = some v := fun v => by first | exact World.cell?_setCell_same q0_1 | exact World.cell?_setCell_same _ _ _ q0_1 | exact World.cell?_setCell_same _ _ q0_1)); (try (have q1_0 : w1.cell? ⟨w.heap.size + 1, 0, none⟩ = some (.int .u64 c) := by first | (go_simp; done) | (simp [*]; done))); (try (have r1_0 : ∀ v, (w1.setCell ⟨w.heap.size + 1, 0, none⟩ v).cell? ⟨w.heap.size + 1, 0, none⟩ = some v := fun v => by first | exact World.cell?_setCell_same q1_0 | exact World.cell?_setCell_same _ _ _ q1_0 | exact World.cell?_setCell_same _ _ q1_0)); (try (have q1_1 : w1.cell? ⟨w.heap.size + 1, 1, none⟩ = some (.int .u64 d) := by first | (go_simp; done) | (simp [*]; done))); (try (have r1_1 : ∀ v, (w1.setCell ⟨w.heap.size + 1, 1, none⟩ v).cell? ⟨w.heap.size + 1, 1, none⟩ = some v := fun v => by first | exact World.cell?_setCell_same q1_1 | exact World.cell?_setCell_same _ _ _ q1_1 | exact World.cell?_setCell_same _ _ q1_1)); (try (have q2_0 : w1.cell? ⟨w.heap.size + 1 + 1, 0, none⟩ = some (.int .u64 0) := by first | (go_simp; done) | (simp [*]; done))); (try (have r2_0 : ∀ v, (w1.setCell ⟨w.heap.size + 1 + 1, 0, none⟩ v).cell? ⟨w.heap.size + 1 + 1, 0, none⟩ = some v := fun v => by first | exact World.cell?_setCell_same q2_0 | exact World.cell?_setCell_same _ _ _ q2_0 | exact World.cell?_setCell_same _ _ q2_0)); (try (have q2_1 : w1.cell? ⟨w.heap.size + 1 + 1, 1, none⟩ = some (.int .u64 0) := by first | (go_simp; done) | (simp [*]; done))); (try (have r2_1 : ∀ v, (w1.setCell ⟨w.heap.size + 1 + 1, 1, none⟩ v).cell? ⟨w.heap.size + 1 + 1, 1, none⟩ = some v := fun v => by first | exact World.cell?_setCell_same q2_1 | exact World.cell?_setCell_same _ _ _ q2_1 | exact World.cell?_setCell_same _ _ q2_1)); clear hb hz))
          refine bodyPost_ret (v := .agg #[.int .u64 a, .int .u64 ((b - 1 : Nat) : Int)]) (by simp [results, Try.results26, go_sem, *]) rfl ⟨?_, (by (repeat (first | exact HB | exact Below.refl _ _ | apply below_drew | apply below_draws | refine below_set ?_ (by (try dsimp only); omega) _ | apply below_alloc)))⟩
          rw [HE.out]
        · have e : wout a b c d = (a, b) := by unfold wout; rw [if_pos ⟨h1, h2⟩, if_neg h3, if_neg h4]
          have HE := Lib.hid e; clear e
          clear hab hb hr
          have s_cd : decide (c = d) = true := by simp [h1]
          have t_cd : ((c : Int) == (d : Int)) = true := by simp [h1]
          have u_cd : ((c : Int) != (d : Int)) = false := by simp [h1]
          have s_ab : decide (a = b) = false := by simp [h2]
          have t_ab : ((a : Int) == (b : Int)) = false := by simp [h2]; try omega
          have u_ab : ((a : Int) != (b : Int)) = true := by simp [h2]; try omega
          have s_ac : decide (a = c) = false := by simp [h3]
          have t_ac : ((a : Int) == (c : Int)) = false := by simp [h3]; try omega
          have u_ac : ((a : Int) != (c : Int)) = true := by simp [h3]; try omega
          have s_bc : decide (b = c) = false := by simp [h4]
          have t_bc : ((b : Int) == (c : Int)) = false := by simp [h4]; try omega
          have u_bc : ((b : Int) != (c : Int)) = true := by simp [h4]; try omega
          have H1 := Lib.hid h1; clear h1
          have H2 := Lib.hid h2; clear h2
          have H3 := Lib.hid h3; clear h3
          have H4 := Lib.hid h4; clear h4
          go_enter Try.func26, Try.ntmps26
          go_wp2_with (first | (go_at_call 17; ((with_reducible refine (bsingle_any _ _ _).mono ?_); rintro e w1 ⟨rfl, hb⟩); have HB : Below w.heap.size w w1 := below_then (by (repeat (first | exact HB | exact Below.refl _ _ | apply below_drew | apply below_draws | refine below_set ?_ (by (try dsimp only); omega) _ | apply below_alloc))) hb; obtain ⟨hc, hf⟩ := bcell hb; have hz := hb.size; (try simp at hz); (first | (obtain ⟨y0, y1, y2, y3, y4, y5, y6, y7, y8, y9, y10, y11, _⟩ := up12 hz) | (obtain ⟨y0, y1, y2, y3, y4, y5, y6, y7, y8, y9, y10, _⟩ := up11 hz) | (obtain ⟨y0, y1, y2, y3, y4, y5, y6, y7, y8, y9, _⟩ := up10 hz) | (obtain ⟨y0, y1, y2, y3, y4, y5, y6, y7, y8, _⟩ := up9 hz) | (obtain ⟨y0, y1, y2, y3, y4, y5, y6, y7, _⟩ := up8 hz) | (obtain ⟨y0, y1, y2, y3, y4, y5, y6, _⟩ := up7 hz) | (obtain ⟨y0, y1, y2, y3, y4, y5, _⟩ := up6 hz) | (obtain ⟨y0, y1, y2, y3, y4, _⟩ := up5 hz) | (obtain ⟨y0, y1, y2, y3, _⟩ := up4 hz) | (obtain ⟨y0, y1, y2, _⟩ := up3 hz) | (obtain ⟨y0, y1, _⟩ := up2 hz) | (obtain ⟨y0, _⟩ := up1 hz) | skip); (try (have z0 : w.heap.size < w1.heap.size := by omega)); (try (have z1 : w.heap.size + 1 < w1.heap.size := by omega)); (try (have z2 : w.heap.size + 1 + 1 < w1.heap.size := by omega)); (try (have c0 : ∀ o, w1.cell? ⟨w.heap.size, o, none⟩ = _ := fun o => hc _ o (by first | (simp; done) | (simp; omega) | omega))); (try (have g0 : ∀ o, w1.frozen? ⟨w.heap.size, o, none⟩ = _ := fun o => hf _ o (by first | (simp; done) | (simp; omega) | omega))); (try (have c1 : ∀ o, w1.cell? ⟨w.heap.size + 1, o, none⟩ = _ := fun o => hc _ o (by first | (simp; done) | (simp; omega) | omega))); (try (have g1 : ∀ o, w1.frozen? ⟨w.heap.size + 1, o, none⟩ = _ := fun o => hf _ o (by first | (simp; done) | (simp; omega) | omega))); (try (have c2 : ∀ o, w1.cell? ⟨w.heap.size + 1 + 1, o, none⟩ = _ := fun o => hc _ o (by first | (simp; done) | (simp; omega) | omega))); (try (have g2 : ∀ o, w1.frozen? ⟨w.heap.size + 1 + 1, o, none⟩ = _ := fun o => hf _ o (by first | (simp; done) | (simp; omega) | omega))); (try (have q0_0 : w1.cell? ⟨w.heap.size, 0, none⟩ = some (.int .u64 a) := by first | (go_simp; done) | (simp [*]; done))); (try (have r0_0 : ∀ v, (w1.setCell ⟨w.heap.size, 0, none⟩ v).cell? ⟨w.heap.size, 0, none⟩ = some v := fun v => by first | exact World.cell?_setCell_same q0_0 | exact World.cell?_setCell_same _ _ _ q0_0 | exact World.cell?_setCell_same _ _ q0_0)); (try (have q0_1 : w1.cell? ⟨w.heap.size, 1, none⟩ = some (.int .u64 b) := by first | (go_simp; done) | (simp [*]; done))); (try (have r0_1 : ∀ v, (w1.setCell ⟨w.heap.size, 1, none⟩ v).cell? ⟨w.heap.size, 1, none⟩ = some v := fun v => by first | exact World.cell?_setCell_same q0_1 | exact World.cell?_setCell_same _ _ _ q0_1 | exact World.cell?_setCell_same _ _ q0_1)); (try (have q1_0 : w1.cell? ⟨w.heap.size + 1, 0, none⟩ = some (.int .u64 c) := by first | (go_simp; done) | (simp [*]; done))); (try (have r1_0 : ∀ v, (w1.setCell ⟨w.heap.size + 1, 0, none⟩ v).cell? ⟨w.heap.size + 1, 0, none⟩ = some v := fun v => by first | exact World.cell?_setCell_same q1_0 | exact World.cell?_setCell_same _ _ _ q1_0 | exact World.cell?_setCell_same _ _ q1_0)); (try (have q1_1 : w1.cell? ⟨w.heap.size + 1, 1, none⟩ = some (.int .u64 d) := by first | (go_simp; done) | (simp [*]; done))); (try (have r1_1 : ∀ v, (w1.setCell ⟨w.heap.size + 1, 1, none⟩ v).cell? ⟨w.heap.size + 1, 1, none⟩ = some v := fun v => by first | exact World.cell?_setCell_same q1_1 | exact World.cell?_setCell_same _ _ _ q1_1 | exact World.cell?_setCell_same _ _ q1_1)); (try (have q2_0 : w1.cell? ⟨w.heap.size + 1 + 1, 0, none⟩ = some (.int .u64 0) := by first | (go_simp; done) | (simp [*]; done))); (try (have r2_0 : ∀ v, (w1.setCell ⟨w.heap.size + 1 + 1, 0, none⟩ v).cell? ⟨w.heap.size + 1 + 1, 0, none⟩ = some v := fun v => by first | exact World.cell?_setCell_same q2_0 | exact World.cell?_setCell_same _ _ _ q2_0 | exact World.cell?_setCell_same _ _ q2_0)); (try (have q2_1 : w1.cell? ⟨w.heap.size + 1 + 1, 1, none⟩ = some (.int .u64 0) := by first | (go_simp; done) | (simp [*]; done))); (try (have r2_1 : ∀ v, (w1.setCell ⟨w.heap.size + 1 + 1, 1, none⟩ v).cell? ⟨w.heap.size + 1 + 1, 1, none⟩ = some v := fun v => by first | exact World.cell?_setCell_same q2_1 | exact World.cell?_setCell_same _ _ _ q2_1 | exact World.cell?_setCell_same _ _ q2_1)); clear hb hz))
          refine bodyPost_ret (v := .agg #[.int .u64 a, .int .u64 b]) (by simp [results, Try.results26, go_sem, *]) rfl ⟨?_, (by (repeat (first | exact HB | exact Below.refl _ _ | apply below_drew | apply below_draws | refine below_set ?_ (by (try dsimp only); omega) _ | apply below_alloc)))⟩
          rw [HE.out]
  · have e : wout a b c d = (a, b) := by unfold wout; rw [if_neg (fun h => h1 h.1)]
    have HE := Lib.hid e; clear e
    clear hab hb hr
    have s_cd : decide (c = d) = false := by simp [h1]
    have t_cd : ((c : Int) == (d : Int)) = false := by simp [h1]; try omega
    have u_cd : ((c : Int) != (d : Int)) = true := by simp [h1]; try omega
    have H1 := Lib.hid h1; clear h1
    go_enter Try.func26, Try.ntmps26
    go_wp2_with (first | (go_at_call 17; ((with_reducible refine (bsingle_any _ _ _).mono ?_); rintro e w1 ⟨rfl, hb⟩); have HB : Below w.heap.size w w1 := below_then (by (repeat (first | exact HB | exact Below.refl _ _ | apply below_drew | apply below_draws | refine below_set ?_ (by (try dsimp only); omega) _ | apply below_alloc))) hb; obtain ⟨hc, hf⟩ := bcell hb; have hz := hb.size; (try simp at hz); (first | (obtain ⟨y0, y1, y2, y3, y4, y5, y6, y7, y8, y9, y10, y11, _⟩ := up12 hz) | (obtain ⟨y0, y1, y2, y3, y4, y5, y6, y7, y8, y9, y10, _⟩ := up11 hz) | (obtain ⟨y0, y1, y2, y3, y4, y5, y6, y7, y8, y9, _⟩ := up10 hz) | (obtain ⟨y0, y1, y2, y3, y4, y5, y6, y7, y8, _⟩ := up9 hz) | (obtain ⟨y0, y1, y2, y3, y4, y5, y6, y7, _⟩ := up8 hz) | (obtain ⟨y0, y1, y2, y3, y4, y5, y6, _⟩ := up7 hz) | (obtain ⟨y0, y1, y2, y3, y4, y5, _⟩ := up6 hz) | (obtain ⟨y0, y1, y2, y3, y4, _⟩ := up5 hz) | (obtain ⟨y0, y1, y2, y3, _⟩ := up4 hz) | (obtain ⟨y0, y1, y2, _⟩ := up3 hz) | (obtain ⟨y0, y1, _⟩ := up2 hz) | (obtain ⟨y0, _⟩ := up1 hz) | skip); (try (have z0 : w.heap.size < w1.heap.size := by omega)); (try (have z1 : w.heap.size + 1 < w1.heap.size := by omega)); (try (have z2 : w.heap.size + 1 + 1 < w1.heap.size := by omega)); (try (have c0 : ∀ o, w1.cell? ⟨w.heap.size, o, none⟩ = _ := fun o => hc _ o (by first | (simp; done) | (simp; omega) | omega))); (try (have g0 : ∀ o, w1.frozen? ⟨w.heap.size, o, none⟩ = _ := fun o => hf _ o (by first | (simp; done) | (simp; omega) | omega))); (try (have c1 : ∀ o, w1.cell? ⟨w.heap.size + 1, o, none⟩ = _ := fun o => hc _ o (by first | (simp; done) | (simp; omega) | omega))); (try (have g1 : ∀ o, w1.frozen? ⟨w.heap.size + 1, o, none⟩ = _ := fun o => hf _ o (by first | (simp; done) | (simp; omega) | omega))); (try (have c2 : ∀ o, w1.cell? ⟨w.heap.size + 1 + 1, o, none⟩ = _ := fun o => hc _ o (by first | (simp; done) | (simp; omega) | omega))); (try (have g2 : ∀ o, w1.frozen? ⟨w.heap.size + 1 + 1, o, none⟩ = _ := fun o => hf _ o (by first | (simp; done) | (simp; omega) | omega))); (try (have q0_0 : w1.cell? ⟨w.heap.size, 0, none⟩ = some (.int .u64 a) := by first | (go_simp; done) | (simp [*]; done))); (try (have r0_0 : ∀ v, (w1.setCell ⟨w.heap.size, 0, none⟩ v).cell? ⟨w.heap.size, 0, none⟩ = some v := fun v => by first | exact World.cell?_setCell_same q0_0 | exact World.cell?_setCell_same _ _ _ q0_0 | exact World.cell?_setCell_same _ _ q0_0)); (try (have q0_1 : w1.cell? ⟨w.heap.size, 1, none⟩ = some (.int .u64 b) := by first | (go_simp; done) | (simp [*]; done))); (try (have r0_1 : ∀ v, (w1.setCell ⟨w.heap.size, 1, none⟩ v).cell? ⟨w.heap.size, 1, none⟩ = some v := fun v => by first | exact World.cell?_setCell_same q0_1 | exact World.cell?_setCell_same _ _ _ q0_1 | exact World.cell?_setCell_same _ _ q0_1)); (try (have q1_0 : w1.cell? ⟨w.heap.size + 1, 0, none⟩ = some (.int .u64 c) := by first | (go_simp; done) | (simp [*]; done))); (try (have r1_0 : ∀ v, (w1.setCell ⟨w.heap.size + 1, 0, none⟩ v).cell? ⟨w.heap.size + 1, 0, none⟩ = some v := fun v => by first | exact World.cell?_setCell_same q1_0 | exact World.cell?_setCell_same _ _ _ q1_0 | exact World.cell?_setCell_same _ _ q1_0)); (try (have q1_1 : w1.cell? ⟨w.heap.size + 1, 1, none⟩ = some (.int .u64 d) := by first | (go_simp; done) | (simp [*]; done))); (try (have r1_1 : ∀ v, (w1.setCell ⟨w.heap.size + 1, 1, none⟩ v).cell? ⟨w.heap.size + 1, 1, none⟩ = some v := fun v => by first | exact World.cell?_setCell_same q1_1 | exact World.cell?_setCell_same _ _ _ q1_1 | exact World.cell?_setCell_same _ _ q1_1)); (try (have q2_0 : w1.cell? ⟨w.heap.size + 1 + 1, 0, none⟩ = some (.int .u64 0) := by first | (go_simp; done) | (simp [*]; done))); (try (have r2_0 : ∀ v, (w1.setCell ⟨w.heap.size + 1 + 1, 0, none⟩ v).cell? ⟨w.heap.size + 1 + 1, 0, none⟩ = some v := fun v => by first | exact World.cell?_setCell_same q2_0 | exact World.cell?_setCell_same _ _ _ q2_0 | exact World.cell?_setCell_same _ _ q2_0)); (try (have q2_1 : w1.cell? ⟨w.heap.size + 1 + 1, 1, none⟩ = some (.int .u64 0) := by first | (go_simp; done) | (simp [*]; done))); (try (have r2_1 : ∀ v, (w1.setCell ⟨w.heap.size + 1 + 1, 1, none⟩ v).cell? ⟨w.heap.size + 1 + 1, 1, none⟩ = some v := fun v => by first | exact World.cell?_setCell_same q2_1 | exact World.cell?_setCell_same _ _ _ q2_1 | exact World.cell?_setCell_same _ _ q2_1)); clear hb hz))
    refine bodyPost_ret (v := .agg #[.int .u64 a, .int .u64 b]) (by simp [results, Try.results26, go_sem, *]) rfl ⟨?_, (by (repeat (first | exact HB | exact Below.refl _ _ | apply below_drew | apply below_draws | refine below_set ?_ (by (try dsimp only); omega) _ | apply below_alloc)))⟩
    rw [HE.out]

set_option maxHeartbeats 2000000 in
theorem ends_any (a b c d : Nat) (hab : a ≤ b) (hb : b < M) (w : World) :
    Calls Try.prog 24 #[.agg #[.int .u64 a, .int .u64 b], .agg #[.int .u64 c, .int .u64 d]] w fun e w' => e = .returned (.agg #[.int .u64 ((wout a b c d).1 : Nat), .int .u64 ((wout a b c d).2 : Nat)]) ∧ Below w.heap.size w w' := by
  obtain ⟨r, hr⟩ : ∃ r, wout a b c d = r := ⟨_, rfl⟩
  by_cases h1 : c = d
  · by_cases h2 : a = b
    · have e : wout a b c d = (a, b) := by unfold wout; rw [if_neg (fun h => h.2 h2)]
      have HE := Lib.hid e; clear e
      clear hab hb hr
      have s_cd : decide (c = d) = true := by simp [h1]
      have t_cd : ((c : Int) == (d : Int)) = true := by simp [h1]
      have u_cd : ((c : Int) != (d : Int)) = false := by simp [h1]
      have s_ab : decide (a = b) = true := by simp [h2]
      have t_ab : ((a : Int) == (b : Int)) = true := by simp [h2]
      have u_ab : ((a : Int) != (b : Int)) = false := by simp [h2]
      have H1 := Lib.hid h1; clear h1
      have H2 := Lib.hid h2; clear h2
      go_enter Try.func24, Try.ntmps24
      go_wp2
      refine bodyPost_ret (v := .agg #[.int .u64 a, .int .u64 b]) (by simp [results, Try.results24, go_sem, *]) rfl ⟨?_, (by (repeat (first | exact HB | exact Below.refl _ _ | apply below_drew | apply below_draws | refine below_set ?_ (by (try dsimp only); omega) _ | apply below_alloc)))⟩
      rw [HE.out]
    · by_cases h3 : a = c
      · have e : wout a b c d = (a + 1, b) := by unfold wout; rw [if_pos ⟨h1, h2⟩, if_pos h3]
        have HE := Lib.hid e; clear e
        have hw : IntKind.u64.wrap ((a : Int) + 1) = (a : Int) + 1 := by rw [IntKind.wrap_u64]; unfold M at hb; omega
        clear hab hb hr
        have s_cd : decide (c = d) = true := by simp [h1]
        have t_cd : ((c : Int) == (d : Int)) = true := by simp [h1]
        have u_cd : ((c : Int) != (d : Int)) = false := by simp [h1]
        have s_ab : decide (a = b) = false := by simp [h2]
        have t_ab : ((a : Int) == (b : Int)) = false := by simp [h2]; try omega
        have u_ab : ((a : Int) != (b : Int)) = true := by simp [h2]; try omega
        have s_ac : decide (a = c) = true := by simp [h3]
        have t_ac : ((a : Int) == (c : Int)) = true := by simp [h3]
        have u_ac : ((a : Int) != (c : Int)) = false := by simp [h3]
        have H1 := Lib.hid h1; clear h1
        have H2 := Lib.hid h2; clear h2
        have H3 := Lib.hid h3; clear h3
        go_enter Try.func24, Try.ntmps24
        go_wp2
        refine bodyPost_ret (v := .agg #[.int .u64 ((a : Int) + 1), .int .u64 b]) (by simp [results, Try.results24, go_sem, *]) rfl ⟨?_, (by (repeat (first | exact HB | exact Below.refl _ _ | apply below_drew | apply below_draws | refine below_set ?_ (by (try dsimp only); omega) _ | apply below_alloc)))⟩
        rw [HE.out] <;> rfl
      · by_cases h4 : b = c
        · have e : wout a b c d = (a, b - 1) := by unfold wout; rw [if_pos ⟨h1, h2⟩, if_neg h3, if_pos h4]
          have HE := Lib.hid e; clear e
          have hw : IntKind.u64.wrap ((b : Int) - 1) = ((b - 1 : Nat) : Int) := by rw [IntKind.wrap_u64]; unfold M at hb; omega
          clear hab hb hr
          have s_cd : decide (c = d) = true := by simp [h1]
          have t_cd : ((c : Int) == (d : Int)) = true := by simp [h1]
          have u_cd : ((c : Int) != (d : Int)) = false := by simp [h1]
          have s_ab : decide (a = b) = false := by simp [h2]
          have t_ab : ((a : Int) == (b : Int)) = false := by simp [h2]; try omega
          have u_ab : ((a : Int) != (b : Int)) = true := by simp [h2]; try omega
          have s_ac : decide (a = c) = false := by simp [h3]
          have t_ac : ((a : Int) == (c : Int)) = false := by simp [h3]; try omega
          have u_ac : ((a : Int) != (c : Int)) = true := by simp [h3]; try omega
          have s_bc : decide (b = c) = true := by simp [h4]
          have t_bc : ((b : Int) == (c : Int)) = true := by simp [h4]
          have u_bc : ((b : Int) != (c : Int)) = false := by simp [h4]
          have H1 := Lib.hid h1; clear h1
          have H2 := Lib.hid h2; clear h2
          have H3 := Lib.hid h3; clear h3
          have H4 := Lib.hid h4; clear h4
          go_enter Try.func24, Try.ntmps24
          go_wp2
          refine bodyPost_ret (v := .agg #[.int .u64 a, .int .u64 ((b - 1 : Nat) : Int)]) (by simp [results, Try.results24, go_sem, *]) rfl ⟨?_, (by (repeat (first | exact HB | exact Below.refl _ _ | apply below_drew | apply below_draws | refine below_set ?_ (by (try dsimp only); omega) _ | apply below_alloc)))⟩
          rw [HE.out]
        · have e : wout a b c d = (a, b) := by unfold wout; rw [if_pos ⟨h1, h2⟩, if_neg h3, if_neg h4]
          have HE := Lib.hid e; clear e
          clear hab hb hr
          have s_cd : decide (c = d) = true := by simp [h1]
          have t_cd : ((c : Int) == (d : Int)) = true := by simp [h1]
          have u_cd : ((c : Int) != (d : Int)) = false := by simp [h1]
          have s_ab : decide (a = b) = false := by simp [h2]
          have t_ab : ((a : Int) == (b : Int)) = false := by simp [h2]; try omega
          have u_ab : ((a : Int) != (b : Int)) = true := by simp [h2]; try omega
          have s_ac : decide (a = c) = false := by simp [h3]
          have t_ac : ((a : Int) == (c : Int)) = false := by simp [h3]; try omega
          have u_ac : ((a : Int) != (c : Int)) = true := by simp [h3]; try omega
          have s_bc : decide (b = c) = false := by simp [h4]
          have t_bc : ((b : Int) == (c : Int)) = false := by simp [h4]; try omega
          have u_bc : ((b : Int) != (c : Int)) = true := by simp [h4]; try omega
          have H1 := Lib.hid h1; clear h1
          have H2 := Lib.hid h2; clear h2
          have H3 := Lib.hid h3; clear h3
          have H4 := Lib.hid h4; clear h4
          go_enter Try.func24, Try.ntmps24
          go_wp2
          refine bodyPost_ret (v := .agg #[.int .u64 a, .int .u64 b]) (by simp [results, Try.results24, go_sem, *]) rfl ⟨?_, (by (repeat (first | exact HB | exact Below.refl _ _ | apply below_drew | apply below_draws | refine below_set ?_ (by (try dsimp only); omega) _ | apply below_alloc)))⟩
          rw [HE.out]
  · have e : wout a b c d = (a, b) := by unfold wout; rw [if_neg (fun h => h1 h.1)]
    have HE := Lib.hid e; clear e
    clear hab hb hr
    have s_cd : decide (c = d) = false := by simp [h1]
    have t_cd : ((c : Int) == (d : Int)) = false := by simp [h1]; try omega
    have u_cd : ((c : Int) != (d : Int)) = true := by simp [h1]; try omega
    have H1 := Lib.hid h1; clear h1
    go_enter Try.func24, Try.ntmps24
    go_wp2
    refine bodyPost_ret (v := .agg #[.int .u64 a, .int .u64 b]) (by simp [results, Try.results24, go_sem, *]) rfl ⟨?_, (by (repeat (first | exact HB | exact Below.refl _ _ | apply below_drew | apply below_draws | refine below_set ?_ (by (try dsimp only); omega) _ | apply below_alloc)))⟩
    rw [HE.out]

end Go.Proofs.Ythhohiafhjhjhaa
