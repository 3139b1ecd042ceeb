
/- The walks of package branch's inner function where. -/
import Derived.Test.YthhohiafhjhjhaaBranchW2
namespace Go.Proofs.Ythhohiafhjhjhaa
open Go.RowKit
set_option linter.unusedVariables false
set_option linter.unusedSimpArgs false

set_option maxRecDepth 100000 in
set_option maxHeartbeats 4000000 in
theorem where_2 (a b c d : Nat) (hab : a ≤ b) (hcd : c ≤ d) (hb : b < M) (hd : d < M) (R : Br) (hR : brWhere 2 a b c d = R) (w : World) :
    Calls Try.prog 19 #[.int .i64 2, .agg #[.int .u64 a, .int .u64 b], .agg #[.int .u64 c, .int .u64 d]] w fun e w' => e = .returned (.tuple #[.agg #[.int .u64 (R.a : Nat), .int .u64 (R.b : Nat)], .agg #[.int .u64 (R.c : Nat), .int .u64 (R.d : Nat)], .bool R.can]) ∧ Below w.heap.size w w' := by
  obtain rfl : R = ⟨(wout a b c d).1, (wout a b c d).2, (wout c d a b).1, (wout c d a b).2, true⟩ := by rw [← hR]; rfl
  clear hR
  have C1 := without_any a b c d hab hb
  have C2 := without_any c d a b hcd hd
  obtain ⟨r1, e1⟩ : ∃ r1, wout a b c d = r1 := ⟨_, rfl⟩
  obtain ⟨r2, e2⟩ : ∃ r2, wout c d a b = r2 := ⟨_, rfl⟩
  rw [e1] at C1 ⊢
  rw [e2] at C2 ⊢
  clear e1 e2 hab hcd hb hd
  have hmm := @run_makeMap Try.prog
  have m1 := map_one
  have m2 := map_two
  have m3 := map_look
  have tk : turnedV 2 = 0 := rfl
  have n0_2 : ¬ w.heap.size = w.heap.size + 1 + 1 := by omega
  have n2_0 : ¬ w.heap.size + 1 + 1 = w.heap.size := by omega
  have n0_3 : ¬ w.heap.size = w.heap.size + 1 + 1 + 1 := by omega
  have n3_0 : ¬ w.heap.size + 1 + 1 + 1 = w.heap.size := by omega
  have n1_3 : ¬ w.heap.size + 1 = w.heap.size + 1 + 1 + 1 := by omega
  have n3_1 : ¬ w.heap.size + 1 + 1 + 1 = w.heap.size + 1 := by omega
  go_enter Try.func19, Try.ntmps19
  go_wp2
  clear hmm m1 m2 m3
  go_region_held3? (fun w' => w'.cell? ⟨w.heap.size, 0, none⟩ = some (.int .u64 a) ∧ w'.cell? ⟨w.heap.size, 1, none⟩ = some (.int .u64 b) ∧ w'.cell? ⟨w.heap.size + 1, 0, none⟩ = some (.int .u64 c) ∧ w'.cell? ⟨w.heap.size + 1, 1, none⟩ = some (.int .u64 d)) (simp (maxDischargeDepth := 16) [*, World.cell?_alloc_some, World.cell?_setCell_far]) (first | (go_at_call 26; refine (C1 _).mono ?_; rintro e w1 ⟨rfl, hb⟩; have HB : Below w.heap.size w w1 := below_then (by (repeat (first | exact HB | exact Below.refl _ _ | apply below_drew | apply below_draws | refine below_set ?_ (by (try dsimp only); omega) _ | apply below_alloc))) hb; obtain ⟨hc, hf⟩ := bcell hb; have hz := hb.size; (try simp at hz); (have z1_0 : w.heap.size < w1.heap.size := by omega); have c1_0 : ∀ o, w1.cell? ⟨w.heap.size, o, none⟩ = _ := fun o => hc _ o (by first | (simp; done) | (simp; omega) | omega); have g1_0 : ∀ o, w1.frozen? ⟨w.heap.size, o, none⟩ = _ := fun o => hf _ o (by first | (simp; done) | (simp; omega) | omega); (have z1_1 : w.heap.size + 1 < w1.heap.size := by omega); have c1_1 : ∀ o, w1.cell? ⟨w.heap.size + 1, o, none⟩ = _ := fun o => hc _ o (by first | (simp; done) | (simp; omega) | omega); have g1_1 : ∀ o, w1.frozen? ⟨w.heap.size + 1, o, none⟩ = _ := fun o => hf _ o (by first | (simp; done) | (simp; omega) | omega); (have z1_2 : w.heap.size + 1 + 1 < w1.heap.size := by omega); have c1_2 : ∀ o, w1.cell? ⟨w.heap.size + 1 + 1, o, none⟩ = _ := fun o => hc _ o (by first | (simp; done) | (simp; omega) | omega); have g1_2 : ∀ o, w1.frozen? ⟨w.heap.size + 1 + 1, o, none⟩ = _ := fun o => hf _ o (by first | (simp; done) | (simp; omega) | omega); (have z1_3 : w.heap.size + 1 + 1 + 1 < w1.heap.size := by omega); have c1_3 : ∀ o, w1.cell? ⟨w.heap.size + 1 + 1 + 1, o, none⟩ = _ := fun o => hc _ o (by first | (simp; done) | (simp; omega) | omega); have g1_3 : ∀ o, w1.frozen? ⟨w.heap.size + 1 + 1 + 1, o, none⟩ = _ := fun o => hf _ o (by first | (simp; done) | (simp; omega) | omega); clear hb hz hc hf; clear C1) | (go_at_call 26; refine (C2 _).mono ?_; rintro e w2 ⟨rfl, hb⟩; have HB : Below w.heap.size w w2 := below_then (by (repeat (first | exact HB | exact Below.refl _ _ | apply below_drew | apply below_draws | refine below_set ?_ (by (try dsimp only); omega) _ | apply below_alloc))) hb; obtain ⟨hc, hf⟩ := bcell hb; have hz := hb.size; (try simp at hz); (have z2_0 : w.heap.size < w2.heap.size := by omega); have c2_0 : ∀ o, w2.cell? ⟨w.heap.size, o, none⟩ = _ := fun o => hc _ o (by first | (simp; done) | (simp; omega) | omega); have g2_0 : ∀ o, w2.frozen? ⟨w.heap.size, o, none⟩ = _ := fun o => hf _ o (by first | (simp; done) | (simp; omega) | omega); (have z2_1 : w.heap.size + 1 < w2.heap.size := by omega); have c2_1 : ∀ o, w2.cell? ⟨w.heap.size + 1, o, none⟩ = _ := fun o => hc _ o (by first | (simp; done) | (simp; omega) | omega); have g2_1 : ∀ o, w2.frozen? ⟨w.heap.size + 1, o, none⟩ = _ := fun o => hf _ o (by first | (simp; done) | (simp; omega) | omega); (have z2_2 : w.heap.size + 1 + 1 < w2.heap.size := by omega); have c2_2 : ∀ o, w2.cell? ⟨w.heap.size + 1 + 1, o, none⟩ = _ := fun o => hc _ o (by first | (simp; done) | (simp; omega) | omega); have g2_2 : ∀ o, w2.frozen? ⟨w.heap.size + 1 + 1, o, none⟩ = _ := fun o => hf _ o (by first | (simp; done) | (simp; omega) | omega); (have z2_3 : w.heap.size + 1 + 1 + 1 < w2.heap.size := by omega); have c2_3 : ∀ o, w2.cell? ⟨w.heap.size + 1 + 1 + 1, o, none⟩ = _ := fun o => hc _ o (by first | (simp; done) | (simp; omega) | omega); have g2_3 : ∀ o, w2.frozen? ⟨w.heap.size + 1 + 1 + 1, o, none⟩ = _ := fun o => hf _ o (by first | (simp; done) | (simp; omega) | omega); clear hb hz hc hf))
  all_goals
    go_wp2
  all_goals
    refine bodyPost_ret (v := .tuple #[.agg #[.int .u64 (r1.1 : Nat), .int .u64 (r1.2 : Nat)], .agg #[.int .u64 (r2.1 : Nat), .int .u64 (r2.2 : Nat)], .bool true]) (by simp [results, Try.results19, go_sem, *]) rfl ⟨?_, (by (repeat (first | exact HB | exact Below.refl _ _ | apply below_drew | apply below_draws | refine below_set ?_ (by (try dsimp only); omega) _ | apply below_alloc)))⟩
    rfl

end Go.Proofs.Ythhohiafhjhjhaa
