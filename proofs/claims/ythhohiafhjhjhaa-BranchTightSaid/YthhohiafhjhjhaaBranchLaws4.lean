
/- The walk of chapter 9's statement BranchTight. -/
import Derived.Test.YthhohiafhjhjhaaBranchLaws1
namespace Go.Proofs.Ythhohiafhjhjhaa
open Go.RowKit
set_option linter.unusedVariables false
set_option linter.unusedSimpArgs false

set_option maxRecDepth 100000 in
set_option maxHeartbeats 4000000 in
theorem tight_no (k o a b c d r s t u : Nat) (h z : Bool) (E : Int) (hE : (E = 1) ∨ (E = 0 ∧ z = false)) (hki : (k : Int) % 6 = (o : Int)) (C1 : ∀ w : World, Calls Try.prog 10 #[.int .i64 (1 + (o : Int)), .agg #[.int .u64 a, .int .u64 b], .agg #[.int .u64 c, .int .u64 d], .bool h] w fun e w' => e = .returned (.tuple #[.agg #[.int .u64 r, .int .u64 s], .agg #[.int .u64 t, .int .u64 u], .bool z, .int .i64 E]) ∧ Below w.heap.size w w') (w : World) :
    Calls Try.prog 4 #[.int .u8 k, .agg #[.int .u64 a, .int .u64 b], .agg #[.int .u64 c, .int .u64 d], .bool h] w fun e w' => e = .returned (.bool true) ∧ Below w.heap.size w w' := by
  rcases hE with rfl | ⟨rfl, rfl⟩
  all_goals
    go_enter Try.func4, Try.ntmps4
    go_wp2_with (first | (go_at_call 9; ((with_reducible refine (shown_any _).mono ?_); rintro e w1 ⟨rfl, hb⟩); have HB : Below w.heap.size w w1 := below_then (by (repeat (first | exact HB | exact Below.refl _ _ | apply below_drew | apply below_draws | refine below_set ?_ (by (try dsimp only); omega) _ | apply below_alloc))) hb; obtain ⟨hc, hf⟩ := bcell hb; have hz := hb.size; (try simp at hz); (have z1_0 : w.heap.size < w1.heap.size := by omega); have c1_0 : ∀ o, w1.cell? ⟨w.heap.size, o, none⟩ = _ := fun o => hc _ o (by first | (simp; done) | (simp; omega) | omega); have g1_0 : ∀ o, w1.frozen? ⟨w.heap.size, o, none⟩ = _ := fun o => hf _ o (by first | (simp; done) | (simp; omega) | omega); (have z1_1 : w.heap.size + 1 < w1.heap.size := by omega); have c1_1 : ∀ o, w1.cell? ⟨w.heap.size + 1, o, none⟩ = _ := fun o => hc _ o (by first | (simp; done) | (simp; omega) | omega); have g1_1 : ∀ o, w1.frozen? ⟨w.heap.size + 1, o, none⟩ = _ := fun o => hf _ o (by first | (simp; done) | (simp; omega) | omega); clear hb hz hc hf) | (go_at_call 10; ((with_reducible refine (C1 _).mono ?_); rintro e w2 ⟨rfl, hb⟩); have HB : Below w.heap.size w w2 := below_then (by (repeat (first | exact HB | exact Below.refl _ _ | apply below_drew | apply below_draws | refine below_set ?_ (by (try dsimp only); omega) _ | apply below_alloc))) hb; obtain ⟨hc, hf⟩ := bcell hb; have hz := hb.size; (try simp at hz); (have z2_0 : w.heap.size < w2.heap.size := by omega); have c2_0 : ∀ o, w2.cell? ⟨w.heap.size, o, none⟩ = _ := fun o => hc _ o (by first | (simp; done) | (simp; omega) | omega); have g2_0 : ∀ o, w2.frozen? ⟨w.heap.size, o, none⟩ = _ := fun o => hf _ o (by first | (simp; done) | (simp; omega) | omega); (have z2_1 : w.heap.size + 1 < w2.heap.size := by omega); have c2_1 : ∀ o, w2.cell? ⟨w.heap.size + 1, o, none⟩ = _ := fun o => hc _ o (by first | (simp; done) | (simp; omega) | omega); have g2_1 : ∀ o, w2.frozen? ⟨w.heap.size + 1, o, none⟩ = _ := fun o => hf _ o (by first | (simp; done) | (simp; omega) | omega); clear hb hz hc hf))
    go_ret
    exact ⟨rfl, (by (repeat (first | exact HB | exact Below.refl _ _ | apply below_drew | apply below_draws | refine below_set ?_ (by (try dsimp only); omega) _ | apply below_alloc)))⟩

def tF (q0 q1 q2 q3 h : Bool) (n : Nat) : Bool := if n = 0 then false else if n = 1 then (q0 == h) else if n = 2 then ((q0 == h) || (q1 == h)) else if n = 3 then ((q0 == h) || (q1 == h) || (q2 == h)) else ((q0 == h) || (q1 == h) || (q2 == h) || (q3 == h))
theorem tF_or (x y z : Bool) (hx : x = (y || z)) (hy : y = true) : x = true := by subst hy; simpa using hx

set_option maxRecDepth 100000 in
set_option maxHeartbeats 4000000 in
theorem tight_yes (k o a b c d r s t u : Nat) (h : Bool) (hki : (k : Int) % 6 = (o : Int)) (C1 : ∀ w : World, Calls Try.prog 10 #[.int .i64 (1 + (o : Int)), .agg #[.int .u64 a, .int .u64 b], .agg #[.int .u64 c, .int .u64 d], .bool h] w fun e w' => e = .returned (.tuple #[.agg #[.int .u64 r, .int .u64 s], .agg #[.int .u64 t, .int .u64 u], .bool true, .int .i64 0]) ∧ Below w.heap.size w w') (q0 q1 q2 q3 : Bool) (A0 : ∀ w : World, Calls Try.prog 12 #[.int .i64 (1 + (o : Int)), .int .u64 r, .int .u64 t] w fun e w' => e = .returned (.tuple #[.bool q0, .int .i64 0]) ∧ w = w') (A1 : ∀ w : World, Calls Try.prog 12 #[.int .i64 (1 + (o : Int)), .int .u64 s, .int .u64 t] w fun e w' => e = .returned (.tuple #[.bool q1, .int .i64 0]) ∧ w = w') (A2 : ∀ w : World, Calls Try.prog 12 #[.int .i64 (1 + (o : Int)), .int .u64 r, .int .u64 u] w fun e w' => e = .returned (.tuple #[.bool q2, .int .i64 0]) ∧ w = w') (A3 : ∀ w : World, Calls Try.prog 12 #[.int .i64 (1 + (o : Int)), .int .u64 s, .int .u64 u] w fun e w' => e = .returned (.tuple #[.bool q3, .int .i64 0]) ∧ w = w') (hq : tF q0 q1 q2 q3 h 4 = true) (w : World) :
    Calls Try.prog 4 #[.int .u8 k, .agg #[.int .u64 a, .int .u64 b], .agg #[.int .u64 c, .int .u64 d], .bool h] w fun e w' => e = .returned (.bool true) ∧ Below w.heap.size w w' := by
  go_enter Try.func4, Try.ntmps4
  go_upto_region 6 with (first | (go_at_call 9; ((with_reducible refine (shown_any _).mono ?_); rintro e w1 ⟨rfl, hb⟩); have HB : Below w.heap.size w w1 := below_then (by (repeat (first | exact HB | exact Below.refl _ _ | apply below_drew | apply below_draws | refine below_set ?_ (by (try dsimp only); omega) _ | apply below_alloc))) hb; obtain ⟨hc, hf⟩ := bcell hb; have hz := hb.size; (try simp at hz); (have z1_0 : w.heap.size < w1.heap.size := by omega); have c1_0 : ∀ o, w1.cell? ⟨w.heap.size, o, none⟩ = _ := fun o => hc _ o (by first | (simp; done) | (simp; omega) | omega); have g1_0 : ∀ o, w1.frozen? ⟨w.heap.size, o, none⟩ = _ := fun o => hf _ o (by first | (simp; done) | (simp; omega) | omega); (have z1_1 : w.heap.size + 1 < w1.heap.size := by omega); have c1_1 : ∀ o, w1.cell? ⟨w.heap.size + 1, o, none⟩ = _ := fun o => hc _ o (by first | (simp; done) | (simp; omega) | omega); have g1_1 : ∀ o, w1.frozen? ⟨w.heap.size + 1, o, none⟩ = _ := fun o => hf _ o (by first | (simp; done) | (simp; omega) | omega); clear hb hz hc hf) | (go_at_call 10; ((with_reducible refine (C1 _).mono ?_); rintro e w2 ⟨rfl, hb⟩); have HB : Below w.heap.size w w2 := below_then (by (repeat (first | exact HB | exact Below.refl _ _ | apply below_drew | apply below_draws | refine below_set ?_ (by (try dsimp only); omega) _ | apply below_alloc))) hb; obtain ⟨hc, hf⟩ := bcell hb; have hz := hb.size; (try simp at hz); (have z2_0 : w.heap.size < w2.heap.size := by omega); have c2_0 : ∀ o, w2.cell? ⟨w.heap.size, o, none⟩ = _ := fun o => hc _ o (by first | (simp; done) | (simp; omega) | omega); have g2_0 : ∀ o, w2.frozen? ⟨w.heap.size, o, none⟩ = _ := fun o => hf _ o (by first | (simp; done) | (simp; omega) | omega); (have z2_1 : w.heap.size + 1 < w2.heap.size := by omega); have c2_1 : ∀ o, w2.cell? ⟨w.heap.size + 1, o, none⟩ = _ := fun o => hc _ o (by first | (simp; done) | (simp; omega) | omega); have g2_1 : ∀ o, w2.frozen? ⟨w.heap.size + 1, o, none⟩ = _ := fun o => hf _ o (by first | (simp; done) | (simp; omega) | omega); clear hb hz hc hf))
  refine named (P := fun W => Code.wp _ _ _ _ W) (fun W => Two W (w2.heap.size) (.int .u64 r) (.int .u64 s) ∧ Two W (w2.heap.size + 1) (.int .u64 t) (.int .u64 u) ∧ w2.heap.size + 1 < W.heap.size ∧ Below w.heap.size w W) ⟨⟨(by first | assumption | (go_simp; done) | (simp (maxDischargeDepth := 16) [*]; done)), (by first | assumption | (go_simp; done) | (simp (maxDischargeDepth := 16) [*]; done))⟩, ⟨(by first | assumption | (go_simp; done) | (simp (maxDischargeDepth := 16) [*]; done)), (by first | assumption | (go_simp; done) | (simp (maxDischargeDepth := 16) [*]; done))⟩, (by first | omega | (simp; done) | (simp; omega)), (by (repeat (first | exact HB | exact Below.refl _ _ | apply below_drew | apply below_draws | refine below_set ?_ (by (try dsimp only); omega) _ | apply below_alloc)))⟩ ?_
  rintro W ⟨⟨o00, o01⟩, ⟨o10, o11⟩, y0, HB⟩
  have HQ := Lib.hid hq; clear hq
  clear C1
  go_wp2
  go_loop [15, 16] (fun v i => ∃ n : Nat, n ≤ 4 ∧ i = .int .i64 n ∧ v = .bool (tF q0 q1 q2 q3 h n)) (fun _ i => 4 - (intOf i).toNat)
  case atStart => exact ⟨0, by omega, rfl, rfl⟩
  case round =>
    obtain ⟨n, hn, rfl, rfl⟩ := hrel
    have hc : n = 0 ∨ n = 1 ∨ n = 2 ∨ n = 3 ∨ n = 4 := by omega
    rcases hc with rfl | rfl | rfl | rfl | rfl
    · have HS : tF q0 q1 q2 q3 h 1 = (tF q0 q1 q2 q3 h 0 || (q0 == h)) := by simp [tF]
      obtain ⟨g, hg⟩ : ∃ g, tF q0 q1 q2 q3 h 0 = g := ⟨_, rfl⟩
      rw [hg] at HS ⊢
      have HT := Lib.hid HS; clear HS hg
      cases g
      · go_wp2_with (first | (go_at_call 12; ((with_reducible refine (A0 _).mono ?_); rintro e w' ⟨rfl, rfl⟩)))
        go_round
        case rel => exact ⟨1, by omega, rfl, by rw [HT.out]; first | rfl | simp⟩
        case measure => simp [intOf]
      · go_wp2_with (first | (go_at_call 12; ((with_reducible refine (A0 _).mono ?_); rintro e w' ⟨rfl, rfl⟩)))
        go_round
        case rel => exact ⟨1, by omega, rfl, by rw [HT.out]; first | rfl | simp⟩
        case measure => simp [intOf]
    · have HS : tF q0 q1 q2 q3 h 2 = (tF q0 q1 q2 q3 h 1 || (q1 == h)) := by simp [tF]
      obtain ⟨g, hg⟩ : ∃ g, tF q0 q1 q2 q3 h 1 = g := ⟨_, rfl⟩
      rw [hg] at HS ⊢
      have HT := Lib.hid HS; clear HS hg
      cases g
      · go_wp2_with (first | (go_at_call 12; ((with_reducible refine (A1 _).mono ?_); rintro e w' ⟨rfl, rfl⟩)))
        go_round
        case rel => exact ⟨2, by omega, rfl, by rw [HT.out]; first | rfl | simp⟩
        case measure => simp [intOf]
      · go_wp2_with (first | (go_at_call 12; ((with_reducible refine (A1 _).mono ?_); rintro e w' ⟨rfl, rfl⟩)))
        go_round
        case rel => exact ⟨2, by omega, rfl, by rw [HT.out]; first | rfl | simp⟩
        case measure => simp [intOf]
    · have HS : tF q0 q1 q2 q3 h 3 = (tF q0 q1 q2 q3 h 2 || (q2 == h)) := by simp [tF]
      obtain ⟨g, hg⟩ : ∃ g, tF q0 q1 q2 q3 h 2 = g := ⟨_, rfl⟩
      rw [hg] at HS ⊢
      have HT := Lib.hid HS; clear HS hg
      cases g
      · go_wp2_with (first | (go_at_call 12; ((with_reducible refine (A2 _).mono ?_); rintro e w' ⟨rfl, rfl⟩)))
        go_round
        case rel => exact ⟨3, by omega, rfl, by rw [HT.out]; first | rfl | simp⟩
        case measure => simp [intOf]
      · go_wp2_with (first | (go_at_call 12; ((with_reducible refine (A2 _).mono ?_); rintro e w' ⟨rfl, rfl⟩)))
        go_round
        case rel => exact ⟨3, by omega, rfl, by rw [HT.out]; first | rfl | simp⟩
        case measure => simp [intOf]
    · have HS : tF q0 q1 q2 q3 h 4 = (tF q0 q1 q2 q3 h 3 || (q3 == h)) := by simp [tF]
      obtain ⟨g, hg⟩ : ∃ g, tF q0 q1 q2 q3 h 3 = g := ⟨_, rfl⟩
      rw [hg] at HS ⊢
      have HT := Lib.hid HS; clear HS hg
      cases g
      · go_wp2_with (first | (go_at_call 12; ((with_reducible refine (A3 _).mono ?_); rintro e w' ⟨rfl, rfl⟩)))
        go_round
        case rel => exact ⟨4, by omega, rfl, by rw [HT.out]; first | rfl | simp⟩
        case measure => simp [intOf]
      · go_wp2_with (first | (go_at_call 12; ((with_reducible refine (A3 _).mono ?_); rintro e w' ⟨rfl, rfl⟩)))
        go_round
        case rel => exact ⟨4, by omega, rfl, by rw [HT.out]; first | rfl | simp⟩
        case measure => simp [intOf]
    · rw [HQ.out]
      go_wp2
      go_ret
      exact ⟨rfl, (by (repeat (first | exact HB | exact Below.refl _ _ | apply below_drew | apply below_draws | refine below_set ?_ (by (try dsimp only); omega) _ | apply below_alloc)))⟩

theorem branchTight_walk (k a b c d : Nat) (h : Bool) (hk : k < 256) (ha : a < M) (hb : b < M) (hc : c < M) (hd : d < M) (w : World) :
    Calls Try.prog 4 #[.int .u8 k, .agg #[.int .u64 a, .int .u64 b], .agg #[.int .u64 c, .int .u64 d], .bool h] w fun e w' => e = .returned (.bool true) ∧ Below w.heap.size w w' := by
  obtain ⟨k1, k2, k3⟩ := k6 k
  have C1 := refine_any (1 + ((k % 6 : Nat) : Int)) a b c d h ha hb hc hd _ rfl
  obtain ⟨R, hR⟩ : ∃ R, brRef (1 + ((k % 6 : Nat) : Int)) a b c d h = R := ⟨_, rfl⟩
  rw [hR] at C1
  by_cases hg : a ≤ b ∧ c ≤ d
  · obtain ⟨h3, h4⟩ := hg
    rw [show brE (1 + ((k % 6 : Nat) : Int)) a b c d = 0 by unfold brE; rw [if_pos ⟨⟨k1, by omega⟩, h3, h4⟩]] at C1
    by_cases hcan : R.can = true
    · have he := brRef_ends k1 k2 a b c d h3 h4 h (by rw [hR]; exact hcan)
      have hi : BrIn R a b c d := by
        rcases brRef_in k1 (by omega) a b c d h3 h4 h with q | q
        · rw [hR] at q; exact q.2
        · rw [hR] at q; rw [q] at hcan; cases hcan
      rw [hR] at he
      obtain ⟨ra, rb, rc, rd, can⟩ := R
      obtain ⟨⟨i1, i2, i3⟩, i4, i5, i6⟩ := hi
      dsimp only at *
      subst hcan
      have A : ∀ x y : Nat, x < M → y < M → ∀ w : World, Calls Try.prog 12 #[.int .i64 (1 + ((k % 6 : Nat) : Int)), .int .u64 x, .int .u64 y] w fun e w' => e = .returned (.tuple #[.bool (holdsV (1 + ((k % 6 : Nat) : Int)) x y), .int .i64 0]) ∧ w = w' := fun x y hx hy w => by
        have h := aluHolds_any (1 + ((k % 6 : Nat) : Int)) x y hx hy w
        rw [holdsE_0 _ k1 (by omega)] at h; exact h
      refine tight_yes k (k % 6) a b c d ra rb rc rd h k3 C1 _ _ _ _ (A ra rc (by omega) (by omega)) (A rb rc (by omega) (by omega)) (A ra rd (by omega) (by omega)) (A rb rd (by omega) (by omega)) ?_ w
      unfold EndsHold at he
      dsimp only at he
      unfold tF
      rw [if_neg (by decide), if_neg (by decide), if_neg (by decide), if_neg (by decide)]
      simp only [Bool.or_eq_true, beq_iff_eq]
      rcases he with q | q | q | q
      · exact Or.inl (Or.inl (Or.inl q))
      · exact Or.inl (Or.inl (Or.inr q))
      · exact Or.inl (Or.inr q)
      · exact Or.inr q
    · exact tight_no k (k % 6) a b c d _ _ _ _ h _ _ (Or.inr ⟨rfl, by simpa using hcan⟩) k3 C1 w
  · rw [show brE (1 + ((k % 6 : Nat) : Int)) a b c d = 1 by unfold brE; rw [if_neg (fun q => hg q.2)]] at C1
    exact tight_no k (k % 6) a b c d _ _ _ _ h _ _ (Or.inl rfl) k3 C1 w

end Go.Proofs.Ythhohiafhjhjhaa
