/- The walks of the statements of chapter 7 without the document's answer: AluBack, AluRing, AluBits, AluShifts, AluOpposite. -/
import Derived.Test.YtnneomnablfndaaAluShown
import Derived.Test.YtnneomnablfndaaAluLawPlain
namespace Go.Proofs.Ytnneomnablfndaa
open Go.RowKit
set_option linter.unusedSimpArgs false

theorem do_zero (op : Int) (b : Nat) (h1 : 1 ≤ op) (h2 : op ≤ 11) (hb : b < M) (w : World) :
    Calls Try.prog 17 #[.int .i64 op, .int .u64 0, .int .u64 b] w fun e w' => e = .returned (.int .u64 (aluV op 0 b : Nat)) ∧ w = w' :=
  do_any op 0 b h1 h2 M_pos hb w
theorem do_one (op : Int) (b : Nat) (h1 : 1 ≤ op) (h2 : op ≤ 11) (hb : b < M) (w : World) :
    Calls Try.prog 17 #[.int .i64 op, .int .u64 1, .int .u64 b] w fun e w' => e = .returned (.int .u64 (aluV op 1 b : Nat)) ∧ w = w' :=
  do_any op 1 b h1 h2 (by decide) hb w
theorem do_one_sub (n : Nat) (h0 : 0 < n) (h : n < 64) (w : World) :
    Calls Try.prog 17 #[.int .i64 9, .int .u64 1, .int .u64 (64 - n)] w fun e w' => e = .returned (.int .u64 (aluV 9 1 (64 - n) : Nat)) ∧ w = w' := by
  have e : (64 : Int) - (n : Int) = ((64 - n : Nat) : Int) := by omega
  rw [e]; exact do_any 9 1 (64 - n) (by decide) (by decide) (by decide) (by unfold M; omega) w
theorem aluHolds_lit (op : Int) (a b : Nat) (h1 : 1 ≤ op) (h2 : op ≤ 9) (ha : a < M) (hb : b < M) (w : World) :
    Calls Try.prog 13 #[.int .i64 op, .int .u64 a, .int .u64 b] w fun e w' => e = .returned (.tuple #[.bool (holdsV op a b), .int .i64 0]) ∧ w = w' := by
  have h := aluHolds_any op a b ha hb w
  rw [holdsE_0 op h1 h2] at h; exact h

set_option maxHeartbeats 1000000 in
theorem aluBack_walk (a b : Nat) (ha : a < M) (hb : b < M) (w : World) :
    Calls Try.prog 5 #[.int .u64 a, .int .u64 b] w fun e w' => e = .returned (.bool true) ∧ Below w.heap.size w w' := by
  have e1 := back_add a b ha hb
  have e2 := back_xor a b
  have e3 := back_div a b ha
  have e4 := back_bits a b
  have e5 := back_rest a b
  by_cases hz : b = 0
  · have hz1 : ((b : Int) == 0) = true := by simp [hz]
    clear hz e5
    all_goals
      go_enter Try.func5, Try.ntmps5
      go_wp2_with (first | (go_at_call 10; refine (shown_any _).mono ?_; rintro e w1 ⟨rfl, hb1⟩) | (go_at_call 17; refine (do_any _ _ _ (by decide) (by decide) ?_ ?_ _).mono ?_; (repeat (first | assumption | exact M_pos | apply aluV_lt)); (repeat (first | assumption | exact M_pos | apply aluV_lt)); rintro e w' ⟨rfl, rfl⟩))
      go_ret
      exact ⟨rfl, ‹Below _ _ _›⟩
  · have hz1 : ((b : Int) == 0) = false := by simp [hz]
    replace e5 := e5 hz
    clear hz
    all_goals
      go_enter Try.func5, Try.ntmps5
      go_wp2_with (first | (go_at_call 10; refine (shown_any _).mono ?_; rintro e w1 ⟨rfl, hb1⟩) | (go_at_call 17; refine (do_any _ _ _ (by decide) (by decide) ?_ ?_ _).mono ?_; (repeat (first | assumption | exact M_pos | apply aluV_lt)); (repeat (first | assumption | exact M_pos | apply aluV_lt)); rintro e w' ⟨rfl, rfl⟩))
      go_ret
      exact ⟨rfl, ‹Below _ _ _›⟩

set_option maxHeartbeats 1000000 in
theorem aluRing_walk (a b c : Nat) (ha : a < M) (hb : b < M) (hc : c < M) (w : World) :
    Calls Try.prog 9 #[.int .u64 a, .int .u64 b, .int .u64 c] w fun e w' => e = .returned (.bool true) ∧ Below w.heap.size w w' := by
  have e1 := ring_1 a b
  have e2 := ring_2 a b
  have e3 := ring_3 a b c
  have e4 := ring_4 a b c
  have e5 := ring_5 a b c
  have e6 := ring_6 a ha
  all_goals
    go_enter Try.func9, Try.ntmps9
    go_wp2_with (first | (go_at_call 10; refine (shown_any _).mono ?_; rintro e w1 ⟨rfl, hb1⟩) | (go_at_call 17; refine (do_any _ _ _ (by decide) (by decide) ?_ ?_ _).mono ?_; (repeat (first | assumption | exact M_pos | apply aluV_lt)); (repeat (first | assumption | exact M_pos | apply aluV_lt)); rintro e w' ⟨rfl, rfl⟩) | (go_at_call 17; refine (do_zero _ _ (by decide) (by decide) ?_ _).mono ?_; (repeat (first | assumption | exact M_pos | apply aluV_lt)); rintro e w' ⟨rfl, rfl⟩))
    go_ret
    exact ⟨rfl, ‹Below _ _ _›⟩

set_option maxHeartbeats 1000000 in
theorem aluBits_walk (a b c : Nat) (ha : a < M) (hb : b < M) (hc : c < M) (w : World) :
    Calls Try.prog 8 #[.int .u64 a, .int .u64 b, .int .u64 c] w fun e w' => e = .returned (.bool true) ∧ Below w.heap.size w w' := by
  have e1 := bits_1 a b
  have e2 := bits_2 a b
  have e3 := bits_3 a b
  have e4 := bits_4 a b
  have e5 := bits_5 a b
  have e6 := bits_6 a b
  have e7 := bits_7 a b
  have e8 := bits_8 a b c
  have h9 := holds9 a b
  obtain ⟨t, ht⟩ : ∃ t, (((aluV 6 a b : Nat) : Int) != 0) = t := ⟨_, rfl⟩
  have h10 : holdsV 9 a b = t := by
    rw [h9, ← ht]; by_cases h : aluV 6 a b = 0 <;> simp [h]
  clear h9
  all_goals
    go_enter Try.func8, Try.ntmps8
    go_wp2_with (first | (go_at_call 10; refine (shown_any _).mono ?_; rintro e w1 ⟨rfl, hb1⟩) | (go_at_call 17; refine (do_any _ _ _ (by decide) (by decide) ?_ ?_ _).mono ?_; (repeat (first | assumption | exact M_pos | apply aluV_lt)); (repeat (first | assumption | exact M_pos | apply aluV_lt)); rintro e w' ⟨rfl, rfl⟩) | (go_at_call 13; refine (aluHolds_lit _ _ _ (by decide) (by decide) ?_ ?_ _).mono ?_; (first | exact ha | exact hb); (first | exact ha | exact hb); rintro e w' ⟨rfl, rfl⟩))
    go_ret
    exact ⟨rfl, ‹Below _ _ _›⟩

set_option maxHeartbeats 1000000 in
theorem aluShifts_walk (a k : Nat) (ha : a < M) (hk : k < 256) (w : World) :
    Calls Try.prog 6 #[.int .u64 a, .int .u8 k] w fun e w' => e = .returned (.bool true) ∧ Below w.heap.size w w' := by
  have hki : (k : Int) % 64 = ((k % 64 : Nat) : Int) := by omega
  have hn : k % 64 < 64 := Nat.mod_lt _ (by decide)
  have hkM : k < M := by unfold M; omega
  have p1 := sh_l a k
  have p2 := sh_r a k ha
  have p3 := sh_top a k ha
  have p4 := sh_there a k
  have p5 : aluV 10 (aluV 9 a k) (k % 64) = if 0 < k % 64 then a % aluV 9 1 (64 - k % 64) else a := by
    have e : aluV 9 a k = aluV 9 a (k % 64) := by rw [v9, v9, Nat.mod_mod]
    rw [e]
    by_cases h : 0 < k % 64
    · rw [if_pos h]; exact sh_ends a (k % 64) hn h
    · rw [if_neg h, show k % 64 = 0 by omega]; exact sh_ends0 a ha
  have p6 : ¬ aluV 9 1 (k % 64) = 0 := by rw [sh_p _ hn]; have := Nat.two_pow_pos (k % 64); omega
  have p7 : 0 < k % 64 → ¬ aluV 9 1 (64 - k % 64) = 0 := fun h => by rw [sh_p _ (by omega)]; have := Nat.two_pow_pos (64 - k % 64); omega
  obtain ⟨n, en⟩ : ∃ n, k % 64 = n := ⟨_, rfl⟩
  rw [en] at hki hn p1 p2 p4 p5 p6 p7
  have EN := Lib.hid en; clear en
  have hnM : n < M := by unfold M; omega
  obtain ⟨P, eP⟩ : ∃ P, aluV 9 1 n = P := ⟨_, rfl⟩
  rw [eP] at p1 p2 p6
  by_cases h0 : 0 < n
  · rw [if_pos h0] at p5
    replace p7 := p7 h0
    obtain ⟨Q, eQ⟩ : ∃ Q, aluV 9 1 (64 - n) = Q := ⟨_, rfl⟩
    have HQ : ∀ w : World, Calls Try.prog 17 #[.int .i64 9, .int .u64 1, .int .u64 (64 - n)] w fun e w' => e = .returned (.int .u64 (Q : Nat)) ∧ w = w' := by rw [← eQ]; exact do_one_sub n h0 hn
    rw [eQ] at p5 p7
    have HEQ := Lib.hid eQ; clear eQ
    have p8 : ((Q : Int) == 0) = false := by simp [p7]
    have p9 : ((P : Int) == 0) = false := by simp [p6]
    all_goals
      go_enter Try.func6, Try.ntmps6
      go_wp2_with (first | (go_at_call 10; refine (shown_any _).mono ?_; rintro e w1 ⟨rfl, hb1⟩) | (go_at_call 17; ((with_reducible refine (HQ _).mono ?_); rintro e w' ⟨rfl, rfl⟩)) | (go_at_call 17; refine (do_any _ _ _ (by decide) (by decide) ?_ ?_ _).mono ?_; (repeat (first | assumption | exact M_pos | apply aluV_lt)); (repeat (first | assumption | exact M_pos | apply aluV_lt)); rintro e w' ⟨rfl, rfl⟩) | (go_at_call 17; refine (do_one _ _ (by decide) (by decide) ?_ _).mono ?_; (repeat (first | assumption | exact M_pos | apply aluV_lt)); rintro e w' ⟨rfl, rfl⟩))
      go_ret
      exact ⟨rfl, ‹Below _ _ _›⟩
  · rw [if_neg h0] at p5
    obtain rfl : n = 0 := by omega
    clear p7
    have p9 : ((P : Int) == 0) = false := by simp [p6]
    all_goals
      go_enter Try.func6, Try.ntmps6
      go_wp2_with (first | (go_at_call 10; refine (shown_any _).mono ?_; rintro e w1 ⟨rfl, hb1⟩) | (go_at_call 17; ((with_reducible refine (HQ _).mono ?_); rintro e w' ⟨rfl, rfl⟩)) | (go_at_call 17; refine (do_any _ _ _ (by decide) (by decide) ?_ ?_ _).mono ?_; (repeat (first | assumption | exact M_pos | apply aluV_lt)); (repeat (first | assumption | exact M_pos | apply aluV_lt)); rintro e w' ⟨rfl, rfl⟩) | (go_at_call 17; refine (do_one _ _ (by decide) (by decide) ?_ _).mono ?_; (repeat (first | assumption | exact M_pos | apply aluV_lt)); rintro e w' ⟨rfl, rfl⟩))
      go_ret
      exact ⟨rfl, ‹Below _ _ _›⟩

theorem opp (a b : Nat) (c n : Int) (h : (c = 1 ∧ n = 2) ∨ (c = 3 ∧ n = 6) ∨ (c = 4 ∧ n = 5) ∨ (c = 7 ∧ n = 8)) : holdsV n a b = !holdsV c a b := by
  rcases h with ⟨rfl, rfl⟩ | ⟨rfl, rfl⟩ | ⟨rfl, rfl⟩ | ⟨rfl, rfl⟩
  · rfl
  · rfl
  · rfl
  · have e7 : holdsV 7 a b = decide ((a + H63) % M < (b + H63) % M) := by
      unfold holdsV; rw [if_neg (by decide), if_neg (by decide), if_neg (by decide), if_neg (by decide), if_neg (by decide), if_neg (by decide), if_pos rfl]
    have e8 : holdsV 8 a b = !decide ((a + H63) % M < (b + H63) % M) := by
      unfold holdsV; rw [if_neg (by decide), if_neg (by decide), if_neg (by decide), if_neg (by decide), if_neg (by decide), if_neg (by decide), if_neg (by decide), if_pos rfl]
    rw [e7, e8]
theorem hv1 (a b : Nat) : holdsV 1 a b = decide (a = b) := rfl
theorem hv3 (a b : Nat) : holdsV 3 a b = decide (a < b) := rfl
theorem hv4 (a b : Nat) : holdsV 4 a b = decide (a ≤ b) := rfl
theorem hv5 (a b : Nat) : holdsV 5 a b = !decide (a ≤ b) := rfl
/-- how two numbers stand: below, the same, above. -/
theorem stand (a b : Nat) : ∃ lt eq : Bool, (lt && eq) = false ∧ holdsV 3 a b = lt ∧ holdsV 1 a b = eq ∧ holdsV 4 a b = (lt || eq) ∧ holdsV 5 b a = lt := by
  refine ⟨decide (a < b), decide (a = b), ?_, hv3 a b, hv1 a b, ?_, ?_⟩
  · by_cases h : a < b <;> by_cases h' : a = b <;> simp [h, h'] <;> omega
  · rw [hv4]; by_cases h : a < b <;> by_cases h' : a = b <;> simp [h, h'] <;> omega
  · rw [hv5]; by_cases h : a < b <;> simp [h] <;> omega

set_option maxHeartbeats 2000000 in
theorem aluOpposite_1 (k : Nat) (hk : (k : Int) % 8 = 0) (a b : Nat) (ha : a < M) (hb : b < M) (w : World) :
    Calls Try.prog 7 #[.int .u8 k, .int .u64 a, .int .u64 b] w fun e w' => e = .returned (.bool true) ∧ Below w.heap.size w w' := by
  have e1 : holdsV 2 a b = !holdsV 1 a b := opp a b 1 2 (by decide)
  obtain ⟨lt, eq, h1, h2, h3, h4, h5⟩ := stand a b
  obtain ⟨x, hx⟩ : ∃ x, holdsV 1 a b = x := ⟨_, rfl⟩
  cases lt <;> cases eq
  all_goals first
    | exact absurd h1 (by decide)
    | skip
  all_goals
    clear h1
    simp only [Bool.or_false, Bool.false_or, Bool.or_true, Bool.true_or] at h4
    clear hx
  all_goals
    simp only [h3, Bool.not_true, Bool.not_false] at e1
    go_enter Try.func7, Try.ntmps7
    go_wp2_with (first | (go_at_call 10; refine (shown_any _).mono ?_; rintro e w1 ⟨rfl, hb1⟩) | (go_at_call 15; ((with_reducible refine (aluNot_1 _).mono ?_); rintro e w2 ⟨rfl, hb2⟩)) | (go_at_call 15; ((with_reducible refine (aluNot_2 _).mono ?_); rintro e w3 ⟨rfl, hb3⟩)) | (go_at_call 13; refine (aluHolds_lit _ _ _ (by decide) (by decide) ?_ ?_ _).mono ?_; (first | exact ha | exact hb); (first | exact ha | exact hb); rintro e w' ⟨rfl, rfl⟩))
    go_ret
    exact ⟨rfl, hb1.trans ((hb2.mono hb1.size).trans (hb3.mono (Nat.le_trans hb1.size hb2.size)))⟩

set_option maxHeartbeats 2000000 in
theorem aluOpposite_2 (k : Nat) (hk : (k : Int) % 8 = 1) (a b : Nat) (ha : a < M) (hb : b < M) (w : World) :
    Calls Try.prog 7 #[.int .u8 k, .int .u64 a, .int .u64 b] w fun e w' => e = .returned (.bool true) ∧ Below w.heap.size w w' := by
  have e1 : holdsV 2 a b = !holdsV 1 a b := opp a b 1 2 (by decide)
  obtain ⟨lt, eq, h1, h2, h3, h4, h5⟩ := stand a b
  obtain ⟨x, hx⟩ : ∃ x, holdsV 1 a b = x := ⟨_, rfl⟩
  cases lt <;> cases eq
  all_goals first
    | exact absurd h1 (by decide)
    | skip
  all_goals
    clear h1
    simp only [Bool.or_false, Bool.false_or, Bool.or_true, Bool.true_or] at h4
    clear hx
  all_goals
    simp only [h3, Bool.not_true, Bool.not_false] at e1
    go_enter Try.func7, Try.ntmps7
    go_wp2_with (first | (go_at_call 10; refine (shown_any _).mono ?_; rintro e w1 ⟨rfl, hb1⟩) | (go_at_call 15; ((with_reducible refine (aluNot_2 _).mono ?_); rintro e w2 ⟨rfl, hb2⟩)) | (go_at_call 15; ((with_reducible refine (aluNot_1 _).mono ?_); rintro e w3 ⟨rfl, hb3⟩)) | (go_at_call 13; refine (aluHolds_lit _ _ _ (by decide) (by decide) ?_ ?_ _).mono ?_; (first | exact ha | exact hb); (first | exact ha | exact hb); rintro e w' ⟨rfl, rfl⟩))
    go_ret
    exact ⟨rfl, hb1.trans ((hb2.mono hb1.size).trans (hb3.mono (Nat.le_trans hb1.size hb2.size)))⟩

set_option maxHeartbeats 2000000 in
theorem aluOpposite_3 (k : Nat) (hk : (k : Int) % 8 = 2) (a b : Nat) (ha : a < M) (hb : b < M) (w : World) :
    Calls Try.prog 7 #[.int .u8 k, .int .u64 a, .int .u64 b] w fun e w' => e = .returned (.bool true) ∧ Below w.heap.size w w' := by
  have e1 : holdsV 6 a b = !holdsV 3 a b := opp a b 3 6 (by decide)
  obtain ⟨lt, eq, h1, h2, h3, h4, h5⟩ := stand a b
  obtain ⟨x, hx⟩ : ∃ x, holdsV 3 a b = x := ⟨_, rfl⟩
  cases lt <;> cases eq
  all_goals first
    | exact absurd h1 (by decide)
    | skip
  all_goals
    clear h1
    simp only [Bool.or_false, Bool.false_or, Bool.or_true, Bool.true_or] at h4
    clear hx
  all_goals
    simp only [h2, Bool.not_true, Bool.not_false] at e1
    go_enter Try.func7, Try.ntmps7
    go_wp2_with (first | (go_at_call 10; refine (shown_any _).mono ?_; rintro e w1 ⟨rfl, hb1⟩) | (go_at_call 15; ((with_reducible refine (aluNot_3 _).mono ?_); rintro e w2 ⟨rfl, hb2⟩)) | (go_at_call 15; ((with_reducible refine (aluNot_6 _).mono ?_); rintro e w3 ⟨rfl, hb3⟩)) | (go_at_call 13; refine (aluHolds_lit _ _ _ (by decide) (by decide) ?_ ?_ _).mono ?_; (first | exact ha | exact hb); (first | exact ha | exact hb); rintro e w' ⟨rfl, rfl⟩))
    go_ret
    exact ⟨rfl, hb1.trans ((hb2.mono hb1.size).trans (hb3.mono (Nat.le_trans hb1.size hb2.size)))⟩

set_option maxHeartbeats 2000000 in
theorem aluOpposite_4 (k : Nat) (hk : (k : Int) % 8 = 3) (a b : Nat) (ha : a < M) (hb : b < M) (w : World) :
    Calls Try.prog 7 #[.int .u8 k, .int .u64 a, .int .u64 b] w fun e w' => e = .returned (.bool true) ∧ Below w.heap.size w w' := by
  have e1 : holdsV 5 a b = !holdsV 4 a b := opp a b 4 5 (by decide)
  obtain ⟨lt, eq, h1, h2, h3, h4, h5⟩ := stand a b
  obtain ⟨x, hx⟩ : ∃ x, holdsV 4 a b = x := ⟨_, rfl⟩
  cases lt <;> cases eq
  all_goals first
    | exact absurd h1 (by decide)
    | skip
  all_goals
    clear h1
    simp only [Bool.or_false, Bool.false_or, Bool.or_true, Bool.true_or] at h4
    clear hx
  all_goals
    simp only [h4, Bool.not_true, Bool.not_false] at e1
    go_enter Try.func7, Try.ntmps7
    go_wp2_with (first | (go_at_call 10; refine (shown_any _).mono ?_; rintro e w1 ⟨rfl, hb1⟩) | (go_at_call 15; ((with_reducible refine (aluNot_4 _).mono ?_); rintro e w2 ⟨rfl, hb2⟩)) | (go_at_call 15; ((with_reducible refine (aluNot_5 _).mono ?_); rintro e w3 ⟨rfl, hb3⟩)) | (go_at_call 13; refine (aluHolds_lit _ _ _ (by decide) (by decide) ?_ ?_ _).mono ?_; (first | exact ha | exact hb); (first | exact ha | exact hb); rintro e w' ⟨rfl, rfl⟩))
    go_ret
    exact ⟨rfl, hb1.trans ((hb2.mono hb1.size).trans (hb3.mono (Nat.le_trans hb1.size hb2.size)))⟩

set_option maxHeartbeats 2000000 in
theorem aluOpposite_5 (k : Nat) (hk : (k : Int) % 8 = 4) (a b : Nat) (ha : a < M) (hb : b < M) (w : World) :
    Calls Try.prog 7 #[.int .u8 k, .int .u64 a, .int .u64 b] w fun e w' => e = .returned (.bool true) ∧ Below w.heap.size w w' := by
  have e1 : holdsV 5 a b = !holdsV 4 a b := opp a b 4 5 (by decide)
  obtain ⟨lt, eq, h1, h2, h3, h4, h5⟩ := stand a b
  obtain ⟨x, hx⟩ : ∃ x, holdsV 4 a b = x := ⟨_, rfl⟩
  cases lt <;> cases eq
  all_goals first
    | exact absurd h1 (by decide)
    | skip
  all_goals
    clear h1
    simp only [Bool.or_false, Bool.false_or, Bool.or_true, Bool.true_or] at h4
    clear hx
  all_goals
    simp only [h4, Bool.not_true, Bool.not_false] at e1
    go_enter Try.func7, Try.ntmps7
    go_wp2_with (first | (go_at_call 10; refine (shown_any _).mono ?_; rintro e w1 ⟨rfl, hb1⟩) | (go_at_call 15; ((with_reducible refine (aluNot_5 _).mono ?_); rintro e w2 ⟨rfl, hb2⟩)) | (go_at_call 15; ((with_reducible refine (aluNot_4 _).mono ?_); rintro e w3 ⟨rfl, hb3⟩)) | (go_at_call 13; refine (aluHolds_lit _ _ _ (by decide) (by decide) ?_ ?_ _).mono ?_; (first | exact ha | exact hb); (first | exact ha | exact hb); rintro e w' ⟨rfl, rfl⟩))
    go_ret
    exact ⟨rfl, hb1.trans ((hb2.mono hb1.size).trans (hb3.mono (Nat.le_trans hb1.size hb2.size)))⟩

set_option maxHeartbeats 2000000 in
theorem aluOpposite_6 (k : Nat) (hk : (k : Int) % 8 = 5) (a b : Nat) (ha : a < M) (hb : b < M) (w : World) :
    Calls Try.prog 7 #[.int .u8 k, .int .u64 a, .int .u64 b] w fun e w' => e = .returned (.bool true) ∧ Below w.heap.size w w' := by
  have e1 : holdsV 6 a b = !holdsV 3 a b := opp a b 3 6 (by decide)
  obtain ⟨lt, eq, h1, h2, h3, h4, h5⟩ := stand a b
  obtain ⟨x, hx⟩ : ∃ x, holdsV 3 a b = x := ⟨_, rfl⟩
  cases lt <;> cases eq
  all_goals first
    | exact absurd h1 (by decide)
    | skip
  all_goals
    clear h1
    simp only [Bool.or_false, Bool.false_or, Bool.or_true, Bool.true_or] at h4
    clear hx
  all_goals
    simp only [h2, Bool.not_true, Bool.not_false] at e1
    go_enter Try.func7, Try.ntmps7
    go_wp2_with (first | (go_at_call 10; refine (shown_any _).mono ?_; rintro e w1 ⟨rfl, hb1⟩) | (go_at_call 15; ((with_reducible refine (aluNot_6 _).mono ?_); rintro e w2 ⟨rfl, hb2⟩)) | (go_at_call 15; ((with_reducible refine (aluNot_3 _).mono ?_); rintro e w3 ⟨rfl, hb3⟩)) | (go_at_call 13; refine (aluHolds_lit _ _ _ (by decide) (by decide) ?_ ?_ _).mono ?_; (first | exact ha | exact hb); (first | exact ha | exact hb); rintro e w' ⟨rfl, rfl⟩))
    go_ret
    exact ⟨rfl, hb1.trans ((hb2.mono hb1.size).trans (hb3.mono (Nat.le_trans hb1.size hb2.size)))⟩

set_option maxHeartbeats 2000000 in
theorem aluOpposite_7 (k : Nat) (hk : (k : Int) % 8 = 6) (a b : Nat) (ha : a < M) (hb : b < M) (w : World) :
    Calls Try.prog 7 #[.int .u8 k, .int .u64 a, .int .u64 b] w fun e w' => e = .returned (.bool true) ∧ Below w.heap.size w w' := by
  have e1 : holdsV 8 a b = !holdsV 7 a b := opp a b 7 8 (by decide)
  obtain ⟨lt, eq, h1, h2, h3, h4, h5⟩ := stand a b
  obtain ⟨x, hx⟩ : ∃ x, holdsV 7 a b = x := ⟨_, rfl⟩
  rw [hx] at e1
  cases lt <;> cases eq
  all_goals first
    | exact absurd h1 (by decide)
    | skip
  all_goals
    clear h1
    simp only [Bool.or_false, Bool.false_or, Bool.or_true, Bool.true_or] at h4
    cases x
  all_goals
    simp only [Bool.not_true, Bool.not_false] at e1
    go_enter Try.func7, Try.ntmps7
    go_wp2_with (first | (go_at_call 10; refine (shown_any _).mono ?_; rintro e w1 ⟨rfl, hb1⟩) | (go_at_call 15; ((with_reducible refine (aluNot_7 _).mono ?_); rintro e w2 ⟨rfl, hb2⟩)) | (go_at_call 15; ((with_reducible refine (aluNot_8 _).mono ?_); rintro e w3 ⟨rfl, hb3⟩)) | (go_at_call 13; refine (aluHolds_lit _ _ _ (by decide) (by decide) ?_ ?_ _).mono ?_; (first | exact ha | exact hb); (first | exact ha | exact hb); rintro e w' ⟨rfl, rfl⟩))
    go_ret
    exact ⟨rfl, hb1.trans ((hb2.mono hb1.size).trans (hb3.mono (Nat.le_trans hb1.size hb2.size)))⟩

set_option maxHeartbeats 2000000 in
theorem aluOpposite_8 (k : Nat) (hk : (k : Int) % 8 = 7) (a b : Nat) (ha : a < M) (hb : b < M) (w : World) :
    Calls Try.prog 7 #[.int .u8 k, .int .u64 a, .int .u64 b] w fun e w' => e = .returned (.bool true) ∧ Below w.heap.size w w' := by
  have e1 : holdsV 8 a b = !holdsV 7 a b := opp a b 7 8 (by decide)
  obtain ⟨lt, eq, h1, h2, h3, h4, h5⟩ := stand a b
  obtain ⟨x, hx⟩ : ∃ x, holdsV 7 a b = x := ⟨_, rfl⟩
  rw [hx] at e1
  cases lt <;> cases eq
  all_goals first
    | exact absurd h1 (by decide)
    | skip
  all_goals
    clear h1
    simp only [Bool.or_false, Bool.false_or, Bool.or_true, Bool.true_or] at h4
    cases x
  all_goals
    simp only [Bool.not_true, Bool.not_false] at e1
    go_enter Try.func7, Try.ntmps7
    go_wp2_with (first | (go_at_call 10; refine (shown_any _).mono ?_; rintro e w1 ⟨rfl, hb1⟩) | (go_at_call 15; ((with_reducible refine (aluNot_8 _).mono ?_); rintro e w2 ⟨rfl, hb2⟩)) | (go_at_call 15; ((with_reducible refine (aluNot_7 _).mono ?_); rintro e w3 ⟨rfl, hb3⟩)) | (go_at_call 13; refine (aluHolds_lit _ _ _ (by decide) (by decide) ?_ ?_ _).mono ?_; (first | exact ha | exact hb); (first | exact ha | exact hb); rintro e w' ⟨rfl, rfl⟩))
    go_ret
    exact ⟨rfl, hb1.trans ((hb2.mono hb1.size).trans (hb3.mono (Nat.le_trans hb1.size hb2.size)))⟩

theorem aluOpposite_walk (k : Nat) (a b : Nat) (_hk : k < 256) (ha : a < M) (hb : b < M) (w : World) :
    Calls Try.prog 7 #[.int .u8 k, .int .u64 a, .int .u64 b] w fun e w' => e = .returned (.bool true) ∧ Below w.heap.size w w' := by
  by_cases h1 : (k : Int) % 8 = 0
  · exact aluOpposite_1 k h1 a b ha hb w
  by_cases h2 : (k : Int) % 8 = 1
  · exact aluOpposite_2 k h2 a b ha hb w
  by_cases h3 : (k : Int) % 8 = 2
  · exact aluOpposite_3 k h3 a b ha hb w
  by_cases h4 : (k : Int) % 8 = 3
  · exact aluOpposite_4 k h4 a b ha hb w
  by_cases h5 : (k : Int) % 8 = 4
  · exact aluOpposite_5 k h5 a b ha hb w
  by_cases h6 : (k : Int) % 8 = 5
  · exact aluOpposite_6 k h6 a b ha hb w
  by_cases h7 : (k : Int) % 8 = 6
  · exact aluOpposite_7 k h7 a b ha hb w
  exact aluOpposite_8 k (by omega) a b ha hb w

end Go.Proofs.Ytnneomnablfndaa
