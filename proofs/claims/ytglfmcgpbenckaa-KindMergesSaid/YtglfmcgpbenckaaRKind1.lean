/- The walk of turnbuckleref17.May. -/
import Derived.Test.YtglfmcgpbenckaaSpanR2
import Derived.Test.YtglfmcgpbenckaaKindShown
import Derived.Outline
namespace Go.Proofs.Ytglfmcgpbenckaa
open Go.RowKit
set_option linter.unusedVariables false
theorem whMay_by (k t i l : Int) (m : Bool) (a b : Nat) (v1 v2 : Bool) (h1 : decide (a = 0 ∧ b = 0) = v1) (h2 : decide (t = 0 ∧ i = 0 ∧ l = 0 ∧ m = false) = v2) :
    whMay ⟨k, t, i, l, m, a, b⟩ = (if (k == 0) = true then v1 && v2 else if (k == 2) = true then v1 && v2 else if (k == 1) = true then decide (a ≤ b) && v2 else if (k == 3) = true then v1 && (decide (0 ≤ t) && (decide (1 ≤ i) && l == 0)) else if (k == 5) = true then v1 && (decide (0 ≤ t) && (decide (1 ≤ i) && l == 0))
      else if (k == 4) = true then v1 && (decide (0 ≤ t) && (decide (1 ≤ i) && decide (0 ≤ l))) else if (k == 6) = true then v1 && (decide (0 ≤ t) && (i == 0 && l == 0)) else false) := by
  subst h1 h2
  unfold whMay Wok
  rw [Bool.eq_iff_iff]
  by_cases k0 : k = 0
  · subst k0; simp; constructor <;> (intro h; simp_all)
  by_cases k2 : k = 2
  · subst k2; simp; constructor <;> (intro h; simp_all)
  by_cases k1 : k = 1
  · subst k1; simp
  by_cases k3 : k = 3
  · subst k3; simp; omega
  by_cases k5 : k = 5
  · subst k5; simp; omega
  by_cases k4 : k = 4
  · subst k4; simp; omega
  by_cases k6 : k = 6
  · subst k6; simp; omega
  simp [*]
set_option maxRecDepth 100000 in
set_option maxHeartbeats 2000000 in
theorem rkmay_any (k t i l : Int) (m : Bool) (a b : Nat) (w : World) :
    Calls Try.prog 31 #[.agg #[.int .i64 k, .int .i64 t, .int .i64 i, .int .i64 l, .bool m, .int .u64 a, .int .u64 b]] w fun e w' => e = .returned (.bool (whMay ⟨k, t, i, l, m, a, b⟩)) ∧ Below w.heap.size w w' := by
  obtain ⟨R, hR⟩ : ∃ R, whMay ⟨k, t, i, l, m, a, b⟩ = R := ⟨_, rfl⟩
  rw [hR]
  have HR := Lib.hid hR
  clear hR
  have CM := Lib.hid (rmay_any a b)
  go_enter Try.func31, Try.ntmps31
  go_upto_region 1 with fail
  refine named (P := fun W => Code.wp _ _ _ _ W) (fun W => Seven W w.heap.size k t i l m (a : Nat) (b : Nat) ∧ Below w.heap.size w W) ⟨⟨by go_simp, by go_simp, by go_simp, by go_simp, by go_simp, by go_simp, by go_simp⟩, below_alloc (Below.refl _ _) _⟩ ?_
  rintro W ⟨⟨o0, o1, o2, o3, o4, o5, o6⟩, HB⟩
  have HBL := Lib.hid HB
  clear HB
  obtain ⟨v1, hv1⟩ : ∃ v1, decide (a = 0 ∧ b = 0) = v1 := ⟨_, rfl⟩
  have HV1 := Lib.hid hv1
  clear hv1
  obtain ⟨v2, hv2⟩ : ∃ v1, decide (t = 0 ∧ i = 0 ∧ l = 0 ∧ m = false) = v1 := ⟨_, rfl⟩
  have HV2 := Lib.hid hv2
  clear hv2
  go_cut [3] (fun s wx => s = .bool v1 ∧ wx = W)
  case first =>
    by_cases h1 : a = 0
    · subst h1
      by_cases h2 : b = 0
      · subst h2
        go_wp2
        go_meet
        exact ⟨by rw [← HV1.out]; rfl, rfl⟩
      · go_wp2
        go_meet
        exact ⟨by rw [← HV1.out, decide_eq_false (fun q => h2 q.2)] <;> first | rfl | (simp [h2]; done), rfl⟩
    · go_wp2
      go_meet
      exact ⟨by rw [← HV1.out, decide_eq_false (fun q => h1 q.1)] <;> first | rfl | (simp [h1]; done), rfl⟩
  case rest =>
    obtain ⟨rfl, rfl⟩ := hcut
    go_upto_region 2 with fail
    go_cut [4] (fun s wx => s = .bool v2 ∧ wx = wc)
    case first =>
      by_cases h1 : t = 0
      · subst h1
        by_cases h2 : i = 0
        · subst h2
          by_cases h3 : l = 0
          · subst h3
            cases m
            all_goals
              go_wp2
              go_meet
              exact ⟨by rw [← HV2.out]; rfl, rfl⟩
          · go_wp2
            go_meet
            exact ⟨by rw [← HV2.out, decide_eq_false (fun q => h3 q.2.2.1)] <;> first | rfl | (simp [h3]; done), rfl⟩
        · go_wp2
          go_meet
          exact ⟨by rw [← HV2.out, decide_eq_false (fun q => h2 q.2.1)] <;> first | rfl | (simp [h2]; done), rfl⟩
      · go_wp2
        go_meet
        exact ⟨by rw [← HV2.out, decide_eq_false (fun q => h1 q.1)] <;> first | rfl | (simp [h1]; done), rfl⟩
    case rest =>
      obtain ⟨rfl, rfl⟩ := hcut
      go_wp2_with (go_at_call 34; refine (CM.out _).mono ?_; rintro e w1 ⟨rfl, hb⟩; have HBL := Lib.hid (below_then HBL.out hb); clear hb)
      all_goals
        go_ret
        refine ⟨ret_bool ?_, HBL.out⟩
        rw [← HR.out, whMay_by k t i l m a b v1 v2 HV1.out HV2.out]
        (first | (simp [*]; done) | (simp [*]; omega) | (simp [*]; intros; omega))
end Go.Proofs.Ytglfmcgpbenckaa
