
/- The walk of the document's answer of chapter 9 (package turnbuckleref09): Refine. -/
import Derived.Test.YthhohiafhjhjhaaBranchR2
import Derived.Test.YthhohiafhjhjhaaBranchR3
import Derived.Test.YthhohiafhjhjhaaBranchR4
import Derived.Test.YthhohiafhjhjhaaBranchR5
import Derived.Test.YthhohiafhjhjhaaBranchR6
import Derived.Test.YthhohiafhjhjhaaBranchR7
namespace Go.Proofs.Ythhohiafhjhjhaa
open Go.RowKit
set_option linter.unusedVariables false
set_option linter.unusedSimpArgs false

theorem notnot {k : Int} (h1 : 1 ≤ k) (h2 : k ≤ 8) : notV (notV k) = k := by
  have h : k = 1 ∨ k = 2 ∨ k = 3 ∨ k = 4 ∨ k = 5 ∨ k = 6 ∨ k = 7 ∨ k = 8 := by omega
  rcases h with rfl | rfl | rfl | rfl | rfl | rfl | rfl | rfl <;> decide

theorem rrefine_any (k : Int) (a b c d : Nat) (h : Bool) (ha : a < M) (hb : b < M) (hc : c < M) (hd : d < M) (R : Br) (hR : brRef k a b c d h = R) (w : World) :
    Calls Try.prog 11 #[.int .i64 k, .agg #[.int .u64 a, .int .u64 b], .agg #[.int .u64 c, .int .u64 d], .bool h] w fun e w' => e = .returned (.tuple #[.agg #[.int .u64 (R.a : Nat), .int .u64 (R.b : Nat)], .agg #[.int .u64 (R.c : Nat), .int .u64 (R.d : Nat)], .bool R.can, .int .i64 (brE k a b c d)]) ∧ Below w.heap.size w w' := by
  by_cases hg : (1 ≤ k ∧ k ≤ 9) ∧ a ≤ b ∧ c ≤ d
  · have e0 : brE k a b c d = 0 := by unfold brE; rw [if_pos hg]
    rw [e0]
    obtain ⟨⟨k1, k2⟩, h1, h2⟩ := hg
    have CH := refHolds_any k a c ha hc
    rw [holdsE_0 k k1 k2] at CH
    obtain ⟨x, hx⟩ : ∃ x, holdsV k a c = x := ⟨_, rfl⟩
    rw [hx] at CH
    by_cases hs : a = b ∧ c = d
    · have er := brRef_one k a b c d h k1 k2 h1 h2 hs.1 hs.2
      rw [hx, hR] at er
      by_cases hxh : x = h
      · rw [if_pos hxh] at er
        exact rrefine_oney k a b c d h x k1 k2 CH h1 h2 hs.1 hs.2 hxh R er w
      · rw [if_neg hxh] at er
        exact rrefine_onen k a b c d h x k1 k2 CH h1 h2 hs.1 hs.2 (by cases x <;> cases h <;> simp_all) R er w
    · have go : ∀ kk : Int, 1 ≤ kk → kk ≤ 8 → ((h = true ∧ k = kk) ∨ (h = false ∧ k = notV kk)) → brWhere kk a b c d = R → Calls Try.prog 11 #[.int .i64 k, .agg #[.int .u64 a, .int .u64 b], .agg #[.int .u64 c, .int .u64 d], .bool h] w fun e w' => e = .returned (.tuple #[.agg #[.int .u64 (R.a : Nat), .int .u64 (R.b : Nat)], .agg #[.int .u64 (R.c : Nat), .int .u64 (R.d : Nat)], .bool R.can, .int .i64 0]) ∧ Below w.heap.size w w' := by
        intro kk q1 q2 hk hR
        have hq : kk = 1 ∨ kk = 2 ∨ kk = 3 ∨ kk = 4 ∨ kk = 5 ∨ kk = 6 ∨ kk = 7 ∨ kk = 8 := by omega
        rcases hq with rfl | rfl | rfl | rfl | rfl | rfl | rfl | rfl
        · by_cases hr : max a c ≤ min b d
          · exact rrefine_1y k a b c d h hk h1 h2 hb hd hs hr R hR w
          · exact rrefine_1n k a b c d h hk h1 h2 hb hd hs hr R hR w
        · exact rrefine_2 k a b c d h hk h1 h2 hb hd hs R hR w
        · by_cases hr : d ≤ a
          · exact rrefine_3n k a b c d h hk h1 h2 hb hd hs hr R hR w
          · by_cases h5 : d ≤ b
            · by_cases h6 : c ≤ a
              · exact rrefine_3yy k a b c d h hk h1 h2 hb hd hs hr h5 h6 R hR w
              · exact rrefine_3yn k a b c d h hk h1 h2 hb hd hs hr h5 h6 R hR w
            · by_cases h6 : c ≤ a
              · exact rrefine_3ny k a b c d h hk h1 h2 hb hd hs hr h5 h6 R hR w
              · exact rrefine_3nn k a b c d h hk h1 h2 hb hd hs hr h5 h6 R hR w
        · by_cases hr : d < a
          · exact rrefine_4n k a b c d h hk h1 h2 hb hd hs hr R hR w
          · by_cases h5 : d < b
            · by_cases h6 : c < a
              · exact rrefine_4yy k a b c d h hk h1 h2 hb hd hs hr h5 h6 R hR w
              · exact rrefine_4yn k a b c d h hk h1 h2 hb hd hs hr h5 h6 R hR w
            · by_cases h6 : c < a
              · exact rrefine_4ny k a b c d h hk h1 h2 hb hd hs hr h5 h6 R hR w
              · exact rrefine_4nn k a b c d h hk h1 h2 hb hd hs hr h5 h6 R hR w
        · by_cases hr : b ≤ c
          · exact rrefine_5n k a b c d h hk h1 h2 hb hd hs hr R hR w
          · by_cases h5 : b ≤ d
            · by_cases h6 : a ≤ c
              · exact rrefine_5yy k a b c d h hk h1 h2 hb hd hs hr h5 h6 R hR w
              · exact rrefine_5yn k a b c d h hk h1 h2 hb hd hs hr h5 h6 R hR w
            · by_cases h6 : a ≤ c
              · exact rrefine_5ny k a b c d h hk h1 h2 hb hd hs hr h5 h6 R hR w
              · exact rrefine_5nn k a b c d h hk h1 h2 hb hd hs hr h5 h6 R hR w
        · by_cases hr : b < c
          · exact rrefine_6n k a b c d h hk h1 h2 hb hd hs hr R hR w
          · by_cases h5 : b < d
            · by_cases h6 : a < c
              · exact rrefine_6yy k a b c d h hk h1 h2 hb hd hs hr h5 h6 R hR w
              · exact rrefine_6yn k a b c d h hk h1 h2 hb hd hs hr h5 h6 R hR w
            · by_cases h6 : a < c
              · exact rrefine_6ny k a b c d h hk h1 h2 hb hd hs hr h5 h6 R hR w
              · exact rrefine_6nn k a b c d h hk h1 h2 hb hd hs hr h5 h6 R hR w
        · exact rrefine_7 k a b c d h hk h1 h2 hb hd hs R hR w
        · exact rrefine_8 k a b c d h hk h1 h2 hb hd hs R hR w
      cases h
      · by_cases h9 : k = 9
        · rw [h9, brRef_set a b c d h1 h2 hs] at hR
          exact rrefine_9 k a b c d false (Or.inr ⟨rfl, h9⟩) h1 h2 hb hd hs R (by rw [Wn (by decide)]; exact hR) w
        · rw [brRef_nay k a b c d k1 (by omega) h1 h2 hs] at hR
          have hn := not_eight k1 (show k ≤ 8 by omega)
          exact go (notV k) hn.1 hn.2 (Or.inr ⟨rfl, (notnot k1 (by omega)).symm⟩) hR
      · rw [brRef_yes k a b c d k1 k2 h1 h2 hs] at hR
        by_cases h9 : k = 9
        · exact rrefine_9 k a b c d true (Or.inl ⟨rfl, h9⟩) h1 h2 hb hd hs R (by rw [← h9]; exact hR) w
        · exact go k k1 (by omega) (Or.inl ⟨rfl, rfl⟩) hR
  · have e0 : brE k a b c d = 1 := by unfold brE; rw [if_neg hg]
    rw [e0]
    rw [brRef_bad k a b c d h hg] at hR
    exact rrefine_bad k a b c d h (by omega) R hR.symm w

end Go.Proofs.Ythhohiafhjhjhaa
