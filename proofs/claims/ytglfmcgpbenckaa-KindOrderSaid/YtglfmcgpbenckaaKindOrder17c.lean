
/- The walk of chapter 17's statement KindOrder, whole. -/
import Derived.Test.YtglfmcgpbenckaaKindOrder17
import Derived.Test.YtglfmcgpbenckaaKindOrder17b
import Derived.Test.YtglfmcgpbenckaaKindSplit17c
namespace Go.Proofs.Ytglfmcgpbenckaa
open Go.RowKit
set_option linter.unusedVariables false
set_option linter.unusedSimpArgs false

theorem eqB_yes (R : Wh) (h : R = junk) : eqB R.k R.t R.i R.l R.m (R.a : Nat) (R.b : Nat) 0 0 0 0 false 0 0 = true := by subst h; decide
theorem eqB_no (R : Wh) (h : ¬ R = junk) : eqB R.k R.t R.i R.l R.m (R.a : Nat) (R.b : Nat) 0 0 0 0 false 0 0 = false := by
  have e := eqB_wh R junk
  rw [decide_eq_false h] at e
  exact e

theorem kindOrder_walk (x y z : Wh) (w : World) :
    Calls Try.prog 3 #[.agg #[.int .i64 x.k, .int .i64 x.t, .int .i64 x.i, .int .i64 x.l, .bool x.m, .int .u64 (x.a : Nat), .int .u64 (x.b : Nat)], .agg #[.int .i64 y.k, .int .i64 y.t, .int .i64 y.i, .int .i64 y.l, .bool y.m, .int .u64 (y.a : Nat), .int .u64 (y.b : Nat)], .agg #[.int .i64 z.k, .int .i64 z.t, .int .i64 z.i, .int .i64 z.l, .bool z.m, .int .u64 (z.a : Nat), .int .u64 (z.b : Nat)]] w fun e w' => e = .returned (.bool true) ∧ Below w.heap.size w w' := by
  have C1 := kjoin_any x y
  have C2 := kjoin_any y z (whJoin y z) rfl
  have C3 := kjoin_any y x
  by_cases hx : Wok x
  · have M2 := kmay_wh x true (by unfold whMay; simp [hx])
    have C4 := kjoin_any x x x (J_self hx)
    have hv : Wok (whJoin x y) := J_valid x y
    have M1 := kmay_wh (whJoin x y) true (by unfold whMay; simp [hv])
    have C5 := kjoin_any (whJoin x y) (whJoin x y) (whJoin x y) (J_self hv)
    have D1 := C1 (whJoin x y) rfl
    have D3 := C3 (whJoin x y) (J_comm y x)
    by_cases h0 : whJoin x y = junk
    · exact order_0 x y z _ _ D1 C2 D3 M1 M2 C4 C5 (eqB_eq _ _ rfl) (eqB_eq _ _ rfl) (eqB_yes _ h0) w
    · have n0 := eqB_no _ h0
      by_cases h1 : whJoin y z = junk
      · exact order_1 x y z _ _ D1 C2 D3 M1 M2 C4 C5 (eqB_eq _ _ rfl) (eqB_eq _ _ rfl) n0 (eqB_yes _ h1) w
      · have n1 := eqB_no _ h1
        have C6 := kjoin_any x z (whJoin x z) rfl
        by_cases h2 : whJoin x z = junk
        · exact order_2 x y z _ _ D1 C2 D3 M1 M2 C4 C5 (eqB_eq _ _ rfl) (eqB_eq _ _ rfl) n0 n1 _ C6 (eqB_yes _ h2) w
        · have n2 := eqB_no _ h2
          have h9 := (J_assoc x y z h0 h1 h2).2
          exact order_3 x y z _ _ D1 C2 D3 M1 M2 C4 C5 (eqB_eq _ _ rfl) (eqB_eq _ _ rfl) n0 n1 _ (whJoin (whJoin x y) z) C6 n2 (kjoin_any _ _ _ rfl) (kjoin_any _ _ _ (J_assoc x y z h0 h1 h2).1.symm) (eqB_eq _ _ rfl) (kjoin_any _ _ _ h9) w
  · have M2 := kmay_wh x false (by unfold whMay; simp [hx])
    exact order_bad x y z junk _ (C1 junk (J_bad_l hx y)) C2 (C3 junk (J_bad_r y hx)) (kmay_wh junk true (by decide)) M2 (kjoin_any junk junk junk (by decide)) (eqB_eq _ _ rfl) (eqB_eq _ _ rfl) (by decide) w

end Go.Proofs.Ytglfmcgpbenckaa
