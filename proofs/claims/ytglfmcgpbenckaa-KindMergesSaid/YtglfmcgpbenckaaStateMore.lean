/- Small lemmas for the statements on States. -/
import Derived.Test.YtglfmcgpbenckaaStateMerge
import Derived.Test.YtglfmcgpbenckaaKindLaw
import Derived.Outline
namespace Go.Proofs.Ytglfmcgpbenckaa
open Go.RowKit
set_option linter.unusedVariables false
set_option linter.unusedSimpArgs false
theorem wpList_want {ops : Array Oper} {rest : List Oper} {o : Oper} {a : Act} {w : World} {Q : Exit → Act → World → Prop} (hw : Region.wanted o (yielded ops a.tmps) = true)
    (h : ∀ K : Act → World → Prop, (∀ a w, wpList Try.prog ops Q rest a w → K a w) → o.wp Try.prog a w K Q) : wpList Try.prog ops Q (o :: rest) a w := by
  rw [wpList, if_pos hw]
  exact .inl (h _ fun _ _ q => q)
theorem wpList_loadStG {ops : Array Oper} {rest : List Oper} {o : Oper} {a : Act} {w : World} {Q : Exit → Act → World → Prop} {s : St} {g : Nat} (hg : Has w g s) (x : Operand) (hw : Region.wanted o (yielded ops a.tmps) = true) (ho : o.op = .load 38 x)
    (hx : a.eval x = .pointer (some ⟨g, 0, none⟩)) (h : wpList Try.prog ops Q rest (a.put o.dst (.agg s.arr)) w) : wpList Try.prog ops Q (o :: rest) a w :=
  wpList_want hw fun _ hK => wp_load_row 38 x ho g hx 38 s.arr (0, 0) _ hg Try.underlying38 rfl (info38s s) (hK _ _ h)
/-- b tells whether all of the first n may be. -/
def AllOk (s : St) (n : Nat) (b : Bool) : Prop := b = true ↔ ∀ i, i < n → Wok (s.f i)
theorem no_step {s : St} (lo j : Nat) (h : AllOk s (lo + j) false) : AllOk s (lo + (j + 1)) false :=
  ⟨fun q => (by cases q), fun q => h.2 fun i hi => q i (by omega)⟩
theorem may_step {s : St} (lo j : Nat) {x : Wh} {v : Bool} (h : AllOk s (lo + j) true) (hx : s.f (lo + j) = x) (hv : whMay x = v) : AllOk s (lo + (j + 1)) v := by
  subst hv hx
  unfold whMay AllOk
  rw [decide_eq_true_iff]
  constructor
  · intro q
    exact upto_succ (j := lo + j) (h.1 rfl) q
  · intro q
    exact q _ (by omega)
theorem eqB_junk0 (y : Wh) (h : y = junk) : eqB y.k y.t y.i y.l y.m (y.a : Nat) (y.b : Nat) 0 0 0 0 false 0 0 = true := by subst h; decide
theorem forget_all (s : St) (k : Int) (i : Nat) (hi : i < 18) : ((s.forget k 0 0 10).forget k 0 10 8).f i = gone k 0 (s.f i) := by
  unfold St.forget
  dsimp only
  by_cases h : i < 10
  · rw [if_neg (by omega), if_pos (by omega)]
  · rw [if_pos (by omega), if_neg (by omega)]
theorem merge_self (s : St) (xs : List Int) (h : ∀ i, i < 18 → Wok (s.f i)) : Alike17 s (((s.mrg s 0 10).mrg s 10 8).withN (max s.n s.n)) xs xs := by
  refine ⟨fun i hi => ?_, rfl, rfl, rfl, (Int.max_self s.n).symm⟩
  have hw := h i hi
  unfold St.withN St.mrg
  dsimp only
  by_cases h : i < 10
  · rw [if_neg (by omega), if_pos (by omega), J_self hw]
  · rw [if_pos (by omega), if_neg (by omega), J_self hw]
end Go.Proofs.Ytglfmcgpbenckaa
