
/- The plain law of chapter 17: what is known of a register, no program in sight. -/
import Derived.Test.YtglfmcgpbenckaaSpanPlain
namespace Go.Proofs.Ytglfmcgpbenckaa
open Go.RowKit
set_option linter.unusedVariables false
set_option linter.unusedSimpArgs false

/-- what a register holds: kind, type, number, link, maybe, and the span's two ends. -/
structure Wh where
  k : Int
  t : Int
  i : Int
  l : Int
  m : Bool
  a : Nat
  b : Nat
def Wh.eqs (x y : Wh) : Prop := x.k = y.k ∧ x.t = y.t ∧ x.i = y.i ∧ x.l = y.l ∧ x.m = y.m ∧ x.a = y.a ∧ x.b = y.b
theorem Wh.eqs_iff (x y : Wh) : x.eqs y ↔ x = y := by
  constructor
  · intro h
    obtain ⟨h1, h2, h3, h4, h5, h6, h7⟩ := h
    cases x; cases y; simp_all
  · rintro rfl; exact ⟨rfl, rfl, rfl, rfl, rfl, rfl, rfl⟩
instance (x y : Wh) : Decidable (x.eqs y) := by unfold Wh.eqs; infer_instance
instance : DecidableEq Wh := fun x y => decidable_of_iff _ (Wh.eqs_iff x y)
def junk : Wh := ⟨0, 0, 0, 0, false, 0, 0⟩
def nullW : Wh := ⟨2, 0, 0, 0, false, 0, 0⟩
def Wh.sure (x : Wh) : Wh := ⟨x.k, x.t, x.i, x.l, false, x.a, x.b⟩
def Wh.maybe (x : Wh) : Wh := ⟨x.k, x.t, x.i, x.l, true, x.a, x.b⟩
/-- may it be? -/
def Wok (x : Wh) : Prop :=
  ((x.k = 0 ∨ x.k = 2) ∧ x.a = 0 ∧ x.b = 0 ∧ x.t = 0 ∧ x.i = 0 ∧ x.l = 0 ∧ x.m = false)
  ∨ (x.k = 1 ∧ x.a ≤ x.b ∧ x.t = 0 ∧ x.i = 0 ∧ x.l = 0 ∧ x.m = false)
  ∨ ((x.k = 3 ∨ x.k = 5) ∧ x.a = 0 ∧ x.b = 0 ∧ 0 ≤ x.t ∧ 1 ≤ x.i ∧ x.l = 0)
  ∨ (x.k = 4 ∧ x.a = 0 ∧ x.b = 0 ∧ 0 ≤ x.t ∧ 1 ≤ x.i ∧ 0 ≤ x.l)
  ∨ (x.k = 6 ∧ x.a = 0 ∧ x.b = 0 ∧ 0 ≤ x.t ∧ x.i = 0 ∧ x.l = 0)
instance (x : Wh) : Decidable (Wok x) := by unfold Wok; infer_instance
def whMay (x : Wh) : Bool := decide (Wok x)
def ptr (k : Int) : Prop := 3 ≤ k ∧ k ≤ 6
instance (k : Int) : Decidable (ptr k) := by unfold ptr; infer_instance
def lone (k : Int) : Prop := k = 4 ∨ k = 6
instance (k : Int) : Decidable (lone k) := by unfold lone; infer_instance
/-- what is known where either is. -/
def whJoin (x y : Wh) : Wh :=
  if ¬ (Wok x ∧ Wok y) then junk
  else if x = y then x
  else if x.k = 1 ∧ y.k = 1 then ⟨1, 0, 0, 0, false, min x.a y.a, max x.b y.b⟩
  else if ptr x.k ∧ x.maybe = y.maybe ∨ lone x.k ∧ y.k = 2 then x.maybe
  else if lone y.k ∧ x.k = 2 then y.maybe
  else junk
/-- what is known where it is none, or isn't. -/
def whSplit (x : Wh) (none : Bool) : Wh :=
  if x.k = 2 ∧ none = true then nullW
  else if ¬ ptr x.k ∨ none = true ∧ x.m = false then junk
  else if none = true then nullW
  else x.sure
def whCan (x : Wh) (none : Bool) : Bool :=
  if x.k = 2 ∧ none = true then true
  else if ¬ ptr x.k ∨ none = true ∧ x.m = false then false
  else true

/-- are seven cells and seven others the same? -/
def eqB (k t i l : Int) (m : Bool) (a b : Int) (k' t' i' l' : Int) (m' : Bool) (a' b' : Int) : Bool :=
  decide (k = k' ∧ t = t' ∧ i = i' ∧ l = l' ∧ m = m' ∧ a = a' ∧ b = b')
theorem eqB_wh (x y : Wh) : eqB x.k x.t x.i x.l x.m x.a x.b y.k y.t y.i y.l y.m y.a y.b = decide (x = y) := by
  unfold eqB
  by_cases h : x = y
  · rw [decide_eq_true h]; subst h; simp
  · rw [decide_eq_false h, decide_eq_false_iff_not]
    intro q
    apply h
    rw [← Wh.eqs_iff]
    obtain ⟨h1, h2, h3, h4, h5, h6, h7⟩ := q
    exact ⟨h1, h2, h3, h4, h5, by omega, by omega⟩
end Go.Proofs.Ytglfmcgpbenckaa
