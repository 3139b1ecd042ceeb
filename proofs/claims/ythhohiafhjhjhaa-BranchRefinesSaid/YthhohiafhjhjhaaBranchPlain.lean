
/- The plain law of chapter 9: what spans become behind a condition, no program in sight. -/
import Derived.Test.YthhohiafhjhjhaaSpanPlain
namespace Go.Proofs.Ythhohiafhjhjhaa
open Go.RowKit

/-- two spans, and whether that can be. -/
structure Br where
  a : Nat
  b : Nat
  c : Nat
  d : Nat
  can : Bool
def brNo : Br := ⟨0, 0, 0, 0, false⟩
/-- a span without a number, if that is an end. -/
def wout (a b c d : Nat) : Nat × Nat := if c = d ∧ ¬ a = b then (if a = c then (a + 1, b) else if b = c then (a, b - 1) else (a, b)) else (a, b)
def brWhere (k : Int) (a b c d : Nat) : Br :=
  if k = 1 then (if max a c ≤ min b d then ⟨max a c, min b d, max a c, min b d, true⟩ else brNo)
  else if k = 2 then ⟨(wout a b c d).1, (wout a b c d).2, (wout c d a b).1, (wout c d a b).2, true⟩
  else if k = 3 then (if d ≤ a then brNo else ⟨a, min b (d - 1), max c (a + 1), d, true⟩)
  else if k = 4 then (if d < a then brNo else ⟨a, min b d, max c a, d, true⟩)
  else if k = 5 then (if b ≤ c then brNo else ⟨max a (c + 1), b, c, min d (b - 1), true⟩)
  else if k = 6 then (if b < c then brNo else ⟨max a c, b, c, min d b, true⟩)
  else ⟨a, b, c, d, true⟩
def brRef (k : Int) (a b c d : Nat) (h : Bool) : Br :=
  if (1 ≤ k ∧ k ≤ 9) ∧ a ≤ b ∧ c ≤ d then
    (if a = b ∧ c = d then (if holdsV k a c = h then ⟨a, b, c, d, true⟩ else brNo)
     else if h = true then brWhere k a b c d else if k = 9 then ⟨a, b, c, d, true⟩ else brWhere (notV k) a b c d)
  else brNo
def brE (k : Int) (a b c d : Nat) : Int := if (1 ≤ k ∧ k ≤ 9) ∧ a ≤ b ∧ c ≤ d then 0 else 1
end Go.Proofs.Ythhohiafhjhjhaa
