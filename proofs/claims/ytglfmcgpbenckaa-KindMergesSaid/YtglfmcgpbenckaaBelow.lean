
/- Small lemmas for walks: what stands below a world's size. -/
import Derived.WalkKit
import Derived.Deep.Draws
import Derived.Lib.Hide
namespace Go.Proofs.Ytglfmcgpbenckaa
open Go.RowKit

theorem bcell {W w1 : World} (hb : Below W.heap.size W w1) : (∀ b o, b < W.heap.size → w1.cell? ⟨b, o, none⟩ = W.cell? ⟨b, o, none⟩) ∧ (∀ b o, b < W.heap.size → w1.frozen? ⟨b, o, none⟩ = W.frozen? ⟨b, o, none⟩) :=
  ⟨fun b o h => hb.cell (p := ⟨b, o, none⟩) h, fun b o h => hb.frozen (p := ⟨b, o, none⟩) h⟩
theorem below_then {w W w1 : World} (h : Below w.heap.size w W) (k : Below W.heap.size W w1) : Below w.heap.size w w1 := h.trans (k.mono h.size)
theorem below_alloc {w W : World} (h : Below w.heap.size w W) (o : Obj) : Below w.heap.size w (W.alloc o) := h.alloc h.size o
theorem below_drew {w W : World} (h : Below w.heap.size w W) : Below w.heap.size w W.drew := h.drew
theorem below_set {w W : World} (h : Below w.heap.size w W) {p : Addr} (hp : w.heap.size ≤ p.block) (u : Value) : Below w.heap.size w (W.setCell p u) := h.setCell hp u
theorem below_draws {w W : World} (h : Below w.heap.size w W) (n : Nat) : Below w.heap.size w (W.drewN n) := ⟨h.os, h.tape, h.output, h.size, h.block⟩
theorem up0 {a b : Nat} (h : a ≤ b) : ∀ x, x < a → x < b := fun x hx => by omega
theorem up1 {a b : Nat} (h : a + 1 ≤ b) : a < b ∧ ∀ x, x < a → x < b := ⟨by omega, fun x hx => by omega⟩
theorem up2 {a b : Nat} (h : a + 1 + 1 ≤ b) : a < b ∧ a + 1 < b ∧ ∀ x, x < a → x < b := ⟨by omega, by omega, fun x hx => by omega⟩
theorem up3 {a b : Nat} (h : a + 1 + 1 + 1 ≤ b) : a < b ∧ a + 1 < b ∧ a + 1 + 1 < b ∧ ∀ x, x < a → x < b := ⟨by omega, by omega, by omega, fun x hx => by omega⟩
theorem up4 {a b : Nat} (h : a + 1 + 1 + 1 + 1 ≤ b) : a < b ∧ a + 1 < b ∧ a + 1 + 1 < b ∧ a + 1 + 1 + 1 < b ∧ ∀ x, x < a → x < b := ⟨by omega, by omega, by omega, by omega, fun x hx => by omega⟩
theorem up5 {a b : Nat} (h : a + 1 + 1 + 1 + 1 + 1 ≤ b) : a < b ∧ a + 1 < b ∧ a + 1 + 1 < b ∧ a + 1 + 1 + 1 < b ∧ a + 1 + 1 + 1 + 1 < b ∧ ∀ x, x < a → x < b := ⟨by omega, by omega, by omega, by omega, by omega, fun x hx => by omega⟩
theorem up6 {a b : Nat} (h : a + 1 + 1 + 1 + 1 + 1 + 1 ≤ b) : a < b ∧ a + 1 < b ∧ a + 1 + 1 < b ∧ a + 1 + 1 + 1 < b ∧ a + 1 + 1 + 1 + 1 < b ∧ a + 1 + 1 + 1 + 1 + 1 < b ∧ ∀ x, x < a → x < b := ⟨by omega, by omega, by omega, by omega, by omega, by omega, fun x hx => by omega⟩
theorem up7 {a b : Nat} (h : a + 1 + 1 + 1 + 1 + 1 + 1 + 1 ≤ b) : a < b ∧ a + 1 < b ∧ a + 1 + 1 < b ∧ a + 1 + 1 + 1 < b ∧ a + 1 + 1 + 1 + 1 < b ∧ a + 1 + 1 + 1 + 1 + 1 < b ∧ a + 1 + 1 + 1 + 1 + 1 + 1 < b ∧ ∀ x, x < a → x < b := ⟨by omega, by omega, by omega, by omega, by omega, by omega, by omega, fun x hx => by omega⟩
theorem up8 {a b : Nat} (h : a + 1 + 1 + 1 + 1 + 1 + 1 + 1 + 1 ≤ b) : a < b ∧ a + 1 < b ∧ a + 1 + 1 < b ∧ a + 1 + 1 + 1 < b ∧ a + 1 + 1 + 1 + 1 < b ∧ a + 1 + 1 + 1 + 1 + 1 < b ∧ a + 1 + 1 + 1 + 1 + 1 + 1 < b ∧ a + 1 + 1 + 1 + 1 + 1 + 1 + 1 < b ∧ ∀ x, x < a → x < b := ⟨by omega, by omega, by omega, by omega, by omega, by omega, by omega, by omega, fun x hx => by omega⟩
theorem up9 {a b : Nat} (h : a + 1 + 1 + 1 + 1 + 1 + 1 + 1 + 1 + 1 ≤ b) : a < b ∧ a + 1 < b ∧ a + 1 + 1 < b ∧ a + 1 + 1 + 1 < b ∧ a + 1 + 1 + 1 + 1 < b ∧ a + 1 + 1 + 1 + 1 + 1 < b ∧ a + 1 + 1 + 1 + 1 + 1 + 1 < b ∧ a + 1 + 1 + 1 + 1 + 1 + 1 + 1 < b ∧ a + 1 + 1 + 1 + 1 + 1 + 1 + 1 + 1 < b ∧ ∀ x, x < a → x < b := ⟨by omega, by omega, by omega, by omega, by omega, by omega, by omega, by omega, by omega, fun x hx => by omega⟩
theorem up10 {a b : Nat} (h : a + 1 + 1 + 1 + 1 + 1 + 1 + 1 + 1 + 1 + 1 ≤ b) : a < b ∧ a + 1 < b ∧ a + 1 + 1 < b ∧ a + 1 + 1 + 1 < b ∧ a + 1 + 1 + 1 + 1 < b ∧ a + 1 + 1 + 1 + 1 + 1 < b ∧ a + 1 + 1 + 1 + 1 + 1 + 1 < b ∧ a + 1 + 1 + 1 + 1 + 1 + 1 + 1 < b ∧ a + 1 + 1 + 1 + 1 + 1 + 1 + 1 + 1 < b ∧ a + 1 + 1 + 1 + 1 + 1 + 1 + 1 + 1 + 1 < b ∧ ∀ x, x < a → x < b := ⟨by omega, by omega, by omega, by omega, by omega, by omega, by omega, by omega, by omega, by omega, fun x hx => by omega⟩
theorem up11 {a b : Nat} (h : a + 1 + 1 + 1 + 1 + 1 + 1 + 1 + 1 + 1 + 1 + 1 ≤ b) : a < b ∧ a + 1 < b ∧ a + 1 + 1 < b ∧ a + 1 + 1 + 1 < b ∧ a + 1 + 1 + 1 + 1 < b ∧ a + 1 + 1 + 1 + 1 + 1 < b ∧ a + 1 + 1 + 1 + 1 + 1 + 1 < b ∧ a + 1 + 1 + 1 + 1 + 1 + 1 + 1 < b ∧ a + 1 + 1 + 1 + 1 + 1 + 1 + 1 + 1 < b ∧ a + 1 + 1 + 1 + 1 + 1 + 1 + 1 + 1 + 1 < b ∧ a + 1 + 1 + 1 + 1 + 1 + 1 + 1 + 1 + 1 + 1 < b ∧ ∀ x, x < a → x < b := ⟨by omega, by omega, by omega, by omega, by omega, by omega, by omega, by omega, by omega, by omega, by omega, fun x hx => by omega⟩
theorem up12 {a b : Nat} (h : a + 1 + 1 + 1 + 1 + 1 + 1 + 1 + 1 + 1 + 1 + 1 + 1 ≤ b) : a < b ∧ a + 1 < b ∧ a + 1 + 1 < b ∧ a + 1 + 1 + 1 < b ∧ a + 1 + 1 + 1 + 1 < b ∧ a + 1 + 1 + 1 + 1 + 1 < b ∧ a + 1 + 1 + 1 + 1 + 1 + 1 < b ∧ a + 1 + 1 + 1 + 1 + 1 + 1 + 1 < b ∧ a + 1 + 1 + 1 + 1 + 1 + 1 + 1 + 1 < b ∧ a + 1 + 1 + 1 + 1 + 1 + 1 + 1 + 1 + 1 < b ∧ a + 1 + 1 + 1 + 1 + 1 + 1 + 1 + 1 + 1 + 1 < b ∧ a + 1 + 1 + 1 + 1 + 1 + 1 + 1 + 1 + 1 + 1 + 1 < b ∧ ∀ x, x < a → x < b := ⟨by omega, by omega, by omega, by omega, by omega, by omega, by omega, by omega, by omega, by omega, by omega, by omega, fun x hx => by omega⟩
end Go.Proofs.Ytglfmcgpbenckaa
