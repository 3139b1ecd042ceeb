
/- How an api.Span that came in reads: two numbers of 64 bits. -/
import Derived.Test.YthhohiafhjhjhaaAluPlain
import Derived.Test.YthhohiafhjhjhaaRows
import Derived.ProofKit
import Derived.OpenShut
import Derived.Lib.SmallJoins
namespace Go.Proofs.Ythhohiafhjhjhaa
open Go.ChangeShapes Go.WideShapes Go.ChangeAt Go.RowKit Go.Joins

theorem cellsSp : Try.prog.cellsOf 24 = 2 := by kernel_rfl
theorem nat_u64 {n : Int} (w : (Lit.int .u64 n).wf = true) : ∃ x : Nat, n = (x : Int) ∧ x < M := by
  obtain ⟨h0, h1⟩ := bounds_u64 w
  obtain ⟨x, rfl⟩ := Int.eq_ofNat_of_zero_le h0
  exact ⟨x, rfl, by unfold M; omega⟩
theorem open_span {H : Type} {enc : TypeId × Value → H} {W : World} {base : Nat} {spare : Nat → Bool} {held : Bool} {v : Value} {d : DataW H} {p : List MemPlace}
    (hv : Value.okWide Try.prog W .any base 24 v) (h : DataW.Trod enc Try.prog W 0 spare held 24 v d p) :
    ∃ x y : Nat, v = .agg #[.int .u64 (x : Int), .int .u64 (y : Int)] ∧ x < M ∧ y < M := by
  obtain ⟨c0, c1, y0, y1, m, rfl, rfl, rfl, hy0, hy1⟩ := open_agg2 Try.underlying24 (by kernel_rfl) cellsSp hv h
  obtain ⟨a, e0, rfl, wa⟩ := DataW.trod_int Try.underlying22 hy0
  obtain ⟨b, e1, rfl, wb⟩ := DataW.trod_int Try.underlying22 hy1
  simp at e0 e1
  subst e0 e1
  obtain ⟨x, rfl, hx⟩ := nat_u64 wa
  obtain ⟨y, rfl, hy⟩ := nat_u64 wb
  exact ⟨x, y, rfl, hx, hy⟩
end Go.Proofs.Ythhohiafhjhjhaa
