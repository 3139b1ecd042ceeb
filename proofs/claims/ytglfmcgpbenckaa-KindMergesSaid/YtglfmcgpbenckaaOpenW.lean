
/- How an api.What that came in reads: a Wh. -/
import Derived.Test.YtglfmcgpbenckaaKindPlain
import Derived.Test.YtglfmcgpbenckaaRows
import Derived.ProofKit
import Derived.OpenShut
import Derived.Lib.SmallJoins
namespace Go.Proofs.Ytglfmcgpbenckaa
open Go.ChangeShapes Go.WideShapes Go.ChangeAt Go.RowKit Go.Joins

theorem cellsU : Try.prog.cellsOf 22 = 1 := by kernel_rfl
theorem cellsI : Try.prog.cellsOf 3 = 1 := by kernel_rfl
theorem cellsB : Try.prog.cellsOf 4 = 1 := by kernel_rfl
theorem cellsSp : Try.prog.cellsOf 24 = 2 := by kernel_rfl
theorem cellsWh : Try.prog.cellsOf 26 = 7 := by kernel_rfl
theorem nat_u64 {n : Int} (w : (Lit.int .u64 n).wf = true) : ∃ x : Nat, n = (x : Int) ∧ x < M := by
  obtain ⟨h0, h1⟩ := bounds_u64 w
  obtain ⟨x, rfl⟩ := Int.eq_ofNat_of_zero_le h0
  exact ⟨x, rfl, by unfold M; omega⟩
theorem trod_span_cells {H : Type} {enc : TypeId × Value → H} {W : World} {base : Nat} {spare : Nat → Bool} {held : Bool} {fuel : Nat} {cs : List Value} {x : DataW H × List MemPlace}
    (h : DataW.trod enc Try.prog W base spare held fuel 24 cs = some x) : ∃ a b : Nat, cs = [.int .u64 (a : Int), .int .u64 (b : Int)] := by
  obtain ⟨xs, n, -, hx, hl, hlen, hg⟩ := DataW.trod_struct Try.underlying24 h
  rw [cellsSp] at hl
  match cs, hl with
  | [c0, c1], _ =>
    match xs, hlen with
    | [y0, y1], _ =>
      have h0 := hg 0 _ rfl
      have h1 := hg 1 _ rfl
      simp [cellsU] at h0 h1
      obtain ⟨a, e0, -, wa⟩ := DataW.trod_int Try.underlying22 h0
      obtain ⟨b, e1, -, wb⟩ := DataW.trod_int Try.underlying22 h1
      simp at e0 e1
      subst e0 e1
      obtain ⟨a, rfl, -⟩ := nat_u64 wa
      obtain ⟨b, rfl, -⟩ := nat_u64 wb
      exact ⟨a, b, rfl⟩
def Wh.cells (x : Wh) : List Value := [.int .i64 x.k, .int .i64 x.t, .int .i64 x.i, .int .i64 x.l, .bool x.m, .int .u64 (x.a : Nat), .int .u64 (x.b : Nat)]
theorem trod_what_cells {H : Type} {enc : TypeId × Value → H} {W : World} {base : Nat} {spare : Nat → Bool} {held : Bool} {fuel : Nat} {cs : List Value} {x : DataW H × List MemPlace}
    (h : DataW.trod enc Try.prog W base spare held fuel 26 cs = some x) : ∃ q : Wh, cs = q.cells := by
  obtain ⟨xs, n, -, hx, hl, hlen, hg⟩ := DataW.trod_struct Try.underlying26 h
  rw [cellsWh] at hl
  match cs, hl with
  | [c0, c1, c2, c3, c4, c5, c6], _ =>
    match xs, hlen with
    | [y0, y1, y2, y3, y4, y5], _ =>
      have h0 := hg 0 _ rfl
      have h1 := hg 1 _ rfl
      have h2 := hg 2 _ rfl
      have h3 := hg 3 _ rfl
      have h4 := hg 4 _ rfl
      have h5 := hg 5 _ rfl
      simp [cellsI, cellsB, cellsSp] at h0 h1 h2 h3 h4 h5
      obtain ⟨k, e0, -, -⟩ := DataW.trod_int Try.underlying3 h0
      obtain ⟨t, e1, -, -⟩ := DataW.trod_int Try.underlying3 h1
      obtain ⟨i, e2, -, -⟩ := DataW.trod_int Try.underlying3 h2
      obtain ⟨l, e3, -, -⟩ := DataW.trod_int Try.underlying3 h3
      obtain ⟨m, e4, -⟩ := DataW.trod_bool Try.underlying4 h4
      obtain ⟨a, b, e5⟩ := trod_span_cells h5
      simp at e0 e1 e2 e3 e4 e5
      obtain ⟨e5, e6⟩ := e5
      subst e0 e1 e2 e3 e4 e5 e6
      exact ⟨⟨k, t, i, l, m, a, b⟩, rfl⟩
theorem open_what {H : Type} {enc : TypeId × Value → H} {W : World} {base : Nat} {spare : Nat → Bool} {held : Bool} {v : Value} {d : DataW H} {p : List MemPlace}
    (hv : Value.okWide Try.prog W .any base 26 v) (h : DataW.Trod enc Try.prog W 0 spare held 26 v d p) :
    ∃ x : Wh, v = .agg #[.int .i64 x.k, .int .i64 x.t, .int .i64 x.i, .int .i64 x.l, .bool x.m, .int .u64 (x.a : Nat), .int .u64 (x.b : Nat)] := by
  obtain ⟨cs, rfl, hsz⟩ := okWide_struct Try.underlying26 hv
  obtain ⟨fuel, hf⟩ := h
  obtain ⟨q, hq⟩ := trod_what_cells hf
  refine ⟨q, ?_⟩
  obtain ⟨l⟩ := cs
  have e : l = q.cells := hq
  rw [e]; rfl
end Go.Proofs.Ytglfmcgpbenckaa
