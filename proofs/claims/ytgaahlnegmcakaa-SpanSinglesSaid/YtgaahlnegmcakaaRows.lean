/-
  No cell of these rows narrows 'for every input' (looked for: loops, veiled, ifaces, maps, wideKeys, modest, calm, conditions, laid).
  DERIVED. THE GIVEN ROWS OF THIS SEAT. 8 by the template 'for every input the law returns true; each argument reads behind the call as it read before'; 0 by the template 'total and deterministic' (their statements: YtgaahlnegmcakaaTotals.lean).
  GIVEN WITH THE SEED: the statements are not yours to turn. If you find one false, say at which input.
  Laid BY PROGRAM, IN A SANDBOX (cutbox-rows.mjs): the forced cells as the released guide's own fill.sh prints them over the translation 80282763c1071a7b… (all of the seat's roots in one cut). By AI agents, Wed Nov 11 2026. No macro, syntax, notation, axiom, sorry.
-/
import Derived.Test.YtgaahlnegmcakaaChecked
import GoSem.Claim
import GoSem.ClaimJoined
import GoSem.ClaimMapViews
import Derived.JoinedTies
import Derived.KernelRfl
namespace Go.Proofs.Ytgaahlnegmcakaa
/- THE CELL 'sum', in the pinned program and in every row, IS THE sha256 OF THE DUMP (.gsa) THAT YtgaahlnegmcakaaProg.lean LOADS. Nothing in Lean hashes anything: it is a label: what it is worth is what the hold of that sum in a sandbox is worth. -/
noncomputable def Try.pinned : Pinned := { name := "ytgaahlnegmcakaa", sum := "80282763c1071a7b6748f646313923f84f75ab28ca619aef15b54ed0807360d1", checked := Try.checked }
namespace Rows
def none {H : Type} : Left H := { results := [], args := [] }

/-- 'turnbucklelaw08.SpanDoes': WHATEVER THE INPUT: true; the input reads as it did. -/
def spanDoesSpec : ChangeSpec := { name := "spanDoes", fn := fun _ => fun
  | [d1, d2, d3] => { results := [.lit (.bool true)], args := [d1, d2, d3] }
  | _ => none }
def spanDoesRow : OpenClaim := { program := "ytgaahlnegmcakaa", sum := "80282763c1071a7b6748f646313923f84f75ab28ca619aef15b54ed0807360d1", func := "turnbuckle/turnbucklelaw08.SpanDoes", spec := "spanDoes", inPlace := ["math/bits.Add64"], apart := false }
def SpanDoesSaid : Prop := spanDoesRow.holds Try.pinned (OpenSpec.ofChange spanDoesSpec)

/-- ITS FALSE NEIGHBOUR: 'it returns false'. Refute it at one input. -/
def spanDoesWrong : ChangeSpec := { name := "spanDoes", fn := fun _ => fun
  | [d1, d2, d3] => { results := [.lit (.bool false)], args := [d1, d2, d3] }
  | _ => none }
def SpanDoesWrongFalsely : Prop := spanDoesRow.holds Try.pinned (OpenSpec.ofChange spanDoesWrong)

/-- 'turnbucklelaw08.SpanSound': WHATEVER THE INPUT: true; the input reads as it did. -/
def spanSoundSpec : ChangeSpec := { name := "spanSound", fn := fun _ => fun
  | [d1, d2, d3, d4, d5] => { results := [.lit (.bool true)], args := [d1, d2, d3, d4, d5] }
  | _ => none }
def spanSoundRow : OpenClaim := { program := "ytgaahlnegmcakaa", sum := "80282763c1071a7b6748f646313923f84f75ab28ca619aef15b54ed0807360d1", func := "turnbuckle/turnbucklelaw08.SpanSound", spec := "spanSound", inPlace := ["math/bits.Add64"], apart := false }
def SpanSoundSaid : Prop := spanSoundRow.holds Try.pinned (OpenSpec.ofChange spanSoundSpec)

/-- ITS FALSE NEIGHBOUR: 'it returns false'. Refute it at one input. -/
def spanSoundWrong : ChangeSpec := { name := "spanSound", fn := fun _ => fun
  | [d1, d2, d3, d4, d5] => { results := [.lit (.bool false)], args := [d1, d2, d3, d4, d5] }
  | _ => none }
def SpanSoundWrongFalsely : Prop := spanSoundRow.holds Try.pinned (OpenSpec.ofChange spanSoundWrong)

/-- 'turnbucklelaw08.SpanAsks': WHATEVER THE INPUT: true; the input reads as it did. -/
def spanAsksSpec : ChangeSpec := { name := "spanAsks", fn := fun _ => fun
  | [d1, d2, d3] => { results := [.lit (.bool true)], args := [d1, d2, d3] }
  | _ => none }
def spanAsksRow : OpenClaim := { program := "ytgaahlnegmcakaa", sum := "80282763c1071a7b6748f646313923f84f75ab28ca619aef15b54ed0807360d1", func := "turnbuckle/turnbucklelaw08.SpanAsks", spec := "spanAsks", inPlace := ["math/bits.Add64"], apart := false }
def SpanAsksSaid : Prop := spanAsksRow.holds Try.pinned (OpenSpec.ofChange spanAsksSpec)

/-- ITS FALSE NEIGHBOUR: 'it returns false'. Refute it at one input. -/
def spanAsksWrong : ChangeSpec := { name := "spanAsks", fn := fun _ => fun
  | [d1, d2, d3] => { results := [.lit (.bool false)], args := [d1, d2, d3] }
  | _ => none }
def SpanAsksWrongFalsely : Prop := spanAsksRow.holds Try.pinned (OpenSpec.ofChange spanAsksWrong)

/-- 'turnbucklelaw08.SpanSingles': WHATEVER THE INPUT: true; the input reads as it did. -/
def spanSinglesSpec : ChangeSpec := { name := "spanSingles", fn := fun _ => fun
  | [d1, d2, d3] => { results := [.lit (.bool true)], args := [d1, d2, d3] }
  | _ => none }
def spanSinglesRow : OpenClaim := { program := "ytgaahlnegmcakaa", sum := "80282763c1071a7b6748f646313923f84f75ab28ca619aef15b54ed0807360d1", func := "turnbuckle/turnbucklelaw08.SpanSingles", spec := "spanSingles", inPlace := ["math/bits.Add64"], apart := false }
def SpanSinglesSaid : Prop := spanSinglesRow.holds Try.pinned (OpenSpec.ofChange spanSinglesSpec)

/-- ITS FALSE NEIGHBOUR: 'it returns false'. Refute it at one input. -/
def spanSinglesWrong : ChangeSpec := { name := "spanSingles", fn := fun _ => fun
  | [d1, d2, d3] => { results := [.lit (.bool false)], args := [d1, d2, d3] }
  | _ => none }
def SpanSinglesWrongFalsely : Prop := spanSinglesRow.holds Try.pinned (OpenSpec.ofChange spanSinglesWrong)

/-- 'turnbucklelaw08.SpanNarrow': WHATEVER THE INPUT: true; the input reads as it did. -/
def spanNarrowSpec : ChangeSpec := { name := "spanNarrow", fn := fun _ => fun
  | [d1, d2, d3, d4] => { results := [.lit (.bool true)], args := [d1, d2, d3, d4] }
  | _ => none }
def spanNarrowRow : OpenClaim := { program := "ytgaahlnegmcakaa", sum := "80282763c1071a7b6748f646313923f84f75ab28ca619aef15b54ed0807360d1", func := "turnbuckle/turnbucklelaw08.SpanNarrow", spec := "spanNarrow", inPlace := ["math/bits.Add64"], apart := false }
def SpanNarrowSaid : Prop := spanNarrowRow.holds Try.pinned (OpenSpec.ofChange spanNarrowSpec)

/-- ITS FALSE NEIGHBOUR: 'it returns false'. Refute it at one input. -/
def spanNarrowWrong : ChangeSpec := { name := "spanNarrow", fn := fun _ => fun
  | [d1, d2, d3, d4] => { results := [.lit (.bool false)], args := [d1, d2, d3, d4] }
  | _ => none }
def SpanNarrowWrongFalsely : Prop := spanNarrowRow.holds Try.pinned (OpenSpec.ofChange spanNarrowWrong)

/-- 'turnbucklelaw08.SpanWithin': WHATEVER THE INPUT: true; the input reads as it did. -/
def spanWithinSpec : ChangeSpec := { name := "spanWithin", fn := fun _ => fun
  | [d1, d2, d3] => { results := [.lit (.bool true)], args := [d1, d2, d3] }
  | _ => none }
def spanWithinRow : OpenClaim := { program := "ytgaahlnegmcakaa", sum := "80282763c1071a7b6748f646313923f84f75ab28ca619aef15b54ed0807360d1", func := "turnbuckle/turnbucklelaw08.SpanWithin", spec := "spanWithin", inPlace := ["math/bits.Add64"], apart := false }
def SpanWithinSaid : Prop := spanWithinRow.holds Try.pinned (OpenSpec.ofChange spanWithinSpec)

/-- ITS FALSE NEIGHBOUR: 'it returns false'. Refute it at one input. -/
def spanWithinWrong : ChangeSpec := { name := "spanWithin", fn := fun _ => fun
  | [d1, d2, d3] => { results := [.lit (.bool false)], args := [d1, d2, d3] }
  | _ => none }
def SpanWithinWrongFalsely : Prop := spanWithinRow.holds Try.pinned (OpenSpec.ofChange spanWithinWrong)

/-- 'turnbucklelaw08.SpanJoins': WHATEVER THE INPUT: true; the input reads as it did. -/
def spanJoinsSpec : ChangeSpec := { name := "spanJoins", fn := fun _ => fun
  | [d1, d2] => { results := [.lit (.bool true)], args := [d1, d2] }
  | _ => none }
def spanJoinsRow : OpenClaim := { program := "ytgaahlnegmcakaa", sum := "80282763c1071a7b6748f646313923f84f75ab28ca619aef15b54ed0807360d1", func := "turnbuckle/turnbucklelaw08.SpanJoins", spec := "spanJoins", inPlace := ["math/bits.Add64"], apart := false }
def SpanJoinsSaid : Prop := spanJoinsRow.holds Try.pinned (OpenSpec.ofChange spanJoinsSpec)

/-- ITS FALSE NEIGHBOUR: 'it returns false'. Refute it at one input. -/
def spanJoinsWrong : ChangeSpec := { name := "spanJoins", fn := fun _ => fun
  | [d1, d2] => { results := [.lit (.bool false)], args := [d1, d2] }
  | _ => none }
def SpanJoinsWrongFalsely : Prop := spanJoinsRow.holds Try.pinned (OpenSpec.ofChange spanJoinsWrong)

/-- 'turnbucklelaw08.SpanMeets': WHATEVER THE INPUT: true; the input reads as it did. -/
def spanMeetsSpec : ChangeSpec := { name := "spanMeets", fn := fun _ => fun
  | [d1, d2, d3] => { results := [.lit (.bool true)], args := [d1, d2, d3] }
  | _ => none }
def spanMeetsRow : OpenClaim := { program := "ytgaahlnegmcakaa", sum := "80282763c1071a7b6748f646313923f84f75ab28ca619aef15b54ed0807360d1", func := "turnbuckle/turnbucklelaw08.SpanMeets", spec := "spanMeets", inPlace := ["math/bits.Add64"], apart := false }
def SpanMeetsSaid : Prop := spanMeetsRow.holds Try.pinned (OpenSpec.ofChange spanMeetsSpec)

/-- ITS FALSE NEIGHBOUR: 'it returns false'. Refute it at one input. -/
def spanMeetsWrong : ChangeSpec := { name := "spanMeets", fn := fun _ => fun
  | [d1, d2, d3] => { results := [.lit (.bool false)], args := [d1, d2, d3] }
  | _ => none }
def SpanMeetsWrongFalsely : Prop := spanMeetsRow.holds Try.pinned (OpenSpec.ofChange spanMeetsWrong)

/- THE SECOND FORM. 'bulk': how many values and letters a reading holds, each counted each time it is reached (what is shared counts as often as it is met; a slice's spare places count too). A statement '..UptoSaid' is the law's where the arguments, and the package variables that the reading takes, are together of bulk at most 1048576: NARROWER than '..Said'. Prove '..Said' where nothing that the law and all that it calls make is longer than what came in: it says more and counts as full. Else prove '..UptoSaid'. A law counts once. -/
mutual
def uptoBulk {H : Type} : DataW H → Nat
  | .lit (.string bytes) => bytes.length + 1
  | .lit _ => 1
  | .nil => 1
  | .ptr d => uptoBulk d + 1
  | .slice elems spare => uptoBulkAll elems + uptoBulkAll spare + 1
  | .agg parts => uptoBulkAll parts + 1
  | .iface _ d => uptoBulk d + 1
  | .map entries => uptoBulkEntries entries + 1
  | .held _ => 1
def uptoBulkAll {H : Type} : List (DataW H) → Nat
  | [] => 0
  | d :: r => uptoBulk d + uptoBulkAll r
def uptoBulkEntries {H : Type} : List (Lit × DataW H) → Nat
  | [] => 0
  | x :: r => uptoBulkEntry x + uptoBulkEntries r
def uptoBulkEntry {H : Type} : Lit × DataW H → Nat
  | (.string bytes, d) => bytes.length + uptoBulk d + 1
  | (_, d) => uptoBulk d + 1
 end
def uptoSmall : (H : Type) → List (DataW H) → Bool := fun _ ds => decide (uptoBulkAll ds ≤ 1048576)
def OpenSpec.upto (s : _root_.Go.ChangeSpec) : _root_.Go.OpenSpec := { _root_.Go.OpenSpec.ofChange s with cond := some uptoSmall }

/-- 'turnbucklelaw08.SpanDoes', WHERE WHAT IT READS IS OF BULK AT MOST 1048576: true; the input reads as it did. -/
def spanDoesUptoRow : OpenClaim := { program := "ytgaahlnegmcakaa", sum := "80282763c1071a7b6748f646313923f84f75ab28ca619aef15b54ed0807360d1", func := "turnbuckle/turnbucklelaw08.SpanDoes", spec := "spanDoes", inPlace := ["math/bits.Add64"], apart := false, narrowed := true }
def SpanDoesUptoSaid : Prop := spanDoesUptoRow.holds Try.pinned (OpenSpec.upto spanDoesSpec)

/-- 'turnbucklelaw08.SpanSound', WHERE WHAT IT READS IS OF BULK AT MOST 1048576: true; the input reads as it did. -/
def spanSoundUptoRow : OpenClaim := { program := "ytgaahlnegmcakaa", sum := "80282763c1071a7b6748f646313923f84f75ab28ca619aef15b54ed0807360d1", func := "turnbuckle/turnbucklelaw08.SpanSound", spec := "spanSound", inPlace := ["math/bits.Add64"], apart := false, narrowed := true }
def SpanSoundUptoSaid : Prop := spanSoundUptoRow.holds Try.pinned (OpenSpec.upto spanSoundSpec)

/-- 'turnbucklelaw08.SpanAsks', WHERE WHAT IT READS IS OF BULK AT MOST 1048576: true; the input reads as it did. -/
def spanAsksUptoRow : OpenClaim := { program := "ytgaahlnegmcakaa", sum := "80282763c1071a7b6748f646313923f84f75ab28ca619aef15b54ed0807360d1", func := "turnbuckle/turnbucklelaw08.SpanAsks", spec := "spanAsks", inPlace := ["math/bits.Add64"], apart := false, narrowed := true }
def SpanAsksUptoSaid : Prop := spanAsksUptoRow.holds Try.pinned (OpenSpec.upto spanAsksSpec)

/-- 'turnbucklelaw08.SpanSingles', WHERE WHAT IT READS IS OF BULK AT MOST 1048576: true; the input reads as it did. -/
def spanSinglesUptoRow : OpenClaim := { program := "ytgaahlnegmcakaa", sum := "80282763c1071a7b6748f646313923f84f75ab28ca619aef15b54ed0807360d1", func := "turnbuckle/turnbucklelaw08.SpanSingles", spec := "spanSingles", inPlace := ["math/bits.Add64"], apart := false, narrowed := true }
def SpanSinglesUptoSaid : Prop := spanSinglesUptoRow.holds Try.pinned (OpenSpec.upto spanSinglesSpec)

/-- 'turnbucklelaw08.SpanNarrow', WHERE WHAT IT READS IS OF BULK AT MOST 1048576: true; the input reads as it did. -/
def spanNarrowUptoRow : OpenClaim := { program := "ytgaahlnegmcakaa", sum := "80282763c1071a7b6748f646313923f84f75ab28ca619aef15b54ed0807360d1", func := "turnbuckle/turnbucklelaw08.SpanNarrow", spec := "spanNarrow", inPlace := ["math/bits.Add64"], apart := false, narrowed := true }
def SpanNarrowUptoSaid : Prop := spanNarrowUptoRow.holds Try.pinned (OpenSpec.upto spanNarrowSpec)

/-- 'turnbucklelaw08.SpanWithin', WHERE WHAT IT READS IS OF BULK AT MOST 1048576: true; the input reads as it did. -/
def spanWithinUptoRow : OpenClaim := { program := "ytgaahlnegmcakaa", sum := "80282763c1071a7b6748f646313923f84f75ab28ca619aef15b54ed0807360d1", func := "turnbuckle/turnbucklelaw08.SpanWithin", spec := "spanWithin", inPlace := ["math/bits.Add64"], apart := false, narrowed := true }
def SpanWithinUptoSaid : Prop := spanWithinUptoRow.holds Try.pinned (OpenSpec.upto spanWithinSpec)

/-- 'turnbucklelaw08.SpanJoins', WHERE WHAT IT READS IS OF BULK AT MOST 1048576: true; the input reads as it did. -/
def spanJoinsUptoRow : OpenClaim := { program := "ytgaahlnegmcakaa", sum := "80282763c1071a7b6748f646313923f84f75ab28ca619aef15b54ed0807360d1", func := "turnbuckle/turnbucklelaw08.SpanJoins", spec := "spanJoins", inPlace := ["math/bits.Add64"], apart := false, narrowed := true }
def SpanJoinsUptoSaid : Prop := spanJoinsUptoRow.holds Try.pinned (OpenSpec.upto spanJoinsSpec)

/-- 'turnbucklelaw08.SpanMeets', WHERE WHAT IT READS IS OF BULK AT MOST 1048576: true; the input reads as it did. -/
def spanMeetsUptoRow : OpenClaim := { program := "ytgaahlnegmcakaa", sum := "80282763c1071a7b6748f646313923f84f75ab28ca619aef15b54ed0807360d1", func := "turnbuckle/turnbucklelaw08.SpanMeets", spec := "spanMeets", inPlace := ["math/bits.Add64"], apart := false, narrowed := true }
def SpanMeetsUptoSaid : Prop := spanMeetsUptoRow.holds Try.pinned (OpenSpec.upto spanMeetsSpec)

end Rows
end Go.Proofs.Ytgaahlnegmcakaa
