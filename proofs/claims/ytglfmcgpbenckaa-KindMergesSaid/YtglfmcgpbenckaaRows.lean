/-
  No cell of these rows narrows 'for every input' (looked for: loops, veiled, ifaces, maps, wideKeys, modest, calm, conditions, laid).
  DERIVED. THE GIVEN ROWS OF THIS SEAT. 7 by the template 'for every input the law returns true; each argument reads behind the call as it read before'; 0 by the template 'total and deterministic' (their statements: YtglfmcgpbenckaaTotals.lean).
  GIVEN WITH THE SEED: the statements are not yours to turn. If you find one false, say at which input.
  Laid BY PROGRAM, IN A SANDBOX (cutbox-rows.mjs): the forced cells as the released guide's own fill.sh prints them over the translation 86122a30400ae80b… (all of the seat's roots in one cut). By AI agents, Wed Nov 11 2026. No macro, syntax, notation, axiom, sorry.
-/
import Derived.Test.YtglfmcgpbenckaaChecked
import GoSem.Claim
import GoSem.ClaimJoined
import GoSem.ClaimMapViews
import Derived.JoinedTies
import Derived.KernelRfl
namespace Go.Proofs.Ytglfmcgpbenckaa
/- THE CELL 'sum', in the pinned program and in every row, IS THE sha256 OF THE DUMP (.gsa) THAT YtglfmcgpbenckaaProg.lean LOADS. Nothing in Lean hashes anything: it is a label: what it is worth is what the hold of that sum in a sandbox is worth. -/
noncomputable def Try.pinned : Pinned := { name := "ytglfmcgpbenckaa", sum := "86122a30400ae80bc94cc7ac221af581e6c26628c31b665545b1d5e2ae1d8c0b", checked := Try.checked }
namespace Rows
def none {H : Type} : Left H := { results := [], args := [] }

/-- 'turnbucklelaw17.KindOrder': WHATEVER THE INPUT: true; the input reads as it did. -/
def kindOrderSpec : ChangeSpec := { name := "kindOrder", fn := fun _ => fun
  | [d1, d2, d3] => { results := [.lit (.bool true)], args := [d1, d2, d3] }
  | _ => none }
def kindOrderRow : OpenClaim := { program := "ytglfmcgpbenckaa", sum := "86122a30400ae80bc94cc7ac221af581e6c26628c31b665545b1d5e2ae1d8c0b", func := "turnbuckle/turnbucklelaw17.KindOrder", spec := "kindOrder", apart := false }
def KindOrderSaid : Prop := kindOrderRow.holds Try.pinned (OpenSpec.ofChange kindOrderSpec)

/-- ITS FALSE NEIGHBOUR: 'it returns false'. Refute it at one input. -/
def kindOrderWrong : ChangeSpec := { name := "kindOrder", fn := fun _ => fun
  | [d1, d2, d3] => { results := [.lit (.bool false)], args := [d1, d2, d3] }
  | _ => none }
def KindOrderWrongFalsely : Prop := kindOrderRow.holds Try.pinned (OpenSpec.ofChange kindOrderWrong)

/-- 'turnbucklelaw17.KindSplit': WHATEVER THE INPUT: true; the input reads as it did. -/
def kindSplitSpec : ChangeSpec := { name := "kindSplit", fn := fun _ => fun
  | [d] => { results := [.lit (.bool true)], args := [d] }
  | _ => none }
def kindSplitRow : OpenClaim := { program := "ytglfmcgpbenckaa", sum := "86122a30400ae80bc94cc7ac221af581e6c26628c31b665545b1d5e2ae1d8c0b", func := "turnbuckle/turnbucklelaw17.KindSplit", spec := "kindSplit", apart := false }
def KindSplitSaid : Prop := kindSplitRow.holds Try.pinned (OpenSpec.ofChange kindSplitSpec)

/-- ITS FALSE NEIGHBOUR: 'it returns false'. Refute it at one input. -/
def kindSplitWrong : ChangeSpec := { name := "kindSplit", fn := fun _ => fun
  | [d] => { results := [.lit (.bool false)], args := [d] }
  | _ => none }
def KindSplitWrongFalsely : Prop := kindSplitRow.holds Try.pinned (OpenSpec.ofChange kindSplitWrong)

/-- 'turnbucklelaw17.KindSpans': WHATEVER THE INPUT: true; the input reads as it did. -/
def kindSpansSpec : ChangeSpec := { name := "kindSpans", fn := fun _ => fun
  | [d1, d2] => { results := [.lit (.bool true)], args := [d1, d2] }
  | _ => none }
def kindSpansRow : OpenClaim := { program := "ytglfmcgpbenckaa", sum := "86122a30400ae80bc94cc7ac221af581e6c26628c31b665545b1d5e2ae1d8c0b", func := "turnbuckle/turnbucklelaw17.KindSpans", spec := "kindSpans", apart := false }
def KindSpansSaid : Prop := kindSpansRow.holds Try.pinned (OpenSpec.ofChange kindSpansSpec)

/-- ITS FALSE NEIGHBOUR: 'it returns false'. Refute it at one input. -/
def kindSpansWrong : ChangeSpec := { name := "kindSpans", fn := fun _ => fun
  | [d1, d2] => { results := [.lit (.bool false)], args := [d1, d2] }
  | _ => none }
def KindSpansWrongFalsely : Prop := kindSpansRow.holds Try.pinned (OpenSpec.ofChange kindSpansWrong)

/-- 'turnbucklelaw17.KindForgets': WHATEVER THE INPUT: true; the input reads as it did. -/
def kindForgetsSpec : ChangeSpec := { name := "kindForgets", fn := fun _ => fun
  | [d1, d2, d3] => { results := [.lit (.bool true)], args := [d1, d2, d3] }
  | _ => none }
def kindForgetsRow : OpenClaim := { program := "ytglfmcgpbenckaa", sum := "86122a30400ae80bc94cc7ac221af581e6c26628c31b665545b1d5e2ae1d8c0b", func := "turnbuckle/turnbucklelaw17.KindForgets", spec := "kindForgets", unfollowed := true, recurses := true, apart := false }
def KindForgetsSaid : Prop := kindForgetsRow.holds Try.pinned (OpenSpec.ofChange kindForgetsSpec)

/-- ITS FALSE NEIGHBOUR: 'it returns false'. Refute it at one input. -/
def kindForgetsWrong : ChangeSpec := { name := "kindForgets", fn := fun _ => fun
  | [d1, d2, d3] => { results := [.lit (.bool false)], args := [d1, d2, d3] }
  | _ => none }
def KindForgetsWrongFalsely : Prop := kindForgetsRow.holds Try.pinned (OpenSpec.ofChange kindForgetsWrong)

/-- 'turnbucklelaw17.KindMergesBoth': WHATEVER THE INPUT: true; the input reads as it did. -/
def kindMergesBothSpec : ChangeSpec := { name := "kindMergesBoth", fn := fun _ => fun
  | [d1, d2] => { results := [.lit (.bool true)], args := [d1, d2] }
  | _ => none }
def kindMergesBothRow : OpenClaim := { program := "ytglfmcgpbenckaa", sum := "86122a30400ae80bc94cc7ac221af581e6c26628c31b665545b1d5e2ae1d8c0b", func := "turnbuckle/turnbucklelaw17.KindMergesBoth", spec := "kindMergesBoth", apart := false }
def KindMergesBothSaid : Prop := kindMergesBothRow.holds Try.pinned (OpenSpec.ofChange kindMergesBothSpec)

/-- ITS FALSE NEIGHBOUR: 'it returns false'. Refute it at one input. -/
def kindMergesBothWrong : ChangeSpec := { name := "kindMergesBoth", fn := fun _ => fun
  | [d1, d2] => { results := [.lit (.bool false)], args := [d1, d2] }
  | _ => none }
def KindMergesBothWrongFalsely : Prop := kindMergesBothRow.holds Try.pinned (OpenSpec.ofChange kindMergesBothWrong)

/-- 'turnbucklelaw17.KindMerges': WHATEVER THE INPUT: true; the input reads as it did. -/
def kindMergesSpec : ChangeSpec := { name := "kindMerges", fn := fun _ => fun
  | [d1, d2] => { results := [.lit (.bool true)], args := [d1, d2] }
  | _ => none }
def kindMergesRow : OpenClaim := { program := "ytglfmcgpbenckaa", sum := "86122a30400ae80bc94cc7ac221af581e6c26628c31b665545b1d5e2ae1d8c0b", func := "turnbuckle/turnbucklelaw17.KindMerges", spec := "kindMerges", apart := false }
def KindMergesSaid : Prop := kindMergesRow.holds Try.pinned (OpenSpec.ofChange kindMergesSpec)

/-- ITS FALSE NEIGHBOUR: 'it returns false'. Refute it at one input. -/
def kindMergesWrong : ChangeSpec := { name := "kindMerges", fn := fun _ => fun
  | [d1, d2] => { results := [.lit (.bool false)], args := [d1, d2] }
  | _ => none }
def KindMergesWrongFalsely : Prop := kindMergesRow.holds Try.pinned (OpenSpec.ofChange kindMergesWrong)

/-- 'turnbucklelaw17.KindStates': WHATEVER THE INPUT: true; the input reads as it did. -/
def kindStatesSpec : ChangeSpec := { name := "kindStates", fn := fun _ => fun
  | [d1, d2] => { results := [.lit (.bool true)], args := [d1, d2] }
  | _ => none }
def kindStatesRow : OpenClaim := { program := "ytglfmcgpbenckaa", sum := "86122a30400ae80bc94cc7ac221af581e6c26628c31b665545b1d5e2ae1d8c0b", func := "turnbuckle/turnbucklelaw17.KindStates", spec := "kindStates", unfollowed := true, recurses := true, apart := false }
def KindStatesSaid : Prop := kindStatesRow.holds Try.pinned (OpenSpec.ofChange kindStatesSpec)

/-- ITS FALSE NEIGHBOUR: 'it returns false'. Refute it at one input. -/
def kindStatesWrong : ChangeSpec := { name := "kindStates", fn := fun _ => fun
  | [d1, d2] => { results := [.lit (.bool false)], args := [d1, d2] }
  | _ => none }
def KindStatesWrongFalsely : Prop := kindStatesRow.holds Try.pinned (OpenSpec.ofChange kindStatesWrong)

/- THE SECOND FORM. 'bulk': how many values and letters a reading holds, each counted each time it is reached (what is shared counts as often as it is met; a slice's spare places count too). A statement '..UptoSaid' is the law's where the arguments, and the package variables that the reading takes, are together of bulk at most 1048576: NARROWER than '..Said'. Prove '..Said' where nothing that the law and all that it calls make is longer than what came in: it says more and counts as full. Else prove '..UptoSaid'. A law counts once. -/
mutual
def uptoBulk {H : Type} : DataW H → Nat
  | .lit (.string bytes) => bytes.length + 1
  | .lit _ => 1
  | .nil => 1
  | .ptr d => uptoBulk d + 1
  | .slice elems spare => uptoBulkAll elems + uptoBulkAll spare + 1
  | .agg parts => uptoBulkAll parts + 1
  | .iface _ d => uptoBulk d + 1
  | .map entries => uptoBulkEntries entries + 1
  | .held _ => 1
def uptoBulkAll {H : Type} : List (DataW H) → Nat
  | [] => 0
  | d :: r => uptoBulk d + uptoBulkAll r
def uptoBulkEntries {H : Type} : List (Lit × DataW H) → Nat
  | [] => 0
  | x :: r => uptoBulkEntry x + uptoBulkEntries r
def uptoBulkEntry {H : Type} : Lit × DataW H → Nat
  | (.string bytes, d) => bytes.length + uptoBulk d + 1
  | (_, d) => uptoBulk d + 1
 end
def uptoSmall : (H : Type) → List (DataW H) → Bool := fun _ ds => decide (uptoBulkAll ds ≤ 1048576)
def OpenSpec.upto (s : _root_.Go.ChangeSpec) : _root_.Go.OpenSpec := { _root_.Go.OpenSpec.ofChange s with cond := some uptoSmall }

/-- 'turnbucklelaw17.KindOrder', WHERE WHAT IT READS IS OF BULK AT MOST 1048576: true; the input reads as it did. -/
def kindOrderUptoRow : OpenClaim := { program := "ytglfmcgpbenckaa", sum := "86122a30400ae80bc94cc7ac221af581e6c26628c31b665545b1d5e2ae1d8c0b", func := "turnbuckle/turnbucklelaw17.KindOrder", spec := "kindOrder", apart := false, narrowed := true }
def KindOrderUptoSaid : Prop := kindOrderUptoRow.holds Try.pinned (OpenSpec.upto kindOrderSpec)

/-- 'turnbucklelaw17.KindSplit', WHERE WHAT IT READS IS OF BULK AT MOST 1048576: true; the input reads as it did. -/
def kindSplitUptoRow : OpenClaim := { program := "ytglfmcgpbenckaa", sum := "86122a30400ae80bc94cc7ac221af581e6c26628c31b665545b1d5e2ae1d8c0b", func := "turnbuckle/turnbucklelaw17.KindSplit", spec := "kindSplit", apart := false, narrowed := true }
def KindSplitUptoSaid : Prop := kindSplitUptoRow.holds Try.pinned (OpenSpec.upto kindSplitSpec)

/-- 'turnbucklelaw17.KindSpans', WHERE WHAT IT READS IS OF BULK AT MOST 1048576: true; the input reads as it did. -/
def kindSpansUptoRow : OpenClaim := { program := "ytglfmcgpbenckaa", sum := "86122a30400ae80bc94cc7ac221af581e6c26628c31b665545b1d5e2ae1d8c0b", func := "turnbuckle/turnbucklelaw17.KindSpans", spec := "kindSpans", apart := false, narrowed := true }
def KindSpansUptoSaid : Prop := kindSpansUptoRow.holds Try.pinned (OpenSpec.upto kindSpansSpec)

/-- 'turnbucklelaw17.KindForgets', WHERE WHAT IT READS IS OF BULK AT MOST 1048576: true; the input reads as it did. -/
def kindForgetsUptoRow : OpenClaim := { program := "ytglfmcgpbenckaa", sum := "86122a30400ae80bc94cc7ac221af581e6c26628c31b665545b1d5e2ae1d8c0b", func := "turnbuckle/turnbucklelaw17.KindForgets", spec := "kindForgets", unfollowed := true, recurses := true, apart := false, narrowed := true }
def KindForgetsUptoSaid : Prop := kindForgetsUptoRow.holds Try.pinned (OpenSpec.upto kindForgetsSpec)

/-- 'turnbucklelaw17.KindMergesBoth', WHERE WHAT IT READS IS OF BULK AT MOST 1048576: true; the input reads as it did. -/
def kindMergesBothUptoRow : OpenClaim := { program := "ytglfmcgpbenckaa", sum := "86122a30400ae80bc94cc7ac221af581e6c26628c31b665545b1d5e2ae1d8c0b", func := "turnbuckle/turnbucklelaw17.KindMergesBoth", spec := "kindMergesBoth", apart := false, narrowed := true }
def KindMergesBothUptoSaid : Prop := kindMergesBothUptoRow.holds Try.pinned (OpenSpec.upto kindMergesBothSpec)

/-- 'turnbucklelaw17.KindMerges', WHERE WHAT IT READS IS OF BULK AT MOST 1048576: true; the input reads as it did. -/
def kindMergesUptoRow : OpenClaim := { program := "ytglfmcgpbenckaa", sum := "86122a30400ae80bc94cc7ac221af581e6c26628c31b665545b1d5e2ae1d8c0b", func := "turnbuckle/turnbucklelaw17.KindMerges", spec := "kindMerges", apart := false, narrowed := true }
def KindMergesUptoSaid : Prop := kindMergesUptoRow.holds Try.pinned (OpenSpec.upto kindMergesSpec)

/-- 'turnbucklelaw17.KindStates', WHERE WHAT IT READS IS OF BULK AT MOST 1048576: true; the input reads as it did. -/
def kindStatesUptoRow : OpenClaim := { program := "ytglfmcgpbenckaa", sum := "86122a30400ae80bc94cc7ac221af581e6c26628c31b665545b1d5e2ae1d8c0b", func := "turnbuckle/turnbucklelaw17.KindStates", spec := "kindStates", unfollowed := true, recurses := true, apart := false, narrowed := true }
def KindStatesUptoSaid : Prop := kindStatesUptoRow.holds Try.pinned (OpenSpec.upto kindStatesSpec)

end Rows
end Go.Proofs.Ytglfmcgpbenckaa
