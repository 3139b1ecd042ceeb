/-
  No cell of these rows narrows 'for every input' (looked for: loops, veiled, ifaces, maps, wideKeys, modest, calm, conditions, laid).
  DERIVED. THE GIVEN ROWS OF THIS SEAT. 6 by the template 'for every input the law returns true; each argument reads behind the call as it read before'; 0 by the template 'total and deterministic' (their statements: YthhohiafhjhjhaaTotals.lean).
  GIVEN WITH THE SEED: the statements are not yours to turn. If you find one false, say at which input.
  Laid BY PROGRAM, IN A SANDBOX (cutbox-rows.mjs): the forced cells as the released guide's own fill.sh prints them over the translation f046fe67e033b304… (all of the seat's roots in one cut). By AI agents, Wed Nov 11 2026. No macro, syntax, notation, axiom, sorry.
-/
import Derived.Test.YthhohiafhjhjhaaChecked
import GoSem.Claim
import GoSem.ClaimJoined
import GoSem.ClaimMapViews
import Derived.JoinedTies
import Derived.KernelRfl
namespace Go.Proofs.Ythhohiafhjhjhaa
/- THE CELL 'sum', in the pinned program and in every row, IS THE sha256 OF THE DUMP (.gsa) THAT YthhohiafhjhjhaaProg.lean LOADS. Nothing in Lean hashes anything: it is a label: what it is worth is what the hold of that sum in a sandbox is worth. -/
noncomputable def Try.pinned : Pinned := { name := "ythhohiafhjhjhaa", sum := "f046fe67e033b304e393a6894d3ca274ec5c229f2339e2d790362fecaeeb6f72", checked := Try.checked }
namespace Rows
def none {H : Type} : Left H := { results := [], args := [] }

/-- 'turnbucklelaw09.BranchRefines': WHATEVER THE INPUT: true; the input reads as it did. -/
def branchRefinesSpec : ChangeSpec := { name := "branchRefines", fn := fun _ => fun
  | [d1, d2, d3, d4] => { results := [.lit (.bool true)], args := [d1, d2, d3, d4] }
  | _ => none }
def branchRefinesRow : OpenClaim := { program := "ythhohiafhjhjhaa", sum := "f046fe67e033b304e393a6894d3ca274ec5c229f2339e2d790362fecaeeb6f72", func := "turnbuckle/turnbucklelaw09.BranchRefines", spec := "branchRefines", recurses := true, apart := false }
def BranchRefinesSaid : Prop := branchRefinesRow.holds Try.pinned (OpenSpec.ofChange branchRefinesSpec)

/-- ITS FALSE NEIGHBOUR: 'it returns false'. Refute it at one input. -/
def branchRefinesWrong : ChangeSpec := { name := "branchRefines", fn := fun _ => fun
  | [d1, d2, d3, d4] => { results := [.lit (.bool false)], args := [d1, d2, d3, d4] }
  | _ => none }
def BranchRefinesWrongFalsely : Prop := branchRefinesRow.holds Try.pinned (OpenSpec.ofChange branchRefinesWrong)

/-- 'turnbucklelaw09.BranchTight': WHATEVER THE INPUT: true; the input reads as it did. -/
def branchTightSpec : ChangeSpec := { name := "branchTight", fn := fun _ => fun
  | [d1, d2, d3, d4] => { results := [.lit (.bool true)], args := [d1, d2, d3, d4] }
  | _ => none }
def branchTightRow : OpenClaim := { program := "ythhohiafhjhjhaa", sum := "f046fe67e033b304e393a6894d3ca274ec5c229f2339e2d790362fecaeeb6f72", func := "turnbuckle/turnbucklelaw09.BranchTight", spec := "branchTight", recurses := true, apart := false }
def BranchTightSaid : Prop := branchTightRow.holds Try.pinned (OpenSpec.ofChange branchTightSpec)

/-- ITS FALSE NEIGHBOUR: 'it returns false'. Refute it at one input. -/
def branchTightWrong : ChangeSpec := { name := "branchTight", fn := fun _ => fun
  | [d1, d2, d3, d4] => { results := [.lit (.bool false)], args := [d1, d2, d3, d4] }
  | _ => none }
def BranchTightWrongFalsely : Prop := branchTightRow.holds Try.pinned (OpenSpec.ofChange branchTightWrong)

/-- 'turnbucklelaw09.BranchTurned': WHATEVER THE INPUT: true; the input reads as it did. -/
def branchTurnedSpec : ChangeSpec := { name := "branchTurned", fn := fun _ => fun
  | [d1, d2, d3, d4] => { results := [.lit (.bool true)], args := [d1, d2, d3, d4] }
  | _ => none }
def branchTurnedRow : OpenClaim := { program := "ythhohiafhjhjhaa", sum := "f046fe67e033b304e393a6894d3ca274ec5c229f2339e2d790362fecaeeb6f72", func := "turnbuckle/turnbucklelaw09.BranchTurned", spec := "branchTurned", recurses := true, apart := false }
def BranchTurnedSaid : Prop := branchTurnedRow.holds Try.pinned (OpenSpec.ofChange branchTurnedSpec)

/-- ITS FALSE NEIGHBOUR: 'it returns false'. Refute it at one input. -/
def branchTurnedWrong : ChangeSpec := { name := "branchTurned", fn := fun _ => fun
  | [d1, d2, d3, d4] => { results := [.lit (.bool false)], args := [d1, d2, d3, d4] }
  | _ => none }
def BranchTurnedWrongFalsely : Prop := branchTurnedRow.holds Try.pinned (OpenSpec.ofChange branchTurnedWrong)

/-- 'turnbucklelaw09.BranchSound': WHATEVER THE INPUT: true; the input reads as it did. -/
def branchSoundSpec : ChangeSpec := { name := "branchSound", fn := fun _ => fun
  | [d1, d2, d3, d4, d5] => { results := [.lit (.bool true)], args := [d1, d2, d3, d4, d5] }
  | _ => none }
def branchSoundRow : OpenClaim := { program := "ythhohiafhjhjhaa", sum := "f046fe67e033b304e393a6894d3ca274ec5c229f2339e2d790362fecaeeb6f72", func := "turnbuckle/turnbucklelaw09.BranchSound", spec := "branchSound", recurses := true, apart := false }
def BranchSoundSaid : Prop := branchSoundRow.holds Try.pinned (OpenSpec.ofChange branchSoundSpec)

/-- ITS FALSE NEIGHBOUR: 'it returns false'. Refute it at one input. -/
def branchSoundWrong : ChangeSpec := { name := "branchSound", fn := fun _ => fun
  | [d1, d2, d3, d4, d5] => { results := [.lit (.bool false)], args := [d1, d2, d3, d4, d5] }
  | _ => none }
def BranchSoundWrongFalsely : Prop := branchSoundRow.holds Try.pinned (OpenSpec.ofChange branchSoundWrong)

/-- 'turnbucklelaw09.BranchWithin': WHATEVER THE INPUT: true; the input reads as it did. -/
def branchWithinSpec : ChangeSpec := { name := "branchWithin", fn := fun _ => fun
  | [d1, d2, d3] => { results := [.lit (.bool true)], args := [d1, d2, d3] }
  | _ => none }
def branchWithinRow : OpenClaim := { program := "ythhohiafhjhjhaa", sum := "f046fe67e033b304e393a6894d3ca274ec5c229f2339e2d790362fecaeeb6f72", func := "turnbuckle/turnbucklelaw09.BranchWithin", spec := "branchWithin", recurses := true, apart := false }
def BranchWithinSaid : Prop := branchWithinRow.holds Try.pinned (OpenSpec.ofChange branchWithinSpec)

/-- ITS FALSE NEIGHBOUR: 'it returns false'. Refute it at one input. -/
def branchWithinWrong : ChangeSpec := { name := "branchWithin", fn := fun _ => fun
  | [d1, d2, d3] => { results := [.lit (.bool false)], args := [d1, d2, d3] }
  | _ => none }
def BranchWithinWrongFalsely : Prop := branchWithinRow.holds Try.pinned (OpenSpec.ofChange branchWithinWrong)

/-- 'turnbucklelaw09.BranchTwice': WHATEVER THE INPUT: true; the input reads as it did. -/
def branchTwiceSpec : ChangeSpec := { name := "branchTwice", fn := fun _ => fun
  | [d1, d2, d3, d4] => { results := [.lit (.bool true)], args := [d1, d2, d3, d4] }
  | _ => none }
def branchTwiceRow : OpenClaim := { program := "ythhohiafhjhjhaa", sum := "f046fe67e033b304e393a6894d3ca274ec5c229f2339e2d790362fecaeeb6f72", func := "turnbuckle/turnbucklelaw09.BranchTwice", spec := "branchTwice", recurses := true, apart := false }
def BranchTwiceSaid : Prop := branchTwiceRow.holds Try.pinned (OpenSpec.ofChange branchTwiceSpec)

/-- ITS FALSE NEIGHBOUR: 'it returns false'. Refute it at one input. -/
def branchTwiceWrong : ChangeSpec := { name := "branchTwice", fn := fun _ => fun
  | [d1, d2, d3, d4] => { results := [.lit (.bool false)], args := [d1, d2, d3, d4] }
  | _ => none }
def BranchTwiceWrongFalsely : Prop := branchTwiceRow.holds Try.pinned (OpenSpec.ofChange branchTwiceWrong)

/- THE SECOND FORM. 'bulk': how many values and letters a reading holds, each counted each time it is reached (what is shared counts as often as it is met; a slice's spare places count too). A statement '..UptoSaid' is the law's where the arguments, and the package variables that the reading takes, are together of bulk at most 1048576: NARROWER than '..Said'. Prove '..Said' where nothing that the law and all that it calls make is longer than what came in: it says more and counts as full. Else prove '..UptoSaid'. A law counts once. -/
mutual
def uptoBulk {H : Type} : DataW H → Nat
  | .lit (.string bytes) => bytes.length + 1
  | .lit _ => 1
  | .nil => 1
  | .ptr d => uptoBulk d + 1
  | .slice elems spare => uptoBulkAll elems + uptoBulkAll spare + 1
  | .agg parts => uptoBulkAll parts + 1
  | .iface _ d => uptoBulk d + 1
  | .map entries => uptoBulkEntries entries + 1
  | .held _ => 1
def uptoBulkAll {H : Type} : List (DataW H) → Nat
  | [] => 0
  | d :: r => uptoBulk d + uptoBulkAll r
def uptoBulkEntries {H : Type} : List (Lit × DataW H) → Nat
  | [] => 0
  | x :: r => uptoBulkEntry x + uptoBulkEntries r
def uptoBulkEntry {H : Type} : Lit × DataW H → Nat
  | (.string bytes, d) => bytes.length + uptoBulk d + 1
  | (_, d) => uptoBulk d + 1
 end
def uptoSmall : (H : Type) → List (DataW H) → Bool := fun _ ds => decide (uptoBulkAll ds ≤ 1048576)
def OpenSpec.upto (s : _root_.Go.ChangeSpec) : _root_.Go.OpenSpec := { _root_.Go.OpenSpec.ofChange s with cond := some uptoSmall }

/-- 'turnbucklelaw09.BranchRefines', WHERE WHAT IT READS IS OF BULK AT MOST 1048576: true; the input reads as it did. -/
def branchRefinesUptoRow : OpenClaim := { program := "ythhohiafhjhjhaa", sum := "f046fe67e033b304e393a6894d3ca274ec5c229f2339e2d790362fecaeeb6f72", func := "turnbuckle/turnbucklelaw09.BranchRefines", spec := "branchRefines", recurses := true, apart := false, narrowed := true }
def BranchRefinesUptoSaid : Prop := branchRefinesUptoRow.holds Try.pinned (OpenSpec.upto branchRefinesSpec)

/-- 'turnbucklelaw09.BranchTight', WHERE WHAT IT READS IS OF BULK AT MOST 1048576: true; the input reads as it did. -/
def branchTightUptoRow : OpenClaim := { program := "ythhohiafhjhjhaa", sum := "f046fe67e033b304e393a6894d3ca274ec5c229f2339e2d790362fecaeeb6f72", func := "turnbuckle/turnbucklelaw09.BranchTight", spec := "branchTight", recurses := true, apart := false, narrowed := true }
def BranchTightUptoSaid : Prop := branchTightUptoRow.holds Try.pinned (OpenSpec.upto branchTightSpec)

/-- 'turnbucklelaw09.BranchTurned', WHERE WHAT IT READS IS OF BULK AT MOST 1048576: true; the input reads as it did. -/
def branchTurnedUptoRow : OpenClaim := { program := "ythhohiafhjhjhaa", sum := "f046fe67e033b304e393a6894d3ca274ec5c229f2339e2d790362fecaeeb6f72", func := "turnbuckle/turnbucklelaw09.BranchTurned", spec := "branchTurned", recurses := true, apart := false, narrowed := true }
def BranchTurnedUptoSaid : Prop := branchTurnedUptoRow.holds Try.pinned (OpenSpec.upto branchTurnedSpec)

/-- 'turnbucklelaw09.BranchSound', WHERE WHAT IT READS IS OF BULK AT MOST 1048576: true; the input reads as it did. -/
def branchSoundUptoRow : OpenClaim := { program := "ythhohiafhjhjhaa", sum := "f046fe67e033b304e393a6894d3ca274ec5c229f2339e2d790362fecaeeb6f72", func := "turnbuckle/turnbucklelaw09.BranchSound", spec := "branchSound", recurses := true, apart := false, narrowed := true }
def BranchSoundUptoSaid : Prop := branchSoundUptoRow.holds Try.pinned (OpenSpec.upto branchSoundSpec)

/-- 'turnbucklelaw09.BranchWithin', WHERE WHAT IT READS IS OF BULK AT MOST 1048576: true; the input reads as it did. -/
def branchWithinUptoRow : OpenClaim := { program := "ythhohiafhjhjhaa", sum := "f046fe67e033b304e393a6894d3ca274ec5c229f2339e2d790362fecaeeb6f72", func := "turnbuckle/turnbucklelaw09.BranchWithin", spec := "branchWithin", recurses := true, apart := false, narrowed := true }
def BranchWithinUptoSaid : Prop := branchWithinUptoRow.holds Try.pinned (OpenSpec.upto branchWithinSpec)

/-- 'turnbucklelaw09.BranchTwice', WHERE WHAT IT READS IS OF BULK AT MOST 1048576: true; the input reads as it did. -/
def branchTwiceUptoRow : OpenClaim := { program := "ythhohiafhjhjhaa", sum := "f046fe67e033b304e393a6894d3ca274ec5c229f2339e2d790362fecaeeb6f72", func := "turnbuckle/turnbucklelaw09.BranchTwice", spec := "branchTwice", recurses := true, apart := false, narrowed := true }
def BranchTwiceUptoSaid : Prop := branchTwiceUptoRow.holds Try.pinned (OpenSpec.upto branchTwiceSpec)

end Rows
end Go.Proofs.Ythhohiafhjhjhaa
