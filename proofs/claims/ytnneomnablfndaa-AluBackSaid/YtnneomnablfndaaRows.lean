/-
  No cell of these rows narrows 'for every input' (looked for: loops, veiled, ifaces, maps, wideKeys, modest, calm, conditions, laid).
  DERIVED. THE GIVEN ROWS OF THIS SEAT. 7 by the template 'for every input the law returns true; each argument reads behind the call as it read before'; 0 by the template 'total and deterministic' (their statements: YtnneomnablfndaaTotals.lean).
  GIVEN WITH THE SEED: the statements are not yours to turn. If you find one false, say at which input.
  Laid BY PROGRAM, IN A SANDBOX (cutbox-rows.mjs): the forced cells as the released guide's own fill.sh prints them over the translation 2cd88e9474b6a889… (all of the seat's roots in one cut). By AI agents, Wed Nov 11 2026. No macro, syntax, notation, axiom, sorry.
-/
import Derived.Test.YtnneomnablfndaaChecked
import GoSem.Claim
import GoSem.ClaimJoined
import GoSem.ClaimMapViews
import Derived.JoinedTies
import Derived.KernelRfl
namespace Go.Proofs.Ytnneomnablfndaa
/- THE CELL 'sum', in the pinned program and in every row, IS THE sha256 OF THE DUMP (.gsa) THAT YtnneomnablfndaaProg.lean LOADS. Nothing in Lean hashes anything: it is a label: what it is worth is what the hold of that sum in a sandbox is worth. -/
noncomputable def Try.pinned : Pinned := { name := "ytnneomnablfndaa", sum := "2cd88e9474b6a88977ffe1a71753c2e3eab819d8d3058e4f8fd91ba2e6d016e3", checked := Try.checked }
namespace Rows
def none {H : Type} : Left H := { results := [], args := [] }

/-- 'turnbucklelaw07.AluDoes': WHATEVER THE INPUT: true; the input reads as it did. -/
def aluDoesSpec : ChangeSpec := { name := "aluDoes", fn := fun _ => fun
  | [d1, d2, d3] => { results := [.lit (.bool true)], args := [d1, d2, d3] }
  | _ => none }
def aluDoesRow : OpenClaim := { program := "ytnneomnablfndaa", sum := "2cd88e9474b6a88977ffe1a71753c2e3eab819d8d3058e4f8fd91ba2e6d016e3", func := "turnbuckle/turnbucklelaw07.AluDoes", spec := "aluDoes", apart := false }
def AluDoesSaid : Prop := aluDoesRow.holds Try.pinned (OpenSpec.ofChange aluDoesSpec)

/-- ITS FALSE NEIGHBOUR: 'it returns false'. Refute it at one input. -/
def aluDoesWrong : ChangeSpec := { name := "aluDoes", fn := fun _ => fun
  | [d1, d2, d3] => { results := [.lit (.bool false)], args := [d1, d2, d3] }
  | _ => none }
def AluDoesWrongFalsely : Prop := aluDoesRow.holds Try.pinned (OpenSpec.ofChange aluDoesWrong)

/-- 'turnbucklelaw07.AluHolds': WHATEVER THE INPUT: true; the input reads as it did. -/
def aluHoldsSpec : ChangeSpec := { name := "aluHolds", fn := fun _ => fun
  | [d1, d2, d3] => { results := [.lit (.bool true)], args := [d1, d2, d3] }
  | _ => none }
def aluHoldsRow : OpenClaim := { program := "ytnneomnablfndaa", sum := "2cd88e9474b6a88977ffe1a71753c2e3eab819d8d3058e4f8fd91ba2e6d016e3", func := "turnbuckle/turnbucklelaw07.AluHolds", spec := "aluHolds", apart := false }
def AluHoldsSaid : Prop := aluHoldsRow.holds Try.pinned (OpenSpec.ofChange aluHoldsSpec)

/-- ITS FALSE NEIGHBOUR: 'it returns false'. Refute it at one input. -/
def aluHoldsWrong : ChangeSpec := { name := "aluHolds", fn := fun _ => fun
  | [d1, d2, d3] => { results := [.lit (.bool false)], args := [d1, d2, d3] }
  | _ => none }
def AluHoldsWrongFalsely : Prop := aluHoldsRow.holds Try.pinned (OpenSpec.ofChange aluHoldsWrong)

/-- 'turnbucklelaw07.AluBack': WHATEVER THE INPUT: true; the input reads as it did. -/
def aluBackSpec : ChangeSpec := { name := "aluBack", fn := fun _ => fun
  | [d1, d2] => { results := [.lit (.bool true)], args := [d1, d2] }
  | _ => none }
def aluBackRow : OpenClaim := { program := "ytnneomnablfndaa", sum := "2cd88e9474b6a88977ffe1a71753c2e3eab819d8d3058e4f8fd91ba2e6d016e3", func := "turnbuckle/turnbucklelaw07.AluBack", spec := "aluBack", apart := false }
def AluBackSaid : Prop := aluBackRow.holds Try.pinned (OpenSpec.ofChange aluBackSpec)

/-- ITS FALSE NEIGHBOUR: 'it returns false'. Refute it at one input. -/
def aluBackWrong : ChangeSpec := { name := "aluBack", fn := fun _ => fun
  | [d1, d2] => { results := [.lit (.bool false)], args := [d1, d2] }
  | _ => none }
def AluBackWrongFalsely : Prop := aluBackRow.holds Try.pinned (OpenSpec.ofChange aluBackWrong)

/-- 'turnbucklelaw07.AluShifts': WHATEVER THE INPUT: true; the input reads as it did. -/
def aluShiftsSpec : ChangeSpec := { name := "aluShifts", fn := fun _ => fun
  | [d1, d2] => { results := [.lit (.bool true)], args := [d1, d2] }
  | _ => none }
def aluShiftsRow : OpenClaim := { program := "ytnneomnablfndaa", sum := "2cd88e9474b6a88977ffe1a71753c2e3eab819d8d3058e4f8fd91ba2e6d016e3", func := "turnbuckle/turnbucklelaw07.AluShifts", spec := "aluShifts", apart := false }
def AluShiftsSaid : Prop := aluShiftsRow.holds Try.pinned (OpenSpec.ofChange aluShiftsSpec)

/-- ITS FALSE NEIGHBOUR: 'it returns false'. Refute it at one input. -/
def aluShiftsWrong : ChangeSpec := { name := "aluShifts", fn := fun _ => fun
  | [d1, d2] => { results := [.lit (.bool false)], args := [d1, d2] }
  | _ => none }
def AluShiftsWrongFalsely : Prop := aluShiftsRow.holds Try.pinned (OpenSpec.ofChange aluShiftsWrong)

/-- 'turnbucklelaw07.AluOpposite': WHATEVER THE INPUT: true; the input reads as it did. -/
def aluOppositeSpec : ChangeSpec := { name := "aluOpposite", fn := fun _ => fun
  | [d1, d2, d3] => { results := [.lit (.bool true)], args := [d1, d2, d3] }
  | _ => none }
def aluOppositeRow : OpenClaim := { program := "ytnneomnablfndaa", sum := "2cd88e9474b6a88977ffe1a71753c2e3eab819d8d3058e4f8fd91ba2e6d016e3", func := "turnbuckle/turnbucklelaw07.AluOpposite", spec := "aluOpposite", apart := false }
def AluOppositeSaid : Prop := aluOppositeRow.holds Try.pinned (OpenSpec.ofChange aluOppositeSpec)

/-- ITS FALSE NEIGHBOUR: 'it returns false'. Refute it at one input. -/
def aluOppositeWrong : ChangeSpec := { name := "aluOpposite", fn := fun _ => fun
  | [d1, d2, d3] => { results := [.lit (.bool false)], args := [d1, d2, d3] }
  | _ => none }
def AluOppositeWrongFalsely : Prop := aluOppositeRow.holds Try.pinned (OpenSpec.ofChange aluOppositeWrong)

/-- 'turnbucklelaw07.AluBits': WHATEVER THE INPUT: true; the input reads as it did. -/
def aluBitsSpec : ChangeSpec := { name := "aluBits", fn := fun _ => fun
  | [d1, d2, d3] => { results := [.lit (.bool true)], args := [d1, d2, d3] }
  | _ => none }
def aluBitsRow : OpenClaim := { program := "ytnneomnablfndaa", sum := "2cd88e9474b6a88977ffe1a71753c2e3eab819d8d3058e4f8fd91ba2e6d016e3", func := "turnbuckle/turnbucklelaw07.AluBits", spec := "aluBits", apart := false }
def AluBitsSaid : Prop := aluBitsRow.holds Try.pinned (OpenSpec.ofChange aluBitsSpec)

/-- ITS FALSE NEIGHBOUR: 'it returns false'. Refute it at one input. -/
def aluBitsWrong : ChangeSpec := { name := "aluBits", fn := fun _ => fun
  | [d1, d2, d3] => { results := [.lit (.bool false)], args := [d1, d2, d3] }
  | _ => none }
def AluBitsWrongFalsely : Prop := aluBitsRow.holds Try.pinned (OpenSpec.ofChange aluBitsWrong)

/-- 'turnbucklelaw07.AluRing': WHATEVER THE INPUT: true; the input reads as it did. -/
def aluRingSpec : ChangeSpec := { name := "aluRing", fn := fun _ => fun
  | [d1, d2, d3] => { results := [.lit (.bool true)], args := [d1, d2, d3] }
  | _ => none }
def aluRingRow : OpenClaim := { program := "ytnneomnablfndaa", sum := "2cd88e9474b6a88977ffe1a71753c2e3eab819d8d3058e4f8fd91ba2e6d016e3", func := "turnbuckle/turnbucklelaw07.AluRing", spec := "aluRing", apart := false }
def AluRingSaid : Prop := aluRingRow.holds Try.pinned (OpenSpec.ofChange aluRingSpec)

/-- ITS FALSE NEIGHBOUR: 'it returns false'. Refute it at one input. -/
def aluRingWrong : ChangeSpec := { name := "aluRing", fn := fun _ => fun
  | [d1, d2, d3] => { results := [.lit (.bool false)], args := [d1, d2, d3] }
  | _ => none }
def AluRingWrongFalsely : Prop := aluRingRow.holds Try.pinned (OpenSpec.ofChange aluRingWrong)

/- THE SECOND FORM. 'bulk': how many values and letters a reading holds, each counted each time it is reached (what is shared counts as often as it is met; a slice's spare places count too). A statement '..UptoSaid' is the law's where the arguments, and the package variables that the reading takes, are together of bulk at most 1048576: NARROWER than '..Said'. Prove '..Said' where nothing that the law and all that it calls make is longer than what came in: it says more and counts as full. Else prove '..UptoSaid'. A law counts once. -/
mutual
def uptoBulk {H : Type} : DataW H → Nat
  | .lit (.string bytes) => bytes.length + 1
  | .lit _ => 1
  | .nil => 1
  | .ptr d => uptoBulk d + 1
  | .slice elems spare => uptoBulkAll elems + uptoBulkAll spare + 1
  | .agg parts => uptoBulkAll parts + 1
  | .iface _ d => uptoBulk d + 1
  | .map entries => uptoBulkEntries entries + 1
  | .held _ => 1
def uptoBulkAll {H : Type} : List (DataW H) → Nat
  | [] => 0
  | d :: r => uptoBulk d + uptoBulkAll r
def uptoBulkEntries {H : Type} : List (Lit × DataW H) → Nat
  | [] => 0
  | x :: r => uptoBulkEntry x + uptoBulkEntries r
def uptoBulkEntry {H : Type} : Lit × DataW H → Nat
  | (.string bytes, d) => bytes.length + uptoBulk d + 1
  | (_, d) => uptoBulk d + 1
 end
def uptoSmall : (H : Type) → List (DataW H) → Bool := fun _ ds => decide (uptoBulkAll ds ≤ 1048576)
def OpenSpec.upto (s : _root_.Go.ChangeSpec) : _root_.Go.OpenSpec := { _root_.Go.OpenSpec.ofChange s with cond := some uptoSmall }

/-- 'turnbucklelaw07.AluDoes', WHERE WHAT IT READS IS OF BULK AT MOST 1048576: true; the input reads as it did. -/
def aluDoesUptoRow : OpenClaim := { program := "ytnneomnablfndaa", sum := "2cd88e9474b6a88977ffe1a71753c2e3eab819d8d3058e4f8fd91ba2e6d016e3", func := "turnbuckle/turnbucklelaw07.AluDoes", spec := "aluDoes", apart := false, narrowed := true }
def AluDoesUptoSaid : Prop := aluDoesUptoRow.holds Try.pinned (OpenSpec.upto aluDoesSpec)

/-- 'turnbucklelaw07.AluHolds', WHERE WHAT IT READS IS OF BULK AT MOST 1048576: true; the input reads as it did. -/
def aluHoldsUptoRow : OpenClaim := { program := "ytnneomnablfndaa", sum := "2cd88e9474b6a88977ffe1a71753c2e3eab819d8d3058e4f8fd91ba2e6d016e3", func := "turnbuckle/turnbucklelaw07.AluHolds", spec := "aluHolds", apart := false, narrowed := true }
def AluHoldsUptoSaid : Prop := aluHoldsUptoRow.holds Try.pinned (OpenSpec.upto aluHoldsSpec)

/-- 'turnbucklelaw07.AluBack', WHERE WHAT IT READS IS OF BULK AT MOST 1048576: true; the input reads as it did. -/
def aluBackUptoRow : OpenClaim := { program := "ytnneomnablfndaa", sum := "2cd88e9474b6a88977ffe1a71753c2e3eab819d8d3058e4f8fd91ba2e6d016e3", func := "turnbuckle/turnbucklelaw07.AluBack", spec := "aluBack", apart := false, narrowed := true }
def AluBackUptoSaid : Prop := aluBackUptoRow.holds Try.pinned (OpenSpec.upto aluBackSpec)

/-- 'turnbucklelaw07.AluShifts', WHERE WHAT IT READS IS OF BULK AT MOST 1048576: true; the input reads as it did. -/
def aluShiftsUptoRow : OpenClaim := { program := "ytnneomnablfndaa", sum := "2cd88e9474b6a88977ffe1a71753c2e3eab819d8d3058e4f8fd91ba2e6d016e3", func := "turnbuckle/turnbucklelaw07.AluShifts", spec := "aluShifts", apart := false, narrowed := true }
def AluShiftsUptoSaid : Prop := aluShiftsUptoRow.holds Try.pinned (OpenSpec.upto aluShiftsSpec)

/-- 'turnbucklelaw07.AluOpposite', WHERE WHAT IT READS IS OF BULK AT MOST 1048576: true; the input reads as it did. -/
def aluOppositeUptoRow : OpenClaim := { program := "ytnneomnablfndaa", sum := "2cd88e9474b6a88977ffe1a71753c2e3eab819d8d3058e4f8fd91ba2e6d016e3", func := "turnbuckle/turnbucklelaw07.AluOpposite", spec := "aluOpposite", apart := false, narrowed := true }
def AluOppositeUptoSaid : Prop := aluOppositeUptoRow.holds Try.pinned (OpenSpec.upto aluOppositeSpec)

/-- 'turnbucklelaw07.AluBits', WHERE WHAT IT READS IS OF BULK AT MOST 1048576: true; the input reads as it did. -/
def aluBitsUptoRow : OpenClaim := { program := "ytnneomnablfndaa", sum := "2cd88e9474b6a88977ffe1a71753c2e3eab819d8d3058e4f8fd91ba2e6d016e3", func := "turnbuckle/turnbucklelaw07.AluBits", spec := "aluBits", apart := false, narrowed := true }
def AluBitsUptoSaid : Prop := aluBitsUptoRow.holds Try.pinned (OpenSpec.upto aluBitsSpec)

/-- 'turnbucklelaw07.AluRing', WHERE WHAT IT READS IS OF BULK AT MOST 1048576: true; the input reads as it did. -/
def aluRingUptoRow : OpenClaim := { program := "ytnneomnablfndaa", sum := "2cd88e9474b6a88977ffe1a71753c2e3eab819d8d3058e4f8fd91ba2e6d016e3", func := "turnbuckle/turnbucklelaw07.AluRing", spec := "aluRing", apart := false, narrowed := true }
def AluRingUptoSaid : Prop := aluRingUptoRow.holds Try.pinned (OpenSpec.upto aluRingSpec)

end Rows
end Go.Proofs.Ytnneomnablfndaa
