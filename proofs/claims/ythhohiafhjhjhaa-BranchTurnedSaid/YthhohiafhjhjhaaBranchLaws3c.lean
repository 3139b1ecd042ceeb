
/- The walk of chapter 9's statement BranchTurned, whole. -/
import Derived.Test.YthhohiafhjhjhaaBranchLaws3
import Derived.Test.YthhohiafhjhjhaaBranchLaws3b
namespace Go.Proofs.Ythhohiafhjhjhaa
open Go.RowKit
set_option linter.unusedVariables false
set_option linter.unusedSimpArgs false

theorem branchTurned_walk (k a b c d : Nat) (h : Bool) (hk : k < 256) (ha : a < M) (hb : b < M) (hc : c < M) (hd : d < M) (w : World) :
    Calls Try.prog 5 #[.int .u8 k, .agg #[.int .u64 a, .int .u64 b], .agg #[.int .u64 c, .int .u64 d], .bool h] w fun e w' => e = .returned (.bool true) ∧ Below w.heap.size w w' := by
  have hw : (wrap64 (k : Int)).tmod 4 = ((k % 4 : Nat) : Int) := by
    have e : wrap64 (k : Int) = (k : Int) := by unfold wrap64; omega
    rw [e, Int.tmod_eq_emod_of_nonneg (by omega)]; omega
  have h4 : k % 4 = 0 ∨ k % 4 = 1 ∨ k % 4 = 2 ∨ k % 4 = 3 := by omega
  rcases h4 with q | q | q | q <;> rw [q] at hw <;> have hk' := hw
  · have C1 := refine_any 1 a b c d h ha hb hc hd _ rfl
    have C2 := refine_any 1 c d a b h hc hd ha hb _ rfl
    obtain ⟨e1, e2⟩ := brRef_turn (k := 1) (by decide) (by decide) a b c d h
    rw [show turnK 1 = 1 by decide] at e1 e2
    rw [← e1] at C1
    rw [e2] at C2
    obtain ⟨S, hS⟩ : ∃ S, brRef 1 c d a b h = S := ⟨_, rfl⟩
    rw [hS] at C1 C2
    exact turned_0 k a b c d S.c S.d S.a S.b h S.can _ hk' C1 C2 w
  · have C1 := refine_any 2 a b c d h ha hb hc hd _ rfl
    have C2 := refine_any 2 c d a b h hc hd ha hb _ rfl
    obtain ⟨e1, e2⟩ := brRef_turn (k := 2) (by decide) (by decide) a b c d h
    rw [show turnK 2 = 2 by decide] at e1 e2
    rw [← e1] at C1
    rw [e2] at C2
    obtain ⟨S, hS⟩ : ∃ S, brRef 2 c d a b h = S := ⟨_, rfl⟩
    rw [hS] at C1 C2
    exact turned_1 k a b c d S.c S.d S.a S.b h S.can _ hk' C1 C2 w
  · have C1 := refine_any 3 a b c d h ha hb hc hd _ rfl
    have C2 := refine_any 5 c d a b h hc hd ha hb _ rfl
    obtain ⟨e1, e2⟩ := brRef_turn (k := 3) (by decide) (by decide) a b c d h
    rw [show turnK 3 = 5 by decide] at e1 e2
    rw [← e1] at C1
    rw [e2] at C2
    obtain ⟨S, hS⟩ : ∃ S, brRef 5 c d a b h = S := ⟨_, rfl⟩
    rw [hS] at C1 C2
    exact turned_2 k a b c d S.c S.d S.a S.b h S.can _ hk' C1 C2 w
  · have C1 := refine_any 4 a b c d h ha hb hc hd _ rfl
    have C2 := refine_any 6 c d a b h hc hd ha hb _ rfl
    obtain ⟨e1, e2⟩ := brRef_turn (k := 4) (by decide) (by decide) a b c d h
    rw [show turnK 4 = 6 by decide] at e1 e2
    rw [← e1] at C1
    rw [e2] at C2
    obtain ⟨S, hS⟩ : ∃ S, brRef 6 c d a b h = S := ⟨_, rfl⟩
    rw [hS] at C1 C2
    exact turned_3 k a b c d S.c S.d S.a S.b h S.can _ hk' C1 C2 w

end Go.Proofs.Ythhohiafhjhjhaa
