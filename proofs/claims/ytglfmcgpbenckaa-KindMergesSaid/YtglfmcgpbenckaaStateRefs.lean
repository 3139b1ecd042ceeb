/- Two lists of references: turnbuckleref17.Refs and slices.Equal. -/
import Derived.Test.YtglfmcgpbenckaaStateW1
import Derived.Deep.QuietTactic
import Derived.BigQuiet
import Derived.Outline
namespace Go.Proofs.Ytglfmcgpbenckaa
open Go.RowKit
set_option linter.unusedVariables false
set_option linter.unusedSimpArgs false
/-- the integers xs lie at p. -/
def Ints (w : World) (p : Option Addr) (xs : List Int) : Prop :=
  xs = [] ∨ ∃ b o, p = some ⟨b, o, none⟩ ∧ ∀ i, i < xs.length → w.cell? ⟨b, o + i, none⟩ = some (.int .i64 (xs.getD i 0))
theorem Ints.below {w w' : World} (h : Below w.heap.size w w') {p : Option Addr} {xs : List Int} (k : Ints w p xs) : Ints w' p xs := by
  rcases k with k | ⟨b, o, hp, k⟩
  · exact .inl k
  · refine .inr ⟨b, o, hp, fun i hi => ?_⟩
    have c := k i hi
    rw [h.cell (block_lt_of_cell c)]; exact c
theorem Ints.drew {w : World} {p : Option Addr} {xs : List Int} (k : Ints w p xs) (n : Nat) : Ints (w.drewN n) p xs := k
theorem take_ne {xs ys : List Int} (j : Nat) (hl : xs.length = ys.length) (hj : j < xs.length) (h : ¬ xs.getD j 0 = ys.getD j 0) : ¬ xs = ys := fun e => h (by rw [e])
theorem take_eq {xs ys : List Int} (j : Nat) (hl : xs.length = ys.length) (hj : j < xs.length) (h : xs.getD j 0 = ys.getD j 0) (ht : xs.take j = ys.take j) : xs.take (j + 1) = ys.take (j + 1) := by
  rw [List.take_succ_eq_append_getElem hj, List.take_succ_eq_append_getElem (by omega), ht]
  simp [List.getElem?_eq_getElem, hj, hl ▸ hj] at h
  rw [h]
set_option maxRecDepth 100000 in
set_option maxHeartbeats 2000000 in
theorem refs_same (p q : Option Addr) (c d : Nat) (xs ys : List Int) (w : World) (hl : xs.length = ys.length) (hm : xs.length ≤ maxLen) (hx : Ints w p xs) (hy : Ints w q ys) :
    Calls Try.prog 18 #[.slice p xs.length c, .slice q ys.length d] w fun e w' => e = .returned (.bool (decide (xs = ys))) ∧ Below w.heap.size w w' := by
  unfold maxLen at hm
  rw [← hl]
  obtain ⟨n, hn⟩ : ∃ n, xs.length = n := ⟨_, rfl⟩
  have HL := Lib.hid hl
  have HN := Lib.hid hn
  rw [hn] at hm ⊢
  clear hl hn
  obtain ⟨v, hv⟩ : ∃ v, decide (xs = ys) = v := ⟨_, rfl⟩
  rw [hv]
  have HV := Lib.hid hv
  have HX := Lib.hid hx
  have HY := Lib.hid hy
  clear hv hx hy
  have hm' : (n : Int) ≤ 9223372036854775807 := by omega
  go_enter Try.func18, Try.ntmps18
  go_wp2
  go_loopw [5] (fun i wr => ∃ j : Nat, j ≤ n ∧ i = .int .i64 j ∧ xs.take j = ys.take j ∧ ∃ k, wr = w.drewN k) (fun i _ => n - (intOf i).toNat)
  case atStart => exact ⟨0, Nat.zero_le _, rfl, rfl, 0, rfl⟩
  case round =>
    obtain ⟨j, hj, rfl, ht, k, rfl⟩ := hrel
    have HT := Lib.hid ht
    clear ht
    by_cases hlt : j < n
    · have hlt' : (j : Int) < n := by omega
      have h0 : (0 : Int) ≤ j := by omega
      rcases HX.out with e | ⟨b, o, rfl, hx⟩
      · exfalso; rw [← HN.out, e] at hlt; simp at hlt
      rcases HY.out with e | ⟨b', o', rfl, hy⟩
      · exfalso; rw [← HN.out, HL.out, e] at hlt; simp at hlt
      have gx := hx j (by rw [HN.out]; exact hlt)
      have gy := hy j (by rw [← HL.out, HN.out]; exact hlt)
      obtain ⟨a1, ha1⟩ : ∃ a1, xs.getD j 0 = a1 := ⟨_, rfl⟩
      obtain ⟨a2, ha2⟩ : ∃ a2, ys.getD j 0 = a2 := ⟨_, rfl⟩
      rw [ha1] at gx
      rw [ha2] at gy
      have HA1 := Lib.hid ha1
      have HA2 := Lib.hid ha2
      clear hx hy ha1 ha2
      have gx : (w.drewN k).cell? ⟨b, o + j, none⟩ = some (.int .i64 a1) := gx
      have gy : (w.drewN k).cell? ⟨b', o' + j, none⟩ = some (.int .i64 a2) := gy
      by_cases e : a1 = a2
      · have e' : (a1 == a2) = true := by simp [e]
        have e'' : (a1 != a2) = false := by simp [e]
        have HE := Lib.hid e
        clear e
        go_wp2
        go_quiet (fail)
        go_wp2
        go_roundw
        case rel => exact ⟨j + 1, hlt, by go_num, take_eq j HL.out (by rw [HN.out]; exact hlt) (by rw [HA1.out, HA2.out]; exact HE.out) HT.out, _, rfl⟩
        case measure => simp [intOf]; omega
      · have e' : (a1 == a2) = false := by simp [e]
        have e'' : (a1 != a2) = true := by simp [e]
        have HE := Lib.hid e
        clear e
        go_wp2
        go_quiet (fail)
        go_wp2
        go_ret
        exact ⟨ret_bool (by rw [← HV.out, decide_eq_false (take_ne j HL.out (by rw [HN.out]; exact hlt) (by rw [HA1.out, HA2.out]; exact HE.out))]), below_draws (below_draws (Below.refl _ _) _) _⟩
    · have : j = n := by omega
      subst this
      go_wp2
      go_ret
      exact ⟨ret_bool (by rw [← HV.out, decide_eq_true (show xs = ys by have := HT.out; rwa [List.take_of_length_le (by rw [HN.out]; omega), List.take_of_length_le (by rw [← HL.out, HN.out]; omega)] at this)]), below_draws (Below.refl _ _) _⟩
set_option maxRecDepth 100000 in
set_option maxHeartbeats 2000000 in
theorem equal_same (p q : Option Addr) (c d : Nat) (xs ys : List Int) (w : World) (hl : xs.length = ys.length) (hm : xs.length ≤ maxLen) (hx : Ints w p xs) (hy : Ints w q ys) :
    Calls Try.prog 28 #[.slice p xs.length c, .slice q ys.length d] w fun e w' => e = .returned (.bool (decide (xs = ys))) ∧ Below w.heap.size w w' := by
  unfold maxLen at hm
  rw [← hl]
  obtain ⟨n, hn⟩ : ∃ n, xs.length = n := ⟨_, rfl⟩
  have HL := Lib.hid hl
  have HN := Lib.hid hn
  rw [hn] at hm ⊢
  clear hl hn
  obtain ⟨v, hv⟩ : ∃ v, decide (xs = ys) = v := ⟨_, rfl⟩
  rw [hv]
  have HV := Lib.hid hv
  have HX := Lib.hid hx
  have HY := Lib.hid hy
  clear hv hx hy
  have hm' : (n : Int) ≤ 9223372036854775807 := by omega
  go_enter Try.func28, Try.ntmps28
  go_wp2
  go_loopw [13] (fun i wr => ∃ j : Nat, j ≤ n ∧ i = .int .i64 j ∧ xs.take j = ys.take j ∧ ∃ k, wr = w.drewN k) (fun i _ => n - (intOf i).toNat)
  case atStart => exact ⟨0, Nat.zero_le _, rfl, rfl, 0, rfl⟩
  case round =>
    obtain ⟨j, hj, rfl, ht, k, rfl⟩ := hrel
    have HT := Lib.hid ht
    clear ht
    by_cases hlt : j < n
    · have hlt' : (j : Int) < n := by omega
      have h0 : (0 : Int) ≤ j := by omega
      rcases HX.out with e | ⟨b, o, rfl, hx⟩
      · exfalso; rw [← HN.out, e] at hlt; simp at hlt
      rcases HY.out with e | ⟨b', o', rfl, hy⟩
      · exfalso; rw [← HN.out, HL.out, e] at hlt; simp at hlt
      have gx := hx j (by rw [HN.out]; exact hlt)
      have gy := hy j (by rw [← HL.out, HN.out]; exact hlt)
      obtain ⟨a1, ha1⟩ : ∃ a1, xs.getD j 0 = a1 := ⟨_, rfl⟩
      obtain ⟨a2, ha2⟩ : ∃ a2, ys.getD j 0 = a2 := ⟨_, rfl⟩
      rw [ha1] at gx
      rw [ha2] at gy
      have HA1 := Lib.hid ha1
      have HA2 := Lib.hid ha2
      clear hx hy ha1 ha2
      have gx : (w.drewN k).cell? ⟨b, o + j, none⟩ = some (.int .i64 a1) := gx
      have gy : (w.drewN k).cell? ⟨b', o' + j, none⟩ = some (.int .i64 a2) := gy
      by_cases e : a1 = a2
      · have e' : (a1 == a2) = true := by simp [e]
        have e'' : (a1 != a2) = false := by simp [e]
        have HE := Lib.hid e
        clear e
        go_wp2
        go_quiet (fail)
        go_wp2
        go_roundw
        case rel => exact ⟨j + 1, hlt, by go_num, take_eq j HL.out (by rw [HN.out]; exact hlt) (by rw [HA1.out, HA2.out]; exact HE.out) HT.out, _, rfl⟩
        case measure => simp [intOf]; omega
      · have e' : (a1 == a2) = false := by simp [e]
        have e'' : (a1 != a2) = true := by simp [e]
        have HE := Lib.hid e
        clear e
        go_wp2
        go_quiet (fail)
        go_wp2
        go_ret
        exact ⟨ret_bool (by rw [← HV.out, decide_eq_false (take_ne j HL.out (by rw [HN.out]; exact hlt) (by rw [HA1.out, HA2.out]; exact HE.out))]), below_draws (below_draws (Below.refl _ _) _) _⟩
    · have : j = n := by omega
      subst this
      go_wp2
      go_ret
      exact ⟨ret_bool (by rw [← HV.out, decide_eq_true (show xs = ys by have := HT.out; rwa [List.take_of_length_le (by rw [HN.out]; omega), List.take_of_length_le (by rw [← HL.out, HN.out]; omega)] at this)]), below_draws (Below.refl _ _) _⟩
set_option maxRecDepth 100000 in
set_option maxHeartbeats 2000000 in
theorem refs_diff (p q : Option Addr) (c d n m : Nat) (w : World) (h : ¬ n = m) :
    Calls Try.prog 18 #[.slice p n c, .slice q m d] w fun e w' => e = .returned (.bool false) ∧ Below w.heap.size w w' := by
  have h1 : ((n : Int) != (m : Int)) = true := by rw [bne_iff_ne]; omega
  have h2 : ((n : Int) == (m : Int)) = false := by rw [beq_eq_false_iff_ne]; omega
  have h3 : ((n : Nat) == m) = false := by rw [beq_eq_false_iff_ne]; omega
  have h4 : ((n : Nat) != m) = true := by rw [bne_iff_ne]; omega
  go_enter Try.func18, Try.ntmps18
  go_wp2
  go_ret
  exact ⟨rfl, Below.refl _ _⟩
theorem refs_any (p q : Option Addr) (c d : Nat) (xs ys : List Int) (n m : Nat) (v : Bool) (hv : decide (xs = ys) = v) (hn : xs.length = n) (hm : ys.length = m) (w : World) (hl : n ≤ maxLen) (hx : Ints w p xs) (hy : Ints w q ys) :
    Calls Try.prog 18 #[.slice p n c, .slice q m d] w fun e w' => e = .returned (.bool v) ∧ Below w.heap.size w w' := by
  subst hn hm hv
  by_cases e : xs.length = ys.length
  · exact refs_same p q c d xs ys w e hl hx hy
  · rw [decide_eq_false (fun q => e (by rw [q]))]
    exact refs_diff p q c d _ _ w e
set_option maxRecDepth 100000 in
set_option maxHeartbeats 2000000 in
theorem equal_diff (p q : Option Addr) (c d n m : Nat) (w : World) (h : ¬ n = m) :
    Calls Try.prog 28 #[.slice p n c, .slice q m d] w fun e w' => e = .returned (.bool false) ∧ Below w.heap.size w w' := by
  have h1 : ((n : Int) != (m : Int)) = true := by rw [bne_iff_ne]; omega
  have h2 : ((n : Int) == (m : Int)) = false := by rw [beq_eq_false_iff_ne]; omega
  have h3 : ((n : Nat) == m) = false := by rw [beq_eq_false_iff_ne]; omega
  have h4 : ((n : Nat) != m) = true := by rw [bne_iff_ne]; omega
  go_enter Try.func28, Try.ntmps28
  go_wp2
  go_ret
  exact ⟨rfl, Below.refl _ _⟩
theorem equal_any (p q : Option Addr) (c d : Nat) (xs ys : List Int) (n m : Nat) (v : Bool) (hv : decide (xs = ys) = v) (hn : xs.length = n) (hm : ys.length = m) (w : World) (hl : n ≤ maxLen) (hx : Ints w p xs) (hy : Ints w q ys) :
    Calls Try.prog 28 #[.slice p n c, .slice q m d] w fun e w' => e = .returned (.bool v) ∧ Below w.heap.size w w' := by
  subst hn hm hv
  by_cases e : xs.length = ys.length
  · exact equal_same p q c d xs ys w e hl hx hy
  · rw [decide_eq_false (fun q => e (by rw [q]))]
    exact equal_diff p q c d _ _ w e
end Go.Proofs.Ytglfmcgpbenckaa
