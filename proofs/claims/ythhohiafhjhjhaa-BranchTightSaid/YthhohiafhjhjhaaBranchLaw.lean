
/- The plain laws of chapter 9: what spans become behind a condition, no program in sight. -/
import Derived.Test.YthhohiafhjhjhaaBranchPlain
namespace Go.Proofs.Ythhohiafhjhjhaa
open Go.RowKit
set_option linter.unusedVariables false
set_option linter.unusedSimpArgs false

theorem six {k : Int} (h1 : 1 ≤ k) (h2 : k ≤ 6) : k = 1 ∨ k = 2 ∨ k = 3 ∨ k = 4 ∨ k = 5 ∨ k = 6 := by omega
theorem not_six {k : Int} (h1 : 1 ≤ k) (h2 : k ≤ 6) : 1 ≤ notV k ∧ notV k ≤ 6 := by
  rcases six h1 h2 with rfl | rfl | rfl | rfl | rfl | rfl <;> decide
theorem not_eight {k : Int} (h1 : 1 ≤ k) (h2 : k ≤ 8) : 1 ≤ notV k ∧ notV k ≤ 8 := by
  have h : k = 1 ∨ k = 2 ∨ k = 3 ∨ k = 4 ∨ k = 5 ∨ k = 6 ∨ k = 7 ∨ k = 8 := by omega
  rcases h with rfl | rfl | rfl | rfl | rfl | rfl | rfl | rfl <;> decide
theorem not_holds {k : Int} (h1 : 1 ≤ k) (h2 : k ≤ 6) (x y : Nat) : holdsV (notV k) x y = !holdsV k x y := by
  rcases six h1 h2 with rfl | rfl | rfl | rfl | rfl | rfl <;> simp [notV, holdsV]
theorem wout_in (a b c d : Nat) (h : a ≤ b) : a ≤ (wout a b c d).1 ∧ (wout a b c d).1 ≤ (wout a b c d).2 ∧ (wout a b c d).2 ≤ b := by
  unfold wout
  by_cases h1 : c = d ∧ ¬ a = b
  · rw [if_pos h1]
    by_cases h2 : a = c
    · rw [if_pos h2]; dsimp only; omega
    · rw [if_neg h2]
      by_cases h3 : b = c
      · rw [if_pos h3]; dsimp only; omega
      · rw [if_neg h3]; dsimp only; omega
  · rw [if_neg h1]; dsimp only; omega
theorem wout_has (a b c d x y : Nat) (ax : a ≤ x) (xb : x ≤ b) (cy : c ≤ y) (yd : y ≤ d) (h : ¬ x = y) : (wout a b c d).1 ≤ x ∧ x ≤ (wout a b c d).2 := by
  unfold wout
  by_cases h1 : c = d ∧ ¬ a = b
  · rw [if_pos h1]
    by_cases h2 : a = c
    · rw [if_pos h2]; dsimp only; omega
    · rw [if_neg h2]
      by_cases h3 : b = c
      · rw [if_pos h3]; dsimp only; omega
      · rw [if_neg h3]; dsimp only; omega
  · rw [if_neg h1]; dsimp only; omega
theorem wout_lt (a b c d : Nat) (hb : b < M) (h : a ≤ b) : (wout a b c d).1 < M ∧ (wout a b c d).2 < M := by
  have := wout_in a b c d h; omega

theorem W1 (a b c d : Nat) : brWhere 1 a b c d = if max a c ≤ min b d then ⟨max a c, min b d, max a c, min b d, true⟩ else brNo := rfl
theorem W2 (a b c d : Nat) : brWhere 2 a b c d = ⟨(wout a b c d).1, (wout a b c d).2, (wout c d a b).1, (wout c d a b).2, true⟩ := rfl
theorem W3 (a b c d : Nat) : brWhere 3 a b c d = if d ≤ a then brNo else ⟨a, min b (d - 1), max c (a + 1), d, true⟩ := rfl
theorem W4 (a b c d : Nat) : brWhere 4 a b c d = if d < a then brNo else ⟨a, min b d, max c a, d, true⟩ := rfl
theorem W5 (a b c d : Nat) : brWhere 5 a b c d = if b ≤ c then brNo else ⟨max a (c + 1), b, c, min d (b - 1), true⟩ := rfl
theorem W6 (a b c d : Nat) : brWhere 6 a b c d = if b < c then brNo else ⟨max a c, b, c, min d b, true⟩ := rfl
theorem Wn {k : Int} (h : 7 ≤ k) (a b c d : Nat) : brWhere k a b c d = ⟨a, b, c, d, true⟩ := by
  unfold brWhere; rw [if_neg (by omega), if_neg (by omega), if_neg (by omega), if_neg (by omega), if_neg (by omega), if_neg (by omega)]

/-- what holds of numbers of the spans is not lost. -/
theorem brW_sound {k : Int} (h1 : 1 ≤ k) (a b c d x y : Nat) (ax : a ≤ x) (xb : x ≤ b) (cy : c ≤ y) (yd : y ≤ d) (h : k ≤ 6 → holdsV k x y = true) :
    (brWhere k a b c d).can = true ∧ ((brWhere k a b c d).a ≤ x ∧ x ≤ (brWhere k a b c d).b) ∧ ((brWhere k a b c d).c ≤ y ∧ y ≤ (brWhere k a b c d).d) := by
  by_cases h2 : k ≤ 6
  · replace h := h h2
    rcases six h1 h2 with rfl | rfl | rfl | rfl | rfl | rfl
    · have e : x = y := by simpa [holdsV] using h
      rw [W1, if_pos (by omega)]; dsimp only; exact ⟨rfl, by omega, by omega⟩
    · have e : ¬ x = y := by simpa [holdsV] using h
      rw [W2]; dsimp only; exact ⟨rfl, wout_has a b c d x y ax xb cy yd e, wout_has c d a b y x cy yd ax xb (fun q => e q.symm)⟩
    · have e : x < y := by simpa [holdsV] using h
      rw [W3, if_neg (by omega)]; dsimp only; exact ⟨rfl, by omega, by omega⟩
    · have e : x ≤ y := by simpa [holdsV] using h
      rw [W4, if_neg (by omega)]; dsimp only; exact ⟨rfl, by omega, by omega⟩
    · have e : y < x := by simpa [holdsV] using h
      rw [W5, if_neg (by omega)]; dsimp only; exact ⟨rfl, by omega, by omega⟩
    · have e : y ≤ x := by simpa [holdsV] using h
      rw [W6, if_neg (by omega)]; dsimp only; exact ⟨rfl, by omega, by omega⟩
  · rw [Wn (by omega)]; exact ⟨rfl, ⟨ax, xb⟩, cy, yd⟩
def BrIn (R : Br) (a b c d : Nat) : Prop := (a ≤ R.a ∧ R.a ≤ R.b ∧ R.b ≤ b) ∧ (c ≤ R.c ∧ R.c ≤ R.d ∧ R.d ≤ d)
theorem brW_in {k : Int} (h1 : 1 ≤ k) (a b c d : Nat) (hab : a ≤ b) (hcd : c ≤ d) :
    ((brWhere k a b c d).can = true ∧ BrIn (brWhere k a b c d) a b c d) ∨ brWhere k a b c d = brNo := by
  by_cases h2 : k ≤ 6
  · rcases six h1 h2 with rfl | rfl | rfl | rfl | rfl | rfl
    · rw [W1]; by_cases h : max a c ≤ min b d
      · rw [if_pos h]; left; exact ⟨rfl, by unfold BrIn; dsimp only; omega⟩
      · rw [if_neg h]; right; rfl
    · rw [W2]; left; exact ⟨rfl, wout_in a b c d hab, wout_in c d a b hcd⟩
    · rw [W3]; by_cases h : d ≤ a
      · rw [if_pos h]; right; rfl
      · rw [if_neg h]; left; exact ⟨rfl, by unfold BrIn; dsimp only; omega⟩
    · rw [W4]; by_cases h : d < a
      · rw [if_pos h]; right; rfl
      · rw [if_neg h]; left; exact ⟨rfl, by unfold BrIn; dsimp only; omega⟩
    · rw [W5]; by_cases h : b ≤ c
      · rw [if_pos h]; right; rfl
      · rw [if_neg h]; left; exact ⟨rfl, by unfold BrIn; dsimp only; omega⟩
    · rw [W6]; by_cases h : b < c
      · rw [if_pos h]; right; rfl
      · rw [if_neg h]; left; exact ⟨rfl, by unfold BrIn; dsimp only; omega⟩
  · rw [Wn (by omega)]; left; exact ⟨rfl, by unfold BrIn; dsimp only; omega⟩
/-- of what a condition of the first six leaves, it holds at some ends. -/
def EndsHold (k : Int) (R : Br) (h : Bool) : Prop := holdsV k R.a R.c = h ∨ holdsV k R.b R.c = h ∨ holdsV k R.a R.d = h ∨ holdsV k R.b R.d = h
theorem brW_ends {k : Int} (h1 : 1 ≤ k) (h2 : k ≤ 6) (a b c d : Nat) (hab : a ≤ b) (hcd : c ≤ d) (hs : ¬ (a = b ∧ c = d)) (hc : (brWhere k a b c d).can = true) :
    EndsHold k (brWhere k a b c d) true := by
  unfold EndsHold
  rcases six h1 h2 with rfl | rfl | rfl | rfl | rfl | rfl
  · rw [W1] at hc ⊢; by_cases h : max a c ≤ min b d
    · rw [if_pos h]; left; simp [holdsV]
    · rw [if_neg h] at hc; cases hc
  · rw [W2]; dsimp only
    have H : ∀ x y : Nat, ¬ x = y → holdsV 2 x y = true := fun x y e => by simp [holdsV, e]
    by_cases e1 : c = d
    · have e2 : ¬ a = b := fun q => hs ⟨q, e1⟩
      left; apply H
      unfold wout
      have q1 : ¬ (a = b ∧ ¬ c = d) := fun q => q.2 e1
      rw [if_pos ⟨e1, e2⟩, if_neg q1]
      by_cases h2 : a = c
      · rw [if_pos h2]; dsimp only; omega
      · rw [if_neg h2]
        by_cases h3 : b = c
        · rw [if_pos h3]; dsimp only; omega
        · rw [if_neg h3]; dsimp only; omega
    · by_cases e2 : a = b
      · left; apply H
        unfold wout
        rw [if_neg (fun q => e1 q.1), if_pos ⟨e2, e1⟩]
        by_cases h2 : c = a
        · rw [if_pos h2]; dsimp only; omega
        · rw [if_neg h2]
          by_cases h3 : d = a
          · rw [if_pos h3]; dsimp only; omega
          · rw [if_neg h3]; dsimp only; omega
      · have q1 : wout a b c d = (a, b) := by unfold wout; rw [if_neg (fun q => e1 q.1)]
        have q2 : wout c d a b = (c, d) := by unfold wout; rw [if_neg (fun q => e2 q.1)]
        rw [q1, q2]; dsimp only
        by_cases e3 : a = c
        · right; left; apply H; omega
        · left; exact H _ _ e3
  · rw [W3] at hc ⊢; by_cases h : d ≤ a
    · rw [if_pos h] at hc; cases hc
    · rw [if_neg h]; right; right; left; simp [holdsV]; omega
  · rw [W4] at hc ⊢; by_cases h : d < a
    · rw [if_pos h] at hc; cases hc
    · rw [if_neg h]; right; right; left; simp [holdsV]; omega
  · rw [W5] at hc ⊢; by_cases h : b ≤ c
    · rw [if_pos h] at hc; cases hc
    · rw [if_neg h]; right; left; simp [holdsV]; omega
  · rw [W6] at hc ⊢; by_cases h : b < c
    · rw [if_pos h] at hc; cases hc
    · rw [if_neg h]; right; left; simp [holdsV]; omega

/-- the cases of brRef. -/
theorem brRef_one (k : Int) (a b c d : Nat) (h : Bool) (h1 : 1 ≤ k) (h2 : k ≤ 9) (h3 : a ≤ b) (h4 : c ≤ d) (h5 : a = b) (h6 : c = d) : brRef k a b c d h = if holdsV k a c = h then ⟨a, b, c, d, true⟩ else brNo := by
  unfold brRef; rw [if_pos ⟨⟨h1, h2⟩, h3, h4⟩, if_pos ⟨h5, h6⟩]
theorem brRef_yes (k : Int) (a b c d : Nat) (h1 : 1 ≤ k) (h2 : k ≤ 9) (h3 : a ≤ b) (h4 : c ≤ d) (hs : ¬ (a = b ∧ c = d)) : brRef k a b c d true = brWhere k a b c d := by
  unfold brRef; rw [if_pos ⟨⟨h1, h2⟩, h3, h4⟩, if_neg hs, if_pos rfl]
theorem brRef_nay (k : Int) (a b c d : Nat) (h1 : 1 ≤ k) (h2 : k ≤ 8) (h3 : a ≤ b) (h4 : c ≤ d) (hs : ¬ (a = b ∧ c = d)) : brRef k a b c d false = brWhere (notV k) a b c d := by
  unfold brRef; rw [if_pos ⟨⟨h1, by omega⟩, h3, h4⟩, if_neg hs, if_neg (by decide), if_neg (by omega)]
theorem brRef_set (a b c d : Nat) (h3 : a ≤ b) (h4 : c ≤ d) (hs : ¬ (a = b ∧ c = d)) : brRef 9 a b c d false = ⟨a, b, c, d, true⟩ := by
  unfold brRef; rw [if_pos ⟨⟨by decide, by decide⟩, h3, h4⟩, if_neg hs, if_neg (by decide), if_pos rfl]
theorem brRef_bad (k : Int) (a b c d : Nat) (h : Bool) (hb : ¬ ((1 ≤ k ∧ k ≤ 9) ∧ a ≤ b ∧ c ≤ d)) : brRef k a b c d h = brNo := by
  unfold brRef; rw [if_neg hb]

theorem brRef_sound {k : Int} (h1 : 1 ≤ k) (h2 : k ≤ 9) (a b c d x y : Nat) (ax : a ≤ x) (xb : x ≤ b) (cy : c ≤ y) (yd : y ≤ d) :
    (brRef k a b c d (holdsV k x y)).can = true ∧ ((brRef k a b c d (holdsV k x y)).a ≤ x ∧ x ≤ (brRef k a b c d (holdsV k x y)).b) ∧ ((brRef k a b c d (holdsV k x y)).c ≤ y ∧ y ≤ (brRef k a b c d (holdsV k x y)).d) := by
  have h3 : a ≤ b := by omega
  have h4 : c ≤ d := by omega
  by_cases hs : a = b ∧ c = d
  · have e1 : x = a := by omega
    have e2 : y = c := by omega
    subst e1 e2
    rw [brRef_one k _ _ _ _ _ h1 h2 h3 h4 hs.1 hs.2, if_pos rfl]
    exact ⟨rfl, ⟨ax, xb⟩, cy, yd⟩
  · cases hh : holdsV k x y
    · by_cases h9 : k = 9
      · subst h9; rw [brRef_set _ _ _ _ h3 h4 hs]; exact ⟨rfl, ⟨ax, xb⟩, cy, yd⟩
      · rw [brRef_nay k _ _ _ _ h1 (by omega) h3 h4 hs]
        refine brW_sound (not_eight h1 (by omega)).1 a b c d x y ax xb cy yd (fun h => ?_)
        have h6 : k ≤ 6 := by
          rcases (show k ≤ 6 ∨ k = 7 ∨ k = 8 by omega) with q | rfl | rfl
          · exact q
          · exact absurd h (by decide)
          · exact absurd h (by decide)
        rw [not_holds h1 h6, hh]; rfl
    · rw [brRef_yes k _ _ _ _ h1 h2 h3 h4 hs]
      exact brW_sound h1 a b c d x y ax xb cy yd (fun _ => hh)
theorem brRef_in {k : Int} (h1 : 1 ≤ k) (h2 : k ≤ 9) (a b c d : Nat) (h3 : a ≤ b) (h4 : c ≤ d) (h : Bool) :
    ((brRef k a b c d h).can = true ∧ BrIn (brRef k a b c d h) a b c d) ∨ brRef k a b c d h = brNo := by
  by_cases hs : a = b ∧ c = d
  · rw [brRef_one k _ _ _ _ _ h1 h2 h3 h4 hs.1 hs.2]
    by_cases hv : holdsV k a c = h
    · rw [if_pos hv]; left; exact ⟨rfl, by unfold BrIn; dsimp only; omega⟩
    · rw [if_neg hv]; right; rfl
  · cases h
    · by_cases h9 : k = 9
      · subst h9; rw [brRef_set _ _ _ _ h3 h4 hs]; left; exact ⟨rfl, by unfold BrIn; dsimp only; omega⟩
      · rw [brRef_nay k _ _ _ _ h1 (by omega) h3 h4 hs]
        exact brW_in (not_eight h1 (by omega)).1 a b c d h3 h4
    · rw [brRef_yes k _ _ _ _ h1 h2 h3 h4 hs]
      exact brW_in h1 a b c d h3 h4
theorem brRef_either {k : Int} (h1 : 1 ≤ k) (h2 : k ≤ 9) (a b c d : Nat) (h3 : a ≤ b) (h4 : c ≤ d) :
    (brRef k a b c d true).can = true ∨ (brRef k a b c d false).can = true := by
  have h := brRef_sound h1 h2 a b c d a c (Nat.le_refl _) h3 (Nat.le_refl _) h4
  cases hv : holdsV k a c
  · right; rw [hv] at h; exact h.1
  · left; rw [hv] at h; exact h.1
theorem brRef_ends {k : Int} (h1 : 1 ≤ k) (h2 : k ≤ 6) (a b c d : Nat) (h3 : a ≤ b) (h4 : c ≤ d) (h : Bool) (hc : (brRef k a b c d h).can = true) :
    EndsHold k (brRef k a b c d h) h := by
  by_cases hs : a = b ∧ c = d
  · rw [brRef_one k _ _ _ _ _ h1 (by omega) h3 h4 hs.1 hs.2] at hc ⊢
    by_cases hv : holdsV k a c = h
    · rw [if_pos hv]; left; exact hv
    · rw [if_neg hv] at hc; cases hc
  · cases h
    · rw [brRef_nay k _ _ _ _ h1 (by omega) h3 h4 hs] at hc ⊢
      have h' := brW_ends (not_six h1 h2).1 (not_six h1 h2).2 a b c d h3 h4 hs hc
      unfold EndsHold at h' ⊢
      simp only [not_holds h1 h2, Bool.not_eq_true'] at h'
      exact h'
    · rw [brRef_yes k _ _ _ _ h1 (by omega) h3 h4 hs] at hc ⊢
      exact brW_ends h1 h2 a b c d h3 h4 hs hc
theorem brRef_twice {k : Int} (h1 : 1 ≤ k) (h2 : k ≤ 6) (a b c d : Nat) (h3 : a ≤ b) (h4 : c ≤ d) (h : Bool) (R : Br) (hR : brRef k a b c d h = R) (hc : R.can = true) :
    (brRef k R.a R.b R.c R.d h).can = true ∧ BrIn (brRef k R.a R.b R.c R.d h) R.a R.b R.c R.d ∧ R.a ≤ R.b ∧ R.c ≤ R.d := by
  have hi : BrIn R a b c d := by
    rcases brRef_in h1 (by omega) a b c d h3 h4 h with q | q
    · rw [hR] at q; exact q.2
    · rw [hR] at q; rw [q] at hc; cases hc
  obtain ⟨⟨i1, i2, i3⟩, i4, i5, i6⟩ := hi
  have he := brRef_ends h1 h2 a b c d h3 h4 h (by rw [hR]; exact hc)
  rw [hR] at he
  have hcan : (brRef k R.a R.b R.c R.d h).can = true := by
    rcases he with e | e | e | e
    · have := (brRef_sound h1 (by omega) R.a R.b R.c R.d R.a R.c (Nat.le_refl _) i2 (Nat.le_refl _) i5).1; rw [e] at this; exact this
    · have := (brRef_sound h1 (by omega) R.a R.b R.c R.d R.b R.c i2 (Nat.le_refl _) (Nat.le_refl _) i5).1; rw [e] at this; exact this
    · have := (brRef_sound h1 (by omega) R.a R.b R.c R.d R.a R.d (Nat.le_refl _) i2 i5 (Nat.le_refl _)).1; rw [e] at this; exact this
    · have := (brRef_sound h1 (by omega) R.a R.b R.c R.d R.b R.d i2 (Nat.le_refl _) i5 (Nat.le_refl _)).1; rw [e] at this; exact this
  refine ⟨hcan, ?_, i2, i5⟩
  rcases brRef_in h1 (by omega) R.a R.b R.c R.d i2 i5 h with q | q
  · exact q.2
  · rw [q] at hcan; cases hcan
/-- a span and another one turned about. -/
def Br.turn (R : Br) : Br := ⟨R.c, R.d, R.a, R.b, R.can⟩
theorem turn_no : brNo.turn = brNo := rfl
def turnK (k : Int) : Int := if k = 3 then 5 else if k = 4 then 6 else if k = 5 then 3 else if k = 6 then 4 else k
theorem brW_turn {k : Int} (h1 : 1 ≤ k) (h2 : k ≤ 6) (a b c d : Nat) : (brWhere (turnK k) c d a b).turn = brWhere k a b c d := by
  rcases six h1 h2 with rfl | rfl | rfl | rfl | rfl | rfl
  · show (brWhere 1 c d a b).turn = _
    rw [W1, W1, Nat.max_comm c a, Nat.min_comm d b]; split <;> rfl
  · show (brWhere 2 c d a b).turn = _
    rw [W2, W2]; rfl
  · show (brWhere 5 c d a b).turn = _
    rw [W3, W5]; split <;> rfl
  · show (brWhere 6 c d a b).turn = _
    rw [W4, W6]; split <;> rfl
  · show (brWhere 3 c d a b).turn = _
    rw [W3, W5]; split <;> rfl
  · show (brWhere 4 c d a b).turn = _
    rw [W4, W6]; split <;> rfl
theorem turn_six {k : Int} (h1 : 1 ≤ k) (h2 : k ≤ 6) : 1 ≤ turnK k ∧ turnK k ≤ 6 := by
  rcases six h1 h2 with rfl | rfl | rfl | rfl | rfl | rfl <;> decide
theorem turn_holds {k : Int} (h1 : 1 ≤ k) (h2 : k ≤ 6) (x y : Nat) : holdsV (turnK k) y x = holdsV k x y := by
  rcases six h1 h2 with rfl | rfl | rfl | rfl | rfl | rfl <;> (rw [Bool.eq_iff_iff]; simp [turnK, holdsV]; try omega)
theorem turn_not {k : Int} (h1 : 1 ≤ k) (h2 : k ≤ 6) : notV (turnK k) = turnK (notV k) := by
  rcases six h1 h2 with rfl | rfl | rfl | rfl | rfl | rfl <;> decide
theorem brRef_turn {k : Int} (h1 : 1 ≤ k) (h2 : k ≤ 6) (a b c d : Nat) (h : Bool) : (brRef (turnK k) c d a b h).turn = brRef k a b c d h ∧ brE (turnK k) c d a b = brE k a b c d := by
  obtain ⟨t1, t2⟩ := turn_six h1 h2
  by_cases hg : a ≤ b ∧ c ≤ d
  · obtain ⟨h3, h4⟩ := hg
    refine ⟨?_, by unfold brE; rw [if_pos ⟨⟨t1, by omega⟩, h4, h3⟩, if_pos ⟨⟨h1, by omega⟩, h3, h4⟩]⟩
    by_cases hs : a = b ∧ c = d
    · rw [brRef_one k _ _ _ _ _ h1 (by omega) h3 h4 hs.1 hs.2, brRef_one _ _ _ _ _ _ t1 (by omega) h4 h3 hs.2 hs.1, turn_holds h1 h2]
      split <;> rfl
    · cases h
      · rw [brRef_nay k _ _ _ _ h1 (by omega) h3 h4 hs, brRef_nay _ _ _ _ _ t1 (by omega) h4 h3 (fun q => hs q.symm), turn_not h1 h2]
        exact brW_turn (not_six h1 h2).1 (not_six h1 h2).2 a b c d
      · rw [brRef_yes k _ _ _ _ h1 (by omega) h3 h4 hs, brRef_yes _ _ _ _ _ t1 (by omega) h4 h3 (fun q => hs q.symm)]
        exact brW_turn h1 h2 a b c d
  · rw [brRef_bad k a b c d h (fun q => hg q.2), brRef_bad _ c d a b h (fun q => hg q.2.symm)]
    refine ⟨rfl, ?_⟩
    unfold brE
    have g1 : ¬ ((1 ≤ k ∧ k ≤ 9) ∧ a ≤ b ∧ c ≤ d) := fun q => hg q.2
    have g2 : ¬ ((1 ≤ turnK k ∧ turnK k ≤ 9) ∧ c ≤ d ∧ a ≤ b) := fun q => hg q.2.symm
    rw [if_neg g1, if_neg g2]
end Go.Proofs.Ythhohiafhjhjhaa
