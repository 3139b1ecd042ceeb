
/- The plain laws of chapter 17: joining and splitting what is known, no program in sight. -/
import Derived.Test.YtglfmcgpbenckaaKindPlain
namespace Go.Proofs.Ytglfmcgpbenckaa
open Go.RowKit
set_option linter.unusedVariables false
set_option linter.unusedSimpArgs false

/-- a number of a span; a pointer. -/
def Nm (a b : Nat) : Wh := ⟨1, 0, 0, 0, false, a, b⟩
def Pt (k t i l : Int) (m : Bool) : Wh := ⟨k, t, i, l, m, 0, 0⟩
def okp (k t i l : Int) : Prop := ((k = 3 ∨ k = 5) ∧ 0 ≤ t ∧ 1 ≤ i ∧ l = 0) ∨ (k = 4 ∧ 0 ≤ t ∧ 1 ≤ i ∧ 0 ≤ l) ∨ (k = 6 ∧ 0 ≤ t ∧ i = 0 ∧ l = 0)
theorem okp_ptr {k t i l : Int} (h : okp k t i l) : ptr k ∧ 3 ≤ k ∧ k ≤ 6 := by unfold okp at h; unfold ptr; omega
theorem ok_junk : Wok junk := by decide
theorem ok_null : Wok nullW := by decide
theorem ok_num {a b : Nat} (h : a ≤ b) : Wok (Nm a b) := by
  right; left; exact ⟨rfl, h, rfl, rfl, rfl, rfl⟩
theorem ok_ptr {k t i l : Int} (m : Bool) (h : okp k t i l) : Wok (Pt k t i l m) := by
  unfold okp at h
  rcases h with ⟨q1, q2, q3, q4⟩ | ⟨q1, q2, q3, q4⟩ | ⟨q1, q2, q3, q4⟩
  · right; right; left; exact ⟨q1, rfl, rfl, q2, q3, q4⟩
  · right; right; right; left; exact ⟨q1, rfl, rfl, q2, q3, q4⟩
  · right; right; right; right; exact ⟨q1, rfl, rfl, q2, q3, q4⟩
theorem ok_cases (x : Wh) (h : Wok x) : x = junk ∨ x = nullW ∨ (∃ a b, a ≤ b ∧ x = Nm a b) ∨ (∃ k t i l m, okp k t i l ∧ x = Pt k t i l m) := by
  obtain ⟨k, t, i, l, m, a, b⟩ := x
  unfold Wok at h
  dsimp only at h
  rcases h with ⟨q1 | q1, q2, q3, q4, q5, q6, q7⟩ | ⟨q1, q2, q3, q4, q5, q6⟩ | ⟨q1, q2, q3, q4, q5, q6⟩ | ⟨q1, q2, q3, q4, q5, q6⟩ | ⟨q1, q2, q3, q4, q5, q6⟩
  · subst q1 q2 q3 q4 q5 q6 q7; left; rfl
  · subst q1 q2 q3 q4 q5 q6 q7; right; left; rfl
  · subst q1 q3 q4 q5 q6; right; right; left; exact ⟨a, b, q2, rfl⟩
  · subst q2 q3; right; right; right; exact ⟨k, t, i, l, m, Or.inl ⟨q1, q4, q5, q6⟩, rfl⟩
  · subst q2 q3; right; right; right; exact ⟨k, t, i, l, m, Or.inr (Or.inl ⟨q1, q4, q5, q6⟩), rfl⟩
  · subst q2 q3; right; right; right; exact ⟨k, t, i, l, m, Or.inr (Or.inr ⟨q1, q4, q5, q6⟩), rfl⟩
theorem J_bad_l {x : Wh} (h : ¬ Wok x) (y : Wh) : whJoin x y = junk := by unfold whJoin; rw [if_pos (fun q => h q.1)]
theorem J_bad_r (x : Wh) {y : Wh} (h : ¬ Wok y) : whJoin x y = junk := by unfold whJoin; rw [if_pos (fun q => h q.2)]
theorem J_ok {x y : Wh} (hx : Wok x) (hy : Wok y) : whJoin x y = if x = y then x
  else if x.k = 1 ∧ y.k = 1 then ⟨1, 0, 0, 0, false, min x.a y.a, max x.b y.b⟩
  else if ptr x.k ∧ x.maybe = y.maybe ∨ lone x.k ∧ y.k = 2 then x.maybe
  else if lone y.k ∧ x.k = 2 then y.maybe
  else junk := by unfold whJoin; rw [if_neg (fun q => q ⟨hx, hy⟩)]
theorem J_self {x : Wh} (hx : Wok x) : whJoin x x = x := by rw [J_ok hx hx, if_pos rfl]
theorem J_junk_l {y : Wh} (hy : Wok y) : whJoin junk y = junk := by
  rw [J_ok ok_junk hy]
  by_cases h : junk = y
  · rw [if_pos h]
  · have n1 : ¬ (junk.k = 1 ∧ y.k = 1) := fun q => by cases q.1
    have n2 : ¬ (ptr junk.k ∧ junk.maybe = y.maybe ∨ lone junk.k ∧ y.k = 2) := fun q => by
      rcases q with q | q
      · exact absurd q.1 (by decide)
      · exact absurd q.1 (by decide)
    have n3 : ¬ (lone y.k ∧ junk.k = 2) := fun q => by cases q.2
    rw [if_neg h, if_neg n1, if_neg n2, if_neg n3]
theorem J_junk_r {x : Wh} (hx : Wok x) : whJoin x junk = junk := by
  rw [J_ok hx ok_junk]
  by_cases h : x = junk
  · rw [if_pos h, h]
  · have n1 : ¬ (x.k = 1 ∧ junk.k = 1) := fun q => by cases q.2
    have n2 : ¬ (ptr x.k ∧ x.maybe = junk.maybe ∨ lone x.k ∧ junk.k = 2) := fun q => by
      rcases q with q | q
      · have e : x.k = 0 := congrArg Wh.k q.2
        have := q.1; unfold ptr at this; omega
      · cases q.2
    have n3 : ¬ (lone junk.k ∧ x.k = 2) := fun q => absurd q.1 (by decide)
    rw [if_neg h, if_neg n1, if_neg n2, if_neg n3]
theorem nm_np (a b : Nat) : ¬ ptr (Nm a b).k := by show ¬ ptr 1; decide
theorem nm_nl (a b : Nat) : ¬ lone (Nm a b).k := by show ¬ lone 1; decide
theorem J_null_num {a b : Nat} (h : a ≤ b) : whJoin nullW (Nm a b) = junk := by
  rw [J_ok ok_null (ok_num h)]
  have n0 : ¬ nullW = Nm a b := fun q => by cases congrArg Wh.k q
  have n1 : ¬ (nullW.k = 1 ∧ (Nm a b).k = 1) := fun q => by cases q.1
  have n2 : ¬ (ptr nullW.k ∧ nullW.maybe = (Nm a b).maybe ∨ lone nullW.k ∧ (Nm a b).k = 2) := fun q => by
    rcases q with q | q
    · exact absurd q.1 (by decide)
    · exact absurd q.1 (by decide)
  have n3 : ¬ (lone (Nm a b).k ∧ nullW.k = 2) := fun q => nm_nl _ _ q.1
  rw [if_neg n0, if_neg n1, if_neg n2, if_neg n3]
theorem J_num_null {a b : Nat} (h : a ≤ b) : whJoin (Nm a b) nullW = junk := by
  rw [J_ok (ok_num h) ok_null]
  have n0 : ¬ Nm a b = nullW := fun q => by cases congrArg Wh.k q
  have n1 : ¬ ((Nm a b).k = 1 ∧ nullW.k = 1) := fun q => by cases q.2
  have n2 : ¬ (ptr (Nm a b).k ∧ (Nm a b).maybe = nullW.maybe ∨ lone (Nm a b).k ∧ nullW.k = 2) := fun q => by
    rcases q with q | q
    · exact nm_np _ _ q.1
    · exact nm_nl _ _ q.1
  have n3 : ¬ (lone nullW.k ∧ (Nm a b).k = 2) := fun q => by cases q.2
  rw [if_neg n0, if_neg n1, if_neg n2, if_neg n3]
theorem J_num_num {a b c d : Nat} (h : a ≤ b) (h' : c ≤ d) : whJoin (Nm a b) (Nm c d) = Nm (min a c) (max b d) := by
  rw [J_ok (ok_num h) (ok_num h')]
  by_cases e : Nm a b = Nm c d
  · rw [if_pos e]
    have e1 : a = c := congrArg Wh.a e
    have e2 : b = d := congrArg Wh.b e
    subst e1 e2; rw [Nat.min_self, Nat.max_self]
  · rw [if_neg e, if_pos ⟨rfl, rfl⟩]; rfl
theorem J_num_ptr {a b : Nat} (h : a ≤ b) {k t i l : Int} {m : Bool} (hp : okp k t i l) : whJoin (Nm a b) (Pt k t i l m) = junk := by
  rw [J_ok (ok_num h) (ok_ptr m hp)]
  have hk := (okp_ptr hp).2
  have ek : (Pt k t i l m).k = k := rfl
  have en : (Nm a b).k = 1 := rfl
  have n0 : ¬ Nm a b = Pt k t i l m := fun q => by have : (1 : Int) = k := congrArg Wh.k q; omega
  have n1 : ¬ ((Nm a b).k = 1 ∧ (Pt k t i l m).k = 1) := fun q => by have := q.2; omega
  have n2 : ¬ (ptr (Nm a b).k ∧ (Nm a b).maybe = (Pt k t i l m).maybe ∨ lone (Nm a b).k ∧ (Pt k t i l m).k = 2) := fun q => by
    rcases q with q | q
    · exact nm_np _ _ q.1
    · exact nm_nl _ _ q.1
  have n3 : ¬ (lone (Pt k t i l m).k ∧ (Nm a b).k = 2) := fun q => by cases q.2
  rw [if_neg n0, if_neg n1, if_neg n2, if_neg n3]
theorem J_ptr_num {a b : Nat} (h : a ≤ b) {k t i l : Int} {m : Bool} (hp : okp k t i l) : whJoin (Pt k t i l m) (Nm a b) = junk := by
  rw [J_ok (ok_ptr m hp) (ok_num h)]
  have hk := (okp_ptr hp).2
  have ek : (Pt k t i l m).k = k := rfl
  have en : (Nm a b).k = 1 := rfl
  have n0 : ¬ Pt k t i l m = Nm a b := fun q => by have : k = (1 : Int) := congrArg Wh.k q; omega
  have n1 : ¬ ((Pt k t i l m).k = 1 ∧ (Nm a b).k = 1) := fun q => by have := q.1; omega
  have n2 : ¬ (ptr (Pt k t i l m).k ∧ (Pt k t i l m).maybe = (Nm a b).maybe ∨ lone (Pt k t i l m).k ∧ (Nm a b).k = 2) := fun q => by
    rcases q with q | q
    · have : k = (1 : Int) := congrArg Wh.k q.2
      omega
    · cases q.2
  have n3 : ¬ (lone (Nm a b).k ∧ (Pt k t i l m).k = 2) := fun q => nm_nl _ _ q.1
  rw [if_neg n0, if_neg n1, if_neg n2, if_neg n3]
theorem J_null_ptr {k t i l : Int} {m : Bool} (hp : okp k t i l) : whJoin nullW (Pt k t i l m) = if lone k then Pt k t i l true else junk := by
  rw [J_ok ok_null (ok_ptr m hp)]
  have hk := (okp_ptr hp).2
  have n0 : ¬ nullW = Pt k t i l m := fun q => by have : (2 : Int) = k := congrArg Wh.k q; omega
  have n1 : ¬ (nullW.k = 1 ∧ (Pt k t i l m).k = 1) := fun q => by cases q.1
  have n2 : ¬ (ptr nullW.k ∧ nullW.maybe = (Pt k t i l m).maybe ∨ lone nullW.k ∧ (Pt k t i l m).k = 2) := fun q => by
    rcases q with q | q
    · exact absurd q.1 (by decide)
    · exact absurd q.1 (by decide)
  rw [if_neg n0, if_neg n1, if_neg n2]
  by_cases hl : lone k
  · rw [if_pos ⟨hl, rfl⟩, if_pos hl]; rfl
  · rw [if_neg (fun q => hl q.1), if_neg hl]
theorem J_ptr_null {k t i l : Int} {m : Bool} (hp : okp k t i l) : whJoin (Pt k t i l m) nullW = if lone k then Pt k t i l true else junk := by
  rw [J_ok (ok_ptr m hp) ok_null]
  have hk := (okp_ptr hp).2
  have ek : (Pt k t i l m).k = k := rfl
  have n0 : ¬ Pt k t i l m = nullW := fun q => by have : k = (2 : Int) := congrArg Wh.k q; omega
  have n1 : ¬ ((Pt k t i l m).k = 1 ∧ nullW.k = 1) := fun q => by cases q.2
  have n3 : ¬ (lone nullW.k ∧ (Pt k t i l m).k = 2) := fun q => absurd q.1 (by decide)
  rw [if_neg n0, if_neg n1]
  by_cases hl : lone k
  · rw [if_pos (Or.inr ⟨hl, rfl⟩), if_pos hl]; rfl
  · have n2 : ¬ (ptr (Pt k t i l m).k ∧ (Pt k t i l m).maybe = nullW.maybe ∨ lone (Pt k t i l m).k ∧ nullW.k = 2) := fun q => by
      rcases q with q | q
      · have : k = (2 : Int) := congrArg Wh.k q.2
        omega
      · exact hl q.1
    rw [if_neg n2, if_neg n3, if_neg hl]
theorem J_ptr_ptr {k t i l : Int} {m : Bool} (hp : okp k t i l) {k' t' i' l' : Int} {m' : Bool} (hp' : okp k' t' i' l') :
    whJoin (Pt k t i l m) (Pt k' t' i' l' m') = if k = k' ∧ t = t' ∧ i = i' ∧ l = l' then Pt k t i l (m || m') else junk := by
  rw [J_ok (ok_ptr m hp) (ok_ptr m' hp')]
  have hk := okp_ptr hp
  have hk' := okp_ptr hp'
  have ek : (Pt k t i l m).k = k := rfl
  have ek' : (Pt k' t' i' l' m').k = k' := rfl
  by_cases h : k = k' ∧ t = t' ∧ i = i' ∧ l = l'
  · obtain ⟨rfl, rfl, rfl, rfl⟩ := h
    rw [if_pos (show k = k ∧ t = t ∧ i = i ∧ l = l from ⟨rfl, rfl, rfl, rfl⟩)]
    by_cases hm : m = m'
    · subst hm; rw [if_pos rfl, Bool.or_self]
    · have n0 : ¬ Pt k t i l m = Pt k t i l m' := fun q => hm (congrArg Wh.m q)
      have n1 : ¬ ((Pt k t i l m).k = 1 ∧ (Pt k t i l m').k = 1) := fun q => by have := q.1; omega
      rw [if_neg n0, if_neg n1, if_pos (Or.inl ⟨hk.1, rfl⟩)]
      have : (m || m') = true := by cases m <;> cases m' <;> first | rfl | exact absurd rfl hm
      rw [this]; rfl
  · rw [if_neg h]
    have n0 : ¬ Pt k t i l m = Pt k' t' i' l' m' := fun q => h ⟨congrArg Wh.k q, congrArg Wh.t q, congrArg Wh.i q, congrArg Wh.l q⟩
    have n1 : ¬ ((Pt k t i l m).k = 1 ∧ (Pt k' t' i' l' m').k = 1) := fun q => by have := q.1; omega
    have n2 : ¬ (ptr (Pt k t i l m).k ∧ (Pt k t i l m).maybe = (Pt k' t' i' l' m').maybe ∨ lone (Pt k t i l m).k ∧ (Pt k' t' i' l' m').k = 2) := fun q => by
      rcases q with q | q
      · exact h ⟨congrArg Wh.k q.2, congrArg Wh.t q.2, congrArg Wh.i q.2, congrArg Wh.l q.2⟩
      · have := q.2; omega
    have n3 : ¬ (lone (Pt k' t' i' l' m').k ∧ (Pt k t i l m).k = 2) := fun q => by have := q.2; omega
    rw [if_neg n0, if_neg n1, if_neg n2, if_neg n3]

theorem J_valid (x y : Wh) : Wok (whJoin x y) := by
  by_cases hx : Wok x
  · by_cases hy : Wok y
    · rcases ok_cases x hx with rfl | rfl | ⟨a, b, h, rfl⟩ | ⟨k, t, i, l, m, hp, rfl⟩
      · rw [J_junk_l hy]; exact ok_junk
      · rcases ok_cases y hy with rfl | rfl | ⟨c, d, h', rfl⟩ | ⟨k', t', i', l', m', hp', rfl⟩
        · rw [J_junk_r hx]; exact ok_junk
        · rw [J_self hx]; exact hx
        · rw [J_null_num h']; exact ok_junk
        · rw [J_null_ptr hp']; split
          · exact ok_ptr _ hp'
          · exact ok_junk
      · rcases ok_cases y hy with rfl | rfl | ⟨c, d, h', rfl⟩ | ⟨k', t', i', l', m', hp', rfl⟩
        · rw [J_junk_r hx]; exact ok_junk
        · rw [J_num_null h]; exact ok_junk
        · rw [J_num_num h h']; exact ok_num (by omega)
        · rw [J_num_ptr h hp']; exact ok_junk
      · rcases ok_cases y hy with rfl | rfl | ⟨c, d, h', rfl⟩ | ⟨k', t', i', l', m', hp', rfl⟩
        · rw [J_junk_r hx]; exact ok_junk
        · rw [J_ptr_null hp]; split
          · exact ok_ptr _ hp
          · exact ok_junk
        · rw [J_ptr_num h' hp]; exact ok_junk
        · rw [J_ptr_ptr hp hp']; split
          · exact ok_ptr _ hp
          · exact ok_junk
    · rw [J_bad_r x hy]; exact ok_junk
  · rw [J_bad_l hx]; exact ok_junk
theorem J_comm (x y : Wh) : whJoin x y = whJoin y x := by
  by_cases hx : Wok x
  · by_cases hy : Wok y
    · rcases ok_cases x hx with rfl | rfl | ⟨a, b, h, rfl⟩ | ⟨k, t, i, l, m, hp, rfl⟩
      · rw [J_junk_l hy, J_junk_r hy]
      · rcases ok_cases y hy with rfl | rfl | ⟨c, d, h', rfl⟩ | ⟨k', t', i', l', m', hp', rfl⟩
        · rw [J_junk_r hx, J_junk_l hx]
        · rfl
        · rw [J_null_num h', J_num_null h']
        · rw [J_null_ptr hp', J_ptr_null hp']
      · rcases ok_cases y hy with rfl | rfl | ⟨c, d, h', rfl⟩ | ⟨k', t', i', l', m', hp', rfl⟩
        · rw [J_junk_r hx, J_junk_l hx]
        · rw [J_num_null h, J_null_num h]
        · rw [J_num_num h h', J_num_num h' h, Nat.min_comm, Nat.max_comm]
        · rw [J_num_ptr h hp', J_ptr_num h hp']
      · rcases ok_cases y hy with rfl | rfl | ⟨c, d, h', rfl⟩ | ⟨k', t', i', l', m', hp', rfl⟩
        · rw [J_junk_r hx, J_junk_l hx]
        · rw [J_ptr_null hp, J_null_ptr hp]
        · rw [J_ptr_num h' hp, J_num_ptr h' hp]
        · rw [J_ptr_ptr hp hp', J_ptr_ptr hp' hp]
          by_cases e : k = k' ∧ t = t' ∧ i = i' ∧ l = l'
          · obtain ⟨rfl, rfl, rfl, rfl⟩ := e
            rw [if_pos ⟨rfl, rfl, rfl, rfl⟩, if_pos ⟨rfl, rfl, rfl, rfl⟩, Bool.or_comm]
          · rw [if_neg e, if_neg (fun q => e ⟨q.1.symm, q.2.1.symm, q.2.2.1.symm, q.2.2.2.symm⟩)]
    · rw [J_bad_r x hy, J_bad_l hy]
  · rw [J_bad_l hx, J_bad_r y hx]
/-- of three of which no two are unlike: in whichever brackets, and once more with the first. -/
theorem J_assoc (x y z : Wh) (h1 : ¬ whJoin x y = junk) (h2 : ¬ whJoin y z = junk) (h3 : ¬ whJoin x z = junk) :
    whJoin (whJoin x y) z = whJoin x (whJoin y z) ∧ whJoin x (whJoin x y) = whJoin x y := by
  by_cases hx : Wok x
  · by_cases hy : Wok y
    · by_cases hz : Wok z
      · rcases ok_cases x hx with rfl | rfl | ⟨a, b, h, rfl⟩ | ⟨k, t, i, l, m, hp, rfl⟩
        · exact absurd (J_junk_l hy) h1
        · rcases ok_cases y hy with rfl | rfl | ⟨c, d, h', rfl⟩ | ⟨k', t', i', l', m', hp', rfl⟩
          · exact absurd (J_junk_r hx) h1
          · rw [J_self ok_null, J_self ok_null]
            rcases ok_cases z hz with rfl | rfl | ⟨c, d, h', rfl⟩ | ⟨k', t', i', l', m', hp', rfl⟩
            · exact absurd (J_junk_r hx) h3
            · exact ⟨rfl, rfl⟩
            · exact absurd (J_null_num h') h3
            · have hl : lone k' := Classical.byContradiction fun q => h3 (by rw [J_null_ptr hp', if_neg q])
              rw [J_null_ptr hp', if_pos hl, J_null_ptr hp', if_pos hl]
              exact ⟨rfl, rfl⟩
          · exact absurd (J_null_num h') h1
          · have hl : lone k' := Classical.byContradiction fun q => h1 (by rw [J_null_ptr hp', if_neg q])
            rw [J_null_ptr hp', if_pos hl, J_null_ptr hp', if_pos hl]
            refine ⟨?_, rfl⟩
            rcases ok_cases z hz with rfl | rfl | ⟨c, d, h', rfl⟩ | ⟨k2, t2, i2, l2, m2, hp2, rfl⟩
            · exact absurd (J_junk_r hx) h3
            · rw [J_ptr_null hp', if_pos hl, J_ptr_null hp', if_pos hl, J_null_ptr hp', if_pos hl]
            · exact absurd (J_null_num h') h3
            · have he : k' = k2 ∧ t' = t2 ∧ i' = i2 ∧ l' = l2 := Classical.byContradiction fun q => h2 (by rw [J_ptr_ptr hp' hp2, if_neg q])
              rw [J_ptr_ptr hp' hp2, if_pos he, J_ptr_ptr hp' hp2, if_pos he, J_null_ptr hp', if_pos hl, Bool.true_or]
        · rcases ok_cases y hy with rfl | rfl | ⟨c, d, h', rfl⟩ | ⟨k', t', i', l', m', hp', rfl⟩
          · exact absurd (J_junk_r hx) h1
          · exact absurd (J_num_null h) h1
          · rcases ok_cases z hz with rfl | rfl | ⟨e, f, h'', rfl⟩ | ⟨k', t', i', l', m', hp', rfl⟩
            · exact absurd (J_junk_r hx) h3
            · exact absurd (J_num_null h) h3
            · rw [J_num_num h h', J_num_num h' h'', J_num_num (by omega) h'', J_num_num h (by omega), J_num_num h (by omega)]
              refine ⟨?_, ?_⟩
              · rw [Nat.min_assoc, Nat.max_assoc]
              · rw [show min a (min a c) = min a c by omega, show max b (max b d) = max b d by omega]
            · exact absurd (J_num_ptr h hp') h3
          · exact absurd (J_num_ptr h hp') h1
        · rcases ok_cases y hy with rfl | rfl | ⟨c, d, h', rfl⟩ | ⟨k', t', i', l', m', hp', rfl⟩
          · exact absurd (J_junk_r hx) h1
          · have hl : lone k := Classical.byContradiction fun q => h1 (by rw [J_ptr_null hp, if_neg q])
            rw [J_ptr_null hp, if_pos hl, J_ptr_ptr hp hp, if_pos ⟨rfl, rfl, rfl, rfl⟩, Bool.or_true]
            refine ⟨?_, rfl⟩
            rcases ok_cases z hz with rfl | rfl | ⟨c, d, h', rfl⟩ | ⟨k2, t2, i2, l2, m2, hp2, rfl⟩
            · exact absurd (J_junk_r hx) h3
            · rw [J_self ok_null, J_ptr_null hp, if_pos hl, J_ptr_null hp, if_pos hl]
            · exact absurd (J_ptr_num h' hp) h3
            · have he : k = k2 ∧ t = t2 ∧ i = i2 ∧ l = l2 := Classical.byContradiction fun q => h3 (by rw [J_ptr_ptr hp hp2, if_neg q])
              have hl2 : lone k2 := he.1 ▸ hl
              rw [J_ptr_ptr hp hp2, if_pos he, J_null_ptr hp2, if_pos hl2, J_ptr_ptr hp hp2, if_pos he, Bool.true_or, Bool.or_true]
          · exact absurd (J_ptr_num h' hp) h1
          · have he : k = k' ∧ t = t' ∧ i = i' ∧ l = l' := Classical.byContradiction fun q => h1 (by rw [J_ptr_ptr hp hp', if_neg q])
            rw [J_ptr_ptr hp hp', if_pos he, J_ptr_ptr hp hp, if_pos ⟨rfl, rfl, rfl, rfl⟩, ← Bool.or_assoc, Bool.or_self]
            refine ⟨?_, rfl⟩
            obtain ⟨rfl, rfl, rfl, rfl⟩ := he
            rcases ok_cases z hz with rfl | rfl | ⟨c, d, h', rfl⟩ | ⟨k2, t2, i2, l2, m2, hp2, rfl⟩
            · exact absurd (J_junk_r hx) h3
            · have hl : lone k := Classical.byContradiction fun q => h3 (by rw [J_ptr_null hp, if_neg q])
              rw [J_ptr_null hp, if_pos hl, J_ptr_null hp, if_pos hl, J_ptr_ptr hp hp, if_pos ⟨rfl, rfl, rfl, rfl⟩, Bool.or_true]
            · exact absurd (J_ptr_num h' hp) h3
            · have he2 : k = k2 ∧ t = t2 ∧ i = i2 ∧ l = l2 := Classical.byContradiction fun q => h3 (by rw [J_ptr_ptr hp hp2, if_neg q])
              rw [J_ptr_ptr hp hp2, if_pos he2, J_ptr_ptr hp hp2, if_pos he2, J_ptr_ptr hp hp, if_pos ⟨rfl, rfl, rfl, rfl⟩, Bool.or_assoc]
      · exact absurd (J_bad_r y hz) h2
    · exact absurd (J_bad_r x hy) h1
  · exact absurd (J_bad_l hx y) h1
end Go.Proofs.Ytglfmcgpbenckaa
