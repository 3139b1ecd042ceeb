
/- The plain laws of chapter 8's statements. -/
import Derived.Test.YtgaahlnegmcakaaSpanPlain
namespace Go.Proofs.Ytgaahlnegmcakaa
open Go.RowKit

theorem or_le_left (x y : Nat) : x ≤ x ||| y := Nat.left_le_or
theorem or_le_right (x y : Nat) : y ≤ x ||| y := Nat.right_le_or

theorem filled_or (b d x y : Nat) (hb : b < M) (hd : d < M) (hx : x ≤ b) (hy : y ≤ d) : x ||| y ≤ filledV (b ||| d) ∧ x ^^^ y ≤ filledV (b ||| d) := by
  have ho := or_lt b d hb hd
  have h1 := filledV_ge (b ||| d) ho
  have h2 := or_le_left b d
  have h3 := or_le_right b d
  have e : filledV (b ||| d) = 2 ^ Lib.bitLen (b ||| d) - 1 := rfl
  have hp := Nat.two_pow_pos (Lib.bitLen (b ||| d))
  have hxl : x < 2 ^ Lib.bitLen (b ||| d) := by omega
  have hyl : y < 2 ^ Lib.bitLen (b ||| d) := by omega
  have o1 := Nat.or_lt_two_pow hxl hyl
  have o2 := Nat.xor_lt_two_pow hxl hyl
  omega

theorem sound_row (op : Int) (h1 : 1 ≤ op) (h2 : op ≤ 11) (a b c d x y : Nat) (hb : b < M) (hd : d < M) (ax : a ≤ x) (xb : x ≤ b) (cy : c ≤ y) (yd : y ≤ d) :
    (spRow op a b c d).1 ≤ aluV op x y ∧ aluV op x y ≤ (spRow op a b c d).2 := by
  have hx : x < M := by omega
  have hy : y < M := by omega
  have hall : ∀ v, v < M → (0, M - 1).1 ≤ v ∧ v ≤ (0, M - 1).2 := fun v hv => ⟨Nat.zero_le _, by show v ≤ M - 1; omega⟩
  have hv := aluV_lt op x y hx hy
  by_cases o1 : op = 1
  · subst o1
    rw [show spRow 1 a b c d = (if b + d < M then (a + c, b + d) else (0, M - 1)) from rfl]
    by_cases hf : b + d < M
    · rw [if_pos hf, show aluV 1 x y = (x + y) % M from rfl, Nat.mod_eq_of_lt (by omega)]
      exact ⟨by show a + c ≤ x + y; omega, by show x + y ≤ b + d; omega⟩
    · rw [if_neg hf]; exact hall _ hv
  by_cases o2 : op = 2
  · subst o2
    rw [show spRow 2 a b c d = (if d ≤ a then (a - d, b - c) else (0, M - 1)) from rfl]
    by_cases hf : d ≤ a
    · have e : aluV 2 x y = x - y := by rw [show aluV 2 x y = (x + (M - y)) % M from rfl]; unfold M at *; omega
      rw [if_pos hf, e]
      exact ⟨by show a - d ≤ x - y; omega, by show x - y ≤ b - c; omega⟩
    · rw [if_neg hf]; exact hall _ hv
  by_cases o3 : op = 3
  · subst o3
    rw [show spRow 3 a b c d = (if b * d < M then (a * c, b * d) else (0, M - 1)) from rfl]
    by_cases hf : b * d < M
    · have h3 : x * y ≤ b * d := Nat.mul_le_mul xb yd
      rw [if_pos hf, show aluV 3 x y = (x * y) % M from rfl, Nat.mod_eq_of_lt (by omega)]
      exact ⟨Nat.mul_le_mul ax cy, h3⟩
    · rw [if_neg hf]; exact hall _ hv
  by_cases o4 : op = 4
  · subst o4
    rw [show spRow 4 a b c d = (if c = 0 then (0, b) else (a / d, b / c)) from rfl, show aluV 4 x y = x / y from rfl]
    by_cases hf : c = 0
    · rw [if_pos hf]; exact ⟨Nat.zero_le _, Nat.le_trans (Nat.div_le_self _ _) xb⟩
    · rw [if_neg hf]; exact ⟨Nat.div_le_div ax yd (by omega), Nat.div_le_div xb cy hf⟩
  by_cases o5 : op = 5
  · subst o5
    rw [show spRow 5 a b c d = (if b < c ∨ d = 0 then (a, b) else if c = 0 then (0, b) else (0, min b (d - 1))) from rfl, show aluV 5 x y = x % y from rfl]
    by_cases hf : b < c ∨ d = 0
    · rw [if_pos hf]
      have e : x % y = x := by
        rcases hf with h | h
        · exact Nat.mod_eq_of_lt (by omega)
        · rw [show y = 0 by omega, Nat.mod_zero]
      rw [e]; exact ⟨ax, xb⟩
    · rw [if_neg hf]
      have h3 := Nat.mod_le x y
      by_cases hc : c = 0
      · rw [if_pos hc]; exact ⟨Nat.zero_le _, by show x % y ≤ b; omega⟩
      · rw [if_neg hc]
        have h4 := Nat.mod_lt x (show y > 0 by omega)
        exact ⟨Nat.zero_le _, by show x % y ≤ min b (d - 1); omega⟩
  by_cases o6 : op = 6
  · subst o6
    rw [show spRow 6 a b c d = (0, min b d) from rfl, show aluV 6 x y = x &&& y from rfl]
    have h3 : x &&& y ≤ x := Nat.and_le_left
    have h4 : x &&& y ≤ y := Nat.and_le_right
    exact ⟨Nat.zero_le _, by show x &&& y ≤ min b d; omega⟩
  by_cases o7 : op = 7
  · subst o7
    rw [show spRow 7 a b c d = (max a c, filledV (b ||| d)) from rfl, show aluV 7 x y = x ||| y from rfl]
    have h3 := or_le_left x y
    have h4 := or_le_right x y
    exact ⟨by show max a c ≤ x ||| y; omega, (filled_or b d x y hb hd xb yd).1⟩
  by_cases o8 : op = 8
  · subst o8
    rw [show spRow 8 a b c d = (0, filledV (b ||| d)) from rfl, show aluV 8 x y = x ^^^ y from rfl]
    exact ⟨Nat.zero_le _, (filled_or b d x y hb hd xb yd).2⟩
  by_cases o9 : op = 9
  · subst o9
    rw [show spRow 9 a b c d = (if c = d ∧ b * 2 ^ (c % 64) < M then (a * 2 ^ (c % 64), b * 2 ^ (c % 64)) else (0, M - 1)) from rfl]
    by_cases hf : c = d ∧ b * 2 ^ (c % 64) < M
    · obtain ⟨hcd, hf2⟩ := hf
      have hyc : y = c := by omega
      have h3 : x * 2 ^ (c % 64) ≤ b * 2 ^ (c % 64) := Nat.mul_le_mul_right _ xb
      rw [if_pos ⟨hcd, hf2⟩, show aluV 9 x y = (x * 2 ^ (y % 64)) % M from rfl, hyc, Nat.mod_eq_of_lt (show x * 2 ^ (c % 64) < M by omega)]
      exact ⟨Nat.mul_le_mul_right _ ax, h3⟩
    · rw [if_neg hf]; exact hall _ hv
  have hlast : spRow op a b c d = (if op = 11 ∧ H63 ≤ b then (0, M - 1) else if c = d then (a / 2 ^ (c % 64), b / 2 ^ (c % 64)) else (0, b)) := by
    unfold spRow; rw [if_neg o1, if_neg o2, if_neg o3, if_neg o4, if_neg o5, if_neg o6, if_neg o7, if_neg o8, if_neg o9]
  rw [hlast]
  by_cases ht : op = 11 ∧ H63 ≤ b
  · rw [if_pos ht]; exact hall _ hv
  · rw [if_neg ht]
    have e : aluV op x y = x / 2 ^ (y % 64) := by
      by_cases o10 : op = 10
      · subst o10; rfl
      · have o11 : op = 11 := by omega
        subst o11
        rw [show aluV 11 x y = x / 2 ^ (y % 64) + (if H63 ≤ x then M - 2 ^ (64 - y % 64) else 0) from rfl, if_neg (by omega), Nat.add_zero]
    rw [e]
    by_cases hcd : c = d
    · have hyc : y = c := by omega
      rw [if_pos hcd, hyc]; exact ⟨Nat.div_le_div_right ax, Nat.div_le_div_right xb⟩
    · rw [if_neg hcd]; exact ⟨Nat.zero_le _, Nat.le_trans (Nat.div_le_self _ _) xb⟩

theorem sound_do (op : Int) (h1 : 1 ≤ op) (h2 : op ≤ 11) (a b c d x y : Nat) (hb : b < M) (hd : d < M) (ax : a ≤ x) (xb : x ≤ b) (cy : c ≤ y) (yd : y ≤ d) :
    (spDo op a b c d).1 ≤ aluV op x y ∧ aluV op x y ≤ (spDo op a b c d).2 ∧ spDoE op a b c d = 0 := by
  have hg : (1 ≤ op ∧ op ≤ 11) ∧ a ≤ b ∧ c ≤ d := ⟨⟨h1, h2⟩, by omega, by omega⟩
  refine ⟨?_, ?_, by unfold spDoE; rw [if_pos hg]⟩
  all_goals
    unfold spDo; rw [if_pos hg]
    by_cases hs : a = b ∧ c = d
    · rw [if_pos hs, show x = a by omega, show y = c by omega]
      exact Nat.le_refl _
    · rw [if_neg hs]
      have h := sound_row op h1 h2 a b c d x y hb hd ax xb cy yd
      first | exact h.1 | exact h.2

theorem do_single (op : Int) (h1 : 1 ≤ op) (h2 : op ≤ 11) (x y : Nat) : spDo op x x y y = (aluV op x y, aluV op x y) ∧ spDoE op x x y y = 0 := by
  have hg : (1 ≤ op ∧ op ≤ 11) ∧ x ≤ x ∧ y ≤ y := ⟨⟨h1, h2⟩, Nat.le_refl _, Nat.le_refl _⟩
  exact ⟨by unfold spDo; rw [if_pos hg, if_pos ⟨rfl, rfl⟩], by unfold spDoE; rw [if_pos hg]⟩

theorem row_le (op : Int) (ho : op = 1 ∨ op = 3) (a b c d : Nat) (hab : a ≤ b) (hcd : c ≤ d) (hb : b < M) (hd : d < M) : (spDo op a b c d).1 ≤ (spDo op a b c d).2 := by
  have h := sound_do op (by omega) (by omega) a b c d a c hb hd (Nat.le_refl _) hab (Nat.le_refl _) hcd
  omega
/-- sums and products of narrower spans are narrower. -/
theorem narrow (op : Int) (ho : op = 1 ∨ op = 3) (a b c d p q r s : Nat) (hab : a ≤ b) (hcd : c ≤ d) (pa : p ≤ a) (bq : b ≤ q) (rc : r ≤ c) (ds : d ≤ s) (hq : q < M) (hs : s < M) :
    (spDo op p q r s).1 ≤ (spDo op a b c d).1 ∧ (spDo op a b c d).2 ≤ (spDo op p q r s).2 := by
  have hg : (1 ≤ op ∧ op ≤ 11) ∧ a ≤ b ∧ c ≤ d := ⟨by omega, by omega, by omega⟩
  have hg' : (1 ≤ op ∧ op ≤ 11) ∧ p ≤ q ∧ r ≤ s := ⟨by omega, by omega, by omega⟩
  have e1 : spDo op a b c d = if a = b ∧ c = d then (aluV op a c, aluV op a c) else spRow op a b c d := by unfold spDo; rw [if_pos hg]
  have lt1 : ∀ x y, x < M → y < M → aluV op x y ≤ M - 1 := fun x y hx hy => by have := aluV_lt op x y hx hy; omega
  by_cases hs1 : a = b ∧ c = d
  · rw [e1, if_pos hs1]
    have h := sound_do op (by omega) (by omega) p q r s a c hq hs pa (by omega) rc (by omega)
    exact ⟨h.1, h.2.1⟩
  · have hs2 : ¬ (p = q ∧ r = s) := by omega
    have e2 : spDo op p q r s = spRow op p q r s := by unfold spDo; rw [if_pos hg', if_neg hs2]
    rw [e1, if_neg hs1, e2]
    rcases ho with rfl | rfl
    · rw [show spRow 1 a b c d = (if b + d < M then (a + c, b + d) else (0, M - 1)) from rfl, show spRow 1 p q r s = (if q + s < M then (p + r, q + s) else (0, M - 1)) from rfl]
      by_cases h1 : q + s < M
      · rw [if_pos h1, if_pos (by omega)]; exact ⟨by show p + r ≤ a + c; omega, by show b + d ≤ q + s; omega⟩
      · rw [if_neg h1]
        refine ⟨Nat.zero_le _, ?_⟩
        by_cases h2 : b + d < M
        · rw [if_pos h2]; show b + d ≤ M - 1; omega
        · rw [if_neg h2]; exact Nat.le_refl _
    · rw [show spRow 3 a b c d = (if b * d < M then (a * c, b * d) else (0, M - 1)) from rfl, show spRow 3 p q r s = (if q * s < M then (p * r, q * s) else (0, M - 1)) from rfl]
      have h4 : b * d ≤ q * s := Nat.mul_le_mul bq ds
      by_cases h1 : q * s < M
      · rw [if_pos h1, if_pos (by omega)]; exact ⟨Nat.mul_le_mul pa rc, h4⟩
      · rw [if_neg h1]
        refine ⟨Nat.zero_le _, ?_⟩
        by_cases h2 : b * d < M
        · rw [if_pos h2]; show b * d ≤ M - 1; omega
        · rw [if_neg h2]; exact Nat.le_refl _
end Go.Proofs.Ytgaahlnegmcakaa
