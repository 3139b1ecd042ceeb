
/- The document's answer of chapter 8: Do, whole. -/
import Derived.Test.YtgaahlnegmcakaaSpanR3
import Derived.Test.YtgaahlnegmcakaaSpanR4
namespace Go.Proofs.Ytgaahlnegmcakaa
open Go.RowKit
set_option linter.unusedVariables false
set_option linter.unusedSimpArgs false

set_option maxRecDepth 100000 in
set_option maxHeartbeats 2000000 in
theorem rDo_no (op : Int) (a b c d : Nat) (h : ¬ ((1 ≤ op ∧ op ≤ 11) ∧ a ≤ b ∧ c ≤ d)) (w : World) :
    Calls Try.prog 13 #[.int .i64 op, .agg #[.int .u64 a, .int .u64 b], .agg #[.int .u64 c, .int .u64 d]] w fun e w' => e = .returned (.tuple #[.agg #[.int .u64 ((spDo op a b c d).1 : Nat), .int .u64 ((spDo op a b c d).2 : Nat)], .int .i64 (spDoE op a b c d)]) ∧ Below w.heap.size w w' := by
  have e1 : spDo op a b c d = (0, 0) := by unfold spDo; rw [if_neg h]
  have e2 : spDoE op a b c d = 1 := by unfold spDoE; rw [if_neg h]
  rw [e1, e2]
  have h' : op < 1 ∨ (1 ≤ op ∧ 11 < op) ∨ (1 ≤ op ∧ op ≤ 11 ∧ ¬ a ≤ b) ∨ (1 ≤ op ∧ op ≤ 11 ∧ a ≤ b ∧ ¬ c ≤ d) := by omega
  clear h e1 e2
  rcases h' with h1 | ⟨h1, h2⟩ | ⟨h1, h2, h3⟩ | ⟨h1, h2, h3, h4⟩
  all_goals
    go_enter Try.func13, Try.ntmps13
    go_wp2_with (first | (go_at_call 18; ((with_reducible refine (rmay_any _ _ _).mono ?_); rintro e w1 ⟨rfl, hb⟩); have HB : Below w.heap.size w w1 := below_then (by (repeat (first | exact HB | exact Below.refl _ _ | apply below_drew | apply below_draws | refine below_set ?_ (by (try dsimp only); omega) _ | apply below_alloc))) hb; obtain ⟨hc, hf⟩ := bcell hb; have hz := hb.size; (try simp at hz); (first | (obtain ⟨y0, y1, y2, y3, y4, y5, y6, y7, y8, y9, y10, y11, _⟩ := up12 hz) | (obtain ⟨y0, y1, y2, y3, y4, y5, y6, y7, y8, y9, y10, _⟩ := up11 hz) | (obtain ⟨y0, y1, y2, y3, y4, y5, y6, y7, y8, y9, _⟩ := up10 hz) | (obtain ⟨y0, y1, y2, y3, y4, y5, y6, y7, y8, _⟩ := up9 hz) | (obtain ⟨y0, y1, y2, y3, y4, y5, y6, y7, _⟩ := up8 hz) | (obtain ⟨y0, y1, y2, y3, y4, y5, y6, _⟩ := up7 hz) | (obtain ⟨y0, y1, y2, y3, y4, y5, _⟩ := up6 hz) | (obtain ⟨y0, y1, y2, y3, y4, _⟩ := up5 hz) | (obtain ⟨y0, y1, y2, y3, _⟩ := up4 hz) | (obtain ⟨y0, y1, y2, _⟩ := up3 hz) | (obtain ⟨y0, y1, _⟩ := up2 hz) | (obtain ⟨y0, _⟩ := up1 hz) | skip); (try (have z0 : w.heap.size < w1.heap.size := by omega)); (try (have z1 : w.heap.size + 1 < w1.heap.size := by omega)); (try (have z2 : w.heap.size + 1 + 1 < w1.heap.size := by omega)); (try (have c0 : ∀ o, w1.cell? ⟨w.heap.size, o, none⟩ = _ := fun o => hc _ o (by first | (simp; done) | (simp; omega) | omega))); (try (have g0 : ∀ o, w1.frozen? ⟨w.heap.size, o, none⟩ = _ := fun o => hf _ o (by first | (simp; done) | (simp; omega) | omega))); (try (have c1 : ∀ o, w1.cell? ⟨w.heap.size + 1, o, none⟩ = _ := fun o => hc _ o (by first | (simp; done) | (simp; omega) | omega))); (try (have g1 : ∀ o, w1.frozen? ⟨w.heap.size + 1, o, none⟩ = _ := fun o => hf _ o (by first | (simp; done) | (simp; omega) | omega))); (try (have c2 : ∀ o, w1.cell? ⟨w.heap.size + 1 + 1, o, none⟩ = _ := fun o => hc _ o (by first | (simp; done) | (simp; omega) | omega))); (try (have g2 : ∀ o, w1.frozen? ⟨w.heap.size + 1 + 1, o, none⟩ = _ := fun o => hf _ o (by first | (simp; done) | (simp; omega) | omega))); clear hb hz))
    exact bodyPost_ret (v := .tuple #[.agg #[.int .u64 0, .int .u64 0], .int .i64 1]) (by simp [results, Try.results13, go_sem, *]) rfl ⟨rfl, (by (repeat (first | exact HB | exact Below.refl _ _ | apply below_drew | apply below_draws | refine below_set ?_ (by (try dsimp only); omega) _ | apply below_alloc)))⟩

set_option maxRecDepth 100000 in
set_option maxHeartbeats 2000000 in
theorem rDo_one (op : Int) (a b c d : Nat) (h1 : 1 ≤ op) (h2 : op ≤ 11) (h3 : a ≤ b) (h4 : c ≤ d) (ha : a < M) (hc : c < M) (hab : a = b) (hcd : c = d) (w : World) :
    Calls Try.prog 13 #[.int .i64 op, .agg #[.int .u64 a, .int .u64 b], .agg #[.int .u64 c, .int .u64 d]] w fun e w' => e = .returned (.tuple #[.agg #[.int .u64 ((spDo op a b c d).1 : Nat), .int .u64 ((spDo op a b c d).2 : Nat)], .int .i64 (spDoE op a b c d)]) ∧ Below w.heap.size w w' := by
  have e1 : spDo op a b c d = (aluV op a c, aluV op a c) := by unfold spDo; rw [if_pos ⟨⟨h1, h2⟩, h3, h4⟩, if_pos ⟨hab, hcd⟩]
  have e2 : spDoE op a b c d = 0 := by unfold spDoE; rw [if_pos ⟨⟨h1, h2⟩, h3, h4⟩]
  rw [e1, e2]
  have s1 : ((a : Int) == (b : Int)) = true := by simp [hab]
  have s2 : ((c : Int) == (d : Int)) = true := by simp [hcd]
  have C := refDo_any op a c ha hc
  rw [aluE_0 op h1 h2] at C
  clear hab hcd e1 e2 ha hc
  obtain ⟨v, hv⟩ : ∃ v, aluV op a c = v := ⟨_, rfl⟩
  rw [hv] at C ⊢
  clear hv
  go_enter Try.func13, Try.ntmps13
  go_wp2_with (first | (go_at_call 18; ((with_reducible refine (rmay_any _ _ _).mono ?_); rintro e w1 ⟨rfl, hb⟩); have HB : Below w.heap.size w w1 := below_then (by (repeat (first | exact HB | exact Below.refl _ _ | apply below_drew | apply below_draws | refine below_set ?_ (by (try dsimp only); omega) _ | apply below_alloc))) hb; obtain ⟨hc, hf⟩ := bcell hb; have hz := hb.size; (try simp at hz); (first | (obtain ⟨y0, y1, y2, y3, y4, y5, y6, y7, y8, y9, y10, y11, _⟩ := up12 hz) | (obtain ⟨y0, y1, y2, y3, y4, y5, y6, y7, y8, y9, y10, _⟩ := up11 hz) | (obtain ⟨y0, y1, y2, y3, y4, y5, y6, y7, y8, y9, _⟩ := up10 hz) | (obtain ⟨y0, y1, y2, y3, y4, y5, y6, y7, y8, _⟩ := up9 hz) | (obtain ⟨y0, y1, y2, y3, y4, y5, y6, y7, _⟩ := up8 hz) | (obtain ⟨y0, y1, y2, y3, y4, y5, y6, _⟩ := up7 hz) | (obtain ⟨y0, y1, y2, y3, y4, y5, _⟩ := up6 hz) | (obtain ⟨y0, y1, y2, y3, y4, _⟩ := up5 hz) | (obtain ⟨y0, y1, y2, y3, _⟩ := up4 hz) | (obtain ⟨y0, y1, y2, _⟩ := up3 hz) | (obtain ⟨y0, y1, _⟩ := up2 hz) | (obtain ⟨y0, _⟩ := up1 hz) | skip); (try (have z0 : w.heap.size < w1.heap.size := by omega)); (try (have z1 : w.heap.size + 1 < w1.heap.size := by omega)); (try (have z2 : w.heap.size + 1 + 1 < w1.heap.size := by omega)); (try (have c0 : ∀ o, w1.cell? ⟨w.heap.size, o, none⟩ = _ := fun o => hc _ o (by first | (simp; done) | (simp; omega) | omega))); (try (have g0 : ∀ o, w1.frozen? ⟨w.heap.size, o, none⟩ = _ := fun o => hf _ o (by first | (simp; done) | (simp; omega) | omega))); (try (have c1 : ∀ o, w1.cell? ⟨w.heap.size + 1, o, none⟩ = _ := fun o => hc _ o (by first | (simp; done) | (simp; omega) | omega))); (try (have g1 : ∀ o, w1.frozen? ⟨w.heap.size + 1, o, none⟩ = _ := fun o => hf _ o (by first | (simp; done) | (simp; omega) | omega))); (try (have c2 : ∀ o, w1.cell? ⟨w.heap.size + 1 + 1, o, none⟩ = _ := fun o => hc _ o (by first | (simp; done) | (simp; omega) | omega))); (try (have g2 : ∀ o, w1.frozen? ⟨w.heap.size + 1 + 1, o, none⟩ = _ := fun o => hf _ o (by first | (simp; done) | (simp; omega) | omega))); clear hb hz) | (go_at_call 29; ((with_reducible refine (C _).mono ?_); rintro e w' ⟨rfl, rfl⟩)) | (go_at_call 30; ((with_reducible refine (to_any _ _ _).mono ?_); rintro e w' ⟨rfl, rfl⟩)))
  exact bodyPost_ret (v := .tuple #[.agg #[.int .u64 (v : Nat), .int .u64 (v : Nat)], .int .i64 0]) (by simp [results, Try.results13, go_sem, *]) rfl ⟨rfl, (by (repeat (first | exact HB | exact Below.refl _ _ | apply below_drew | apply below_draws | refine below_set ?_ (by (try dsimp only); omega) _ | apply below_alloc)))⟩

theorem rdo_row (op : Int) (h1 : 1 ≤ op) (h2 : op ≤ 11) (a b c d : Nat) (hab : a ≤ b) (hcd : c ≤ d) (hb : b < M) (hd : d < M) (hs : decide (a = b) = false ∨ decide (c = d) = false) (w : World) :
    Calls Try.prog 13 #[.int .i64 op, .agg #[.int .u64 a, .int .u64 b], .agg #[.int .u64 c, .int .u64 d]] w fun e w' => e = .returned (.tuple #[.agg #[.int .u64 ((spRow op a b c d).1 : Nat), .int .u64 ((spRow op a b c d).2 : Nat)], .int .i64 0]) ∧ Below w.heap.size w w' := by
  by_cases o1 : op = 1
  · subst o1
    by_cases hf : b + d < M
    · exact rdo_1y a b c d hab hcd hb hd hs hf w
    · exact rdo_1n a b c d hab hcd hb hd hs hf w
  by_cases o2 : op = 2
  · subst o2
    by_cases hf : d ≤ a
    · exact rdo_2y a b c d hab hcd hb hd hs hf w
    · exact rdo_2n a b c d hab hcd hb hd hs hf w
  by_cases o3 : op = 3
  · subst o3
    by_cases h0 : d = 0
    · exact rdo_3z a b c d hab hcd hb hd hs h0 w
    · by_cases hf : b * d < M
      · exact rdo_3y a b c d hab hcd hb hd hs h0 hf w
      · exact rdo_3n a b c d hab hcd hb hd hs h0 hf w
  by_cases o4 : op = 4
  · subst o4
    by_cases hf : c = 0
    · exact rdo_4z a b c d hab hcd hb hd hs hf w
    · exact rdo_4n a b c d hab hcd hb hd hs hf w
  by_cases o5 : op = 5
  · subst o5
    by_cases h1 : b < c
    · exact rdo_5a1 a b c d hab hcd hb hd hs h1 w
    · by_cases h2 : d = 0
      · exact rdo_5a2 a b c d hab hcd hb hd hs h1 h2 w
      · by_cases h3 : c = 0
        · exact rdo_5b a b c d hab hcd hb hd hs h1 h2 h3 w
        · exact rdo_5c a b c d hab hcd hb hd hs h1 h2 h3 w
  by_cases o6 : op = 6
  · subst o6; exact rdo_6 a b c d hab hcd hb hd hs w
  by_cases o7 : op = 7
  · subst o7; exact rdo_7 a b c d hab hcd hb hd hs w
  by_cases o8 : op = 8
  · subst o8; exact rdo_8 a b c d hab hcd hb hd hs w
  by_cases o9 : op = 9
  · subst o9
    by_cases h3 : c = d
    · by_cases hf : b * 2 ^ (c % 64) < M
      · exact rdo_9y a b c d hab hcd hb hd hs h3 hf w
      · exact rdo_9n a b c d hab hcd hb hd hs h3 hf w
    · exact rdo_9m a b c d hab hcd hb hd hs h3 w
  by_cases o10 : op = 10
  · subst o10
    by_cases h3 : c = d
    · exact rdo_10y a b c d hab hcd hb hd hs h3 w
    · exact rdo_10n a b c d hab hcd hb hd hs h3 w
  obtain rfl : op = 11 := by omega
  by_cases ht : H63 ≤ b
  · exact rdo_11t a b c d hab hcd hb hd hs ht w
  · by_cases h3 : c = d
    · exact rdo_11y a b c d hab hcd hb hd hs h3 ht w
    · exact rdo_11n a b c d hab hcd hb hd hs h3 ht w

set_option maxRecDepth 100000 in
set_option maxHeartbeats 2000000 in
theorem rDo_any (op : Int) (a b c d : Nat) (ha : a < M) (hb : b < M) (hc : c < M) (hd : d < M) (w : World) :
    Calls Try.prog 13 #[.int .i64 op, .agg #[.int .u64 a, .int .u64 b], .agg #[.int .u64 c, .int .u64 d]] w fun e w' => e = .returned (.tuple #[.agg #[.int .u64 ((spDo op a b c d).1 : Nat), .int .u64 ((spDo op a b c d).2 : Nat)], .int .i64 (spDoE op a b c d)]) ∧ Below w.heap.size w w' := by
  by_cases h : (1 ≤ op ∧ op ≤ 11) ∧ a ≤ b ∧ c ≤ d
  · have h' := h
    obtain ⟨⟨h1, h2⟩, h3, h4⟩ := h
    by_cases hs : a = b ∧ c = d
    · exact rDo_one op a b c d h1 h2 h3 h4 ha hc hs.1 hs.2 w
    · have e1 : spDo op a b c d = spRow op a b c d := by unfold spDo; rw [if_pos h', if_neg hs]
      have e2 : spDoE op a b c d = 0 := by unfold spDoE; rw [if_pos h']
      rw [e1, e2]
      exact rdo_row op h1 h2 a b c d h3 h4 hb hd (by by_cases hx : a = b; · right; simp; exact fun hy => hs ⟨hx, hy⟩
                                                     · left; simp [hx]) w
  · exact rDo_no op a b c d h w

end Go.Proofs.Ytgaahlnegmcakaa
