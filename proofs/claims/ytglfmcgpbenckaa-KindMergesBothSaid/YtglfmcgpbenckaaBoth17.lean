/- The walk of chapter 17's statement KindMergesBoth. -/
import Derived.Test.YtglfmcgpbenckaaStateMore
namespace Go.Proofs.Ytglfmcgpbenckaa
open Go.RowKit
set_option linter.unusedVariables false
set_option linter.unusedSimpArgs false

set_option maxRecDepth 100000 in
set_option maxHeartbeats 8000000 in
theorem both_refs (s t A B : St)  (w : World)
    (C1 : ∀ w1, Below w.heap.size w w1 → Calls Try.prog 17 #[.agg s.arr, .agg t.arr] w1 fun e w' => e = .returned (.tuple #[.agg A.arr, .int .i64 8]) ∧ Below w1.heap.size w1 w')
    (C2 : ∀ w1, Below w.heap.size w w1 → Calls Try.prog 17 #[.agg t.arr, .agg s.arr] w1 fun e w' => e = .returned (.tuple #[.agg B.arr, .int .i64 8]) ∧ Below w1.heap.size w1 w')
    (C3 : ∀ w1, Below w.heap.size w w1 → Calls Try.prog 18 #[.slice s.p s.z s.c, .slice t.p t.z t.c] w1 fun e w' => e = .returned (.bool false) ∧ Below w1.heap.size w1 w')
    (C4 : ∀ w1, Below w.heap.size w w1 → Calls Try.prog 14 #[.agg A.arr, .agg B.arr] w1 fun e w' => e = .returned (.bool true) ∧ Below w1.heap.size w1 w')
    (CM : ∀ i, i < 10 → Wok (A.f i)) :
    Calls Try.prog 7 #[.agg s.arr, .agg t.arr] w fun e w' => e = .returned (.bool true) ∧ Below w.heap.size w w' := by
  replace C1 := Lib.hid C1
  replace C2 := Lib.hid C2
  replace C3 := Lib.hid C3
  replace C4 := Lib.hid C4
  replace CM := Lib.hid CM
  go_enter Try.func7, Try.ntmps7
  go_upto_region 1 with fail
  refine named (P := fun W => Code.wp _ _ _ _ W) (fun W => Has W w.heap.size s ∧ Has W (w.heap.size + 1) t ∧ Below w.heap.size w W)
    ⟨(Has.new w s rfl).alloc _, Has.new _ _ (by simp), below_alloc (below_alloc (Below.refl _ _) _) _⟩ ?_
  rintro W ⟨h0, h1, HB⟩
  have H0 := Lib.hid h0
  have H1 := Lib.hid h1
  have HBL := Lib.hid HB
  clear h0 h1 HB
  have hl1 : w.heap.size + 1 < W.heap.size := H1.out.lt
  go_upto_region 2 with (go_at_call 10; refine (shown_any _).mono ?_; rintro e w1 ⟨rfl, hb⟩; have hl2 := Nat.lt_of_lt_of_le hl1 hb.size; have H0 := Lib.hid (Below.has hb H0.out); have H1 := Lib.hid (Below.has hb H1.out); have HBL := Lib.hid (below_then HBL.out hb); clear hb)
  clear hl1
  have h0 := H0.out
  have h1 := H1.out
  have hz := zeroSt
  go_wp2_with (first | (refine wpList_loadSt h0 _ rfl rfl rfl ?_) | (refine wpList_loadSt h1 _ rfl rfl rfl ?_))
  refine (C1.out _ HBL.out).mono ?_
  rintro e w3 ⟨rfl, hb⟩
  clear h0 h1
  have hl3 := Nat.lt_of_lt_of_le hl2 hb.size
  have H0 := Lib.hid (Below.has hb H0.out)
  have H1 := Lib.hid (Below.has hb H1.out)
  have HBL := Lib.hid (below_then HBL.out hb)
  clear hb
  go_upto_region 3 with (refine wpList_storeSt (Has.new w3 st0 rfl) _ _ A rfl rfl rfl rfl ?_)
  clear hz
  clear hl2
  refine named (P := fun W => Code.wp _ _ _ _ W) (fun W => Has W w.heap.size s ∧ Has W (w.heap.size + 1) t ∧ Has W w3.heap.size A ∧ Below w.heap.size w W) ⟨(H0.out.alloc _).setRow_far (by omega) _, (H1.out.alloc _).setRow_far (by omega) _, (Has.new w3 st0 rfl).setRow A, below_row (below_alloc HBL.out _) (by omega) _⟩ ?_
  rintro W3 ⟨h0, h1, h2, hb⟩
  have H0 := Lib.hid h0
  have H1 := Lib.hid h1
  have H2 := Lib.hid h2
  have HBL := Lib.hid hb
  have hl4 := h2.lt
  clear h0 h1 h2 hb
  generalize w3.heap.size = bA at *
  have h0 := H0.out
  have h1 := H1.out
  have hz := zeroSt
  go_wp2_with (first | (refine wpList_loadSt h0 _ rfl rfl rfl ?_) | (refine wpList_loadSt h1 _ rfl rfl rfl ?_))
  refine (C2.out _ HBL.out).mono ?_
  rintro e w5 ⟨rfl, hb⟩
  clear h0 h1
  have hl5 := Nat.lt_of_lt_of_le hl4 hb.size
  have H0 := Lib.hid (Below.has hb H0.out)
  have H1 := Lib.hid (Below.has hb H1.out)
  have H2 := Lib.hid (Below.has hb H2.out)
  have HBL := Lib.hid (below_then HBL.out hb)
  clear hb
  go_upto_region 4 with (refine wpList_storeSt (Has.new w5 st0 rfl) _ _ B rfl rfl rfl rfl ?_)
  clear hz
  clear hl4
  refine named (P := fun W => Code.wp _ _ _ _ W) (fun W => Has W w.heap.size s ∧ Has W (w.heap.size + 1) t ∧ Has W bA A ∧ Has W w5.heap.size B ∧ Below w.heap.size w W) ⟨(H0.out.alloc _).setRow_far (by omega) _, (H1.out.alloc _).setRow_far (by omega) _, (H2.out.alloc _).setRow_far (by omega) _, (Has.new w5 st0 rfl).setRow B, below_row (below_alloc HBL.out _) (by omega) _⟩ ?_
  rintro W5 ⟨h0, h1, h2, h3, hb⟩
  have H0 := Lib.hid h0
  have H1 := Lib.hid h1
  have H2 := Lib.hid h2
  have H3 := Lib.hid h3
  have HBL := Lib.hid hb
  clear h0 h1 h2 h3 hb
  generalize w5.heap.size = bB at *
  obtain ⟨r0, r1, r2, r3⟩ := H0.out.rest
  obtain ⟨q0, q1, q2, q3⟩ := H1.out.rest
  go_upto_region 5 with (go_at_call 18; refine (C3.out _ HBL.out).mono ?_; rintro e w6 ⟨rfl, hb⟩; have H0 := Lib.hid (Below.has hb H0.out); have H1 := Lib.hid (Below.has hb H1.out); have H2 := Lib.hid (Below.has hb H2.out); have H3 := Lib.hid (Below.has hb H3.out); have HBL := Lib.hid (below_then HBL.out hb); clear r0 r1 r2 r3 q0 q1 q2 q3 hb; obtain ⟨r0, r1, r2, r3⟩ := H0.out.rest; obtain ⟨q0, q1, q2, q3⟩ := H1.out.rest)
  clear r0 r1 r2 r3 q0 q1 q2 q3 
  have h2 := H2.out
  have h3 := H3.out
  go_upto_region 7 with (first | (refine wpList_loadStG h2 _ rfl rfl rfl ?_) | (refine wpList_loadStG h3 _ rfl rfl rfl ?_) | (go_at_call 14; refine (C4.out _ HBL.out).mono ?_; rintro e w7 ⟨rfl, hb⟩; have H2 := Lib.hid (Below.has hb H2.out); have HBL := Lib.hid (below_then HBL.out hb); clear hb))
  clear h2 h3
  go_wp2
  go_loopw [11] (fun v wr => ∃ j : Nat, j ≤ 10 ∧ v = .int .i64 j ∧ Has wr bA A ∧ Below w.heap.size w wr) (fun v _ => 10 - (intOf v).toNat)
  case atStart => exact ⟨0, Nat.zero_le _, rfl, H2.out, HBL.out⟩
  case round =>
    obtain ⟨j, hj, rfl, h2, hb⟩ := hrel
    have H2 := Lib.hid h2
    have HBL := Lib.hid hb
    clear h2 hb
    by_cases hlt : j < 10
    · have hlt' : (j : Int) < 10 := by omega
      have h0' : (0 : Int) ≤ j := by omega
      have e7 := H2.out.seven j (by omega)
      have hm := CM.out j hlt
      obtain ⟨x, hx⟩ : ∃ x, A.f j = x := ⟨_, rfl⟩
      rw [hx] at e7 hm
      obtain ⟨c0, c1, c2, c3, c4, c5, c6⟩ := e7
      have CMx := Lib.hid (kmay_wh x true (by unfold whMay; simp [hm]))
      have HEND := Lib.hid (show ∀ W : World, Has W bA A → Below w.heap.size w W → ∃ q : Nat, q ≤ 10 ∧ Value.int .i64 ((j : Int) + 1) = .int .i64 q ∧ Has W bA A ∧ Below w.heap.size w W from
        fun W g1 g2 => ⟨j + 1, hlt, by go_num, g1, g2⟩)
      clear hx hm
      go_wp2_with (go_at_call 12; refine (CMx.out _).mono ?_; rintro e w9 ⟨rfl, hb⟩; have H2 := Lib.hid (Below.has hb H2.out); have HBL := Lib.hid (below_then HBL.out hb); clear hb c0 c1 c2 c3 c4 c5 c6)
      go_roundw
      case rel => first | exact HEND.out _ H2.out HBL.out | ((repeat apply Exists.intro); exact ⟨HEND.out _ H2.out HBL.out, rfl⟩)
      case measure => simp [intOf]; omega
    · have : j = 10 := by omega
      subst this
      clear hlt hj
      go_wp2
      go_ret
      exact ⟨rfl, HBL.out⟩

set_option maxRecDepth 100000 in
set_option maxHeartbeats 8000000 in
theorem both_lock1 (s t A B : St) (hl : ¬ s.l = t.l) (w : World)
    (C1 : ∀ w1, Below w.heap.size w w1 → Calls Try.prog 17 #[.agg s.arr, .agg t.arr] w1 fun e w' => e = .returned (.tuple #[.agg A.arr, .int .i64 9]) ∧ Below w1.heap.size w1 w')
    (C2 : ∀ w1, Below w.heap.size w w1 → Calls Try.prog 17 #[.agg t.arr, .agg s.arr] w1 fun e w' => e = .returned (.tuple #[.agg B.arr, .int .i64 9]) ∧ Below w1.heap.size w1 w')
    (C3 : ∀ w1, Below w.heap.size w w1 → Calls Try.prog 18 #[.slice s.p s.z s.c, .slice t.p t.z t.c] w1 fun e w' => e = .returned (.bool true) ∧ Below w1.heap.size w1 w')
    (C4 : ∀ w1, Below w.heap.size w w1 → Calls Try.prog 14 #[.agg A.arr, .agg B.arr] w1 fun e w' => e = .returned (.bool true) ∧ Below w1.heap.size w1 w')
    (CM : ∀ i, i < 10 → Wok (A.f i)) :
    Calls Try.prog 7 #[.agg s.arr, .agg t.arr] w fun e w' => e = .returned (.bool true) ∧ Below w.heap.size w w' := by
  replace C1 := Lib.hid C1
  replace C2 := Lib.hid C2
  replace C3 := Lib.hid C3
  replace C4 := Lib.hid C4
  replace CM := Lib.hid CM
  have g1 : (s.l == t.l) = false := by simp [hl]
  have g1' : (s.l != t.l) = true := by simp [hl]
  clear hl
  go_enter Try.func7, Try.ntmps7
  go_upto_region 1 with fail
  refine named (P := fun W => Code.wp _ _ _ _ W) (fun W => Has W w.heap.size s ∧ Has W (w.heap.size + 1) t ∧ Below w.heap.size w W)
    ⟨(Has.new w s rfl).alloc _, Has.new _ _ (by simp), below_alloc (below_alloc (Below.refl _ _) _) _⟩ ?_
  rintro W ⟨h0, h1, HB⟩
  have H0 := Lib.hid h0
  have H1 := Lib.hid h1
  have HBL := Lib.hid HB
  clear h0 h1 HB
  have hl1 : w.heap.size + 1 < W.heap.size := H1.out.lt
  go_upto_region 2 with (go_at_call 10; refine (shown_any _).mono ?_; rintro e w1 ⟨rfl, hb⟩; have hl2 := Nat.lt_of_lt_of_le hl1 hb.size; have H0 := Lib.hid (Below.has hb H0.out); have H1 := Lib.hid (Below.has hb H1.out); have HBL := Lib.hid (below_then HBL.out hb); clear hb)
  clear hl1
  have h0 := H0.out
  have h1 := H1.out
  have hz := zeroSt
  go_wp2_with (first | (refine wpList_loadSt h0 _ rfl rfl rfl ?_) | (refine wpList_loadSt h1 _ rfl rfl rfl ?_))
  refine (C1.out _ HBL.out).mono ?_
  rintro e w3 ⟨rfl, hb⟩
  clear h0 h1
  have hl3 := Nat.lt_of_lt_of_le hl2 hb.size
  have H0 := Lib.hid (Below.has hb H0.out)
  have H1 := Lib.hid (Below.has hb H1.out)
  have HBL := Lib.hid (below_then HBL.out hb)
  clear hb
  go_upto_region 3 with (refine wpList_storeSt (Has.new w3 st0 rfl) _ _ A rfl rfl rfl rfl ?_)
  clear hz
  clear hl2
  refine named (P := fun W => Code.wp _ _ _ _ W) (fun W => Has W w.heap.size s ∧ Has W (w.heap.size + 1) t ∧ Has W w3.heap.size A ∧ Below w.heap.size w W) ⟨(H0.out.alloc _).setRow_far (by omega) _, (H1.out.alloc _).setRow_far (by omega) _, (Has.new w3 st0 rfl).setRow A, below_row (below_alloc HBL.out _) (by omega) _⟩ ?_
  rintro W3 ⟨h0, h1, h2, hb⟩
  have H0 := Lib.hid h0
  have H1 := Lib.hid h1
  have H2 := Lib.hid h2
  have HBL := Lib.hid hb
  have hl4 := h2.lt
  clear h0 h1 h2 hb
  generalize w3.heap.size = bA at *
  have h0 := H0.out
  have h1 := H1.out
  have hz := zeroSt
  go_wp2_with (first | (refine wpList_loadSt h0 _ rfl rfl rfl ?_) | (refine wpList_loadSt h1 _ rfl rfl rfl ?_))
  refine (C2.out _ HBL.out).mono ?_
  rintro e w5 ⟨rfl, hb⟩
  clear h0 h1
  have hl5 := Nat.lt_of_lt_of_le hl4 hb.size
  have H0 := Lib.hid (Below.has hb H0.out)
  have H1 := Lib.hid (Below.has hb H1.out)
  have H2 := Lib.hid (Below.has hb H2.out)
  have HBL := Lib.hid (below_then HBL.out hb)
  clear hb
  go_upto_region 4 with (refine wpList_storeSt (Has.new w5 st0 rfl) _ _ B rfl rfl rfl rfl ?_)
  clear hz
  clear hl4
  refine named (P := fun W => Code.wp _ _ _ _ W) (fun W => Has W w.heap.size s ∧ Has W (w.heap.size + 1) t ∧ Has W bA A ∧ Has W w5.heap.size B ∧ Below w.heap.size w W) ⟨(H0.out.alloc _).setRow_far (by omega) _, (H1.out.alloc _).setRow_far (by omega) _, (H2.out.alloc _).setRow_far (by omega) _, (Has.new w5 st0 rfl).setRow B, below_row (below_alloc HBL.out _) (by omega) _⟩ ?_
  rintro W5 ⟨h0, h1, h2, h3, hb⟩
  have H0 := Lib.hid h0
  have H1 := Lib.hid h1
  have H2 := Lib.hid h2
  have H3 := Lib.hid h3
  have HBL := Lib.hid hb
  clear h0 h1 h2 h3 hb
  generalize w5.heap.size = bB at *
  obtain ⟨r0, r1, r2, r3⟩ := H0.out.rest
  obtain ⟨q0, q1, q2, q3⟩ := H1.out.rest
  go_upto_region 5 with (go_at_call 18; refine (C3.out _ HBL.out).mono ?_; rintro e w6 ⟨rfl, hb⟩; have H0 := Lib.hid (Below.has hb H0.out); have H1 := Lib.hid (Below.has hb H1.out); have H2 := Lib.hid (Below.has hb H2.out); have H3 := Lib.hid (Below.has hb H3.out); have HBL := Lib.hid (below_then HBL.out hb); clear r0 r1 r2 r3 q0 q1 q2 q3 hb; obtain ⟨r0, r1, r2, r3⟩ := H0.out.rest; obtain ⟨q0, q1, q2, q3⟩ := H1.out.rest)
  clear r0 r1 r2 r3 q0 q1 q2 q3 
  have h2 := H2.out
  have h3 := H3.out
  go_upto_region 7 with (first | (refine wpList_loadStG h2 _ rfl rfl rfl ?_) | (refine wpList_loadStG h3 _ rfl rfl rfl ?_) | (go_at_call 14; refine (C4.out _ HBL.out).mono ?_; rintro e w7 ⟨rfl, hb⟩; have H2 := Lib.hid (Below.has hb H2.out); have HBL := Lib.hid (below_then HBL.out hb); clear hb))
  clear h2 h3
  go_wp2
  go_loopw [11] (fun v wr => ∃ j : Nat, j ≤ 10 ∧ v = .int .i64 j ∧ Has wr bA A ∧ Below w.heap.size w wr) (fun v _ => 10 - (intOf v).toNat)
  case atStart => exact ⟨0, Nat.zero_le _, rfl, H2.out, HBL.out⟩
  case round =>
    obtain ⟨j, hj, rfl, h2, hb⟩ := hrel
    have H2 := Lib.hid h2
    have HBL := Lib.hid hb
    clear h2 hb
    by_cases hlt : j < 10
    · have hlt' : (j : Int) < 10 := by omega
      have h0' : (0 : Int) ≤ j := by omega
      have e7 := H2.out.seven j (by omega)
      have hm := CM.out j hlt
      obtain ⟨x, hx⟩ : ∃ x, A.f j = x := ⟨_, rfl⟩
      rw [hx] at e7 hm
      obtain ⟨c0, c1, c2, c3, c4, c5, c6⟩ := e7
      have CMx := Lib.hid (kmay_wh x true (by unfold whMay; simp [hm]))
      have HEND := Lib.hid (show ∀ W : World, Has W bA A → Below w.heap.size w W → ∃ q : Nat, q ≤ 10 ∧ Value.int .i64 ((j : Int) + 1) = .int .i64 q ∧ Has W bA A ∧ Below w.heap.size w W from
        fun W g1 g2 => ⟨j + 1, hlt, by go_num, g1, g2⟩)
      clear hx hm
      go_wp2_with (go_at_call 12; refine (CMx.out _).mono ?_; rintro e w9 ⟨rfl, hb⟩; have H2 := Lib.hid (Below.has hb H2.out); have HBL := Lib.hid (below_then HBL.out hb); clear hb c0 c1 c2 c3 c4 c5 c6)
      go_roundw
      case rel => first | exact HEND.out _ H2.out HBL.out | ((repeat apply Exists.intro); exact ⟨HEND.out _ H2.out HBL.out, rfl⟩)
      case measure => simp [intOf]; omega
    · have : j = 10 := by omega
      subst this
      clear hlt hj
      go_wp2
      go_ret
      exact ⟨rfl, HBL.out⟩

set_option maxRecDepth 100000 in
set_option maxHeartbeats 8000000 in
theorem both_lock2 (s t A B : St) (hl : s.l = t.l) (hs : ¬ s.s = t.s) (w : World)
    (C1 : ∀ w1, Below w.heap.size w w1 → Calls Try.prog 17 #[.agg s.arr, .agg t.arr] w1 fun e w' => e = .returned (.tuple #[.agg A.arr, .int .i64 9]) ∧ Below w1.heap.size w1 w')
    (C2 : ∀ w1, Below w.heap.size w w1 → Calls Try.prog 17 #[.agg t.arr, .agg s.arr] w1 fun e w' => e = .returned (.tuple #[.agg B.arr, .int .i64 9]) ∧ Below w1.heap.size w1 w')
    (C3 : ∀ w1, Below w.heap.size w w1 → Calls Try.prog 18 #[.slice s.p s.z s.c, .slice t.p t.z t.c] w1 fun e w' => e = .returned (.bool true) ∧ Below w1.heap.size w1 w')
    (C4 : ∀ w1, Below w.heap.size w w1 → Calls Try.prog 14 #[.agg A.arr, .agg B.arr] w1 fun e w' => e = .returned (.bool true) ∧ Below w1.heap.size w1 w')
    (CM : ∀ i, i < 10 → Wok (A.f i)) :
    Calls Try.prog 7 #[.agg s.arr, .agg t.arr] w fun e w' => e = .returned (.bool true) ∧ Below w.heap.size w w' := by
  replace C1 := Lib.hid C1
  replace C2 := Lib.hid C2
  replace C3 := Lib.hid C3
  replace C4 := Lib.hid C4
  replace CM := Lib.hid CM
  have g1 : (s.l == t.l) = true := by simp [hl]
  have g1' : (s.l != t.l) = false := by simp [hl]
  have g2 : (s.s == t.s) = false := by simp [hs]
  have g2' : (s.s != t.s) = true := by simp [hs]
  clear hl hs
  go_enter Try.func7, Try.ntmps7
  go_upto_region 1 with fail
  refine named (P := fun W => Code.wp _ _ _ _ W) (fun W => Has W w.heap.size s ∧ Has W (w.heap.size + 1) t ∧ Below w.heap.size w W)
    ⟨(Has.new w s rfl).alloc _, Has.new _ _ (by simp), below_alloc (below_alloc (Below.refl _ _) _) _⟩ ?_
  rintro W ⟨h0, h1, HB⟩
  have H0 := Lib.hid h0
  have H1 := Lib.hid h1
  have HBL := Lib.hid HB
  clear h0 h1 HB
  have hl1 : w.heap.size + 1 < W.heap.size := H1.out.lt
  go_upto_region 2 with (go_at_call 10; refine (shown_any _).mono ?_; rintro e w1 ⟨rfl, hb⟩; have hl2 := Nat.lt_of_lt_of_le hl1 hb.size; have H0 := Lib.hid (Below.has hb H0.out); have H1 := Lib.hid (Below.has hb H1.out); have HBL := Lib.hid (below_then HBL.out hb); clear hb)
  clear hl1
  have h0 := H0.out
  have h1 := H1.out
  have hz := zeroSt
  go_wp2_with (first | (refine wpList_loadSt h0 _ rfl rfl rfl ?_) | (refine wpList_loadSt h1 _ rfl rfl rfl ?_))
  refine (C1.out _ HBL.out).mono ?_
  rintro e w3 ⟨rfl, hb⟩
  clear h0 h1
  have hl3 := Nat.lt_of_lt_of_le hl2 hb.size
  have H0 := Lib.hid (Below.has hb H0.out)
  have H1 := Lib.hid (Below.has hb H1.out)
  have HBL := Lib.hid (below_then HBL.out hb)
  clear hb
  go_upto_region 3 with (refine wpList_storeSt (Has.new w3 st0 rfl) _ _ A rfl rfl rfl rfl ?_)
  clear hz
  clear hl2
  refine named (P := fun W => Code.wp _ _ _ _ W) (fun W => Has W w.heap.size s ∧ Has W (w.heap.size + 1) t ∧ Has W w3.heap.size A ∧ Below w.heap.size w W) ⟨(H0.out.alloc _).setRow_far (by omega) _, (H1.out.alloc _).setRow_far (by omega) _, (Has.new w3 st0 rfl).setRow A, below_row (below_alloc HBL.out _) (by omega) _⟩ ?_
  rintro W3 ⟨h0, h1, h2, hb⟩
  have H0 := Lib.hid h0
  have H1 := Lib.hid h1
  have H2 := Lib.hid h2
  have HBL := Lib.hid hb
  have hl4 := h2.lt
  clear h0 h1 h2 hb
  generalize w3.heap.size = bA at *
  have h0 := H0.out
  have h1 := H1.out
  have hz := zeroSt
  go_wp2_with (first | (refine wpList_loadSt h0 _ rfl rfl rfl ?_) | (refine wpList_loadSt h1 _ rfl rfl rfl ?_))
  refine (C2.out _ HBL.out).mono ?_
  rintro e w5 ⟨rfl, hb⟩
  clear h0 h1
  have hl5 := Nat.lt_of_lt_of_le hl4 hb.size
  have H0 := Lib.hid (Below.has hb H0.out)
  have H1 := Lib.hid (Below.has hb H1.out)
  have H2 := Lib.hid (Below.has hb H2.out)
  have HBL := Lib.hid (below_then HBL.out hb)
  clear hb
  go_upto_region 4 with (refine wpList_storeSt (Has.new w5 st0 rfl) _ _ B rfl rfl rfl rfl ?_)
  clear hz
  clear hl4
  refine named (P := fun W => Code.wp _ _ _ _ W) (fun W => Has W w.heap.size s ∧ Has W (w.heap.size + 1) t ∧ Has W bA A ∧ Has W w5.heap.size B ∧ Below w.heap.size w W) ⟨(H0.out.alloc _).setRow_far (by omega) _, (H1.out.alloc _).setRow_far (by omega) _, (H2.out.alloc _).setRow_far (by omega) _, (Has.new w5 st0 rfl).setRow B, below_row (below_alloc HBL.out _) (by omega) _⟩ ?_
  rintro W5 ⟨h0, h1, h2, h3, hb⟩
  have H0 := Lib.hid h0
  have H1 := Lib.hid h1
  have H2 := Lib.hid h2
  have H3 := Lib.hid h3
  have HBL := Lib.hid hb
  clear h0 h1 h2 h3 hb
  generalize w5.heap.size = bB at *
  obtain ⟨r0, r1, r2, r3⟩ := H0.out.rest
  obtain ⟨q0, q1, q2, q3⟩ := H1.out.rest
  go_upto_region 5 with (go_at_call 18; refine (C3.out _ HBL.out).mono ?_; rintro e w6 ⟨rfl, hb⟩; have H0 := Lib.hid (Below.has hb H0.out); have H1 := Lib.hid (Below.has hb H1.out); have H2 := Lib.hid (Below.has hb H2.out); have H3 := Lib.hid (Below.has hb H3.out); have HBL := Lib.hid (below_then HBL.out hb); clear r0 r1 r2 r3 q0 q1 q2 q3 hb; obtain ⟨r0, r1, r2, r3⟩ := H0.out.rest; obtain ⟨q0, q1, q2, q3⟩ := H1.out.rest)
  clear r0 r1 r2 r3 q0 q1 q2 q3 
  have h2 := H2.out
  have h3 := H3.out
  go_upto_region 7 with (first | (refine wpList_loadStG h2 _ rfl rfl rfl ?_) | (refine wpList_loadStG h3 _ rfl rfl rfl ?_) | (go_at_call 14; refine (C4.out _ HBL.out).mono ?_; rintro e w7 ⟨rfl, hb⟩; have H2 := Lib.hid (Below.has hb H2.out); have HBL := Lib.hid (below_then HBL.out hb); clear hb))
  clear h2 h3
  go_wp2
  go_loopw [11] (fun v wr => ∃ j : Nat, j ≤ 10 ∧ v = .int .i64 j ∧ Has wr bA A ∧ Below w.heap.size w wr) (fun v _ => 10 - (intOf v).toNat)
  case atStart => exact ⟨0, Nat.zero_le _, rfl, H2.out, HBL.out⟩
  case round =>
    obtain ⟨j, hj, rfl, h2, hb⟩ := hrel
    have H2 := Lib.hid h2
    have HBL := Lib.hid hb
    clear h2 hb
    by_cases hlt : j < 10
    · have hlt' : (j : Int) < 10 := by omega
      have h0' : (0 : Int) ≤ j := by omega
      have e7 := H2.out.seven j (by omega)
      have hm := CM.out j hlt
      obtain ⟨x, hx⟩ : ∃ x, A.f j = x := ⟨_, rfl⟩
      rw [hx] at e7 hm
      obtain ⟨c0, c1, c2, c3, c4, c5, c6⟩ := e7
      have CMx := Lib.hid (kmay_wh x true (by unfold whMay; simp [hm]))
      have HEND := Lib.hid (show ∀ W : World, Has W bA A → Below w.heap.size w W → ∃ q : Nat, q ≤ 10 ∧ Value.int .i64 ((j : Int) + 1) = .int .i64 q ∧ Has W bA A ∧ Below w.heap.size w W from
        fun W g1 g2 => ⟨j + 1, hlt, by go_num, g1, g2⟩)
      clear hx hm
      go_wp2_with (go_at_call 12; refine (CMx.out _).mono ?_; rintro e w9 ⟨rfl, hb⟩; have H2 := Lib.hid (Below.has hb H2.out); have HBL := Lib.hid (below_then HBL.out hb); clear hb c0 c1 c2 c3 c4 c5 c6)
      go_roundw
      case rel => first | exact HEND.out _ H2.out HBL.out | ((repeat apply Exists.intro); exact ⟨HEND.out _ H2.out HBL.out, rfl⟩)
      case measure => simp [intOf]; omega
    · have : j = 10 := by omega
      subst this
      clear hlt hj
      go_wp2
      go_ret
      exact ⟨rfl, HBL.out⟩

set_option maxRecDepth 100000 in
set_option maxHeartbeats 8000000 in
theorem both_ok (s t A B : St) (hl : s.l = t.l) (hs : s.s = t.s) (w : World)
    (C1 : ∀ w1, Below w.heap.size w w1 → Calls Try.prog 17 #[.agg s.arr, .agg t.arr] w1 fun e w' => e = .returned (.tuple #[.agg A.arr, .int .i64 0]) ∧ Below w1.heap.size w1 w')
    (C2 : ∀ w1, Below w.heap.size w w1 → Calls Try.prog 17 #[.agg t.arr, .agg s.arr] w1 fun e w' => e = .returned (.tuple #[.agg B.arr, .int .i64 0]) ∧ Below w1.heap.size w1 w')
    (C3 : ∀ w1, Below w.heap.size w w1 → Calls Try.prog 18 #[.slice s.p s.z s.c, .slice t.p t.z t.c] w1 fun e w' => e = .returned (.bool true) ∧ Below w1.heap.size w1 w')
    (C4 : ∀ w1, Below w.heap.size w w1 → Calls Try.prog 14 #[.agg A.arr, .agg B.arr] w1 fun e w' => e = .returned (.bool true) ∧ Below w1.heap.size w1 w')
    (CM : ∀ i, i < 10 → Wok (A.f i)) :
    Calls Try.prog 7 #[.agg s.arr, .agg t.arr] w fun e w' => e = .returned (.bool true) ∧ Below w.heap.size w w' := by
  replace C1 := Lib.hid C1
  replace C2 := Lib.hid C2
  replace C3 := Lib.hid C3
  replace C4 := Lib.hid C4
  replace CM := Lib.hid CM
  have g1 : (s.l == t.l) = true := by simp [hl]
  have g1' : (s.l != t.l) = false := by simp [hl]
  have g2 : (s.s == t.s) = true := by simp [hs]
  have g2' : (s.s != t.s) = false := by simp [hs]
  clear hl hs
  go_enter Try.func7, Try.ntmps7
  go_upto_region 1 with fail
  refine named (P := fun W => Code.wp _ _ _ _ W) (fun W => Has W w.heap.size s ∧ Has W (w.heap.size + 1) t ∧ Below w.heap.size w W)
    ⟨(Has.new w s rfl).alloc _, Has.new _ _ (by simp), below_alloc (below_alloc (Below.refl _ _) _) _⟩ ?_
  rintro W ⟨h0, h1, HB⟩
  have H0 := Lib.hid h0
  have H1 := Lib.hid h1
  have HBL := Lib.hid HB
  clear h0 h1 HB
  have hl1 : w.heap.size + 1 < W.heap.size := H1.out.lt
  go_upto_region 2 with (go_at_call 10; refine (shown_any _).mono ?_; rintro e w1 ⟨rfl, hb⟩; have hl2 := Nat.lt_of_lt_of_le hl1 hb.size; have H0 := Lib.hid (Below.has hb H0.out); have H1 := Lib.hid (Below.has hb H1.out); have HBL := Lib.hid (below_then HBL.out hb); clear hb)
  clear hl1
  have h0 := H0.out
  have h1 := H1.out
  have hz := zeroSt
  go_wp2_with (first | (refine wpList_loadSt h0 _ rfl rfl rfl ?_) | (refine wpList_loadSt h1 _ rfl rfl rfl ?_))
  refine (C1.out _ HBL.out).mono ?_
  rintro e w3 ⟨rfl, hb⟩
  clear h0 h1
  have hl3 := Nat.lt_of_lt_of_le hl2 hb.size
  have H0 := Lib.hid (Below.has hb H0.out)
  have H1 := Lib.hid (Below.has hb H1.out)
  have HBL := Lib.hid (below_then HBL.out hb)
  clear hb
  go_upto_region 3 with (refine wpList_storeSt (Has.new w3 st0 rfl) _ _ A rfl rfl rfl rfl ?_)
  clear hz
  clear hl2
  refine named (P := fun W => Code.wp _ _ _ _ W) (fun W => Has W w.heap.size s ∧ Has W (w.heap.size + 1) t ∧ Has W w3.heap.size A ∧ Below w.heap.size w W) ⟨(H0.out.alloc _).setRow_far (by omega) _, (H1.out.alloc _).setRow_far (by omega) _, (Has.new w3 st0 rfl).setRow A, below_row (below_alloc HBL.out _) (by omega) _⟩ ?_
  rintro W3 ⟨h0, h1, h2, hb⟩
  have H0 := Lib.hid h0
  have H1 := Lib.hid h1
  have H2 := Lib.hid h2
  have HBL := Lib.hid hb
  have hl4 := h2.lt
  clear h0 h1 h2 hb
  generalize w3.heap.size = bA at *
  have h0 := H0.out
  have h1 := H1.out
  have hz := zeroSt
  go_wp2_with (first | (refine wpList_loadSt h0 _ rfl rfl rfl ?_) | (refine wpList_loadSt h1 _ rfl rfl rfl ?_))
  refine (C2.out _ HBL.out).mono ?_
  rintro e w5 ⟨rfl, hb⟩
  clear h0 h1
  have hl5 := Nat.lt_of_lt_of_le hl4 hb.size
  have H0 := Lib.hid (Below.has hb H0.out)
  have H1 := Lib.hid (Below.has hb H1.out)
  have H2 := Lib.hid (Below.has hb H2.out)
  have HBL := Lib.hid (below_then HBL.out hb)
  clear hb
  go_upto_region 4 with (refine wpList_storeSt (Has.new w5 st0 rfl) _ _ B rfl rfl rfl rfl ?_)
  clear hz
  clear hl4
  refine named (P := fun W => Code.wp _ _ _ _ W) (fun W => Has W w.heap.size s ∧ Has W (w.heap.size + 1) t ∧ Has W bA A ∧ Has W w5.heap.size B ∧ Below w.heap.size w W) ⟨(H0.out.alloc _).setRow_far (by omega) _, (H1.out.alloc _).setRow_far (by omega) _, (H2.out.alloc _).setRow_far (by omega) _, (Has.new w5 st0 rfl).setRow B, below_row (below_alloc HBL.out _) (by omega) _⟩ ?_
  rintro W5 ⟨h0, h1, h2, h3, hb⟩
  have H0 := Lib.hid h0
  have H1 := Lib.hid h1
  have H2 := Lib.hid h2
  have H3 := Lib.hid h3
  have HBL := Lib.hid hb
  clear h0 h1 h2 h3 hb
  generalize w5.heap.size = bB at *
  obtain ⟨r0, r1, r2, r3⟩ := H0.out.rest
  obtain ⟨q0, q1, q2, q3⟩ := H1.out.rest
  go_upto_region 5 with (go_at_call 18; refine (C3.out _ HBL.out).mono ?_; rintro e w6 ⟨rfl, hb⟩; have H0 := Lib.hid (Below.has hb H0.out); have H1 := Lib.hid (Below.has hb H1.out); have H2 := Lib.hid (Below.has hb H2.out); have H3 := Lib.hid (Below.has hb H3.out); have HBL := Lib.hid (below_then HBL.out hb); clear r0 r1 r2 r3 q0 q1 q2 q3 hb; obtain ⟨r0, r1, r2, r3⟩ := H0.out.rest; obtain ⟨q0, q1, q2, q3⟩ := H1.out.rest)
  clear r0 r1 r2 r3 q0 q1 q2 q3 
  have h2 := H2.out
  have h3 := H3.out
  go_upto_region 7 with (first | (refine wpList_loadStG h2 _ rfl rfl rfl ?_) | (refine wpList_loadStG h3 _ rfl rfl rfl ?_) | (go_at_call 14; refine (C4.out _ HBL.out).mono ?_; rintro e w7 ⟨rfl, hb⟩; have H2 := Lib.hid (Below.has hb H2.out); have HBL := Lib.hid (below_then HBL.out hb); clear hb))
  clear h2 h3
  go_wp2
  go_loopw [11] (fun v wr => ∃ j : Nat, j ≤ 10 ∧ v = .int .i64 j ∧ Has wr bA A ∧ Below w.heap.size w wr) (fun v _ => 10 - (intOf v).toNat)
  case atStart => exact ⟨0, Nat.zero_le _, rfl, H2.out, HBL.out⟩
  case round =>
    obtain ⟨j, hj, rfl, h2, hb⟩ := hrel
    have H2 := Lib.hid h2
    have HBL := Lib.hid hb
    clear h2 hb
    by_cases hlt : j < 10
    · have hlt' : (j : Int) < 10 := by omega
      have h0' : (0 : Int) ≤ j := by omega
      have e7 := H2.out.seven j (by omega)
      have hm := CM.out j hlt
      obtain ⟨x, hx⟩ : ∃ x, A.f j = x := ⟨_, rfl⟩
      rw [hx] at e7 hm
      obtain ⟨c0, c1, c2, c3, c4, c5, c6⟩ := e7
      have CMx := Lib.hid (kmay_wh x true (by unfold whMay; simp [hm]))
      have HEND := Lib.hid (show ∀ W : World, Has W bA A → Below w.heap.size w W → ∃ q : Nat, q ≤ 10 ∧ Value.int .i64 ((j : Int) + 1) = .int .i64 q ∧ Has W bA A ∧ Below w.heap.size w W from
        fun W g1 g2 => ⟨j + 1, hlt, by go_num, g1, g2⟩)
      clear hx hm
      go_wp2_with (go_at_call 12; refine (CMx.out _).mono ?_; rintro e w9 ⟨rfl, hb⟩; have H2 := Lib.hid (Below.has hb H2.out); have HBL := Lib.hid (below_then HBL.out hb); clear hb c0 c1 c2 c3 c4 c5 c6)
      go_roundw
      case rel => first | exact HEND.out _ H2.out HBL.out | ((repeat apply Exists.intro); exact ⟨HEND.out _ H2.out HBL.out, rfl⟩)
      case measure => simp [intOf]; omega
    · have : j = 10 := by omega
      subst this
      clear hlt hj
      go_wp2
      go_ret
      exact ⟨rfl, HBL.out⟩

theorem merges_alike (s t : St) (xs ys : List Int) (e0 : xs = ys) (e1 : s.l = t.l) (e2 : s.s = t.s) :
    Alike17 (((s.mrg t 0 10).mrg t 10 8).withN (max s.n t.n)) (((t.mrg s 0 10).mrg s 10 8).withN (max t.n s.n)) xs ys := by
  refine ⟨fun i hi => ?_, e0, e1, e2, ?_⟩
  · unfold St.withN St.mrg
    dsimp only
    by_cases q : i < 10
    · rw [if_neg (by omega), if_pos (by omega), if_neg (by omega), if_pos (by omega), J_comm]
    · rw [if_pos (by omega), if_neg (by omega), if_pos (by omega), if_neg (by omega), J_comm]
  · show max s.n t.n = max t.n s.n
    omega
theorem merges_ok (s t : St) : ∀ i, i < 10 → Wok ((((s.mrg t 0 10).mrg t 10 8).withN (max s.n t.n)).f i) := by
  intro i hi
  unfold St.withN St.mrg
  dsimp only
  rw [if_neg (by omega), if_pos (by omega)]
  exact J_valid _ _
set_option maxHeartbeats 1000000 in
theorem kindMergesBoth_walk (s t : St) (xs : List Int) (hn : xs.length = s.z) (hm : s.z ≤ maxLen) (ys : List Int) (hn' : ys.length = t.z) (hm' : t.z ≤ maxLen) (w : World) (hx : Ints w s.p xs) (hy : Ints w t.p ys) :
    Calls Try.prog 7 #[.agg s.arr, .agg t.arr] w fun e w' => e = .returned (.bool true) ∧ Below w.heap.size w w' := by
  have I1 := fun (w1 : World) (h : Below w.heap.size w w1) => hx.below h
  have I2 := fun (w1 : World) (h : Below w.heap.size w w1) => hy.below h
  have R := fun (v : Bool) (hv : decide (xs = ys) = v) (w1 : World) (h : Below w.heap.size w w1) => refs_any s.p t.p s.c t.c xs ys s.z t.z v hv hn hn' w1 hm (I1 w1 h) (I2 w1 h)
  have Z := fun (w1 : World) (h : Below w.heap.size w w1) => same_any st0 st0 [] [] True ⟨fun _ => trivial, fun _ => ⟨fun _ _ => rfl, rfl, rfl, rfl, rfl⟩⟩ rfl rfl (Nat.zero_le _) w1 (.inl rfl) (.inl rfl)
  have ZM : ∀ i, i < 10 → Wok (st0.f i) := fun i _ => ok_junk
  by_cases e0 : xs = ys
  · by_cases e1 : s.l = t.l
    · by_cases e2 : s.s = t.s
      · exact both_ok s t _ _ e1 e2 w (fun w1 h => merge_ok s t xs ys hn hn' hm e0 e1 e2 _ rfl w1 (I1 w1 h) (I2 w1 h)) (fun w1 h => merge_ok t s ys xs hn' hn hm' e0.symm e1.symm e2.symm _ rfl w1 (I2 w1 h) (I1 w1 h)) (R true (decide_eq_true e0)) (fun w1 h => same_any _ _ xs ys True ⟨fun _ => trivial, fun _ => merges_alike s t xs ys e0 e1 e2⟩ hn hn' hm w1 (I1 w1 h) (I2 w1 h)) (merges_ok s t)
      · exact both_lock2 s t _ _ e1 e2 w (fun w1 h => merge_lock2 s t xs ys hn hn' hm e0 e1 e2 w1 (I1 w1 h) (I2 w1 h)) (fun w1 h => merge_lock2 t s ys xs hn' hn hm' e0.symm e1.symm (fun q => e2 q.symm) w1 (I2 w1 h) (I1 w1 h)) (R true (decide_eq_true e0)) Z ZM
    · exact both_lock1 s t _ _ e1 w (fun w1 h => merge_lock1 s t xs ys hn hn' hm e0 e1 w1 (I1 w1 h) (I2 w1 h)) (fun w1 h => merge_lock1 t s ys xs hn' hn hm' e0.symm (fun q => e1 q.symm) w1 (I2 w1 h) (I1 w1 h)) (R true (decide_eq_true e0)) Z ZM
  · exact both_refs s t _ _ w (fun w1 h => merge_refs s t xs ys hn hn' hm e0 w1 (I1 w1 h) (I2 w1 h)) (fun w1 h => merge_refs t s ys xs hn' hn hm' (fun q => e0 q.symm) w1 (I2 w1 h) (I1 w1 h)) (R false (decide_eq_false e0)) Z ZM
end Go.Proofs.Ytglfmcgpbenckaa
