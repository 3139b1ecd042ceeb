/- The walk of kind.Merge. -/
import Derived.Test.YtglfmcgpbenckaaStateRForget
import Derived.Test.YtglfmcgpbenckaaForgets17
import Derived.Lib.MinMax
import Derived.Outline
namespace Go.Proofs.Ytglfmcgpbenckaa
open Go.RowKit
set_option linter.unusedVariables false
set_option linter.unusedSimpArgs false
/-- of the cnt from lo on what is known is what either knows. -/
def St.mrg (s t : St) (lo cnt : Nat) : St := { s with f := fun x => if lo ≤ x ∧ x < lo + cnt then whJoin (s.f x) (t.f x) else s.f x }
theorem St.mrg_zero (s t : St) (lo : Nat) : s.mrg t lo 0 = s := by
  unfold St.mrg
  cases s
  simp only [St.mk.injEq, and_true]
  funext x
  rw [if_neg (by omega)]
theorem St.mrg_succ (s t : St) (lo j : Nat) : s.mrg t lo (j + 1) = (s.mrg t lo j).put (lo + j) (whJoin (s.f (lo + j)) (t.f (lo + j))) := by
  unfold St.mrg St.put
  simp only [St.mk.injEq, and_true]
  funext x
  by_cases h : x = lo + j
  · subst h; rw [if_pos (by omega), if_pos rfl]
  · rw [if_neg h]
    by_cases h2 : lo ≤ x ∧ x < lo + j
    · rw [if_pos h2, if_pos (by omega)]
    · rw [if_neg h2, if_neg (by omega)]
theorem St.mrg_at (s t : St) (lo j : Nat) : (s.mrg t lo j).f (lo + j) = s.f (lo + j) := by
  unfold St.mrg; dsimp only; rw [if_neg (by omega)]
theorem wpList_buildSt {ops : Array Oper} {rest : List Oper} {o : Oper} {a : Act} {w : World} {Q : Exit → Act → World → Prop} (hgd : o.guard = none) (ho : o.op = .build 38 #[])
    (h : wpList Try.prog ops Q rest (a.put o.dst (.agg st0.arr)) w) : wpList Try.prog ops Q (o :: rest) a w :=
  wpList_plain hgd fun _ hK => by
    unfold Oper.wp execOp
    have e : (Instr.build 38 (#[] : Array (Nat × Value))).run Try.prog w = .ok (.agg st0.arr) w := buildSt w
    simp only [ho, Array.map_empty, Sem.run_bind, Sem.run_pure, e, Result.andThen_ok]
    exact hK _ _ h
def St.withN (s : St) (n : Int) : St := { s with n := n }
theorem St.arr_n (s : St) (n : Int) : s.arr.setIfInBounds 129 (.int .i64 n) = (s.withN n).arr := by
  apply Array.ext_getElem?
  intro j
  by_cases hj : j < 130
  · rw [(s.withN n).arr_get j hj]
    simp only [Array.getElem?_setIfInBounds, s.arr_size, s.arr_get j hj]
    by_cases e : j = 129
    · subst e; rfl
    · rw [if_neg (by omega)]
      unfold St.cell St.withN
      by_cases h1 : j < 126
      · rw [if_pos h1, if_pos h1]
      · rw [if_neg h1, if_neg h1]
        by_cases h2 : j = 126
        · rw [if_pos h2, if_pos h2]
        · rw [if_neg h2, if_neg h2]
          by_cases h3 : j = 127
          · rw [if_pos h3, if_pos h3]
          · rw [if_neg h3, if_neg h3]
            by_cases h4 : j = 128
            · rw [if_pos h4, if_pos h4]
            · omega
  · rw [Array.getElem?_eq_none (by simp [St.arr_size]; omega), Array.getElem?_eq_none (by rw [St.arr_size]; omega)]
theorem Has.setN {w : World} {b : Nat} {s : St} (h : Has w b s) (n : Int) : Has (w.setCell ⟨b, 129, none⟩ (.int .i64 n)) b (s.withN n) := by
  unfold Has
  rw [← s.arr_n n]
  exact heap_setCell_same _ _ _ _ _ _ h
theorem Has.set_far {w : World} {b : Nat} {s : St} (h : Has w b s) {p : Addr} (n : ¬ b = p.block) (v : Value) : Has (w.setCell p v) b s :=
  Only.has ((Only.refl p.block w).set (.inl rfl) v) h n
theorem results_st2 {fn : Func} {p q : Tmp} (h : fn.results = #[.cell p 38, .tmp q]) (tmps : Array Value) {w : World} {g : Nat} {s : St} {v : Value} (hg : Has w g s) (hp : tmps.getD p undef = .pointer (some ⟨g, 0, none⟩)) (hq : tmps.getD q undef = v) :
    (results fn tmps).run Try.prog w = .ok (.tuple #[.agg s.arr, v]) w := by
  have hp' : tmps[p]?.getD undef = .pointer (some ⟨g, 0, none⟩) := by simpa using hp
  have hq' : tmps[q]?.getD undef = v := by simpa using hq
  simp [results, h, hp', hq', asAddr, whole hg]

set_option maxRecDepth 100000 in
set_option maxHeartbeats 8000000 in
theorem merge_refs (s t : St) (xs ys : List Int) (hn : xs.length = s.z) (hm : ys.length = t.z) (hlen : s.z ≤ maxLen) (hxy : ¬ xs = ys) (w : World) (hx : Ints w s.p xs) (hy : Ints w t.p ys) :
    Calls Try.prog 17 #[.agg s.arr, .agg t.arr] w fun e w' => e = .returned (.tuple #[.agg st0.arr, .int .i64 8]) ∧ Below w.heap.size w w' := by
  have C := fun (w1 : World) (h : Below w.heap.size w w1) => equal_any s.p t.p s.c t.c xs ys s.z t.z false (by simp [hxy]) hn hm w1 hlen (hx.below h) (hy.below h)
  have hz := zeroSt
  have hbs := buildSt
  clear hn hm hlen hx hy hxy
  go_enter Try.func17, Try.ntmps17
  go_upto_region 1 with fail
  refine named (P := fun W => Code.wp _ _ _ _ W) (fun W => Has W w.heap.size s ∧ Has W (w.heap.size + 1) t ∧ Has W (w.heap.size + 1 + 1) st0 ∧ Below w.heap.size w W)
    ⟨((Has.new w s rfl).alloc _).alloc _, (Has.new _ _ (by simp)).alloc _, Has.new _ _ (by simp), below_alloc (below_alloc (below_alloc (Below.refl _ _) _) _) _⟩ ?_
  rintro W ⟨h0, h1, h2, HB⟩
  have H0 := Lib.hid h0
  have H1 := Lib.hid h1
  have H2 := Lib.hid h2
  have HBL := Lib.hid HB
  obtain ⟨r0, r1, r2, r3⟩ := H0.out.rest
  obtain ⟨q0, q1, q2, q3⟩ := H1.out.rest
  clear h0 h1 h2 HB hz
  go_upto_region 2 with (go_at_call 28; refine (C _ HBL.out).mono ?_; rintro e w1 ⟨rfl, hb⟩; have H0 := Lib.hid (Below.has hb H0.out); have H1 := Lib.hid (Below.has hb H1.out); have H2 := Lib.hid (Below.has hb H2.out); have HBL := Lib.hid (below_then HBL.out hb); clear r0 r1 r2 r3 q0 q1 q2 q3 hb; obtain ⟨r0, r1, r2, r3⟩ := H0.out.rest; obtain ⟨q0, q1, q2, q3⟩ := H1.out.rest)
  clear C
  have k2 := Lib.hid (H2.out.setRow st0)
  have HB3 := Lib.hid (below_row HBL.out (c := w.heap.size + 1 + 1) (by omega) st0.arr)
  have h2 := H2.out
  go_wp2_with (first | (refine wpList_buildSt rfl rfl ?_) | (refine wpList_storeSt h2 _ _ st0 rfl rfl rfl rfl ?_))
  exact bodyPost_ret (results_st2 (v := .int .i64 8) Try.results17 _ k2.out rfl rfl) rfl ⟨rfl, HB3.out⟩

set_option maxRecDepth 100000 in
set_option maxHeartbeats 8000000 in
theorem merge_lock1 (s t : St) (xs ys : List Int) (hn : xs.length = s.z) (hm : ys.length = t.z) (hlen : s.z ≤ maxLen) (hxy : xs = ys) (hl : ¬ s.l = t.l) (w : World) (hx : Ints w s.p xs) (hy : Ints w t.p ys) :
    Calls Try.prog 17 #[.agg s.arr, .agg t.arr] w fun e w' => e = .returned (.tuple #[.agg st0.arr, .int .i64 9]) ∧ Below w.heap.size w w' := by
  have C := fun (w1 : World) (h : Below w.heap.size w w1) => equal_any s.p t.p s.c t.c xs ys s.z t.z true (by simp [hxy]) hn hm w1 hlen (hx.below h) (hy.below h)
  have hz := zeroSt
  have hbs := buildSt
  clear hn hm hlen hx hy hxy
  have g1 : (s.l == t.l) = false := by simp [hl]
  have g1' : (s.l != t.l) = true := by simp [hl]
  clear hl
  go_enter Try.func17, Try.ntmps17
  go_upto_region 1 with fail
  refine named (P := fun W => Code.wp _ _ _ _ W) (fun W => Has W w.heap.size s ∧ Has W (w.heap.size + 1) t ∧ Has W (w.heap.size + 1 + 1) st0 ∧ Below w.heap.size w W)
    ⟨((Has.new w s rfl).alloc _).alloc _, (Has.new _ _ (by simp)).alloc _, Has.new _ _ (by simp), below_alloc (below_alloc (below_alloc (Below.refl _ _) _) _) _⟩ ?_
  rintro W ⟨h0, h1, h2, HB⟩
  have H0 := Lib.hid h0
  have H1 := Lib.hid h1
  have H2 := Lib.hid h2
  have HBL := Lib.hid HB
  obtain ⟨r0, r1, r2, r3⟩ := H0.out.rest
  obtain ⟨q0, q1, q2, q3⟩ := H1.out.rest
  clear h0 h1 h2 HB hz
  go_upto_region 3 with (go_at_call 28; refine (C _ HBL.out).mono ?_; rintro e w1 ⟨rfl, hb⟩; have H0 := Lib.hid (Below.has hb H0.out); have H1 := Lib.hid (Below.has hb H1.out); have H2 := Lib.hid (Below.has hb H2.out); have HBL := Lib.hid (below_then HBL.out hb); clear r0 r1 r2 r3 q0 q1 q2 q3 hb; obtain ⟨r0, r1, r2, r3⟩ := H0.out.rest; obtain ⟨q0, q1, q2, q3⟩ := H1.out.rest)
  clear C
  have k2 := Lib.hid (H2.out.setRow st0)
  have HB3 := Lib.hid (below_row HBL.out (c := w.heap.size + 1 + 1) (by omega) st0.arr)
  have h2 := H2.out
  go_wp2_with (first | (refine wpList_buildSt rfl rfl ?_) | (refine wpList_storeSt h2 _ _ st0 rfl rfl rfl rfl ?_))
  exact bodyPost_ret (results_st2 (v := .int .i64 9) Try.results17 _ k2.out rfl rfl) rfl ⟨rfl, HB3.out⟩

set_option maxRecDepth 100000 in
set_option maxHeartbeats 8000000 in
theorem merge_lock2 (s t : St) (xs ys : List Int) (hn : xs.length = s.z) (hm : ys.length = t.z) (hlen : s.z ≤ maxLen) (hxy : xs = ys) (hl : s.l = t.l) (hs : ¬ s.s = t.s) (w : World) (hx : Ints w s.p xs) (hy : Ints w t.p ys) :
    Calls Try.prog 17 #[.agg s.arr, .agg t.arr] w fun e w' => e = .returned (.tuple #[.agg st0.arr, .int .i64 9]) ∧ Below w.heap.size w w' := by
  have C := fun (w1 : World) (h : Below w.heap.size w w1) => equal_any s.p t.p s.c t.c xs ys s.z t.z true (by simp [hxy]) hn hm w1 hlen (hx.below h) (hy.below h)
  have hz := zeroSt
  have hbs := buildSt
  clear hn hm hlen hx hy hxy
  have g1 : (s.l == t.l) = true := by simp [hl]
  have g1' : (s.l != t.l) = false := by simp [hl]
  have g2 : (s.s == t.s) = false := by simp [hs]
  have g2' : (s.s != t.s) = true := by simp [hs]
  clear hl hs
  go_enter Try.func17, Try.ntmps17
  go_upto_region 1 with fail
  refine named (P := fun W => Code.wp _ _ _ _ W) (fun W => Has W w.heap.size s ∧ Has W (w.heap.size + 1) t ∧ Has W (w.heap.size + 1 + 1) st0 ∧ Below w.heap.size w W)
    ⟨((Has.new w s rfl).alloc _).alloc _, (Has.new _ _ (by simp)).alloc _, Has.new _ _ (by simp), below_alloc (below_alloc (below_alloc (Below.refl _ _) _) _) _⟩ ?_
  rintro W ⟨h0, h1, h2, HB⟩
  have H0 := Lib.hid h0
  have H1 := Lib.hid h1
  have H2 := Lib.hid h2
  have HBL := Lib.hid HB
  obtain ⟨r0, r1, r2, r3⟩ := H0.out.rest
  obtain ⟨q0, q1, q2, q3⟩ := H1.out.rest
  clear h0 h1 h2 HB hz
  go_upto_region 3 with (go_at_call 28; refine (C _ HBL.out).mono ?_; rintro e w1 ⟨rfl, hb⟩; have H0 := Lib.hid (Below.has hb H0.out); have H1 := Lib.hid (Below.has hb H1.out); have H2 := Lib.hid (Below.has hb H2.out); have HBL := Lib.hid (below_then HBL.out hb); clear r0 r1 r2 r3 q0 q1 q2 q3 hb; obtain ⟨r0, r1, r2, r3⟩ := H0.out.rest; obtain ⟨q0, q1, q2, q3⟩ := H1.out.rest)
  clear C
  have k2 := Lib.hid (H2.out.setRow st0)
  have HB3 := Lib.hid (below_row HBL.out (c := w.heap.size + 1 + 1) (by omega) st0.arr)
  have h2 := H2.out
  go_wp2_with (first | (refine wpList_buildSt rfl rfl ?_) | (refine wpList_storeSt h2 _ _ st0 rfl rfl rfl rfl ?_))
  exact bodyPost_ret (results_st2 (v := .int .i64 9) Try.results17 _ k2.out rfl rfl) rfl ⟨rfl, HB3.out⟩

set_option maxRecDepth 100000 in
set_option maxHeartbeats 8000000 in
theorem merge_ok (s t : St) (xs ys : List Int) (hn : xs.length = s.z) (hm : ys.length = t.z) (hlen : s.z ≤ maxLen) (hxy : xs = ys) (hl : s.l = t.l) (hs : s.s = t.s) (R : St) (hR : ((s.mrg t 0 10).mrg t 10 8).withN (max s.n t.n) = R) (w : World) (hx : Ints w s.p xs) (hy : Ints w t.p ys) :
    Calls Try.prog 17 #[.agg s.arr, .agg t.arr] w fun e w' => e = .returned (.tuple #[.agg R.arr, .int .i64 0]) ∧ Below w.heap.size w w' := by
  have C := fun (w1 : World) (h : Below w.heap.size w w1) => equal_any s.p t.p s.c t.c xs ys s.z t.z true (by simp [hxy]) hn hm w1 hlen (hx.below h) (hy.below h)
  have hz := zeroSt
  have hbs := buildSt
  have HR := Lib.hid hR
  clear hn hm hlen hx hy hxy hR
  have g1 : (s.l == t.l) = true := by simp [hl]
  have g1' : (s.l != t.l) = false := by simp [hl]
  have g2 : (s.s == t.s) = true := by simp [hs]
  have g2' : (s.s != t.s) = false := by simp [hs]
  clear hl hs
  go_enter Try.func17, Try.ntmps17
  go_upto_region 1 with fail
  refine named (P := fun W => Code.wp _ _ _ _ W) (fun W => Has W w.heap.size s ∧ Has W (w.heap.size + 1) t ∧ Has W (w.heap.size + 1 + 1) st0 ∧ Below w.heap.size w W)
    ⟨((Has.new w s rfl).alloc _).alloc _, (Has.new _ _ (by simp)).alloc _, Has.new _ _ (by simp), below_alloc (below_alloc (below_alloc (Below.refl _ _) _) _) _⟩ ?_
  rintro W ⟨h0, h1, h2, HB⟩
  have H0 := Lib.hid h0
  have H1 := Lib.hid h1
  have H2 := Lib.hid h2
  have HBL := Lib.hid HB
  obtain ⟨r0, r1, r2, r3⟩ := H0.out.rest
  obtain ⟨q0, q1, q2, q3⟩ := H1.out.rest
  clear h0 h1 h2 HB hz
  go_upto_region 5 with (go_at_call 28; refine (C _ HBL.out).mono ?_; rintro e w1 ⟨rfl, hb⟩; have H0 := Lib.hid (Below.has hb H0.out); have H1 := Lib.hid (Below.has hb H1.out); have H2 := Lib.hid (Below.has hb H2.out); have HBL := Lib.hid (below_then HBL.out hb); clear r0 r1 r2 r3 q0 q1 q2 q3 hb; obtain ⟨r0, r1, r2, r3⟩ := H0.out.rest; obtain ⟨q0, q1, q2, q3⟩ := H1.out.rest)
  clear C r0 r1 r2 r3 q0 q1 q2 q3 g1 g2 g1' g2'
  go_wp2
  go_loopw [30] (fun v wr => ∃ j : Nat, j ≤ 10 ∧ v = .int .i64 j ∧ Has wr w.heap.size (s.mrg t 0 j) ∧ Has wr (w.heap.size + 1) t ∧ Has wr (w.heap.size + 1 + 1) st0 ∧ Below w.heap.size w wr) (fun v _ => 10 - (intOf v).toNat)
  case atStart => exact ⟨0, Nat.zero_le _, rfl, by rw [St.mrg_zero]; exact H0.out, H1.out, H2.out, HBL.out⟩
  case round =>
    obtain ⟨j, hj, rfl, h0, h1, h2, hb⟩ := hrel
    have H0 := Lib.hid h0
    have H1 := Lib.hid h1
    have H2 := Lib.hid h2
    have HBL := Lib.hid hb
    clear h0 h1 h2 hb
    by_cases hlt : j < 10
    · have hlt' : (j : Int) < 10 := by omega
      have h0' : (0 : Int) ≤ j := by omega
      have e7 := H0.out.seven (0 + j) (by omega)
      have g7 := H1.out.seven (0 + j) (by omega)
      rw [St.mrg_at, show (0 + j) * 7 = j * 7 from by omega] at e7
      rw [show (0 + j) * 7 = j * 7 from by omega] at g7
      obtain ⟨x, hx⟩ : ∃ x, s.f (0 + j) = x := ⟨_, rfl⟩
      obtain ⟨y, hy⟩ : ∃ y, t.f (0 + j) = y := ⟨_, rfl⟩
      obtain ⟨R, hR⟩ : ∃ R, whJoin x y = R := ⟨_, rfl⟩
      rw [hx] at e7
      rw [hy] at g7
      obtain ⟨c0, c1, c2, c3, c4, c5, c6⟩ := e7
      obtain ⟨d0, d1, d2, d3, d4, d5, d6⟩ := g7
      have CJ := Lib.hid (fun w => kjoin_any x y R hR w)
      have HX := Lib.hid hx
      have HEND := Lib.hid (show ∀ W : World, Has W w.heap.size (s.mrg t 0 j) → Has W (w.heap.size + 1) t → Has W (w.heap.size + 1 + 1) st0 → Below w.heap.size w W → ∃ q : Nat, q ≤ 10 ∧ Value.int .i64 ((j : Int) + 1) = .int .i64 q ∧ Has (set7 W w.heap.size (j * 7) R) w.heap.size (s.mrg t 0 q) ∧ Has (set7 W w.heap.size (j * 7) R) (w.heap.size + 1) t ∧ Has (set7 W w.heap.size (j * 7) R) (w.heap.size + 1 + 1) st0 ∧ Below w.heap.size w (set7 W w.heap.size (j * 7) R) from
        fun W g1 g2 g3 g4 => ⟨j + 1, hlt, by go_num, by rw [St.mrg_succ, hx, hy, hR]; exact g1.put _ _ _ (by omega) (by omega), set7_far g2 (by omega) _ _, set7_far g3 (by omega) _ _, set7_below g4 (Nat.le_refl _) _ _⟩)
      clear hx hy hR
      go_upto_region 8 with fail
      refine wp_region_noPanic ?_
      refine wp_region_held_drew (S := fun _ => True) (by kernel_rfl) trivial (fun hHeld => ?_)
      refine wpAnyH_take (i := 0) (oi := ⟨_, _, _, _, _, _⟩) (v := ?_) rfl (by kernel_rfl) (by kernel_rfl) (by kernel_rfl) (fun _ _ _ h => h) (Or.inl ⟨rfl, ?_⟩) hHeld ?_
      rotate_left
      · (intro w hSw)
        (try dsimp only at hSw)
        (first | (go_simp; done) | (go_simp; with_reducible rfl))
      (try simp only [Act.put, List.setIfInBounds_toArray, List.set_cons_zero, List.set_cons_succ])
      refine wpAnyH_take (i := 1) (oi := ⟨_, _, _, _, _, _⟩) (v := ?_) rfl (by kernel_rfl) (by kernel_rfl) (by kernel_rfl) (fun _ _ _ h => h) (Or.inl ⟨rfl, ?_⟩) hHeld ?_
      rotate_left
      · (intro w hSw)
        (try dsimp only at hSw)
        (first | (go_simp; done) | (go_simp; with_reducible rfl))
      (try simp only [Act.put, List.setIfInBounds_toArray, List.set_cons_zero, List.set_cons_succ])
      refine wpAnyH_take (i := 2) (oi := ⟨_, _, _, _, _, _⟩) (v := ?_) rfl (by kernel_rfl) (by kernel_rfl) (by kernel_rfl) (fun _ _ _ h => h) (Or.inl ⟨rfl, ?_⟩) hHeld ?_
      rotate_left
      · (intro w hSw)
        (try dsimp only at hSw)
        (first | (go_simp; done) | (go_simp; with_reducible rfl))
      (try simp only [Act.put, List.setIfInBounds_toArray, List.set_cons_zero, List.set_cons_succ])
      refine wpAnyH_take (i := 3) (oi := ⟨_, _, _, _, _, _⟩) (v := ?_) rfl (by kernel_rfl) (by kernel_rfl) (by kernel_rfl) (fun _ _ _ h => h) (Or.inl ⟨rfl, ?_⟩) hHeld ?_
      rotate_left
      · (intro w hSw)
        (try dsimp only at hSw)
        (first | (go_simp; done) | (go_simp; with_reducible rfl))
      (try simp only [Act.put, List.setIfInBounds_toArray, List.set_cons_zero, List.set_cons_succ])
      refine wpAnyH_take (i := 5) (oi := ⟨_, _, _, _, _, _⟩) (v := ?_) rfl (by kernel_rfl) (by kernel_rfl) (by kernel_rfl) (fun _ _ _ h => h) (Or.inl ⟨rfl, ?_⟩) hHeld ?_
      rotate_left
      · (intro w hSw)
        (try dsimp only at hSw)
        (first | (go_simp; done) | (go_simp; with_reducible rfl))
      (try simp only [Act.put, List.setIfInBounds_toArray, List.set_cons_zero, List.set_cons_succ])
      refine wpAnyH_take (i := 6) (oi := ⟨_, _, _, _, _, _⟩) (v := ?_) rfl (by kernel_rfl) (by kernel_rfl) (by kernel_rfl) (fun _ _ _ h => h) (Or.inl ⟨rfl, ?_⟩) hHeld ?_
      rotate_left
      · (intro w hSw)
        (try dsimp only at hSw)
        (first | (go_simp; done) | (go_simp; with_reducible rfl))
      (try simp only [Act.put, List.setIfInBounds_toArray, List.set_cons_zero, List.set_cons_succ])
      refine wpAnyH_take (i := 7) (oi := ⟨_, _, _, _, _, _⟩) (v := ?_) rfl (by kernel_rfl) (by kernel_rfl) (by kernel_rfl) (fun _ _ _ h => h) (Or.inl ⟨rfl, ?_⟩) hHeld ?_
      rotate_left
      · (intro w hSw)
        (try dsimp only at hSw)
        (first | (go_simp; done) | (go_simp; with_reducible rfl))
      (try simp only [Act.put, List.setIfInBounds_toArray, List.set_cons_zero, List.set_cons_succ])
      refine wpAnyH_take (i := 10) (oi := ⟨_, _, _, _, _, _⟩) (v := ?_) rfl (by kernel_rfl) (by kernel_rfl) (by kernel_rfl) (fun _ _ _ h => h) (Or.inl ⟨rfl, ?_⟩) hHeld ?_
      rotate_left
      · (intro w hSw)
        (try dsimp only at hSw)
        (first | (go_simp; done) | (go_simp; with_reducible rfl))
      (try simp only [Act.put, List.setIfInBounds_toArray, List.set_cons_zero, List.set_cons_succ])
      refine wpAnyH_ready (rs := [4, 8]) (by kernel_rfl) (by simp) ?_
      refine AllReadyH.cons (o := ⟨_, _, _, _, _, _⟩) rfl (fun K hK => ?_) (AllReadyH.cons (o := ⟨_, _, _, _, _, _⟩) rfl (fun K hK => ?_) AllReadyH.nil)
      · go_simp
        (first | (refine hK.out _ _ trivial (fun hHeld => ?_)) | (go_wp2_with fail; refine hK.out _ _ trivial (fun hHeld => ?_)))
        clear hK K
        (try simp only [Act.put, List.setIfInBounds_toArray, List.set_cons_zero, List.set_cons_succ])
        refine wpAnyH_ready (rs := [8]) (by kernel_rfl) (by simp) ?_
        refine AllReadyH.cons (o := ⟨_, _, _, _, _, _⟩) rfl (fun K hK => ?_) AllReadyH.nil
        go_simp
        (first | (refine hK.out _ _ trivial (fun hHeld => ?_)) | (go_wp2_with fail; refine hK.out _ _ trivial (fun hHeld => ?_)))
        clear hK K
        (try simp only [Act.put, List.setIfInBounds_toArray, List.set_cons_zero, List.set_cons_succ])
        refine wpAnyH_ready (rs := [9]) (by kernel_rfl) (by simp) ?_
        refine AllReadyH.cons (o := ⟨_, _, _, _, _, _⟩) rfl (fun K hK => ?_) AllReadyH.nil
        go_simp
        (refine (CJ.out _).mono ?_; rintro e w5 ⟨rfl, hb⟩)
        have H0 := Lib.hid (Below.has hb (show Has wr.drew _ _ from H0.out))
        have H1 := Lib.hid (Below.has hb (show Has wr.drew _ _ from H1.out))
        have H2 := Lib.hid (Below.has hb (show Has wr.drew _ _ from H2.out))
        have HBL := Lib.hid (below_then (below_drew HBL.out) hb)
        clear hb c0 c1 c2 c3 c4 c5 c6 d0 d1 d2 d3 d4 d5 d6
        (first | (refine hK.out _ _ trivial (fun hHeld => ?_)) | (go_wp2_with fail; refine hK.out _ _ trivial (fun hHeld => ?_)))
        clear hK K
        (try simp only [Act.put, List.setIfInBounds_toArray, List.set_cons_zero, List.set_cons_succ])
        refine wpAnyH_take (i := 11) (oi := ⟨_, _, _, _, _, _⟩) (v := ?_) rfl (by kernel_rfl) (by kernel_rfl) (by kernel_rfl) (fun _ _ _ h => h) (Or.inl ⟨rfl, ?_⟩) hHeld ?_
        rotate_left
        · (intro w hSw)
          (try dsimp only at hSw)
          (first | (go_simp; done) | (go_simp; with_reducible rfl))
        (try simp only [Act.put, List.setIfInBounds_toArray, List.set_cons_zero, List.set_cons_succ])
        obtain ⟨c0, c1, c2, c3, c4, c5, c6⟩ := (show w5.cell? ⟨w.heap.size, j * 7, none⟩ = some (.int .i64 x.k) ∧ w5.cell? ⟨w.heap.size, j * 7 + 1, none⟩ = some (.int .i64 x.t) ∧ w5.cell? ⟨w.heap.size, j * 7 + 2, none⟩ = some (.int .i64 x.i) ∧ w5.cell? ⟨w.heap.size, j * 7 + 3, none⟩ = some (.int .i64 x.l) ∧ w5.cell? ⟨w.heap.size, j * 7 + 4, none⟩ = some (.bool x.m) ∧ w5.cell? ⟨w.heap.size, j * 7 + 5, none⟩ = some (.int .u64 (x.a : Nat)) ∧ w5.cell? ⟨w.heap.size, j * 7 + 6, none⟩ = some (.int .u64 (x.b : Nat)) from by
          have e7 := H0.out.seven (0 + j) (by omega)
          rw [St.mrg_at, show (0 + j) * 7 = j * 7 from by omega, HX.out] at e7
          exact e7)
        have f0 := H0.out.free (j * 7)
        have f1 := H0.out.free (j * 7 + 1)
        have f2 := H0.out.free (j * 7 + 2)
        have f3 := H0.out.free (j * 7 + 3)
        have f4 := H0.out.free (j * 7 + 4)
        have f5 := H0.out.free (j * 7 + 5)
        have f6 := H0.out.free (j * 7 + 6)
        refine wpAnyH_ready (rs := [12]) (by kernel_rfl) (by simp) ?_
        refine AllReadyH.cons (o := ⟨_, _, _, _, _, _⟩) rfl (fun K hK => ?_) AllReadyH.nil
        go_simp
        (first | (refine hK.out _ _ trivial (fun hHeld => ?_)) | (go_wp2_with fail; refine hK.out _ _ trivial (fun hHeld => ?_)))
        clear hK K
        (try simp only [Act.put, List.setIfInBounds_toArray, List.set_cons_zero, List.set_cons_succ])
        refine wpAnyH_done (by kernel_rfl) ?_ _
        refine NoPanic.normal ?_
        go_wp2
        go_roundw
        case rel => first | exact HEND.out w5 H0.out H1.out H2.out HBL.out | ((repeat apply Exists.intro); exact ⟨HEND.out w5 H0.out H1.out H2.out HBL.out, rfl⟩)
        case measure => simp [intOf]; omega
      · go_simp
        (first | (refine hK.out _ _ trivial (fun hHeld => ?_)) | (go_wp2_with fail; refine hK.out _ _ trivial (fun hHeld => ?_)))
        clear hK K
        (try simp only [Act.put, List.setIfInBounds_toArray, List.set_cons_zero, List.set_cons_succ])
        refine wpAnyH_ready (rs := [4]) (by kernel_rfl) (by simp) ?_
        refine AllReadyH.cons (o := ⟨_, _, _, _, _, _⟩) rfl (fun K hK => ?_) AllReadyH.nil
        go_simp
        (first | (refine hK.out _ _ trivial (fun hHeld => ?_)) | (go_wp2_with fail; refine hK.out _ _ trivial (fun hHeld => ?_)))
        clear hK K
        (try simp only [Act.put, List.setIfInBounds_toArray, List.set_cons_zero, List.set_cons_succ])
        refine wpAnyH_ready (rs := [9]) (by kernel_rfl) (by simp) ?_
        refine AllReadyH.cons (o := ⟨_, _, _, _, _, _⟩) rfl (fun K hK => ?_) AllReadyH.nil
        go_simp
        (refine (CJ.out _).mono ?_; rintro e w5 ⟨rfl, hb⟩)
        have H0 := Lib.hid (Below.has hb (show Has wr.drew _ _ from H0.out))
        have H1 := Lib.hid (Below.has hb (show Has wr.drew _ _ from H1.out))
        have H2 := Lib.hid (Below.has hb (show Has wr.drew _ _ from H2.out))
        have HBL := Lib.hid (below_then (below_drew HBL.out) hb)
        clear hb c0 c1 c2 c3 c4 c5 c6 d0 d1 d2 d3 d4 d5 d6
        (first | (refine hK.out _ _ trivial (fun hHeld => ?_)) | (go_wp2_with fail; refine hK.out _ _ trivial (fun hHeld => ?_)))
        clear hK K
        (try simp only [Act.put, List.setIfInBounds_toArray, List.set_cons_zero, List.set_cons_succ])
        refine wpAnyH_take (i := 11) (oi := ⟨_, _, _, _, _, _⟩) (v := ?_) rfl (by kernel_rfl) (by kernel_rfl) (by kernel_rfl) (fun _ _ _ h => h) (Or.inl ⟨rfl, ?_⟩) hHeld ?_
        rotate_left
        · (intro w hSw)
          (try dsimp only at hSw)
          (first | (go_simp; done) | (go_simp; with_reducible rfl))
        (try simp only [Act.put, List.setIfInBounds_toArray, List.set_cons_zero, List.set_cons_succ])
        obtain ⟨c0, c1, c2, c3, c4, c5, c6⟩ := (show w5.cell? ⟨w.heap.size, j * 7, none⟩ = some (.int .i64 x.k) ∧ w5.cell? ⟨w.heap.size, j * 7 + 1, none⟩ = some (.int .i64 x.t) ∧ w5.cell? ⟨w.heap.size, j * 7 + 2, none⟩ = some (.int .i64 x.i) ∧ w5.cell? ⟨w.heap.size, j * 7 + 3, none⟩ = some (.int .i64 x.l) ∧ w5.cell? ⟨w.heap.size, j * 7 + 4, none⟩ = some (.bool x.m) ∧ w5.cell? ⟨w.heap.size, j * 7 + 5, none⟩ = some (.int .u64 (x.a : Nat)) ∧ w5.cell? ⟨w.heap.size, j * 7 + 6, none⟩ = some (.int .u64 (x.b : Nat)) from by
          have e7 := H0.out.seven (0 + j) (by omega)
          rw [St.mrg_at, show (0 + j) * 7 = j * 7 from by omega, HX.out] at e7
          exact e7)
        have f0 := H0.out.free (j * 7)
        have f1 := H0.out.free (j * 7 + 1)
        have f2 := H0.out.free (j * 7 + 2)
        have f3 := H0.out.free (j * 7 + 3)
        have f4 := H0.out.free (j * 7 + 4)
        have f5 := H0.out.free (j * 7 + 5)
        have f6 := H0.out.free (j * 7 + 6)
        refine wpAnyH_ready (rs := [12]) (by kernel_rfl) (by simp) ?_
        refine AllReadyH.cons (o := ⟨_, _, _, _, _, _⟩) rfl (fun K hK => ?_) AllReadyH.nil
        go_simp
        (first | (refine hK.out _ _ trivial (fun hHeld => ?_)) | (go_wp2_with fail; refine hK.out _ _ trivial (fun hHeld => ?_)))
        clear hK K
        (try simp only [Act.put, List.setIfInBounds_toArray, List.set_cons_zero, List.set_cons_succ])
        refine wpAnyH_done (by kernel_rfl) ?_ _
        refine NoPanic.normal ?_
        go_wp2
        go_roundw
        case rel => first | exact HEND.out w5 H0.out H1.out H2.out HBL.out | ((repeat apply Exists.intro); exact ⟨HEND.out w5 H0.out H1.out H2.out HBL.out, rfl⟩)
        case measure => simp [intOf]; omega
    · have : j = 10 := by omega
      subst this
      clear hlt hj
      go_wp2
      go_loopw [46] (fun v wr => ∃ j : Nat, j ≤ 8 ∧ v = .int .i64 j ∧ Has wr w.heap.size ((s.mrg t 0 10).mrg t 10 j) ∧ Has wr (w.heap.size + 1) t ∧ Has wr (w.heap.size + 1 + 1) st0 ∧ Below w.heap.size w wr) (fun v _ => 8 - (intOf v).toNat)
      case atStart => exact ⟨0, Nat.zero_le _, rfl, by rw [St.mrg_zero]; exact H0.out, H1.out, H2.out, HBL.out⟩
      case round =>
        obtain ⟨j, hj, rfl, h0, h1, h2, hb⟩ := hrel
        have H0 := Lib.hid h0
        have H1 := Lib.hid h1
        have H2 := Lib.hid h2
        have HBL := Lib.hid hb
        clear h0 h1 h2 hb
        by_cases hlt : j < 8
        · have hlt' : (j : Int) < 8 := by omega
          have h0' : (0 : Int) ≤ j := by omega
          have e7 := H0.out.seven (10 + j) (by omega)
          have g7 := H1.out.seven (10 + j) (by omega)
          rw [St.mrg_at, show (10 + j) * 7 = 70 + j * 7 from by omega] at e7
          rw [show (10 + j) * 7 = 70 + j * 7 from by omega] at g7
          obtain ⟨x, hx⟩ : ∃ x, (s.mrg t 0 10).f (10 + j) = x := ⟨_, rfl⟩
          obtain ⟨y, hy⟩ : ∃ y, t.f (10 + j) = y := ⟨_, rfl⟩
          obtain ⟨R, hR⟩ : ∃ R, whJoin x y = R := ⟨_, rfl⟩
          rw [hx] at e7
          rw [hy] at g7
          obtain ⟨c0, c1, c2, c3, c4, c5, c6⟩ := e7
          obtain ⟨d0, d1, d2, d3, d4, d5, d6⟩ := g7
          have CJ := Lib.hid (fun w => kjoin_any x y R hR w)
          have HX := Lib.hid hx
          have HEND := Lib.hid (show ∀ W : World, Has W w.heap.size ((s.mrg t 0 10).mrg t 10 j) → Has W (w.heap.size + 1) t → Has W (w.heap.size + 1 + 1) st0 → Below w.heap.size w W → ∃ q : Nat, q ≤ 8 ∧ Value.int .i64 ((j : Int) + 1) = .int .i64 q ∧ Has (set7 W w.heap.size (70 + j * 7) R) w.heap.size ((s.mrg t 0 10).mrg t 10 q) ∧ Has (set7 W w.heap.size (70 + j * 7) R) (w.heap.size + 1) t ∧ Has (set7 W w.heap.size (70 + j * 7) R) (w.heap.size + 1 + 1) st0 ∧ Below w.heap.size w (set7 W w.heap.size (70 + j * 7) R) from
            fun W g1 g2 g3 g4 => ⟨j + 1, hlt, by go_num, by rw [St.mrg_succ, hx, hy, hR]; exact g1.put _ _ _ (by omega) (by omega), set7_far g2 (by omega) _ _, set7_far g3 (by omega) _ _, set7_below g4 (Nat.le_refl _) _ _⟩)
          clear hx hy hR
          go_upto_region 13 with fail
          refine wp_region_noPanic ?_
          refine wp_region_held_drew (S := fun _ => True) (by kernel_rfl) trivial (fun hHeld => ?_)
          refine wpAnyH_take (i := 0) (oi := ⟨_, _, _, _, _, _⟩) (v := ?_) rfl (by kernel_rfl) (by kernel_rfl) (by kernel_rfl) (fun _ _ _ h => h) (Or.inl ⟨rfl, ?_⟩) hHeld ?_
          rotate_left
          · (intro w hSw)
            (try dsimp only at hSw)
            (first | (go_simp; done) | (go_simp; with_reducible rfl))
          (try simp only [Act.put, List.setIfInBounds_toArray, List.set_cons_zero, List.set_cons_succ])
          refine wpAnyH_take (i := 1) (oi := ⟨_, _, _, _, _, _⟩) (v := ?_) rfl (by kernel_rfl) (by kernel_rfl) (by kernel_rfl) (fun _ _ _ h => h) (Or.inl ⟨rfl, ?_⟩) hHeld ?_
          rotate_left
          · (intro w hSw)
            (try dsimp only at hSw)
            (first | (go_simp; done) | (go_simp; with_reducible rfl))
          (try simp only [Act.put, List.setIfInBounds_toArray, List.set_cons_zero, List.set_cons_succ])
          refine wpAnyH_take (i := 2) (oi := ⟨_, _, _, _, _, _⟩) (v := ?_) rfl (by kernel_rfl) (by kernel_rfl) (by kernel_rfl) (fun _ _ _ h => h) (Or.inl ⟨rfl, ?_⟩) hHeld ?_
          rotate_left
          · (intro w hSw)
            (try dsimp only at hSw)
            (first | (go_simp; done) | (go_simp; with_reducible rfl))
          (try simp only [Act.put, List.setIfInBounds_toArray, List.set_cons_zero, List.set_cons_succ])
          refine wpAnyH_take (i := 3) (oi := ⟨_, _, _, _, _, _⟩) (v := ?_) rfl (by kernel_rfl) (by kernel_rfl) (by kernel_rfl) (fun _ _ _ h => h) (Or.inl ⟨rfl, ?_⟩) hHeld ?_
          rotate_left
          · (intro w hSw)
            (try dsimp only at hSw)
            (first | (go_simp; done) | (go_simp; with_reducible rfl))
          (try simp only [Act.put, List.setIfInBounds_toArray, List.set_cons_zero, List.set_cons_succ])
          refine wpAnyH_take (i := 5) (oi := ⟨_, _, _, _, _, _⟩) (v := ?_) rfl (by kernel_rfl) (by kernel_rfl) (by kernel_rfl) (fun _ _ _ h => h) (Or.inl ⟨rfl, ?_⟩) hHeld ?_
          rotate_left
          · (intro w hSw)
            (try dsimp only at hSw)
            (first | (go_simp; done) | (go_simp; with_reducible rfl))
          (try simp only [Act.put, List.setIfInBounds_toArray, List.set_cons_zero, List.set_cons_succ])
          refine wpAnyH_take (i := 6) (oi := ⟨_, _, _, _, _, _⟩) (v := ?_) rfl (by kernel_rfl) (by kernel_rfl) (by kernel_rfl) (fun _ _ _ h => h) (Or.inl ⟨rfl, ?_⟩) hHeld ?_
          rotate_left
          · (intro w hSw)
            (try dsimp only at hSw)
            (first | (go_simp; done) | (go_simp; with_reducible rfl))
          (try simp only [Act.put, List.setIfInBounds_toArray, List.set_cons_zero, List.set_cons_succ])
          refine wpAnyH_take (i := 7) (oi := ⟨_, _, _, _, _, _⟩) (v := ?_) rfl (by kernel_rfl) (by kernel_rfl) (by kernel_rfl) (fun _ _ _ h => h) (Or.inl ⟨rfl, ?_⟩) hHeld ?_
          rotate_left
          · (intro w hSw)
            (try dsimp only at hSw)
            (first | (go_simp; done) | (go_simp; with_reducible rfl))
          (try simp only [Act.put, List.setIfInBounds_toArray, List.set_cons_zero, List.set_cons_succ])
          refine wpAnyH_take (i := 10) (oi := ⟨_, _, _, _, _, _⟩) (v := ?_) rfl (by kernel_rfl) (by kernel_rfl) (by kernel_rfl) (fun _ _ _ h => h) (Or.inl ⟨rfl, ?_⟩) hHeld ?_
          rotate_left
          · (intro w hSw)
            (try dsimp only at hSw)
            (first | (go_simp; done) | (go_simp; with_reducible rfl))
          (try simp only [Act.put, List.setIfInBounds_toArray, List.set_cons_zero, List.set_cons_succ])
          refine wpAnyH_ready (rs := [4, 8]) (by kernel_rfl) (by simp) ?_
          refine AllReadyH.cons (o := ⟨_, _, _, _, _, _⟩) rfl (fun K hK => ?_) (AllReadyH.cons (o := ⟨_, _, _, _, _, _⟩) rfl (fun K hK => ?_) AllReadyH.nil)
          · go_simp
            (first | (refine hK.out _ _ trivial (fun hHeld => ?_)) | (go_wp2_with fail; refine hK.out _ _ trivial (fun hHeld => ?_)))
            clear hK K
            (try simp only [Act.put, List.setIfInBounds_toArray, List.set_cons_zero, List.set_cons_succ])
            refine wpAnyH_ready (rs := [8]) (by kernel_rfl) (by simp) ?_
            refine AllReadyH.cons (o := ⟨_, _, _, _, _, _⟩) rfl (fun K hK => ?_) AllReadyH.nil
            go_simp
            (first | (refine hK.out _ _ trivial (fun hHeld => ?_)) | (go_wp2_with fail; refine hK.out _ _ trivial (fun hHeld => ?_)))
            clear hK K
            (try simp only [Act.put, List.setIfInBounds_toArray, List.set_cons_zero, List.set_cons_succ])
            refine wpAnyH_ready (rs := [9]) (by kernel_rfl) (by simp) ?_
            refine AllReadyH.cons (o := ⟨_, _, _, _, _, _⟩) rfl (fun K hK => ?_) AllReadyH.nil
            go_simp
            (refine (CJ.out _).mono ?_; rintro e w5 ⟨rfl, hb⟩)
            have H0 := Lib.hid (Below.has hb (show Has wr.drew _ _ from H0.out))
            have H1 := Lib.hid (Below.has hb (show Has wr.drew _ _ from H1.out))
            have H2 := Lib.hid (Below.has hb (show Has wr.drew _ _ from H2.out))
            have HBL := Lib.hid (below_then (below_drew HBL.out) hb)
            clear hb c0 c1 c2 c3 c4 c5 c6 d0 d1 d2 d3 d4 d5 d6
            (first | (refine hK.out _ _ trivial (fun hHeld => ?_)) | (go_wp2_with fail; refine hK.out _ _ trivial (fun hHeld => ?_)))
            clear hK K
            (try simp only [Act.put, List.setIfInBounds_toArray, List.set_cons_zero, List.set_cons_succ])
            refine wpAnyH_take (i := 11) (oi := ⟨_, _, _, _, _, _⟩) (v := ?_) rfl (by kernel_rfl) (by kernel_rfl) (by kernel_rfl) (fun _ _ _ h => h) (Or.inl ⟨rfl, ?_⟩) hHeld ?_
            rotate_left
            · (intro w hSw)
              (try dsimp only at hSw)
              (first | (go_simp; done) | (go_simp; with_reducible rfl))
            (try simp only [Act.put, List.setIfInBounds_toArray, List.set_cons_zero, List.set_cons_succ])
            obtain ⟨c0, c1, c2, c3, c4, c5, c6⟩ := (show w5.cell? ⟨w.heap.size, 70 + j * 7, none⟩ = some (.int .i64 x.k) ∧ w5.cell? ⟨w.heap.size, 70 + j * 7 + 1, none⟩ = some (.int .i64 x.t) ∧ w5.cell? ⟨w.heap.size, 70 + j * 7 + 2, none⟩ = some (.int .i64 x.i) ∧ w5.cell? ⟨w.heap.size, 70 + j * 7 + 3, none⟩ = some (.int .i64 x.l) ∧ w5.cell? ⟨w.heap.size, 70 + j * 7 + 4, none⟩ = some (.bool x.m) ∧ w5.cell? ⟨w.heap.size, 70 + j * 7 + 5, none⟩ = some (.int .u64 (x.a : Nat)) ∧ w5.cell? ⟨w.heap.size, 70 + j * 7 + 6, none⟩ = some (.int .u64 (x.b : Nat)) from by
              have e7 := H0.out.seven (10 + j) (by omega)
              rw [St.mrg_at, show (10 + j) * 7 = 70 + j * 7 from by omega, HX.out] at e7
              exact e7)
            have f0 := H0.out.free (70 + j * 7)
            have f1 := H0.out.free (70 + j * 7 + 1)
            have f2 := H0.out.free (70 + j * 7 + 2)
            have f3 := H0.out.free (70 + j * 7 + 3)
            have f4 := H0.out.free (70 + j * 7 + 4)
            have f5 := H0.out.free (70 + j * 7 + 5)
            have f6 := H0.out.free (70 + j * 7 + 6)
            refine wpAnyH_ready (rs := [12]) (by kernel_rfl) (by simp) ?_
            refine AllReadyH.cons (o := ⟨_, _, _, _, _, _⟩) rfl (fun K hK => ?_) AllReadyH.nil
            go_simp
            (first | (refine hK.out _ _ trivial (fun hHeld => ?_)) | (go_wp2_with fail; refine hK.out _ _ trivial (fun hHeld => ?_)))
            clear hK K
            (try simp only [Act.put, List.setIfInBounds_toArray, List.set_cons_zero, List.set_cons_succ])
            refine wpAnyH_done (by kernel_rfl) ?_ _
            refine NoPanic.normal ?_
            go_wp2
            go_roundw
            case rel => first | exact HEND.out w5 H0.out H1.out H2.out HBL.out | ((repeat apply Exists.intro); exact ⟨HEND.out w5 H0.out H1.out H2.out HBL.out, rfl⟩)
            case measure => simp [intOf]; omega
          · go_simp
            (first | (refine hK.out _ _ trivial (fun hHeld => ?_)) | (go_wp2_with fail; refine hK.out _ _ trivial (fun hHeld => ?_)))
            clear hK K
            (try simp only [Act.put, List.setIfInBounds_toArray, List.set_cons_zero, List.set_cons_succ])
            refine wpAnyH_ready (rs := [4]) (by kernel_rfl) (by simp) ?_
            refine AllReadyH.cons (o := ⟨_, _, _, _, _, _⟩) rfl (fun K hK => ?_) AllReadyH.nil
            go_simp
            (first | (refine hK.out _ _ trivial (fun hHeld => ?_)) | (go_wp2_with fail; refine hK.out _ _ trivial (fun hHeld => ?_)))
            clear hK K
            (try simp only [Act.put, List.setIfInBounds_toArray, List.set_cons_zero, List.set_cons_succ])
            refine wpAnyH_ready (rs := [9]) (by kernel_rfl) (by simp) ?_
            refine AllReadyH.cons (o := ⟨_, _, _, _, _, _⟩) rfl (fun K hK => ?_) AllReadyH.nil
            go_simp
            (refine (CJ.out _).mono ?_; rintro e w5 ⟨rfl, hb⟩)
            have H0 := Lib.hid (Below.has hb (show Has wr.drew _ _ from H0.out))
            have H1 := Lib.hid (Below.has hb (show Has wr.drew _ _ from H1.out))
            have H2 := Lib.hid (Below.has hb (show Has wr.drew _ _ from H2.out))
            have HBL := Lib.hid (below_then (below_drew HBL.out) hb)
            clear hb c0 c1 c2 c3 c4 c5 c6 d0 d1 d2 d3 d4 d5 d6
            (first | (refine hK.out _ _ trivial (fun hHeld => ?_)) | (go_wp2_with fail; refine hK.out _ _ trivial (fun hHeld => ?_)))
            clear hK K
            (try simp only [Act.put, List.setIfInBounds_toArray, List.set_cons_zero, List.set_cons_succ])
            refine wpAnyH_take (i := 11) (oi := ⟨_, _, _, _, _, _⟩) (v := ?_) rfl (by kernel_rfl) (by kernel_rfl) (by kernel_rfl) (fun _ _ _ h => h) (Or.inl ⟨rfl, ?_⟩) hHeld ?_
            rotate_left
            · (intro w hSw)
              (try dsimp only at hSw)
              (first | (go_simp; done) | (go_simp; with_reducible rfl))
            (try simp only [Act.put, List.setIfInBounds_toArray, List.set_cons_zero, List.set_cons_succ])
            obtain ⟨c0, c1, c2, c3, c4, c5, c6⟩ := (show w5.cell? ⟨w.heap.size, 70 + j * 7, none⟩ = some (.int .i64 x.k) ∧ w5.cell? ⟨w.heap.size, 70 + j * 7 + 1, none⟩ = some (.int .i64 x.t) ∧ w5.cell? ⟨w.heap.size, 70 + j * 7 + 2, none⟩ = some (.int .i64 x.i) ∧ w5.cell? ⟨w.heap.size, 70 + j * 7 + 3, none⟩ = some (.int .i64 x.l) ∧ w5.cell? ⟨w.heap.size, 70 + j * 7 + 4, none⟩ = some (.bool x.m) ∧ w5.cell? ⟨w.heap.size, 70 + j * 7 + 5, none⟩ = some (.int .u64 (x.a : Nat)) ∧ w5.cell? ⟨w.heap.size, 70 + j * 7 + 6, none⟩ = some (.int .u64 (x.b : Nat)) from by
              have e7 := H0.out.seven (10 + j) (by omega)
              rw [St.mrg_at, show (10 + j) * 7 = 70 + j * 7 from by omega, HX.out] at e7
              exact e7)
            have f0 := H0.out.free (70 + j * 7)
            have f1 := H0.out.free (70 + j * 7 + 1)
            have f2 := H0.out.free (70 + j * 7 + 2)
            have f3 := H0.out.free (70 + j * 7 + 3)
            have f4 := H0.out.free (70 + j * 7 + 4)
            have f5 := H0.out.free (70 + j * 7 + 5)
            have f6 := H0.out.free (70 + j * 7 + 6)
            refine wpAnyH_ready (rs := [12]) (by kernel_rfl) (by simp) ?_
            refine AllReadyH.cons (o := ⟨_, _, _, _, _, _⟩) rfl (fun K hK => ?_) AllReadyH.nil
            go_simp
            (first | (refine hK.out _ _ trivial (fun hHeld => ?_)) | (go_wp2_with fail; refine hK.out _ _ trivial (fun hHeld => ?_)))
            clear hK K
            (try simp only [Act.put, List.setIfInBounds_toArray, List.set_cons_zero, List.set_cons_succ])
            refine wpAnyH_done (by kernel_rfl) ?_ _
            refine NoPanic.normal ?_
            go_wp2
            go_roundw
            case rel => first | exact HEND.out w5 H0.out H1.out H2.out HBL.out | ((repeat apply Exists.intro); exact ⟨HEND.out w5 H0.out H1.out H2.out HBL.out, rfl⟩)
            case measure => simp [intOf]; omega
        · have : j = 8 := by omega
          subst this
          clear hlt hj
          obtain ⟨r0, r1, r2, r3⟩ := H0.out.rest
          obtain ⟨q0, q1, q2, q3⟩ := H1.out.rest
          have f9 := H0.out.free 129
          have h0 := H0.out
          have h2 := H2.out
          clear f9
          have f9 := h0.free 129
          have HRS := Lib.hid ((h0.setN (max s.n t.n)))
          have h2 := h2.set_far (p := ⟨w.heap.size, 129, none⟩) (by simp; omega) (.int .i64 (max s.n t.n))
          have HB4 := below_set HBL.out (p := ⟨w.heap.size, 129, none⟩) (Nat.le_refl _) (.int .i64 (max s.n t.n))
          have h0 := h0.setN (max s.n t.n)
          rw [HR.out] at h0
          have HB3 := Lib.hid (below_row HB4 (c := w.heap.size + 1 + 1) (by omega) R.arr)
          have k4 := Lib.hid (h2.setRow R)
          clear HB4
          go_wp2_with (first | (refine wpList_loadSt h0 _ rfl rfl rfl ?_) | (refine wpList_storeSt h2 _ _ R rfl rfl rfl rfl ?_))
          exact bodyPost_ret (results_st2 (v := .int .i64 0) Try.results17 _ k4.out rfl rfl) rfl ⟨rfl, HB3.out⟩

end Go.Proofs.Ytglfmcgpbenckaa
