/- The walk of turnbuckleref17.Merge. -/
import Derived.Test.YtglfmcgpbenckaaStateMore
import Derived.Test.YtglfmcgpbenckaaRKind2
namespace Go.Proofs.Ytglfmcgpbenckaa
open Go.RowKit
set_option linter.unusedVariables false
set_option linter.unusedSimpArgs false
theorem St.mrg_out (s t : St) (lo cnt i : Nat) (h : ¬ (lo ≤ i ∧ i < lo + cnt)) : (s.mrg t lo cnt).f i = s.f i := by
  unfold St.mrg; dsimp only; rw [if_neg h]

set_option maxRecDepth 100000 in
set_option maxHeartbeats 8000000 in
theorem rmerge_refs (s t : St) (xs ys : List Int) (hn : xs.length = s.z) (hm : ys.length = t.z) (hlen : s.z ≤ maxLen) (hxy : ¬ xs = ys) (w : World) (hx : Ints w s.p xs) (hy : Ints w t.p ys) :
    Calls Try.prog 19 #[.agg s.arr, .agg t.arr] w fun e w' => e = .returned (.tuple #[.agg st0.arr, .int .i64 8]) ∧ Below w.heap.size w w' := by
  have C := fun (w1 : World) (h : Below w.heap.size w w1) => refs_any s.p t.p s.c t.c xs ys s.z t.z false (by simp [hxy]) hn hm w1 hlen (hx.below h) (hy.below h)
  have hz := zeroSt
  have hbs := buildSt
  clear hn hm hlen hx hy hxy
  go_enter Try.func19, Try.ntmps19
  go_upto_region 1 with fail
  refine named (P := fun W => Code.wp _ _ _ _ W) (fun W => Has W w.heap.size s ∧ Has W (w.heap.size + 1) t ∧ Has W (w.heap.size + 1 + 1) st0 ∧ Below w.heap.size w W)
    ⟨((Has.new w s rfl).alloc _).alloc _, (Has.new _ _ (by simp)).alloc _, Has.new _ _ (by simp), below_alloc (below_alloc (below_alloc (Below.refl _ _) _) _) _⟩ ?_
  rintro W ⟨h0, h1, h2, HB⟩
  have H0 := Lib.hid h0
  have H1 := Lib.hid h1
  have H2 := Lib.hid h2
  have HBL := Lib.hid HB
  obtain ⟨r0, r1, r2, r3⟩ := H0.out.rest
  obtain ⟨q0, q1, q2, q3⟩ := H1.out.rest
  clear h0 h1 h2 HB hz
  go_upto_region 2 with (go_at_call 18; refine (C _ HBL.out).mono ?_; rintro e w1 ⟨rfl, hb⟩; have H0 := Lib.hid (Below.has hb H0.out); have H1 := Lib.hid (Below.has hb H1.out); have H2 := Lib.hid (Below.has hb H2.out); have HBL := Lib.hid (below_then HBL.out hb); clear r0 r1 r2 r3 q0 q1 q2 q3 hb; obtain ⟨r0, r1, r2, r3⟩ := H0.out.rest; obtain ⟨q0, q1, q2, q3⟩ := H1.out.rest)
  clear C
  have k2 := Lib.hid (H2.out.setRow st0)
  have HB3 := Lib.hid (below_row HBL.out (c := w.heap.size + 1 + 1) (by omega) st0.arr)
  have h2 := H2.out
  go_wp2_with (first | (refine wpList_buildSt rfl rfl ?_) | (refine wpList_storeSt h2 _ _ st0 rfl rfl rfl rfl ?_))
  exact bodyPost_ret (results_st2 (v := .int .i64 8) Try.results19 _ k2.out rfl rfl) rfl ⟨rfl, HB3.out⟩

set_option maxRecDepth 100000 in
set_option maxHeartbeats 8000000 in
theorem rmerge_lock1 (s t : St) (xs ys : List Int) (hn : xs.length = s.z) (hm : ys.length = t.z) (hlen : s.z ≤ maxLen) (hxy : xs = ys) (hl : ¬ s.l = t.l) (w : World) (hx : Ints w s.p xs) (hy : Ints w t.p ys) :
    Calls Try.prog 19 #[.agg s.arr, .agg t.arr] w fun e w' => e = .returned (.tuple #[.agg st0.arr, .int .i64 9]) ∧ Below w.heap.size w w' := by
  have C := fun (w1 : World) (h : Below w.heap.size w w1) => refs_any s.p t.p s.c t.c xs ys s.z t.z true (by simp [hxy]) hn hm w1 hlen (hx.below h) (hy.below h)
  have hz := zeroSt
  have hbs := buildSt
  clear hn hm hlen hx hy hxy
  have g1 : (s.l == t.l) = false := by simp [hl]
  have g1' : (s.l != t.l) = true := by simp [hl]
  clear hl
  go_enter Try.func19, Try.ntmps19
  go_upto_region 1 with fail
  refine named (P := fun W => Code.wp _ _ _ _ W) (fun W => Has W w.heap.size s ∧ Has W (w.heap.size + 1) t ∧ Has W (w.heap.size + 1 + 1) st0 ∧ Below w.heap.size w W)
    ⟨((Has.new w s rfl).alloc _).alloc _, (Has.new _ _ (by simp)).alloc _, Has.new _ _ (by simp), below_alloc (below_alloc (below_alloc (Below.refl _ _) _) _) _⟩ ?_
  rintro W ⟨h0, h1, h2, HB⟩
  have H0 := Lib.hid h0
  have H1 := Lib.hid h1
  have H2 := Lib.hid h2
  have HBL := Lib.hid HB
  obtain ⟨r0, r1, r2, r3⟩ := H0.out.rest
  obtain ⟨q0, q1, q2, q3⟩ := H1.out.rest
  clear h0 h1 h2 HB hz
  go_upto_region 3 with (go_at_call 18; refine (C _ HBL.out).mono ?_; rintro e w1 ⟨rfl, hb⟩; have H0 := Lib.hid (Below.has hb H0.out); have H1 := Lib.hid (Below.has hb H1.out); have H2 := Lib.hid (Below.has hb H2.out); have HBL := Lib.hid (below_then HBL.out hb); clear r0 r1 r2 r3 q0 q1 q2 q3 hb; obtain ⟨r0, r1, r2, r3⟩ := H0.out.rest; obtain ⟨q0, q1, q2, q3⟩ := H1.out.rest)
  clear C
  have k2 := Lib.hid (H2.out.setRow st0)
  have HB3 := Lib.hid (below_row HBL.out (c := w.heap.size + 1 + 1) (by omega) st0.arr)
  have h2 := H2.out
  go_wp2_with (first | (refine wpList_buildSt rfl rfl ?_) | (refine wpList_storeSt h2 _ _ st0 rfl rfl rfl rfl ?_))
  exact bodyPost_ret (results_st2 (v := .int .i64 9) Try.results19 _ k2.out rfl rfl) rfl ⟨rfl, HB3.out⟩

set_option maxRecDepth 100000 in
set_option maxHeartbeats 8000000 in
theorem rmerge_lock2 (s t : St) (xs ys : List Int) (hn : xs.length = s.z) (hm : ys.length = t.z) (hlen : s.z ≤ maxLen) (hxy : xs = ys) (hl : s.l = t.l) (hs : ¬ s.s = t.s) (w : World) (hx : Ints w s.p xs) (hy : Ints w t.p ys) :
    Calls Try.prog 19 #[.agg s.arr, .agg t.arr] w fun e w' => e = .returned (.tuple #[.agg st0.arr, .int .i64 9]) ∧ Below w.heap.size w w' := by
  have C := fun (w1 : World) (h : Below w.heap.size w w1) => refs_any s.p t.p s.c t.c xs ys s.z t.z true (by simp [hxy]) hn hm w1 hlen (hx.below h) (hy.below h)
  have hz := zeroSt
  have hbs := buildSt
  clear hn hm hlen hx hy hxy
  have g1 : (s.l == t.l) = true := by simp [hl]
  have g1' : (s.l != t.l) = false := by simp [hl]
  have g2 : (s.s == t.s) = false := by simp [hs]
  have g2' : (s.s != t.s) = true := by simp [hs]
  clear hl hs
  go_enter Try.func19, Try.ntmps19
  go_upto_region 1 with fail
  refine named (P := fun W => Code.wp _ _ _ _ W) (fun W => Has W w.heap.size s ∧ Has W (w.heap.size + 1) t ∧ Has W (w.heap.size + 1 + 1) st0 ∧ Below w.heap.size w W)
    ⟨((Has.new w s rfl).alloc _).alloc _, (Has.new _ _ (by simp)).alloc _, Has.new _ _ (by simp), below_alloc (below_alloc (below_alloc (Below.refl _ _) _) _) _⟩ ?_
  rintro W ⟨h0, h1, h2, HB⟩
  have H0 := Lib.hid h0
  have H1 := Lib.hid h1
  have H2 := Lib.hid h2
  have HBL := Lib.hid HB
  obtain ⟨r0, r1, r2, r3⟩ := H0.out.rest
  obtain ⟨q0, q1, q2, q3⟩ := H1.out.rest
  clear h0 h1 h2 HB hz
  go_upto_region 3 with (go_at_call 18; refine (C _ HBL.out).mono ?_; rintro e w1 ⟨rfl, hb⟩; have H0 := Lib.hid (Below.has hb H0.out); have H1 := Lib.hid (Below.has hb H1.out); have H2 := Lib.hid (Below.has hb H2.out); have HBL := Lib.hid (below_then HBL.out hb); clear r0 r1 r2 r3 q0 q1 q2 q3 hb; obtain ⟨r0, r1, r2, r3⟩ := H0.out.rest; obtain ⟨q0, q1, q2, q3⟩ := H1.out.rest)
  clear C
  have k2 := Lib.hid (H2.out.setRow st0)
  have HB3 := Lib.hid (below_row HBL.out (c := w.heap.size + 1 + 1) (by omega) st0.arr)
  have h2 := H2.out
  go_wp2_with (first | (refine wpList_buildSt rfl rfl ?_) | (refine wpList_storeSt h2 _ _ st0 rfl rfl rfl rfl ?_))
  exact bodyPost_ret (results_st2 (v := .int .i64 9) Try.results19 _ k2.out rfl rfl) rfl ⟨rfl, HB3.out⟩

set_option maxRecDepth 100000 in
set_option maxHeartbeats 8000000 in
theorem rmerge_ok (s t : St) (xs ys : List Int) (hn : xs.length = s.z) (hm : ys.length = t.z) (hlen : s.z ≤ maxLen) (hxy : xs = ys) (hl : s.l = t.l) (hs : s.s = t.s) (R : St) (hR : ((s.mrg t 0 10).mrg t 10 8).withN (max s.n t.n) = R) (w : World) (hx : Ints w s.p xs) (hy : Ints w t.p ys) :
    Calls Try.prog 19 #[.agg s.arr, .agg t.arr] w fun e w' => e = .returned (.tuple #[.agg R.arr, .int .i64 0]) ∧ Below w.heap.size w w' := by
  have C := fun (w1 : World) (h : Below w.heap.size w w1) => refs_any s.p t.p s.c t.c xs ys s.z t.z true (by simp [hxy]) hn hm w1 hlen (hx.below h) (hy.below h)
  have hz := zeroSt
  have HR := Lib.hid hR
  clear hn hm hlen hx hy hxy hR
  have g1 : (s.l == t.l) = true := by simp [hl]
  have g1' : (s.l != t.l) = false := by simp [hl]
  have g2 : (s.s == t.s) = true := by simp [hs]
  have g2' : (s.s != t.s) = false := by simp [hs]
  clear hl hs
  go_enter Try.func19, Try.ntmps19
  go_upto_region 1 with fail
  refine named (P := fun W => Code.wp _ _ _ _ W) (fun W => Has W w.heap.size s ∧ Has W (w.heap.size + 1) t ∧ Has W (w.heap.size + 1 + 1) st0 ∧ Below w.heap.size w W)
    ⟨((Has.new w s rfl).alloc _).alloc _, (Has.new _ _ (by simp)).alloc _, Has.new _ _ (by simp), below_alloc (below_alloc (below_alloc (Below.refl _ _) _) _) _⟩ ?_
  rintro W ⟨h0, h1, h2, HB⟩
  have H0 := Lib.hid h0
  have H1 := Lib.hid h1
  have H2 := Lib.hid h2
  have HBL := Lib.hid HB
  obtain ⟨r0, r1, r2, r3⟩ := H0.out.rest
  obtain ⟨q0, q1, q2, q3⟩ := H1.out.rest
  clear h0 h1 h2 HB
  go_upto_region 5 with (go_at_call 18; refine (C _ HBL.out).mono ?_; rintro e w1 ⟨rfl, hb⟩; have H0 := Lib.hid (Below.has hb H0.out); have H1 := Lib.hid (Below.has hb H1.out); have H2 := Lib.hid (Below.has hb H2.out); have HBL := Lib.hid (below_then HBL.out hb); clear r0 r1 r2 r3 q0 q1 q2 q3 hb; obtain ⟨r0, r1, r2, r3⟩ := H0.out.rest; obtain ⟨q0, q1, q2, q3⟩ := H1.out.rest)
  clear C r0 r1 r2 r3 q0 q1 q2 q3 g1 g2 g1' g2'
  have hbO : w.heap.size + 1 + 1 < w1.heap.size := H2.out.lt
  have h0 := H0.out
  go_upto_region 6 with (first | (refine wpList_loadSt h0 _ rfl rfl rfl ?_) | (refine wpList_storeSt (Has.new w1 st0 rfl) _ _ s rfl rfl rfl rfl ?_))
  clear h0 hz
  refine named (P := fun W => Code.wp _ _ _ _ W) (fun W => Has W w.heap.size s ∧ Has W (w.heap.size + 1) t ∧ Has W (w.heap.size + 1 + 1) st0 ∧ Has W (w1.heap.size) s ∧ Below w.heap.size w W) ⟨(H0.out.alloc _).setRow_far (by omega) _, (H1.out.alloc _).setRow_far (by omega) _, (H2.out.alloc _).setRow_far (by omega) _, (Has.new w1 st0 rfl).setRow s, below_row (below_alloc HBL.out _) (by omega) _⟩ ?_
  rintro W6 ⟨h0, h1, h2, h3, hb⟩
  have H0 := Lib.hid h0
  have H1 := Lib.hid h1
  have H2 := Lib.hid h2
  have H3 := Lib.hid h3
  have HBL := Lib.hid hb
  clear h0 h1 h2 h3 hb
  generalize w1.heap.size = bO at *
  go_wp2
  go_loopw [7] (fun v wr => ∃ j : Nat, j ≤ 10 ∧ v = .int .i64 j ∧ Has wr w.heap.size s ∧ Has wr (w.heap.size + 1) t ∧ Has wr (w.heap.size + 1 + 1) st0 ∧ Has wr (bO) (s.mrg t 0 j) ∧ Below w.heap.size w wr) (fun v _ => 10 - (intOf v).toNat)
  case atStart => exact ⟨0, Nat.zero_le _, rfl, H0.out, H1.out, H2.out, by rw [St.mrg_zero]; exact H3.out, HBL.out⟩
  case round =>
    obtain ⟨j, hj, rfl, h0, h1, h2, h3, hb⟩ := hrel
    have H0 := Lib.hid h0
    have H1 := Lib.hid h1
    have H2 := Lib.hid h2
    have H3 := Lib.hid h3
    have HBL := Lib.hid hb
    clear h0 h1 h2 h3 hb
    by_cases hlt : j < 10
    · have hlt' : (j : Int) < 10 := by omega
      have h0' : (0 : Int) ≤ j := by omega
      have e7 := H0.out.seven (0 + j) (by omega)
      have g7 := H1.out.seven (0 + j) (by omega)
      rw [show (0 + j) * 7 = j * 7 from by omega] at e7 g7
      obtain ⟨x, hx⟩ : ∃ x, s.f (0 + j) = x := ⟨_, rfl⟩
      obtain ⟨y, hy⟩ : ∃ y, t.f (0 + j) = y := ⟨_, rfl⟩
      obtain ⟨R, hR⟩ : ∃ R, whJoin x y = R := ⟨_, rfl⟩
      rw [hx] at e7
      rw [hy] at g7
      obtain ⟨c0, c1, c2, c3, c4, c5, c6⟩ := e7
      obtain ⟨d0, d1, d2, d3, d4, d5, d6⟩ := g7
      have CJ := Lib.hid (fun w => rkjoin_any x y R hR w)
      have hx0 : s.f (0 + j) = x := hx
      have HEND := Lib.hid (show ∀ W : World, Has W w.heap.size s → Has W (w.heap.size + 1) t → Has W (w.heap.size + 1 + 1) st0 → Has W (bO) (s.mrg t 0 j) → Below w.heap.size w W → ∃ q : Nat, q ≤ 10 ∧ Value.int .i64 ((j : Int) + 1) = .int .i64 q ∧ Has (set7 W (bO) (j * 7) R) w.heap.size s ∧ Has (set7 W (bO) (j * 7) R) (w.heap.size + 1) t ∧ Has (set7 W (bO) (j * 7) R) (w.heap.size + 1 + 1) st0 ∧ Has (set7 W (bO) (j * 7) R) (bO) (s.mrg t 0 q) ∧ Below w.heap.size w (set7 W (bO) (j * 7) R) from
        fun W g0 g1 g2 g3 g4 => ⟨j + 1, hlt, by go_num, set7_far g0 (by omega) _ _, set7_far g1 (by omega) _ _, set7_far g2 (by omega) _ _, by rw [St.mrg_succ, hx0, hy, hR]; exact g3.put _ _ _ (by omega) (by omega), set7_below g4 (by omega) _ _⟩)
      clear hx hy hR hx0
      go_upto_region 9 with fail
      refine wp_region_noPanic ?_
      refine wp_region_held_drew (S := fun _ => True) (by kernel_rfl) trivial (fun hHeld => ?_)
      refine wpAnyH_take (i := 0) (oi := ⟨_, _, _, _, _, _⟩) (v := ?_) rfl (by kernel_rfl) (by kernel_rfl) (by kernel_rfl) (fun _ _ _ h => h) (Or.inl ⟨rfl, ?_⟩) hHeld ?_
      rotate_left
      · (intro w hSw)
        (try dsimp only at hSw)
        (first | (go_simp; done) | (go_simp; with_reducible rfl))
      (try simp only [Act.put, List.setIfInBounds_toArray, List.set_cons_zero, List.set_cons_succ])
      refine wpAnyH_take (i := 1) (oi := ⟨_, _, _, _, _, _⟩) (v := ?_) rfl (by kernel_rfl) (by kernel_rfl) (by kernel_rfl) (fun _ _ _ h => h) (Or.inl ⟨rfl, ?_⟩) hHeld ?_
      rotate_left
      · (intro w hSw)
        (try dsimp only at hSw)
        (first | (go_simp; done) | (go_simp; with_reducible rfl))
      (try simp only [Act.put, List.setIfInBounds_toArray, List.set_cons_zero, List.set_cons_succ])
      refine wpAnyH_take (i := 2) (oi := ⟨_, _, _, _, _, _⟩) (v := ?_) rfl (by kernel_rfl) (by kernel_rfl) (by kernel_rfl) (fun _ _ _ h => h) (Or.inl ⟨rfl, ?_⟩) hHeld ?_
      rotate_left
      · (intro w hSw)
        (try dsimp only at hSw)
        (first | (go_simp; done) | (go_simp; with_reducible rfl))
      (try simp only [Act.put, List.setIfInBounds_toArray, List.set_cons_zero, List.set_cons_succ])
      refine wpAnyH_take (i := 3) (oi := ⟨_, _, _, _, _, _⟩) (v := ?_) rfl (by kernel_rfl) (by kernel_rfl) (by kernel_rfl) (fun _ _ _ h => h) (Or.inl ⟨rfl, ?_⟩) hHeld ?_
      rotate_left
      · (intro w hSw)
        (try dsimp only at hSw)
        (first | (go_simp; done) | (go_simp; with_reducible rfl))
      (try simp only [Act.put, List.setIfInBounds_toArray, List.set_cons_zero, List.set_cons_succ])
      refine wpAnyH_take (i := 5) (oi := ⟨_, _, _, _, _, _⟩) (v := ?_) rfl (by kernel_rfl) (by kernel_rfl) (by kernel_rfl) (fun _ _ _ h => h) (Or.inl ⟨rfl, ?_⟩) hHeld ?_
      rotate_left
      · (intro w hSw)
        (try dsimp only at hSw)
        (first | (go_simp; done) | (go_simp; with_reducible rfl))
      (try simp only [Act.put, List.setIfInBounds_toArray, List.set_cons_zero, List.set_cons_succ])
      refine wpAnyH_take (i := 6) (oi := ⟨_, _, _, _, _, _⟩) (v := ?_) rfl (by kernel_rfl) (by kernel_rfl) (by kernel_rfl) (fun _ _ _ h => h) (Or.inl ⟨rfl, ?_⟩) hHeld ?_
      rotate_left
      · (intro w hSw)
        (try dsimp only at hSw)
        (first | (go_simp; done) | (go_simp; with_reducible rfl))
      (try simp only [Act.put, List.setIfInBounds_toArray, List.set_cons_zero, List.set_cons_succ])
      refine wpAnyH_take (i := 7) (oi := ⟨_, _, _, _, _, _⟩) (v := ?_) rfl (by kernel_rfl) (by kernel_rfl) (by kernel_rfl) (fun _ _ _ h => h) (Or.inl ⟨rfl, ?_⟩) hHeld ?_
      rotate_left
      · (intro w hSw)
        (try dsimp only at hSw)
        (first | (go_simp; done) | (go_simp; with_reducible rfl))
      (try simp only [Act.put, List.setIfInBounds_toArray, List.set_cons_zero, List.set_cons_succ])
      refine wpAnyH_take (i := 10) (oi := ⟨_, _, _, _, _, _⟩) (v := ?_) rfl (by kernel_rfl) (by kernel_rfl) (by kernel_rfl) (fun _ _ _ h => h) (Or.inl ⟨rfl, ?_⟩) hHeld ?_
      rotate_left
      · (intro w hSw)
        (try dsimp only at hSw)
        (first | (go_simp; done) | (go_simp; with_reducible rfl))
      (try simp only [Act.put, List.setIfInBounds_toArray, List.set_cons_zero, List.set_cons_succ])
      refine wpAnyH_ready (rs := [4, 8]) (by kernel_rfl) (by simp) ?_
      refine AllReadyH.cons (o := ⟨_, _, _, _, _, _⟩) rfl (fun K hK => ?_) (AllReadyH.cons (o := ⟨_, _, _, _, _, _⟩) rfl (fun K hK => ?_) AllReadyH.nil)
      · go_simp
        (first | (refine hK.out _ _ trivial (fun hHeld => ?_)) | (go_wp2_with fail; refine hK.out _ _ trivial (fun hHeld => ?_)))
        clear hK K
        (try simp only [Act.put, List.setIfInBounds_toArray, List.set_cons_zero, List.set_cons_succ])
        refine wpAnyH_ready (rs := [8]) (by kernel_rfl) (by simp) ?_
        refine AllReadyH.cons (o := ⟨_, _, _, _, _, _⟩) rfl (fun K hK => ?_) AllReadyH.nil
        go_simp
        (first | (refine hK.out _ _ trivial (fun hHeld => ?_)) | (go_wp2_with fail; refine hK.out _ _ trivial (fun hHeld => ?_)))
        clear hK K
        (try simp only [Act.put, List.setIfInBounds_toArray, List.set_cons_zero, List.set_cons_succ])
        refine wpAnyH_ready (rs := [9]) (by kernel_rfl) (by simp) ?_
        refine AllReadyH.cons (o := ⟨_, _, _, _, _, _⟩) rfl (fun K hK => ?_) AllReadyH.nil
        go_simp
        (refine (CJ.out _).mono ?_; rintro e w5 ⟨rfl, hb⟩)
        have H0 := Lib.hid (Below.has hb (show Has wr.drew _ _ from H0.out))
        have H1 := Lib.hid (Below.has hb (show Has wr.drew _ _ from H1.out))
        have H2 := Lib.hid (Below.has hb (show Has wr.drew _ _ from H2.out))
        have H3 := Lib.hid (Below.has hb (show Has wr.drew _ _ from H3.out))
        have HBL := Lib.hid (below_then (below_drew HBL.out) hb)
        clear hb c0 c1 c2 c3 c4 c5 c6 d0 d1 d2 d3 d4 d5 d6
        (first | (refine hK.out _ _ trivial (fun hHeld => ?_)) | (go_wp2_with fail; refine hK.out _ _ trivial (fun hHeld => ?_)))
        clear hK K
        (try simp only [Act.put, List.setIfInBounds_toArray, List.set_cons_zero, List.set_cons_succ])
        refine wpAnyH_take (i := 11) (oi := ⟨_, _, _, _, _, _⟩) (v := ?_) rfl (by kernel_rfl) (by kernel_rfl) (by kernel_rfl) (fun _ _ _ h => h) (Or.inl ⟨rfl, ?_⟩) hHeld ?_
        rotate_left
        · (intro w hSw)
          (try dsimp only at hSw)
          (first | (go_simp; done) | (go_simp; with_reducible rfl))
        (try simp only [Act.put, List.setIfInBounds_toArray, List.set_cons_zero, List.set_cons_succ])
        have g7 := H3.out.seven (0 + j) (by omega)
        rw [show (0 + j) * 7 = j * 7 from by omega] at g7
        obtain ⟨c0, c1, c2, c3, c4, c5, c6⟩ := g7
        have f0 := H3.out.free (j * 7)
        have f1 := H3.out.free (j * 7 + 1)
        have f2 := H3.out.free (j * 7 + 2)
        have f3 := H3.out.free (j * 7 + 3)
        have f4 := H3.out.free (j * 7 + 4)
        have f5 := H3.out.free (j * 7 + 5)
        have f6 := H3.out.free (j * 7 + 6)
        refine wpAnyH_ready (rs := [12]) (by kernel_rfl) (by simp) ?_
        refine AllReadyH.cons (o := ⟨_, _, _, _, _, _⟩) rfl (fun K hK => ?_) AllReadyH.nil
        go_simp
        (first | (refine hK.out _ _ trivial (fun hHeld => ?_)) | (go_wp2_with fail; refine hK.out _ _ trivial (fun hHeld => ?_)))
        clear hK K
        (try simp only [Act.put, List.setIfInBounds_toArray, List.set_cons_zero, List.set_cons_succ])
        refine wpAnyH_done (by kernel_rfl) ?_ _
        refine NoPanic.normal ?_
        go_wp2
        go_roundw
        case rel => first | exact HEND.out w5 H0.out H1.out H2.out H3.out HBL.out | ((repeat apply Exists.intro); exact ⟨HEND.out w5 H0.out H1.out H2.out H3.out HBL.out, rfl⟩)
        case measure => simp [intOf]; omega
      · go_simp
        (first | (refine hK.out _ _ trivial (fun hHeld => ?_)) | (go_wp2_with fail; refine hK.out _ _ trivial (fun hHeld => ?_)))
        clear hK K
        (try simp only [Act.put, List.setIfInBounds_toArray, List.set_cons_zero, List.set_cons_succ])
        refine wpAnyH_ready (rs := [4]) (by kernel_rfl) (by simp) ?_
        refine AllReadyH.cons (o := ⟨_, _, _, _, _, _⟩) rfl (fun K hK => ?_) AllReadyH.nil
        go_simp
        (first | (refine hK.out _ _ trivial (fun hHeld => ?_)) | (go_wp2_with fail; refine hK.out _ _ trivial (fun hHeld => ?_)))
        clear hK K
        (try simp only [Act.put, List.setIfInBounds_toArray, List.set_cons_zero, List.set_cons_succ])
        refine wpAnyH_ready (rs := [9]) (by kernel_rfl) (by simp) ?_
        refine AllReadyH.cons (o := ⟨_, _, _, _, _, _⟩) rfl (fun K hK => ?_) AllReadyH.nil
        go_simp
        (refine (CJ.out _).mono ?_; rintro e w5 ⟨rfl, hb⟩)
        have H0 := Lib.hid (Below.has hb (show Has wr.drew _ _ from H0.out))
        have H1 := Lib.hid (Below.has hb (show Has wr.drew _ _ from H1.out))
        have H2 := Lib.hid (Below.has hb (show Has wr.drew _ _ from H2.out))
        have H3 := Lib.hid (Below.has hb (show Has wr.drew _ _ from H3.out))
        have HBL := Lib.hid (below_then (below_drew HBL.out) hb)
        clear hb c0 c1 c2 c3 c4 c5 c6 d0 d1 d2 d3 d4 d5 d6
        (first | (refine hK.out _ _ trivial (fun hHeld => ?_)) | (go_wp2_with fail; refine hK.out _ _ trivial (fun hHeld => ?_)))
        clear hK K
        (try simp only [Act.put, List.setIfInBounds_toArray, List.set_cons_zero, List.set_cons_succ])
        refine wpAnyH_take (i := 11) (oi := ⟨_, _, _, _, _, _⟩) (v := ?_) rfl (by kernel_rfl) (by kernel_rfl) (by kernel_rfl) (fun _ _ _ h => h) (Or.inl ⟨rfl, ?_⟩) hHeld ?_
        rotate_left
        · (intro w hSw)
          (try dsimp only at hSw)
          (first | (go_simp; done) | (go_simp; with_reducible rfl))
        (try simp only [Act.put, List.setIfInBounds_toArray, List.set_cons_zero, List.set_cons_succ])
        have g7 := H3.out.seven (0 + j) (by omega)
        rw [show (0 + j) * 7 = j * 7 from by omega] at g7
        obtain ⟨c0, c1, c2, c3, c4, c5, c6⟩ := g7
        have f0 := H3.out.free (j * 7)
        have f1 := H3.out.free (j * 7 + 1)
        have f2 := H3.out.free (j * 7 + 2)
        have f3 := H3.out.free (j * 7 + 3)
        have f4 := H3.out.free (j * 7 + 4)
        have f5 := H3.out.free (j * 7 + 5)
        have f6 := H3.out.free (j * 7 + 6)
        refine wpAnyH_ready (rs := [12]) (by kernel_rfl) (by simp) ?_
        refine AllReadyH.cons (o := ⟨_, _, _, _, _, _⟩) rfl (fun K hK => ?_) AllReadyH.nil
        go_simp
        (first | (refine hK.out _ _ trivial (fun hHeld => ?_)) | (go_wp2_with fail; refine hK.out _ _ trivial (fun hHeld => ?_)))
        clear hK K
        (try simp only [Act.put, List.setIfInBounds_toArray, List.set_cons_zero, List.set_cons_succ])
        refine wpAnyH_done (by kernel_rfl) ?_ _
        refine NoPanic.normal ?_
        go_wp2
        go_roundw
        case rel => first | exact HEND.out w5 H0.out H1.out H2.out H3.out HBL.out | ((repeat apply Exists.intro); exact ⟨HEND.out w5 H0.out H1.out H2.out H3.out HBL.out, rfl⟩)
        case measure => simp [intOf]; omega
    · have : j = 10 := by omega
      subst this
      clear hlt hj
      go_wp2
      go_loopw [8] (fun v wr => ∃ j : Nat, j ≤ 8 ∧ v = .int .i64 j ∧ Has wr w.heap.size s ∧ Has wr (w.heap.size + 1) t ∧ Has wr (w.heap.size + 1 + 1) st0 ∧ Has wr (bO) ((s.mrg t 0 10).mrg t 10 j) ∧ Below w.heap.size w wr) (fun v _ => 8 - (intOf v).toNat)
      case atStart => exact ⟨0, Nat.zero_le _, rfl, H0.out, H1.out, H2.out, by rw [St.mrg_zero]; exact H3.out, HBL.out⟩
      case round =>
        obtain ⟨j, hj, rfl, h0, h1, h2, h3, hb⟩ := hrel
        have H0 := Lib.hid h0
        have H1 := Lib.hid h1
        have H2 := Lib.hid h2
        have H3 := Lib.hid h3
        have HBL := Lib.hid hb
        clear h0 h1 h2 h3 hb
        by_cases hlt : j < 8
        · have hlt' : (j : Int) < 8 := by omega
          have h0' : (0 : Int) ≤ j := by omega
          have e7 := H0.out.seven (10 + j) (by omega)
          have g7 := H1.out.seven (10 + j) (by omega)
          rw [show (10 + j) * 7 = 70 + j * 7 from by omega] at e7 g7
          obtain ⟨x, hx⟩ : ∃ x, s.f (10 + j) = x := ⟨_, rfl⟩
          obtain ⟨y, hy⟩ : ∃ y, t.f (10 + j) = y := ⟨_, rfl⟩
          obtain ⟨R, hR⟩ : ∃ R, whJoin x y = R := ⟨_, rfl⟩
          rw [hx] at e7
          rw [hy] at g7
          obtain ⟨c0, c1, c2, c3, c4, c5, c6⟩ := e7
          obtain ⟨d0, d1, d2, d3, d4, d5, d6⟩ := g7
          have CJ := Lib.hid (fun w => rkjoin_any x y R hR w)
          have hx0 : (s.mrg t 0 10).f (10 + j) = x := by rw [← hx]; exact St.mrg_out s t 0 10 _ (by omega)
          have HEND := Lib.hid (show ∀ W : World, Has W w.heap.size s → Has W (w.heap.size + 1) t → Has W (w.heap.size + 1 + 1) st0 → Has W (bO) ((s.mrg t 0 10).mrg t 10 j) → Below w.heap.size w W → ∃ q : Nat, q ≤ 8 ∧ Value.int .i64 ((j : Int) + 1) = .int .i64 q ∧ Has (set7 W (bO) (70 + j * 7) R) w.heap.size s ∧ Has (set7 W (bO) (70 + j * 7) R) (w.heap.size + 1) t ∧ Has (set7 W (bO) (70 + j * 7) R) (w.heap.size + 1 + 1) st0 ∧ Has (set7 W (bO) (70 + j * 7) R) (bO) ((s.mrg t 0 10).mrg t 10 q) ∧ Below w.heap.size w (set7 W (bO) (70 + j * 7) R) from
            fun W g0 g1 g2 g3 g4 => ⟨j + 1, hlt, by go_num, set7_far g0 (by omega) _ _, set7_far g1 (by omega) _ _, set7_far g2 (by omega) _ _, by rw [St.mrg_succ, hx0, hy, hR]; exact g3.put _ _ _ (by omega) (by omega), set7_below g4 (by omega) _ _⟩)
          clear hx hy hR hx0
          go_upto_region 13 with fail
          refine wp_region_noPanic ?_
          refine wp_region_held_drew (S := fun _ => True) (by kernel_rfl) trivial (fun hHeld => ?_)
          refine wpAnyH_take (i := 0) (oi := ⟨_, _, _, _, _, _⟩) (v := ?_) rfl (by kernel_rfl) (by kernel_rfl) (by kernel_rfl) (fun _ _ _ h => h) (Or.inl ⟨rfl, ?_⟩) hHeld ?_
          rotate_left
          · (intro w hSw)
            (try dsimp only at hSw)
            (first | (go_simp; done) | (go_simp; with_reducible rfl))
          (try simp only [Act.put, List.setIfInBounds_toArray, List.set_cons_zero, List.set_cons_succ])
          refine wpAnyH_take (i := 1) (oi := ⟨_, _, _, _, _, _⟩) (v := ?_) rfl (by kernel_rfl) (by kernel_rfl) (by kernel_rfl) (fun _ _ _ h => h) (Or.inl ⟨rfl, ?_⟩) hHeld ?_
          rotate_left
          · (intro w hSw)
            (try dsimp only at hSw)
            (first | (go_simp; done) | (go_simp; with_reducible rfl))
          (try simp only [Act.put, List.setIfInBounds_toArray, List.set_cons_zero, List.set_cons_succ])
          refine wpAnyH_take (i := 2) (oi := ⟨_, _, _, _, _, _⟩) (v := ?_) rfl (by kernel_rfl) (by kernel_rfl) (by kernel_rfl) (fun _ _ _ h => h) (Or.inl ⟨rfl, ?_⟩) hHeld ?_
          rotate_left
          · (intro w hSw)
            (try dsimp only at hSw)
            (first | (go_simp; done) | (go_simp; with_reducible rfl))
          (try simp only [Act.put, List.setIfInBounds_toArray, List.set_cons_zero, List.set_cons_succ])
          refine wpAnyH_take (i := 3) (oi := ⟨_, _, _, _, _, _⟩) (v := ?_) rfl (by kernel_rfl) (by kernel_rfl) (by kernel_rfl) (fun _ _ _ h => h) (Or.inl ⟨rfl, ?_⟩) hHeld ?_
          rotate_left
          · (intro w hSw)
            (try dsimp only at hSw)
            (first | (go_simp; done) | (go_simp; with_reducible rfl))
          (try simp only [Act.put, List.setIfInBounds_toArray, List.set_cons_zero, List.set_cons_succ])
          refine wpAnyH_take (i := 5) (oi := ⟨_, _, _, _, _, _⟩) (v := ?_) rfl (by kernel_rfl) (by kernel_rfl) (by kernel_rfl) (fun _ _ _ h => h) (Or.inl ⟨rfl, ?_⟩) hHeld ?_
          rotate_left
          · (intro w hSw)
            (try dsimp only at hSw)
            (first | (go_simp; done) | (go_simp; with_reducible rfl))
          (try simp only [Act.put, List.setIfInBounds_toArray, List.set_cons_zero, List.set_cons_succ])
          refine wpAnyH_take (i := 6) (oi := ⟨_, _, _, _, _, _⟩) (v := ?_) rfl (by kernel_rfl) (by kernel_rfl) (by kernel_rfl) (fun _ _ _ h => h) (Or.inl ⟨rfl, ?_⟩) hHeld ?_
          rotate_left
          · (intro w hSw)
            (try dsimp only at hSw)
            (first | (go_simp; done) | (go_simp; with_reducible rfl))
          (try simp only [Act.put, List.setIfInBounds_toArray, List.set_cons_zero, List.set_cons_succ])
          refine wpAnyH_take (i := 7) (oi := ⟨_, _, _, _, _, _⟩) (v := ?_) rfl (by kernel_rfl) (by kernel_rfl) (by kernel_rfl) (fun _ _ _ h => h) (Or.inl ⟨rfl, ?_⟩) hHeld ?_
          rotate_left
          · (intro w hSw)
            (try dsimp only at hSw)
            (first | (go_simp; done) | (go_simp; with_reducible rfl))
          (try simp only [Act.put, List.setIfInBounds_toArray, List.set_cons_zero, List.set_cons_succ])
          refine wpAnyH_take (i := 10) (oi := ⟨_, _, _, _, _, _⟩) (v := ?_) rfl (by kernel_rfl) (by kernel_rfl) (by kernel_rfl) (fun _ _ _ h => h) (Or.inl ⟨rfl, ?_⟩) hHeld ?_
          rotate_left
          · (intro w hSw)
            (try dsimp only at hSw)
            (first | (go_simp; done) | (go_simp; with_reducible rfl))
          (try simp only [Act.put, List.setIfInBounds_toArray, List.set_cons_zero, List.set_cons_succ])
          refine wpAnyH_ready (rs := [4, 8]) (by kernel_rfl) (by simp) ?_
          refine AllReadyH.cons (o := ⟨_, _, _, _, _, _⟩) rfl (fun K hK => ?_) (AllReadyH.cons (o := ⟨_, _, _, _, _, _⟩) rfl (fun K hK => ?_) AllReadyH.nil)
          · go_simp
            (first | (refine hK.out _ _ trivial (fun hHeld => ?_)) | (go_wp2_with fail; refine hK.out _ _ trivial (fun hHeld => ?_)))
            clear hK K
            (try simp only [Act.put, List.setIfInBounds_toArray, List.set_cons_zero, List.set_cons_succ])
            refine wpAnyH_ready (rs := [8]) (by kernel_rfl) (by simp) ?_
            refine AllReadyH.cons (o := ⟨_, _, _, _, _, _⟩) rfl (fun K hK => ?_) AllReadyH.nil
            go_simp
            (first | (refine hK.out _ _ trivial (fun hHeld => ?_)) | (go_wp2_with fail; refine hK.out _ _ trivial (fun hHeld => ?_)))
            clear hK K
            (try simp only [Act.put, List.setIfInBounds_toArray, List.set_cons_zero, List.set_cons_succ])
            refine wpAnyH_ready (rs := [9]) (by kernel_rfl) (by simp) ?_
            refine AllReadyH.cons (o := ⟨_, _, _, _, _, _⟩) rfl (fun K hK => ?_) AllReadyH.nil
            go_simp
            (refine (CJ.out _).mono ?_; rintro e w5 ⟨rfl, hb⟩)
            have H0 := Lib.hid (Below.has hb (show Has wr.drew _ _ from H0.out))
            have H1 := Lib.hid (Below.has hb (show Has wr.drew _ _ from H1.out))
            have H2 := Lib.hid (Below.has hb (show Has wr.drew _ _ from H2.out))
            have H3 := Lib.hid (Below.has hb (show Has wr.drew _ _ from H3.out))
            have HBL := Lib.hid (below_then (below_drew HBL.out) hb)
            clear hb c0 c1 c2 c3 c4 c5 c6 d0 d1 d2 d3 d4 d5 d6
            (first | (refine hK.out _ _ trivial (fun hHeld => ?_)) | (go_wp2_with fail; refine hK.out _ _ trivial (fun hHeld => ?_)))
            clear hK K
            (try simp only [Act.put, List.setIfInBounds_toArray, List.set_cons_zero, List.set_cons_succ])
            refine wpAnyH_take (i := 11) (oi := ⟨_, _, _, _, _, _⟩) (v := ?_) rfl (by kernel_rfl) (by kernel_rfl) (by kernel_rfl) (fun _ _ _ h => h) (Or.inl ⟨rfl, ?_⟩) hHeld ?_
            rotate_left
            · (intro w hSw)
              (try dsimp only at hSw)
              (first | (go_simp; done) | (go_simp; with_reducible rfl))
            (try simp only [Act.put, List.setIfInBounds_toArray, List.set_cons_zero, List.set_cons_succ])
            have g7 := H3.out.seven (10 + j) (by omega)
            rw [show (10 + j) * 7 = 70 + j * 7 from by omega] at g7
            obtain ⟨c0, c1, c2, c3, c4, c5, c6⟩ := g7
            have f0 := H3.out.free (70 + j * 7)
            have f1 := H3.out.free (70 + j * 7 + 1)
            have f2 := H3.out.free (70 + j * 7 + 2)
            have f3 := H3.out.free (70 + j * 7 + 3)
            have f4 := H3.out.free (70 + j * 7 + 4)
            have f5 := H3.out.free (70 + j * 7 + 5)
            have f6 := H3.out.free (70 + j * 7 + 6)
            refine wpAnyH_ready (rs := [12]) (by kernel_rfl) (by simp) ?_
            refine AllReadyH.cons (o := ⟨_, _, _, _, _, _⟩) rfl (fun K hK => ?_) AllReadyH.nil
            go_simp
            (first | (refine hK.out _ _ trivial (fun hHeld => ?_)) | (go_wp2_with fail; refine hK.out _ _ trivial (fun hHeld => ?_)))
            clear hK K
            (try simp only [Act.put, List.setIfInBounds_toArray, List.set_cons_zero, List.set_cons_succ])
            refine wpAnyH_done (by kernel_rfl) ?_ _
            refine NoPanic.normal ?_
            go_wp2
            go_roundw
            case rel => first | exact HEND.out w5 H0.out H1.out H2.out H3.out HBL.out | ((repeat apply Exists.intro); exact ⟨HEND.out w5 H0.out H1.out H2.out H3.out HBL.out, rfl⟩)
            case measure => simp [intOf]; omega
          · go_simp
            (first | (refine hK.out _ _ trivial (fun hHeld => ?_)) | (go_wp2_with fail; refine hK.out _ _ trivial (fun hHeld => ?_)))
            clear hK K
            (try simp only [Act.put, List.setIfInBounds_toArray, List.set_cons_zero, List.set_cons_succ])
            refine wpAnyH_ready (rs := [4]) (by kernel_rfl) (by simp) ?_
            refine AllReadyH.cons (o := ⟨_, _, _, _, _, _⟩) rfl (fun K hK => ?_) AllReadyH.nil
            go_simp
            (first | (refine hK.out _ _ trivial (fun hHeld => ?_)) | (go_wp2_with fail; refine hK.out _ _ trivial (fun hHeld => ?_)))
            clear hK K
            (try simp only [Act.put, List.setIfInBounds_toArray, List.set_cons_zero, List.set_cons_succ])
            refine wpAnyH_ready (rs := [9]) (by kernel_rfl) (by simp) ?_
            refine AllReadyH.cons (o := ⟨_, _, _, _, _, _⟩) rfl (fun K hK => ?_) AllReadyH.nil
            go_simp
            (refine (CJ.out _).mono ?_; rintro e w5 ⟨rfl, hb⟩)
            have H0 := Lib.hid (Below.has hb (show Has wr.drew _ _ from H0.out))
            have H1 := Lib.hid (Below.has hb (show Has wr.drew _ _ from H1.out))
            have H2 := Lib.hid (Below.has hb (show Has wr.drew _ _ from H2.out))
            have H3 := Lib.hid (Below.has hb (show Has wr.drew _ _ from H3.out))
            have HBL := Lib.hid (below_then (below_drew HBL.out) hb)
            clear hb c0 c1 c2 c3 c4 c5 c6 d0 d1 d2 d3 d4 d5 d6
            (first | (refine hK.out _ _ trivial (fun hHeld => ?_)) | (go_wp2_with fail; refine hK.out _ _ trivial (fun hHeld => ?_)))
            clear hK K
            (try simp only [Act.put, List.setIfInBounds_toArray, List.set_cons_zero, List.set_cons_succ])
            refine wpAnyH_take (i := 11) (oi := ⟨_, _, _, _, _, _⟩) (v := ?_) rfl (by kernel_rfl) (by kernel_rfl) (by kernel_rfl) (fun _ _ _ h => h) (Or.inl ⟨rfl, ?_⟩) hHeld ?_
            rotate_left
            · (intro w hSw)
              (try dsimp only at hSw)
              (first | (go_simp; done) | (go_simp; with_reducible rfl))
            (try simp only [Act.put, List.setIfInBounds_toArray, List.set_cons_zero, List.set_cons_succ])
            have g7 := H3.out.seven (10 + j) (by omega)
            rw [show (10 + j) * 7 = 70 + j * 7 from by omega] at g7
            obtain ⟨c0, c1, c2, c3, c4, c5, c6⟩ := g7
            have f0 := H3.out.free (70 + j * 7)
            have f1 := H3.out.free (70 + j * 7 + 1)
            have f2 := H3.out.free (70 + j * 7 + 2)
            have f3 := H3.out.free (70 + j * 7 + 3)
            have f4 := H3.out.free (70 + j * 7 + 4)
            have f5 := H3.out.free (70 + j * 7 + 5)
            have f6 := H3.out.free (70 + j * 7 + 6)
            refine wpAnyH_ready (rs := [12]) (by kernel_rfl) (by simp) ?_
            refine AllReadyH.cons (o := ⟨_, _, _, _, _, _⟩) rfl (fun K hK => ?_) AllReadyH.nil
            go_simp
            (first | (refine hK.out _ _ trivial (fun hHeld => ?_)) | (go_wp2_with fail; refine hK.out _ _ trivial (fun hHeld => ?_)))
            clear hK K
            (try simp only [Act.put, List.setIfInBounds_toArray, List.set_cons_zero, List.set_cons_succ])
            refine wpAnyH_done (by kernel_rfl) ?_ _
            refine NoPanic.normal ?_
            go_wp2
            go_roundw
            case rel => first | exact HEND.out w5 H0.out H1.out H2.out H3.out HBL.out | ((repeat apply Exists.intro); exact ⟨HEND.out w5 H0.out H1.out H2.out H3.out HBL.out, rfl⟩)
            case measure => simp [intOf]; omega
        · have : j = 8 := by omega
          subst this
          clear hlt hj
          obtain ⟨r0, r1, r2, r3⟩ := H0.out.rest
          obtain ⟨q0, q1, q2, q3⟩ := H1.out.rest
          obtain ⟨p0, p1, p2, p3⟩ := H3.out.rest
          have f9 := H3.out.free 129
          by_cases hmx : s.n < t.n
          · have hR1 : ((s.mrg t 0 10).mrg t 10 8).withN t.n = R := by rw [← HR.out]; congr 1; omega
            have h3 := H3.out.setN t.n
            rw [hR1] at h3
            have h2 := H2.out.set_far (p := ⟨bO, 129, none⟩) (by show ¬ _ = bO; omega) (.int .i64 t.n)
            have HB4 := below_set HBL.out (p := ⟨bO, 129, none⟩) (by show _ ≤ bO; omega) (.int .i64 t.n)
            have HB3 := Lib.hid (below_row HB4 (c := w.heap.size + 1 + 1) (by omega) R.arr)
            have k4 := Lib.hid (h2.setRow R)
            clear HB4 hR1
            go_wp2_with (first | (refine wpList_loadSt h3 _ rfl rfl rfl ?_) | (refine wpList_storeSt h2 _ _ R rfl rfl rfl rfl ?_))
            exact bodyPost_ret (results_st2 (v := .int .i64 0) Try.results19 _ k4.out rfl rfl) rfl ⟨rfl, HB3.out⟩
          · have hR1 : (s.mrg t 0 10).mrg t 10 8 = R := by rw [← HR.out, show max s.n t.n = s.n from by omega]; rfl
            have h3 := H3.out
            rw [hR1] at h3
            have h2 := H2.out
            have HB3 := Lib.hid (below_row HBL.out (c := w.heap.size + 1 + 1) (by omega) R.arr)
            have k4 := Lib.hid (h2.setRow R)
            clear hR1
            go_wp2_with (first | (refine wpList_loadSt h3 _ rfl rfl rfl ?_) | (refine wpList_storeSt h2 _ _ R rfl rfl rfl rfl ?_))
            exact bodyPost_ret (results_st2 (v := .int .i64 0) Try.results19 _ k4.out rfl rfl) rfl ⟨rfl, HB3.out⟩
end Go.Proofs.Ytglfmcgpbenckaa
