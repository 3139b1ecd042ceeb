/- The walk of chapter 17's statement KindStates. -/
import Derived.Test.YtglfmcgpbenckaaStateMore
namespace Go.Proofs.Ytglfmcgpbenckaa
open Go.RowKit
set_option linter.unusedVariables false
set_option linter.unusedSimpArgs false
set_option maxRecDepth 100000 in
set_option maxHeartbeats 8000000 in
theorem kindStates_walk (s : St) (k : Int) (xs : List Int) (hn : xs.length = s.z) (hm : s.z ≤ maxLen) (w : World) (hx : Ints w s.p xs) :
    Calls Try.prog 9 #[.agg s.arr, .int .i64 k] w fun e w' => e = .returned (.bool true) ∧ Below w.heap.size w w' := by
  have he := eqWhat
  obtain ⟨M, hM⟩ : ∃ M, ((s.mrg s 0 10).mrg s 10 8).withN (max s.n s.n) = M := ⟨_, rfl⟩
  obtain ⟨F, hF⟩ : ∃ F, (s.forget k 0 0 10).forget k 0 10 8 = F := ⟨_, rfl⟩
  have HF := Lib.hid (show ∀ i, i < 18 → F.f i = gone k 0 (s.f i) from fun i hi => by rw [← hF]; exact forget_all s k i hi)
  have HFL := Lib.hid (show F.l = s.l ∧ F.s = s.s ∧ F.n = s.n from by rw [← hF]; exact ⟨rfl, rfl, rfl⟩)
  have CF := Lib.hid (fun w => forget_any s k 0 F hF w)
  have CMG := Lib.hid (fun (w1 : World) (h : Below w.heap.size w w1) => merge_ok s s xs xs hn hn hm rfl rfl rfl M hM w1 (hx.below h) (hx.below h))
  have CS := Lib.hid (fun (hw : ∀ i, i < 10 + 8 → Wok (s.f i)) (w1 : World) (h : Below w.heap.size w w1) => same_any s M xs xs True ⟨fun _ => trivial, fun _ => by rw [← hM]; exact merge_self s xs hw⟩ hn (by rw [← hM]; exact hn) hm w1 (hx.below h) (by rw [← hM]; exact hx.below h))
  clear hF hM hn hm hx
  have HW0 := Lib.hid (show AllOk s (0 + 0) true from ⟨fun _ i hi => by omega, fun _ => rfl⟩)
  go_enter Try.func9, Try.ntmps9
  go_upto_region 1 with fail
  refine named (P := fun W => Code.wp _ _ _ _ W) (fun W => Has W w.heap.size s ∧ Below w.heap.size w W)
    ⟨(Has.new w s rfl), (below_alloc (Below.refl _ _) _)⟩ ?_
  rintro W ⟨h0, HB⟩
  have H0 := Lib.hid h0
  have HBL := Lib.hid HB
  clear h0 HB
  go_wp2_with (go_at_call 10; refine (shown_any _).mono ?_; rintro e w1 ⟨rfl, hb⟩; have H0 := Lib.hid (Below.has hb H0.out); have HBL := Lib.hid (below_then HBL.out hb); clear hb)
  go_loopw [6, 7] (fun u v wr => ∃ j : Nat, j ≤ 10 ∧ v = .int .i64 j ∧ (∃ b : Bool, u = .bool b ∧ AllOk s (0 + j) b) ∧ Has wr w.heap.size s ∧ Below w.heap.size w wr) (fun _ v _ => 10 - (intOf v).toNat)
  case atStart => exact ⟨0, Nat.zero_le _, rfl, ⟨_, rfl, HW0.out⟩, H0.out, HBL.out⟩
  case round =>
    obtain ⟨j, hj, rfl, ⟨b, rfl, hw⟩, h0, hb⟩ := hrel
    have H0 := Lib.hid h0
    have HBL := Lib.hid hb
    have HW := Lib.hid hw
    clear h0 hb hw
    by_cases hlt : j < 10
    · have hlt' : (j : Int) < 10 := by omega
      have h0' : (0 : Int) ≤ j := by omega
      cases b
      · have HEND := Lib.hid (show ∀ W : World, Has W w.heap.size s → Below w.heap.size w W → ∃ q : Nat, q ≤ 10 ∧ Value.int .i64 ((j : Int) + 1) = .int .i64 q ∧ (∃ b : Bool, Value.bool false = .bool b ∧ AllOk s (0 + q) b) ∧ Has W w.heap.size s ∧ Below w.heap.size w W from
          fun W g1 g2 => ⟨j + 1, hlt, by go_num, ⟨false, rfl, no_step 0 j HW.out⟩, g1, g2⟩)
        go_wp2
        go_roundw
        case rel => first | exact HEND.out _ H0.out HBL.out | ((repeat apply Exists.intro); exact ⟨HEND.out _ H0.out HBL.out, rfl⟩)
        case measure => simp [intOf]; omega
      · have e7 := H0.out.seven (0 + j) (by omega)
        rw [show (0 + j) * 7 = j * 7 from by omega] at e7
        obtain ⟨x, hx⟩ : ∃ x, s.f (0 + j) = x := ⟨_, rfl⟩
        rw [hx] at e7
        obtain ⟨c0, c1, c2, c3, c4, c5, c6⟩ := e7
        obtain ⟨v, hv⟩ : ∃ v, whMay x = v := ⟨_, rfl⟩
        have CM := Lib.hid (kmay_wh x v hv)
        have HEND := Lib.hid (show ∀ W : World, Has W w.heap.size s → Below w.heap.size w W → ∃ q : Nat, q ≤ 10 ∧ Value.int .i64 ((j : Int) + 1) = .int .i64 q ∧ (∃ b : Bool, Value.bool v = .bool b ∧ AllOk s (0 + q) b) ∧ Has W w.heap.size s ∧ Below w.heap.size w W from
          fun W g1 g2 => ⟨j + 1, hlt, by go_num, ⟨v, rfl, may_step 0 j HW.out hx hv⟩, g1, g2⟩)
        clear hx hv
        go_wp2_with (go_at_call 12; refine (CM.out _).mono ?_; rintro e w1 ⟨rfl, hb⟩; have H0 := Lib.hid (Below.has hb H0.out); have HBL := Lib.hid (below_then HBL.out hb); clear hb c0 c1 c2 c3 c4 c5 c6)
        go_roundw
        case rel => first | exact HEND.out _ H0.out HBL.out | ((repeat apply Exists.intro); exact ⟨HEND.out _ H0.out HBL.out, rfl⟩)
        case measure => simp [intOf]; omega
    · have : j = 10 := by omega
      subst this
      clear hlt hj
      go_wp2
      go_loopw [6, 8] (fun u v wr => ∃ j : Nat, j ≤ 8 ∧ v = .int .i64 j ∧ (∃ b : Bool, u = .bool b ∧ AllOk s (10 + j) b) ∧ Has wr w.heap.size s ∧ Below w.heap.size w wr) (fun _ v _ => 8 - (intOf v).toNat)
      case atStart => exact ⟨0, Nat.zero_le _, rfl, ⟨_, rfl, HW.out⟩, H0.out, HBL.out⟩
      case round =>
        obtain ⟨j, hj, rfl, ⟨b, rfl, hw⟩, h0, hb⟩ := hrel
        have H0 := Lib.hid h0
        have HBL := Lib.hid hb
        have HW := Lib.hid hw
        clear h0 hb hw
        by_cases hlt : j < 8
        · have hlt' : (j : Int) < 8 := by omega
          have h0' : (0 : Int) ≤ j := by omega
          cases b
          · have HEND := Lib.hid (show ∀ W : World, Has W w.heap.size s → Below w.heap.size w W → ∃ q : Nat, q ≤ 8 ∧ Value.int .i64 ((j : Int) + 1) = .int .i64 q ∧ (∃ b : Bool, Value.bool false = .bool b ∧ AllOk s (10 + q) b) ∧ Has W w.heap.size s ∧ Below w.heap.size w W from
              fun W g1 g2 => ⟨j + 1, hlt, by go_num, ⟨false, rfl, no_step 10 j HW.out⟩, g1, g2⟩)
            go_wp2
            go_roundw
            case rel => first | exact HEND.out _ H0.out HBL.out | ((repeat apply Exists.intro); exact ⟨HEND.out _ H0.out HBL.out, rfl⟩)
            case measure => simp [intOf]; omega
          · have e7 := H0.out.seven (10 + j) (by omega)
            rw [show (10 + j) * 7 = 70 + j * 7 from by omega] at e7
            obtain ⟨x, hx⟩ : ∃ x, s.f (10 + j) = x := ⟨_, rfl⟩
            rw [hx] at e7
            obtain ⟨c0, c1, c2, c3, c4, c5, c6⟩ := e7
            obtain ⟨v, hv⟩ : ∃ v, whMay x = v := ⟨_, rfl⟩
            have CM := Lib.hid (kmay_wh x v hv)
            have HEND := Lib.hid (show ∀ W : World, Has W w.heap.size s → Below w.heap.size w W → ∃ q : Nat, q ≤ 8 ∧ Value.int .i64 ((j : Int) + 1) = .int .i64 q ∧ (∃ b : Bool, Value.bool v = .bool b ∧ AllOk s (10 + q) b) ∧ Has W w.heap.size s ∧ Below w.heap.size w W from
              fun W g1 g2 => ⟨j + 1, hlt, by go_num, ⟨v, rfl, may_step 10 j HW.out hx hv⟩, g1, g2⟩)
            clear hx hv
            go_wp2_with (go_at_call 12; refine (CM.out _).mono ?_; rintro e w1 ⟨rfl, hb⟩; have H0 := Lib.hid (Below.has hb H0.out); have HBL := Lib.hid (below_then HBL.out hb); clear hb c0 c1 c2 c3 c4 c5 c6)
            go_roundw
            case rel => first | exact HEND.out _ H0.out HBL.out | ((repeat apply Exists.intro); exact ⟨HEND.out _ H0.out HBL.out, rfl⟩)
            case measure => simp [intOf]; omega
        · have : j = 8 := by omega
          subst this
          clear hlt hj
          have h0 := H0.out
          have hz := zeroSt
          go_wp2_with (refine wpList_loadSt h0 _ rfl rfl rfl ?_)
          refine (CMG.out _ HBL.out).mono ?_
          rintro e w2 ⟨rfl, hb⟩
          clear h0
          have H0 := Lib.hid (Below.has hb H0.out)
          have HBL := Lib.hid (below_then HBL.out hb)
          have hlb : w.heap.size < w2.heap.size := H0.out.lt
          clear hb
          go_upto_region 12 with (refine wpList_storeSt (Has.new w2 st0 rfl) _ _ M rfl rfl rfl rfl ?_)
          clear hz
          refine named (P := fun W => Code.wp _ _ _ _ W) (fun W => Has W w.heap.size s ∧ Has W w2.heap.size M ∧ Below w.heap.size w W) ⟨(H0.out.alloc _).setRow_far (by omega) _, (Has.new w2 st0 rfl).setRow M, below_row (below_alloc HBL.out _) (by omega) _⟩ ?_
          rintro W2 ⟨h0, h1, hb⟩
          have H0 := Lib.hid h0
          have HBL := Lib.hid hb
          clear hb
          cases b
          case' false => (clear h0 h1; go_upto_region 14 with fail)
          case' true => (go_upto_region 14 with (first | (refine wpList_loadStG h0 _ rfl rfl rfl ?_) | (refine wpList_loadStG h1 _ rfl rfl rfl ?_) | (go_at_call 14; refine (CS.out (HW.out.1 rfl) _ HBL.out).mono ?_; rintro e w4 ⟨rfl, hb⟩; have H0 := Lib.hid (Below.has hb H0.out); have HBL := Lib.hid (below_then HBL.out hb); clear hb)); clear h0 h1)
          all_goals clear hlb
          all_goals
            have h0 := H0.out
            have hz := zeroSt
            go_wp2_with (refine wpList_loadSt h0 _ rfl rfl rfl ?_)
            refine (CF.out _).mono ?_
            rintro e w3 ⟨rfl, hb⟩
            clear h0
            have H0 := Lib.hid (Below.has hb H0.out)
            have HBL := Lib.hid (below_then HBL.out hb)
            have hlb : w.heap.size < w3.heap.size := H0.out.lt
            clear hb
            go_upto_region 15 with (refine wpList_storeSt (Has.new w3 st0 rfl) _ _ F rfl rfl rfl rfl ?_)
            clear hz
            refine named (P := fun W => Code.wp _ _ _ _ W) (fun W => Has W w.heap.size s ∧ Has W w3.heap.size F ∧ Below w.heap.size w W) ⟨(H0.out.alloc _).setRow_far (by omega) _, (Has.new w3 st0 rfl).setRow F, below_row (below_alloc HBL.out _) (by omega) _⟩ ?_
            rintro W3 ⟨h0, h1, hb⟩
            have H0 := Lib.hid h0
            have H1 := Lib.hid h1
            have HBL := Lib.hid hb
            clear h0 h1 hb
            generalize w3.heap.size = bF at *
            go_wp2
            go_loopw [12] (fun v wr => ∃ j : Nat, j ≤ 10 ∧ v = .int .i64 j ∧ Has wr w.heap.size s ∧ Has wr bF F ∧ Below w.heap.size w wr) (fun v _ => 10 - (intOf v).toNat)
            case atStart => exact ⟨0, Nat.zero_le _, rfl, H0.out, H1.out, HBL.out⟩
            case round =>
              obtain ⟨j, hj, rfl, h0, h1, hb⟩ := hrel
              have H0 := Lib.hid h0
              have H1 := Lib.hid h1
              have HBL := Lib.hid hb
              clear h0 h1 hb
              by_cases hlt : j < 10
              · have hlt' : (j : Int) < 10 := by omega
                have h0' : (0 : Int) ≤ j := by omega
                have e7 := H0.out.seven (0 + j) (by omega)
                have g7 := H1.out.seven (0 + j) (by omega)
                rw [show (0 + j) * 7 = j * 7 from by omega] at e7 g7
                have HF1 := HF.out (0 + j) (by omega)
                obtain ⟨x, hx⟩ : ∃ x, s.f (0 + j) = x := ⟨_, rfl⟩
                obtain ⟨y, hy⟩ : ∃ y, F.f (0 + j) = y := ⟨_, rfl⟩
                rw [hx] at e7 HF1
                rw [hy] at g7 HF1
                obtain ⟨c0, c1, c2, c3, c4, c5, c6⟩ := e7
                obtain ⟨d0, d1, d2, d3, d4, d5, d6⟩ := g7
                have HEND := Lib.hid (show ∀ W : World, Has W w.heap.size s → Has W bF F → Below w.heap.size w W → ∃ q : Nat, q ≤ 10 ∧ Value.int .i64 ((j : Int) + 1) = .int .i64 q ∧ Has W w.heap.size s ∧ Has W bF F ∧ Below w.heap.size w W from
                  fun W g1 g2 g3 => ⟨j + 1, hlt, by go_num, g1, g2, g3⟩)
                clear hx hy
                by_cases q1 : x.k = k
                · have hj0 := eqB_junk0 y (by rw [HF1]; unfold gone; rw [if_pos ⟨q1, .inl rfl⟩])
                  have q2 : (x.k == k) = true := by simp [q1]
                  have q3 : (x.k != k) = false := by simp [q1]
                  clear q1 HF1
                  go_upto_region 18 with fail
                  refine wp_region_noPanic ?_
                  refine wp_region_held_drew (S := (fun w' => w'.cell? ⟨w.heap.size, j * 7, none⟩ = some (.int .i64 x.k) ∧ w'.cell? ⟨w.heap.size, j * 7 + 1, none⟩ = some (.int .i64 x.t) ∧ w'.cell? ⟨w.heap.size, j * 7 + 2, none⟩ = some (.int .i64 x.i) ∧ w'.cell? ⟨w.heap.size, j * 7 + 3, none⟩ = some (.int .i64 x.l) ∧ w'.cell? ⟨w.heap.size, j * 7 + 4, none⟩ = some (.bool x.m) ∧ w'.cell? ⟨w.heap.size, j * 7 + 5, none⟩ = some (.int .u64 (x.a : Nat)) ∧ w'.cell? ⟨w.heap.size, j * 7 + 6, none⟩ = some (.int .u64 (x.b : Nat)) ∧ w'.cell? ⟨bF, j * 7, none⟩ = some (.int .i64 y.k) ∧ w'.cell? ⟨bF, j * 7 + 1, none⟩ = some (.int .i64 y.t) ∧ w'.cell? ⟨bF, j * 7 + 2, none⟩ = some (.int .i64 y.i) ∧ w'.cell? ⟨bF, j * 7 + 3, none⟩ = some (.int .i64 y.l) ∧ w'.cell? ⟨bF, j * 7 + 4, none⟩ = some (.bool y.m) ∧ w'.cell? ⟨bF, j * 7 + 5, none⟩ = some (.int .u64 (y.a : Nat)) ∧ w'.cell? ⟨bF, j * 7 + 6, none⟩ = some (.int .u64 (y.b : Nat)))) (by kernel_rfl) ?_ (fun hHeld => ?_)
                  · (try dsimp only)
                    go_keep
                  refine wpAnyH_take (i := 0) (oi := ⟨_, _, _, _, _, _⟩) (v := ?_) rfl (by kernel_rfl) (by kernel_rfl) (by kernel_rfl) (fun _ _ _ h => h) (Or.inl ⟨rfl, ?_⟩) hHeld ?_
                  rotate_left
                  · (intro w hSw)
                    (try dsimp only at hSw)
                    (first | (go_simp; done) | (go_simp; with_reducible rfl))
                  (try simp only [Act.put, List.setIfInBounds_toArray, List.set_cons_zero, List.set_cons_succ])
                  refine wpAnyH_take (i := 1) (oi := ⟨_, _, _, _, _, _⟩) (v := ?_) rfl (by kernel_rfl) (by kernel_rfl) (by kernel_rfl) (fun _ _ _ h => h) (Or.inl ⟨rfl, ?_⟩) hHeld ?_
                  rotate_left
                  · (intro w hSw)
                    (try dsimp only at hSw)
                    (first | (go_simp; done) | (go_simp; with_reducible rfl))
                  (try simp only [Act.put, List.setIfInBounds_toArray, List.set_cons_zero, List.set_cons_succ])
                  refine wpAnyH_take (i := 2) (oi := ⟨_, _, _, _, _, _⟩) (v := ?_) rfl (by kernel_rfl) (by kernel_rfl) (by kernel_rfl) (fun _ _ _ h => h) (Or.inl ⟨rfl, ?_⟩) hHeld ?_
                  rotate_left
                  · (intro w hSw)
                    (try dsimp only at hSw)
                    (first | (go_simp; done) | (go_simp; with_reducible rfl))
                  (try simp only [Act.put, List.setIfInBounds_toArray, List.set_cons_zero, List.set_cons_succ])
                  refine wpAnyH_take (i := 3) (oi := ⟨_, _, _, _, _, _⟩) (v := ?_) rfl (by kernel_rfl) (by kernel_rfl) (by kernel_rfl) (fun _ _ _ h => h) (Or.inl ⟨rfl, ?_⟩) hHeld ?_
                  rotate_left
                  · (intro w hSw)
                    (try dsimp only at hSw)
                    (first | (go_simp; done) | (go_simp; with_reducible rfl))
                  (try simp only [Act.put, List.setIfInBounds_toArray, List.set_cons_zero, List.set_cons_succ])
                  refine wpAnyH_take (i := 4) (oi := ⟨_, _, _, _, _, _⟩) (v := ?_) rfl (by kernel_rfl) (by kernel_rfl) (by kernel_rfl) (fun _ _ _ h => h) (Or.inl ⟨rfl, ?_⟩) hHeld ?_
                  rotate_left
                  · (intro w hSw)
                    (try dsimp only at hSw)
                    (first | (go_simp; done) | (go_simp; with_reducible rfl))
                  (try simp only [Act.put, List.setIfInBounds_toArray, List.set_cons_zero, List.set_cons_succ])
                  refine wpAnyH_take (i := 5) (oi := ⟨_, _, _, _, _, _⟩) (v := ?_) rfl (by kernel_rfl) (by kernel_rfl) (by kernel_rfl) (fun _ _ _ h => h) (Or.inl ⟨rfl, ?_⟩) hHeld ?_
                  rotate_left
                  · (intro w hSw)
                    (try dsimp only at hSw)
                    (first | (go_simp; done) | (go_simp; with_reducible rfl))
                  (try simp only [Act.put, List.setIfInBounds_toArray, List.set_cons_zero, List.set_cons_succ])
                  refine wpAnyH_take (i := 6) (oi := ⟨_, _, _, _, _, _⟩) (v := ?_) rfl (by kernel_rfl) (by kernel_rfl) (by kernel_rfl) (fun _ _ _ h => h) (Or.inl ⟨rfl, ?_⟩) hHeld ?_
                  rotate_left
                  · (intro w hSw)
                    (try dsimp only at hSw)
                    (first | (go_simp; done) | (go_simp; with_reducible rfl))
                  (try simp only [Act.put, List.setIfInBounds_toArray, List.set_cons_zero, List.set_cons_succ])
                  refine wpAnyH_take (i := 7) (oi := ⟨_, _, _, _, _, _⟩) (v := ?_) rfl (by kernel_rfl) (by kernel_rfl) (by kernel_rfl) (fun _ _ _ h => h) (Or.inl ⟨rfl, ?_⟩) hHeld ?_
                  rotate_left
                  · (intro w hSw)
                    (try dsimp only at hSw)
                    (first | (go_simp; done) | (go_simp; with_reducible rfl))
                  (try simp only [Act.put, List.setIfInBounds_toArray, List.set_cons_zero, List.set_cons_succ])
                  refine wpAnyH_take (i := 8) (oi := ⟨_, _, _, _, _, _⟩) (v := ?_) rfl (by kernel_rfl) (by kernel_rfl) (by kernel_rfl) (fun _ _ _ h => h) (Or.inl ⟨rfl, ?_⟩) hHeld ?_
                  rotate_left
                  · (intro w hSw)
                    (try dsimp only at hSw)
                    (first | (go_simp; done) | (go_simp; with_reducible rfl))
                  (try simp only [Act.put, List.setIfInBounds_toArray, List.set_cons_zero, List.set_cons_succ])
                  refine wpAnyH_take (i := 9) (oi := ⟨_, _, _, _, _, _⟩) (v := ?_) rfl (by kernel_rfl) (by kernel_rfl) (by kernel_rfl) (fun _ _ _ h => h) (Or.inl ⟨rfl, ?_⟩) hHeld ?_
                  rotate_left
                  · (intro w hSw)
                    (try dsimp only at hSw)
                    (first | (go_simp; done) | (go_simp; with_reducible rfl))
                  (try simp only [Act.put, List.setIfInBounds_toArray, List.set_cons_zero, List.set_cons_succ])
                  refine wpAnyH_take (i := 10) (oi := ⟨_, _, _, _, _, _⟩) (v := ?_) rfl (by kernel_rfl) (by kernel_rfl) (by kernel_rfl) (fun _ _ _ h => h) (Or.inl ⟨rfl, ?_⟩) hHeld ?_
                  rotate_left
                  · (intro w hSw)
                    (try dsimp only at hSw)
                    (first | (go_simp; done) | (go_simp; with_reducible rfl))
                  (try simp only [Act.put, List.setIfInBounds_toArray, List.set_cons_zero, List.set_cons_succ])
                  refine wpAnyH_take (i := 11) (oi := ⟨_, _, _, _, _, _⟩) (v := ?_) rfl (by kernel_rfl) (by kernel_rfl) (by kernel_rfl) (fun _ _ _ h => h) (Or.inl ⟨rfl, ?_⟩) hHeld ?_
                  rotate_left
                  · (intro w hSw)
                    (try dsimp only at hSw)
                    (first | (go_simp; done) | (go_simp; with_reducible rfl))
                  (try simp only [Act.put, List.setIfInBounds_toArray, List.set_cons_zero, List.set_cons_succ])
                  refine wpAnyH_take (i := 12) (oi := ⟨_, _, _, _, _, _⟩) (v := ?_) rfl (by kernel_rfl) (by kernel_rfl) (by kernel_rfl) (fun _ _ _ h => h) (Or.inl ⟨rfl, ?_⟩) hHeld ?_
                  rotate_left
                  · (intro w hSw)
                    (try dsimp only at hSw)
                    (first | (go_simp; done) | (go_simp; with_reducible rfl))
                  (try simp only [Act.put, List.setIfInBounds_toArray, List.set_cons_zero, List.set_cons_succ])
                  refine wpAnyH_take (i := 13) (oi := ⟨_, _, _, _, _, _⟩) (v := ?_) rfl (by kernel_rfl) (by kernel_rfl) (by kernel_rfl) (fun _ _ _ h => h) (Or.inl ⟨rfl, ?_⟩) hHeld ?_
                  rotate_left
                  · (intro w hSw)
                    (try dsimp only at hSw)
                    (first | (go_simp; done) | (go_simp; with_reducible rfl))
                  (try simp only [Act.put, List.setIfInBounds_toArray, List.set_cons_zero, List.set_cons_succ])
                  refine wpAnyH_take (i := 14) (oi := ⟨_, _, _, _, _, _⟩) (v := ?_) rfl (by kernel_rfl) (by kernel_rfl) (by kernel_rfl) (fun _ _ _ h => h) (Or.inl ⟨rfl, ?_⟩) hHeld ?_
                  rotate_left
                  · (intro w hSw)
                    (try dsimp only at hSw)
                    (first | (go_simp; done) | (go_simp; with_reducible rfl))
                  (try simp only [Act.put, List.setIfInBounds_toArray, List.set_cons_zero, List.set_cons_succ])
                  refine wpAnyH_take (i := 15) (oi := ⟨_, _, _, _, _, _⟩) (v := ?_) rfl (by kernel_rfl) (by kernel_rfl) (by kernel_rfl) (fun _ _ _ h => h) (Or.inl ⟨rfl, ?_⟩) hHeld ?_
                  rotate_left
                  · (intro w hSw)
                    (try dsimp only at hSw)
                    (first | (go_simp; done) | (go_simp; with_reducible rfl))
                  (try simp only [Act.put, List.setIfInBounds_toArray, List.set_cons_zero, List.set_cons_succ])
                  refine wpAnyH_take (i := 16) (oi := ⟨_, _, _, _, _, _⟩) (v := ?_) rfl (by kernel_rfl) (by kernel_rfl) (by kernel_rfl) (fun _ _ _ h => h) (Or.inl ⟨rfl, ?_⟩) hHeld ?_
                  rotate_left
                  · (intro w hSw)
                    (try dsimp only at hSw)
                    (first | (go_simp; done) | (go_simp; with_reducible rfl))
                  (try simp only [Act.put, List.setIfInBounds_toArray, List.set_cons_zero, List.set_cons_succ])
                  refine wpAnyH_take (i := 17) (oi := ⟨_, _, _, _, _, _⟩) (v := ?_) rfl (by kernel_rfl) (by kernel_rfl) (by kernel_rfl) (fun _ _ _ h => h) (Or.inl ⟨rfl, ?_⟩) hHeld ?_
                  rotate_left
                  · (intro w hSw)
                    (try dsimp only at hSw)
                    (first | (go_simp; done) | (go_simp; with_reducible rfl))
                  (try simp only [Act.put, List.setIfInBounds_toArray, List.set_cons_zero, List.set_cons_succ])
                  refine wpAnyH_take (i := 18) (oi := ⟨_, _, _, _, _, _⟩) (v := ?_) rfl (by kernel_rfl) (by kernel_rfl) (by kernel_rfl) (fun _ _ _ h => h) (Or.inl ⟨rfl, ?_⟩) hHeld ?_
                  rotate_left
                  · (intro w hSw)
                    (try dsimp only at hSw)
                    (first | (go_simp; done) | (go_simp; with_reducible rfl))
                  (try simp only [Act.put, List.setIfInBounds_toArray, List.set_cons_zero, List.set_cons_succ])
                  refine wpAnyH_take (i := 19) (oi := ⟨_, _, _, _, _, _⟩) (v := ?_) rfl (by kernel_rfl) (by kernel_rfl) (by kernel_rfl) (fun _ _ _ h => h) (Or.inl ⟨rfl, ?_⟩) hHeld ?_
                  rotate_left
                  · (intro w hSw)
                    (try dsimp only at hSw)
                    (first | (go_simp; done) | (go_simp; with_reducible rfl))
                  (try simp only [Act.put, List.setIfInBounds_toArray, List.set_cons_zero, List.set_cons_succ])
                  refine wpAnyH_take (i := 20) (oi := ⟨_, _, _, _, _, _⟩) (v := ?_) rfl (by kernel_rfl) (by kernel_rfl) (by kernel_rfl) (fun _ _ _ h => h) (Or.inl ⟨rfl, ?_⟩) hHeld ?_
                  rotate_left
                  · (intro w hSw)
                    (try dsimp only at hSw)
                    (first | (go_simp; done) | (go_simp; with_reducible rfl))
                  (try simp only [Act.put, List.setIfInBounds_toArray, List.set_cons_zero, List.set_cons_succ])
                  refine wpAnyH_take (i := 21) (oi := ⟨_, _, _, _, _, _⟩) (v := ?_) rfl (by kernel_rfl) (by kernel_rfl) (by kernel_rfl) (fun _ _ _ h => h) (Or.inl ⟨rfl, ?_⟩) hHeld ?_
                  rotate_left
                  · (intro w hSw)
                    (try dsimp only at hSw)
                    (first | (go_simp; done) | (go_simp; with_reducible rfl))
                  (try simp only [Act.put, List.setIfInBounds_toArray, List.set_cons_zero, List.set_cons_succ])
                  refine wpAnyH_take (i := 22) (oi := ⟨_, _, _, _, _, _⟩) (v := ?_) rfl (by kernel_rfl) (by kernel_rfl) (by kernel_rfl) (fun _ _ _ h => h) (Or.inl ⟨rfl, ?_⟩) hHeld ?_
                  rotate_left
                  · (intro w hSw)
                    (try dsimp only at hSw)
                    (first | (go_simp; done) | (go_simp; with_reducible rfl))
                  (try simp only [Act.put, List.setIfInBounds_toArray, List.set_cons_zero, List.set_cons_succ])
                  refine wpAnyH_take (i := 23) (oi := ⟨_, _, _, _, _, _⟩) (v := ?_) rfl (by kernel_rfl) (by kernel_rfl) (by kernel_rfl) (fun _ _ _ h => h) (Or.inl ⟨rfl, ?_⟩) hHeld ?_
                  rotate_left
                  · (intro w hSw)
                    (try dsimp only at hSw)
                    (first | (go_simp; done) | (go_simp; with_reducible rfl))
                  (try simp only [Act.put, List.setIfInBounds_toArray, List.set_cons_zero, List.set_cons_succ])
                  refine wpAnyH_take (i := 24) (oi := ⟨_, _, _, _, _, _⟩) (v := undef) rfl (by kernel_rfl) (by kernel_rfl) (by kernel_rfl) (fun _ _ _ h => h) (Or.inr ⟨rfl, rfl⟩) hHeld ?_
                  (try simp only [Act.put, List.setIfInBounds_toArray, List.set_cons_zero, List.set_cons_succ])
                  refine wpAnyH_take (i := 25) (oi := ⟨_, _, _, _, _, _⟩) (v := undef) rfl (by kernel_rfl) (by kernel_rfl) (by kernel_rfl) (fun _ _ _ h => h) (Or.inr ⟨rfl, rfl⟩) hHeld ?_
                  (try simp only [Act.put, List.setIfInBounds_toArray, List.set_cons_zero, List.set_cons_succ])
                  refine wpAnyH_take (i := 26) (oi := ⟨_, _, _, _, _, _⟩) (v := undef) rfl (by kernel_rfl) (by kernel_rfl) (by kernel_rfl) (fun _ _ _ h => h) (Or.inr ⟨rfl, rfl⟩) hHeld ?_
                  (try simp only [Act.put, List.setIfInBounds_toArray, List.set_cons_zero, List.set_cons_succ])
                  refine wpAnyH_take (i := 27) (oi := ⟨_, _, _, _, _, _⟩) (v := undef) rfl (by kernel_rfl) (by kernel_rfl) (by kernel_rfl) (fun _ _ _ h => h) (Or.inr ⟨rfl, rfl⟩) hHeld ?_
                  (try simp only [Act.put, List.setIfInBounds_toArray, List.set_cons_zero, List.set_cons_succ])
                  refine wpAnyH_take (i := 28) (oi := ⟨_, _, _, _, _, _⟩) (v := undef) rfl (by kernel_rfl) (by kernel_rfl) (by kernel_rfl) (fun _ _ _ h => h) (Or.inr ⟨rfl, rfl⟩) hHeld ?_
                  (try simp only [Act.put, List.setIfInBounds_toArray, List.set_cons_zero, List.set_cons_succ])
                  refine wpAnyH_take (i := 29) (oi := ⟨_, _, _, _, _, _⟩) (v := undef) rfl (by kernel_rfl) (by kernel_rfl) (by kernel_rfl) (fun _ _ _ h => h) (Or.inr ⟨rfl, rfl⟩) hHeld ?_
                  (try simp only [Act.put, List.setIfInBounds_toArray, List.set_cons_zero, List.set_cons_succ])
                  refine wpAnyH_take (i := 30) (oi := ⟨_, _, _, _, _, _⟩) (v := undef) rfl (by kernel_rfl) (by kernel_rfl) (by kernel_rfl) (fun _ _ _ h => h) (Or.inr ⟨rfl, rfl⟩) hHeld ?_
                  (try simp only [Act.put, List.setIfInBounds_toArray, List.set_cons_zero, List.set_cons_succ])
                  refine wpAnyH_take (i := 31) (oi := ⟨_, _, _, _, _, _⟩) (v := undef) rfl (by kernel_rfl) (by kernel_rfl) (by kernel_rfl) (fun _ _ _ h => h) (Or.inr ⟨rfl, rfl⟩) hHeld ?_
                  (try simp only [Act.put, List.setIfInBounds_toArray, List.set_cons_zero, List.set_cons_succ])
                  refine wpAnyH_take (i := 32) (oi := ⟨_, _, _, _, _, _⟩) (v := undef) rfl (by kernel_rfl) (by kernel_rfl) (by kernel_rfl) (fun _ _ _ h => h) (Or.inr ⟨rfl, rfl⟩) hHeld ?_
                  (try simp only [Act.put, List.setIfInBounds_toArray, List.set_cons_zero, List.set_cons_succ])
                  refine wpAnyH_take (i := 33) (oi := ⟨_, _, _, _, _, _⟩) (v := ?_) rfl (by kernel_rfl) (by kernel_rfl) (by kernel_rfl) (fun _ _ _ h => h) (Or.inl ⟨rfl, ?_⟩) hHeld ?_
                  rotate_left
                  · (intro w hSw)
                    (try dsimp only at hSw)
                    (first | (go_simp; done) | (go_simp; with_reducible rfl))
                  (try simp only [Act.put, List.setIfInBounds_toArray, List.set_cons_zero, List.set_cons_succ])
                  refine wpAnyH_take (i := 34) (oi := ⟨_, _, _, _, _, _⟩) (v := ?_) rfl (by kernel_rfl) (by kernel_rfl) (by kernel_rfl) (fun _ _ _ h => h) (Or.inl ⟨rfl, ?_⟩) hHeld ?_
                  rotate_left
                  · (intro w hSw)
                    (try dsimp only at hSw)
                    (first | (go_simp; done) | (go_simp; with_reducible rfl))
                  (try simp only [Act.put, List.setIfInBounds_toArray, List.set_cons_zero, List.set_cons_succ])
                  refine wpAnyH_done (by kernel_rfl) ?_ _
                  refine NoPanic.normal ?_
                  go_wp2
                  go_roundw
                  case rel => first | exact HEND.out _ H0.out H1.out (below_drew HBL.out) | ((repeat apply Exists.intro); exact ⟨HEND.out _ H0.out H1.out (below_drew HBL.out), rfl⟩)
                  case measure => simp [intOf]; omega
                · have hj0 := eqW_t (show y = x by rw [HF1]; unfold gone; rw [if_neg (fun q => q1 q.1)])
                  have q2 : (x.k == k) = false := by simp [q1]
                  have q3 : (x.k != k) = true := by simp [q1]
                  clear q1 HF1
                  go_upto_region 18 with fail
                  refine wp_region_noPanic ?_
                  refine wp_region_held_drew (S := (fun w' => w'.cell? ⟨w.heap.size, j * 7, none⟩ = some (.int .i64 x.k) ∧ w'.cell? ⟨w.heap.size, j * 7 + 1, none⟩ = some (.int .i64 x.t) ∧ w'.cell? ⟨w.heap.size, j * 7 + 2, none⟩ = some (.int .i64 x.i) ∧ w'.cell? ⟨w.heap.size, j * 7 + 3, none⟩ = some (.int .i64 x.l) ∧ w'.cell? ⟨w.heap.size, j * 7 + 4, none⟩ = some (.bool x.m) ∧ w'.cell? ⟨w.heap.size, j * 7 + 5, none⟩ = some (.int .u64 (x.a : Nat)) ∧ w'.cell? ⟨w.heap.size, j * 7 + 6, none⟩ = some (.int .u64 (x.b : Nat)) ∧ w'.cell? ⟨bF, j * 7, none⟩ = some (.int .i64 y.k) ∧ w'.cell? ⟨bF, j * 7 + 1, none⟩ = some (.int .i64 y.t) ∧ w'.cell? ⟨bF, j * 7 + 2, none⟩ = some (.int .i64 y.i) ∧ w'.cell? ⟨bF, j * 7 + 3, none⟩ = some (.int .i64 y.l) ∧ w'.cell? ⟨bF, j * 7 + 4, none⟩ = some (.bool y.m) ∧ w'.cell? ⟨bF, j * 7 + 5, none⟩ = some (.int .u64 (y.a : Nat)) ∧ w'.cell? ⟨bF, j * 7 + 6, none⟩ = some (.int .u64 (y.b : Nat)))) (by kernel_rfl) ?_ (fun hHeld => ?_)
                  · (try dsimp only)
                    go_keep
                  refine wpAnyH_take (i := 0) (oi := ⟨_, _, _, _, _, _⟩) (v := ?_) rfl (by kernel_rfl) (by kernel_rfl) (by kernel_rfl) (fun _ _ _ h => h) (Or.inl ⟨rfl, ?_⟩) hHeld ?_
                  rotate_left
                  · (intro w hSw)
                    (try dsimp only at hSw)
                    (first | (go_simp; done) | (go_simp; with_reducible rfl))
                  (try simp only [Act.put, List.setIfInBounds_toArray, List.set_cons_zero, List.set_cons_succ])
                  refine wpAnyH_take (i := 1) (oi := ⟨_, _, _, _, _, _⟩) (v := ?_) rfl (by kernel_rfl) (by kernel_rfl) (by kernel_rfl) (fun _ _ _ h => h) (Or.inl ⟨rfl, ?_⟩) hHeld ?_
                  rotate_left
                  · (intro w hSw)
                    (try dsimp only at hSw)
                    (first | (go_simp; done) | (go_simp; with_reducible rfl))
                  (try simp only [Act.put, List.setIfInBounds_toArray, List.set_cons_zero, List.set_cons_succ])
                  refine wpAnyH_take (i := 2) (oi := ⟨_, _, _, _, _, _⟩) (v := ?_) rfl (by kernel_rfl) (by kernel_rfl) (by kernel_rfl) (fun _ _ _ h => h) (Or.inl ⟨rfl, ?_⟩) hHeld ?_
                  rotate_left
                  · (intro w hSw)
                    (try dsimp only at hSw)
                    (first | (go_simp; done) | (go_simp; with_reducible rfl))
                  (try simp only [Act.put, List.setIfInBounds_toArray, List.set_cons_zero, List.set_cons_succ])
                  refine wpAnyH_take (i := 3) (oi := ⟨_, _, _, _, _, _⟩) (v := ?_) rfl (by kernel_rfl) (by kernel_rfl) (by kernel_rfl) (fun _ _ _ h => h) (Or.inl ⟨rfl, ?_⟩) hHeld ?_
                  rotate_left
                  · (intro w hSw)
                    (try dsimp only at hSw)
                    (first | (go_simp; done) | (go_simp; with_reducible rfl))
                  (try simp only [Act.put, List.setIfInBounds_toArray, List.set_cons_zero, List.set_cons_succ])
                  refine wpAnyH_take (i := 4) (oi := ⟨_, _, _, _, _, _⟩) (v := ?_) rfl (by kernel_rfl) (by kernel_rfl) (by kernel_rfl) (fun _ _ _ h => h) (Or.inl ⟨rfl, ?_⟩) hHeld ?_
                  rotate_left
                  · (intro w hSw)
                    (try dsimp only at hSw)
                    (first | (go_simp; done) | (go_simp; with_reducible rfl))
                  (try simp only [Act.put, List.setIfInBounds_toArray, List.set_cons_zero, List.set_cons_succ])
                  refine wpAnyH_take (i := 5) (oi := ⟨_, _, _, _, _, _⟩) (v := ?_) rfl (by kernel_rfl) (by kernel_rfl) (by kernel_rfl) (fun _ _ _ h => h) (Or.inl ⟨rfl, ?_⟩) hHeld ?_
                  rotate_left
                  · (intro w hSw)
                    (try dsimp only at hSw)
                    (first | (go_simp; done) | (go_simp; with_reducible rfl))
                  (try simp only [Act.put, List.setIfInBounds_toArray, List.set_cons_zero, List.set_cons_succ])
                  refine wpAnyH_take (i := 6) (oi := ⟨_, _, _, _, _, _⟩) (v := ?_) rfl (by kernel_rfl) (by kernel_rfl) (by kernel_rfl) (fun _ _ _ h => h) (Or.inl ⟨rfl, ?_⟩) hHeld ?_
                  rotate_left
                  · (intro w hSw)
                    (try dsimp only at hSw)
                    (first | (go_simp; done) | (go_simp; with_reducible rfl))
                  (try simp only [Act.put, List.setIfInBounds_toArray, List.set_cons_zero, List.set_cons_succ])
                  refine wpAnyH_take (i := 7) (oi := ⟨_, _, _, _, _, _⟩) (v := ?_) rfl (by kernel_rfl) (by kernel_rfl) (by kernel_rfl) (fun _ _ _ h => h) (Or.inl ⟨rfl, ?_⟩) hHeld ?_
                  rotate_left
                  · (intro w hSw)
                    (try dsimp only at hSw)
                    (first | (go_simp; done) | (go_simp; with_reducible rfl))
                  (try simp only [Act.put, List.setIfInBounds_toArray, List.set_cons_zero, List.set_cons_succ])
                  refine wpAnyH_take (i := 8) (oi := ⟨_, _, _, _, _, _⟩) (v := undef) rfl (by kernel_rfl) (by kernel_rfl) (by kernel_rfl) (fun _ _ _ h => h) (Or.inr ⟨rfl, rfl⟩) hHeld ?_
                  (try simp only [Act.put, List.setIfInBounds_toArray, List.set_cons_zero, List.set_cons_succ])
                  refine wpAnyH_take (i := 9) (oi := ⟨_, _, _, _, _, _⟩) (v := undef) rfl (by kernel_rfl) (by kernel_rfl) (by kernel_rfl) (fun _ _ _ h => h) (Or.inr ⟨rfl, rfl⟩) hHeld ?_
                  (try simp only [Act.put, List.setIfInBounds_toArray, List.set_cons_zero, List.set_cons_succ])
                  refine wpAnyH_take (i := 10) (oi := ⟨_, _, _, _, _, _⟩) (v := undef) rfl (by kernel_rfl) (by kernel_rfl) (by kernel_rfl) (fun _ _ _ h => h) (Or.inr ⟨rfl, rfl⟩) hHeld ?_
                  (try simp only [Act.put, List.setIfInBounds_toArray, List.set_cons_zero, List.set_cons_succ])
                  refine wpAnyH_take (i := 11) (oi := ⟨_, _, _, _, _, _⟩) (v := undef) rfl (by kernel_rfl) (by kernel_rfl) (by kernel_rfl) (fun _ _ _ h => h) (Or.inr ⟨rfl, rfl⟩) hHeld ?_
                  (try simp only [Act.put, List.setIfInBounds_toArray, List.set_cons_zero, List.set_cons_succ])
                  refine wpAnyH_take (i := 12) (oi := ⟨_, _, _, _, _, _⟩) (v := undef) rfl (by kernel_rfl) (by kernel_rfl) (by kernel_rfl) (fun _ _ _ h => h) (Or.inr ⟨rfl, rfl⟩) hHeld ?_
                  (try simp only [Act.put, List.setIfInBounds_toArray, List.set_cons_zero, List.set_cons_succ])
                  refine wpAnyH_take (i := 13) (oi := ⟨_, _, _, _, _, _⟩) (v := undef) rfl (by kernel_rfl) (by kernel_rfl) (by kernel_rfl) (fun _ _ _ h => h) (Or.inr ⟨rfl, rfl⟩) hHeld ?_
                  (try simp only [Act.put, List.setIfInBounds_toArray, List.set_cons_zero, List.set_cons_succ])
                  refine wpAnyH_take (i := 14) (oi := ⟨_, _, _, _, _, _⟩) (v := ?_) rfl (by kernel_rfl) (by kernel_rfl) (by kernel_rfl) (fun _ _ _ h => h) (Or.inl ⟨rfl, ?_⟩) hHeld ?_
                  rotate_left
                  · (intro w hSw)
                    (try dsimp only at hSw)
                    (first | (go_simp; done) | (go_simp; with_reducible rfl))
                  (try simp only [Act.put, List.setIfInBounds_toArray, List.set_cons_zero, List.set_cons_succ])
                  refine wpAnyH_take (i := 15) (oi := ⟨_, _, _, _, _, _⟩) (v := ?_) rfl (by kernel_rfl) (by kernel_rfl) (by kernel_rfl) (fun _ _ _ h => h) (Or.inl ⟨rfl, ?_⟩) hHeld ?_
                  rotate_left
                  · (intro w hSw)
                    (try dsimp only at hSw)
                    (first | (go_simp; done) | (go_simp; with_reducible rfl))
                  (try simp only [Act.put, List.setIfInBounds_toArray, List.set_cons_zero, List.set_cons_succ])
                  refine wpAnyH_take (i := 16) (oi := ⟨_, _, _, _, _, _⟩) (v := ?_) rfl (by kernel_rfl) (by kernel_rfl) (by kernel_rfl) (fun _ _ _ h => h) (Or.inl ⟨rfl, ?_⟩) hHeld ?_
                  rotate_left
                  · (intro w hSw)
                    (try dsimp only at hSw)
                    (first | (go_simp; done) | (go_simp; with_reducible rfl))
                  (try simp only [Act.put, List.setIfInBounds_toArray, List.set_cons_zero, List.set_cons_succ])
                  refine wpAnyH_take (i := 17) (oi := ⟨_, _, _, _, _, _⟩) (v := ?_) rfl (by kernel_rfl) (by kernel_rfl) (by kernel_rfl) (fun _ _ _ h => h) (Or.inl ⟨rfl, ?_⟩) hHeld ?_
                  rotate_left
                  · (intro w hSw)
                    (try dsimp only at hSw)
                    (first | (go_simp; done) | (go_simp; with_reducible rfl))
                  (try simp only [Act.put, List.setIfInBounds_toArray, List.set_cons_zero, List.set_cons_succ])
                  refine wpAnyH_take (i := 18) (oi := ⟨_, _, _, _, _, _⟩) (v := ?_) rfl (by kernel_rfl) (by kernel_rfl) (by kernel_rfl) (fun _ _ _ h => h) (Or.inl ⟨rfl, ?_⟩) hHeld ?_
                  rotate_left
                  · (intro w hSw)
                    (try dsimp only at hSw)
                    (first | (go_simp; done) | (go_simp; with_reducible rfl))
                  (try simp only [Act.put, List.setIfInBounds_toArray, List.set_cons_zero, List.set_cons_succ])
                  refine wpAnyH_take (i := 19) (oi := ⟨_, _, _, _, _, _⟩) (v := ?_) rfl (by kernel_rfl) (by kernel_rfl) (by kernel_rfl) (fun _ _ _ h => h) (Or.inl ⟨rfl, ?_⟩) hHeld ?_
                  rotate_left
                  · (intro w hSw)
                    (try dsimp only at hSw)
                    (first | (go_simp; done) | (go_simp; with_reducible rfl))
                  (try simp only [Act.put, List.setIfInBounds_toArray, List.set_cons_zero, List.set_cons_succ])
                  refine wpAnyH_take (i := 20) (oi := ⟨_, _, _, _, _, _⟩) (v := ?_) rfl (by kernel_rfl) (by kernel_rfl) (by kernel_rfl) (fun _ _ _ h => h) (Or.inl ⟨rfl, ?_⟩) hHeld ?_
                  rotate_left
                  · (intro w hSw)
                    (try dsimp only at hSw)
                    (first | (go_simp; done) | (go_simp; with_reducible rfl))
                  (try simp only [Act.put, List.setIfInBounds_toArray, List.set_cons_zero, List.set_cons_succ])
                  refine wpAnyH_take (i := 21) (oi := ⟨_, _, _, _, _, _⟩) (v := ?_) rfl (by kernel_rfl) (by kernel_rfl) (by kernel_rfl) (fun _ _ _ h => h) (Or.inl ⟨rfl, ?_⟩) hHeld ?_
                  rotate_left
                  · (intro w hSw)
                    (try dsimp only at hSw)
                    (first | (go_simp; done) | (go_simp; with_reducible rfl))
                  (try simp only [Act.put, List.setIfInBounds_toArray, List.set_cons_zero, List.set_cons_succ])
                  refine wpAnyH_take (i := 22) (oi := ⟨_, _, _, _, _, _⟩) (v := ?_) rfl (by kernel_rfl) (by kernel_rfl) (by kernel_rfl) (fun _ _ _ h => h) (Or.inl ⟨rfl, ?_⟩) hHeld ?_
                  rotate_left
                  · (intro w hSw)
                    (try dsimp only at hSw)
                    (first | (go_simp; done) | (go_simp; with_reducible rfl))
                  (try simp only [Act.put, List.setIfInBounds_toArray, List.set_cons_zero, List.set_cons_succ])
                  refine wpAnyH_take (i := 23) (oi := ⟨_, _, _, _, _, _⟩) (v := ?_) rfl (by kernel_rfl) (by kernel_rfl) (by kernel_rfl) (fun _ _ _ h => h) (Or.inl ⟨rfl, ?_⟩) hHeld ?_
                  rotate_left
                  · (intro w hSw)
                    (try dsimp only at hSw)
                    (first | (go_simp; done) | (go_simp; with_reducible rfl))
                  (try simp only [Act.put, List.setIfInBounds_toArray, List.set_cons_zero, List.set_cons_succ])
                  refine wpAnyH_take (i := 24) (oi := ⟨_, _, _, _, _, _⟩) (v := ?_) rfl (by kernel_rfl) (by kernel_rfl) (by kernel_rfl) (fun _ _ _ h => h) (Or.inl ⟨rfl, ?_⟩) hHeld ?_
                  rotate_left
                  · (intro w hSw)
                    (try dsimp only at hSw)
                    (first | (go_simp; done) | (go_simp; with_reducible rfl))
                  (try simp only [Act.put, List.setIfInBounds_toArray, List.set_cons_zero, List.set_cons_succ])
                  refine wpAnyH_take (i := 25) (oi := ⟨_, _, _, _, _, _⟩) (v := ?_) rfl (by kernel_rfl) (by kernel_rfl) (by kernel_rfl) (fun _ _ _ h => h) (Or.inl ⟨rfl, ?_⟩) hHeld ?_
                  rotate_left
                  · (intro w hSw)
                    (try dsimp only at hSw)
                    (first | (go_simp; done) | (go_simp; with_reducible rfl))
                  (try simp only [Act.put, List.setIfInBounds_toArray, List.set_cons_zero, List.set_cons_succ])
                  refine wpAnyH_take (i := 26) (oi := ⟨_, _, _, _, _, _⟩) (v := ?_) rfl (by kernel_rfl) (by kernel_rfl) (by kernel_rfl) (fun _ _ _ h => h) (Or.inl ⟨rfl, ?_⟩) hHeld ?_
                  rotate_left
                  · (intro w hSw)
                    (try dsimp only at hSw)
                    (first | (go_simp; done) | (go_simp; with_reducible rfl))
                  (try simp only [Act.put, List.setIfInBounds_toArray, List.set_cons_zero, List.set_cons_succ])
                  refine wpAnyH_take (i := 27) (oi := ⟨_, _, _, _, _, _⟩) (v := ?_) rfl (by kernel_rfl) (by kernel_rfl) (by kernel_rfl) (fun _ _ _ h => h) (Or.inl ⟨rfl, ?_⟩) hHeld ?_
                  rotate_left
                  · (intro w hSw)
                    (try dsimp only at hSw)
                    (first | (go_simp; done) | (go_simp; with_reducible rfl))
                  (try simp only [Act.put, List.setIfInBounds_toArray, List.set_cons_zero, List.set_cons_succ])
                  refine wpAnyH_take (i := 28) (oi := ⟨_, _, _, _, _, _⟩) (v := ?_) rfl (by kernel_rfl) (by kernel_rfl) (by kernel_rfl) (fun _ _ _ h => h) (Or.inl ⟨rfl, ?_⟩) hHeld ?_
                  rotate_left
                  · (intro w hSw)
                    (try dsimp only at hSw)
                    (first | (go_simp; done) | (go_simp; with_reducible rfl))
                  (try simp only [Act.put, List.setIfInBounds_toArray, List.set_cons_zero, List.set_cons_succ])
                  refine wpAnyH_take (i := 29) (oi := ⟨_, _, _, _, _, _⟩) (v := ?_) rfl (by kernel_rfl) (by kernel_rfl) (by kernel_rfl) (fun _ _ _ h => h) (Or.inl ⟨rfl, ?_⟩) hHeld ?_
                  rotate_left
                  · (intro w hSw)
                    (try dsimp only at hSw)
                    (first | (go_simp; done) | (go_simp; with_reducible rfl))
                  (try simp only [Act.put, List.setIfInBounds_toArray, List.set_cons_zero, List.set_cons_succ])
                  refine wpAnyH_take (i := 30) (oi := ⟨_, _, _, _, _, _⟩) (v := ?_) rfl (by kernel_rfl) (by kernel_rfl) (by kernel_rfl) (fun _ _ _ h => h) (Or.inl ⟨rfl, ?_⟩) hHeld ?_
                  rotate_left
                  · (intro w hSw)
                    (try dsimp only at hSw)
                    (first | (go_simp; done) | (go_simp; with_reducible rfl))
                  (try simp only [Act.put, List.setIfInBounds_toArray, List.set_cons_zero, List.set_cons_succ])
                  refine wpAnyH_take (i := 31) (oi := ⟨_, _, _, _, _, _⟩) (v := ?_) rfl (by kernel_rfl) (by kernel_rfl) (by kernel_rfl) (fun _ _ _ h => h) (Or.inl ⟨rfl, ?_⟩) hHeld ?_
                  rotate_left
                  · (intro w hSw)
                    (try dsimp only at hSw)
                    (first | (go_simp; done) | (go_simp; with_reducible rfl))
                  (try simp only [Act.put, List.setIfInBounds_toArray, List.set_cons_zero, List.set_cons_succ])
                  refine wpAnyH_take (i := 32) (oi := ⟨_, _, _, _, _, _⟩) (v := ?_) rfl (by kernel_rfl) (by kernel_rfl) (by kernel_rfl) (fun _ _ _ h => h) (Or.inl ⟨rfl, ?_⟩) hHeld ?_
                  rotate_left
                  · (intro w hSw)
                    (try dsimp only at hSw)
                    (first | (go_simp; done) | (go_simp; with_reducible rfl))
                  (try simp only [Act.put, List.setIfInBounds_toArray, List.set_cons_zero, List.set_cons_succ])
                  refine wpAnyH_take (i := 33) (oi := ⟨_, _, _, _, _, _⟩) (v := ?_) rfl (by kernel_rfl) (by kernel_rfl) (by kernel_rfl) (fun _ _ _ h => h) (Or.inl ⟨rfl, ?_⟩) hHeld ?_
                  rotate_left
                  · (intro w hSw)
                    (try dsimp only at hSw)
                    (first | (go_simp; done) | (go_simp; with_reducible rfl))
                  (try simp only [Act.put, List.setIfInBounds_toArray, List.set_cons_zero, List.set_cons_succ])
                  refine wpAnyH_take (i := 34) (oi := ⟨_, _, _, _, _, _⟩) (v := ?_) rfl (by kernel_rfl) (by kernel_rfl) (by kernel_rfl) (fun _ _ _ h => h) (Or.inl ⟨rfl, ?_⟩) hHeld ?_
                  rotate_left
                  · (intro w hSw)
                    (try dsimp only at hSw)
                    (first | (go_simp; done) | (go_simp; with_reducible rfl))
                  (try simp only [Act.put, List.setIfInBounds_toArray, List.set_cons_zero, List.set_cons_succ])
                  refine wpAnyH_done (by kernel_rfl) ?_ _
                  refine NoPanic.normal ?_
                  go_wp2
                  go_roundw
                  case rel => first | exact HEND.out _ H0.out H1.out (below_drew HBL.out) | ((repeat apply Exists.intro); exact ⟨HEND.out _ H0.out H1.out (below_drew HBL.out), rfl⟩)
                  case measure => simp [intOf]; omega
              · have : j = 10 := by omega
                subst this
                clear hlt hj
                go_wp2
                go_loopw [13] (fun v wr => ∃ j : Nat, j ≤ 8 ∧ v = .int .i64 j ∧ Has wr w.heap.size s ∧ Has wr bF F ∧ Below w.heap.size w wr) (fun v _ => 8 - (intOf v).toNat)
                case atStart => exact ⟨0, Nat.zero_le _, rfl, H0.out, H1.out, HBL.out⟩
                case round =>
                  obtain ⟨j, hj, rfl, h0, h1, hb⟩ := hrel
                  have H0 := Lib.hid h0
                  have H1 := Lib.hid h1
                  have HBL := Lib.hid hb
                  clear h0 h1 hb
                  by_cases hlt : j < 8
                  · have hlt' : (j : Int) < 8 := by omega
                    have h0' : (0 : Int) ≤ j := by omega
                    have e7 := H0.out.seven (10 + j) (by omega)
                    have g7 := H1.out.seven (10 + j) (by omega)
                    rw [show (10 + j) * 7 = 70 + j * 7 from by omega] at e7 g7
                    have HF1 := HF.out (10 + j) (by omega)
                    obtain ⟨x, hx⟩ : ∃ x, s.f (10 + j) = x := ⟨_, rfl⟩
                    obtain ⟨y, hy⟩ : ∃ y, F.f (10 + j) = y := ⟨_, rfl⟩
                    rw [hx] at e7 HF1
                    rw [hy] at g7 HF1
                    obtain ⟨c0, c1, c2, c3, c4, c5, c6⟩ := e7
                    obtain ⟨d0, d1, d2, d3, d4, d5, d6⟩ := g7
                    have HEND := Lib.hid (show ∀ W : World, Has W w.heap.size s → Has W bF F → Below w.heap.size w W → ∃ q : Nat, q ≤ 8 ∧ Value.int .i64 ((j : Int) + 1) = .int .i64 q ∧ Has W w.heap.size s ∧ Has W bF F ∧ Below w.heap.size w W from
                      fun W g1 g2 g3 => ⟨j + 1, hlt, by go_num, g1, g2, g3⟩)
                    clear hx hy
                    by_cases q1 : x.k = k
                    · have hj0 := eqB_junk0 y (by rw [HF1]; unfold gone; rw [if_pos ⟨q1, .inl rfl⟩])
                      have q2 : (x.k == k) = true := by simp [q1]
                      have q3 : (x.k != k) = false := by simp [q1]
                      clear q1 HF1
                      go_upto_region 23 with fail
                      refine wp_region_noPanic ?_
                      refine wp_region_held_drew (S := (fun w' => w'.cell? ⟨w.heap.size, 70 + j * 7, none⟩ = some (.int .i64 x.k) ∧ w'.cell? ⟨w.heap.size, 70 + j * 7 + 1, none⟩ = some (.int .i64 x.t) ∧ w'.cell? ⟨w.heap.size, 70 + j * 7 + 2, none⟩ = some (.int .i64 x.i) ∧ w'.cell? ⟨w.heap.size, 70 + j * 7 + 3, none⟩ = some (.int .i64 x.l) ∧ w'.cell? ⟨w.heap.size, 70 + j * 7 + 4, none⟩ = some (.bool x.m) ∧ w'.cell? ⟨w.heap.size, 70 + j * 7 + 5, none⟩ = some (.int .u64 (x.a : Nat)) ∧ w'.cell? ⟨w.heap.size, 70 + j * 7 + 6, none⟩ = some (.int .u64 (x.b : Nat)) ∧ w'.cell? ⟨bF, 70 + j * 7, none⟩ = some (.int .i64 y.k) ∧ w'.cell? ⟨bF, 70 + j * 7 + 1, none⟩ = some (.int .i64 y.t) ∧ w'.cell? ⟨bF, 70 + j * 7 + 2, none⟩ = some (.int .i64 y.i) ∧ w'.cell? ⟨bF, 70 + j * 7 + 3, none⟩ = some (.int .i64 y.l) ∧ w'.cell? ⟨bF, 70 + j * 7 + 4, none⟩ = some (.bool y.m) ∧ w'.cell? ⟨bF, 70 + j * 7 + 5, none⟩ = some (.int .u64 (y.a : Nat)) ∧ w'.cell? ⟨bF, 70 + j * 7 + 6, none⟩ = some (.int .u64 (y.b : Nat)))) (by kernel_rfl) ?_ (fun hHeld => ?_)
                      · (try dsimp only)
                        go_keep
                      refine wpAnyH_take (i := 0) (oi := ⟨_, _, _, _, _, _⟩) (v := ?_) rfl (by kernel_rfl) (by kernel_rfl) (by kernel_rfl) (fun _ _ _ h => h) (Or.inl ⟨rfl, ?_⟩) hHeld ?_
                      rotate_left
                      · (intro w hSw)
                        (try dsimp only at hSw)
                        (first | (go_simp; done) | (go_simp; with_reducible rfl))
                      (try simp only [Act.put, List.setIfInBounds_toArray, List.set_cons_zero, List.set_cons_succ])
                      refine wpAnyH_take (i := 1) (oi := ⟨_, _, _, _, _, _⟩) (v := ?_) rfl (by kernel_rfl) (by kernel_rfl) (by kernel_rfl) (fun _ _ _ h => h) (Or.inl ⟨rfl, ?_⟩) hHeld ?_
                      rotate_left
                      · (intro w hSw)
                        (try dsimp only at hSw)
                        (first | (go_simp; done) | (go_simp; with_reducible rfl))
                      (try simp only [Act.put, List.setIfInBounds_toArray, List.set_cons_zero, List.set_cons_succ])
                      refine wpAnyH_take (i := 2) (oi := ⟨_, _, _, _, _, _⟩) (v := ?_) rfl (by kernel_rfl) (by kernel_rfl) (by kernel_rfl) (fun _ _ _ h => h) (Or.inl ⟨rfl, ?_⟩) hHeld ?_
                      rotate_left
                      · (intro w hSw)
                        (try dsimp only at hSw)
                        (first | (go_simp; done) | (go_simp; with_reducible rfl))
                      (try simp only [Act.put, List.setIfInBounds_toArray, List.set_cons_zero, List.set_cons_succ])
                      refine wpAnyH_take (i := 3) (oi := ⟨_, _, _, _, _, _⟩) (v := ?_) rfl (by kernel_rfl) (by kernel_rfl) (by kernel_rfl) (fun _ _ _ h => h) (Or.inl ⟨rfl, ?_⟩) hHeld ?_
                      rotate_left
                      · (intro w hSw)
                        (try dsimp only at hSw)
                        (first | (go_simp; done) | (go_simp; with_reducible rfl))
                      (try simp only [Act.put, List.setIfInBounds_toArray, List.set_cons_zero, List.set_cons_succ])
                      refine wpAnyH_take (i := 4) (oi := ⟨_, _, _, _, _, _⟩) (v := ?_) rfl (by kernel_rfl) (by kernel_rfl) (by kernel_rfl) (fun _ _ _ h => h) (Or.inl ⟨rfl, ?_⟩) hHeld ?_
                      rotate_left
                      · (intro w hSw)
                        (try dsimp only at hSw)
                        (first | (go_simp; done) | (go_simp; with_reducible rfl))
                      (try simp only [Act.put, List.setIfInBounds_toArray, List.set_cons_zero, List.set_cons_succ])
                      refine wpAnyH_take (i := 5) (oi := ⟨_, _, _, _, _, _⟩) (v := ?_) rfl (by kernel_rfl) (by kernel_rfl) (by kernel_rfl) (fun _ _ _ h => h) (Or.inl ⟨rfl, ?_⟩) hHeld ?_
                      rotate_left
                      · (intro w hSw)
                        (try dsimp only at hSw)
                        (first | (go_simp; done) | (go_simp; with_reducible rfl))
                      (try simp only [Act.put, List.setIfInBounds_toArray, List.set_cons_zero, List.set_cons_succ])
                      refine wpAnyH_take (i := 6) (oi := ⟨_, _, _, _, _, _⟩) (v := ?_) rfl (by kernel_rfl) (by kernel_rfl) (by kernel_rfl) (fun _ _ _ h => h) (Or.inl ⟨rfl, ?_⟩) hHeld ?_
                      rotate_left
                      · (intro w hSw)
                        (try dsimp only at hSw)
                        (first | (go_simp; done) | (go_simp; with_reducible rfl))
                      (try simp only [Act.put, List.setIfInBounds_toArray, List.set_cons_zero, List.set_cons_succ])
                      refine wpAnyH_take (i := 7) (oi := ⟨_, _, _, _, _, _⟩) (v := ?_) rfl (by kernel_rfl) (by kernel_rfl) (by kernel_rfl) (fun _ _ _ h => h) (Or.inl ⟨rfl, ?_⟩) hHeld ?_
                      rotate_left
                      · (intro w hSw)
                        (try dsimp only at hSw)
                        (first | (go_simp; done) | (go_simp; with_reducible rfl))
                      (try simp only [Act.put, List.setIfInBounds_toArray, List.set_cons_zero, List.set_cons_succ])
                      refine wpAnyH_take (i := 8) (oi := ⟨_, _, _, _, _, _⟩) (v := ?_) rfl (by kernel_rfl) (by kernel_rfl) (by kernel_rfl) (fun _ _ _ h => h) (Or.inl ⟨rfl, ?_⟩) hHeld ?_
                      rotate_left
                      · (intro w hSw)
                        (try dsimp only at hSw)
                        (first | (go_simp; done) | (go_simp; with_reducible rfl))
                      (try simp only [Act.put, List.setIfInBounds_toArray, List.set_cons_zero, List.set_cons_succ])
                      refine wpAnyH_take (i := 9) (oi := ⟨_, _, _, _, _, _⟩) (v := ?_) rfl (by kernel_rfl) (by kernel_rfl) (by kernel_rfl) (fun _ _ _ h => h) (Or.inl ⟨rfl, ?_⟩) hHeld ?_
                      rotate_left
                      · (intro w hSw)
                        (try dsimp only at hSw)
                        (first | (go_simp; done) | (go_simp; with_reducible rfl))
                      (try simp only [Act.put, List.setIfInBounds_toArray, List.set_cons_zero, List.set_cons_succ])
                      refine wpAnyH_take (i := 10) (oi := ⟨_, _, _, _, _, _⟩) (v := ?_) rfl (by kernel_rfl) (by kernel_rfl) (by kernel_rfl) (fun _ _ _ h => h) (Or.inl ⟨rfl, ?_⟩) hHeld ?_
                      rotate_left
                      · (intro w hSw)
                        (try dsimp only at hSw)
                        (first | (go_simp; done) | (go_simp; with_reducible rfl))
                      (try simp only [Act.put, List.setIfInBounds_toArray, List.set_cons_zero, List.set_cons_succ])
                      refine wpAnyH_take (i := 11) (oi := ⟨_, _, _, _, _, _⟩) (v := ?_) rfl (by kernel_rfl) (by kernel_rfl) (by kernel_rfl) (fun _ _ _ h => h) (Or.inl ⟨rfl, ?_⟩) hHeld ?_
                      rotate_left
                      · (intro w hSw)
                        (try dsimp only at hSw)
                        (first | (go_simp; done) | (go_simp; with_reducible rfl))
                      (try simp only [Act.put, List.setIfInBounds_toArray, List.set_cons_zero, List.set_cons_succ])
                      refine wpAnyH_take (i := 12) (oi := ⟨_, _, _, _, _, _⟩) (v := ?_) rfl (by kernel_rfl) (by kernel_rfl) (by kernel_rfl) (fun _ _ _ h => h) (Or.inl ⟨rfl, ?_⟩) hHeld ?_
                      rotate_left
                      · (intro w hSw)
                        (try dsimp only at hSw)
                        (first | (go_simp; done) | (go_simp; with_reducible rfl))
                      (try simp only [Act.put, List.setIfInBounds_toArray, List.set_cons_zero, List.set_cons_succ])
                      refine wpAnyH_take (i := 13) (oi := ⟨_, _, _, _, _, _⟩) (v := ?_) rfl (by kernel_rfl) (by kernel_rfl) (by kernel_rfl) (fun _ _ _ h => h) (Or.inl ⟨rfl, ?_⟩) hHeld ?_
                      rotate_left
                      · (intro w hSw)
                        (try dsimp only at hSw)
                        (first | (go_simp; done) | (go_simp; with_reducible rfl))
                      (try simp only [Act.put, List.setIfInBounds_toArray, List.set_cons_zero, List.set_cons_succ])
                      refine wpAnyH_take (i := 14) (oi := ⟨_, _, _, _, _, _⟩) (v := ?_) rfl (by kernel_rfl) (by kernel_rfl) (by kernel_rfl) (fun _ _ _ h => h) (Or.inl ⟨rfl, ?_⟩) hHeld ?_
                      rotate_left
                      · (intro w hSw)
                        (try dsimp only at hSw)
                        (first | (go_simp; done) | (go_simp; with_reducible rfl))
                      (try simp only [Act.put, List.setIfInBounds_toArray, List.set_cons_zero, List.set_cons_succ])
                      refine wpAnyH_take (i := 15) (oi := ⟨_, _, _, _, _, _⟩) (v := ?_) rfl (by kernel_rfl) (by kernel_rfl) (by kernel_rfl) (fun _ _ _ h => h) (Or.inl ⟨rfl, ?_⟩) hHeld ?_
                      rotate_left
                      · (intro w hSw)
                        (try dsimp only at hSw)
                        (first | (go_simp; done) | (go_simp; with_reducible rfl))
                      (try simp only [Act.put, List.setIfInBounds_toArray, List.set_cons_zero, List.set_cons_succ])
                      refine wpAnyH_take (i := 16) (oi := ⟨_, _, _, _, _, _⟩) (v := ?_) rfl (by kernel_rfl) (by kernel_rfl) (by kernel_rfl) (fun _ _ _ h => h) (Or.inl ⟨rfl, ?_⟩) hHeld ?_
                      rotate_left
                      · (intro w hSw)
                        (try dsimp only at hSw)
                        (first | (go_simp; done) | (go_simp; with_reducible rfl))
                      (try simp only [Act.put, List.setIfInBounds_toArray, List.set_cons_zero, List.set_cons_succ])
                      refine wpAnyH_take (i := 17) (oi := ⟨_, _, _, _, _, _⟩) (v := ?_) rfl (by kernel_rfl) (by kernel_rfl) (by kernel_rfl) (fun _ _ _ h => h) (Or.inl ⟨rfl, ?_⟩) hHeld ?_
                      rotate_left
                      · (intro w hSw)
                        (try dsimp only at hSw)
                        (first | (go_simp; done) | (go_simp; with_reducible rfl))
                      (try simp only [Act.put, List.setIfInBounds_toArray, List.set_cons_zero, List.set_cons_succ])
                      refine wpAnyH_take (i := 18) (oi := ⟨_, _, _, _, _, _⟩) (v := ?_) rfl (by kernel_rfl) (by kernel_rfl) (by kernel_rfl) (fun _ _ _ h => h) (Or.inl ⟨rfl, ?_⟩) hHeld ?_
                      rotate_left
                      · (intro w hSw)
                        (try dsimp only at hSw)
                        (first | (go_simp; done) | (go_simp; with_reducible rfl))
                      (try simp only [Act.put, List.setIfInBounds_toArray, List.set_cons_zero, List.set_cons_succ])
                      refine wpAnyH_take (i := 19) (oi := ⟨_, _, _, _, _, _⟩) (v := ?_) rfl (by kernel_rfl) (by kernel_rfl) (by kernel_rfl) (fun _ _ _ h => h) (Or.inl ⟨rfl, ?_⟩) hHeld ?_
                      rotate_left
                      · (intro w hSw)
                        (try dsimp only at hSw)
                        (first | (go_simp; done) | (go_simp; with_reducible rfl))
                      (try simp only [Act.put, List.setIfInBounds_toArray, List.set_cons_zero, List.set_cons_succ])
                      refine wpAnyH_take (i := 20) (oi := ⟨_, _, _, _, _, _⟩) (v := ?_) rfl (by kernel_rfl) (by kernel_rfl) (by kernel_rfl) (fun _ _ _ h => h) (Or.inl ⟨rfl, ?_⟩) hHeld ?_
                      rotate_left
                      · (intro w hSw)
                        (try dsimp only at hSw)
                        (first | (go_simp; done) | (go_simp; with_reducible rfl))
                      (try simp only [Act.put, List.setIfInBounds_toArray, List.set_cons_zero, List.set_cons_succ])
                      refine wpAnyH_take (i := 21) (oi := ⟨_, _, _, _, _, _⟩) (v := ?_) rfl (by kernel_rfl) (by kernel_rfl) (by kernel_rfl) (fun _ _ _ h => h) (Or.inl ⟨rfl, ?_⟩) hHeld ?_
                      rotate_left
                      · (intro w hSw)
                        (try dsimp only at hSw)
                        (first | (go_simp; done) | (go_simp; with_reducible rfl))
                      (try simp only [Act.put, List.setIfInBounds_toArray, List.set_cons_zero, List.set_cons_succ])
                      refine wpAnyH_take (i := 22) (oi := ⟨_, _, _, _, _, _⟩) (v := ?_) rfl (by kernel_rfl) (by kernel_rfl) (by kernel_rfl) (fun _ _ _ h => h) (Or.inl ⟨rfl, ?_⟩) hHeld ?_
                      rotate_left
                      · (intro w hSw)
                        (try dsimp only at hSw)
                        (first | (go_simp; done) | (go_simp; with_reducible rfl))
                      (try simp only [Act.put, List.setIfInBounds_toArray, List.set_cons_zero, List.set_cons_succ])
                      refine wpAnyH_take (i := 23) (oi := ⟨_, _, _, _, _, _⟩) (v := ?_) rfl (by kernel_rfl) (by kernel_rfl) (by kernel_rfl) (fun _ _ _ h => h) (Or.inl ⟨rfl, ?_⟩) hHeld ?_
                      rotate_left
                      · (intro w hSw)
                        (try dsimp only at hSw)
                        (first | (go_simp; done) | (go_simp; with_reducible rfl))
                      (try simp only [Act.put, List.setIfInBounds_toArray, List.set_cons_zero, List.set_cons_succ])
                      refine wpAnyH_take (i := 24) (oi := ⟨_, _, _, _, _, _⟩) (v := undef) rfl (by kernel_rfl) (by kernel_rfl) (by kernel_rfl) (fun _ _ _ h => h) (Or.inr ⟨rfl, rfl⟩) hHeld ?_
                      (try simp only [Act.put, List.setIfInBounds_toArray, List.set_cons_zero, List.set_cons_succ])
                      refine wpAnyH_take (i := 25) (oi := ⟨_, _, _, _, _, _⟩) (v := undef) rfl (by kernel_rfl) (by kernel_rfl) (by kernel_rfl) (fun _ _ _ h => h) (Or.inr ⟨rfl, rfl⟩) hHeld ?_
                      (try simp only [Act.put, List.setIfInBounds_toArray, List.set_cons_zero, List.set_cons_succ])
                      refine wpAnyH_take (i := 26) (oi := ⟨_, _, _, _, _, _⟩) (v := undef) rfl (by kernel_rfl) (by kernel_rfl) (by kernel_rfl) (fun _ _ _ h => h) (Or.inr ⟨rfl, rfl⟩) hHeld ?_
                      (try simp only [Act.put, List.setIfInBounds_toArray, List.set_cons_zero, List.set_cons_succ])
                      refine wpAnyH_take (i := 27) (oi := ⟨_, _, _, _, _, _⟩) (v := undef) rfl (by kernel_rfl) (by kernel_rfl) (by kernel_rfl) (fun _ _ _ h => h) (Or.inr ⟨rfl, rfl⟩) hHeld ?_
                      (try simp only [Act.put, List.setIfInBounds_toArray, List.set_cons_zero, List.set_cons_succ])
                      refine wpAnyH_take (i := 28) (oi := ⟨_, _, _, _, _, _⟩) (v := undef) rfl (by kernel_rfl) (by kernel_rfl) (by kernel_rfl) (fun _ _ _ h => h) (Or.inr ⟨rfl, rfl⟩) hHeld ?_
                      (try simp only [Act.put, List.setIfInBounds_toArray, List.set_cons_zero, List.set_cons_succ])
                      refine wpAnyH_take (i := 29) (oi := ⟨_, _, _, _, _, _⟩) (v := undef) rfl (by kernel_rfl) (by kernel_rfl) (by kernel_rfl) (fun _ _ _ h => h) (Or.inr ⟨rfl, rfl⟩) hHeld ?_
                      (try simp only [Act.put, List.setIfInBounds_toArray, List.set_cons_zero, List.set_cons_succ])
                      refine wpAnyH_take (i := 30) (oi := ⟨_, _, _, _, _, _⟩) (v := undef) rfl (by kernel_rfl) (by kernel_rfl) (by kernel_rfl) (fun _ _ _ h => h) (Or.inr ⟨rfl, rfl⟩) hHeld ?_
                      (try simp only [Act.put, List.setIfInBounds_toArray, List.set_cons_zero, List.set_cons_succ])
                      refine wpAnyH_take (i := 31) (oi := ⟨_, _, _, _, _, _⟩) (v := undef) rfl (by kernel_rfl) (by kernel_rfl) (by kernel_rfl) (fun _ _ _ h => h) (Or.inr ⟨rfl, rfl⟩) hHeld ?_
                      (try simp only [Act.put, List.setIfInBounds_toArray, List.set_cons_zero, List.set_cons_succ])
                      refine wpAnyH_take (i := 32) (oi := ⟨_, _, _, _, _, _⟩) (v := undef) rfl (by kernel_rfl) (by kernel_rfl) (by kernel_rfl) (fun _ _ _ h => h) (Or.inr ⟨rfl, rfl⟩) hHeld ?_
                      (try simp only [Act.put, List.setIfInBounds_toArray, List.set_cons_zero, List.set_cons_succ])
                      refine wpAnyH_take (i := 33) (oi := ⟨_, _, _, _, _, _⟩) (v := ?_) rfl (by kernel_rfl) (by kernel_rfl) (by kernel_rfl) (fun _ _ _ h => h) (Or.inl ⟨rfl, ?_⟩) hHeld ?_
                      rotate_left
                      · (intro w hSw)
                        (try dsimp only at hSw)
                        (first | (go_simp; done) | (go_simp; with_reducible rfl))
                      (try simp only [Act.put, List.setIfInBounds_toArray, List.set_cons_zero, List.set_cons_succ])
                      refine wpAnyH_take (i := 34) (oi := ⟨_, _, _, _, _, _⟩) (v := ?_) rfl (by kernel_rfl) (by kernel_rfl) (by kernel_rfl) (fun _ _ _ h => h) (Or.inl ⟨rfl, ?_⟩) hHeld ?_
                      rotate_left
                      · (intro w hSw)
                        (try dsimp only at hSw)
                        (first | (go_simp; done) | (go_simp; with_reducible rfl))
                      (try simp only [Act.put, List.setIfInBounds_toArray, List.set_cons_zero, List.set_cons_succ])
                      refine wpAnyH_done (by kernel_rfl) ?_ _
                      refine NoPanic.normal ?_
                      go_wp2
                      go_roundw
                      case rel => first | exact HEND.out _ H0.out H1.out (below_drew HBL.out) | ((repeat apply Exists.intro); exact ⟨HEND.out _ H0.out H1.out (below_drew HBL.out), rfl⟩)
                      case measure => simp [intOf]; omega
                    · have hj0 := eqW_t (show y = x by rw [HF1]; unfold gone; rw [if_neg (fun q => q1 q.1)])
                      have q2 : (x.k == k) = false := by simp [q1]
                      have q3 : (x.k != k) = true := by simp [q1]
                      clear q1 HF1
                      go_upto_region 23 with fail
                      refine wp_region_noPanic ?_
                      refine wp_region_held_drew (S := (fun w' => w'.cell? ⟨w.heap.size, 70 + j * 7, none⟩ = some (.int .i64 x.k) ∧ w'.cell? ⟨w.heap.size, 70 + j * 7 + 1, none⟩ = some (.int .i64 x.t) ∧ w'.cell? ⟨w.heap.size, 70 + j * 7 + 2, none⟩ = some (.int .i64 x.i) ∧ w'.cell? ⟨w.heap.size, 70 + j * 7 + 3, none⟩ = some (.int .i64 x.l) ∧ w'.cell? ⟨w.heap.size, 70 + j * 7 + 4, none⟩ = some (.bool x.m) ∧ w'.cell? ⟨w.heap.size, 70 + j * 7 + 5, none⟩ = some (.int .u64 (x.a : Nat)) ∧ w'.cell? ⟨w.heap.size, 70 + j * 7 + 6, none⟩ = some (.int .u64 (x.b : Nat)) ∧ w'.cell? ⟨bF, 70 + j * 7, none⟩ = some (.int .i64 y.k) ∧ w'.cell? ⟨bF, 70 + j * 7 + 1, none⟩ = some (.int .i64 y.t) ∧ w'.cell? ⟨bF, 70 + j * 7 + 2, none⟩ = some (.int .i64 y.i) ∧ w'.cell? ⟨bF, 70 + j * 7 + 3, none⟩ = some (.int .i64 y.l) ∧ w'.cell? ⟨bF, 70 + j * 7 + 4, none⟩ = some (.bool y.m) ∧ w'.cell? ⟨bF, 70 + j * 7 + 5, none⟩ = some (.int .u64 (y.a : Nat)) ∧ w'.cell? ⟨bF, 70 + j * 7 + 6, none⟩ = some (.int .u64 (y.b : Nat)))) (by kernel_rfl) ?_ (fun hHeld => ?_)
                      · (try dsimp only)
                        go_keep
                      refine wpAnyH_take (i := 0) (oi := ⟨_, _, _, _, _, _⟩) (v := ?_) rfl (by kernel_rfl) (by kernel_rfl) (by kernel_rfl) (fun _ _ _ h => h) (Or.inl ⟨rfl, ?_⟩) hHeld ?_
                      rotate_left
                      · (intro w hSw)
                        (try dsimp only at hSw)
                        (first | (go_simp; done) | (go_simp; with_reducible rfl))
                      (try simp only [Act.put, List.setIfInBounds_toArray, List.set_cons_zero, List.set_cons_succ])
                      refine wpAnyH_take (i := 1) (oi := ⟨_, _, _, _, _, _⟩) (v := ?_) rfl (by kernel_rfl) (by kernel_rfl) (by kernel_rfl) (fun _ _ _ h => h) (Or.inl ⟨rfl, ?_⟩) hHeld ?_
                      rotate_left
                      · (intro w hSw)
                        (try dsimp only at hSw)
                        (first | (go_simp; done) | (go_simp; with_reducible rfl))
                      (try simp only [Act.put, List.setIfInBounds_toArray, List.set_cons_zero, List.set_cons_succ])
                      refine wpAnyH_take (i := 2) (oi := ⟨_, _, _, _, _, _⟩) (v := ?_) rfl (by kernel_rfl) (by kernel_rfl) (by kernel_rfl) (fun _ _ _ h => h) (Or.inl ⟨rfl, ?_⟩) hHeld ?_
                      rotate_left
                      · (intro w hSw)
                        (try dsimp only at hSw)
                        (first | (go_simp; done) | (go_simp; with_reducible rfl))
                      (try simp only [Act.put, List.setIfInBounds_toArray, List.set_cons_zero, List.set_cons_succ])
                      refine wpAnyH_take (i := 3) (oi := ⟨_, _, _, _, _, _⟩) (v := ?_) rfl (by kernel_rfl) (by kernel_rfl) (by kernel_rfl) (fun _ _ _ h => h) (Or.inl ⟨rfl, ?_⟩) hHeld ?_
                      rotate_left
                      · (intro w hSw)
                        (try dsimp only at hSw)
                        (first | (go_simp; done) | (go_simp; with_reducible rfl))
                      (try simp only [Act.put, List.setIfInBounds_toArray, List.set_cons_zero, List.set_cons_succ])
                      refine wpAnyH_take (i := 4) (oi := ⟨_, _, _, _, _, _⟩) (v := ?_) rfl (by kernel_rfl) (by kernel_rfl) (by kernel_rfl) (fun _ _ _ h => h) (Or.inl ⟨rfl, ?_⟩) hHeld ?_
                      rotate_left
                      · (intro w hSw)
                        (try dsimp only at hSw)
                        (first | (go_simp; done) | (go_simp; with_reducible rfl))
                      (try simp only [Act.put, List.setIfInBounds_toArray, List.set_cons_zero, List.set_cons_succ])
                      refine wpAnyH_take (i := 5) (oi := ⟨_, _, _, _, _, _⟩) (v := ?_) rfl (by kernel_rfl) (by kernel_rfl) (by kernel_rfl) (fun _ _ _ h => h) (Or.inl ⟨rfl, ?_⟩) hHeld ?_
                      rotate_left
                      · (intro w hSw)
                        (try dsimp only at hSw)
                        (first | (go_simp; done) | (go_simp; with_reducible rfl))
                      (try simp only [Act.put, List.setIfInBounds_toArray, List.set_cons_zero, List.set_cons_succ])
                      refine wpAnyH_take (i := 6) (oi := ⟨_, _, _, _, _, _⟩) (v := ?_) rfl (by kernel_rfl) (by kernel_rfl) (by kernel_rfl) (fun _ _ _ h => h) (Or.inl ⟨rfl, ?_⟩) hHeld ?_
                      rotate_left
                      · (intro w hSw)
                        (try dsimp only at hSw)
                        (first | (go_simp; done) | (go_simp; with_reducible rfl))
                      (try simp only [Act.put, List.setIfInBounds_toArray, List.set_cons_zero, List.set_cons_succ])
                      refine wpAnyH_take (i := 7) (oi := ⟨_, _, _, _, _, _⟩) (v := ?_) rfl (by kernel_rfl) (by kernel_rfl) (by kernel_rfl) (fun _ _ _ h => h) (Or.inl ⟨rfl, ?_⟩) hHeld ?_
                      rotate_left
                      · (intro w hSw)
                        (try dsimp only at hSw)
                        (first | (go_simp; done) | (go_simp; with_reducible rfl))
                      (try simp only [Act.put, List.setIfInBounds_toArray, List.set_cons_zero, List.set_cons_succ])
                      refine wpAnyH_take (i := 8) (oi := ⟨_, _, _, _, _, _⟩) (v := undef) rfl (by kernel_rfl) (by kernel_rfl) (by kernel_rfl) (fun _ _ _ h => h) (Or.inr ⟨rfl, rfl⟩) hHeld ?_
                      (try simp only [Act.put, List.setIfInBounds_toArray, List.set_cons_zero, List.set_cons_succ])
                      refine wpAnyH_take (i := 9) (oi := ⟨_, _, _, _, _, _⟩) (v := undef) rfl (by kernel_rfl) (by kernel_rfl) (by kernel_rfl) (fun _ _ _ h => h) (Or.inr ⟨rfl, rfl⟩) hHeld ?_
                      (try simp only [Act.put, List.setIfInBounds_toArray, List.set_cons_zero, List.set_cons_succ])
                      refine wpAnyH_take (i := 10) (oi := ⟨_, _, _, _, _, _⟩) (v := undef) rfl (by kernel_rfl) (by kernel_rfl) (by kernel_rfl) (fun _ _ _ h => h) (Or.inr ⟨rfl, rfl⟩) hHeld ?_
                      (try simp only [Act.put, List.setIfInBounds_toArray, List.set_cons_zero, List.set_cons_succ])
                      refine wpAnyH_take (i := 11) (oi := ⟨_, _, _, _, _, _⟩) (v := undef) rfl (by kernel_rfl) (by kernel_rfl) (by kernel_rfl) (fun _ _ _ h => h) (Or.inr ⟨rfl, rfl⟩) hHeld ?_
                      (try simp only [Act.put, List.setIfInBounds_toArray, List.set_cons_zero, List.set_cons_succ])
                      refine wpAnyH_take (i := 12) (oi := ⟨_, _, _, _, _, _⟩) (v := undef) rfl (by kernel_rfl) (by kernel_rfl) (by kernel_rfl) (fun _ _ _ h => h) (Or.inr ⟨rfl, rfl⟩) hHeld ?_
                      (try simp only [Act.put, List.setIfInBounds_toArray, List.set_cons_zero, List.set_cons_succ])
                      refine wpAnyH_take (i := 13) (oi := ⟨_, _, _, _, _, _⟩) (v := undef) rfl (by kernel_rfl) (by kernel_rfl) (by kernel_rfl) (fun _ _ _ h => h) (Or.inr ⟨rfl, rfl⟩) hHeld ?_
                      (try simp only [Act.put, List.setIfInBounds_toArray, List.set_cons_zero, List.set_cons_succ])
                      refine wpAnyH_take (i := 14) (oi := ⟨_, _, _, _, _, _⟩) (v := ?_) rfl (by kernel_rfl) (by kernel_rfl) (by kernel_rfl) (fun _ _ _ h => h) (Or.inl ⟨rfl, ?_⟩) hHeld ?_
                      rotate_left
                      · (intro w hSw)
                        (try dsimp only at hSw)
                        (first | (go_simp; done) | (go_simp; with_reducible rfl))
                      (try simp only [Act.put, List.setIfInBounds_toArray, List.set_cons_zero, List.set_cons_succ])
                      refine wpAnyH_take (i := 15) (oi := ⟨_, _, _, _, _, _⟩) (v := ?_) rfl (by kernel_rfl) (by kernel_rfl) (by kernel_rfl) (fun _ _ _ h => h) (Or.inl ⟨rfl, ?_⟩) hHeld ?_
                      rotate_left
                      · (intro w hSw)
                        (try dsimp only at hSw)
                        (first | (go_simp; done) | (go_simp; with_reducible rfl))
                      (try simp only [Act.put, List.setIfInBounds_toArray, List.set_cons_zero, List.set_cons_succ])
                      refine wpAnyH_take (i := 16) (oi := ⟨_, _, _, _, _, _⟩) (v := ?_) rfl (by kernel_rfl) (by kernel_rfl) (by kernel_rfl) (fun _ _ _ h => h) (Or.inl ⟨rfl, ?_⟩) hHeld ?_
                      rotate_left
                      · (intro w hSw)
                        (try dsimp only at hSw)
                        (first | (go_simp; done) | (go_simp; with_reducible rfl))
                      (try simp only [Act.put, List.setIfInBounds_toArray, List.set_cons_zero, List.set_cons_succ])
                      refine wpAnyH_take (i := 17) (oi := ⟨_, _, _, _, _, _⟩) (v := ?_) rfl (by kernel_rfl) (by kernel_rfl) (by kernel_rfl) (fun _ _ _ h => h) (Or.inl ⟨rfl, ?_⟩) hHeld ?_
                      rotate_left
                      · (intro w hSw)
                        (try dsimp only at hSw)
                        (first | (go_simp; done) | (go_simp; with_reducible rfl))
                      (try simp only [Act.put, List.setIfInBounds_toArray, List.set_cons_zero, List.set_cons_succ])
                      refine wpAnyH_take (i := 18) (oi := ⟨_, _, _, _, _, _⟩) (v := ?_) rfl (by kernel_rfl) (by kernel_rfl) (by kernel_rfl) (fun _ _ _ h => h) (Or.inl ⟨rfl, ?_⟩) hHeld ?_
                      rotate_left
                      · (intro w hSw)
                        (try dsimp only at hSw)
                        (first | (go_simp; done) | (go_simp; with_reducible rfl))
                      (try simp only [Act.put, List.setIfInBounds_toArray, List.set_cons_zero, List.set_cons_succ])
                      refine wpAnyH_take (i := 19) (oi := ⟨_, _, _, _, _, _⟩) (v := ?_) rfl (by kernel_rfl) (by kernel_rfl) (by kernel_rfl) (fun _ _ _ h => h) (Or.inl ⟨rfl, ?_⟩) hHeld ?_
                      rotate_left
                      · (intro w hSw)
                        (try dsimp only at hSw)
                        (first | (go_simp; done) | (go_simp; with_reducible rfl))
                      (try simp only [Act.put, List.setIfInBounds_toArray, List.set_cons_zero, List.set_cons_succ])
                      refine wpAnyH_take (i := 20) (oi := ⟨_, _, _, _, _, _⟩) (v := ?_) rfl (by kernel_rfl) (by kernel_rfl) (by kernel_rfl) (fun _ _ _ h => h) (Or.inl ⟨rfl, ?_⟩) hHeld ?_
                      rotate_left
                      · (intro w hSw)
                        (try dsimp only at hSw)
                        (first | (go_simp; done) | (go_simp; with_reducible rfl))
                      (try simp only [Act.put, List.setIfInBounds_toArray, List.set_cons_zero, List.set_cons_succ])
                      refine wpAnyH_take (i := 21) (oi := ⟨_, _, _, _, _, _⟩) (v := ?_) rfl (by kernel_rfl) (by kernel_rfl) (by kernel_rfl) (fun _ _ _ h => h) (Or.inl ⟨rfl, ?_⟩) hHeld ?_
                      rotate_left
                      · (intro w hSw)
                        (try dsimp only at hSw)
                        (first | (go_simp; done) | (go_simp; with_reducible rfl))
                      (try simp only [Act.put, List.setIfInBounds_toArray, List.set_cons_zero, List.set_cons_succ])
                      refine wpAnyH_take (i := 22) (oi := ⟨_, _, _, _, _, _⟩) (v := ?_) rfl (by kernel_rfl) (by kernel_rfl) (by kernel_rfl) (fun _ _ _ h => h) (Or.inl ⟨rfl, ?_⟩) hHeld ?_
                      rotate_left
                      · (intro w hSw)
                        (try dsimp only at hSw)
                        (first | (go_simp; done) | (go_simp; with_reducible rfl))
                      (try simp only [Act.put, List.setIfInBounds_toArray, List.set_cons_zero, List.set_cons_succ])
                      refine wpAnyH_take (i := 23) (oi := ⟨_, _, _, _, _, _⟩) (v := ?_) rfl (by kernel_rfl) (by kernel_rfl) (by kernel_rfl) (fun _ _ _ h => h) (Or.inl ⟨rfl, ?_⟩) hHeld ?_
                      rotate_left
                      · (intro w hSw)
                        (try dsimp only at hSw)
                        (first | (go_simp; done) | (go_simp; with_reducible rfl))
                      (try simp only [Act.put, List.setIfInBounds_toArray, List.set_cons_zero, List.set_cons_succ])
                      refine wpAnyH_take (i := 24) (oi := ⟨_, _, _, _, _, _⟩) (v := ?_) rfl (by kernel_rfl) (by kernel_rfl) (by kernel_rfl) (fun _ _ _ h => h) (Or.inl ⟨rfl, ?_⟩) hHeld ?_
                      rotate_left
                      · (intro w hSw)
                        (try dsimp only at hSw)
                        (first | (go_simp; done) | (go_simp; with_reducible rfl))
                      (try simp only [Act.put, List.setIfInBounds_toArray, List.set_cons_zero, List.set_cons_succ])
                      refine wpAnyH_take (i := 25) (oi := ⟨_, _, _, _, _, _⟩) (v := ?_) rfl (by kernel_rfl) (by kernel_rfl) (by kernel_rfl) (fun _ _ _ h => h) (Or.inl ⟨rfl, ?_⟩) hHeld ?_
                      rotate_left
                      · (intro w hSw)
                        (try dsimp only at hSw)
                        (first | (go_simp; done) | (go_simp; with_reducible rfl))
                      (try simp only [Act.put, List.setIfInBounds_toArray, List.set_cons_zero, List.set_cons_succ])
                      refine wpAnyH_take (i := 26) (oi := ⟨_, _, _, _, _, _⟩) (v := ?_) rfl (by kernel_rfl) (by kernel_rfl) (by kernel_rfl) (fun _ _ _ h => h) (Or.inl ⟨rfl, ?_⟩) hHeld ?_
                      rotate_left
                      · (intro w hSw)
                        (try dsimp only at hSw)
                        (first | (go_simp; done) | (go_simp; with_reducible rfl))
                      (try simp only [Act.put, List.setIfInBounds_toArray, List.set_cons_zero, List.set_cons_succ])
                      refine wpAnyH_take (i := 27) (oi := ⟨_, _, _, _, _, _⟩) (v := ?_) rfl (by kernel_rfl) (by kernel_rfl) (by kernel_rfl) (fun _ _ _ h => h) (Or.inl ⟨rfl, ?_⟩) hHeld ?_
                      rotate_left
                      · (intro w hSw)
                        (try dsimp only at hSw)
                        (first | (go_simp; done) | (go_simp; with_reducible rfl))
                      (try simp only [Act.put, List.setIfInBounds_toArray, List.set_cons_zero, List.set_cons_succ])
                      refine wpAnyH_take (i := 28) (oi := ⟨_, _, _, _, _, _⟩) (v := ?_) rfl (by kernel_rfl) (by kernel_rfl) (by kernel_rfl) (fun _ _ _ h => h) (Or.inl ⟨rfl, ?_⟩) hHeld ?_
                      rotate_left
                      · (intro w hSw)
                        (try dsimp only at hSw)
                        (first | (go_simp; done) | (go_simp; with_reducible rfl))
                      (try simp only [Act.put, List.setIfInBounds_toArray, List.set_cons_zero, List.set_cons_succ])
                      refine wpAnyH_take (i := 29) (oi := ⟨_, _, _, _, _, _⟩) (v := ?_) rfl (by kernel_rfl) (by kernel_rfl) (by kernel_rfl) (fun _ _ _ h => h) (Or.inl ⟨rfl, ?_⟩) hHeld ?_
                      rotate_left
                      · (intro w hSw)
                        (try dsimp only at hSw)
                        (first | (go_simp; done) | (go_simp; with_reducible rfl))
                      (try simp only [Act.put, List.setIfInBounds_toArray, List.set_cons_zero, List.set_cons_succ])
                      refine wpAnyH_take (i := 30) (oi := ⟨_, _, _, _, _, _⟩) (v := ?_) rfl (by kernel_rfl) (by kernel_rfl) (by kernel_rfl) (fun _ _ _ h => h) (Or.inl ⟨rfl, ?_⟩) hHeld ?_
                      rotate_left
                      · (intro w hSw)
                        (try dsimp only at hSw)
                        (first | (go_simp; done) | (go_simp; with_reducible rfl))
                      (try simp only [Act.put, List.setIfInBounds_toArray, List.set_cons_zero, List.set_cons_succ])
                      refine wpAnyH_take (i := 31) (oi := ⟨_, _, _, _, _, _⟩) (v := ?_) rfl (by kernel_rfl) (by kernel_rfl) (by kernel_rfl) (fun _ _ _ h => h) (Or.inl ⟨rfl, ?_⟩) hHeld ?_
                      rotate_left
                      · (intro w hSw)
                        (try dsimp only at hSw)
                        (first | (go_simp; done) | (go_simp; with_reducible rfl))
                      (try simp only [Act.put, List.setIfInBounds_toArray, List.set_cons_zero, List.set_cons_succ])
                      refine wpAnyH_take (i := 32) (oi := ⟨_, _, _, _, _, _⟩) (v := ?_) rfl (by kernel_rfl) (by kernel_rfl) (by kernel_rfl) (fun _ _ _ h => h) (Or.inl ⟨rfl, ?_⟩) hHeld ?_
                      rotate_left
                      · (intro w hSw)
                        (try dsimp only at hSw)
                        (first | (go_simp; done) | (go_simp; with_reducible rfl))
                      (try simp only [Act.put, List.setIfInBounds_toArray, List.set_cons_zero, List.set_cons_succ])
                      refine wpAnyH_take (i := 33) (oi := ⟨_, _, _, _, _, _⟩) (v := ?_) rfl (by kernel_rfl) (by kernel_rfl) (by kernel_rfl) (fun _ _ _ h => h) (Or.inl ⟨rfl, ?_⟩) hHeld ?_
                      rotate_left
                      · (intro w hSw)
                        (try dsimp only at hSw)
                        (first | (go_simp; done) | (go_simp; with_reducible rfl))
                      (try simp only [Act.put, List.setIfInBounds_toArray, List.set_cons_zero, List.set_cons_succ])
                      refine wpAnyH_take (i := 34) (oi := ⟨_, _, _, _, _, _⟩) (v := ?_) rfl (by kernel_rfl) (by kernel_rfl) (by kernel_rfl) (fun _ _ _ h => h) (Or.inl ⟨rfl, ?_⟩) hHeld ?_
                      rotate_left
                      · (intro w hSw)
                        (try dsimp only at hSw)
                        (first | (go_simp; done) | (go_simp; with_reducible rfl))
                      (try simp only [Act.put, List.setIfInBounds_toArray, List.set_cons_zero, List.set_cons_succ])
                      refine wpAnyH_done (by kernel_rfl) ?_ _
                      refine NoPanic.normal ?_
                      go_wp2
                      go_roundw
                      case rel => first | exact HEND.out _ H0.out H1.out (below_drew HBL.out) | ((repeat apply Exists.intro); exact ⟨HEND.out _ H0.out H1.out (below_drew HBL.out), rfl⟩)
                      case measure => simp [intOf]; omega
                  · have : j = 8 := by omega
                    subst this
                    clear hlt hj
                    obtain ⟨r0, r1, r2, r3⟩ := H0.out.rest
                    obtain ⟨q0, q1, q2, q3⟩ := H1.out.rest
                    rw [HFL.out.1] at q1
                    rw [HFL.out.2.1] at q2
                    rw [HFL.out.2.2] at q3
                    go_wp2
                    go_ret
                    exact ⟨rfl, HBL.out⟩
end Go.Proofs.Ytglfmcgpbenckaa
