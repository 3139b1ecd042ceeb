/- The walk of turnbuckleref17.Forget. -/
import Derived.Test.YtglfmcgpbenckaaStateSame
namespace Go.Proofs.Ytglfmcgpbenckaa
open Go.RowKit
set_option linter.unusedVariables false
set_option linter.unusedSimpArgs false
theorem set7_far {w : World} {b c : Nat} {s : St} (h : Has w b s) (n : ¬ b = c) (p : Nat) (x : Wh) : Has (set7 w c p x) b s :=
  Only.has ((Only.refl c w).set7 p x) h n
theorem set7_below {u w : World} (h : Below u.heap.size u w) {c : Nat} (hc : u.heap.size ≤ c) (p : Nat) (x : Wh) : Below u.heap.size u (set7 w c p x) :=
  ((Only.refl c w).set7 p x).below h hc
set_option maxRecDepth 100000 in
set_option maxHeartbeats 4000000 in
theorem rforget_any (s : St) (k id : Int) (R : St) (hR : (s.forget k id 0 10).forget k id 10 8 = R) (w : World) :
    Calls Try.prog 16 #[.agg s.arr, .int .i64 k, .int .i64 id] w fun e w' => e = .returned (.agg R.arr) ∧ Below w.heap.size w w' := by
  have HR := Lib.hid hR
  clear hR
  have hz := zeroSt
  go_enter Try.func16, Try.ntmps16
  go_upto_region 1 with fail
  refine named (P := fun W => Code.wp _ _ _ _ W) (fun W => Has W w.heap.size s ∧ Has W (w.heap.size + 1) st0 ∧ Below w.heap.size w W)
    ⟨(Has.new w s rfl).alloc _, Has.new _ _ (by simp), below_alloc (below_alloc (Below.refl _ _) _) _⟩ ?_
  rintro W ⟨h0, h1, HB⟩
  have H0 := Lib.hid h0
  have H1 := Lib.hid h1
  have HBL := Lib.hid HB
  clear h0 h1 HB hz
  go_wp2
  go_loopw [7] (fun v wr => ∃ j : Nat, j ≤ 10 ∧ v = .int .i64 j ∧ Has wr w.heap.size (s.forget k id 0 j) ∧ Has wr (w.heap.size + 1) st0 ∧ Below w.heap.size w wr) (fun v _ => 10 - (intOf v).toNat)
  case atStart => exact ⟨0, Nat.zero_le _, rfl, by rw [St.forget_zero]; exact H0.out, H1.out, HBL.out⟩
  case round =>
    obtain ⟨j, hj, rfl, h0, h1, hb⟩ := hrel
    have H0 := Lib.hid h0
    have H1 := Lib.hid h1
    have HBL := Lib.hid hb
    clear h0 h1 hb
    by_cases hlt : j < 10
    · have hlt' : (j : Int) < 10 := by omega
      have h0' : (0 : Int) ≤ j := by omega
      have e7 := H0.out.seven (0 + j) (by omega)
      rw [St.forget_at, show (0 + j) * 7 = j * 7 from by omega] at e7
      obtain ⟨x, hx⟩ : ∃ x, s.f (0 + j) = x := ⟨_, rfl⟩
      rw [hx] at e7
      obtain ⟨c0, c1, c2, c3, c4, c5, c6⟩ := e7
      have HX := Lib.hid hx
      clear hx
      have f0 := H0.out.free (j * 7)
      have f1 := H0.out.free (j * 7 + 1)
      have f2 := H0.out.free (j * 7 + 2)
      have f3 := H0.out.free (j * 7 + 3)
      have f4 := H0.out.free (j * 7 + 4)
      have f5 := H0.out.free (j * 7 + 5)
      have f6 := H0.out.free (j * 7 + 6)
      have HEND := Lib.hid (show ∀ W : World, Has W w.heap.size ((s.forget k id 0 j).put (0 + j) (gone k id x)) → Has W (w.heap.size + 1) st0 → Below w.heap.size w W → ∃ q : Nat, q ≤ 10 ∧ Value.int .i64 ((j : Int) + 1) = .int .i64 q ∧ Has W w.heap.size (s.forget k id 0 q) ∧ Has W (w.heap.size + 1) st0 ∧ Below w.heap.size w W from
        fun W g1 g2 g3 => ⟨j + 1, hlt, by go_num, by rw [St.forget_succ, HX.out]; exact g1, g2, g3⟩)
      have HSTAY := Lib.hid (show gone k id x = x → Has wr w.heap.size ((s.forget k id 0 j).put (0 + j) (gone k id x)) from fun hg => by
        rw [hg, St.put_same _ _ _ (by rw [St.forget_at]; exact HX.out)]; exact H0.out)
      have HGO := Lib.hid (show gone k id x = junk → Has (set7 wr w.heap.size (j * 7) junk) w.heap.size ((s.forget k id 0 j).put (0 + j) (gone k id x)) ∧ Has (set7 wr w.heap.size (j * 7) junk) (w.heap.size + 1) st0 ∧ Below w.heap.size w (set7 wr w.heap.size (j * 7) junk) from fun hg => by
        rw [hg]
        exact ⟨H0.out.put _ _ _ (by omega) (by omega), set7_far H1.out (by omega) _ _, set7_below HBL.out (Nat.le_refl _) _ _⟩)
      by_cases q1 : x.k = k
      · have q1' : (x.k == k) = true := by simp [q1]
        by_cases q2 : id = 0
        · have q2' : (id == 0) = true := by simp [q2]
          have HG := Lib.hid (show gone k id x = junk by unfold gone; rw [if_pos ⟨q1, .inl q2⟩])
          clear q1 q2
          go_wp2
          go_roundw
          case rel => exact HEND.out _ (HGO.out HG.out).1 (HGO.out HG.out).2.1 (HGO.out HG.out).2.2
          case measure => simp [intOf]; omega
        · have q2' : (id == 0) = false := by simp [q2]
          by_cases q3 : x.i = id
          · have q3' : (x.i == id) = true := by simp [q3]
            have HG := Lib.hid (show gone k id x = junk by unfold gone; rw [if_pos ⟨q1, .inr q3⟩])
            clear q1 q2 q3
            go_wp2
            go_roundw
            case rel => exact HEND.out _ (HGO.out HG.out).1 (HGO.out HG.out).2.1 (HGO.out HG.out).2.2
            case measure => simp [intOf]; omega
          · have q3' : (x.i == id) = false := by simp [q3]
            have HG := Lib.hid (show gone k id x = x by unfold gone; rw [if_neg (fun q => q.2.elim q2 q3)])
            clear q1 q2 q3
            go_wp2
            go_roundw
            case rel => exact HEND.out _ (HSTAY.out HG.out) H1.out HBL.out
            case measure => simp [intOf]; omega
      · have q1' : (x.k == k) = false := by simp [q1]
        have HG := Lib.hid (show gone k id x = x by unfold gone; rw [if_neg (fun q => q1 q.1)])
        clear q1
        go_wp2
        go_roundw
        case rel => exact HEND.out _ (HSTAY.out HG.out) H1.out HBL.out
        case measure => simp [intOf]; omega
    · have : j = 10 := by omega
      subst this
      clear hlt hj
      go_wp2
      go_loopw [8] (fun v wr => ∃ j : Nat, j ≤ 8 ∧ v = .int .i64 j ∧ Has wr w.heap.size ((s.forget k id 0 10).forget k id 10 j) ∧ Has wr (w.heap.size + 1) st0 ∧ Below w.heap.size w wr) (fun v _ => 8 - (intOf v).toNat)
      case atStart => exact ⟨0, Nat.zero_le _, rfl, by rw [St.forget_zero]; exact H0.out, H1.out, HBL.out⟩
      case round =>
        obtain ⟨j, hj, rfl, h0, h1, hb⟩ := hrel
        have H0 := Lib.hid h0
        have H1 := Lib.hid h1
        have HBL := Lib.hid hb
        clear h0 h1 hb
        by_cases hlt : j < 8
        · have hlt' : (j : Int) < 8 := by omega
          have h0' : (0 : Int) ≤ j := by omega
          have e7 := H0.out.seven (10 + j) (by omega)
          rw [St.forget_at, show (10 + j) * 7 = 70 + j * 7 from by omega] at e7
          obtain ⟨x, hx⟩ : ∃ x, (s.forget k id 0 10).f (10 + j) = x := ⟨_, rfl⟩
          rw [hx] at e7
          obtain ⟨c0, c1, c2, c3, c4, c5, c6⟩ := e7
          have HX := Lib.hid hx
          clear hx
          have f0 := H0.out.free (70 + j * 7)
          have f1 := H0.out.free (70 + j * 7 + 1)
          have f2 := H0.out.free (70 + j * 7 + 2)
          have f3 := H0.out.free (70 + j * 7 + 3)
          have f4 := H0.out.free (70 + j * 7 + 4)
          have f5 := H0.out.free (70 + j * 7 + 5)
          have f6 := H0.out.free (70 + j * 7 + 6)
          have HEND := Lib.hid (show ∀ W : World, Has W w.heap.size (((s.forget k id 0 10).forget k id 10 j).put (10 + j) (gone k id x)) → Has W (w.heap.size + 1) st0 → Below w.heap.size w W → ∃ q : Nat, q ≤ 8 ∧ Value.int .i64 ((j : Int) + 1) = .int .i64 q ∧ Has W w.heap.size ((s.forget k id 0 10).forget k id 10 q) ∧ Has W (w.heap.size + 1) st0 ∧ Below w.heap.size w W from
            fun W g1 g2 g3 => ⟨j + 1, hlt, by go_num, by rw [St.forget_succ, HX.out]; exact g1, g2, g3⟩)
          have HSTAY := Lib.hid (show gone k id x = x → Has wr w.heap.size (((s.forget k id 0 10).forget k id 10 j).put (10 + j) (gone k id x)) from fun hg => by
            rw [hg, St.put_same _ _ _ (by rw [St.forget_at]; exact HX.out)]; exact H0.out)
          have HGO := Lib.hid (show gone k id x = junk → Has (set7 wr w.heap.size (70 + j * 7) junk) w.heap.size (((s.forget k id 0 10).forget k id 10 j).put (10 + j) (gone k id x)) ∧ Has (set7 wr w.heap.size (70 + j * 7) junk) (w.heap.size + 1) st0 ∧ Below w.heap.size w (set7 wr w.heap.size (70 + j * 7) junk) from fun hg => by
            rw [hg]
            exact ⟨H0.out.put _ _ _ (by omega) (by omega), set7_far H1.out (by omega) _ _, set7_below HBL.out (Nat.le_refl _) _ _⟩)
          by_cases q1 : x.k = k
          · have q1' : (x.k == k) = true := by simp [q1]
            by_cases q2 : id = 0
            · have q2' : (id == 0) = true := by simp [q2]
              have HG := Lib.hid (show gone k id x = junk by unfold gone; rw [if_pos ⟨q1, .inl q2⟩])
              clear q1 q2
              go_wp2
              go_roundw
              case rel => exact HEND.out _ (HGO.out HG.out).1 (HGO.out HG.out).2.1 (HGO.out HG.out).2.2
              case measure => simp [intOf]; omega
            · have q2' : (id == 0) = false := by simp [q2]
              by_cases q3 : x.i = id
              · have q3' : (x.i == id) = true := by simp [q3]
                have HG := Lib.hid (show gone k id x = junk by unfold gone; rw [if_pos ⟨q1, .inr q3⟩])
                clear q1 q2 q3
                go_wp2
                go_roundw
                case rel => exact HEND.out _ (HGO.out HG.out).1 (HGO.out HG.out).2.1 (HGO.out HG.out).2.2
                case measure => simp [intOf]; omega
              · have q3' : (x.i == id) = false := by simp [q3]
                have HG := Lib.hid (show gone k id x = x by unfold gone; rw [if_neg (fun q => q.2.elim q2 q3)])
                clear q1 q2 q3
                go_wp2
                go_roundw
                case rel => exact HEND.out _ (HSTAY.out HG.out) H1.out HBL.out
                case measure => simp [intOf]; omega
          · have q1' : (x.k == k) = false := by simp [q1]
            have HG := Lib.hid (show gone k id x = x by unfold gone; rw [if_neg (fun q => q1 q.1)])
            clear q1
            go_wp2
            go_roundw
            case rel => exact HEND.out _ (HSTAY.out HG.out) H1.out HBL.out
            case measure => simp [intOf]; omega
        · have : j = 8 := by omega
          subst this
          clear hlt hj
          have HB3 := below_row HBL.out (c := w.heap.size + 1) (by omega) R.arr
          have k0 := H0.out
          rw [HR.out] at k0
          have k3 := H1.out
          have k4 := k3.setRow R
          go_wp2_with (first | (refine wpList_loadSt k0 _ rfl rfl rfl ?_) | (refine wpList_storeSt k3 _ _ R rfl rfl rfl rfl ?_))
          exact bodyPost_ret (results_st Try.results16 _ k4 rfl) rfl ⟨rfl, HB3⟩
end Go.Proofs.Ytglfmcgpbenckaa
