/- Are two States the same? turnbuckleref17.Same. -/
import Derived.Test.YtglfmcgpbenckaaStateRefs
import Derived.Outline
namespace Go.Proofs.Ytglfmcgpbenckaa
open Go.RowKit
set_option linter.unusedVariables false
set_option linter.unusedSimpArgs false
def Alike17 (s t : St) (xs ys : List Int) : Prop := (∀ i, i < 18 → s.f i = t.f i) ∧ xs = ys ∧ s.l = t.l ∧ s.s = t.s ∧ s.n = t.n
theorem Has.rest {w : World} {b : Nat} {s : St} (h : Has w b s) : w.cell? ⟨b, 126, none⟩ = some (.slice s.p s.z s.c) ∧ w.cell? ⟨b, 127, none⟩ = some (.int .i64 s.l) ∧ w.cell? ⟨b, 128, none⟩ = some (.bool s.s) ∧ w.cell? ⟨b, 129, none⟩ = some (.int .i64 s.n) :=
  ⟨h.cell 126 (by decide), h.cell 127 (by decide), h.cell 128 (by decide), h.cell 129 (by decide)⟩
theorem upto_succ {P : Nat → Prop} {j : Nat} (h : ∀ x, x < j → P x) (k : P j) : ∀ x, x < j + 1 → P x := fun x hx => by
  by_cases e : x = j
  · subst e; exact k
  · exact h x (by omega)
theorem sev70 {w : World} {b : Nat} {s : St} (h : Has w b s) (i : Nat) (hi : i < 8) :
    w.cell? ⟨b, 70 + i * 7, none⟩ = some (.int .i64 (s.f (10 + i)).k) ∧ w.cell? ⟨b, 70 + i * 7 + 1, none⟩ = some (.int .i64 (s.f (10 + i)).t) ∧ w.cell? ⟨b, 70 + i * 7 + 2, none⟩ = some (.int .i64 (s.f (10 + i)).i) ∧ w.cell? ⟨b, 70 + i * 7 + 3, none⟩ = some (.int .i64 (s.f (10 + i)).l)
    ∧ w.cell? ⟨b, 70 + i * 7 + 4, none⟩ = some (.bool (s.f (10 + i)).m) ∧ w.cell? ⟨b, 70 + i * 7 + 5, none⟩ = some (.int .u64 ((s.f (10 + i)).a : Nat)) ∧ w.cell? ⟨b, 70 + i * 7 + 6, none⟩ = some (.int .u64 ((s.f (10 + i)).b : Nat)) := by
  have k := h.seven (10 + i) (by omega)
  rw [show (10 + i) * 7 = 70 + i * 7 from by omega] at k
  exact k
theorem eqW_t {x y : Wh} (h : x = y) : eqB x.k x.t x.i x.l x.m (x.a : Nat) (x.b : Nat) y.k y.t y.i y.l y.m (y.a : Nat) (y.b : Nat) = true := by
  rw [eqB_wh]; exact decide_eq_true h
theorem eqW_f {x y : Wh} (h : ¬ x = y) : eqB x.k x.t x.i x.l x.m (x.a : Nat) (x.b : Nat) y.k y.t y.i y.l y.m (y.a : Nat) (y.b : Nat) = false := by
  rw [eqB_wh]; exact decide_eq_false h
set_option maxRecDepth 100000 in
set_option maxHeartbeats 4000000 in
theorem same_any (s t : St) (xs ys : List Int) (v : Prop) (hv : Alike17 s t xs ys ↔ v) [Decidable v] (hn : xs.length = s.z) (hm : ys.length = t.z) (hlen : s.z ≤ maxLen) (w : World) (hx : Ints w s.p xs) (hy : Ints w t.p ys) :
    Calls Try.prog 14 #[.agg s.arr, .agg t.arr] w fun e w' => e = .returned (.bool (decide v)) ∧ Below w.heap.size w w' := by
  have he := eqWhat
  have HV := Lib.hid hv
  have CR := Lib.hid (fun (u : Bool) (hu : decide (xs = ys) = u) (w1 : World) (h : Below w.heap.size w w1) => refs_any s.p t.p s.c t.c xs ys s.z t.z u hu hn hm w1 hlen (hx.below h) (hy.below h))
  clear hv hn hm hlen hx hy
  obtain ⟨B, hB⟩ : ∃ B, decide v = B := ⟨_, rfl⟩
  rw [hB]
  have HB' := Lib.hid hB
  clear hB
  go_enter Try.func14, Try.ntmps14
  go_upto_region 1 with fail
  refine named (P := fun W => Code.wp _ _ _ _ W) (fun W => Has W w.heap.size s ∧ Has W (w.heap.size + 1) t ∧ Below w.heap.size w W)
    ⟨(Has.new w s rfl).alloc _, Has.new _ _ (by simp), below_alloc (below_alloc (Below.refl _ _) _) _⟩ ?_
  rintro W ⟨h0, h1, HB⟩
  have H0 := Lib.hid h0
  have H1 := Lib.hid h1
  have HBL := Lib.hid HB
  clear h0 h1 HB
  go_wp2
  go_loopw [5] (fun i wr => ∃ j : Nat, j ≤ 10 ∧ i = .int .i64 j ∧ (∀ x, x < j → s.f x = t.f x) ∧ Has wr w.heap.size s ∧ Has wr (w.heap.size + 1) t ∧ Below w.heap.size w wr) (fun i _ => 10 - (intOf i).toNat)
  case atStart => exact ⟨0, by omega, rfl, fun x hx => by omega, H0.out, H1.out, HBL.out⟩
  case round =>
    obtain ⟨j, hj, rfl, ht, h0, h1, HB⟩ := hrel
    have HT := Lib.hid ht
    have H0 := Lib.hid h0
    have H1 := Lib.hid h1
    have HBL := Lib.hid HB
    clear ht h0 h1 HB
    by_cases hlt : j < 10
    · have hlt' : (j : Int) < 10 := by omega
      have h0' : (0 : Int) ≤ j := by omega
      obtain ⟨c0, c1, c2, c3, c4, c5, c6⟩ := H0.out.seven j (by omega)
      obtain ⟨d0, d1, d2, d3, d4, d5, d6⟩ := H1.out.seven j (by omega)
      by_cases e : s.f j = t.f j
      · have e' := eqW_t e
        have HE := Lib.hid e
        clear e
        go_wp2
        go_region_held3 (fun w' => w'.cell? ⟨w.heap.size, j * 7, none⟩ = some (.int .i64 (s.f j).k) ∧ w'.cell? ⟨w.heap.size, j * 7 + 1, none⟩ = some (.int .i64 (s.f j).t) ∧ w'.cell? ⟨w.heap.size, j * 7 + 2, none⟩ = some (.int .i64 (s.f j).i) ∧ w'.cell? ⟨w.heap.size, j * 7 + 3, none⟩ = some (.int .i64 (s.f j).l) ∧ w'.cell? ⟨w.heap.size, j * 7 + 4, none⟩ = some (.bool (s.f j).m) ∧ w'.cell? ⟨w.heap.size, j * 7 + 5, none⟩ = some (.int .u64 ((s.f j).a : Nat)) ∧ w'.cell? ⟨w.heap.size, j * 7 + 6, none⟩ = some (.int .u64 ((s.f j).b : Nat)) ∧ w'.cell? ⟨w.heap.size + 1, j * 7, none⟩ = some (.int .i64 (t.f j).k) ∧ w'.cell? ⟨w.heap.size + 1, j * 7 + 1, none⟩ = some (.int .i64 (t.f j).t) ∧ w'.cell? ⟨w.heap.size + 1, j * 7 + 2, none⟩ = some (.int .i64 (t.f j).i) ∧ w'.cell? ⟨w.heap.size + 1, j * 7 + 3, none⟩ = some (.int .i64 (t.f j).l) ∧ w'.cell? ⟨w.heap.size + 1, j * 7 + 4, none⟩ = some (.bool (t.f j).m) ∧ w'.cell? ⟨w.heap.size + 1, j * 7 + 5, none⟩ = some (.int .u64 ((t.f j).a : Nat)) ∧ w'.cell? ⟨w.heap.size + 1, j * 7 + 6, none⟩ = some (.int .u64 ((t.f j).b : Nat))) (go_keep) (fail)
        go_outline
        go_wp2
        go_roundw
        case rel => exact ⟨j + 1, hlt, by go_num, upto_succ HT.out HE.out, H0.out, H1.out, below_drew HBL.out⟩
        case measure => simp [intOf]; omega
      · have e' := eqW_f e
        have HE := Lib.hid e
        clear e
        go_wp2
        go_region_held3 (fun w' => w'.cell? ⟨w.heap.size, j * 7, none⟩ = some (.int .i64 (s.f j).k) ∧ w'.cell? ⟨w.heap.size, j * 7 + 1, none⟩ = some (.int .i64 (s.f j).t) ∧ w'.cell? ⟨w.heap.size, j * 7 + 2, none⟩ = some (.int .i64 (s.f j).i) ∧ w'.cell? ⟨w.heap.size, j * 7 + 3, none⟩ = some (.int .i64 (s.f j).l) ∧ w'.cell? ⟨w.heap.size, j * 7 + 4, none⟩ = some (.bool (s.f j).m) ∧ w'.cell? ⟨w.heap.size, j * 7 + 5, none⟩ = some (.int .u64 ((s.f j).a : Nat)) ∧ w'.cell? ⟨w.heap.size, j * 7 + 6, none⟩ = some (.int .u64 ((s.f j).b : Nat)) ∧ w'.cell? ⟨w.heap.size + 1, j * 7, none⟩ = some (.int .i64 (t.f j).k) ∧ w'.cell? ⟨w.heap.size + 1, j * 7 + 1, none⟩ = some (.int .i64 (t.f j).t) ∧ w'.cell? ⟨w.heap.size + 1, j * 7 + 2, none⟩ = some (.int .i64 (t.f j).i) ∧ w'.cell? ⟨w.heap.size + 1, j * 7 + 3, none⟩ = some (.int .i64 (t.f j).l) ∧ w'.cell? ⟨w.heap.size + 1, j * 7 + 4, none⟩ = some (.bool (t.f j).m) ∧ w'.cell? ⟨w.heap.size + 1, j * 7 + 5, none⟩ = some (.int .u64 ((t.f j).a : Nat)) ∧ w'.cell? ⟨w.heap.size + 1, j * 7 + 6, none⟩ = some (.int .u64 ((t.f j).b : Nat))) (go_keep) (fail)
        go_wp2
        go_ret
        exact ⟨ret_bool (by rw [← HB'.out]; exact (decide_eq_false (fun q => HE.out ((HV.out.2 q).1 j (by omega)))).symm), below_drew HBL.out⟩
    · have : j = 10 := by omega
      subst this
      clear hlt hj
      go_wp2
      go_loopw [6] (fun i wr => ∃ j : Nat, j ≤ 8 ∧ i = .int .i64 j ∧ (∀ x, x < j → s.f (10 + x) = t.f (10 + x)) ∧ Has wr w.heap.size s ∧ Has wr (w.heap.size + 1) t ∧ Below w.heap.size w wr) (fun i _ => 8 - (intOf i).toNat)
      case atStart => exact ⟨0, by omega, rfl, fun x hx => by omega, H0.out, H1.out, HBL.out⟩
      case round =>
        obtain ⟨j, hj, rfl, hu, h0, h1, HB⟩ := hrel
        have HU := Lib.hid hu
        have H0 := Lib.hid h0
        have H1 := Lib.hid h1
        have HBL := Lib.hid HB
        clear hu h0 h1 HB
        by_cases hlt : j < 8
        · have hlt' : (j : Int) < 8 := by omega
          have h0' : (0 : Int) ≤ j := by omega
          obtain ⟨c0, c1, c2, c3, c4, c5, c6⟩ := sev70 H0.out j (by omega)
          obtain ⟨d0, d1, d2, d3, d4, d5, d6⟩ := sev70 H1.out j (by omega)
          by_cases e : s.f (10 + j) = t.f (10 + j)
          · have e' := eqW_t e
            have HE := Lib.hid e
            clear e
            go_wp2
            go_region_held3 (fun w' => w'.cell? ⟨w.heap.size, 70 + j * 7, none⟩ = some (.int .i64 (s.f (10 + j)).k) ∧ w'.cell? ⟨w.heap.size, 70 + j * 7 + 1, none⟩ = some (.int .i64 (s.f (10 + j)).t) ∧ w'.cell? ⟨w.heap.size, 70 + j * 7 + 2, none⟩ = some (.int .i64 (s.f (10 + j)).i) ∧ w'.cell? ⟨w.heap.size, 70 + j * 7 + 3, none⟩ = some (.int .i64 (s.f (10 + j)).l) ∧ w'.cell? ⟨w.heap.size, 70 + j * 7 + 4, none⟩ = some (.bool (s.f (10 + j)).m) ∧ w'.cell? ⟨w.heap.size, 70 + j * 7 + 5, none⟩ = some (.int .u64 ((s.f (10 + j)).a : Nat)) ∧ w'.cell? ⟨w.heap.size, 70 + j * 7 + 6, none⟩ = some (.int .u64 ((s.f (10 + j)).b : Nat)) ∧ w'.cell? ⟨w.heap.size + 1, 70 + j * 7, none⟩ = some (.int .i64 (t.f (10 + j)).k) ∧ w'.cell? ⟨w.heap.size + 1, 70 + j * 7 + 1, none⟩ = some (.int .i64 (t.f (10 + j)).t) ∧ w'.cell? ⟨w.heap.size + 1, 70 + j * 7 + 2, none⟩ = some (.int .i64 (t.f (10 + j)).i) ∧ w'.cell? ⟨w.heap.size + 1, 70 + j * 7 + 3, none⟩ = some (.int .i64 (t.f (10 + j)).l) ∧ w'.cell? ⟨w.heap.size + 1, 70 + j * 7 + 4, none⟩ = some (.bool (t.f (10 + j)).m) ∧ w'.cell? ⟨w.heap.size + 1, 70 + j * 7 + 5, none⟩ = some (.int .u64 ((t.f (10 + j)).a : Nat)) ∧ w'.cell? ⟨w.heap.size + 1, 70 + j * 7 + 6, none⟩ = some (.int .u64 ((t.f (10 + j)).b : Nat))) (go_keep) (fail)
            go_outline
            go_wp2
            go_roundw
            case rel => exact ⟨j + 1, hlt, by go_num, upto_succ HU.out HE.out, H0.out, H1.out, below_drew HBL.out⟩
            case measure => simp [intOf]; omega
          · have e' := eqW_f e
            have HE := Lib.hid e
            clear e
            go_wp2
            go_region_held3 (fun w' => w'.cell? ⟨w.heap.size, 70 + j * 7, none⟩ = some (.int .i64 (s.f (10 + j)).k) ∧ w'.cell? ⟨w.heap.size, 70 + j * 7 + 1, none⟩ = some (.int .i64 (s.f (10 + j)).t) ∧ w'.cell? ⟨w.heap.size, 70 + j * 7 + 2, none⟩ = some (.int .i64 (s.f (10 + j)).i) ∧ w'.cell? ⟨w.heap.size, 70 + j * 7 + 3, none⟩ = some (.int .i64 (s.f (10 + j)).l) ∧ w'.cell? ⟨w.heap.size, 70 + j * 7 + 4, none⟩ = some (.bool (s.f (10 + j)).m) ∧ w'.cell? ⟨w.heap.size, 70 + j * 7 + 5, none⟩ = some (.int .u64 ((s.f (10 + j)).a : Nat)) ∧ w'.cell? ⟨w.heap.size, 70 + j * 7 + 6, none⟩ = some (.int .u64 ((s.f (10 + j)).b : Nat)) ∧ w'.cell? ⟨w.heap.size + 1, 70 + j * 7, none⟩ = some (.int .i64 (t.f (10 + j)).k) ∧ w'.cell? ⟨w.heap.size + 1, 70 + j * 7 + 1, none⟩ = some (.int .i64 (t.f (10 + j)).t) ∧ w'.cell? ⟨w.heap.size + 1, 70 + j * 7 + 2, none⟩ = some (.int .i64 (t.f (10 + j)).i) ∧ w'.cell? ⟨w.heap.size + 1, 70 + j * 7 + 3, none⟩ = some (.int .i64 (t.f (10 + j)).l) ∧ w'.cell? ⟨w.heap.size + 1, 70 + j * 7 + 4, none⟩ = some (.bool (t.f (10 + j)).m) ∧ w'.cell? ⟨w.heap.size + 1, 70 + j * 7 + 5, none⟩ = some (.int .u64 ((t.f (10 + j)).a : Nat)) ∧ w'.cell? ⟨w.heap.size + 1, 70 + j * 7 + 6, none⟩ = some (.int .u64 ((t.f (10 + j)).b : Nat))) (go_keep) (fail)
            go_wp2
            go_ret
            exact ⟨ret_bool (by rw [← HB'.out]; exact (decide_eq_false (fun q => HE.out ((HV.out.2 q).1 (10 + j) (by omega)))).symm), below_drew HBL.out⟩
        · have : j = 8 := by omega
          subst this
          clear hlt hj
          obtain ⟨r0, r1, r2, r3⟩ := H0.out.rest
          obtain ⟨q0, q1, q2, q3⟩ := H1.out.rest
          have HF := Lib.hid (show ∀ i, i < 18 → s.f i = t.f i from fun i hi => by
            by_cases q : i < 10
            · exact HT.out i q
            · have := HU.out (i - 10) (by omega)
              rwa [show 10 + (i - 10) = i from by omega] at this)
          by_cases e0 : xs = ys
          · have C := fun w1 h => CR.out true (decide_eq_true e0) w1 h
            have E0 := Lib.hid e0
            clear e0
            go_wp2_with fail
            refine (C _ HBL.out).mono ?_
            rintro e w1 ⟨rfl, hb⟩
            have H0 := Lib.hid (Below.has hb H0.out)
            have H1 := Lib.hid (Below.has hb H1.out)
            have HBL := Lib.hid (below_then HBL.out hb)
            clear r0 r1 r2 r3 q0 q1 q2 q3 hb C
            obtain ⟨r0, r1, r2, r3⟩ := H0.out.rest
            obtain ⟨q0, q1, q2, q3⟩ := H1.out.rest
            by_cases e1 : s.l = t.l
            · have f1 : (s.l == t.l) = true := by simp [e1]
              have E1 := Lib.hid e1
              clear e1
              by_cases e2 : s.s = t.s
              · have f2 : (s.s == t.s) = true := by simp [e2]
                have E2 := Lib.hid e2
                clear e2
                by_cases e3 : s.n = t.n
                · have f3 : (s.n == t.n) = true := by simp [e3]
                  have E3 := Lib.hid e3
                  clear e3
                  go_wp2
                  go_ret
                  exact ⟨ret_bool (by rw [← HB'.out]; exact (decide_eq_true (HV.out.1 ⟨HF.out, E0.out, E1.out, E2.out, E3.out⟩)).symm), HBL.out⟩
                · have f3 : (s.n == t.n) = false := by simp [e3]
                  have E3 := Lib.hid e3
                  clear e3
                  go_wp2
                  go_ret
                  exact ⟨ret_bool (by rw [← HB'.out]; exact (decide_eq_false (fun q => E3.out (HV.out.2 q).2.2.2.2)).symm), HBL.out⟩
              · have f2 : (s.s == t.s) = false := by simp [e2]
                have E2 := Lib.hid e2
                clear e2
                go_wp2
                go_ret
                exact ⟨ret_bool (by rw [← HB'.out]; exact (decide_eq_false (fun q => E2.out (HV.out.2 q).2.2.2.1)).symm), HBL.out⟩
            · have f1 : (s.l == t.l) = false := by simp [e1]
              have E1 := Lib.hid e1
              clear e1
              go_wp2
              go_ret
              exact ⟨ret_bool (by rw [← HB'.out]; exact (decide_eq_false (fun q => E1.out (HV.out.2 q).2.2.1)).symm), HBL.out⟩
          · have C := fun w1 h => CR.out false (decide_eq_false e0) w1 h
            have E0 := Lib.hid e0
            clear e0
            go_wp2_with fail
            refine (C _ HBL.out).mono ?_
            rintro e w1 ⟨rfl, hb⟩
            have HBL := Lib.hid (below_then HBL.out hb)
            clear r0 r1 r2 r3 q0 q1 q2 q3 hb C
            go_wp2
            go_ret
            exact ⟨ret_bool (by rw [← HB'.out]; exact (decide_eq_false (fun q => E0.out (HV.out.2 q).2.1)).symm), HBL.out⟩
end Go.Proofs.Ytglfmcgpbenckaa
