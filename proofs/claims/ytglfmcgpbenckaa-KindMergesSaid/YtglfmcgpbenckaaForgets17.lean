/- The walk of chapter 17's statement KindForgets. -/
import Derived.Test.YtglfmcgpbenckaaStateRForget
namespace Go.Proofs.Ytglfmcgpbenckaa
open Go.RowKit
set_option linter.unusedVariables false
set_option linter.unusedSimpArgs false
theorem yieldsIf_loadSt {ops : Array Oper} {S : World → Prop} {op : Oper} {a : Act} (hw : Region.wanted op (yielded ops a.tmps) = true) (x : Operand) (ho : op.op = .load 38 x)
    (b : Nat) (hx : a.eval x = .pointer (some ⟨b, 0, none⟩)) (s : St) (hS : ∀ w, S w → Has w b s) : YieldsIf Try.prog ops S op (.agg s.arr) a :=
  .inl ⟨hw, fun w hw' => by
    unfold execOp
    simp only [ho, hx, Sem.run_bind, Sem.run_pure, Result.andThen_ok, wholeAt (hS w hw')]⟩
theorem named2 {P : World → Prop} {w0 : World} (F : World → Prop) (k : F w0) (h : ∀ W, F W → P W) : P w0 := h _ k
set_option maxRecDepth 100000 in
set_option maxHeartbeats 4000000 in
theorem kindForgets_walk (s : St) (k id : Int) (xs : List Int) (hn : xs.length = s.z) (hm : s.z ≤ maxLen) (w : World) (hx : Ints w s.p xs) :
    Calls Try.prog 6 #[.agg s.arr, .int .i64 k, .int .i64 id] w fun e w' => e = .returned (.bool true) ∧ Below w.heap.size w w' := by
  obtain ⟨R, hR⟩ : ∃ R, (s.forget k id 0 10).forget k id 10 8 = R := ⟨_, rfl⟩
  have hp : R.p = s.p := by rw [← hR]; rfl
  have hz : R.z = s.z := by rw [← hR]; rfl
  have C1 := Lib.hid (fun w => forget_any s k id R hR w)
  have C2 := Lib.hid (fun w => rforget_any s k id R hR w)
  have C3 := Lib.hid (fun (w1 : World) (h : Below w.heap.size w w1) => same_any R R xs xs True ⟨fun _ => trivial, fun _ => ⟨fun _ _ => rfl, rfl, rfl, rfl, rfl⟩⟩ (hn.trans hz.symm) (hn.trans hz.symm) (by rw [hz]; exact hm) w1 (by rw [hp]; exact hx.below h) (by rw [hp]; exact hx.below h))
  clear hR hp hz hn hm hx
  go_enter Try.func6, Try.ntmps6
  go_upto_region 1 with fail
  refine named (P := fun W => Code.wp _ _ _ _ W) (fun W => Has W w.heap.size s ∧ Below w.heap.size w W)
    ⟨(Has.new w s rfl), (below_alloc (Below.refl _ _) _)⟩ ?_
  rintro W ⟨h0, HB⟩
  have H0 := Lib.hid h0
  have HBL := Lib.hid HB
  clear h0 HB
  go_upto_region 2 with (refine (shown_any _).mono ?_; rintro e w1 ⟨rfl, hb⟩; have H0 := Lib.hid (Below.has hb H0.out); have HBL := Lib.hid (below_then HBL.out hb); clear hb)
  refine wp_region_noPanic ?_
  refine wp_region_held_drew (S := fun w' => Has w' w.heap.size s ∧ Below w.heap.size w w') (by kernel_rfl) ⟨H0.out, below_drew HBL.out⟩ (fun hHeld => ?_)
  refine wpAnyH_take (i := 0) (oi := ⟨_, _, _, _, _, _⟩) (v := .agg s.arr) rfl (by kernel_rfl) (by kernel_rfl) (by kernel_rfl) (fun _ _ _ h => h) (yieldsIf_loadSt rfl _ rfl _ rfl s (fun w h => h.1)) hHeld ?_
  (try simp only [Act.put, List.setIfInBounds_toArray, List.set_cons_zero, List.set_cons_succ])
  refine wpAnyH_take (i := 1) (oi := ⟨_, _, _, _, _, _⟩) (v := ?_) rfl (by kernel_rfl) (by kernel_rfl) (by kernel_rfl) (fun _ _ _ h => h) (Or.inl ⟨rfl, ?_⟩) hHeld ?_
  rotate_left
  · (intro w hSw)
    (try dsimp only at hSw)
    (first | (go_simp; done) | (go_simp; with_reducible rfl))
  (try simp only [Act.put, List.setIfInBounds_toArray, List.set_cons_zero, List.set_cons_succ])
  refine wpAnyH_take (i := 2) (oi := ⟨_, _, _, _, _, _⟩) (v := ?_) rfl (by kernel_rfl) (by kernel_rfl) (by kernel_rfl) (fun _ _ _ h => h) (Or.inl ⟨rfl, ?_⟩) hHeld ?_
  rotate_left
  · (intro w hSw)
    (try dsimp only at hSw)
    (first | (go_simp; done) | (go_simp; with_reducible rfl))
  (try simp only [Act.put, List.setIfInBounds_toArray, List.set_cons_zero, List.set_cons_succ])
  refine wpAnyH_take (i := 4) (oi := ⟨_, _, _, _, _, _⟩) (v := .agg s.arr) rfl (by kernel_rfl) (by kernel_rfl) (by kernel_rfl) (fun _ _ _ h => h) (yieldsIf_loadSt rfl _ rfl _ rfl s (fun w h => h.1)) hHeld ?_
  (try simp only [Act.put, List.setIfInBounds_toArray, List.set_cons_zero, List.set_cons_succ])
  refine wpAnyH_take (i := 5) (oi := ⟨_, _, _, _, _, _⟩) (v := ?_) rfl (by kernel_rfl) (by kernel_rfl) (by kernel_rfl) (fun _ _ _ h => h) (Or.inl ⟨rfl, ?_⟩) hHeld ?_
  rotate_left
  · (intro w hSw)
    (try dsimp only at hSw)
    (first | (go_simp; done) | (go_simp; with_reducible rfl))
  (try simp only [Act.put, List.setIfInBounds_toArray, List.set_cons_zero, List.set_cons_succ])
  refine wpAnyH_take (i := 6) (oi := ⟨_, _, _, _, _, _⟩) (v := ?_) rfl (by kernel_rfl) (by kernel_rfl) (by kernel_rfl) (fun _ _ _ h => h) (Or.inl ⟨rfl, ?_⟩) hHeld ?_
  rotate_left
  · (intro w hSw)
    (try dsimp only at hSw)
    (first | (go_simp; done) | (go_simp; with_reducible rfl))
  (try simp only [Act.put, List.setIfInBounds_toArray, List.set_cons_zero, List.set_cons_succ])
  refine wpAnyH_ready (rs := [3]) (by kernel_rfl) (by simp) ?_
  refine AllReadyH.cons (o := ⟨_, _, _, _, _, _⟩) rfl (fun K hK => ?_) AllReadyH.nil
  go_simp
  (refine (C1.out _).mono ?_; rintro e w2 ⟨rfl, hb⟩; have H0 := Lib.hid (Below.has hb H0.out); have HBL := Lib.hid (by first | exact below_then HBL.out hb | exact below_then (below_drew HBL.out) hb); clear hb)
  (first | (refine hK.out _ _ ?_ (fun hHeld => ?_)) | (go_wp2_with fail; refine hK.out _ _ ?_ (fun hHeld => ?_)))
  · exact ⟨H0.out, HBL.out⟩
  clear hK K
  (try simp only [Act.put, List.setIfInBounds_toArray, List.set_cons_zero, List.set_cons_succ])
  refine wpAnyH_ready (rs := [7]) (by kernel_rfl) (by simp) ?_
  refine AllReadyH.cons (o := ⟨_, _, _, _, _, _⟩) rfl (fun K hK => ?_) AllReadyH.nil
  go_simp
  (refine (C2.out _).mono ?_; rintro e w3 ⟨rfl, hb⟩; have H0 := Lib.hid (Below.has hb H0.out); have HBL := Lib.hid (by first | exact below_then HBL.out hb | exact below_then (below_drew HBL.out) hb); clear hb)
  (first | (refine hK.out _ _ ?_ (fun hHeld => ?_)) | (go_wp2_with fail; refine hK.out _ _ ?_ (fun hHeld => ?_)))
  · exact ⟨H0.out, HBL.out⟩
  clear hK K
  (try simp only [Act.put, List.setIfInBounds_toArray, List.set_cons_zero, List.set_cons_succ])
  refine wpAnyH_ready (rs := [8]) (by kernel_rfl) (by simp) ?_
  refine AllReadyH.cons (o := ⟨_, _, _, _, _, _⟩) rfl (fun K hK => ?_) AllReadyH.nil
  go_simp
  (refine (C3.out _ HBL.out).mono ?_; rintro e w4 ⟨rfl, hb⟩; have H0 := Lib.hid (Below.has hb H0.out); have HBL := Lib.hid (below_then HBL.out hb); clear hb)
  (first | (refine hK.out _ _ ?_ (fun hHeld => ?_)) | (go_wp2_with fail; refine hK.out _ _ ?_ (fun hHeld => ?_)))
  · exact ⟨H0.out, HBL.out⟩
  clear hK K
  (try simp only [Act.put, List.setIfInBounds_toArray, List.set_cons_zero, List.set_cons_succ])
  refine wpAnyH_take (i := 9) (oi := ⟨_, _, _, _, _, _⟩) (v := ?_) rfl (by kernel_rfl) (by kernel_rfl) (by kernel_rfl) (fun _ _ _ h => h) (Or.inl ⟨rfl, ?_⟩) hHeld ?_
  rotate_left
  · (intro w hSw)
    (try dsimp only at hSw)
    (first | (go_simp; done) | (go_simp; with_reducible rfl))
  (try simp only [Act.put, List.setIfInBounds_toArray, List.set_cons_zero, List.set_cons_succ])
  refine wpAnyH_done (by kernel_rfl) ?_ _
  refine NoPanic.normal ?_
  go_wp2
  go_ret
  exact ⟨rfl, HBL.out⟩
end Go.Proofs.Ytglfmcgpbenckaa
