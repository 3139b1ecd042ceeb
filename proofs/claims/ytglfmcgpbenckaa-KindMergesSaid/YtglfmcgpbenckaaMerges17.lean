/- The walk of chapter 17's statement KindMerges. -/
import Derived.Test.YtglfmcgpbenckaaStateRMerge
import Derived.Test.YtglfmcgpbenckaaStateStart
namespace Go.Proofs.Ytglfmcgpbenckaa
open Go.RowKit
set_option linter.unusedVariables false
set_option linter.unusedSimpArgs false
theorem same_start (w : World) : Calls Try.prog 14 #[.agg stS.arr, .agg stS.arr] w fun e w' => e = .returned (.bool true) ∧ Below w.heap.size w w' :=
  same_any stS stS [] [] True ⟨fun _ => trivial, fun _ => ⟨fun _ _ => rfl, rfl, rfl, rfl, rfl⟩⟩ rfl rfl (Nat.zero_le _) w (.inl rfl) (.inl rfl)
set_option maxRecDepth 100000 in
set_option maxHeartbeats 8000000 in
theorem merges_by (s t A : St) (er : Int) (w : World)
    (C1 : ∀ w1, Below w.heap.size w w1 → Calls Try.prog 17 #[.agg s.arr, .agg t.arr] w1 fun e w' => e = .returned (.tuple #[.agg A.arr, .int .i64 er]) ∧ Below w1.heap.size w1 w')
    (C2 : ∀ w1, Below w.heap.size w w1 → Calls Try.prog 19 #[.agg s.arr, .agg t.arr] w1 fun e w' => e = .returned (.tuple #[.agg A.arr, .int .i64 er]) ∧ Below w1.heap.size w1 w')
    (C4 : ∀ w1, Below w.heap.size w w1 → Calls Try.prog 14 #[.agg A.arr, .agg A.arr] w1 fun e w' => e = .returned (.bool true) ∧ Below w1.heap.size w1 w') :
    Calls Try.prog 8 #[.agg s.arr, .agg t.arr] w fun e w' => e = .returned (.bool true) ∧ Below w.heap.size w w' := by
  replace C1 := Lib.hid C1
  replace C2 := Lib.hid C2
  replace C4 := Lib.hid C4
  have hee : (er == er) = true := by simp
  go_enter Try.func8, Try.ntmps8
  go_upto_region 1 with fail
  refine named (P := fun W => Code.wp _ _ _ _ W) (fun W => Has W w.heap.size s ∧ Has W (w.heap.size + 1) t ∧ Below w.heap.size w W)
    ⟨(Has.new w s rfl).alloc _, Has.new _ _ (by simp), below_alloc (below_alloc (Below.refl _ _) _) _⟩ ?_
  rintro W ⟨h0, h1, HB⟩
  have H0 := Lib.hid h0
  have H1 := Lib.hid h1
  have HBL := Lib.hid HB
  clear h0 h1 HB
  have hl1 : w.heap.size + 1 < W.heap.size := H1.out.lt
  go_upto_region 2 with (go_at_call 10; refine (shown_any _).mono ?_; rintro e w1 ⟨rfl, hb⟩; have hl2 := Nat.lt_of_lt_of_le hl1 hb.size; have H0 := Lib.hid (Below.has hb H0.out); have H1 := Lib.hid (Below.has hb H1.out); have HBL := Lib.hid (below_then HBL.out hb); clear hb)
  clear hl1
  have h0 := H0.out
  have h1 := H1.out
  have hz := zeroSt
  go_wp2_with (first | (refine wpList_loadSt h0 _ rfl rfl rfl ?_) | (refine wpList_loadSt h1 _ rfl rfl rfl ?_))
  refine (C1.out _ HBL.out).mono ?_
  rintro e w3 ⟨rfl, hb⟩
  clear h0 h1
  have hl3 := Nat.lt_of_lt_of_le hl2 hb.size
  have H0 := Lib.hid (Below.has hb H0.out)
  have H1 := Lib.hid (Below.has hb H1.out)
  have HBL := Lib.hid (below_then HBL.out hb)
  clear hb
  go_upto_region 3 with (refine wpList_storeSt (Has.new w3 st0 rfl) _ _ A rfl rfl rfl rfl ?_)
  clear hz
  clear hl2
  refine named (P := fun W => Code.wp _ _ _ _ W) (fun W => Has W w.heap.size s ∧ Has W (w.heap.size + 1) t ∧ Has W w3.heap.size A ∧ Below w.heap.size w W) ⟨(H0.out.alloc _).setRow_far (by omega) _, (H1.out.alloc _).setRow_far (by omega) _, (Has.new w3 st0 rfl).setRow A, below_row (below_alloc HBL.out _) (by omega) _⟩ ?_
  rintro W3 ⟨h0, h1, h2, hb⟩
  have H0 := Lib.hid h0
  have H1 := Lib.hid h1
  have H2 := Lib.hid h2
  have HBL := Lib.hid hb
  have hl4 := h2.lt
  clear h0 h1 h2 hb
  generalize w3.heap.size = bA at *
  have h0 := H0.out
  have h1 := H1.out
  have hz := zeroSt
  go_wp2_with (first | (refine wpList_loadSt h0 _ rfl rfl rfl ?_) | (refine wpList_loadSt h1 _ rfl rfl rfl ?_))
  refine (C2.out _ HBL.out).mono ?_
  rintro e w5 ⟨rfl, hb⟩
  clear h0 h1
  have hl5 := Nat.lt_of_lt_of_le hl4 hb.size
  have H0 := Lib.hid (Below.has hb H0.out)
  have H1 := Lib.hid (Below.has hb H1.out)
  have H2 := Lib.hid (Below.has hb H2.out)
  have HBL := Lib.hid (below_then HBL.out hb)
  clear hb
  go_upto_region 4 with (refine wpList_storeSt (Has.new w5 st0 rfl) _ _ A rfl rfl rfl rfl ?_)
  clear hz
  clear hl4
  refine named (P := fun W => Code.wp _ _ _ _ W) (fun W => Has W bA A ∧ Has W w5.heap.size A ∧ Below w.heap.size w W) ⟨(H2.out.alloc _).setRow_far (by omega) _, (Has.new w5 st0 rfl).setRow A, below_row (below_alloc HBL.out _) (by omega) _⟩ ?_
  rintro W5 ⟨h2, h3, hb⟩
  have HBL := Lib.hid hb
  clear hb
  generalize w5.heap.size = bB at *
  go_upto_region 5 with (first | (refine wpList_loadSt h2 _ rfl rfl rfl ?_) | (refine wpList_loadSt h3 _ rfl rfl rfl ?_) | (go_at_call 14; refine (C4.out _ HBL.out).mono ?_; rintro e w7 ⟨rfl, hb⟩; have HBL := Lib.hid (below_then HBL.out hb); clear hb))
  clear h2 h3
  go_wp2_with (first | (go_at_call 20; refine (start_any _).mono ?_; rintro e w8 ⟨rfl, hb⟩; have HBL := Lib.hid (below_then HBL.out hb); clear hb) | (go_at_call 21; refine (rstart_any _).mono ?_; rintro e w9 ⟨rfl, hb⟩; have HBL := Lib.hid (below_then HBL.out hb); clear hb) | (go_at_call 14; refine (same_start _).mono ?_; rintro e w10 ⟨rfl, hb⟩; have HBL := Lib.hid (below_then HBL.out hb); clear hb))
  go_ret
  exact ⟨rfl, HBL.out⟩
set_option maxHeartbeats 1000000 in
theorem kindMerges_walk (s t : St) (xs : List Int) (hn : xs.length = s.z) (hm : s.z ≤ maxLen) (ys : List Int) (hn' : ys.length = t.z) (hm' : t.z ≤ maxLen) (w : World) (hx : Ints w s.p xs) (hy : Ints w t.p ys) :
    Calls Try.prog 8 #[.agg s.arr, .agg t.arr] w fun e w' => e = .returned (.bool true) ∧ Below w.heap.size w w' := by
  have I1 := fun (w1 : World) (h : Below w.heap.size w w1) => hx.below h
  have I2 := fun (w1 : World) (h : Below w.heap.size w w1) => hy.below h
  have Z := fun (w1 : World) (h : Below w.heap.size w w1) => same_any st0 st0 [] [] True ⟨fun _ => trivial, fun _ => ⟨fun _ _ => rfl, rfl, rfl, rfl, rfl⟩⟩ rfl rfl (Nat.zero_le _) w1 (.inl rfl) (.inl rfl)
  by_cases e0 : xs = ys
  · by_cases e1 : s.l = t.l
    · by_cases e2 : s.s = t.s
      · obtain ⟨A, hA⟩ : ∃ A, ((s.mrg t 0 10).mrg t 10 8).withN (max s.n t.n) = A := ⟨_, rfl⟩
        have hz : s.z = A.z := by rw [← hA]; rfl
        have hp : s.p = A.p := by rw [← hA]; rfl
        exact merges_by s t A 0 w (fun w1 h => merge_ok s t xs ys hn hn' hm e0 e1 e2 A hA w1 (I1 w1 h) (I2 w1 h)) (fun w1 h => rmerge_ok s t xs ys hn hn' hm e0 e1 e2 A hA w1 (I1 w1 h) (I2 w1 h)) (fun w1 h => same_any A A xs xs True ⟨fun _ => trivial, fun _ => ⟨fun _ _ => rfl, rfl, rfl, rfl, rfl⟩⟩ (hn.trans hz) (hn.trans hz) (by rw [← hz]; exact hm) w1 (by rw [← hp]; exact I1 w1 h) (by rw [← hp]; exact I1 w1 h))
      · exact merges_by s t _ 9 w (fun w1 h => merge_lock2 s t xs ys hn hn' hm e0 e1 e2 w1 (I1 w1 h) (I2 w1 h)) (fun w1 h => rmerge_lock2 s t xs ys hn hn' hm e0 e1 e2 w1 (I1 w1 h) (I2 w1 h)) Z
    · exact merges_by s t _ 9 w (fun w1 h => merge_lock1 s t xs ys hn hn' hm e0 e1 w1 (I1 w1 h) (I2 w1 h)) (fun w1 h => rmerge_lock1 s t xs ys hn hn' hm e0 e1 w1 (I1 w1 h) (I2 w1 h)) Z
  · exact merges_by s t _ 8 w (fun w1 h => merge_refs s t xs ys hn hn' hm e0 w1 (I1 w1 h) (I2 w1 h)) (fun w1 h => rmerge_refs s t xs ys hn hn' hm e0 w1 (I1 w1 h) (I2 w1 h)) Z
end Go.Proofs.Ytglfmcgpbenckaa
