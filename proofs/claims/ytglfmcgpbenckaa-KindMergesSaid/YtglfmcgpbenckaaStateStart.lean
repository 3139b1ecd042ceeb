/- The walks of kind.Start and turnbuckleref17.Start. -/
import Derived.Test.YtglfmcgpbenckaaStateMore
import Derived.Outline
namespace Go.Proofs.Ytglfmcgpbenckaa
open Go.RowKit
set_option linter.unusedVariables false
set_option linter.unusedSimpArgs false
def allW : Wh := ⟨1, 0, 0, 0, false, 0, 18446744073709551615⟩
def stS : St := (st0.withN 1).put 1 allW
theorem buildS (w : World) : (Instr.build 38 #[(5, .int .i64 1)]).run Try.prog w = .ok (.agg (st0.withN 1).arr) w := by kernel_rfl
theorem wpList_buildS {ops : Array Oper} {rest : List Oper} {o : Oper} {a : Act} {w : World} {Q : Exit → Act → World → Prop} (hgd : o.guard = none) (ho : o.op = .build 38 #[(5, .const (.int .i64 1))])
    (h : wpList Try.prog ops Q rest (a.put o.dst (.agg (st0.withN 1).arr)) w) : wpList Try.prog ops Q (o :: rest) a w :=
  wpList_plain hgd fun _ hK => by
    unfold Oper.wp execOp
    have e : (#[(5, Operand.const (Value.int .i64 1))] : Array (Nat × Operand)).map (fun x => (x.1, a.eval x.2)) = #[(5, .int .i64 1)] := by simp [Act.eval]
    have e2 := buildS w
    simp only [ho]
    first
      | (simp only [e, e2, Sem.run_bind, Sem.run_pure, Result.andThen_ok]; exact hK _ _ h)
      | (simp [Act.eval, e2, Sem.run_bind, Sem.run_pure]; exact hK _ _ h)
set_option maxRecDepth 100000 in
theorem spanAll_any (w : World) : Calls Try.prog 30 #[] w fun e w' => e = .returned (.agg #[.int .u64 0, .int .u64 18446744073709551615]) ∧ Below w.heap.size w w' := by
  go_enter Try.func30, Try.ntmps30
  go_wp2
  exact bodyPost_ret (v := .agg #[.int .u64 0, .int .u64 18446744073709551615]) (by simp [results, Try.results30, go_sem]) rfl ⟨rfl, below_alloc (Below.refl _ _) _⟩
set_option maxRecDepth 100000 in
set_option maxHeartbeats 2000000 in
theorem start_any (w : World) : Calls Try.prog 20 #[] w fun e w' => e = .returned (.agg stS.arr) ∧ Below w.heap.size w w' := by
  have hz := zeroSt
  go_enter Try.func20, Try.ntmps20
  go_upto_region 1 with fail
  refine named (P := fun W => Code.wp _ _ _ _ W) (fun W => Has W w.heap.size st0 ∧ w.heap.size < W.heap.size ∧ Below w.heap.size w W) ⟨Has.new w st0 rfl, by simp, below_alloc (Below.refl _ _) _⟩ ?_
  rintro W ⟨h0, hs, HB⟩
  go_upto_region 2 with (first | (refine wpList_buildS rfl rfl ?_) | (refine wpList_storeSt (Has.new W st0 rfl) _ _ (st0.withN 1) rfl rfl rfl rfl ?_))
  refine named (P := fun W => Code.wp _ _ _ _ W) (fun W2 => Has W2 w.heap.size st0 ∧ Has W2 W.heap.size (st0.withN 1) ∧ Below w.heap.size w W2) ⟨(h0.alloc _).setRow_far (by omega) _, (Has.new W st0 rfl).setRow _, below_row (below_alloc HB _) (by omega) _⟩ ?_
  rintro W2 ⟨h0', h1', HB'⟩
  have H0 := Lib.hid h0'
  have H1 := Lib.hid h1'
  have HBL := Lib.hid HB'
  clear h0 HB h0' h1' HB' hz
  generalize W.heap.size = b1 at *
  go_wp2_with fail
  refine (spanAll_any _).mono ?_
  rintro e w3 ⟨rfl, hb⟩
  have H0 := Lib.hid (Below.has hb H0.out)
  have H1 := Lib.hid (Below.has hb H1.out)
  have HBL := Lib.hid (below_then HBL.out hb)
  clear hb
  have e7 := H1.out.seven 1 (by decide)
  rw [show 1 * 7 = 7 from rfl] at e7
  obtain ⟨c0, c1, c2, c3, c4, c5, c6⟩ := e7
  have f0 := H1.out.free 7
  have f1 := H1.out.free 8
  have f2 := H1.out.free 9
  have f3 := H1.out.free 10
  have f4 := H1.out.free 11
  have f5 := H1.out.free 12
  have f6 := H1.out.free 13
  go_upto_region 3 with fail
  refine named (P := fun W => Code.wp _ _ _ _ W) (fun W3 => Has W3 w.heap.size st0 ∧ Has W3 b1 stS ∧ Below w.heap.size w W3) ⟨set7_far H0.out (by omega) 7 allW, H1.out.put 1 7 allW (by decide) rfl, set7_below HBL.out (by omega) 7 allW⟩ ?_
  rintro W3 ⟨h0, h1, HB⟩
  have k4 := Lib.hid (h0.setRow stS)
  have HB3 := Lib.hid (below_row HB (c := w.heap.size) (by omega) stS.arr)
  clear HB c0 c1 c2 c3 c4 c5 c6 f0 f1 f2 f3 f4 f5 f6
  go_wp2_with (first | (refine wpList_loadSt h1 _ rfl rfl rfl ?_) | (refine wpList_storeSt h0 _ _ stS rfl rfl rfl rfl ?_))
  exact bodyPost_ret (results_st Try.results20 _ k4.out rfl) rfl ⟨rfl, HB3.out⟩
set_option maxRecDepth 100000 in
set_option maxHeartbeats 2000000 in
theorem rstart_any (w : World) : Calls Try.prog 21 #[] w fun e w' => e = .returned (.agg stS.arr) ∧ Below w.heap.size w w' := by
  have hz := zeroSt
  go_enter Try.func21, Try.ntmps21
  go_upto_region 1 with fail
  refine named (P := fun W => Code.wp _ _ _ _ W) (fun W => Has W w.heap.size st0 ∧ w.heap.size < W.heap.size ∧ Below w.heap.size w W) ⟨Has.new w st0 rfl, by simp, below_alloc (Below.refl _ _) _⟩ ?_
  rintro W ⟨h0, hs, HB⟩
  go_upto_region 2 with (first | (refine wpList_buildS rfl rfl ?_) | (refine wpList_storeSt (Has.new W st0 rfl) _ _ (st0.withN 1) rfl rfl rfl rfl ?_))
  refine named (P := fun W => Code.wp _ _ _ _ W) (fun W2 => Has W2 w.heap.size st0 ∧ Has W2 W.heap.size (st0.withN 1) ∧ Below w.heap.size w W2) ⟨(h0.alloc _).setRow_far (by omega) _, (Has.new W st0 rfl).setRow _, below_row (below_alloc HB _) (by omega) _⟩ ?_
  rintro W2 ⟨h0', h1', HB'⟩
  have H0 := Lib.hid h0'
  have H1 := Lib.hid h1'
  have HBL := Lib.hid HB'
  clear h0 HB h0' h1' HB' hz
  generalize W.heap.size = b1 at *
  have e7 := H1.out.seven 1 (by decide)
  rw [show 1 * 7 = 7 from rfl] at e7
  obtain ⟨c0, c1, c2, c3, c4, c5, c6⟩ := e7
  have f0 := H1.out.free 7
  have f1 := H1.out.free 8
  have f2 := H1.out.free 9
  have f3 := H1.out.free 10
  have f4 := H1.out.free 11
  have f5 := H1.out.free 12
  have f6 := H1.out.free 13
  go_upto_region 3 with fail
  refine named (P := fun W => Code.wp _ _ _ _ W) (fun W3 => Has W3 w.heap.size st0 ∧ Has W3 b1 stS ∧ Below w.heap.size w W3) ⟨set7_far H0.out (by omega) 7 allW, H1.out.put 1 7 allW (by decide) rfl, set7_below HBL.out (by omega) 7 allW⟩ ?_
  rintro W3 ⟨h0, h1, HB⟩
  have k4 := Lib.hid (h0.setRow stS)
  have HB3 := Lib.hid (below_row HB (c := w.heap.size) (by omega) stS.arr)
  clear HB c0 c1 c2 c3 c4 c5 c6 f0 f1 f2 f3 f4 f5 f6
  go_wp2_with (first | (refine wpList_loadSt h1 _ rfl rfl rfl ?_) | (refine wpList_storeSt h0 _ _ stS rfl rfl rfl rfl ?_))
  exact bodyPost_ret (results_st Try.results21 _ k4.out rfl) rfl ⟨rfl, HB3.out⟩
end Go.Proofs.Ytglfmcgpbenckaa
