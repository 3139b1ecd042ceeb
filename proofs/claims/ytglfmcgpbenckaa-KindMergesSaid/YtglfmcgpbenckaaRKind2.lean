/- The walk of turnbuckleref17.Join: it is kind.Join's plain law. -/
import Derived.Test.YtglfmcgpbenckaaStateMore
import Derived.Test.YtglfmcgpbenckaaSpanR2
import Derived.Test.YtglfmcgpbenckaaRKind1
import Derived.Outline
namespace Go.Proofs.Ytglfmcgpbenckaa
open Go.RowKit
set_option linter.unusedVariables false
set_option linter.unusedSimpArgs false
theorem rkptr_any (k : Int) (v : Bool) (hv : decide (ptr k) = v) (w : World) : Calls Try.prog 33 #[.int .i64 k] w fun e w' => e = .returned (.bool v) ∧ w = w' := by
  have hc : k = 3 ∨ k = 4 ∨ k = 5 ∨ k = 6 ∨ ((k == 3) = false ∧ (k == 4) = false ∧ (k == 5) = false ∧ (k == 6) = false ∧ ¬ ptr k) := by
    unfold ptr; simp; omega
  rcases hc with rfl | rfl | rfl | rfl | ⟨h3, h4, h5, h6, hn⟩
  · obtain rfl : true = v := by rw [← hv]; decide
    clear hv
    go_enter Try.func33, Try.ntmps33
    go_wp2
    go_ret
    exact ⟨rfl, rfl⟩
  · obtain rfl : true = v := by rw [← hv]; decide
    clear hv
    go_enter Try.func33, Try.ntmps33
    go_wp2
    go_ret
    exact ⟨rfl, rfl⟩
  · obtain rfl : true = v := by rw [← hv]; decide
    clear hv
    go_enter Try.func33, Try.ntmps33
    go_wp2
    go_ret
    exact ⟨rfl, rfl⟩
  · obtain rfl : true = v := by rw [← hv]; decide
    clear hv
    go_enter Try.func33, Try.ntmps33
    go_wp2
    go_ret
    exact ⟨rfl, rfl⟩
  · obtain rfl : false = v := by rw [← hv]; simp [hn]
    clear hv hn
    go_enter Try.func33, Try.ntmps33
    go_wp2
    go_ret
    exact ⟨rfl, rfl⟩
/-- block b of w is a What, known whole. -/
def HasA (w : World) (b : Nat) (cs : Array Value) : Prop := w.heap[b]? = some (.cells cs 26 (0, 0))
theorem HasA.lt {w : World} {b : Nat} {cs : Array Value} (h : HasA w b cs) : b < w.heap.size := by
  by_cases hlt : b < w.heap.size
  · exact hlt
  · have hn : w.heap[b]? = none := by simp; omega
    unfold HasA at h
    rw [hn] at h; cases h
theorem HasA.below {w w' : World} (hb : Below w.heap.size w w') {b : Nat} {cs : Array Value} (h : HasA w b cs) : HasA w' b cs := (hb.block _ h.lt).trans h
theorem HasA.alloc {w : World} {b : Nat} {cs : Array Value} (h : HasA w b cs) (o : Obj) : HasA (w.alloc o) b cs := (Below.heap_alloc _ _ _ h.lt).trans h
theorem HasA.new (w : World) (cs : Array Value) {b : Nat} (hb : b = w.heap.size) : HasA (w.alloc (.cells cs 26)) b cs := by subst hb; exact heap_alloc_new w _
theorem HasA.setRow {w : World} {b : Nat} {cs : Array Value} (h : HasA w b cs) (t : Array Value) : HasA (w.setRow b t) b t := setRow_heap w b _ _ _ _ h
theorem HasA.far {w : World} {b c : Nat} {cs : Array Value} (h : HasA w b cs) (n : ¬ b = c) (t : Array Value) : HasA (w.setRow c t) b cs := (setRow_other w c b t n).trans h
theorem HasA.set {w : World} {b : Nat} {cs : Array Value} (h : HasA w b cs) (i : Nat) (v : Value) : HasA (w.setCell ⟨b, i, none⟩ v) b (cs.setIfInBounds i v) := heap_setCell_same _ _ _ _ _ _ h
theorem HasA.set_far {w : World} {b : Nat} {cs : Array Value} (h : HasA w b cs) {p : Addr} (n : ¬ b = p.block) (v : Value) : HasA (w.setCell p v) b cs := (Below.heap_setCell _ _ _ _ n).trans h
theorem HasA.seven {w : World} {b : Nat} {x : Wh} (h : HasA w b #[.int .i64 x.k, .int .i64 x.t, .int .i64 x.i, .int .i64 x.l, .bool x.m, .int .u64 (x.a : Nat), .int .u64 (x.b : Nat)]) : Seven w b x.k x.t x.i x.l x.m (x.a : Nat) (x.b : Nat) :=
  have g := fun j => cell_of_row w b j _ _ _ h
  ⟨g 0, g 1, g 2, g 3, g 4, g 5, g 6⟩
theorem HasA.free {w : World} {b : Nat} {cs : Array Value} (h : HasA w b cs) (j : Nat) : w.frozen? ⟨b, j, none⟩ = false := frozen_of_row w b j _ _ h
theorem one7 (k t i l : Int) (m : Bool) (a b : Int) : ((#[.int .i64 k, .int .i64 t, .int .i64 i, .int .i64 l, .bool m, .int .u64 a, .int .u64 b] : Array Value).all fun x => x.oneCell') = true := by simp [Value.oneCell']
theorem info26 : (Try.prog.info? 26).map (·.size) = some 7 := by kernel_rfl
theorem wpList_loadA {ops : Array Oper} {rest : List Oper} {o : Oper} {a : Act} {w : World} {Q : Exit → Act → World → Prop} {cs : Array Value} {g : Nat} (hg : HasA w g cs) (h7 : cs.size = 7) (x : Operand) (hgd : o.guard = none) (ho : o.op = .load 26 x)
    (hx : a.eval x = .pointer (some ⟨g, 0, none⟩)) (h : wpList Try.prog ops Q rest (a.put o.dst (.agg cs)) w) : wpList Try.prog ops Q (o :: rest) a w :=
  wpList_load_row hgd 26 x ho g hx 26 cs (0, 0) _ hg Try.underlying26 rfl (by rw [h7]; exact info26) h
theorem wpList_storeA {ops : Array Oper} {rest : List Oper} {o : Oper} {a : Act} {w : World} {Q : Exit → Act → World → Prop} {cs : Array Value} {g : Nat} (hg : HasA w g cs) (h7 : cs.size = 7) (x y : Operand) (ds : Array Value) (hd : ds.size = 7) (h1 : (ds.all fun x => x.oneCell') = true) (hgd : o.guard = none) (ho : o.op = .store 26 x y)
    (hx : a.eval x = .pointer (some ⟨g, 0, none⟩)) (hy : a.eval y = .agg ds) (h : wpList Try.prog ops Q rest (a.put o.dst undef) (w.setRow g ds)) : wpList Try.prog ops Q (o :: rest) a w :=
  wpList_plain hgd fun _ hK => by
    unfold Oper.wp execOp
    have e : (Instr.storeAt 26 (.pointer (some ⟨g, 0, none⟩)) (.agg ds)).run Try.prog w = .ok () (w.setRow g ds) := by
      simp only [Instr.storeAt, Instr.sureAddr, Sem.run_bind, Sem.run_pure, Result.andThen_ok, run_storeVar_row w g 26 26 cs ds hg (by rw [hd]; exact info26) (by rw [h7, hd]) h1]
    simp only [ho, hx, hy, e, Sem.run_bind, Sem.run_pure, Result.andThen_ok]
    exact hK _ _ h
theorem results_A {fn : Func} {p : Tmp} (h : fn.results = #[.cell p 26]) (tmps : Array Value) {w : World} {g : Nat} {cs : Array Value} (hg : HasA w g cs) (h7 : cs.size = 7) (hp : tmps.getD p undef = .pointer (some ⟨g, 0, none⟩)) :
    (results fn tmps).run Try.prog w = .ok (.agg cs) w :=
  results_cell_row h tmps w g 26 cs (0, 0) _ hp hg Try.underlying26 rfl (by rw [h7]; exact info26)

set_option maxRecDepth 100000 in
set_option maxHeartbeats 4000000 in
theorem rj_no1 (x y : Wh) (M1 : ∀ w : World, Calls Try.prog 31 #[.agg #[.int .i64 x.k, .int .i64 x.t, .int .i64 x.i, .int .i64 x.l, .bool x.m, .int .u64 (x.a : Nat), .int .u64 (x.b : Nat)]] w fun e w' => e = .returned (.bool false) ∧ Below w.heap.size w w') (w : World) :
    Calls Try.prog 29 #[.agg #[.int .i64 x.k, .int .i64 x.t, .int .i64 x.i, .int .i64 x.l, .bool x.m, .int .u64 (x.a : Nat), .int .u64 (x.b : Nat)], .agg #[.int .i64 y.k, .int .i64 y.t, .int .i64 y.i, .int .i64 y.l, .bool y.m, .int .u64 (y.a : Nat), .int .u64 (y.b : Nat)]] w fun e w' => e = .returned (.agg #[.int .i64 0, .int .i64 0, .int .i64 0, .int .i64 0, .bool false, .int .u64 0, .int .u64 0]) ∧ Below w.heap.size w w' := by
  have he := eqWhat
  go_enter Try.func29, Try.ntmps29
  go_upto_region 2 with fail
  refine named (P := fun W => Code.wp _ _ _ _ W) (fun W => HasA W (w.heap.size) #[.int .i64 x.k, .int .i64 x.t, .int .i64 x.i, .int .i64 x.l, .bool x.m, .int .u64 (x.a : Nat), .int .u64 (x.b : Nat)] ∧ HasA W (w.heap.size + 1) #[.int .i64 y.k, .int .i64 y.t, .int .i64 y.i, .int .i64 y.l, .bool y.m, .int .u64 (y.a : Nat), .int .u64 (y.b : Nat)] ∧ HasA W (w.heap.size + 1 + 1) #[.int .i64 0, .int .i64 0, .int .i64 0, .int .i64 0, .bool false, .int .u64 0, .int .u64 0] ∧ HasA W (w.heap.size + 1 + 1 + 1) #[.int .i64 0, .int .i64 0, .int .i64 0, .int .i64 0, .bool false, .int .u64 0, .int .u64 0] ∧ Below w.heap.size w W)
    ⟨(((HasA.new w _ rfl).alloc _).alloc _).alloc _, ((HasA.new _ _ (by simp)).alloc _).alloc _, (HasA.new _ _ (by simp)).alloc _, HasA.new _ _ (by simp), below_alloc (below_alloc (below_alloc (below_alloc (Below.refl _ _) _) _) _) _⟩ ?_
  rintro W ⟨h0, h1, h2, h3, HB⟩
  have H0 := Lib.hid h0
  have H1 := Lib.hid h1
  have H2 := Lib.hid h2
  have H3 := Lib.hid h3
  have HBL := Lib.hid HB
  clear h0 h1 h2 h3 HB
  obtain ⟨o0, o1, o2, o3, o4, o5, o6⟩ := H0.out.seven
  obtain ⟨q0, q1, q2, q3, q4, q5, q6⟩ := H1.out.seven
  go_upto_region 3 with (first | (go_at_call 31; refine (M1 _).mono ?_; rintro e w1 ⟨rfl, hb⟩; have H0 := Lib.hid (HasA.below hb H0.out); have H1 := Lib.hid (HasA.below hb H1.out); have H2 := Lib.hid (HasA.below hb H2.out); have H3 := Lib.hid (HasA.below hb H3.out); have HBL := Lib.hid (below_then HBL.out hb); clear hb o0 o1 o2 o3 o4 o5 o6 q0 q1 q2 q3 q4 q5 q6; obtain ⟨o0, o1, o2, o3, o4, o5, o6⟩ := H0.out.seven; obtain ⟨q0, q1, q2, q3, q4, q5, q6⟩ := H1.out.seven; clear M1))
  have h2 := H2.out
  have HR2 := Lib.hid (h2.setRow #[.int .i64 0, .int .i64 0, .int .i64 0, .int .i64 0, .bool false, .int .u64 0, .int .u64 0])
  have HB3 := Lib.hid (below_row HBL.out (c := w.heap.size + 1 + 1) (by omega) #[.int .i64 0, .int .i64 0, .int .i64 0, .int .i64 0, .bool false, .int .u64 0, .int .u64 0])
  have hs := H3.out
  clear o0 o1 o2 o3 o4 o5 o6 q0 q1 q2 q3 q4 q5 q6
  go_wp2_with (first | (refine wpList_loadA hs rfl _ rfl rfl rfl ?_) | (refine wpList_storeA h2 rfl _ _ #[.int .i64 0, .int .i64 0, .int .i64 0, .int .i64 0, .bool false, .int .u64 0, .int .u64 0] rfl (one7 _ _ _ _ _ _ _) rfl rfl rfl rfl ?_))
  exact bodyPost_ret (results_A Try.results29 _ HR2.out rfl rfl) rfl ⟨rfl, HB3.out⟩

set_option maxRecDepth 100000 in
set_option maxHeartbeats 4000000 in
theorem rj_no2 (x y : Wh) (M1 : ∀ w : World, Calls Try.prog 31 #[.agg #[.int .i64 x.k, .int .i64 x.t, .int .i64 x.i, .int .i64 x.l, .bool x.m, .int .u64 (x.a : Nat), .int .u64 (x.b : Nat)]] w fun e w' => e = .returned (.bool true) ∧ Below w.heap.size w w') (M2 : ∀ w : World, Calls Try.prog 31 #[.agg #[.int .i64 y.k, .int .i64 y.t, .int .i64 y.i, .int .i64 y.l, .bool y.m, .int .u64 (y.a : Nat), .int .u64 (y.b : Nat)]] w fun e w' => e = .returned (.bool false) ∧ Below w.heap.size w w') (w : World) :
    Calls Try.prog 29 #[.agg #[.int .i64 x.k, .int .i64 x.t, .int .i64 x.i, .int .i64 x.l, .bool x.m, .int .u64 (x.a : Nat), .int .u64 (x.b : Nat)], .agg #[.int .i64 y.k, .int .i64 y.t, .int .i64 y.i, .int .i64 y.l, .bool y.m, .int .u64 (y.a : Nat), .int .u64 (y.b : Nat)]] w fun e w' => e = .returned (.agg #[.int .i64 0, .int .i64 0, .int .i64 0, .int .i64 0, .bool false, .int .u64 0, .int .u64 0]) ∧ Below w.heap.size w w' := by
  have he := eqWhat
  go_enter Try.func29, Try.ntmps29
  go_upto_region 2 with fail
  refine named (P := fun W => Code.wp _ _ _ _ W) (fun W => HasA W (w.heap.size) #[.int .i64 x.k, .int .i64 x.t, .int .i64 x.i, .int .i64 x.l, .bool x.m, .int .u64 (x.a : Nat), .int .u64 (x.b : Nat)] ∧ HasA W (w.heap.size + 1) #[.int .i64 y.k, .int .i64 y.t, .int .i64 y.i, .int .i64 y.l, .bool y.m, .int .u64 (y.a : Nat), .int .u64 (y.b : Nat)] ∧ HasA W (w.heap.size + 1 + 1) #[.int .i64 0, .int .i64 0, .int .i64 0, .int .i64 0, .bool false, .int .u64 0, .int .u64 0] ∧ HasA W (w.heap.size + 1 + 1 + 1) #[.int .i64 0, .int .i64 0, .int .i64 0, .int .i64 0, .bool false, .int .u64 0, .int .u64 0] ∧ Below w.heap.size w W)
    ⟨(((HasA.new w _ rfl).alloc _).alloc _).alloc _, ((HasA.new _ _ (by simp)).alloc _).alloc _, (HasA.new _ _ (by simp)).alloc _, HasA.new _ _ (by simp), below_alloc (below_alloc (below_alloc (below_alloc (Below.refl _ _) _) _) _) _⟩ ?_
  rintro W ⟨h0, h1, h2, h3, HB⟩
  have H0 := Lib.hid h0
  have H1 := Lib.hid h1
  have H2 := Lib.hid h2
  have H3 := Lib.hid h3
  have HBL := Lib.hid HB
  clear h0 h1 h2 h3 HB
  obtain ⟨o0, o1, o2, o3, o4, o5, o6⟩ := H0.out.seven
  obtain ⟨q0, q1, q2, q3, q4, q5, q6⟩ := H1.out.seven
  go_upto_region 3 with (first | (go_at_call 31; refine (M1 _).mono ?_; rintro e w1 ⟨rfl, hb⟩; have H0 := Lib.hid (HasA.below hb H0.out); have H1 := Lib.hid (HasA.below hb H1.out); have H2 := Lib.hid (HasA.below hb H2.out); have H3 := Lib.hid (HasA.below hb H3.out); have HBL := Lib.hid (below_then HBL.out hb); clear hb o0 o1 o2 o3 o4 o5 o6 q0 q1 q2 q3 q4 q5 q6; obtain ⟨o0, o1, o2, o3, o4, o5, o6⟩ := H0.out.seven; obtain ⟨q0, q1, q2, q3, q4, q5, q6⟩ := H1.out.seven; clear M1) | (go_at_call 31; refine (M2 _).mono ?_; rintro e w2 ⟨rfl, hb⟩; have H0 := Lib.hid (HasA.below hb H0.out); have H1 := Lib.hid (HasA.below hb H1.out); have H2 := Lib.hid (HasA.below hb H2.out); have H3 := Lib.hid (HasA.below hb H3.out); have HBL := Lib.hid (below_then HBL.out hb); clear hb o0 o1 o2 o3 o4 o5 o6 q0 q1 q2 q3 q4 q5 q6; obtain ⟨o0, o1, o2, o3, o4, o5, o6⟩ := H0.out.seven; obtain ⟨q0, q1, q2, q3, q4, q5, q6⟩ := H1.out.seven; clear M2))
  have h2 := H2.out
  have HR2 := Lib.hid (h2.setRow #[.int .i64 0, .int .i64 0, .int .i64 0, .int .i64 0, .bool false, .int .u64 0, .int .u64 0])
  have HB3 := Lib.hid (below_row HBL.out (c := w.heap.size + 1 + 1) (by omega) #[.int .i64 0, .int .i64 0, .int .i64 0, .int .i64 0, .bool false, .int .u64 0, .int .u64 0])
  have hs := H3.out
  clear o0 o1 o2 o3 o4 o5 o6 q0 q1 q2 q3 q4 q5 q6
  go_wp2_with (first | (refine wpList_loadA hs rfl _ rfl rfl rfl ?_) | (refine wpList_storeA h2 rfl _ _ #[.int .i64 0, .int .i64 0, .int .i64 0, .int .i64 0, .bool false, .int .u64 0, .int .u64 0] rfl (one7 _ _ _ _ _ _ _) rfl rfl rfl rfl ?_))
  exact bodyPost_ret (results_A Try.results29 _ HR2.out rfl rfl) rfl ⟨rfl, HB3.out⟩

set_option maxRecDepth 100000 in
set_option maxHeartbeats 4000000 in
theorem rj_same (x y : Wh) (M1 : ∀ w : World, Calls Try.prog 31 #[.agg #[.int .i64 x.k, .int .i64 x.t, .int .i64 x.i, .int .i64 x.l, .bool x.m, .int .u64 (x.a : Nat), .int .u64 (x.b : Nat)]] w fun e w' => e = .returned (.bool true) ∧ Below w.heap.size w w') (M2 : ∀ w : World, Calls Try.prog 31 #[.agg #[.int .i64 y.k, .int .i64 y.t, .int .i64 y.i, .int .i64 y.l, .bool y.m, .int .u64 (y.a : Nat), .int .u64 (y.b : Nat)]] w fun e w' => e = .returned (.bool true) ∧ Below w.heap.size w w') (he0 : eqB x.k x.t x.i x.l x.m (x.a : Nat) (x.b : Nat) y.k y.t y.i y.l y.m (y.a : Nat) (y.b : Nat) = true) (w : World) :
    Calls Try.prog 29 #[.agg #[.int .i64 x.k, .int .i64 x.t, .int .i64 x.i, .int .i64 x.l, .bool x.m, .int .u64 (x.a : Nat), .int .u64 (x.b : Nat)], .agg #[.int .i64 y.k, .int .i64 y.t, .int .i64 y.i, .int .i64 y.l, .bool y.m, .int .u64 (y.a : Nat), .int .u64 (y.b : Nat)]] w fun e w' => e = .returned (.agg #[.int .i64 x.k, .int .i64 x.t, .int .i64 x.i, .int .i64 x.l, .bool x.m, .int .u64 (x.a : Nat), .int .u64 (x.b : Nat)]) ∧ Below w.heap.size w w' := by
  have he := eqWhat
  go_enter Try.func29, Try.ntmps29
  go_upto_region 2 with fail
  refine named (P := fun W => Code.wp _ _ _ _ W) (fun W => HasA W (w.heap.size) #[.int .i64 x.k, .int .i64 x.t, .int .i64 x.i, .int .i64 x.l, .bool x.m, .int .u64 (x.a : Nat), .int .u64 (x.b : Nat)] ∧ HasA W (w.heap.size + 1) #[.int .i64 y.k, .int .i64 y.t, .int .i64 y.i, .int .i64 y.l, .bool y.m, .int .u64 (y.a : Nat), .int .u64 (y.b : Nat)] ∧ HasA W (w.heap.size + 1 + 1) #[.int .i64 0, .int .i64 0, .int .i64 0, .int .i64 0, .bool false, .int .u64 0, .int .u64 0] ∧ HasA W (w.heap.size + 1 + 1 + 1) #[.int .i64 0, .int .i64 0, .int .i64 0, .int .i64 0, .bool false, .int .u64 0, .int .u64 0] ∧ Below w.heap.size w W)
    ⟨(((HasA.new w _ rfl).alloc _).alloc _).alloc _, ((HasA.new _ _ (by simp)).alloc _).alloc _, (HasA.new _ _ (by simp)).alloc _, HasA.new _ _ (by simp), below_alloc (below_alloc (below_alloc (below_alloc (Below.refl _ _) _) _) _) _⟩ ?_
  rintro W ⟨h0, h1, h2, h3, HB⟩
  have H0 := Lib.hid h0
  have H1 := Lib.hid h1
  have H2 := Lib.hid h2
  have H3 := Lib.hid h3
  have HBL := Lib.hid HB
  clear h0 h1 h2 h3 HB
  obtain ⟨o0, o1, o2, o3, o4, o5, o6⟩ := H0.out.seven
  obtain ⟨q0, q1, q2, q3, q4, q5, q6⟩ := H1.out.seven
  go_upto_region 4 with (first | (go_at_call 31; refine (M1 _).mono ?_; rintro e w1 ⟨rfl, hb⟩; have H0 := Lib.hid (HasA.below hb H0.out); have H1 := Lib.hid (HasA.below hb H1.out); have H2 := Lib.hid (HasA.below hb H2.out); have H3 := Lib.hid (HasA.below hb H3.out); have HBL := Lib.hid (below_then HBL.out hb); clear hb o0 o1 o2 o3 o4 o5 o6 q0 q1 q2 q3 q4 q5 q6; obtain ⟨o0, o1, o2, o3, o4, o5, o6⟩ := H0.out.seven; obtain ⟨q0, q1, q2, q3, q4, q5, q6⟩ := H1.out.seven; clear M1) | (go_at_call 31; refine (M2 _).mono ?_; rintro e w2 ⟨rfl, hb⟩; have H0 := Lib.hid (HasA.below hb H0.out); have H1 := Lib.hid (HasA.below hb H1.out); have H2 := Lib.hid (HasA.below hb H2.out); have H3 := Lib.hid (HasA.below hb H3.out); have HBL := Lib.hid (below_then HBL.out hb); clear hb o0 o1 o2 o3 o4 o5 o6 q0 q1 q2 q3 q4 q5 q6; obtain ⟨o0, o1, o2, o3, o4, o5, o6⟩ := H0.out.seven; obtain ⟨q0, q1, q2, q3, q4, q5, q6⟩ := H1.out.seven; clear M2))
  go_upto_region 5 with fail
  have h2 := H2.out
  have HR2 := Lib.hid (h2.setRow #[.int .i64 x.k, .int .i64 x.t, .int .i64 x.i, .int .i64 x.l, .bool x.m, .int .u64 (x.a : Nat), .int .u64 (x.b : Nat)])
  have HB3 := Lib.hid (below_row HBL.out (c := w.heap.size + 1 + 1) (by omega) #[.int .i64 x.k, .int .i64 x.t, .int .i64 x.i, .int .i64 x.l, .bool x.m, .int .u64 (x.a : Nat), .int .u64 (x.b : Nat)])
  have hs := H0.out
  clear o0 o1 o2 o3 o4 o5 o6 q0 q1 q2 q3 q4 q5 q6
  go_wp2_with (first | (refine wpList_loadA hs rfl _ rfl rfl rfl ?_) | (refine wpList_storeA h2 rfl _ _ #[.int .i64 x.k, .int .i64 x.t, .int .i64 x.i, .int .i64 x.l, .bool x.m, .int .u64 (x.a : Nat), .int .u64 (x.b : Nat)] rfl (one7 _ _ _ _ _ _ _) rfl rfl rfl rfl ?_))
  exact bodyPost_ret (results_A Try.results29 _ HR2.out rfl rfl) rfl ⟨rfl, HB3.out⟩

set_option maxRecDepth 100000 in
set_option maxHeartbeats 4000000 in
theorem rj_num (x y : Wh) (lo hi : Int) (M1 : ∀ w : World, Calls Try.prog 31 #[.agg #[.int .i64 x.k, .int .i64 x.t, .int .i64 x.i, .int .i64 x.l, .bool x.m, .int .u64 (x.a : Nat), .int .u64 (x.b : Nat)]] w fun e w' => e = .returned (.bool true) ∧ Below w.heap.size w w') (M2 : ∀ w : World, Calls Try.prog 31 #[.agg #[.int .i64 y.k, .int .i64 y.t, .int .i64 y.i, .int .i64 y.l, .bool y.m, .int .u64 (y.a : Nat), .int .u64 (y.b : Nat)]] w fun e w' => e = .returned (.bool true) ∧ Below w.heap.size w w') (he0 : eqB x.k x.t x.i x.l x.m (x.a : Nat) (x.b : Nat) y.k y.t y.i y.l y.m (y.a : Nat) (y.b : Nat) = false) (kx : (x.k == 1) = true) (ky : (y.k == 1) = true) (CJ : ∀ w : World, Calls Try.prog 32 #[.agg #[.int .u64 (x.a : Nat), .int .u64 (x.b : Nat)], .agg #[.int .u64 (y.a : Nat), .int .u64 (y.b : Nat)]] w fun e w' => e = .returned (.tuple #[.agg #[.int .u64 lo, .int .u64 hi], .int .i64 0]) ∧ Below w.heap.size w w') (w : World) :
    Calls Try.prog 29 #[.agg #[.int .i64 x.k, .int .i64 x.t, .int .i64 x.i, .int .i64 x.l, .bool x.m, .int .u64 (x.a : Nat), .int .u64 (x.b : Nat)], .agg #[.int .i64 y.k, .int .i64 y.t, .int .i64 y.i, .int .i64 y.l, .bool y.m, .int .u64 (y.a : Nat), .int .u64 (y.b : Nat)]] w fun e w' => e = .returned (.agg #[.int .i64 1, .int .i64 0, .int .i64 0, .int .i64 0, .bool false, .int .u64 lo, .int .u64 hi]) ∧ Below w.heap.size w w' := by
  have he := eqWhat
  go_enter Try.func29, Try.ntmps29
  go_upto_region 2 with fail
  refine named (P := fun W => Code.wp _ _ _ _ W) (fun W => HasA W (w.heap.size) #[.int .i64 x.k, .int .i64 x.t, .int .i64 x.i, .int .i64 x.l, .bool x.m, .int .u64 (x.a : Nat), .int .u64 (x.b : Nat)] ∧ HasA W (w.heap.size + 1) #[.int .i64 y.k, .int .i64 y.t, .int .i64 y.i, .int .i64 y.l, .bool y.m, .int .u64 (y.a : Nat), .int .u64 (y.b : Nat)] ∧ HasA W (w.heap.size + 1 + 1) #[.int .i64 0, .int .i64 0, .int .i64 0, .int .i64 0, .bool false, .int .u64 0, .int .u64 0] ∧ HasA W (w.heap.size + 1 + 1 + 1) #[.int .i64 0, .int .i64 0, .int .i64 0, .int .i64 0, .bool false, .int .u64 0, .int .u64 0] ∧ Below w.heap.size w W)
    ⟨(((HasA.new w _ rfl).alloc _).alloc _).alloc _, ((HasA.new _ _ (by simp)).alloc _).alloc _, (HasA.new _ _ (by simp)).alloc _, HasA.new _ _ (by simp), below_alloc (below_alloc (below_alloc (below_alloc (Below.refl _ _) _) _) _) _⟩ ?_
  rintro W ⟨h0, h1, h2, h3, HB⟩
  have H0 := Lib.hid h0
  have H1 := Lib.hid h1
  have H2 := Lib.hid h2
  have H3 := Lib.hid h3
  have HBL := Lib.hid HB
  clear h0 h1 h2 h3 HB
  obtain ⟨o0, o1, o2, o3, o4, o5, o6⟩ := H0.out.seven
  obtain ⟨q0, q1, q2, q3, q4, q5, q6⟩ := H1.out.seven
  go_upto_region 7 with (first | (go_at_call 31; refine (M1 _).mono ?_; rintro e w1 ⟨rfl, hb⟩; have H0 := Lib.hid (HasA.below hb H0.out); have H1 := Lib.hid (HasA.below hb H1.out); have H2 := Lib.hid (HasA.below hb H2.out); have H3 := Lib.hid (HasA.below hb H3.out); have HBL := Lib.hid (below_then HBL.out hb); clear hb o0 o1 o2 o3 o4 o5 o6 q0 q1 q2 q3 q4 q5 q6; obtain ⟨o0, o1, o2, o3, o4, o5, o6⟩ := H0.out.seven; obtain ⟨q0, q1, q2, q3, q4, q5, q6⟩ := H1.out.seven; clear M1) | (go_at_call 31; refine (M2 _).mono ?_; rintro e w2 ⟨rfl, hb⟩; have H0 := Lib.hid (HasA.below hb H0.out); have H1 := Lib.hid (HasA.below hb H1.out); have H2 := Lib.hid (HasA.below hb H2.out); have H3 := Lib.hid (HasA.below hb H3.out); have HBL := Lib.hid (below_then HBL.out hb); clear hb o0 o1 o2 o3 o4 o5 o6 q0 q1 q2 q3 q4 q5 q6; obtain ⟨o0, o1, o2, o3, o4, o5, o6⟩ := H0.out.seven; obtain ⟨q0, q1, q2, q3, q4, q5, q6⟩ := H1.out.seven; clear M2))
  have hl2 := H2.out.lt
  go_upto_region 8 with (go_at_call 32; refine (CJ _).mono ?_; rintro e w3 ⟨rfl, hb⟩; have H0 := Lib.hid (HasA.below hb H0.out); have H1 := Lib.hid (HasA.below hb H1.out); have H2 := Lib.hid (HasA.below hb H2.out); have H3 := Lib.hid (HasA.below hb H3.out); have HBL := Lib.hid (below_then HBL.out hb); clear hb o0 o1 o2 o3 o4 o5 o6 q0 q1 q2 q3 q4 q5 q6; obtain ⟨o0, o1, o2, o3, o4, o5, o6⟩ := H0.out.seven; obtain ⟨q0, q1, q2, q3, q4, q5, q6⟩ := H1.out.seven; have hl3 := H2.out.lt)
  refine named (P := fun W => Code.wp _ _ _ _ W) (fun W => HasA W (w.heap.size + 1 + 1) #[.int .i64 0, .int .i64 0, .int .i64 0, .int .i64 0, .bool false, .int .u64 0, .int .u64 0] ∧ W.cell? ⟨w3.heap.size, 0, none⟩ = some (.int .u64 lo) ∧ W.cell? ⟨w3.heap.size, 1, none⟩ = some (.int .u64 hi) ∧ Below w.heap.size w W) ⟨H2.out.alloc _, by go_simp, by go_simp, below_alloc HBL.out _⟩ ?_
  rintro W8 ⟨h2, s0, s1, HB⟩
  have HR2 := Lib.hid (h2.setRow #[.int .i64 1, .int .i64 0, .int .i64 0, .int .i64 0, .bool false, .int .u64 lo, .int .u64 hi])
  have HB3 := Lib.hid (below_row HB (c := w.heap.size + 1 + 1) (by omega) #[.int .i64 1, .int .i64 0, .int .i64 0, .int .i64 0, .bool false, .int .u64 lo, .int .u64 hi])
  clear HB o0 o1 o2 o3 o4 o5 o6 q0 q1 q2 q3 q4 q5 q6
  go_wp2_with (refine wpList_storeA h2 rfl _ _ #[.int .i64 1, .int .i64 0, .int .i64 0, .int .i64 0, .bool false, .int .u64 lo, .int .u64 hi] rfl (one7 _ _ _ _ _ _ _) rfl rfl rfl rfl ?_)
  exact bodyPost_ret (results_A Try.results29 _ HR2.out rfl rfl) rfl ⟨rfl, HB3.out⟩

set_option maxRecDepth 100000 in
set_option maxHeartbeats 4000000 in
theorem rj_y4 (x y : Wh) (M1 : ∀ w : World, Calls Try.prog 31 #[.agg #[.int .i64 x.k, .int .i64 x.t, .int .i64 x.i, .int .i64 x.l, .bool x.m, .int .u64 (x.a : Nat), .int .u64 (x.b : Nat)]] w fun e w' => e = .returned (.bool true) ∧ Below w.heap.size w w') (M2 : ∀ w : World, Calls Try.prog 31 #[.agg #[.int .i64 y.k, .int .i64 y.t, .int .i64 y.i, .int .i64 y.l, .bool y.m, .int .u64 (y.a : Nat), .int .u64 (y.b : Nat)]] w fun e w' => e = .returned (.bool true) ∧ Below w.heap.size w w') (he0 : eqB x.k x.t x.i x.l x.m (x.a : Nat) (x.b : Nat) y.k y.t y.i y.l y.m (y.a : Nat) (y.b : Nat) = false) (k1 : (x.k == 1) = false) (k2 : (x.k == 2) = true) (k4 : (y.k == 4) = true) (w : World) :
    Calls Try.prog 29 #[.agg #[.int .i64 x.k, .int .i64 x.t, .int .i64 x.i, .int .i64 x.l, .bool x.m, .int .u64 (x.a : Nat), .int .u64 (x.b : Nat)], .agg #[.int .i64 y.k, .int .i64 y.t, .int .i64 y.i, .int .i64 y.l, .bool y.m, .int .u64 (y.a : Nat), .int .u64 (y.b : Nat)]] w fun e w' => e = .returned (.agg #[.int .i64 y.k, .int .i64 y.t, .int .i64 y.i, .int .i64 y.l, .bool true, .int .u64 (y.a : Nat), .int .u64 (y.b : Nat)]) ∧ Below w.heap.size w w' := by
  have he := eqWhat
  go_enter Try.func29, Try.ntmps29
  go_upto_region 2 with fail
  refine named (P := fun W => Code.wp _ _ _ _ W) (fun W => HasA W (w.heap.size) #[.int .i64 x.k, .int .i64 x.t, .int .i64 x.i, .int .i64 x.l, .bool x.m, .int .u64 (x.a : Nat), .int .u64 (x.b : Nat)] ∧ HasA W (w.heap.size + 1) #[.int .i64 y.k, .int .i64 y.t, .int .i64 y.i, .int .i64 y.l, .bool y.m, .int .u64 (y.a : Nat), .int .u64 (y.b : Nat)] ∧ HasA W (w.heap.size + 1 + 1) #[.int .i64 0, .int .i64 0, .int .i64 0, .int .i64 0, .bool false, .int .u64 0, .int .u64 0] ∧ HasA W (w.heap.size + 1 + 1 + 1) #[.int .i64 0, .int .i64 0, .int .i64 0, .int .i64 0, .bool false, .int .u64 0, .int .u64 0] ∧ Below w.heap.size w W)
    ⟨(((HasA.new w _ rfl).alloc _).alloc _).alloc _, ((HasA.new _ _ (by simp)).alloc _).alloc _, (HasA.new _ _ (by simp)).alloc _, HasA.new _ _ (by simp), below_alloc (below_alloc (below_alloc (below_alloc (Below.refl _ _) _) _) _) _⟩ ?_
  rintro W ⟨h0, h1, h2, h3, HB⟩
  have H0 := Lib.hid h0
  have H1 := Lib.hid h1
  have H2 := Lib.hid h2
  have H3 := Lib.hid h3
  have HBL := Lib.hid HB
  clear h0 h1 h2 h3 HB
  obtain ⟨o0, o1, o2, o3, o4, o5, o6⟩ := H0.out.seven
  obtain ⟨q0, q1, q2, q3, q4, q5, q6⟩ := H1.out.seven
  go_upto_region 10 with (first | (go_at_call 31; refine (M1 _).mono ?_; rintro e w1 ⟨rfl, hb⟩; have H0 := Lib.hid (HasA.below hb H0.out); have H1 := Lib.hid (HasA.below hb H1.out); have H2 := Lib.hid (HasA.below hb H2.out); have H3 := Lib.hid (HasA.below hb H3.out); have HBL := Lib.hid (below_then HBL.out hb); clear hb o0 o1 o2 o3 o4 o5 o6 q0 q1 q2 q3 q4 q5 q6; obtain ⟨o0, o1, o2, o3, o4, o5, o6⟩ := H0.out.seven; obtain ⟨q0, q1, q2, q3, q4, q5, q6⟩ := H1.out.seven; clear M1) | (go_at_call 31; refine (M2 _).mono ?_; rintro e w2 ⟨rfl, hb⟩; have H0 := Lib.hid (HasA.below hb H0.out); have H1 := Lib.hid (HasA.below hb H1.out); have H2 := Lib.hid (HasA.below hb H2.out); have H3 := Lib.hid (HasA.below hb H3.out); have HBL := Lib.hid (below_then HBL.out hb); clear hb o0 o1 o2 o3 o4 o5 o6 q0 q1 q2 q3 q4 q5 q6; obtain ⟨o0, o1, o2, o3, o4, o5, o6⟩ := H0.out.seven; obtain ⟨q0, q1, q2, q3, q4, q5, q6⟩ := H1.out.seven; clear M2))
  have f4 := H1.out.free 4
  go_upto_region 11 with fail
  refine named (P := fun W => Code.wp _ _ _ _ W) (fun W => HasA W (w.heap.size + 1) #[.int .i64 y.k, .int .i64 y.t, .int .i64 y.i, .int .i64 y.l, .bool true, .int .u64 (y.a : Nat), .int .u64 (y.b : Nat)] ∧ HasA W (w.heap.size + 1 + 1) #[.int .i64 0, .int .i64 0, .int .i64 0, .int .i64 0, .bool false, .int .u64 0, .int .u64 0] ∧ Below w.heap.size w W) ⟨H1.out.set 4 (.bool true), H2.out.set_far (by simp) _, below_set HBL.out (by simp) _⟩ ?_
  rintro W8 ⟨h1, h2, HB⟩
  have H1 := Lib.hid h1
  have H2 := Lib.hid h2
  have HBL := Lib.hid HB
  clear h1 h2 HB
  have h2 := H2.out
  have HR2 := Lib.hid (h2.setRow #[.int .i64 y.k, .int .i64 y.t, .int .i64 y.i, .int .i64 y.l, .bool true, .int .u64 (y.a : Nat), .int .u64 (y.b : Nat)])
  have HB3 := Lib.hid (below_row HBL.out (c := w.heap.size + 1 + 1) (by omega) #[.int .i64 y.k, .int .i64 y.t, .int .i64 y.i, .int .i64 y.l, .bool true, .int .u64 (y.a : Nat), .int .u64 (y.b : Nat)])
  have hs := H1.out
  clear o0 o1 o2 o3 o4 o5 o6 q0 q1 q2 q3 q4 q5 q6
  go_wp2_with (first | (refine wpList_loadA hs rfl _ rfl rfl rfl ?_) | (refine wpList_storeA h2 rfl _ _ #[.int .i64 y.k, .int .i64 y.t, .int .i64 y.i, .int .i64 y.l, .bool true, .int .u64 (y.a : Nat), .int .u64 (y.b : Nat)] rfl (one7 _ _ _ _ _ _ _) rfl rfl rfl rfl ?_))
  exact bodyPost_ret (results_A Try.results29 _ HR2.out rfl rfl) rfl ⟨rfl, HB3.out⟩

set_option maxRecDepth 100000 in
set_option maxHeartbeats 4000000 in
theorem rj_y6 (x y : Wh) (M1 : ∀ w : World, Calls Try.prog 31 #[.agg #[.int .i64 x.k, .int .i64 x.t, .int .i64 x.i, .int .i64 x.l, .bool x.m, .int .u64 (x.a : Nat), .int .u64 (x.b : Nat)]] w fun e w' => e = .returned (.bool true) ∧ Below w.heap.size w w') (M2 : ∀ w : World, Calls Try.prog 31 #[.agg #[.int .i64 y.k, .int .i64 y.t, .int .i64 y.i, .int .i64 y.l, .bool y.m, .int .u64 (y.a : Nat), .int .u64 (y.b : Nat)]] w fun e w' => e = .returned (.bool true) ∧ Below w.heap.size w w') (he0 : eqB x.k x.t x.i x.l x.m (x.a : Nat) (x.b : Nat) y.k y.t y.i y.l y.m (y.a : Nat) (y.b : Nat) = false) (k1 : (x.k == 1) = false) (k2 : (x.k == 2) = true) (k4 : (y.k == 4) = false) (k6 : (y.k == 6) = true) (w : World) :
    Calls Try.prog 29 #[.agg #[.int .i64 x.k, .int .i64 x.t, .int .i64 x.i, .int .i64 x.l, .bool x.m, .int .u64 (x.a : Nat), .int .u64 (x.b : Nat)], .agg #[.int .i64 y.k, .int .i64 y.t, .int .i64 y.i, .int .i64 y.l, .bool y.m, .int .u64 (y.a : Nat), .int .u64 (y.b : Nat)]] w fun e w' => e = .returned (.agg #[.int .i64 y.k, .int .i64 y.t, .int .i64 y.i, .int .i64 y.l, .bool true, .int .u64 (y.a : Nat), .int .u64 (y.b : Nat)]) ∧ Below w.heap.size w w' := by
  have he := eqWhat
  go_enter Try.func29, Try.ntmps29
  go_upto_region 2 with fail
  refine named (P := fun W => Code.wp _ _ _ _ W) (fun W => HasA W (w.heap.size) #[.int .i64 x.k, .int .i64 x.t, .int .i64 x.i, .int .i64 x.l, .bool x.m, .int .u64 (x.a : Nat), .int .u64 (x.b : Nat)] ∧ HasA W (w.heap.size + 1) #[.int .i64 y.k, .int .i64 y.t, .int .i64 y.i, .int .i64 y.l, .bool y.m, .int .u64 (y.a : Nat), .int .u64 (y.b : Nat)] ∧ HasA W (w.heap.size + 1 + 1) #[.int .i64 0, .int .i64 0, .int .i64 0, .int .i64 0, .bool false, .int .u64 0, .int .u64 0] ∧ HasA W (w.heap.size + 1 + 1 + 1) #[.int .i64 0, .int .i64 0, .int .i64 0, .int .i64 0, .bool false, .int .u64 0, .int .u64 0] ∧ Below w.heap.size w W)
    ⟨(((HasA.new w _ rfl).alloc _).alloc _).alloc _, ((HasA.new _ _ (by simp)).alloc _).alloc _, (HasA.new _ _ (by simp)).alloc _, HasA.new _ _ (by simp), below_alloc (below_alloc (below_alloc (below_alloc (Below.refl _ _) _) _) _) _⟩ ?_
  rintro W ⟨h0, h1, h2, h3, HB⟩
  have H0 := Lib.hid h0
  have H1 := Lib.hid h1
  have H2 := Lib.hid h2
  have H3 := Lib.hid h3
  have HBL := Lib.hid HB
  clear h0 h1 h2 h3 HB
  obtain ⟨o0, o1, o2, o3, o4, o5, o6⟩ := H0.out.seven
  obtain ⟨q0, q1, q2, q3, q4, q5, q6⟩ := H1.out.seven
  go_upto_region 10 with (first | (go_at_call 31; refine (M1 _).mono ?_; rintro e w1 ⟨rfl, hb⟩; have H0 := Lib.hid (HasA.below hb H0.out); have H1 := Lib.hid (HasA.below hb H1.out); have H2 := Lib.hid (HasA.below hb H2.out); have H3 := Lib.hid (HasA.below hb H3.out); have HBL := Lib.hid (below_then HBL.out hb); clear hb o0 o1 o2 o3 o4 o5 o6 q0 q1 q2 q3 q4 q5 q6; obtain ⟨o0, o1, o2, o3, o4, o5, o6⟩ := H0.out.seven; obtain ⟨q0, q1, q2, q3, q4, q5, q6⟩ := H1.out.seven; clear M1) | (go_at_call 31; refine (M2 _).mono ?_; rintro e w2 ⟨rfl, hb⟩; have H0 := Lib.hid (HasA.below hb H0.out); have H1 := Lib.hid (HasA.below hb H1.out); have H2 := Lib.hid (HasA.below hb H2.out); have H3 := Lib.hid (HasA.below hb H3.out); have HBL := Lib.hid (below_then HBL.out hb); clear hb o0 o1 o2 o3 o4 o5 o6 q0 q1 q2 q3 q4 q5 q6; obtain ⟨o0, o1, o2, o3, o4, o5, o6⟩ := H0.out.seven; obtain ⟨q0, q1, q2, q3, q4, q5, q6⟩ := H1.out.seven; clear M2))
  have f4 := H1.out.free 4
  go_upto_region 11 with fail
  refine named (P := fun W => Code.wp _ _ _ _ W) (fun W => HasA W (w.heap.size + 1) #[.int .i64 y.k, .int .i64 y.t, .int .i64 y.i, .int .i64 y.l, .bool true, .int .u64 (y.a : Nat), .int .u64 (y.b : Nat)] ∧ HasA W (w.heap.size + 1 + 1) #[.int .i64 0, .int .i64 0, .int .i64 0, .int .i64 0, .bool false, .int .u64 0, .int .u64 0] ∧ Below w.heap.size w W) ⟨H1.out.set 4 (.bool true), H2.out.set_far (by simp) _, below_set HBL.out (by simp) _⟩ ?_
  rintro W8 ⟨h1, h2, HB⟩
  have H1 := Lib.hid h1
  have H2 := Lib.hid h2
  have HBL := Lib.hid HB
  clear h1 h2 HB
  have h2 := H2.out
  have HR2 := Lib.hid (h2.setRow #[.int .i64 y.k, .int .i64 y.t, .int .i64 y.i, .int .i64 y.l, .bool true, .int .u64 (y.a : Nat), .int .u64 (y.b : Nat)])
  have HB3 := Lib.hid (below_row HBL.out (c := w.heap.size + 1 + 1) (by omega) #[.int .i64 y.k, .int .i64 y.t, .int .i64 y.i, .int .i64 y.l, .bool true, .int .u64 (y.a : Nat), .int .u64 (y.b : Nat)])
  have hs := H1.out
  clear o0 o1 o2 o3 o4 o5 o6 q0 q1 q2 q3 q4 q5 q6
  go_wp2_with (first | (refine wpList_loadA hs rfl _ rfl rfl rfl ?_) | (refine wpList_storeA h2 rfl _ _ #[.int .i64 y.k, .int .i64 y.t, .int .i64 y.i, .int .i64 y.l, .bool true, .int .u64 (y.a : Nat), .int .u64 (y.b : Nat)] rfl (one7 _ _ _ _ _ _ _) rfl rfl rfl rfl ?_))
  exact bodyPost_ret (results_A Try.results29 _ HR2.out rfl rfl) rfl ⟨rfl, HB3.out⟩

set_option maxRecDepth 100000 in
set_option maxHeartbeats 4000000 in
theorem rj_np1a (x y : Wh) (M1 : ∀ w : World, Calls Try.prog 31 #[.agg #[.int .i64 x.k, .int .i64 x.t, .int .i64 x.i, .int .i64 x.l, .bool x.m, .int .u64 (x.a : Nat), .int .u64 (x.b : Nat)]] w fun e w' => e = .returned (.bool true) ∧ Below w.heap.size w w') (M2 : ∀ w : World, Calls Try.prog 31 #[.agg #[.int .i64 y.k, .int .i64 y.t, .int .i64 y.i, .int .i64 y.l, .bool y.m, .int .u64 (y.a : Nat), .int .u64 (y.b : Nat)]] w fun e w' => e = .returned (.bool true) ∧ Below w.heap.size w w') (he0 : eqB x.k x.t x.i x.l x.m (x.a : Nat) (x.b : Nat) y.k y.t y.i y.l y.m (y.a : Nat) (y.b : Nat) = false) (k1 : (x.k == 1) = false) (k2 : (x.k == 2) = false) (CP : ∀ w : World, Calls Try.prog 33 #[.int .i64 x.k] w fun e w' => e = .returned (.bool false) ∧ w = w') (w : World) :
    Calls Try.prog 29 #[.agg #[.int .i64 x.k, .int .i64 x.t, .int .i64 x.i, .int .i64 x.l, .bool x.m, .int .u64 (x.a : Nat), .int .u64 (x.b : Nat)], .agg #[.int .i64 y.k, .int .i64 y.t, .int .i64 y.i, .int .i64 y.l, .bool y.m, .int .u64 (y.a : Nat), .int .u64 (y.b : Nat)]] w fun e w' => e = .returned (.agg #[.int .i64 0, .int .i64 0, .int .i64 0, .int .i64 0, .bool false, .int .u64 0, .int .u64 0]) ∧ Below w.heap.size w w' := by
  have he := eqWhat
  go_enter Try.func29, Try.ntmps29
  go_upto_region 2 with fail
  refine named (P := fun W => Code.wp _ _ _ _ W) (fun W => HasA W (w.heap.size) #[.int .i64 x.k, .int .i64 x.t, .int .i64 x.i, .int .i64 x.l, .bool x.m, .int .u64 (x.a : Nat), .int .u64 (x.b : Nat)] ∧ HasA W (w.heap.size + 1) #[.int .i64 y.k, .int .i64 y.t, .int .i64 y.i, .int .i64 y.l, .bool y.m, .int .u64 (y.a : Nat), .int .u64 (y.b : Nat)] ∧ HasA W (w.heap.size + 1 + 1) #[.int .i64 0, .int .i64 0, .int .i64 0, .int .i64 0, .bool false, .int .u64 0, .int .u64 0] ∧ HasA W (w.heap.size + 1 + 1 + 1) #[.int .i64 0, .int .i64 0, .int .i64 0, .int .i64 0, .bool false, .int .u64 0, .int .u64 0] ∧ Below w.heap.size w W)
    ⟨(((HasA.new w _ rfl).alloc _).alloc _).alloc _, ((HasA.new _ _ (by simp)).alloc _).alloc _, (HasA.new _ _ (by simp)).alloc _, HasA.new _ _ (by simp), below_alloc (below_alloc (below_alloc (below_alloc (Below.refl _ _) _) _) _) _⟩ ?_
  rintro W ⟨h0, h1, h2, h3, HB⟩
  have H0 := Lib.hid h0
  have H1 := Lib.hid h1
  have H2 := Lib.hid h2
  have H3 := Lib.hid h3
  have HBL := Lib.hid HB
  clear h0 h1 h2 h3 HB
  obtain ⟨o0, o1, o2, o3, o4, o5, o6⟩ := H0.out.seven
  obtain ⟨q0, q1, q2, q3, q4, q5, q6⟩ := H1.out.seven
  go_upto_region 9 with (first | (go_at_call 31; refine (M1 _).mono ?_; rintro e w1 ⟨rfl, hb⟩; have H0 := Lib.hid (HasA.below hb H0.out); have H1 := Lib.hid (HasA.below hb H1.out); have H2 := Lib.hid (HasA.below hb H2.out); have H3 := Lib.hid (HasA.below hb H3.out); have HBL := Lib.hid (below_then HBL.out hb); clear hb o0 o1 o2 o3 o4 o5 o6 q0 q1 q2 q3 q4 q5 q6; obtain ⟨o0, o1, o2, o3, o4, o5, o6⟩ := H0.out.seven; obtain ⟨q0, q1, q2, q3, q4, q5, q6⟩ := H1.out.seven; clear M1) | (go_at_call 31; refine (M2 _).mono ?_; rintro e w2 ⟨rfl, hb⟩; have H0 := Lib.hid (HasA.below hb H0.out); have H1 := Lib.hid (HasA.below hb H1.out); have H2 := Lib.hid (HasA.below hb H2.out); have H3 := Lib.hid (HasA.below hb H3.out); have HBL := Lib.hid (below_then HBL.out hb); clear hb o0 o1 o2 o3 o4 o5 o6 q0 q1 q2 q3 q4 q5 q6; obtain ⟨o0, o1, o2, o3, o4, o5, o6⟩ := H0.out.seven; obtain ⟨q0, q1, q2, q3, q4, q5, q6⟩ := H1.out.seven; clear M2))
  go_upto_region 13 with (first | (go_at_call 33; refine (CP _).mono ?_; rintro e w9 ⟨rfl, rfl⟩; clear CP))
  have h2 := H2.out
  have HR2 := Lib.hid (h2.setRow #[.int .i64 0, .int .i64 0, .int .i64 0, .int .i64 0, .bool false, .int .u64 0, .int .u64 0])
  have HB3 := Lib.hid (below_row HBL.out (c := w.heap.size + 1 + 1) (by omega) #[.int .i64 0, .int .i64 0, .int .i64 0, .int .i64 0, .bool false, .int .u64 0, .int .u64 0])
  have hs := H3.out
  clear o0 o1 o2 o3 o4 o5 o6 q0 q1 q2 q3 q4 q5 q6
  go_wp2_with (first | (refine wpList_loadA hs rfl _ rfl rfl rfl ?_) | (refine wpList_storeA h2 rfl _ _ #[.int .i64 0, .int .i64 0, .int .i64 0, .int .i64 0, .bool false, .int .u64 0, .int .u64 0] rfl (one7 _ _ _ _ _ _ _) rfl rfl rfl rfl ?_))
  exact bodyPost_ret (results_A Try.results29 _ HR2.out rfl rfl) rfl ⟨rfl, HB3.out⟩

set_option maxRecDepth 100000 in
set_option maxHeartbeats 4000000 in
theorem rj_np1b (x y : Wh) (M1 : ∀ w : World, Calls Try.prog 31 #[.agg #[.int .i64 x.k, .int .i64 x.t, .int .i64 x.i, .int .i64 x.l, .bool x.m, .int .u64 (x.a : Nat), .int .u64 (x.b : Nat)]] w fun e w' => e = .returned (.bool true) ∧ Below w.heap.size w w') (M2 : ∀ w : World, Calls Try.prog 31 #[.agg #[.int .i64 y.k, .int .i64 y.t, .int .i64 y.i, .int .i64 y.l, .bool y.m, .int .u64 (y.a : Nat), .int .u64 (y.b : Nat)]] w fun e w' => e = .returned (.bool true) ∧ Below w.heap.size w w') (he0 : eqB x.k x.t x.i x.l x.m (x.a : Nat) (x.b : Nat) y.k y.t y.i y.l y.m (y.a : Nat) (y.b : Nat) = false) (k1 : (x.k == 1) = false) (k2 : (x.k == 2) = true) (k4 : (y.k == 4) = false) (k6 : (y.k == 6) = false) (CP : ∀ w : World, Calls Try.prog 33 #[.int .i64 x.k] w fun e w' => e = .returned (.bool false) ∧ w = w') (w : World) :
    Calls Try.prog 29 #[.agg #[.int .i64 x.k, .int .i64 x.t, .int .i64 x.i, .int .i64 x.l, .bool x.m, .int .u64 (x.a : Nat), .int .u64 (x.b : Nat)], .agg #[.int .i64 y.k, .int .i64 y.t, .int .i64 y.i, .int .i64 y.l, .bool y.m, .int .u64 (y.a : Nat), .int .u64 (y.b : Nat)]] w fun e w' => e = .returned (.agg #[.int .i64 0, .int .i64 0, .int .i64 0, .int .i64 0, .bool false, .int .u64 0, .int .u64 0]) ∧ Below w.heap.size w w' := by
  have he := eqWhat
  go_enter Try.func29, Try.ntmps29
  go_upto_region 2 with fail
  refine named (P := fun W => Code.wp _ _ _ _ W) (fun W => HasA W (w.heap.size) #[.int .i64 x.k, .int .i64 x.t, .int .i64 x.i, .int .i64 x.l, .bool x.m, .int .u64 (x.a : Nat), .int .u64 (x.b : Nat)] ∧ HasA W (w.heap.size + 1) #[.int .i64 y.k, .int .i64 y.t, .int .i64 y.i, .int .i64 y.l, .bool y.m, .int .u64 (y.a : Nat), .int .u64 (y.b : Nat)] ∧ HasA W (w.heap.size + 1 + 1) #[.int .i64 0, .int .i64 0, .int .i64 0, .int .i64 0, .bool false, .int .u64 0, .int .u64 0] ∧ HasA W (w.heap.size + 1 + 1 + 1) #[.int .i64 0, .int .i64 0, .int .i64 0, .int .i64 0, .bool false, .int .u64 0, .int .u64 0] ∧ Below w.heap.size w W)
    ⟨(((HasA.new w _ rfl).alloc _).alloc _).alloc _, ((HasA.new _ _ (by simp)).alloc _).alloc _, (HasA.new _ _ (by simp)).alloc _, HasA.new _ _ (by simp), below_alloc (below_alloc (below_alloc (below_alloc (Below.refl _ _) _) _) _) _⟩ ?_
  rintro W ⟨h0, h1, h2, h3, HB⟩
  have H0 := Lib.hid h0
  have H1 := Lib.hid h1
  have H2 := Lib.hid h2
  have H3 := Lib.hid h3
  have HBL := Lib.hid HB
  clear h0 h1 h2 h3 HB
  obtain ⟨o0, o1, o2, o3, o4, o5, o6⟩ := H0.out.seven
  obtain ⟨q0, q1, q2, q3, q4, q5, q6⟩ := H1.out.seven
  go_upto_region 9 with (first | (go_at_call 31; refine (M1 _).mono ?_; rintro e w1 ⟨rfl, hb⟩; have H0 := Lib.hid (HasA.below hb H0.out); have H1 := Lib.hid (HasA.below hb H1.out); have H2 := Lib.hid (HasA.below hb H2.out); have H3 := Lib.hid (HasA.below hb H3.out); have HBL := Lib.hid (below_then HBL.out hb); clear hb o0 o1 o2 o3 o4 o5 o6 q0 q1 q2 q3 q4 q5 q6; obtain ⟨o0, o1, o2, o3, o4, o5, o6⟩ := H0.out.seven; obtain ⟨q0, q1, q2, q3, q4, q5, q6⟩ := H1.out.seven; clear M1) | (go_at_call 31; refine (M2 _).mono ?_; rintro e w2 ⟨rfl, hb⟩; have H0 := Lib.hid (HasA.below hb H0.out); have H1 := Lib.hid (HasA.below hb H1.out); have H2 := Lib.hid (HasA.below hb H2.out); have H3 := Lib.hid (HasA.below hb H3.out); have HBL := Lib.hid (below_then HBL.out hb); clear hb o0 o1 o2 o3 o4 o5 o6 q0 q1 q2 q3 q4 q5 q6; obtain ⟨o0, o1, o2, o3, o4, o5, o6⟩ := H0.out.seven; obtain ⟨q0, q1, q2, q3, q4, q5, q6⟩ := H1.out.seven; clear M2))
  go_upto_region 13 with (first | (go_at_call 33; refine (CP _).mono ?_; rintro e w9 ⟨rfl, rfl⟩; clear CP))
  have h2 := H2.out
  have HR2 := Lib.hid (h2.setRow #[.int .i64 0, .int .i64 0, .int .i64 0, .int .i64 0, .bool false, .int .u64 0, .int .u64 0])
  have HB3 := Lib.hid (below_row HBL.out (c := w.heap.size + 1 + 1) (by omega) #[.int .i64 0, .int .i64 0, .int .i64 0, .int .i64 0, .bool false, .int .u64 0, .int .u64 0])
  have hs := H3.out
  clear o0 o1 o2 o3 o4 o5 o6 q0 q1 q2 q3 q4 q5 q6
  go_wp2_with (first | (refine wpList_loadA hs rfl _ rfl rfl rfl ?_) | (refine wpList_storeA h2 rfl _ _ #[.int .i64 0, .int .i64 0, .int .i64 0, .int .i64 0, .bool false, .int .u64 0, .int .u64 0] rfl (one7 _ _ _ _ _ _ _) rfl rfl rfl rfl ?_))
  exact bodyPost_ret (results_A Try.results29 _ HR2.out rfl rfl) rfl ⟨rfl, HB3.out⟩

set_option maxRecDepth 100000 in
set_option maxHeartbeats 4000000 in
theorem rj_np2a (x y : Wh) (M1 : ∀ w : World, Calls Try.prog 31 #[.agg #[.int .i64 x.k, .int .i64 x.t, .int .i64 x.i, .int .i64 x.l, .bool x.m, .int .u64 (x.a : Nat), .int .u64 (x.b : Nat)]] w fun e w' => e = .returned (.bool true) ∧ Below w.heap.size w w') (M2 : ∀ w : World, Calls Try.prog 31 #[.agg #[.int .i64 y.k, .int .i64 y.t, .int .i64 y.i, .int .i64 y.l, .bool y.m, .int .u64 (y.a : Nat), .int .u64 (y.b : Nat)]] w fun e w' => e = .returned (.bool true) ∧ Below w.heap.size w w') (he0 : eqB x.k x.t x.i x.l x.m (x.a : Nat) (x.b : Nat) y.k y.t y.i y.l y.m (y.a : Nat) (y.b : Nat) = false) (k1 : (x.k == 1) = true) (l1 : (y.k == 1) = false) (k2 : (x.k == 2) = false) (CP : ∀ w : World, Calls Try.prog 33 #[.int .i64 x.k] w fun e w' => e = .returned (.bool false) ∧ w = w') (w : World) :
    Calls Try.prog 29 #[.agg #[.int .i64 x.k, .int .i64 x.t, .int .i64 x.i, .int .i64 x.l, .bool x.m, .int .u64 (x.a : Nat), .int .u64 (x.b : Nat)], .agg #[.int .i64 y.k, .int .i64 y.t, .int .i64 y.i, .int .i64 y.l, .bool y.m, .int .u64 (y.a : Nat), .int .u64 (y.b : Nat)]] w fun e w' => e = .returned (.agg #[.int .i64 0, .int .i64 0, .int .i64 0, .int .i64 0, .bool false, .int .u64 0, .int .u64 0]) ∧ Below w.heap.size w w' := by
  have he := eqWhat
  go_enter Try.func29, Try.ntmps29
  go_upto_region 2 with fail
  refine named (P := fun W => Code.wp _ _ _ _ W) (fun W => HasA W (w.heap.size) #[.int .i64 x.k, .int .i64 x.t, .int .i64 x.i, .int .i64 x.l, .bool x.m, .int .u64 (x.a : Nat), .int .u64 (x.b : Nat)] ∧ HasA W (w.heap.size + 1) #[.int .i64 y.k, .int .i64 y.t, .int .i64 y.i, .int .i64 y.l, .bool y.m, .int .u64 (y.a : Nat), .int .u64 (y.b : Nat)] ∧ HasA W (w.heap.size + 1 + 1) #[.int .i64 0, .int .i64 0, .int .i64 0, .int .i64 0, .bool false, .int .u64 0, .int .u64 0] ∧ HasA W (w.heap.size + 1 + 1 + 1) #[.int .i64 0, .int .i64 0, .int .i64 0, .int .i64 0, .bool false, .int .u64 0, .int .u64 0] ∧ Below w.heap.size w W)
    ⟨(((HasA.new w _ rfl).alloc _).alloc _).alloc _, ((HasA.new _ _ (by simp)).alloc _).alloc _, (HasA.new _ _ (by simp)).alloc _, HasA.new _ _ (by simp), below_alloc (below_alloc (below_alloc (below_alloc (Below.refl _ _) _) _) _) _⟩ ?_
  rintro W ⟨h0, h1, h2, h3, HB⟩
  have H0 := Lib.hid h0
  have H1 := Lib.hid h1
  have H2 := Lib.hid h2
  have H3 := Lib.hid h3
  have HBL := Lib.hid HB
  clear h0 h1 h2 h3 HB
  obtain ⟨o0, o1, o2, o3, o4, o5, o6⟩ := H0.out.seven
  obtain ⟨q0, q1, q2, q3, q4, q5, q6⟩ := H1.out.seven
  go_upto_region 9 with (first | (go_at_call 31; refine (M1 _).mono ?_; rintro e w1 ⟨rfl, hb⟩; have H0 := Lib.hid (HasA.below hb H0.out); have H1 := Lib.hid (HasA.below hb H1.out); have H2 := Lib.hid (HasA.below hb H2.out); have H3 := Lib.hid (HasA.below hb H3.out); have HBL := Lib.hid (below_then HBL.out hb); clear hb o0 o1 o2 o3 o4 o5 o6 q0 q1 q2 q3 q4 q5 q6; obtain ⟨o0, o1, o2, o3, o4, o5, o6⟩ := H0.out.seven; obtain ⟨q0, q1, q2, q3, q4, q5, q6⟩ := H1.out.seven; clear M1) | (go_at_call 31; refine (M2 _).mono ?_; rintro e w2 ⟨rfl, hb⟩; have H0 := Lib.hid (HasA.below hb H0.out); have H1 := Lib.hid (HasA.below hb H1.out); have H2 := Lib.hid (HasA.below hb H2.out); have H3 := Lib.hid (HasA.below hb H3.out); have HBL := Lib.hid (below_then HBL.out hb); clear hb o0 o1 o2 o3 o4 o5 o6 q0 q1 q2 q3 q4 q5 q6; obtain ⟨o0, o1, o2, o3, o4, o5, o6⟩ := H0.out.seven; obtain ⟨q0, q1, q2, q3, q4, q5, q6⟩ := H1.out.seven; clear M2))
  go_upto_region 13 with (first | (go_at_call 33; refine (CP _).mono ?_; rintro e w9 ⟨rfl, rfl⟩; clear CP))
  have h2 := H2.out
  have HR2 := Lib.hid (h2.setRow #[.int .i64 0, .int .i64 0, .int .i64 0, .int .i64 0, .bool false, .int .u64 0, .int .u64 0])
  have HB3 := Lib.hid (below_row HBL.out (c := w.heap.size + 1 + 1) (by omega) #[.int .i64 0, .int .i64 0, .int .i64 0, .int .i64 0, .bool false, .int .u64 0, .int .u64 0])
  have hs := H3.out
  clear o0 o1 o2 o3 o4 o5 o6 q0 q1 q2 q3 q4 q5 q6
  go_wp2_with (first | (refine wpList_loadA hs rfl _ rfl rfl rfl ?_) | (refine wpList_storeA h2 rfl _ _ #[.int .i64 0, .int .i64 0, .int .i64 0, .int .i64 0, .bool false, .int .u64 0, .int .u64 0] rfl (one7 _ _ _ _ _ _ _) rfl rfl rfl rfl ?_))
  exact bodyPost_ret (results_A Try.results29 _ HR2.out rfl rfl) rfl ⟨rfl, HB3.out⟩

set_option maxRecDepth 100000 in
set_option maxHeartbeats 4000000 in
theorem rj_py4 (x y : Wh) (M1 : ∀ w : World, Calls Try.prog 31 #[.agg #[.int .i64 x.k, .int .i64 x.t, .int .i64 x.i, .int .i64 x.l, .bool x.m, .int .u64 (x.a : Nat), .int .u64 (x.b : Nat)]] w fun e w' => e = .returned (.bool true) ∧ Below w.heap.size w w') (M2 : ∀ w : World, Calls Try.prog 31 #[.agg #[.int .i64 y.k, .int .i64 y.t, .int .i64 y.i, .int .i64 y.l, .bool y.m, .int .u64 (y.a : Nat), .int .u64 (y.b : Nat)]] w fun e w' => e = .returned (.bool true) ∧ Below w.heap.size w w') (he0 : eqB x.k x.t x.i x.l x.m (x.a : Nat) (x.b : Nat) y.k y.t y.i y.l y.m (y.a : Nat) (y.b : Nat) = false) (k1 : (x.k == 1) = false) (k2 : (x.k == 2) = false) (CP : ∀ w : World, Calls Try.prog 33 #[.int .i64 x.k] w fun e w' => e = .returned (.bool true) ∧ w = w') (l2 : (y.k == 2) = true) (k4 : (x.k == 4) = true) (w : World) :
    Calls Try.prog 29 #[.agg #[.int .i64 x.k, .int .i64 x.t, .int .i64 x.i, .int .i64 x.l, .bool x.m, .int .u64 (x.a : Nat), .int .u64 (x.b : Nat)], .agg #[.int .i64 y.k, .int .i64 y.t, .int .i64 y.i, .int .i64 y.l, .bool y.m, .int .u64 (y.a : Nat), .int .u64 (y.b : Nat)]] w fun e w' => e = .returned (.agg #[.int .i64 x.k, .int .i64 x.t, .int .i64 x.i, .int .i64 x.l, .bool true, .int .u64 (x.a : Nat), .int .u64 (x.b : Nat)]) ∧ Below w.heap.size w w' := by
  have he := eqWhat
  go_enter Try.func29, Try.ntmps29
  go_upto_region 2 with fail
  refine named (P := fun W => Code.wp _ _ _ _ W) (fun W => HasA W (w.heap.size) #[.int .i64 x.k, .int .i64 x.t, .int .i64 x.i, .int .i64 x.l, .bool x.m, .int .u64 (x.a : Nat), .int .u64 (x.b : Nat)] ∧ HasA W (w.heap.size + 1) #[.int .i64 y.k, .int .i64 y.t, .int .i64 y.i, .int .i64 y.l, .bool y.m, .int .u64 (y.a : Nat), .int .u64 (y.b : Nat)] ∧ HasA W (w.heap.size + 1 + 1) #[.int .i64 0, .int .i64 0, .int .i64 0, .int .i64 0, .bool false, .int .u64 0, .int .u64 0] ∧ HasA W (w.heap.size + 1 + 1 + 1) #[.int .i64 0, .int .i64 0, .int .i64 0, .int .i64 0, .bool false, .int .u64 0, .int .u64 0] ∧ Below w.heap.size w W)
    ⟨(((HasA.new w _ rfl).alloc _).alloc _).alloc _, ((HasA.new _ _ (by simp)).alloc _).alloc _, (HasA.new _ _ (by simp)).alloc _, HasA.new _ _ (by simp), below_alloc (below_alloc (below_alloc (below_alloc (Below.refl _ _) _) _) _) _⟩ ?_
  rintro W ⟨h0, h1, h2, h3, HB⟩
  have H0 := Lib.hid h0
  have H1 := Lib.hid h1
  have H2 := Lib.hid h2
  have H3 := Lib.hid h3
  have HBL := Lib.hid HB
  clear h0 h1 h2 h3 HB
  obtain ⟨o0, o1, o2, o3, o4, o5, o6⟩ := H0.out.seven
  obtain ⟨q0, q1, q2, q3, q4, q5, q6⟩ := H1.out.seven
  go_upto_region 9 with (first | (go_at_call 31; refine (M1 _).mono ?_; rintro e w1 ⟨rfl, hb⟩; have H0 := Lib.hid (HasA.below hb H0.out); have H1 := Lib.hid (HasA.below hb H1.out); have H2 := Lib.hid (HasA.below hb H2.out); have H3 := Lib.hid (HasA.below hb H3.out); have HBL := Lib.hid (below_then HBL.out hb); clear hb o0 o1 o2 o3 o4 o5 o6 q0 q1 q2 q3 q4 q5 q6; obtain ⟨o0, o1, o2, o3, o4, o5, o6⟩ := H0.out.seven; obtain ⟨q0, q1, q2, q3, q4, q5, q6⟩ := H1.out.seven; clear M1) | (go_at_call 31; refine (M2 _).mono ?_; rintro e w2 ⟨rfl, hb⟩; have H0 := Lib.hid (HasA.below hb H0.out); have H1 := Lib.hid (HasA.below hb H1.out); have H2 := Lib.hid (HasA.below hb H2.out); have H3 := Lib.hid (HasA.below hb H3.out); have HBL := Lib.hid (below_then HBL.out hb); clear hb o0 o1 o2 o3 o4 o5 o6 q0 q1 q2 q3 q4 q5 q6; obtain ⟨o0, o1, o2, o3, o4, o5, o6⟩ := H0.out.seven; obtain ⟨q0, q1, q2, q3, q4, q5, q6⟩ := H1.out.seven; clear M2))
  go_upto_region 15 with (first | (go_at_call 33; refine (CP _).mono ?_; rintro e w9 ⟨rfl, rfl⟩; clear CP))
  have f4 := H0.out.free 4
  go_upto_region 16 with fail
  refine named (P := fun W => Code.wp _ _ _ _ W) (fun W => HasA W (w.heap.size) #[.int .i64 x.k, .int .i64 x.t, .int .i64 x.i, .int .i64 x.l, .bool true, .int .u64 (x.a : Nat), .int .u64 (x.b : Nat)] ∧ HasA W (w.heap.size + 1 + 1) #[.int .i64 0, .int .i64 0, .int .i64 0, .int .i64 0, .bool false, .int .u64 0, .int .u64 0] ∧ Below w.heap.size w W) ⟨H0.out.set 4 (.bool true), H2.out.set_far (by simp; omega) _, below_set HBL.out (by simp) _⟩ ?_
  rintro W8 ⟨h0, h2, HB⟩
  have H0 := Lib.hid h0
  have H2 := Lib.hid h2
  have HBL := Lib.hid HB
  clear h0 h2 HB
  have h2 := H2.out
  have HR2 := Lib.hid (h2.setRow #[.int .i64 x.k, .int .i64 x.t, .int .i64 x.i, .int .i64 x.l, .bool true, .int .u64 (x.a : Nat), .int .u64 (x.b : Nat)])
  have HB3 := Lib.hid (below_row HBL.out (c := w.heap.size + 1 + 1) (by omega) #[.int .i64 x.k, .int .i64 x.t, .int .i64 x.i, .int .i64 x.l, .bool true, .int .u64 (x.a : Nat), .int .u64 (x.b : Nat)])
  have hs := H0.out
  clear o0 o1 o2 o3 o4 o5 o6 q0 q1 q2 q3 q4 q5 q6
  go_wp2_with (first | (refine wpList_loadA hs rfl _ rfl rfl rfl ?_) | (refine wpList_storeA h2 rfl _ _ #[.int .i64 x.k, .int .i64 x.t, .int .i64 x.i, .int .i64 x.l, .bool true, .int .u64 (x.a : Nat), .int .u64 (x.b : Nat)] rfl (one7 _ _ _ _ _ _ _) rfl rfl rfl rfl ?_))
  exact bodyPost_ret (results_A Try.results29 _ HR2.out rfl rfl) rfl ⟨rfl, HB3.out⟩

set_option maxRecDepth 100000 in
set_option maxHeartbeats 4000000 in
theorem rj_py6 (x y : Wh) (M1 : ∀ w : World, Calls Try.prog 31 #[.agg #[.int .i64 x.k, .int .i64 x.t, .int .i64 x.i, .int .i64 x.l, .bool x.m, .int .u64 (x.a : Nat), .int .u64 (x.b : Nat)]] w fun e w' => e = .returned (.bool true) ∧ Below w.heap.size w w') (M2 : ∀ w : World, Calls Try.prog 31 #[.agg #[.int .i64 y.k, .int .i64 y.t, .int .i64 y.i, .int .i64 y.l, .bool y.m, .int .u64 (y.a : Nat), .int .u64 (y.b : Nat)]] w fun e w' => e = .returned (.bool true) ∧ Below w.heap.size w w') (he0 : eqB x.k x.t x.i x.l x.m (x.a : Nat) (x.b : Nat) y.k y.t y.i y.l y.m (y.a : Nat) (y.b : Nat) = false) (k1 : (x.k == 1) = false) (k2 : (x.k == 2) = false) (CP : ∀ w : World, Calls Try.prog 33 #[.int .i64 x.k] w fun e w' => e = .returned (.bool true) ∧ w = w') (l2 : (y.k == 2) = true) (k4 : (x.k == 4) = false) (k6 : (x.k == 6) = true) (w : World) :
    Calls Try.prog 29 #[.agg #[.int .i64 x.k, .int .i64 x.t, .int .i64 x.i, .int .i64 x.l, .bool x.m, .int .u64 (x.a : Nat), .int .u64 (x.b : Nat)], .agg #[.int .i64 y.k, .int .i64 y.t, .int .i64 y.i, .int .i64 y.l, .bool y.m, .int .u64 (y.a : Nat), .int .u64 (y.b : Nat)]] w fun e w' => e = .returned (.agg #[.int .i64 x.k, .int .i64 x.t, .int .i64 x.i, .int .i64 x.l, .bool true, .int .u64 (x.a : Nat), .int .u64 (x.b : Nat)]) ∧ Below w.heap.size w w' := by
  have he := eqWhat
  go_enter Try.func29, Try.ntmps29
  go_upto_region 2 with fail
  refine named (P := fun W => Code.wp _ _ _ _ W) (fun W => HasA W (w.heap.size) #[.int .i64 x.k, .int .i64 x.t, .int .i64 x.i, .int .i64 x.l, .bool x.m, .int .u64 (x.a : Nat), .int .u64 (x.b : Nat)] ∧ HasA W (w.heap.size + 1) #[.int .i64 y.k, .int .i64 y.t, .int .i64 y.i, .int .i64 y.l, .bool y.m, .int .u64 (y.a : Nat), .int .u64 (y.b : Nat)] ∧ HasA W (w.heap.size + 1 + 1) #[.int .i64 0, .int .i64 0, .int .i64 0, .int .i64 0, .bool false, .int .u64 0, .int .u64 0] ∧ HasA W (w.heap.size + 1 + 1 + 1) #[.int .i64 0, .int .i64 0, .int .i64 0, .int .i64 0, .bool false, .int .u64 0, .int .u64 0] ∧ Below w.heap.size w W)
    ⟨(((HasA.new w _ rfl).alloc _).alloc _).alloc _, ((HasA.new _ _ (by simp)).alloc _).alloc _, (HasA.new _ _ (by simp)).alloc _, HasA.new _ _ (by simp), below_alloc (below_alloc (below_alloc (below_alloc (Below.refl _ _) _) _) _) _⟩ ?_
  rintro W ⟨h0, h1, h2, h3, HB⟩
  have H0 := Lib.hid h0
  have H1 := Lib.hid h1
  have H2 := Lib.hid h2
  have H3 := Lib.hid h3
  have HBL := Lib.hid HB
  clear h0 h1 h2 h3 HB
  obtain ⟨o0, o1, o2, o3, o4, o5, o6⟩ := H0.out.seven
  obtain ⟨q0, q1, q2, q3, q4, q5, q6⟩ := H1.out.seven
  go_upto_region 9 with (first | (go_at_call 31; refine (M1 _).mono ?_; rintro e w1 ⟨rfl, hb⟩; have H0 := Lib.hid (HasA.below hb H0.out); have H1 := Lib.hid (HasA.below hb H1.out); have H2 := Lib.hid (HasA.below hb H2.out); have H3 := Lib.hid (HasA.below hb H3.out); have HBL := Lib.hid (below_then HBL.out hb); clear hb o0 o1 o2 o3 o4 o5 o6 q0 q1 q2 q3 q4 q5 q6; obtain ⟨o0, o1, o2, o3, o4, o5, o6⟩ := H0.out.seven; obtain ⟨q0, q1, q2, q3, q4, q5, q6⟩ := H1.out.seven; clear M1) | (go_at_call 31; refine (M2 _).mono ?_; rintro e w2 ⟨rfl, hb⟩; have H0 := Lib.hid (HasA.below hb H0.out); have H1 := Lib.hid (HasA.below hb H1.out); have H2 := Lib.hid (HasA.below hb H2.out); have H3 := Lib.hid (HasA.below hb H3.out); have HBL := Lib.hid (below_then HBL.out hb); clear hb o0 o1 o2 o3 o4 o5 o6 q0 q1 q2 q3 q4 q5 q6; obtain ⟨o0, o1, o2, o3, o4, o5, o6⟩ := H0.out.seven; obtain ⟨q0, q1, q2, q3, q4, q5, q6⟩ := H1.out.seven; clear M2))
  go_upto_region 15 with (first | (go_at_call 33; refine (CP _).mono ?_; rintro e w9 ⟨rfl, rfl⟩; clear CP))
  have f4 := H0.out.free 4
  go_upto_region 16 with fail
  refine named (P := fun W => Code.wp _ _ _ _ W) (fun W => HasA W (w.heap.size) #[.int .i64 x.k, .int .i64 x.t, .int .i64 x.i, .int .i64 x.l, .bool true, .int .u64 (x.a : Nat), .int .u64 (x.b : Nat)] ∧ HasA W (w.heap.size + 1 + 1) #[.int .i64 0, .int .i64 0, .int .i64 0, .int .i64 0, .bool false, .int .u64 0, .int .u64 0] ∧ Below w.heap.size w W) ⟨H0.out.set 4 (.bool true), H2.out.set_far (by simp; omega) _, below_set HBL.out (by simp) _⟩ ?_
  rintro W8 ⟨h0, h2, HB⟩
  have H0 := Lib.hid h0
  have H2 := Lib.hid h2
  have HBL := Lib.hid HB
  clear h0 h2 HB
  have h2 := H2.out
  have HR2 := Lib.hid (h2.setRow #[.int .i64 x.k, .int .i64 x.t, .int .i64 x.i, .int .i64 x.l, .bool true, .int .u64 (x.a : Nat), .int .u64 (x.b : Nat)])
  have HB3 := Lib.hid (below_row HBL.out (c := w.heap.size + 1 + 1) (by omega) #[.int .i64 x.k, .int .i64 x.t, .int .i64 x.i, .int .i64 x.l, .bool true, .int .u64 (x.a : Nat), .int .u64 (x.b : Nat)])
  have hs := H0.out
  clear o0 o1 o2 o3 o4 o5 o6 q0 q1 q2 q3 q4 q5 q6
  go_wp2_with (first | (refine wpList_loadA hs rfl _ rfl rfl rfl ?_) | (refine wpList_storeA h2 rfl _ _ #[.int .i64 x.k, .int .i64 x.t, .int .i64 x.i, .int .i64 x.l, .bool true, .int .u64 (x.a : Nat), .int .u64 (x.b : Nat)] rfl (one7 _ _ _ _ _ _ _) rfl rfl rfl rfl ?_))
  exact bodyPost_ret (results_A Try.results29 _ HR2.out rfl rfl) rfl ⟨rfl, HB3.out⟩

set_option maxRecDepth 100000 in
set_option maxHeartbeats 4000000 in
theorem rj_pys (x y : Wh) (M1 : ∀ w : World, Calls Try.prog 31 #[.agg #[.int .i64 x.k, .int .i64 x.t, .int .i64 x.i, .int .i64 x.l, .bool x.m, .int .u64 (x.a : Nat), .int .u64 (x.b : Nat)]] w fun e w' => e = .returned (.bool true) ∧ Below w.heap.size w w') (M2 : ∀ w : World, Calls Try.prog 31 #[.agg #[.int .i64 y.k, .int .i64 y.t, .int .i64 y.i, .int .i64 y.l, .bool y.m, .int .u64 (y.a : Nat), .int .u64 (y.b : Nat)]] w fun e w' => e = .returned (.bool true) ∧ Below w.heap.size w w') (he0 : eqB x.k x.t x.i x.l x.m (x.a : Nat) (x.b : Nat) y.k y.t y.i y.l y.m (y.a : Nat) (y.b : Nat) = false) (k1 : (x.k == 1) = false) (k2 : (x.k == 2) = false) (CP : ∀ w : World, Calls Try.prog 33 #[.int .i64 x.k] w fun e w' => e = .returned (.bool true) ∧ w = w') (l2 : (y.k == 2) = false) (p1 : (x.k == y.k) = true) (p2 : (x.t == y.t) = true) (p3 : (x.i == y.i) = true) (p4 : (x.l == y.l) = true) (w : World) :
    Calls Try.prog 29 #[.agg #[.int .i64 x.k, .int .i64 x.t, .int .i64 x.i, .int .i64 x.l, .bool x.m, .int .u64 (x.a : Nat), .int .u64 (x.b : Nat)], .agg #[.int .i64 y.k, .int .i64 y.t, .int .i64 y.i, .int .i64 y.l, .bool y.m, .int .u64 (y.a : Nat), .int .u64 (y.b : Nat)]] w fun e w' => e = .returned (.agg #[.int .i64 x.k, .int .i64 x.t, .int .i64 x.i, .int .i64 x.l, .bool true, .int .u64 (x.a : Nat), .int .u64 (x.b : Nat)]) ∧ Below w.heap.size w w' := by
  have he := eqWhat
  go_enter Try.func29, Try.ntmps29
  go_upto_region 2 with fail
  refine named (P := fun W => Code.wp _ _ _ _ W) (fun W => HasA W (w.heap.size) #[.int .i64 x.k, .int .i64 x.t, .int .i64 x.i, .int .i64 x.l, .bool x.m, .int .u64 (x.a : Nat), .int .u64 (x.b : Nat)] ∧ HasA W (w.heap.size + 1) #[.int .i64 y.k, .int .i64 y.t, .int .i64 y.i, .int .i64 y.l, .bool y.m, .int .u64 (y.a : Nat), .int .u64 (y.b : Nat)] ∧ HasA W (w.heap.size + 1 + 1) #[.int .i64 0, .int .i64 0, .int .i64 0, .int .i64 0, .bool false, .int .u64 0, .int .u64 0] ∧ HasA W (w.heap.size + 1 + 1 + 1) #[.int .i64 0, .int .i64 0, .int .i64 0, .int .i64 0, .bool false, .int .u64 0, .int .u64 0] ∧ Below w.heap.size w W)
    ⟨(((HasA.new w _ rfl).alloc _).alloc _).alloc _, ((HasA.new _ _ (by simp)).alloc _).alloc _, (HasA.new _ _ (by simp)).alloc _, HasA.new _ _ (by simp), below_alloc (below_alloc (below_alloc (below_alloc (Below.refl _ _) _) _) _) _⟩ ?_
  rintro W ⟨h0, h1, h2, h3, HB⟩
  have H0 := Lib.hid h0
  have H1 := Lib.hid h1
  have H2 := Lib.hid h2
  have H3 := Lib.hid h3
  have HBL := Lib.hid HB
  clear h0 h1 h2 h3 HB
  obtain ⟨o0, o1, o2, o3, o4, o5, o6⟩ := H0.out.seven
  obtain ⟨q0, q1, q2, q3, q4, q5, q6⟩ := H1.out.seven
  go_upto_region 9 with (first | (go_at_call 31; refine (M1 _).mono ?_; rintro e w1 ⟨rfl, hb⟩; have H0 := Lib.hid (HasA.below hb H0.out); have H1 := Lib.hid (HasA.below hb H1.out); have H2 := Lib.hid (HasA.below hb H2.out); have H3 := Lib.hid (HasA.below hb H3.out); have HBL := Lib.hid (below_then HBL.out hb); clear hb o0 o1 o2 o3 o4 o5 o6 q0 q1 q2 q3 q4 q5 q6; obtain ⟨o0, o1, o2, o3, o4, o5, o6⟩ := H0.out.seven; obtain ⟨q0, q1, q2, q3, q4, q5, q6⟩ := H1.out.seven; clear M1) | (go_at_call 31; refine (M2 _).mono ?_; rintro e w2 ⟨rfl, hb⟩; have H0 := Lib.hid (HasA.below hb H0.out); have H1 := Lib.hid (HasA.below hb H1.out); have H2 := Lib.hid (HasA.below hb H2.out); have H3 := Lib.hid (HasA.below hb H3.out); have HBL := Lib.hid (below_then HBL.out hb); clear hb o0 o1 o2 o3 o4 o5 o6 q0 q1 q2 q3 q4 q5 q6; obtain ⟨o0, o1, o2, o3, o4, o5, o6⟩ := H0.out.seven; obtain ⟨q0, q1, q2, q3, q4, q5, q6⟩ := H1.out.seven; clear M2))
  go_upto_region 15 with (first | (go_at_call 33; refine (CP _).mono ?_; rintro e w9 ⟨rfl, rfl⟩; clear CP))
  have f4 := H0.out.free 4
  go_upto_region 16 with fail
  refine named (P := fun W => Code.wp _ _ _ _ W) (fun W => HasA W (w.heap.size) #[.int .i64 x.k, .int .i64 x.t, .int .i64 x.i, .int .i64 x.l, .bool true, .int .u64 (x.a : Nat), .int .u64 (x.b : Nat)] ∧ HasA W (w.heap.size + 1 + 1) #[.int .i64 0, .int .i64 0, .int .i64 0, .int .i64 0, .bool false, .int .u64 0, .int .u64 0] ∧ Below w.heap.size w W) ⟨H0.out.set 4 (.bool true), H2.out.set_far (by simp; omega) _, below_set HBL.out (by simp) _⟩ ?_
  rintro W8 ⟨h0, h2, HB⟩
  have H0 := Lib.hid h0
  have H2 := Lib.hid h2
  have HBL := Lib.hid HB
  clear h0 h2 HB
  have h2 := H2.out
  have HR2 := Lib.hid (h2.setRow #[.int .i64 x.k, .int .i64 x.t, .int .i64 x.i, .int .i64 x.l, .bool true, .int .u64 (x.a : Nat), .int .u64 (x.b : Nat)])
  have HB3 := Lib.hid (below_row HBL.out (c := w.heap.size + 1 + 1) (by omega) #[.int .i64 x.k, .int .i64 x.t, .int .i64 x.i, .int .i64 x.l, .bool true, .int .u64 (x.a : Nat), .int .u64 (x.b : Nat)])
  have hs := H0.out
  clear o0 o1 o2 o3 o4 o5 o6 q0 q1 q2 q3 q4 q5 q6
  go_wp2_with (first | (refine wpList_loadA hs rfl _ rfl rfl rfl ?_) | (refine wpList_storeA h2 rfl _ _ #[.int .i64 x.k, .int .i64 x.t, .int .i64 x.i, .int .i64 x.l, .bool true, .int .u64 (x.a : Nat), .int .u64 (x.b : Nat)] rfl (one7 _ _ _ _ _ _ _) rfl rfl rfl rfl ?_))
  exact bodyPost_ret (results_A Try.results29 _ HR2.out rfl rfl) rfl ⟨rfl, HB3.out⟩

set_option maxRecDepth 100000 in
set_option maxHeartbeats 4000000 in
theorem rj_pn0 (x y : Wh) (M1 : ∀ w : World, Calls Try.prog 31 #[.agg #[.int .i64 x.k, .int .i64 x.t, .int .i64 x.i, .int .i64 x.l, .bool x.m, .int .u64 (x.a : Nat), .int .u64 (x.b : Nat)]] w fun e w' => e = .returned (.bool true) ∧ Below w.heap.size w w') (M2 : ∀ w : World, Calls Try.prog 31 #[.agg #[.int .i64 y.k, .int .i64 y.t, .int .i64 y.i, .int .i64 y.l, .bool y.m, .int .u64 (y.a : Nat), .int .u64 (y.b : Nat)]] w fun e w' => e = .returned (.bool true) ∧ Below w.heap.size w w') (he0 : eqB x.k x.t x.i x.l x.m (x.a : Nat) (x.b : Nat) y.k y.t y.i y.l y.m (y.a : Nat) (y.b : Nat) = false) (k1 : (x.k == 1) = false) (k2 : (x.k == 2) = false) (CP : ∀ w : World, Calls Try.prog 33 #[.int .i64 x.k] w fun e w' => e = .returned (.bool true) ∧ w = w') (l2 : (y.k == 2) = true) (k4 : (x.k == 4) = false) (k6 : (x.k == 6) = false) (p1 : (x.k == y.k) = false) (w : World) :
    Calls Try.prog 29 #[.agg #[.int .i64 x.k, .int .i64 x.t, .int .i64 x.i, .int .i64 x.l, .bool x.m, .int .u64 (x.a : Nat), .int .u64 (x.b : Nat)], .agg #[.int .i64 y.k, .int .i64 y.t, .int .i64 y.i, .int .i64 y.l, .bool y.m, .int .u64 (y.a : Nat), .int .u64 (y.b : Nat)]] w fun e w' => e = .returned (.agg #[.int .i64 0, .int .i64 0, .int .i64 0, .int .i64 0, .bool false, .int .u64 0, .int .u64 0]) ∧ Below w.heap.size w w' := by
  have he := eqWhat
  go_enter Try.func29, Try.ntmps29
  go_upto_region 2 with fail
  refine named (P := fun W => Code.wp _ _ _ _ W) (fun W => HasA W (w.heap.size) #[.int .i64 x.k, .int .i64 x.t, .int .i64 x.i, .int .i64 x.l, .bool x.m, .int .u64 (x.a : Nat), .int .u64 (x.b : Nat)] ∧ HasA W (w.heap.size + 1) #[.int .i64 y.k, .int .i64 y.t, .int .i64 y.i, .int .i64 y.l, .bool y.m, .int .u64 (y.a : Nat), .int .u64 (y.b : Nat)] ∧ HasA W (w.heap.size + 1 + 1) #[.int .i64 0, .int .i64 0, .int .i64 0, .int .i64 0, .bool false, .int .u64 0, .int .u64 0] ∧ HasA W (w.heap.size + 1 + 1 + 1) #[.int .i64 0, .int .i64 0, .int .i64 0, .int .i64 0, .bool false, .int .u64 0, .int .u64 0] ∧ Below w.heap.size w W)
    ⟨(((HasA.new w _ rfl).alloc _).alloc _).alloc _, ((HasA.new _ _ (by simp)).alloc _).alloc _, (HasA.new _ _ (by simp)).alloc _, HasA.new _ _ (by simp), below_alloc (below_alloc (below_alloc (below_alloc (Below.refl _ _) _) _) _) _⟩ ?_
  rintro W ⟨h0, h1, h2, h3, HB⟩
  have H0 := Lib.hid h0
  have H1 := Lib.hid h1
  have H2 := Lib.hid h2
  have H3 := Lib.hid h3
  have HBL := Lib.hid HB
  clear h0 h1 h2 h3 HB
  obtain ⟨o0, o1, o2, o3, o4, o5, o6⟩ := H0.out.seven
  obtain ⟨q0, q1, q2, q3, q4, q5, q6⟩ := H1.out.seven
  go_upto_region 9 with (first | (go_at_call 31; refine (M1 _).mono ?_; rintro e w1 ⟨rfl, hb⟩; have H0 := Lib.hid (HasA.below hb H0.out); have H1 := Lib.hid (HasA.below hb H1.out); have H2 := Lib.hid (HasA.below hb H2.out); have H3 := Lib.hid (HasA.below hb H3.out); have HBL := Lib.hid (below_then HBL.out hb); clear hb o0 o1 o2 o3 o4 o5 o6 q0 q1 q2 q3 q4 q5 q6; obtain ⟨o0, o1, o2, o3, o4, o5, o6⟩ := H0.out.seven; obtain ⟨q0, q1, q2, q3, q4, q5, q6⟩ := H1.out.seven; clear M1) | (go_at_call 31; refine (M2 _).mono ?_; rintro e w2 ⟨rfl, hb⟩; have H0 := Lib.hid (HasA.below hb H0.out); have H1 := Lib.hid (HasA.below hb H1.out); have H2 := Lib.hid (HasA.below hb H2.out); have H3 := Lib.hid (HasA.below hb H3.out); have HBL := Lib.hid (below_then HBL.out hb); clear hb o0 o1 o2 o3 o4 o5 o6 q0 q1 q2 q3 q4 q5 q6; obtain ⟨o0, o1, o2, o3, o4, o5, o6⟩ := H0.out.seven; obtain ⟨q0, q1, q2, q3, q4, q5, q6⟩ := H1.out.seven; clear M2))
  go_upto_region 17 with (first | (go_at_call 33; refine (CP _).mono ?_; rintro e w9 ⟨rfl, rfl⟩; clear CP))
  have h2 := H2.out
  have HR2 := Lib.hid (h2.setRow #[.int .i64 0, .int .i64 0, .int .i64 0, .int .i64 0, .bool false, .int .u64 0, .int .u64 0])
  have HB3 := Lib.hid (below_row HBL.out (c := w.heap.size + 1 + 1) (by omega) #[.int .i64 0, .int .i64 0, .int .i64 0, .int .i64 0, .bool false, .int .u64 0, .int .u64 0])
  have hs := H3.out
  clear o0 o1 o2 o3 o4 o5 o6 q0 q1 q2 q3 q4 q5 q6
  go_wp2_with (first | (refine wpList_loadA hs rfl _ rfl rfl rfl ?_) | (refine wpList_storeA h2 rfl _ _ #[.int .i64 0, .int .i64 0, .int .i64 0, .int .i64 0, .bool false, .int .u64 0, .int .u64 0] rfl (one7 _ _ _ _ _ _ _) rfl rfl rfl rfl ?_))
  exact bodyPost_ret (results_A Try.results29 _ HR2.out rfl rfl) rfl ⟨rfl, HB3.out⟩

set_option maxRecDepth 100000 in
set_option maxHeartbeats 4000000 in
theorem rj_pn1 (x y : Wh) (M1 : ∀ w : World, Calls Try.prog 31 #[.agg #[.int .i64 x.k, .int .i64 x.t, .int .i64 x.i, .int .i64 x.l, .bool x.m, .int .u64 (x.a : Nat), .int .u64 (x.b : Nat)]] w fun e w' => e = .returned (.bool true) ∧ Below w.heap.size w w') (M2 : ∀ w : World, Calls Try.prog 31 #[.agg #[.int .i64 y.k, .int .i64 y.t, .int .i64 y.i, .int .i64 y.l, .bool y.m, .int .u64 (y.a : Nat), .int .u64 (y.b : Nat)]] w fun e w' => e = .returned (.bool true) ∧ Below w.heap.size w w') (he0 : eqB x.k x.t x.i x.l x.m (x.a : Nat) (x.b : Nat) y.k y.t y.i y.l y.m (y.a : Nat) (y.b : Nat) = false) (k1 : (x.k == 1) = false) (k2 : (x.k == 2) = false) (CP : ∀ w : World, Calls Try.prog 33 #[.int .i64 x.k] w fun e w' => e = .returned (.bool true) ∧ w = w') (l2 : (y.k == 2) = false)  (p1 : (x.k == y.k) = false) (w : World) :
    Calls Try.prog 29 #[.agg #[.int .i64 x.k, .int .i64 x.t, .int .i64 x.i, .int .i64 x.l, .bool x.m, .int .u64 (x.a : Nat), .int .u64 (x.b : Nat)], .agg #[.int .i64 y.k, .int .i64 y.t, .int .i64 y.i, .int .i64 y.l, .bool y.m, .int .u64 (y.a : Nat), .int .u64 (y.b : Nat)]] w fun e w' => e = .returned (.agg #[.int .i64 0, .int .i64 0, .int .i64 0, .int .i64 0, .bool false, .int .u64 0, .int .u64 0]) ∧ Below w.heap.size w w' := by
  have he := eqWhat
  go_enter Try.func29, Try.ntmps29
  go_upto_region 2 with fail
  refine named (P := fun W => Code.wp _ _ _ _ W) (fun W => HasA W (w.heap.size) #[.int .i64 x.k, .int .i64 x.t, .int .i64 x.i, .int .i64 x.l, .bool x.m, .int .u64 (x.a : Nat), .int .u64 (x.b : Nat)] ∧ HasA W (w.heap.size + 1) #[.int .i64 y.k, .int .i64 y.t, .int .i64 y.i, .int .i64 y.l, .bool y.m, .int .u64 (y.a : Nat), .int .u64 (y.b : Nat)] ∧ HasA W (w.heap.size + 1 + 1) #[.int .i64 0, .int .i64 0, .int .i64 0, .int .i64 0, .bool false, .int .u64 0, .int .u64 0] ∧ HasA W (w.heap.size + 1 + 1 + 1) #[.int .i64 0, .int .i64 0, .int .i64 0, .int .i64 0, .bool false, .int .u64 0, .int .u64 0] ∧ Below w.heap.size w W)
    ⟨(((HasA.new w _ rfl).alloc _).alloc _).alloc _, ((HasA.new _ _ (by simp)).alloc _).alloc _, (HasA.new _ _ (by simp)).alloc _, HasA.new _ _ (by simp), below_alloc (below_alloc (below_alloc (below_alloc (Below.refl _ _) _) _) _) _⟩ ?_
  rintro W ⟨h0, h1, h2, h3, HB⟩
  have H0 := Lib.hid h0
  have H1 := Lib.hid h1
  have H2 := Lib.hid h2
  have H3 := Lib.hid h3
  have HBL := Lib.hid HB
  clear h0 h1 h2 h3 HB
  obtain ⟨o0, o1, o2, o3, o4, o5, o6⟩ := H0.out.seven
  obtain ⟨q0, q1, q2, q3, q4, q5, q6⟩ := H1.out.seven
  go_upto_region 9 with (first | (go_at_call 31; refine (M1 _).mono ?_; rintro e w1 ⟨rfl, hb⟩; have H0 := Lib.hid (HasA.below hb H0.out); have H1 := Lib.hid (HasA.below hb H1.out); have H2 := Lib.hid (HasA.below hb H2.out); have H3 := Lib.hid (HasA.below hb H3.out); have HBL := Lib.hid (below_then HBL.out hb); clear hb o0 o1 o2 o3 o4 o5 o6 q0 q1 q2 q3 q4 q5 q6; obtain ⟨o0, o1, o2, o3, o4, o5, o6⟩ := H0.out.seven; obtain ⟨q0, q1, q2, q3, q4, q5, q6⟩ := H1.out.seven; clear M1) | (go_at_call 31; refine (M2 _).mono ?_; rintro e w2 ⟨rfl, hb⟩; have H0 := Lib.hid (HasA.below hb H0.out); have H1 := Lib.hid (HasA.below hb H1.out); have H2 := Lib.hid (HasA.below hb H2.out); have H3 := Lib.hid (HasA.below hb H3.out); have HBL := Lib.hid (below_then HBL.out hb); clear hb o0 o1 o2 o3 o4 o5 o6 q0 q1 q2 q3 q4 q5 q6; obtain ⟨o0, o1, o2, o3, o4, o5, o6⟩ := H0.out.seven; obtain ⟨q0, q1, q2, q3, q4, q5, q6⟩ := H1.out.seven; clear M2))
  go_upto_region 17 with (first | (go_at_call 33; refine (CP _).mono ?_; rintro e w9 ⟨rfl, rfl⟩; clear CP))
  have h2 := H2.out
  have HR2 := Lib.hid (h2.setRow #[.int .i64 0, .int .i64 0, .int .i64 0, .int .i64 0, .bool false, .int .u64 0, .int .u64 0])
  have HB3 := Lib.hid (below_row HBL.out (c := w.heap.size + 1 + 1) (by omega) #[.int .i64 0, .int .i64 0, .int .i64 0, .int .i64 0, .bool false, .int .u64 0, .int .u64 0])
  have hs := H3.out
  clear o0 o1 o2 o3 o4 o5 o6 q0 q1 q2 q3 q4 q5 q6
  go_wp2_with (first | (refine wpList_loadA hs rfl _ rfl rfl rfl ?_) | (refine wpList_storeA h2 rfl _ _ #[.int .i64 0, .int .i64 0, .int .i64 0, .int .i64 0, .bool false, .int .u64 0, .int .u64 0] rfl (one7 _ _ _ _ _ _ _) rfl rfl rfl rfl ?_))
  exact bodyPost_ret (results_A Try.results29 _ HR2.out rfl rfl) rfl ⟨rfl, HB3.out⟩

set_option maxRecDepth 100000 in
set_option maxHeartbeats 4000000 in
theorem rj_pn2 (x y : Wh) (M1 : ∀ w : World, Calls Try.prog 31 #[.agg #[.int .i64 x.k, .int .i64 x.t, .int .i64 x.i, .int .i64 x.l, .bool x.m, .int .u64 (x.a : Nat), .int .u64 (x.b : Nat)]] w fun e w' => e = .returned (.bool true) ∧ Below w.heap.size w w') (M2 : ∀ w : World, Calls Try.prog 31 #[.agg #[.int .i64 y.k, .int .i64 y.t, .int .i64 y.i, .int .i64 y.l, .bool y.m, .int .u64 (y.a : Nat), .int .u64 (y.b : Nat)]] w fun e w' => e = .returned (.bool true) ∧ Below w.heap.size w w') (he0 : eqB x.k x.t x.i x.l x.m (x.a : Nat) (x.b : Nat) y.k y.t y.i y.l y.m (y.a : Nat) (y.b : Nat) = false) (k1 : (x.k == 1) = false) (k2 : (x.k == 2) = false) (CP : ∀ w : World, Calls Try.prog 33 #[.int .i64 x.k] w fun e w' => e = .returned (.bool true) ∧ w = w') (l2 : (y.k == 2) = false) (p1 : (x.k == y.k) = true) (p2 : (x.t == y.t) = false) (w : World) :
    Calls Try.prog 29 #[.agg #[.int .i64 x.k, .int .i64 x.t, .int .i64 x.i, .int .i64 x.l, .bool x.m, .int .u64 (x.a : Nat), .int .u64 (x.b : Nat)], .agg #[.int .i64 y.k, .int .i64 y.t, .int .i64 y.i, .int .i64 y.l, .bool y.m, .int .u64 (y.a : Nat), .int .u64 (y.b : Nat)]] w fun e w' => e = .returned (.agg #[.int .i64 0, .int .i64 0, .int .i64 0, .int .i64 0, .bool false, .int .u64 0, .int .u64 0]) ∧ Below w.heap.size w w' := by
  have he := eqWhat
  go_enter Try.func29, Try.ntmps29
  go_upto_region 2 with fail
  refine named (P := fun W => Code.wp _ _ _ _ W) (fun W => HasA W (w.heap.size) #[.int .i64 x.k, .int .i64 x.t, .int .i64 x.i, .int .i64 x.l, .bool x.m, .int .u64 (x.a : Nat), .int .u64 (x.b : Nat)] ∧ HasA W (w.heap.size + 1) #[.int .i64 y.k, .int .i64 y.t, .int .i64 y.i, .int .i64 y.l, .bool y.m, .int .u64 (y.a : Nat), .int .u64 (y.b : Nat)] ∧ HasA W (w.heap.size + 1 + 1) #[.int .i64 0, .int .i64 0, .int .i64 0, .int .i64 0, .bool false, .int .u64 0, .int .u64 0] ∧ HasA W (w.heap.size + 1 + 1 + 1) #[.int .i64 0, .int .i64 0, .int .i64 0, .int .i64 0, .bool false, .int .u64 0, .int .u64 0] ∧ Below w.heap.size w W)
    ⟨(((HasA.new w _ rfl).alloc _).alloc _).alloc _, ((HasA.new _ _ (by simp)).alloc _).alloc _, (HasA.new _ _ (by simp)).alloc _, HasA.new _ _ (by simp), below_alloc (below_alloc (below_alloc (below_alloc (Below.refl _ _) _) _) _) _⟩ ?_
  rintro W ⟨h0, h1, h2, h3, HB⟩
  have H0 := Lib.hid h0
  have H1 := Lib.hid h1
  have H2 := Lib.hid h2
  have H3 := Lib.hid h3
  have HBL := Lib.hid HB
  clear h0 h1 h2 h3 HB
  obtain ⟨o0, o1, o2, o3, o4, o5, o6⟩ := H0.out.seven
  obtain ⟨q0, q1, q2, q3, q4, q5, q6⟩ := H1.out.seven
  go_upto_region 9 with (first | (go_at_call 31; refine (M1 _).mono ?_; rintro e w1 ⟨rfl, hb⟩; have H0 := Lib.hid (HasA.below hb H0.out); have H1 := Lib.hid (HasA.below hb H1.out); have H2 := Lib.hid (HasA.below hb H2.out); have H3 := Lib.hid (HasA.below hb H3.out); have HBL := Lib.hid (below_then HBL.out hb); clear hb o0 o1 o2 o3 o4 o5 o6 q0 q1 q2 q3 q4 q5 q6; obtain ⟨o0, o1, o2, o3, o4, o5, o6⟩ := H0.out.seven; obtain ⟨q0, q1, q2, q3, q4, q5, q6⟩ := H1.out.seven; clear M1) | (go_at_call 31; refine (M2 _).mono ?_; rintro e w2 ⟨rfl, hb⟩; have H0 := Lib.hid (HasA.below hb H0.out); have H1 := Lib.hid (HasA.below hb H1.out); have H2 := Lib.hid (HasA.below hb H2.out); have H3 := Lib.hid (HasA.below hb H3.out); have HBL := Lib.hid (below_then HBL.out hb); clear hb o0 o1 o2 o3 o4 o5 o6 q0 q1 q2 q3 q4 q5 q6; obtain ⟨o0, o1, o2, o3, o4, o5, o6⟩ := H0.out.seven; obtain ⟨q0, q1, q2, q3, q4, q5, q6⟩ := H1.out.seven; clear M2))
  go_upto_region 17 with (first | (go_at_call 33; refine (CP _).mono ?_; rintro e w9 ⟨rfl, rfl⟩; clear CP))
  have h2 := H2.out
  have HR2 := Lib.hid (h2.setRow #[.int .i64 0, .int .i64 0, .int .i64 0, .int .i64 0, .bool false, .int .u64 0, .int .u64 0])
  have HB3 := Lib.hid (below_row HBL.out (c := w.heap.size + 1 + 1) (by omega) #[.int .i64 0, .int .i64 0, .int .i64 0, .int .i64 0, .bool false, .int .u64 0, .int .u64 0])
  have hs := H3.out
  clear o0 o1 o2 o3 o4 o5 o6 q0 q1 q2 q3 q4 q5 q6
  go_wp2_with (first | (refine wpList_loadA hs rfl _ rfl rfl rfl ?_) | (refine wpList_storeA h2 rfl _ _ #[.int .i64 0, .int .i64 0, .int .i64 0, .int .i64 0, .bool false, .int .u64 0, .int .u64 0] rfl (one7 _ _ _ _ _ _ _) rfl rfl rfl rfl ?_))
  exact bodyPost_ret (results_A Try.results29 _ HR2.out rfl rfl) rfl ⟨rfl, HB3.out⟩

set_option maxRecDepth 100000 in
set_option maxHeartbeats 4000000 in
theorem rj_pn3 (x y : Wh) (M1 : ∀ w : World, Calls Try.prog 31 #[.agg #[.int .i64 x.k, .int .i64 x.t, .int .i64 x.i, .int .i64 x.l, .bool x.m, .int .u64 (x.a : Nat), .int .u64 (x.b : Nat)]] w fun e w' => e = .returned (.bool true) ∧ Below w.heap.size w w') (M2 : ∀ w : World, Calls Try.prog 31 #[.agg #[.int .i64 y.k, .int .i64 y.t, .int .i64 y.i, .int .i64 y.l, .bool y.m, .int .u64 (y.a : Nat), .int .u64 (y.b : Nat)]] w fun e w' => e = .returned (.bool true) ∧ Below w.heap.size w w') (he0 : eqB x.k x.t x.i x.l x.m (x.a : Nat) (x.b : Nat) y.k y.t y.i y.l y.m (y.a : Nat) (y.b : Nat) = false) (k1 : (x.k == 1) = false) (k2 : (x.k == 2) = false) (CP : ∀ w : World, Calls Try.prog 33 #[.int .i64 x.k] w fun e w' => e = .returned (.bool true) ∧ w = w') (l2 : (y.k == 2) = false) (p1 : (x.k == y.k) = true) (p2 : (x.t == y.t) = true) (p3 : (x.i == y.i) = false) (w : World) :
    Calls Try.prog 29 #[.agg #[.int .i64 x.k, .int .i64 x.t, .int .i64 x.i, .int .i64 x.l, .bool x.m, .int .u64 (x.a : Nat), .int .u64 (x.b : Nat)], .agg #[.int .i64 y.k, .int .i64 y.t, .int .i64 y.i, .int .i64 y.l, .bool y.m, .int .u64 (y.a : Nat), .int .u64 (y.b : Nat)]] w fun e w' => e = .returned (.agg #[.int .i64 0, .int .i64 0, .int .i64 0, .int .i64 0, .bool false, .int .u64 0, .int .u64 0]) ∧ Below w.heap.size w w' := by
  have he := eqWhat
  go_enter Try.func29, Try.ntmps29
  go_upto_region 2 with fail
  refine named (P := fun W => Code.wp _ _ _ _ W) (fun W => HasA W (w.heap.size) #[.int .i64 x.k, .int .i64 x.t, .int .i64 x.i, .int .i64 x.l, .bool x.m, .int .u64 (x.a : Nat), .int .u64 (x.b : Nat)] ∧ HasA W (w.heap.size + 1) #[.int .i64 y.k, .int .i64 y.t, .int .i64 y.i, .int .i64 y.l, .bool y.m, .int .u64 (y.a : Nat), .int .u64 (y.b : Nat)] ∧ HasA W (w.heap.size + 1 + 1) #[.int .i64 0, .int .i64 0, .int .i64 0, .int .i64 0, .bool false, .int .u64 0, .int .u64 0] ∧ HasA W (w.heap.size + 1 + 1 + 1) #[.int .i64 0, .int .i64 0, .int .i64 0, .int .i64 0, .bool false, .int .u64 0, .int .u64 0] ∧ Below w.heap.size w W)
    ⟨(((HasA.new w _ rfl).alloc _).alloc _).alloc _, ((HasA.new _ _ (by simp)).alloc _).alloc _, (HasA.new _ _ (by simp)).alloc _, HasA.new _ _ (by simp), below_alloc (below_alloc (below_alloc (below_alloc (Below.refl _ _) _) _) _) _⟩ ?_
  rintro W ⟨h0, h1, h2, h3, HB⟩
  have H0 := Lib.hid h0
  have H1 := Lib.hid h1
  have H2 := Lib.hid h2
  have H3 := Lib.hid h3
  have HBL := Lib.hid HB
  clear h0 h1 h2 h3 HB
  obtain ⟨o0, o1, o2, o3, o4, o5, o6⟩ := H0.out.seven
  obtain ⟨q0, q1, q2, q3, q4, q5, q6⟩ := H1.out.seven
  go_upto_region 9 with (first | (go_at_call 31; refine (M1 _).mono ?_; rintro e w1 ⟨rfl, hb⟩; have H0 := Lib.hid (HasA.below hb H0.out); have H1 := Lib.hid (HasA.below hb H1.out); have H2 := Lib.hid (HasA.below hb H2.out); have H3 := Lib.hid (HasA.below hb H3.out); have HBL := Lib.hid (below_then HBL.out hb); clear hb o0 o1 o2 o3 o4 o5 o6 q0 q1 q2 q3 q4 q5 q6; obtain ⟨o0, o1, o2, o3, o4, o5, o6⟩ := H0.out.seven; obtain ⟨q0, q1, q2, q3, q4, q5, q6⟩ := H1.out.seven; clear M1) | (go_at_call 31; refine (M2 _).mono ?_; rintro e w2 ⟨rfl, hb⟩; have H0 := Lib.hid (HasA.below hb H0.out); have H1 := Lib.hid (HasA.below hb H1.out); have H2 := Lib.hid (HasA.below hb H2.out); have H3 := Lib.hid (HasA.below hb H3.out); have HBL := Lib.hid (below_then HBL.out hb); clear hb o0 o1 o2 o3 o4 o5 o6 q0 q1 q2 q3 q4 q5 q6; obtain ⟨o0, o1, o2, o3, o4, o5, o6⟩ := H0.out.seven; obtain ⟨q0, q1, q2, q3, q4, q5, q6⟩ := H1.out.seven; clear M2))
  go_upto_region 17 with (first | (go_at_call 33; refine (CP _).mono ?_; rintro e w9 ⟨rfl, rfl⟩; clear CP))
  have h2 := H2.out
  have HR2 := Lib.hid (h2.setRow #[.int .i64 0, .int .i64 0, .int .i64 0, .int .i64 0, .bool false, .int .u64 0, .int .u64 0])
  have HB3 := Lib.hid (below_row HBL.out (c := w.heap.size + 1 + 1) (by omega) #[.int .i64 0, .int .i64 0, .int .i64 0, .int .i64 0, .bool false, .int .u64 0, .int .u64 0])
  have hs := H3.out
  clear o0 o1 o2 o3 o4 o5 o6 q0 q1 q2 q3 q4 q5 q6
  go_wp2_with (first | (refine wpList_loadA hs rfl _ rfl rfl rfl ?_) | (refine wpList_storeA h2 rfl _ _ #[.int .i64 0, .int .i64 0, .int .i64 0, .int .i64 0, .bool false, .int .u64 0, .int .u64 0] rfl (one7 _ _ _ _ _ _ _) rfl rfl rfl rfl ?_))
  exact bodyPost_ret (results_A Try.results29 _ HR2.out rfl rfl) rfl ⟨rfl, HB3.out⟩

set_option maxRecDepth 100000 in
set_option maxHeartbeats 4000000 in
theorem rj_pn4 (x y : Wh) (M1 : ∀ w : World, Calls Try.prog 31 #[.agg #[.int .i64 x.k, .int .i64 x.t, .int .i64 x.i, .int .i64 x.l, .bool x.m, .int .u64 (x.a : Nat), .int .u64 (x.b : Nat)]] w fun e w' => e = .returned (.bool true) ∧ Below w.heap.size w w') (M2 : ∀ w : World, Calls Try.prog 31 #[.agg #[.int .i64 y.k, .int .i64 y.t, .int .i64 y.i, .int .i64 y.l, .bool y.m, .int .u64 (y.a : Nat), .int .u64 (y.b : Nat)]] w fun e w' => e = .returned (.bool true) ∧ Below w.heap.size w w') (he0 : eqB x.k x.t x.i x.l x.m (x.a : Nat) (x.b : Nat) y.k y.t y.i y.l y.m (y.a : Nat) (y.b : Nat) = false) (k1 : (x.k == 1) = false) (k2 : (x.k == 2) = false) (CP : ∀ w : World, Calls Try.prog 33 #[.int .i64 x.k] w fun e w' => e = .returned (.bool true) ∧ w = w') (l2 : (y.k == 2) = false) (p1 : (x.k == y.k) = true) (p2 : (x.t == y.t) = true) (p3 : (x.i == y.i) = true) (p4 : (x.l == y.l) = false) (w : World) :
    Calls Try.prog 29 #[.agg #[.int .i64 x.k, .int .i64 x.t, .int .i64 x.i, .int .i64 x.l, .bool x.m, .int .u64 (x.a : Nat), .int .u64 (x.b : Nat)], .agg #[.int .i64 y.k, .int .i64 y.t, .int .i64 y.i, .int .i64 y.l, .bool y.m, .int .u64 (y.a : Nat), .int .u64 (y.b : Nat)]] w fun e w' => e = .returned (.agg #[.int .i64 0, .int .i64 0, .int .i64 0, .int .i64 0, .bool false, .int .u64 0, .int .u64 0]) ∧ Below w.heap.size w w' := by
  have he := eqWhat
  go_enter Try.func29, Try.ntmps29
  go_upto_region 2 with fail
  refine named (P := fun W => Code.wp _ _ _ _ W) (fun W => HasA W (w.heap.size) #[.int .i64 x.k, .int .i64 x.t, .int .i64 x.i, .int .i64 x.l, .bool x.m, .int .u64 (x.a : Nat), .int .u64 (x.b : Nat)] ∧ HasA W (w.heap.size + 1) #[.int .i64 y.k, .int .i64 y.t, .int .i64 y.i, .int .i64 y.l, .bool y.m, .int .u64 (y.a : Nat), .int .u64 (y.b : Nat)] ∧ HasA W (w.heap.size + 1 + 1) #[.int .i64 0, .int .i64 0, .int .i64 0, .int .i64 0, .bool false, .int .u64 0, .int .u64 0] ∧ HasA W (w.heap.size + 1 + 1 + 1) #[.int .i64 0, .int .i64 0, .int .i64 0, .int .i64 0, .bool false, .int .u64 0, .int .u64 0] ∧ Below w.heap.size w W)
    ⟨(((HasA.new w _ rfl).alloc _).alloc _).alloc _, ((HasA.new _ _ (by simp)).alloc _).alloc _, (HasA.new _ _ (by simp)).alloc _, HasA.new _ _ (by simp), below_alloc (below_alloc (below_alloc (below_alloc (Below.refl _ _) _) _) _) _⟩ ?_
  rintro W ⟨h0, h1, h2, h3, HB⟩
  have H0 := Lib.hid h0
  have H1 := Lib.hid h1
  have H2 := Lib.hid h2
  have H3 := Lib.hid h3
  have HBL := Lib.hid HB
  clear h0 h1 h2 h3 HB
  obtain ⟨o0, o1, o2, o3, o4, o5, o6⟩ := H0.out.seven
  obtain ⟨q0, q1, q2, q3, q4, q5, q6⟩ := H1.out.seven
  go_upto_region 9 with (first | (go_at_call 31; refine (M1 _).mono ?_; rintro e w1 ⟨rfl, hb⟩; have H0 := Lib.hid (HasA.below hb H0.out); have H1 := Lib.hid (HasA.below hb H1.out); have H2 := Lib.hid (HasA.below hb H2.out); have H3 := Lib.hid (HasA.below hb H3.out); have HBL := Lib.hid (below_then HBL.out hb); clear hb o0 o1 o2 o3 o4 o5 o6 q0 q1 q2 q3 q4 q5 q6; obtain ⟨o0, o1, o2, o3, o4, o5, o6⟩ := H0.out.seven; obtain ⟨q0, q1, q2, q3, q4, q5, q6⟩ := H1.out.seven; clear M1) | (go_at_call 31; refine (M2 _).mono ?_; rintro e w2 ⟨rfl, hb⟩; have H0 := Lib.hid (HasA.below hb H0.out); have H1 := Lib.hid (HasA.below hb H1.out); have H2 := Lib.hid (HasA.below hb H2.out); have H3 := Lib.hid (HasA.below hb H3.out); have HBL := Lib.hid (below_then HBL.out hb); clear hb o0 o1 o2 o3 o4 o5 o6 q0 q1 q2 q3 q4 q5 q6; obtain ⟨o0, o1, o2, o3, o4, o5, o6⟩ := H0.out.seven; obtain ⟨q0, q1, q2, q3, q4, q5, q6⟩ := H1.out.seven; clear M2))
  go_upto_region 17 with (first | (go_at_call 33; refine (CP _).mono ?_; rintro e w9 ⟨rfl, rfl⟩; clear CP))
  have h2 := H2.out
  have HR2 := Lib.hid (h2.setRow #[.int .i64 0, .int .i64 0, .int .i64 0, .int .i64 0, .bool false, .int .u64 0, .int .u64 0])
  have HB3 := Lib.hid (below_row HBL.out (c := w.heap.size + 1 + 1) (by omega) #[.int .i64 0, .int .i64 0, .int .i64 0, .int .i64 0, .bool false, .int .u64 0, .int .u64 0])
  have hs := H3.out
  clear o0 o1 o2 o3 o4 o5 o6 q0 q1 q2 q3 q4 q5 q6
  go_wp2_with (first | (refine wpList_loadA hs rfl _ rfl rfl rfl ?_) | (refine wpList_storeA h2 rfl _ _ #[.int .i64 0, .int .i64 0, .int .i64 0, .int .i64 0, .bool false, .int .u64 0, .int .u64 0] rfl (one7 _ _ _ _ _ _ _) rfl rfl rfl rfl ?_))
  exact bodyPost_ret (results_A Try.results29 _ HR2.out rfl rfl) rfl ⟨rfl, HB3.out⟩

theorem rkmay_wh (x : Wh) (v : Bool) (h : whMay x = v) : ∀ w : World, Calls Try.prog 31 #[.agg #[.int .i64 x.k, .int .i64 x.t, .int .i64 x.i, .int .i64 x.l, .bool x.m, .int .u64 (x.a : Nat), .int .u64 (x.b : Nat)]] w fun e w' => e = .returned (.bool v) ∧ Below w.heap.size w w' := by
  subst h; exact fun w => rkmay_any x.k x.t x.i x.l x.m x.a x.b w
theorem rkjoin_any (x y : Wh) (R : Wh) (hR : whJoin x y = R) (w : World) :
    Calls Try.prog 29 #[.agg #[.int .i64 x.k, .int .i64 x.t, .int .i64 x.i, .int .i64 x.l, .bool x.m, .int .u64 (x.a : Nat), .int .u64 (x.b : Nat)], .agg #[.int .i64 y.k, .int .i64 y.t, .int .i64 y.i, .int .i64 y.l, .bool y.m, .int .u64 (y.a : Nat), .int .u64 (y.b : Nat)]] w fun e w' => e = .returned (.agg #[.int .i64 R.k, .int .i64 R.t, .int .i64 R.i, .int .i64 R.l, .bool R.m, .int .u64 (R.a : Nat), .int .u64 (R.b : Nat)]) ∧ Below w.heap.size w w' := by
  by_cases hx : Wok x
  · have M1 := rkmay_wh x true (by unfold whMay; simp [hx])
    by_cases hy : Wok y
    · have M2 := rkmay_wh y true (by unfold whMay; simp [hy])
      by_cases he : x = y
      · subst he
        rw [J_self hx] at hR; subst hR
        exact rj_same x x M1 M2 (eqW_t rfl) w
      · have E := eqW_f he
        have CP := rkptr_any x.k
        rcases ok_cases x hx with rfl | rfl | ⟨a, b, h, rfl⟩ | ⟨k, t, i, l, m, hp, rfl⟩
        · rw [J_junk_l hy] at hR; subst hR
          exact rj_np1a _ y M1 M2 E (by decide) (by decide) (CP false (by decide)) w
        · rcases ok_cases y hy with rfl | rfl | ⟨c, d, h', rfl⟩ | ⟨k', t', i', l', m', hp', rfl⟩
          · rw [J_junk_r hx] at hR; subst hR
            exact rj_np1b _ _ M1 M2 E (by decide) (by decide) (by decide) (by decide) (CP false (by decide)) w
          · exact absurd rfl he
          · rw [J_null_num h'] at hR; subst hR
            exact rj_np1b _ _ M1 M2 E (by decide) (by decide) (by rfl) (by rfl) (CP false (by decide)) w
          · rw [J_null_ptr hp'] at hR
            by_cases hl : lone k'
            · rw [if_pos hl] at hR; subst hR
              rcases hl with hl | hl
              · subst hl
                exact rj_y4 nullW (Pt 4 t' i' l' m') M1 M2 E (by decide) (by decide) rfl w
              · subst hl
                exact rj_y6 nullW (Pt 6 t' i' l' m') M1 M2 E (by decide) (by decide) rfl rfl w
            · rw [if_neg hl] at hR; subst hR
              have h4 : (k' == 4) = false := by rw [beq_eq_false_iff_ne]; exact fun q => hl (.inl q)
              have h6 : (k' == 6) = false := by rw [beq_eq_false_iff_ne]; exact fun q => hl (.inr q)
              exact rj_np1b nullW (Pt k' t' i' l' m') M1 M2 E (by decide) (by decide) h4 h6 (CP false (by decide)) w
        · rcases ok_cases y hy with rfl | rfl | ⟨c, d, h', rfl⟩ | ⟨k', t', i', l', m', hp', rfl⟩
          · rw [J_junk_r hx] at hR; subst hR
            exact rj_np2a (Nm a b) junk M1 M2 E rfl (by decide) rfl (CP false (by show decide (ptr 1) = false; decide)) w
          · rw [J_num_null h] at hR; subst hR
            exact rj_np2a (Nm a b) nullW M1 M2 E rfl (by decide) rfl (CP false (by show decide (ptr 1) = false; decide)) w
          · rw [J_num_num h h'] at hR; subst hR
            have CJ := rjoin_any a b c d
            have e1 : spJoin a b c d = (min a c, max b d) := by unfold spJoin; rw [if_pos ⟨h, h'⟩]
            have e2 : spJoinE a b c d = 0 := by unfold spJoinE; rw [if_pos ⟨h, h'⟩]
            rw [e1, e2] at CJ
            exact rj_num (Nm a b) (Nm c d) (min a c : Nat) (max b d : Nat) M1 M2 E rfl rfl CJ w
          · rw [J_num_ptr h hp'] at hR; subst hR
            have h1 : (k' == 1) = false := by rw [beq_eq_false_iff_ne]; have := (okp_ptr hp').2; omega
            exact rj_np2a (Nm a b) (Pt k' t' i' l' m') M1 M2 E rfl h1 rfl (CP false (by show decide (ptr 1) = false; decide)) w
        · have hk := (okp_ptr hp).2
          have n1 : ((Pt k t i l m).k == 1) = false := by rw [beq_eq_false_iff_ne]; show k ≠ 1; omega
          have n2 : ((Pt k t i l m).k == 2) = false := by rw [beq_eq_false_iff_ne]; show k ≠ 2; omega
          have CPt := CP true (by show decide (ptr k) = true; exact decide_eq_true (okp_ptr hp).1)
          rcases ok_cases y hy with rfl | rfl | ⟨c, d, h', rfl⟩ | ⟨k', t', i', l', m', hp', rfl⟩
          · rw [J_junk_r hx] at hR; subst hR
            have q1 : ((Pt k t i l m).k == junk.k) = false := by rw [beq_eq_false_iff_ne]; show k ≠ 0; omega
            exact rj_pn1 (Pt k t i l m) junk M1 M2 E n1 n2 CPt (by decide) q1 w
          · rw [J_ptr_null hp] at hR
            by_cases hl : lone k
            · rw [if_pos hl] at hR; subst hR
              rcases hl with hl | hl
              · subst hl
                exact rj_py4 (Pt 4 t i l m) nullW M1 M2 E n1 n2 CPt (by decide) rfl w
              · subst hl
                exact rj_py6 (Pt 6 t i l m) nullW M1 M2 E n1 n2 CPt (by decide) rfl rfl w
            · rw [if_neg hl] at hR; subst hR
              have h4 : (k == 4) = false := by rw [beq_eq_false_iff_ne]; exact fun q => hl (.inl q)
              have h6 : (k == 6) = false := by rw [beq_eq_false_iff_ne]; exact fun q => hl (.inr q)
              exact rj_pn0 (Pt k t i l m) nullW M1 M2 E n1 n2 CPt (by decide) h4 h6 n2 w
          · rw [J_ptr_num h' hp] at hR; subst hR
            exact rj_pn1 (Pt k t i l m) (Nm c d) M1 M2 E n1 n2 CPt rfl n1 w
          · have hk' := (okp_ptr hp').2
            have m2 : ((Pt k' t' i' l' m').k == 2) = false := by rw [beq_eq_false_iff_ne]; show k' ≠ 2; omega
            rw [J_ptr_ptr hp hp'] at hR
            by_cases e1 : k = k'
            · have b1 : (k == k') = true := by simp [e1]
              by_cases e2 : t = t'
              · have b2 : (t == t') = true := by simp [e2]
                by_cases e3 : i = i'
                · have b3 : (i == i') = true := by simp [e3]
                  by_cases e4 : l = l'
                  · have b4 : (l == l') = true := by simp [e4]
                    rw [if_pos ⟨e1, e2, e3, e4⟩] at hR
                    have hm : (m || m') = true := by
                      subst e1 e2 e3 e4
                      cases m <;> cases m' <;> first | rfl | exact absurd rfl he
                    rw [hm] at hR; subst hR
                    exact rj_pys (Pt k t i l m) (Pt k' t' i' l' m') M1 M2 E n1 n2 CPt m2 b1 b2 b3 b4 w
                  · have b4 : (l == l') = false := by simp [e4]
                    rw [if_neg (fun q => e4 q.2.2.2)] at hR; subst hR
                    exact rj_pn4 (Pt k t i l m) (Pt k' t' i' l' m') M1 M2 E n1 n2 CPt m2 b1 b2 b3 b4 w
                · have b3 : (i == i') = false := by simp [e3]
                  rw [if_neg (fun q => e3 q.2.2.1)] at hR; subst hR
                  exact rj_pn3 (Pt k t i l m) (Pt k' t' i' l' m') M1 M2 E n1 n2 CPt m2 b1 b2 b3 w
              · have b2 : (t == t') = false := by simp [e2]
                rw [if_neg (fun q => e2 q.2.1)] at hR; subst hR
                exact rj_pn2 (Pt k t i l m) (Pt k' t' i' l' m') M1 M2 E n1 n2 CPt m2 b1 b2 w
            · have b1 : (k == k') = false := by simp [e1]
              rw [if_neg (fun q => e1 q.1)] at hR; subst hR
              exact rj_pn1 (Pt k t i l m) (Pt k' t' i' l' m') M1 M2 E n1 n2 CPt m2 b1 w
    · rw [J_bad_r x hy] at hR; subst hR
      exact rj_no2 x y M1 (rkmay_wh y false (by unfold whMay; simp [hy])) w
  · rw [J_bad_l hx y] at hR; subst hR
    exact rj_no1 x y (rkmay_wh x false (by unfold whMay; simp [hx])) w

end Go.Proofs.Ytglfmcgpbenckaa
