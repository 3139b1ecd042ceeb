/- States by value: blocks known whole; the walks of kind.Forget. -/
import Derived.Test.YtglfmcgpbenckaaKindShown
import Derived.Laws.Rows
import Derived.Deep.MidRow
namespace Go.Proofs.Ytglfmcgpbenckaa
open Go.RowKit
set_option linter.unusedVariables false
set_option linter.unusedSimpArgs false
def whCell (x : Wh) : Nat → Value
  | 0 => .int .i64 x.k
  | 1 => .int .i64 x.t
  | 2 => .int .i64 x.i
  | 3 => .int .i64 x.l
  | 4 => .bool x.m
  | 5 => .int .u64 (x.a : Nat)
  | _ => .int .u64 (x.b : Nat)
structure St where
  f : Nat → Wh
  p : Option Addr
  z : Nat
  c : Nat
  l : Int
  s : Bool
  n : Int
def St.cell (s : St) (j : Nat) : Value := if j < 126 then whCell (s.f (j / 7)) (j % 7) else if j = 126 then .slice s.p s.z s.c else if j = 127 then .int .i64 s.l else if j = 128 then .bool s.s else .int .i64 s.n
def St.arr (s : St) : Array Value := ((List.range 130).map s.cell).toArray
theorem St.arr_size (s : St) : s.arr.size = 130 := by unfold St.arr; simp
theorem St.arr_get (s : St) (j : Nat) (h : j < 130) : s.arr[j]? = some (s.cell j) := by
  unfold St.arr
  simp [h]
def St.put (s : St) (i : Nat) (x : Wh) : St := { s with f := fun y => if y = i then x else s.f y }
theorem St.cell_wh (s : St) (i j : Nat) (hi : i < 18) (hj : j < 7) : s.cell (i * 7 + j) = whCell (s.f i) j := by
  unfold St.cell
  rw [if_pos (by omega)]
  rw [show (i * 7 + j) / 7 = i from by omega, show (i * 7 + j) % 7 = j from by omega]
/-- block b of w is a State, known whole. -/
def Has (w : World) (b : Nat) (s : St) : Prop := w.heap[b]? = some (.cells s.arr 38 (0, 0))
theorem Has.cell {w : World} {b : Nat} {s : St} (h : Has w b s) (j : Nat) (hj : j < 130) : w.cell? ⟨b, j, none⟩ = some (s.cell j) := by
  rw [cell_of_row w b j _ _ _ h, s.arr_get j hj]
theorem Has.free {w : World} {b : Nat} {s : St} (h : Has w b s) (j : Nat) : w.frozen? ⟨b, j, none⟩ = false := frozen_of_row w b j _ _ h
theorem Has.lt {w : World} {b : Nat} {s : St} (h : Has w b s) : b < w.heap.size := block_lt_of_cell (h.cell 0 (by decide))
theorem Has.seven {w : World} {b : Nat} {s : St} (h : Has w b s) (i : Nat) (hi : i < 18) :
    w.cell? ⟨b, i * 7, none⟩ = some (.int .i64 (s.f i).k) ∧ w.cell? ⟨b, i * 7 + 1, none⟩ = some (.int .i64 (s.f i).t) ∧ w.cell? ⟨b, i * 7 + 2, none⟩ = some (.int .i64 (s.f i).i) ∧ w.cell? ⟨b, i * 7 + 3, none⟩ = some (.int .i64 (s.f i).l)
    ∧ w.cell? ⟨b, i * 7 + 4, none⟩ = some (.bool (s.f i).m) ∧ w.cell? ⟨b, i * 7 + 5, none⟩ = some (.int .u64 ((s.f i).a : Nat)) ∧ w.cell? ⟨b, i * 7 + 6, none⟩ = some (.int .u64 ((s.f i).b : Nat)) := by
  have g : ∀ j, j < 7 → w.cell? ⟨b, i * 7 + j, none⟩ = some (whCell (s.f i) j) := fun j hj => by
    rw [h.cell _ (by omega), s.cell_wh i j hi hj]
  exact ⟨g 0 (by decide), g 1 (by decide), g 2 (by decide), g 3 (by decide), g 4 (by decide), g 5 (by decide), g 6 (by decide)⟩
def set7 (w : World) (b p : Nat) (x : Wh) : World :=
  ((((((w.setCell ⟨b, p, none⟩ (.int .i64 x.k)).setCell ⟨b, p + 1, none⟩ (.int .i64 x.t)).setCell ⟨b, p + 2, none⟩ (.int .i64 x.i)).setCell ⟨b, p + 3, none⟩ (.int .i64 x.l)).setCell ⟨b, p + 4, none⟩ (.bool x.m)).setCell ⟨b, p + 5, none⟩ (.int .u64 (x.a : Nat))).setCell ⟨b, p + 6, none⟩ (.int .u64 (x.b : Nat))
theorem St.arr_put (s : St) (i : Nat) (x : Wh) (hi : i < 18) :
    (((((((s.arr.setIfInBounds (i * 7) (.int .i64 x.k)).setIfInBounds (i * 7 + 1) (.int .i64 x.t)).setIfInBounds (i * 7 + 2) (.int .i64 x.i)).setIfInBounds (i * 7 + 3) (.int .i64 x.l)).setIfInBounds (i * 7 + 4) (.bool x.m)).setIfInBounds (i * 7 + 5) (.int .u64 (x.a : Nat))).setIfInBounds (i * 7 + 6) (.int .u64 (x.b : Nat))) = (s.put i x).arr := by
  apply Array.ext_getElem?
  intro j
  by_cases hj : j < 130
  · rw [(s.put i x).arr_get j hj]
    simp only [Array.getElem?_setIfInBounds, Array.size_setIfInBounds, s.arr_size, s.arr_get j hj]
    by_cases hr : i * 7 ≤ j ∧ j < i * 7 + 7
    · obtain ⟨d, rfl⟩ : ∃ d, j = i * 7 + d := ⟨j - i * 7, by omega⟩
      have hd : d < 7 := by omega
      rw [(s.put i x).cell_wh i d hi hd]
      have hp : (s.put i x).f i = x := by unfold St.put; simp
      rw [hp]
      have hc : d = 0 ∨ d = 1 ∨ d = 2 ∨ d = 3 ∨ d = 4 ∨ d = 5 ∨ d = 6 := by omega
      rcases hc with rfl | rfl | rfl | rfl | rfl | rfl | rfl <;> simp [whCell] <;> omega
    · rw [if_neg (by omega), if_neg (by omega), if_neg (by omega), if_neg (by omega), if_neg (by omega), if_neg (by omega), if_neg (by omega)]
      unfold St.cell
      by_cases h1 : j < 126
      · rw [if_pos h1, if_pos h1]
        have : (s.put i x).f (j / 7) = s.f (j / 7) := by unfold St.put; dsimp only; rw [if_neg (by omega)]
        rw [this]
      · rw [if_neg h1, if_neg h1]; rfl
  · rw [Array.getElem?_eq_none (by simp [St.arr_size]; omega), Array.getElem?_eq_none (by rw [St.arr_size]; omega)]
theorem Has.put {w : World} {b : Nat} {s : St} (h : Has w b s) (i p : Nat) (x : Wh) (hi : i < 18) (hp : p = i * 7) : Has (set7 w b p x) b (s.put i x) := by
  subst hp
  unfold Has
  rw [← s.arr_put i x hi]
  exact heap_setCell_same _ _ _ _ _ _ (heap_setCell_same _ _ _ _ _ _ (heap_setCell_same _ _ _ _ _ _ (heap_setCell_same _ _ _ _ _ _ (heap_setCell_same _ _ _ _ _ _ (heap_setCell_same _ _ _ _ _ _ (heap_setCell_same _ _ _ _ _ _ h))))))
/-- no block but b (and no new one) has turned. -/
structure Only (b : Nat) (w w' : World) : Prop where
  os : w'.os = w.os
  tape : w'.tape = w.tape
  output : w'.output = w.output
  size : w.heap.size ≤ w'.heap.size
  block : ∀ k, k < w.heap.size → k ≠ b → w'.heap[k]? = w.heap[k]?
theorem Only.refl (b : Nat) (w : World) : Only b w w := ⟨rfl, rfl, rfl, Nat.le_refl _, fun _ _ _ => rfl⟩
theorem Only.trans {b : Nat} {u v w : World} (h : Only b u v) (k : Only b v w) : Only b u w :=
  ⟨k.os.trans h.os, k.tape.trans h.tape, k.output.trans h.output, Nat.le_trans h.size k.size, fun i hi hb => (k.block i (Nat.lt_of_lt_of_le hi h.size) hb).trans (h.block i hi hb)⟩
theorem Only.alloc {b : Nat} {u w : World} (h : Only b u w) (o : Obj) : Only b u (w.alloc o) :=
  h.trans ⟨rfl, rfl, rfl, by simp, fun k hk _ => Below.heap_alloc _ _ _ hk⟩
theorem Only.drew {b : Nat} {u w : World} (h : Only b u w) : Only b u w.drew := ⟨h.os, h.tape, h.output, h.size, h.block⟩
theorem Only.draws {b : Nat} {u w : World} (h : Only b u w) (n : Nat) : Only b u (w.drewN n) := ⟨h.os, h.tape, h.output, h.size, h.block⟩
theorem Only.set {b : Nat} {u w : World} (h : Only b u w) {p : Addr} (hp : p.block = b ∨ u.heap.size ≤ p.block) (v : Value) : Only b u (w.setCell p v) :=
  ⟨h.os, h.tape, h.output, by simp [World.setCell]; exact h.size, fun k hk hb => by rw [Below.heap_setCell _ _ _ _ (by omega)]; exact h.block k hk hb⟩
theorem Only.set7 {b : Nat} {u w : World} (h : Only b u w) (p : Nat) (x : Wh) : Only b u (set7 w b p x) := by
  unfold Go.Proofs.Ytglfmcgpbenckaa.set7
  exact ((((((h.set (.inl rfl) _).set (.inl rfl) _).set (.inl rfl) _).set (.inl rfl) _).set (.inl rfl) _).set (.inl rfl) _).set (.inl rfl) _
theorem Only.cell {b : Nat} {w w' : World} (h : Only b w w') {p : Addr} (hp : p.block < w.heap.size) (hb : p.block ≠ b) : w'.cell? p = w.cell? p := World.cell?_of_block (h.block _ hp hb)
theorem Only.has {b : Nat} {w w' : World} (h : Only b w w') {c : Nat} {s : St} (k : Has w c s) (hb : c ≠ b) : Has w' c s := (h.block _ k.lt hb).trans k
theorem Only.below {b : Nat} {u w w' : World} (h : Only b w w') (k : Below u.heap.size u w) (hb : u.heap.size ≤ b) : Below u.heap.size u w' :=
  k.trans ⟨h.os, h.tape, h.output, h.size, fun i hi => h.block i (Nat.lt_of_lt_of_le hi k.size) (by omega)⟩
theorem Below.only {b : Nat} {w w' : World} (h : Below w.heap.size w w') : Only b w w' := ⟨h.os, h.tape, h.output, h.size, fun i hi _ => h.block i hi⟩
theorem Below.has {w w' : World} (h : Below w.heap.size w w') {c : Nat} {s : St} (k : Has w c s) : Has w' c s := (h.block _ k.lt).trans k
/-- what is of a kind (and, but for 0, a number) among the cnt from lo on is forgotten. -/
def gone (k id : Int) (x : Wh) : Wh := if x.k = k ∧ (id = 0 ∨ x.i = id) then junk else x
def St.forget (s : St) (k id : Int) (lo cnt : Nat) : St := { s with f := fun x => if lo ≤ x ∧ x < lo + cnt then gone k id (s.f x) else s.f x }
theorem St.forget_zero (s : St) (k id : Int) (lo : Nat) : s.forget k id lo 0 = s := by
  unfold St.forget
  cases s
  simp only [St.mk.injEq, and_true]
  funext x
  rw [if_neg (by omega)]
theorem St.forget_succ (s : St) (k id : Int) (lo j : Nat) : s.forget k id lo (j + 1) = (s.forget k id lo j).put (lo + j) (gone k id (s.f (lo + j))) := by
  unfold St.forget St.put
  simp only [St.mk.injEq, and_true]
  funext x
  by_cases h : x = lo + j
  · subst h; rw [if_pos (by omega), if_pos rfl]
  · rw [if_neg h]
    by_cases h2 : lo ≤ x ∧ x < lo + j
    · rw [if_pos h2, if_pos (by omega)]
    · rw [if_neg h2, if_neg (by omega)]
theorem St.forget_at (s : St) (k id : Int) (lo j : Nat) : (s.forget k id lo j).f (lo + j) = s.f (lo + j) := by
  unfold St.forget; dsimp only; rw [if_neg (by omega)]
theorem St.put_same (s : St) (i : Nat) (x : Wh) (h : s.f i = x) : s.put i x = s := by
  unfold St.put
  cases s
  simp only [St.mk.injEq, and_true]
  funext y
  by_cases e : y = i
  · subst e; rw [if_pos rfl]; exact h.symm
  · rw [if_neg e]

set_option maxRecDepth 100000 in
set_option maxHeartbeats 2000000 in
theorem forget1_any (s : St) (b o lo n : Nat) (k id : Int) (bk bi : Nat) (w : World) (hb : Has w b s) (ho : o = lo * 7) (hn : lo + n ≤ 18) (nk : ¬ bk = b) (ni : ¬ bi = b) (hk : w.cell? ⟨bk, 0, none⟩ = some (.int .i64 k)) (hi : w.cell? ⟨bi, 0, none⟩ = some (.int .i64 id)) :
    Calls Try.prog 27 #[.slice (some ⟨b, o, none⟩) n n, .pointer (some ⟨bk, 0, none⟩), .pointer (some ⟨bi, 0, none⟩)] w fun e w' => e = .returned (.tuple #[]) ∧ Only b w w' ∧ Has w' b (s.forget k id lo n) := by
  have Ho := Lib.hid ho
  clear ho
  have Hb := Lib.hid hb
  clear hb
  have bkl : bk < w.heap.size := block_lt_of_cell hk
  have bil : bi < w.heap.size := block_lt_of_cell hi
  have Hk := Lib.hid hk
  have Hi := Lib.hid hi
  clear hk hi
  have hn' : (n : Int) ≤ 18 := by omega
  go_enter Try.func27, Try.ntmps27
  go_wp2
  go_loopw [8] (fun v wr => ∃ j : Nat, j ≤ n ∧ v = .int .i64 j ∧ Only b w wr ∧ Has wr b (s.forget k id lo j)) (fun v _ => n - (intOf v).toNat)
  case atStart => exact ⟨0, Nat.zero_le _, rfl, Only.refl _ _, by rw [St.forget_zero]; exact Hb.out⟩
  case round =>
    obtain ⟨j, hj, rfl, hon, hh⟩ := hrel
    have hk : wr.cell? ⟨bk, 0, none⟩ = some (.int .i64 k) := by rw [hon.cell bkl nk]; exact Hk.out
    have hi : wr.cell? ⟨bi, 0, none⟩ = some (.int .i64 id) := by rw [hon.cell bil ni]; exact Hi.out
    by_cases hlt : j < n
    · have hlt' : (j : Int) < n := by omega
      have e7 := hh.seven (lo + j) (by omega)
      rw [St.forget_at, show (lo + j) * 7 = o + j * 7 from by rw [Ho.out]; omega] at e7
      obtain ⟨x, hx⟩ : ∃ x, s.f (lo + j) = x := ⟨_, rfl⟩
      rw [hx] at e7
      obtain ⟨c0, c1, c2, c3, c4, c5, c6⟩ := e7
      have f0 := hh.free (o + j * 7)
      have f1 := hh.free (o + j * 7 + 1)
      have f2 := hh.free (o + j * 7 + 2)
      have f3 := hh.free (o + j * 7 + 3)
      have f4 := hh.free (o + j * 7 + 4)
      have f5 := hh.free (o + j * 7 + 5)
      have f6 := hh.free (o + j * 7 + 6)
      have hlb := hh.lt
      have bkr := Nat.lt_of_lt_of_le bkl hon.size
      have bir := Nat.lt_of_lt_of_le bil hon.size
      have Hh := Lib.hid hh
      have Hon := Lib.hid hon
      have Hx := Lib.hid hx
      clear hh hon hx
      have END : ∀ W : World, Only b w W → Has W b ((s.forget k id lo j).put (lo + j) (gone k id x)) → ∃ q : Nat, q ≤ n ∧ Value.int .i64 ((j : Int) + 1) = .int .i64 q ∧ Only b w W ∧ Has W b (s.forget k id lo q) :=
        fun W h1 h2 => ⟨j + 1, hlt, by go_num, h1, by rw [St.forget_succ, Hx.out]; exact h2⟩
      have STAY : gone k id x = x → ∀ C T, Only b w (wr.alloc (.cells C T)) ∧ Has (wr.alloc (.cells C T)) b ((s.forget k id lo j).put (lo + j) (gone k id x)) := fun hg C T =>
        ⟨Hon.out.alloc _, by
          rw [hg, St.put_same _ _ _ (by rw [St.forget_at]; exact Hx.out)]
          exact (Below.heap_alloc _ _ _ Hh.out.lt).trans Hh.out⟩
      have GO : gone k id x = junk → ∀ C T, Only b w ((set7 wr b (o + j * 7) junk).alloc (.cells C T)) ∧ Has ((set7 wr b (o + j * 7) junk).alloc (.cells C T)) b ((s.forget k id lo j).put (lo + j) (gone k id x)) := fun hg C T =>
        ⟨(Hon.out.set7 _ _).alloc _, by
          rw [hg]
          have k := Has.put Hh.out (lo + j) (o + j * 7) junk (by omega) (by rw [Ho.out]; omega)
          exact (Below.heap_alloc _ _ _ k.lt).trans k⟩
      have HEND := Lib.hid END
      have HSTAY := Lib.hid STAY
      have HGO := Lib.hid GO
      clear END STAY GO
      by_cases q1 : x.k = k
      · have q1' : (x.k == k) = true := by simp [q1]
        by_cases q2 : id = 0
        · have q2' : (id == 0) = true := by simp [q2]
          have HG := Lib.hid (show gone k id x = junk by unfold gone; rw [if_pos ⟨q1, .inl q2⟩])
          clear q1 q2
          go_wp2
          go_roundw
          case rel => exact HEND.out _ (HGO.out HG.out _ _).1 (HGO.out HG.out _ _).2
          case measure => simp [intOf]; omega
        · have q2' : (id == 0) = false := by simp [q2]
          by_cases q3 : x.i = id
          · have q3' : (x.i == id) = true := by simp [q3]
            have HG := Lib.hid (show gone k id x = junk by unfold gone; rw [if_pos ⟨q1, .inr q3⟩])
            clear q1 q2 q3
            go_wp2
            go_roundw
            case rel => exact HEND.out _ (HGO.out HG.out _ _).1 (HGO.out HG.out _ _).2
            case measure => simp [intOf]; omega
          · have q3' : (x.i == id) = false := by simp [q3]
            have HG := Lib.hid (show gone k id x = x by unfold gone; rw [if_neg (fun q => q.2.elim q2 q3)])
            clear q1 q2 q3
            go_wp2
            go_roundw
            case rel => exact HEND.out _ (HSTAY.out HG.out _ _).1 (HSTAY.out HG.out _ _).2
            case measure => simp [intOf]; omega
      · have q1' : (x.k == k) = false := by simp [q1]
        have HG := Lib.hid (show gone k id x = x by unfold gone; rw [if_neg (fun q => q1 q.1)])
        clear q1
        go_wp2
        go_roundw
        case rel => exact HEND.out _ (HSTAY.out HG.out _ _).1 (HSTAY.out HG.out _ _).2
        case measure => simp [intOf]; omega
    · have : j = n := by omega
      subst this
      clear hk hi
      have Hon := Lib.hid hon
      have Hh := Lib.hid hh
      clear hon hh
      go_wp2
      go_end0
      exact ⟨rfl, Hon.out, Hh.out⟩
def st0 : St := ⟨fun _ => junk, Option.none, 0, 0, 0, false, 0⟩
theorem zeroSt (w : World) : (zeroValue 38).run Try.prog w = .ok (.agg st0.arr) w := by kernel_rfl
theorem buildSt (w : World) : (Instr.build 38 #[]).run Try.prog w = .ok (.agg st0.arr) w := by kernel_rfl
theorem info38 : (Try.prog.info? 38).map (·.size) = some 130 := by kernel_rfl
theorem whole {w : World} {b : Nat} {s : St} (h : Has w b s) : (loadVar 38 ⟨b, 0, none⟩).run Try.prog w = .ok (.agg s.arr) w :=
  run_loadVar_row w b 38 38 s.arr (0, 0) _ h Try.underlying38 rfl (by rw [s.arr_size]; exact info38)
theorem wholeAt {w : World} {b : Nat} {s : St} (h : Has w b s) : (Instr.loadAt 38 (.pointer (some ⟨b, 0, none⟩))).run Try.prog w = .ok (.agg s.arr) w := by
  simp only [Instr.loadAt, Instr.sureAddr, Sem.run_bind, Sem.run_pure, Result.andThen_ok, whole h]
theorem St.arr_one (s : St) : (s.arr.all fun x => x.oneCell') = true := by
  rw [Array.all_eq_true_iff_forall_mem]
  intro v hv
  have : v ∈ s.arr.toList := by simpa using hv
  unfold St.arr at this
  simp at this
  obtain ⟨j, hj, rfl⟩ := this
  unfold St.cell
  by_cases h1 : j < 126
  · rw [if_pos h1]
    have hc : j % 7 = 0 ∨ j % 7 = 1 ∨ j % 7 = 2 ∨ j % 7 = 3 ∨ j % 7 = 4 ∨ j % 7 = 5 ∨ j % 7 = 6 := by omega
    rcases hc with e | e | e | e | e | e | e <;> rw [e] <;> rfl
  · rw [if_neg h1]
    by_cases h2 : j = 126
    · rw [if_pos h2]; rfl
    · rw [if_neg h2]
      by_cases h3 : j = 127
      · rw [if_pos h3]; rfl
      · rw [if_neg h3]
        by_cases h4 : j = 128
        · rw [if_pos h4]; rfl
        · rw [if_neg h4]; rfl
theorem storeAll {w : World} {b : Nat} {s : St} (h : Has w b s) (t : St) : (Instr.storeAt 38 (.pointer (some ⟨b, 0, none⟩)) (.agg t.arr)).run Try.prog w = .ok () (w.setRow b t.arr) := by
  simp only [Instr.storeAt, Instr.sureAddr, Sem.run_bind, Sem.run_pure, Result.andThen_ok, run_storeVar_row w b 38 38 s.arr t.arr h (by rw [t.arr_size]; exact info38) (by rw [s.arr_size, t.arr_size]) t.arr_one]
theorem info38s (s : St) : (Try.prog.info? 38).map (·.size) = some s.arr.size := by rw [s.arr_size]; exact info38
theorem wpList_loadSt {ops : Array Oper} {rest : List Oper} {o : Oper} {a : Act} {w : World} {Q : Exit → Act → World → Prop} {s : St} {g : Nat} (hg : Has w g s) (x : Operand) (hgd : o.guard = none) (ho : o.op = .load 38 x)
    (hx : a.eval x = .pointer (some ⟨g, 0, none⟩)) (h : wpList Try.prog ops Q rest (a.put o.dst (.agg s.arr)) w) : wpList Try.prog ops Q (o :: rest) a w :=
  wpList_load_row hgd 38 x ho g hx 38 s.arr (0, 0) _ hg Try.underlying38 rfl (info38s s) h
theorem wpList_storeSt {ops : Array Oper} {rest : List Oper} {o : Oper} {a : Act} {w : World} {Q : Exit → Act → World → Prop} {s : St} {g : Nat} (hg : Has w g s) (x y : Operand) (t : St) (hgd : o.guard = none) (ho : o.op = .store 38 x y)
    (hx : a.eval x = .pointer (some ⟨g, 0, none⟩)) (hy : a.eval y = .agg t.arr) (h : wpList Try.prog ops Q rest (a.put o.dst undef) (w.setRow g t.arr)) : wpList Try.prog ops Q (o :: rest) a w :=
  wpList_plain hgd fun _ hK => by
    unfold Oper.wp execOp
    simp only [ho, hx, hy, storeAll hg t, Sem.run_bind, Sem.run_pure, Result.andThen_ok]
    exact hK _ _ h
theorem results_st {fn : Func} {p : Tmp} (h : fn.results = #[.cell p 38]) (tmps : Array Value) {w : World} {g : Nat} {s : St} (hg : Has w g s) (hp : tmps.getD p undef = .pointer (some ⟨g, 0, none⟩)) :
    (results fn tmps).run Try.prog w = .ok (.agg s.arr) w :=
  results_cell_row h tmps w g 38 s.arr (0, 0) _ hp hg Try.underlying38 rfl (info38s s)
theorem Has.setRow {w : World} {b : Nat} {s : St} (h : Has w b s) (t : St) : Has (w.setRow b t.arr) b t := setRow_heap w b _ _ _ _ h
theorem Has.setRow_far {w : World} {b c : Nat} {s : St} (h : Has w b s) (n : ¬ b = c) (t : Array Value) : Has (w.setRow c t) b s := (setRow_other w c b t n).trans h
theorem Only.setRow {b : Nat} {u w : World} (h : Only b u w) {c : Nat} (hp : c = b ∨ u.heap.size ≤ c) (t : Array Value) : Only b u (w.setRow c t) :=
  ⟨h.os, h.tape, h.output, by simp; exact h.size, fun k hk hb => (setRow_other w c k t (by omega)).trans (h.block k hk hb)⟩
theorem below_row {u w : World} (h : Below u.heap.size u w) {c : Nat} (hc : u.heap.size ≤ c) (t : Array Value) : Below u.heap.size u (w.setRow c t) :=
  ⟨h.os, h.tape, h.output, by simp; exact h.size, fun k hk => (setRow_other w c k t (by omega)).trans (h.block k hk)⟩
theorem Has.alloc {w : World} {b : Nat} {s : St} (h : Has w b s) (o : Obj) : Has (w.alloc o) b s := (Below.heap_alloc _ _ _ h.lt).trans h
theorem Has.new (w : World) (s : St) {b : Nat} (hb : b = w.heap.size) : Has (w.alloc (.cells s.arr 38)) b s := by subst hb; exact heap_alloc_new w _
set_option maxRecDepth 100000 in
set_option maxHeartbeats 2000000 in
theorem forget_any (s : St) (k i : Int) (R : St) (hR : (s.forget k i 0 10).forget k i 10 8 = R) (w : World) :
    Calls Try.prog 15 #[.agg s.arr, .int .i64 k, .int .i64 i] w fun e w' => e = .returned (.agg R.arr) ∧ Below w.heap.size w w' := by
  have HR := Lib.hid hR
  clear hR
  have hz := zeroSt
  have NN1 : ∀ b : Nat, ¬ b + 1 = b := fun b => by omega
  have NN2 : ∀ b : Nat, ¬ b + 1 + 1 = b := fun b => by omega
  have NN3 : ∀ b : Nat, ¬ b + 1 + 1 + 1 = b := fun b => by omega
  go_enter Try.func15, Try.ntmps15
  go_upto_region 2 with fail
  refine named (P := fun W => Code.wp _ _ _ _ W) (fun W => Has W w.heap.size s ∧ W.cell? ⟨w.heap.size + 1, 0, none⟩ = some (.int .i64 k) ∧ W.cell? ⟨w.heap.size + 1 + 1, 0, none⟩ = some (.int .i64 i) ∧ Has W (w.heap.size + 1 + 1 + 1) st0 ∧ Below w.heap.size w W)
    ⟨(((Has.new w s rfl).alloc _).alloc _).alloc _, by go_simp, by go_simp, Has.new _ _ (by simp), below_alloc (below_alloc (below_alloc (below_alloc (Below.refl _ _) _) _) _) _⟩ ?_
  rintro W ⟨h0, hk, hi, h3, HB⟩
  go_wp2_with fail
  refine (forget1_any s _ _ 0 10 k i _ _ _ h0 rfl (by omega) (by omega) (by omega) hk hi).mono ?_
  rintro e w1 ⟨rfl, on1, g0⟩
  have hk1 := (on1.cell (block_lt_of_cell hk) (by simp)).trans hk
  have hi1 := (on1.cell (block_lt_of_cell hi) (by simp; omega)).trans hi
  have g3 := on1.has h3 (by omega)
  have HB1 := on1.below HB (Nat.le_refl _)
  clear hk hi h3 HB on1 h0
  go_wp2_with fail
  refine (forget1_any _ _ _ 10 8 k i _ _ _ g0 rfl (by omega) (by omega) (by omega) hk1 hi1).mono ?_
  rintro e w2 ⟨rfl, on2, k0⟩
  have k3 := on2.has g3 (by omega)
  have HB2 := on2.below HB1 (Nat.le_refl _)
  clear hk1 hi1 g3 HB1 on2 g0
  rw [HR.out] at k0
  have HB3 := below_row HB2 (c := w.heap.size + 1 + 1 + 1) (by omega) R.arr
  have k4 := k3.setRow R
  clear HB2
  go_wp2_with (first | (refine wpList_loadSt k0 _ rfl rfl rfl ?_) | (refine wpList_storeSt k3 _ _ R rfl rfl rfl rfl ?_))
  exact bodyPost_ret (results_st Try.results15 _ k4 rfl) rfl ⟨rfl, HB3⟩
end Go.Proofs.Ytglfmcgpbenckaa
