/- How an api.State that came in reads: a St, its references a list of integers. -/
import Derived.Test.YtglfmcgpbenckaaStateRefs
import Derived.Test.YtglfmcgpbenckaaOpenW
import Derived.ChangeSlices
namespace Go.Proofs.Ytglfmcgpbenckaa
open Go.ChangeShapes Go.WideShapes Go.ChangeAt Go.RowKit Go.Joins
set_option linter.unusedVariables false
theorem cellsRegs : Try.prog.cellsOf 34 = 70 := by kernel_rfl
theorem cellsSlots : Try.prog.cellsOf 35 = 56 := by kernel_rfl
theorem cellsRefs : Try.prog.cellsOf 36 = 1 := by kernel_rfl
theorem cellsSt : Try.prog.cellsOf 38 = 130 := by kernel_rfl
theorem wh_cells_get (q : Wh) (j : Nat) (h : j < 7) : q.cells[j]? = some (whCell q j) := by
  have hc : j = 0 ∨ j = 1 ∨ j = 2 ∨ j = 3 ∨ j = 4 ∨ j = 5 ∨ j = 6 := by omega
  rcases hc with rfl | rfl | rfl | rfl | rfl | rfl | rfl <;> rfl
theorem part_get (cs : List Value) (o n j : Nat) (h : j < n) : ((cs.drop o).take n)[j]? = cs[o + j]? := by
  rw [List.getElem?_take_of_lt h, List.getElem?_drop]
theorem one_get {cs : List Value} {o : Nat} {v : Value} (h : (cs.drop o).take 1 = [v]) : cs[o]? = some v := by
  have := part_get cs o 1 0 (by decide)
  rw [h] at this
  simpa using this.symm
theorem open_state {H : Type} {enc : TypeId × Value → H} {W : World} {base : Nat} {spare : Nat → Bool} {held : Bool} {v : Value} {d : DataW H} {p : List MemPlace}
    (hv : Value.okWide Try.prog W .any base 38 v) (h : DataW.Trod enc Try.prog W 0 spare held 38 v d p) :
    ∃ (s : St) (xs : List Int), v = .agg s.arr ∧ xs.length = s.z ∧ s.z ≤ maxLen ∧ Ints W s.p xs := by
  obtain ⟨cs, rfl, hsz⟩ := okWide_struct Try.underlying38 hv
  obtain ⟨fuel, hf⟩ := h
  obtain ⟨l⟩ := cs
  have hf : DataW.trod enc Try.prog W 0 spare held fuel 38 l = some (d, p) := hf
  obtain ⟨xs, n, -, hx, hl, hlen, hg⟩ := DataW.trod_struct Try.underlying38 hf
  rw [cellsSt] at hl
  have hlen' : xs.length = 6 := hlen
  match xs, hlen' with
  | [y0, y1, y2, y3, y4, y5], _ =>
  have h0 : DataW.trod enc Try.prog W 0 spare held n 34 ((l.drop 0).take (Try.prog.cellsOf 34)) = some y0 := hg 0 _ rfl
  have h1 : DataW.trod enc Try.prog W 0 spare held n 35 ((l.drop 70).take (Try.prog.cellsOf 35)) = some y1 := hg 1 _ rfl
  have h2 : DataW.trod enc Try.prog W 0 spare held n 36 ((l.drop 126).take (Try.prog.cellsOf 36)) = some y2 := hg 2 _ rfl
  have h3 : DataW.trod enc Try.prog W 0 spare held n 3 ((l.drop 127).take (Try.prog.cellsOf 3)) = some y3 := hg 3 _ rfl
  have h4 : DataW.trod enc Try.prog W 0 spare held n 4 ((l.drop 128).take (Try.prog.cellsOf 4)) = some y4 := hg 4 _ rfl
  have h5 : DataW.trod enc Try.prog W 0 spare held n 3 ((l.drop 129).take (Try.prog.cellsOf 3)) = some y5 := hg 5 _ rfl
  rw [cellsRegs] at h0
  rw [cellsSlots] at h1
  rw [cellsRefs] at h2
  rw [cellsI] at h3 h5
  rw [cellsB] at h4
  obtain ⟨es, m, -, -, -, hel, hge⟩ := DataW.trod_array Try.underlying34 h0
  obtain ⟨es', m', -, -, -, hel', hge'⟩ := DataW.trod_array Try.underlying35 h1
  rw [cellsWh] at hge hge'
  have key : ∀ i, i < 18 → ∃ q : Wh, ∀ j, j < 7 → l[i * 7 + j]? = some (whCell q j) := by
    intro i hi
    by_cases hlt : i < 10
    · have g := hge i hlt
      cases he : es[i]? with
      | none => rw [List.getElem?_eq_none_iff] at he; omega
      | some y =>
        rw [he] at g
        obtain ⟨q, hq⟩ := trod_what_cells g
        refine ⟨q, fun j hj => ?_⟩
        have e1 := part_get (List.take 70 (List.drop 0 l)) (i * 7) 7 j hj
        rw [hq, wh_cells_get q j hj, List.getElem?_take_of_lt (by omega)] at e1
        simpa using e1.symm
    · have g := hge' (i - 10) (by omega)
      cases he : es'[i - 10]? with
      | none => rw [List.getElem?_eq_none_iff] at he; omega
      | some y =>
        rw [he] at g
        obtain ⟨q, hq⟩ := trod_what_cells g
        refine ⟨q, fun j hj => ?_⟩
        have e1 := part_get (List.take 56 (List.drop 70 l)) ((i - 10) * 7) 7 j hj
        rw [hq, wh_cells_get q j hj, List.getElem?_take_of_lt (by omega), List.getElem?_drop] at e1
        rw [show i * 7 + j = 70 + ((i - 10) * 7 + j) from by omega]
        exact e1.symm
  obtain ⟨f, hfn⟩ : ∃ f : Nat → Wh, ∀ i, i < 18 → ∀ j, j < 7 → l[i * 7 + j]? = some (whCell (f i) j) := by
    classical
    refine ⟨fun i => if hi : i < 18 then (key i hi).choose else junk, fun i hi j hj => ?_⟩
    dsimp only
    rw [dif_pos hi]
    exact (key i hi).choose_spec j hj
  obtain ⟨lk, e3, -, -⟩ := DataW.trod_int Try.underlying3 h3
  obtain ⟨sc, e4, -⟩ := DataW.trod_bool Try.underlying4 h4
  obtain ⟨nx, e5, -, -⟩ := DataW.trod_int Try.underlying3 h5
  have c3 := one_get e3
  have c4 := one_get e4
  have c5 := one_get e5
  have fin : ∀ (rp : Option Addr) (rz rc : Nat), l[126]? = some (.slice rp rz rc) → l.toArray = (St.mk f rp rz rc lk sc nx).arr := by
    intro rp rz rc c2
    apply Array.ext_getElem?
    intro j
    by_cases hj : j < 130
    · rw [(St.mk f rp rz rc lk sc nx).arr_get j hj]
      simp only [List.getElem?_toArray]
      unfold St.cell
      by_cases h1 : j < 126
      · rw [if_pos h1, ← hfn (j / 7) (by omega) (j % 7) (by omega)]
        congr 1
        omega
      · rw [if_neg h1]
        by_cases q2 : j = 126
        · subst q2; rw [if_pos rfl]; exact c2
        · rw [if_neg q2]
          by_cases q3 : j = 127
          · subst q3; rw [if_pos rfl]; exact c3
          · rw [if_neg q3]
            by_cases q4 : j = 128
            · subst q4; rw [if_pos rfl]; exact c4
            · rw [if_neg q4]
              obtain rfl : j = 129 := by omega
              exact c5
    · rw [Array.getElem?_eq_none (by simp; omega), Array.getElem?_eq_none (by rw [St.arr_size]; omega)]
  rcases Go.ChangeShapes.open_ints Try.underlying36 Try.underlying3 cellsI h2 with ⟨e2, -⟩ | ⟨a, len, cap, zs, e2, -, hlc, hcap, hzl, -, hcell, -⟩
  · refine ⟨_, [], congrArg Value.agg (fin none 0 0 (one_get e2)), rfl, Nat.zero_le _, .inl rfl⟩
  · have hlz : len ≤ zs.length := by rw [hzl]; split <;> omega
    refine ⟨_, zs.take len, congrArg Value.agg (fin (some a) len cap (one_get e2)), by simp; omega, Nat.le_trans hlc hcap, ?_⟩
    by_cases h0 : len = 0
    · subst h0; exact .inl rfl
    · right
      obtain ⟨b, o, sp⟩ := a
      have c0 := hcell 0 (by omega)
      have hs := World.cell?_spot c0
      have hs' : sp = none := by
        unfold Addr.add at hs
        split at hs <;> simp_all
      subst hs'
      refine ⟨b, o, rfl, fun i hi => ?_⟩
      have hi' : i < len := by simp at hi; omega
      have c := hcell i (by omega)
      rw [Addr.add_mid] at c
      rw [c]
      congr 2
      simp [List.getD, List.getElem?_take_of_lt hi']
end Go.Proofs.Ytglfmcgpbenckaa
