
/- The walk of chapter 17's statement KindSplit, whole. -/
import Derived.Test.YtglfmcgpbenckaaKindSplit17
import Derived.Test.YtglfmcgpbenckaaKindSplit17b
namespace Go.Proofs.Ytglfmcgpbenckaa
open Go.RowKit
set_option linter.unusedVariables false
set_option linter.unusedSimpArgs false

theorem eqB_eq (x y : Wh) (h : x = y) : eqB x.k x.t x.i x.l x.m (x.a : Nat) (x.b : Nat) y.k y.t y.i y.l y.m (y.a : Nat) (y.b : Nat) = true := by
  rw [eqB_wh]; exact decide_eq_true h
theorem kindSplit_walk (x : Wh) (w : World) :
    Calls Try.prog 4 #[.agg #[.int .i64 x.k, .int .i64 x.t, .int .i64 x.i, .int .i64 x.l, .bool x.m, .int .u64 (x.a : Nat), .int .u64 (x.b : Nat)]] w fun e w' => e = .returned (.bool true) ∧ Below w.heap.size w w' := by
  have S1 := fun (R : Wh) (c : Bool) (h1 : whSplit x true = R) (h2 : whCan x true = c) => ksplit_any x true R c h1 h2
  have S2 := fun (R : Wh) (c : Bool) (h1 : whSplit x false = R) (h2 : whCan x false = c) => ksplit_any x false R c h1 h2
  by_cases hx : Wok x
  · have M1 := kmay_wh x true (by unfold whMay; simp [hx])
    rcases ok_cases x hx with rfl | rfl | ⟨a, b, h, rfl⟩ | ⟨k, t, i, l, m, hp, rfl⟩
    · exact split_b _ _ _ (S1 junk false (by decide) (by decide)) (S2 junk false (by decide) (by decide)) M1 (by decide) (by decide) w
    · exact split_null _ nullW _ (S1 nullW true (by decide) (by decide)) (S2 junk false (by decide) (by decide)) M1 (by decide) (by decide) (by decide) (eqB_eq _ _ rfl) w
    · have n2 : ¬ ptr (Nm a b).k := nm_np a b
      have n1 : ∀ n : Bool, ¬ ((Nm a b).k = 2 ∧ n = true) := fun n q => by cases q.1
      exact split_c _ junk junk (S1 junk false (by unfold whSplit; rw [if_neg (n1 _), if_pos (Or.inl n2)]) (by unfold whCan; rw [if_neg (n1 _), if_pos (Or.inl n2)])) (S2 junk false (by unfold whSplit; rw [if_neg (n1 _), if_pos (Or.inl n2)]) (by unfold whCan; rw [if_neg (n1 _), if_pos (Or.inl n2)])) M1 rfl rfl rfl w
    · have hk := okp_ptr hp
      have ek : (Pt k t i l m).k = k := rfl
      have n1 : ∀ n : Bool, ¬ ((Pt k t i l m).k = 2 ∧ n = true) := fun n q => by have := q.1; omega
      have np : ¬ ¬ ptr (Pt k t i l m).k := fun q => q hk.1
      have e0 : ((Pt k t i l m).k == 0) = false := by rw [ek]; simp; omega
      have e1 : ((Pt k t i l m).k == 1) = false := by rw [ek]; simp; omega
      have e2 : ((Pt k t i l m).k == 2) = false := by rw [ek]; simp; omega
      have Bs : whSplit (Pt k t i l m) false = Pt k t i l false ∧ whCan (Pt k t i l m) false = true := by
        unfold whSplit whCan
        have q : ¬ (¬ ptr (Pt k t i l m).k ∨ false = true ∧ (Pt k t i l m).m = false) := fun q => q.elim np (fun z => by cases z.1)
        rw [if_neg (n1 _), if_neg q, if_neg (by decide), if_neg (n1 _), if_neg q]; exact ⟨rfl, rfl⟩
      cases m
      · have As : whSplit (Pt k t i l false) true = junk ∧ whCan (Pt k t i l false) true = false := by
          unfold whSplit whCan
          rw [if_neg (n1 _), if_pos (Or.inr ⟨rfl, rfl⟩), if_neg (n1 _), if_pos (Or.inr ⟨rfl, rfl⟩)]; exact ⟨rfl, rfl⟩
        exact split_sure (Pt k t i l false) junk (Pt k t i l false) (S1 junk false As.1 As.2) (S2 _ true Bs.1 Bs.2) M1 e0 e1 e2 (eqB_eq _ _ rfl) w
      · have As : whSplit (Pt k t i l true) true = nullW ∧ whCan (Pt k t i l true) true = true := by
          unfold whSplit whCan
          have q : ¬ (¬ ptr (Pt k t i l true).k ∨ true = true ∧ (Pt k t i l true).m = false) := fun q => q.elim np (fun z => by cases z.2)
          rw [if_neg (n1 _), if_neg q, if_pos rfl, if_neg (n1 _), if_neg q]; exact ⟨rfl, rfl⟩
        have J3 := kjoin_any (Pt k t i l false) (Pt k t i l true) (Pt k t i l true) (by rw [J_ptr_ptr hp hp, if_pos ⟨rfl, rfl, rfl, rfl⟩]; rfl)
        by_cases hl : lone k
        · have J1 := kjoin_any nullW (Pt k t i l false) (Pt k t i l true) (by rw [J_null_ptr hp, if_pos hl])
          have J2 := kjoin_any (Pt k t i l false) nullW (Pt k t i l true) (by rw [J_ptr_null hp, if_pos hl])
          by_cases k4 : k = 4
          · exact split_l4 (Pt k t i l true) nullW (Pt k t i l false) (S1 nullW true As.1 As.2) (S2 _ true Bs.1 Bs.2) M1 e0 e1 e2 (by rw [ek]; simp [k4]) J1 J2 (eqB_eq _ _ rfl) J3 (by decide) w
          · have k6 : k = 6 := by unfold lone at hl; omega
            exact split_l6 (Pt k t i l true) nullW (Pt k t i l false) (S1 nullW true As.1 As.2) (S2 _ true Bs.1 Bs.2) M1 e0 e1 e2 (by rw [ek]; simp [k4]) (by rw [ek]; simp [k6]) J1 J2 (eqB_eq _ _ rfl) J3 (by decide) w
        · have k4 : ¬ k = 4 := fun q => hl (Or.inl q)
          have k6 : ¬ k = 6 := fun q => hl (Or.inr q)
          exact split_l35 (Pt k t i l true) nullW (Pt k t i l false) (S1 nullW true As.1 As.2) (S2 _ true Bs.1 Bs.2) M1 e0 e1 e2 (by rw [ek]; simp [k4]) (by rw [ek]; simp [k6]) (eqB_eq _ _ rfl) J3 (by decide) w
  · have M1 := kmay_wh x false (by unfold whMay; simp [hx])
    have no : ¬ x.k = 2 → ¬ ptr x.k → ∀ n : Bool, whSplit x n = junk ∧ whCan x n = false := fun h2 hp n => by
      have n1 : ¬ (x.k = 2 ∧ n = true) := fun q => h2 q.1
      unfold whSplit whCan
      rw [if_neg n1, if_pos (Or.inl hp), if_neg n1, if_pos (Or.inl hp)]; exact ⟨rfl, rfl⟩
    by_cases k0 : x.k = 0
    · have z := no (by omega) (by unfold ptr; omega)
      exact split_a0 x junk junk (S1 junk false (z _).1 (z _).2) (S2 junk false (z _).1 (z _).2) M1 (by simp [k0]) (by simp [k0]) w
    · by_cases k1 : x.k = 1
      · have z := no (by omega) (by unfold ptr; omega)
        exact split_a1 x junk junk (S1 junk false (z _).1 (z _).2) (S2 junk false (z _).1 (z _).2) M1 (by simp [k1]) (by simp [k1]) (by simp [k1]) w
      · by_cases g : 1 < x.k
        · exact split_a2 x _ _ _ _ (S1 _ _ rfl rfl) (S2 _ _ rfl rfl) M1 (by simp [k0]) (by simp [k1]) (by simp [g]) w
        · have z := no (by omega) (by unfold ptr; omega)
          exact split_a3 x junk junk (S1 junk false (z _).1 (z _).2) (S2 junk false (z _).1 (z _).2) M1 (by simp [k0]) (by simp [k1]) (by simp [g]) w
end Go.Proofs.Ytglfmcgpbenckaa
