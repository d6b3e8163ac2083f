/- Arenas: more plain laws: counts, two stores, a store and what stays. -/
import Derived.Test.YtcfbdfgondmkoaaDat2
namespace Go.Proofs.Ytcfbdfgondmkoaa
open Go Go.RowKit
set_option linter.unusedSimpArgs false
set_option linter.unusedVariables false
set_option linter.unnecessarySimpa false

theorem countD_set (G : List Int) (i : Nat) (v x : Int) (h1 : 1 ≤ i) (h2 : i < G.length) :
    (countD (G.set i v) 1 x : Int) = (countD G 1 x : Int) - (if gi G i = x then 1 else 0) + (if v = x then 1 else 0) := by
  unfold countD
  cases G with
  | nil => simp at h2
  | cons a l =>
    obtain ⟨j, rfl⟩ : ∃ j, i = j + 1 := ⟨i - 1, by omega⟩
    have hj : j < l.length := by simpa using h2
    have e : gi (a :: l) (j + 1) = l[j] := by simp [gi, hj]
    rw [e]
    simp only [List.set_cons_succ, List.drop_succ_cons, List.drop_zero]
    rw [List.count_set hj]
    have hp : l[j] = x → 1 ≤ l.count x := fun h => by
      have : x ∈ l := h ▸ List.getElem_mem hj
      exact List.one_le_count_iff.2 this
    by_cases c1 : l[j] = x <;> by_cases c2 : v = x <;> simp [c1, c2] <;> first | omega | (have := hp c1; omega) | skip
theorem count_all (l : List Int) (h : l.any oddB = false) : l.count 0 + l.count 1 + l.count 2 = l.length := by
  induction l with
  | nil => rfl
  | cons a l ih =>
    simp only [List.any_cons, Bool.or_eq_false_iff] at h
    have ho := h.1
    have h3 : a = 0 ∨ a = 1 ∨ a = 2 := by simp [oddB] at ho; omega
    have := ih h.2
    rcases h3 with rfl | rfl | rfl <;> simp <;> omega
theorem count_seven (l : List Int) (h : l.any oddB = false) : l.count 7 = 0 := by
  rw [List.count_eq_zero]
  intro hm
  have : l.any oddB = true := List.any_eq_true.2 ⟨7, hm, by decide⟩
  rw [h] at this; cases this
theorem any_drop {l : List Int} (h : l.any oddB = false) : (l.drop 1).any oddB = false := by
  cases l with
  | nil => rfl
  | cons a l => simp only [List.any_cons, Bool.or_eq_false_iff] at h; exact h.2
theorem right_odd {m : Arena} (h : rightD m = true) : m.G.any oddB = false := by
  unfold rightD at h; simp only [Bool.and_eq_true, Bool.not_eq_true'] at h; exact h.2
theorem right_of_may {m : Arena} {n : Nat} (h : mayD m n = true) : rightD m = true := by
  unfold mayD at h; simp only [Bool.and_eq_true] at h; exact h.2
theorem gi_right {m : Arena} (h : rightD m = true) {i : Nat} (hi : i < m.G.length) : 0 ≤ gi m.G i ∧ gi m.G i ≤ 2 := by
  have ho := right_odd h
  have hn : ¬ oddB (gi m.G i) = true := fun k => by
    have : m.G.any oddB = true := List.any_eq_true.2 ⟨gi m.G i, by rw [← gi_eq m.G i hi]; exact List.getElem_mem hi, k⟩
    rw [ho] at this; cases this
  simp [oddB] at hn; omega
theorem count_three {m : Arena} (h : rightD m = true) : (countD m.G 1 0 : Int) + countD m.G 1 1 + countD m.G 1 2 = (m.G.length : Int) - 1 := by
  have h1 := count_all _ (any_drop (right_odd h))
  have h2 : (m.G.drop 1).length = m.G.length - 1 := by simp
  have h3 : 2 ≤ m.G.length := by unfold rightD at h; simp at h; exact h.1.1
  unfold countD; omega
theorem count_none {m : Arena} (h : rightD m = true) : countD m.G 1 7 = 0 := count_seven _ (any_drop (right_odd h))
theorem turnIs_at {m : Arena} {i : Nat} {t : Int} (h1 : 1 ≤ i) (h2 : i < m.G.length) : turnIs m i t = turnD (gi m.G i) t := by
  unfold turnIs
  have e : decide (1 ≤ (i : Int) ∧ (i : Int) < m.G.length) = true := by simp; omega
  rw [e]; simp
theorem turnD_ne {f t : Int} (h : turnD f t = true) : f ≠ t := by
  intro e; subst e; simp [turnD, pairEq] at h; omega
theorem count_turn {m : Arena} {i : Nat} {t : Int} (h1 : 1 ≤ i) (h2 : i < m.G.length) (ht : turnIs m i t = true) :
    (countD (turnMD m i t).G 1 t : Int) = countD m.G 1 t + 1 ∧ (countD (turnMD m i t).G 1 (gi m.G i) : Int) = countD m.G 1 (gi m.G i) - 1 := by
  have hn := turnD_ne (by rw [← turnIs_at h1 h2]; exact ht)
  unfold turnMD; rw [if_pos ht]
  constructor
  · rw [show ((i : Int).toNat) = i by simp, countD_set _ _ _ _ h1 h2, if_neg hn, if_pos rfl]; omega
  · rw [show ((i : Int).toNat) = i by simp, countD_set _ _ _ _ h1 h2, if_pos rfl, if_neg (Ne.symm hn)]; omega
theorem turn_not {m : Arena} {i t : Int} (ht : turnIs m i t = false) : (turnMD m i t).G = m.G := by unfold turnMD; rw [if_neg (by simp [ht])]

theorem outside_store (m : Arena) (x v y : Int) : outside (storeD m x v) y = outside m y := by unfold outside; rw [(storeD_len m x v).1]
theorem freeAt_store (m : Arena) (x v y : Int) : freeAt (storeD m x v) y = freeAt m y := by unfold freeAt; rw [(storeD_len m x v).1]; rfl
theorem badAt_store (m : Arena) (x v y : Int) : badAt (storeD m x v) y = (badAt m x || outside m y || freeAt m y) := by
  unfold badAt; rw [outside_store, freeAt_store, storeD_bad]; rfl
theorem store_comm (m : Arena) {x y : Int} (v u : Int) (h : x ≠ y) : storeD (storeD m x v) y u = storeD (storeD m y u) x v := by
  have e1 : (storeD (storeD m x v) y u).W = (storeD (storeD m y u) x v).W := by
    show (if outside (storeD m x v) y then (storeD m x v).W else (storeD m x v).W.set y.toNat u) = (if outside (storeD m y u) x then (storeD m y u).W else (storeD m y u).W.set x.toNat v)
    rw [outside_store, outside_store]
    show (if outside m y then (if outside m x then m.W else m.W.set x.toNat v) else (if outside m x then m.W else m.W.set x.toNat v).set y.toNat u) = (if outside m x then (if outside m y then m.W else m.W.set y.toNat u) else (if outside m y then m.W else m.W.set y.toNat u).set x.toNat v)
    by_cases a : outside m x = true <;> by_cases b : outside m y = true <;> simp only [a, b, if_true, if_false, Bool.false_eq_true]
    have hne : x.toNat ≠ y.toNat := by simp [outside] at a b; omega
    exact List.set_comm _ _ hne
  have e2 : (storeD (storeD m x v) y u).bad = (storeD (storeD m y u) x v).bad := by
    rw [storeD_bad, storeD_bad, badAt_store, badAt_store]; unfold badAt
    cases m.bad <;> cases outside m x <;> cases outside m y <;> cases freeAt m x <;> cases freeAt m y <;> rfl
  have e3 : (storeD (storeD m x v) y u).G = (storeD (storeD m y u) x v).G := rfl
  cases h1 : storeD (storeD m x v) y u; cases h2 : storeD (storeD m y u) x v
  rw [h1, h2] at e1 e2 e3; simp at e1 e2 e3; simp [e1, e2, e3]
theorem storeD_W {m : Arena} {x : Int} (v : Int) (h : outside m x = false) : (storeD m x v).W = m.W.set x.toNat v := by unfold storeD; simp [h]
theorem load_store {m : Arena} {x v : Int} (h : outside m x = false) : loadD (storeD m x v) x = v := by
  unfold loadD; rw [outside_store, h, storeD_W v h]
  have : x.toNat < m.W.length := by simp [outside] at h; omega
  simp [gi_set _ _ _ _ this]
theorem casIs_store {m : Arena} {x v : Int} : casIs (storeD m x v) x v = !outside m x := by
  unfold casIs; rw [outside_store]
  cases h : outside m x
  · rw [storeD_W v h]
    have : x.toNat < m.W.length := by simp [outside] at h; omega
    simp [gi_set _ _ _ _ this]
  · rfl
theorem casD_yes {m : Arena} {x a b : Int} (h : casIs m x a = true) : casD m x a b = storeD m x b := by unfold casD; rw [if_pos h]
theorem casD_no {m : Arena} {x a b : Int} (h : casIs m x a = false) : casD m x a b = touchD m x := by unfold casD; rw [if_neg (by simp [h])]
theorem touchD_outside (m : Arena) (x y : Int) : outside (touchD m x) y = outside m y := rfl
/-- a swap and its way back -/
theorem cas_back (m : Arena) (x v u : Int) : casIs (casD (storeD m x v) x v u) x u = !outside m x := by
  cases h : outside m x
  · rw [casD_yes (by rw [casIs_store, h]; rfl), casIs_store, outside_store, h]
  · rw [casD_no (by rw [casIs_store, h]; rfl)]; unfold casIs; rw [touchD_outside, outside_store, h]; rfl
theorem cas_backW (m : Arena) (x v u : Int) (h : outside m x = false) : (casD (casD (storeD m x v) x v u) x u v).W = (storeD m x v).W := by
  rw [casD_yes (show casIs (casD (storeD m x v) x v u) x u = true by rw [cas_back, h]; rfl), casD_yes (by rw [casIs_store, h]; rfl)]
  rw [storeD_W v (by rw [outside_store, outside_store, h]), storeD_W u (by rw [outside_store, h]), storeD_W v h]
  simp
end Go.Proofs.Ytcfbdfgondmkoaa
