/- Layer pack: Of, and the document's answers. -/
import Derived.Test.YtcfbdfgondmkoaaPack1
import Derived.Lib.Hide
namespace Go.Proofs.Ytcfbdfgondmkoaa
open Go Go.RowKit

theorem bcell {W w1 : World} (hb : Ext W w1) : (∀ b o, b < W.heap.size → w1.cell? ⟨b, o, none⟩ = W.cell? ⟨b, o, none⟩) ∧ (∀ b o, b < W.heap.size → w1.frozen? ⟨b, o, none⟩ = W.frozen? ⟨b, o, none⟩) :=
  ⟨fun b o h => hb.cell (p := ⟨b, o, none⟩) h, fun b o h => hb.frozen (p := ⟨b, o, none⟩) h⟩

/-- what may be packed -/
def may (t i m : Int) : Prop := 0 ≤ t ∧ t < 1099511627776 ∧ 0 ≤ i ∧ i < 1048576 ∧ 0 ≤ m ∧ m ≤ 1
instance (t i m : Int) : Decidable (may t i m) := by unfold may; infer_instance
def two (x y : Int) : Value := .tuple #[.int .i64 x, .int .i64 y]
def ofV (t i m : Int) : Value := if may t i m then two (word t i m) 0 else two 0 1

theorem word_mark (t i m : Int) : word t i m % 2 = m % 2 := by unfold word; omega
theorem word_index (t i m : Int) : word t i m / 2 % 1048576 = i % 1048576 := by unfold word; omega
theorem word_tag (t i m : Int) : word t i m / 2097152 % 1099511627776 = t % 1099511627776 := by unfold word; omega

theorem of_ (t i m : Int) : Hands 37 #[.int .i64 t, .int .i64 i, .int .i64 m] (ofV t i m) := by
  intro w
  have hm := word_mark t i m
  have hi := word_index t i m
  have ht := word_tag t i m
  by_cases h1 : 0 ≤ m ∧ m ≤ 1
  · have e1 : (word t i m % 2 != m) = false := by rw [hm]; simp; omega
    by_cases h2 : 0 ≤ i ∧ i < 1048576
    · have e2 : (word t i m / 2 % 1048576 != i) = false := by rw [hi]; simp; omega
      by_cases h3 : 0 ≤ t ∧ t < 1099511627776
      · have e3 : (word t i m / 2097152 % 1099511627776 != t) = false := by rw [ht]; simp; omega
        have hv : ofV t i m = two (word t i m) 0 := if_pos ⟨h3.1, h3.2, h2.1, h2.2, h1.1, h1.2⟩
        rw [hv]
        clear hm hi ht hv h1 h2 h3
        have HJ := joined_ m i t
        generalize hwd : word t i m = wd at *
        clear hwd
        go_enter Proofs.Try.func37, Proofs.Try.ntmps37
        go_wp2_with (first | (go_at_call 116; refine (HJ _ _ _ _ (by simp [go_sem]) (by simp [go_sem]) (by simp [go_sem])).calls.mono ?_; rintro e w1 ⟨_, rfl, hb, rfl⟩) | (go_at_call 43; refine (mark_ _ _).calls.mono ?_; rintro e w2 ⟨_, rfl, hb2, rfl⟩) | (go_at_call 41; refine (index_ _ _).calls.mono ?_; rintro e w3 ⟨_, rfl, hb3, rfl⟩) | (go_at_call 45; refine (tag_ _ _).calls.mono ?_; rintro e w4 ⟨_, rfl, hb4, rfl⟩))
        go_ret2
        exact ⟨_, rfl, (((Ext.alloc _ _).trans hb).trans hb2).trans (hb3.trans hb4), rfl⟩
      · have e3 : (word t i m / 2097152 % 1099511627776 != t) = true := by rw [ht]; simp; omega
        have hv : ofV t i m = two 0 1 := if_neg (fun h => h3 ⟨h.1, h.2.1⟩)
        rw [hv]
        clear hm hi ht hv h1 h2 h3
        have HJ := joined_ m i t
        generalize hwd : word t i m = wd at *
        clear hwd
        go_enter Proofs.Try.func37, Proofs.Try.ntmps37
        go_wp2_with (first | (go_at_call 116; refine (HJ _ _ _ _ (by simp [go_sem]) (by simp [go_sem]) (by simp [go_sem])).calls.mono ?_; rintro e w1 ⟨_, rfl, hb, rfl⟩) | (go_at_call 43; refine (mark_ _ _).calls.mono ?_; rintro e w2 ⟨_, rfl, hb2, rfl⟩) | (go_at_call 41; refine (index_ _ _).calls.mono ?_; rintro e w3 ⟨_, rfl, hb3, rfl⟩) | (go_at_call 45; refine (tag_ _ _).calls.mono ?_; rintro e w4 ⟨_, rfl, hb4, rfl⟩))
        go_ret2
        exact ⟨_, rfl, (((Ext.alloc _ _).trans hb).trans hb2).trans (hb3.trans hb4), rfl⟩
    · have e2 : (word t i m / 2 % 1048576 != i) = true := by rw [hi]; simp; omega
      have hv : ofV t i m = two 0 1 := if_neg (fun h => h2 ⟨h.2.2.1, h.2.2.2.1⟩)
      rw [hv]
      clear hm hi ht hv h1 h2
      have HJ := joined_ m i t
      generalize hwd : word t i m = wd at *
      clear hwd
      go_enter Proofs.Try.func37, Proofs.Try.ntmps37
      go_wp2_with (first | (go_at_call 116; refine (HJ _ _ _ _ (by simp [go_sem]) (by simp [go_sem]) (by simp [go_sem])).calls.mono ?_; rintro e w1 ⟨_, rfl, hb, rfl⟩) | (go_at_call 43; refine (mark_ _ _).calls.mono ?_; rintro e w2 ⟨_, rfl, hb2, rfl⟩) | (go_at_call 41; refine (index_ _ _).calls.mono ?_; rintro e w3 ⟨_, rfl, hb3, rfl⟩) | (go_at_call 45; refine (tag_ _ _).calls.mono ?_; rintro e w4 ⟨_, rfl, hb4, rfl⟩))
      go_ret2
      exact ⟨_, rfl, (((Ext.alloc _ _).trans hb).trans hb2).trans hb3, rfl⟩
  · have e1 : (word t i m % 2 != m) = true := by rw [hm]; simp; omega
    have hv : ofV t i m = two 0 1 := if_neg (fun h => h1 ⟨h.2.2.2.2.1, h.2.2.2.2.2⟩)
    rw [hv]
    clear hm hi ht hv h1
    have HJ := joined_ m i t
    generalize hwd : word t i m = wd at *
    clear hwd
    go_enter Proofs.Try.func37, Proofs.Try.ntmps37
    go_wp2_with (first | (go_at_call 116; refine (HJ _ _ _ _ (by simp [go_sem]) (by simp [go_sem]) (by simp [go_sem])).calls.mono ?_; rintro e w1 ⟨_, rfl, hb, rfl⟩) | (go_at_call 43; refine (mark_ _ _).calls.mono ?_; rintro e w2 ⟨_, rfl, hb2, rfl⟩))
    go_ret2
    exact ⟨_, rfl, ((Ext.alloc _ _).trans hb).trans hb2, rfl⟩

theorem refOf_ (t i m : Int) : Hands 38 #[.int .i64 t, .int .i64 i, .int .i64 m] (ofV t i m) := by
  intro w
  by_cases h : may t i m
  · have hv : ofV t i m = two (word t i m) 0 := if_pos h
    rw [hv]
    obtain ⟨h1, h2, h3, h4, h5, h6⟩ := h
    have hwd : t * 2097152 + i * 2 + m = word t i m := by unfold word; omega
    have HW : Hid (t * 2097152 + i * 2 + m = word t i m) := Lib.hid hwd
    clear hwd hv
    go_enter Proofs.Try.func38, Proofs.Try.ntmps38
    go_wp2
    go_ret2
    exact ⟨_, rfl, Ext.refl _, by rw [← HW.out]; rfl⟩
  · have hv : ofV t i m = two 0 1 := if_neg h
    rw [hv]
    have h' : ¬ ((((((0 ≤ t ∧ t < 1099511627776) ∧ 0 ≤ i) ∧ i < 1048576) ∧ 0 ≤ m) ∧ m ≤ 1)) := fun ⟨⟨⟨⟨⟨a, b⟩, c⟩, d⟩, e⟩, f⟩ => h ⟨a, b, c, d, e, f⟩
    clear h hv
    go_enter Proofs.Try.func38, Proofs.Try.ntmps38
    go_wp2
    all_goals go_ret2
    all_goals exact ⟨_, rfl, Ext.refl _, rfl⟩

theorem mod_ (a b : Int) (hb : 0 < b) (hb2 : b ≤ 2305843009213693952) : Hands 119 #[.int .i64 a, .int .i64 b] (.int .i64 (a % b)) := by
  intro w
  obtain ⟨h1, h2, h3⟩ := tmod_cases a b hb
  by_cases h : a.tmod b < 0
  · have H := Lib.hid (show a % b = a.tmod b + b by rw [h3, if_pos h])
    clear h3
    go_enter Proofs.Try.func119, Proofs.Try.ntmps119
    go_wp2
    go_ret
    exact ⟨_, rfl, Ext.refl _, by rw [H.out]; rfl⟩
  · have H := Lib.hid (show a % b = a.tmod b by rw [h3, if_neg h])
    clear h3
    go_enter Proofs.Try.func119, Proofs.Try.ntmps119
    go_wp2
    go_ret
    exact ⟨_, rfl, Ext.refl _, by rw [H.out]; rfl⟩

theorem refIndex_ (x : Int) : Hands 42 #[.int .i64 x] (.int .i64 (x / 2 % 1048576)) := by
  intro w
  have H := Lib.hid (show x % 2097152 / 2 = x / 2 % 1048576 by omega)
  go_enter Proofs.Try.func42, Proofs.Try.ntmps42
  go_wp2_with (go_at_call 119; refine (mod_ _ _ (by decide) (by decide) _).calls.mono ?_; rintro e w' ⟨_, rfl, hb, rfl⟩)
  go_ret
  exact ⟨_, rfl, hb, by rw [← H.out]; rfl⟩
theorem refMark_ (x : Int) : Hands 44 #[.int .i64 x] (.int .i64 (x % 2)) := by
  intro w
  go_enter Proofs.Try.func44, Proofs.Try.ntmps44
  go_wp2_with (go_at_call 119; refine (mod_ _ _ (by decide) (by decide) _).calls.mono ?_; rintro e w' ⟨_, rfl, hb, rfl⟩)
  go_ret
  exact ⟨_, rfl, hb, rfl⟩
theorem refTag_ (x : Int) : Hands 46 #[.int .i64 x] (.int .i64 (x / 2097152 % 1099511627776)) := by
  intro w
  have H := Lib.hid (show x % 2305843009213693952 / 2097152 = x / 2097152 % 1099511627776 by omega)
  go_enter Proofs.Try.func46, Proofs.Try.ntmps46
  go_wp2_with (go_at_call 119; refine (mod_ _ _ (by decide) (by decide) _).calls.mono ?_; rintro e w' ⟨_, rfl, hb, rfl⟩)
  go_ret
  exact ⟨_, rfl, hb, by rw [← H.out]; rfl⟩
theorem refRight_ (x : Int) : Hands 40 #[.int .i64 x] (.bool (rightB x)) := by
  intro w
  have H := Lib.hid (show (decide (0 ≤ x) && decide (x < 2305843009213693952)) = rightB x by unfold rightB; rw [Bool.eq_iff_iff]; simp; omega)
  go_enter Proofs.Try.func40, Proofs.Try.ntmps40
  go_wp2
  all_goals go_ret
  all_goals exact ⟨_, rfl, Ext.refl _, congrArg Value.bool (by rw [← H.out]; simp [*]; try omega)⟩
theorem refNext_ (x i m : Int) : Hands 48 #[.int .i64 x, .int .i64 i, .int .i64 m] (.int .i64 (nextW x i m)) := by
  intro w
  go_enter Proofs.Try.func48, Proofs.Try.ntmps48
  go_wp2_with (first | (go_at_call 46; refine (refTag_ _ _).calls.mono ?_; rintro e w1 ⟨_, rfl, hb1, rfl⟩) | (go_at_call 119; refine (mod_ _ _ (by decide) (by decide) _).calls.mono ?_; rintro e w' ⟨_, rfl, hb, rfl⟩))
  go_ret
  exact ⟨_, rfl, by repeat (first | assumption | refine Ext.trans ?_ (by assumption)), congrArg (Value.int .i64) (by unfold nextW word; omega)⟩

/-- The document's example holds. -/
theorem shown1_ : Hands 36 #[] (.bool true) := by
  intro w
  have r1 : rightB 2097159 = true := by decide
  have r2 : rightB (-1) = false := by decide
  go_enter Proofs.Try.func36, Proofs.Try.ntmps36
  go_wp2_with (first | (go_at_call 37; refine (of_ _ _ _ _).calls.mono ?_; rintro e w1 ⟨_, rfl, hb1, rfl⟩; rw [show ofV 1 3 1 = .tuple #[.int .i64 2097159, .int .i64 0] by rfl]) | (go_at_call 47; refine (next_ _ _ _ _).calls.mono ?_; rintro e w2 ⟨_, rfl, hb2, rfl⟩; rw [show nextW 2097159 5 0 = 4194314 by rfl]) | (go_at_call 41; refine (index_ _ _).calls.mono ?_; rintro e w3 ⟨_, rfl, hb3, rfl⟩) | (go_at_call 43; refine (mark_ _ _).calls.mono ?_; rintro e w4 ⟨_, rfl, hb4, rfl⟩) | (go_at_call 45; refine (tag_ _ _).calls.mono ?_; rintro e w5 ⟨_, rfl, hb5, rfl⟩) | (go_at_call 39; refine (right_ _ _).calls.mono ?_; rintro e w6 ⟨_, rfl, hb6, rfl⟩))
  go_ret
  exact ⟨_, rfl, by repeat (first | assumption | refine Ext.trans ?_ (by assumption)), rfl⟩
end Go.Proofs.Ytcfbdfgondmkoaa
