/- PackBack: its walk. -/
import Derived.Test.YtcfbdfgondmkoaaPack2
import Derived.Test.YtcfbdfgondmkoaaEqA
namespace Go.Proofs.Ytcfbdfgondmkoaa
open Go Go.RowKit

theorem packed_word (x : Int) : word (x / 2097152 % 1099511627776) (x / 2 % 1048576) (x % 2) = x % 2305843009213693952 := by unfold word; omega
theorem may_parts (x : Int) : may (x / 2097152 % 1099511627776) (x / 2 % 1048576) (x % 2) := by unfold may; omega
theorem right_mod (x : Int) : rightB (x % 2305843009213693952) = true := by unfold rightB; simp; omega
theorem mod_right (x : Int) (h : rightB x = true) : x % 2305843009213693952 = x := by unfold rightB at h; simp at h; omega
theorem packBack_ (t i m x : Int) (w : World) : Gives Proofs.Try.prog 4 #[.agg #[.int .i64 t, .int .i64 i, .int .i64 m, .int .i64 x]] w (eqv (.bool true)) := by
  have ho : ofV (x / 2097152 % 1099511627776) (x / 2 % 1048576) (x % 2) = .tuple #[.int .i64 (x % 2305843009213693952), .int .i64 0] := by
    unfold ofV; rw [if_pos (may_parts x), packed_word]; rfl
  have r1 := right_mod x
  have e1 : (rightB x && (x % 2305843009213693952 != x)) = false := by
    cases hr : rightB x with
    | false => rfl
    | true => simp [mod_right x hr]
  by_cases h : may t i m
  · have hv : ofV t i m = .tuple #[.int .i64 (word t i m), .int .i64 0] := by unfold ofV; rw [if_pos h]; rfl
    have k1 := word_mark t i m
    have k2 := word_index t i m
    have k3 := word_tag t i m
    have k4 : rightB (word t i m) = true := by have := word_bounds t i m; unfold rightB; simp; omega
    obtain ⟨a1, a2, a3, a4, a5, a6⟩ := h
    have m1 : word t i m % 2 = m := by omega
    have m2 : word t i m / 2 % 1048576 = i := by omega
    have m3 : word t i m / 2097152 % 1099511627776 = t := by omega
    have m4 : (nextW (word t i m) i m != word t i m) = true := by
      have : nextW (word t i m) i m / 2097152 % 1099511627776 ≠ word t i m / 2097152 % 1099511627776 := by
        unfold nextW
        rw [word_tag (word t i m / 2097152 % 1099511627776 + 1) i m]
        omega
      have : nextW (word t i m) i m ≠ word t i m := fun e => this (by rw [e])
      simpa using this
    generalize word t i m = y at *
    clear k1 k2 k3 a1 a2 a3 a4 a5 a6
    cases hr : rightB x with
    | false =>
      go_enter Proofs.Try.func4, Proofs.Try.ntmps4
      go_wp2_with (first | (go_at_call 36; refine (shown1_ _).calls.mono ?_; rintro e w0 ⟨_, rfl, hb0, rfl⟩) | (go_at_call 37; refine (of_ _ _ _ _).calls.mono ?_; rintro e w1 ⟨_, rfl, hb1, rfl⟩; (first | rw [ho] | rw [hv])) | (go_at_call 38; refine (refOf_ _ _ _ _).calls.mono ?_; rintro e w1 ⟨_, rfl, hb1, rfl⟩; (first | rw [ho] | rw [hv])) | (go_at_call 47; refine (next_ _ _ _ _).calls.mono ?_; rintro e w2 ⟨_, rfl, hb2, rfl⟩) | (go_at_call 48; refine (refNext_ _ _ _ _).calls.mono ?_; rintro e w2 ⟨_, rfl, hb2, rfl⟩) | (go_at_call 41; refine (index_ _ _).calls.mono ?_; rintro e w3 ⟨_, rfl, hb3, rfl⟩) | (go_at_call 42; refine (refIndex_ _ _).calls.mono ?_; rintro e w3 ⟨_, rfl, hb3, rfl⟩) | (go_at_call 43; refine (mark_ _ _).calls.mono ?_; rintro e w4 ⟨_, rfl, hb4, rfl⟩) | (go_at_call 44; refine (refMark_ _ _).calls.mono ?_; rintro e w4 ⟨_, rfl, hb4, rfl⟩) | (go_at_call 45; refine (tag_ _ _).calls.mono ?_; rintro e w5 ⟨_, rfl, hb5, rfl⟩) | (go_at_call 46; refine (refTag_ _ _).calls.mono ?_; rintro e w5 ⟨_, rfl, hb5, rfl⟩) | (go_at_call 39; refine (right_ _ _).calls.mono ?_; rintro e w6 ⟨_, rfl, hb6, rfl⟩) | (go_at_call 40; refine (refRight_ _ _).calls.mono ?_; rintro e w6 ⟨_, rfl, hb6, rfl⟩))
      go_ret
      exact ⟨_, rfl, by repeat (first | assumption | exact Ext.refl _ | refine Ext.trans ?_ (Ext.alloc _ _) | refine Ext.trans ?_ (by assumption)), rfl⟩
    | true =>
      have mr := mod_right x hr
      go_enter Proofs.Try.func4, Proofs.Try.ntmps4
      go_wp2_with (first | (go_at_call 36; refine (shown1_ _).calls.mono ?_; rintro e w0 ⟨_, rfl, hb0, rfl⟩) | (go_at_call 37; refine (of_ _ _ _ _).calls.mono ?_; rintro e w1 ⟨_, rfl, hb1, rfl⟩; (first | rw [ho] | rw [hv])) | (go_at_call 38; refine (refOf_ _ _ _ _).calls.mono ?_; rintro e w1 ⟨_, rfl, hb1, rfl⟩; (first | rw [ho] | rw [hv])) | (go_at_call 47; refine (next_ _ _ _ _).calls.mono ?_; rintro e w2 ⟨_, rfl, hb2, rfl⟩) | (go_at_call 48; refine (refNext_ _ _ _ _).calls.mono ?_; rintro e w2 ⟨_, rfl, hb2, rfl⟩) | (go_at_call 41; refine (index_ _ _).calls.mono ?_; rintro e w3 ⟨_, rfl, hb3, rfl⟩) | (go_at_call 42; refine (refIndex_ _ _).calls.mono ?_; rintro e w3 ⟨_, rfl, hb3, rfl⟩) | (go_at_call 43; refine (mark_ _ _).calls.mono ?_; rintro e w4 ⟨_, rfl, hb4, rfl⟩) | (go_at_call 44; refine (refMark_ _ _).calls.mono ?_; rintro e w4 ⟨_, rfl, hb4, rfl⟩) | (go_at_call 45; refine (tag_ _ _).calls.mono ?_; rintro e w5 ⟨_, rfl, hb5, rfl⟩) | (go_at_call 46; refine (refTag_ _ _).calls.mono ?_; rintro e w5 ⟨_, rfl, hb5, rfl⟩) | (go_at_call 39; refine (right_ _ _).calls.mono ?_; rintro e w6 ⟨_, rfl, hb6, rfl⟩) | (go_at_call 40; refine (refRight_ _ _).calls.mono ?_; rintro e w6 ⟨_, rfl, hb6, rfl⟩))
      go_ret
      exact ⟨_, rfl, by repeat (first | assumption | exact Ext.refl _ | refine Ext.trans ?_ (Ext.alloc _ _) | refine Ext.trans ?_ (by assumption)), rfl⟩
  · have hv : ofV t i m = .tuple #[.int .i64 0, .int .i64 1] := by unfold ofV; rw [if_neg h]; rfl
    clear h
    cases hr : rightB x with
    | false =>
      go_enter Proofs.Try.func4, Proofs.Try.ntmps4
      go_wp2_with (first | (go_at_call 36; refine (shown1_ _).calls.mono ?_; rintro e w0 ⟨_, rfl, hb0, rfl⟩) | (go_at_call 37; refine (of_ _ _ _ _).calls.mono ?_; rintro e w1 ⟨_, rfl, hb1, rfl⟩; (first | rw [ho] | rw [hv])) | (go_at_call 38; refine (refOf_ _ _ _ _).calls.mono ?_; rintro e w1 ⟨_, rfl, hb1, rfl⟩; (first | rw [ho] | rw [hv])) | (go_at_call 47; refine (next_ _ _ _ _).calls.mono ?_; rintro e w2 ⟨_, rfl, hb2, rfl⟩) | (go_at_call 48; refine (refNext_ _ _ _ _).calls.mono ?_; rintro e w2 ⟨_, rfl, hb2, rfl⟩) | (go_at_call 41; refine (index_ _ _).calls.mono ?_; rintro e w3 ⟨_, rfl, hb3, rfl⟩) | (go_at_call 42; refine (refIndex_ _ _).calls.mono ?_; rintro e w3 ⟨_, rfl, hb3, rfl⟩) | (go_at_call 43; refine (mark_ _ _).calls.mono ?_; rintro e w4 ⟨_, rfl, hb4, rfl⟩) | (go_at_call 44; refine (refMark_ _ _).calls.mono ?_; rintro e w4 ⟨_, rfl, hb4, rfl⟩) | (go_at_call 45; refine (tag_ _ _).calls.mono ?_; rintro e w5 ⟨_, rfl, hb5, rfl⟩) | (go_at_call 46; refine (refTag_ _ _).calls.mono ?_; rintro e w5 ⟨_, rfl, hb5, rfl⟩) | (go_at_call 39; refine (right_ _ _).calls.mono ?_; rintro e w6 ⟨_, rfl, hb6, rfl⟩) | (go_at_call 40; refine (refRight_ _ _).calls.mono ?_; rintro e w6 ⟨_, rfl, hb6, rfl⟩))
      go_ret
      exact ⟨_, rfl, by repeat (first | assumption | exact Ext.refl _ | refine Ext.trans ?_ (Ext.alloc _ _) | refine Ext.trans ?_ (by assumption)), rfl⟩
    | true =>
      have mr := mod_right x hr
      go_enter Proofs.Try.func4, Proofs.Try.ntmps4
      go_wp2_with (first | (go_at_call 36; refine (shown1_ _).calls.mono ?_; rintro e w0 ⟨_, rfl, hb0, rfl⟩) | (go_at_call 37; refine (of_ _ _ _ _).calls.mono ?_; rintro e w1 ⟨_, rfl, hb1, rfl⟩; (first | rw [ho] | rw [hv])) | (go_at_call 38; refine (refOf_ _ _ _ _).calls.mono ?_; rintro e w1 ⟨_, rfl, hb1, rfl⟩; (first | rw [ho] | rw [hv])) | (go_at_call 47; refine (next_ _ _ _ _).calls.mono ?_; rintro e w2 ⟨_, rfl, hb2, rfl⟩) | (go_at_call 48; refine (refNext_ _ _ _ _).calls.mono ?_; rintro e w2 ⟨_, rfl, hb2, rfl⟩) | (go_at_call 41; refine (index_ _ _).calls.mono ?_; rintro e w3 ⟨_, rfl, hb3, rfl⟩) | (go_at_call 42; refine (refIndex_ _ _).calls.mono ?_; rintro e w3 ⟨_, rfl, hb3, rfl⟩) | (go_at_call 43; refine (mark_ _ _).calls.mono ?_; rintro e w4 ⟨_, rfl, hb4, rfl⟩) | (go_at_call 44; refine (refMark_ _ _).calls.mono ?_; rintro e w4 ⟨_, rfl, hb4, rfl⟩) | (go_at_call 45; refine (tag_ _ _).calls.mono ?_; rintro e w5 ⟨_, rfl, hb5, rfl⟩) | (go_at_call 46; refine (refTag_ _ _).calls.mono ?_; rintro e w5 ⟨_, rfl, hb5, rfl⟩) | (go_at_call 39; refine (right_ _ _).calls.mono ?_; rintro e w6 ⟨_, rfl, hb6, rfl⟩) | (go_at_call 40; refine (refRight_ _ _).calls.mono ?_; rintro e w6 ⟨_, rfl, hb6, rfl⟩))
      go_ret
      exact ⟨_, rfl, by repeat (first | assumption | exact Ext.refl _ | refine Ext.trans ?_ (Ext.alloc _ _) | refine Ext.trans ?_ (by assumption)), rfl⟩

end Go.Proofs.Ytcfbdfgondmkoaa
