/- PackTells: its walk. -/
import Derived.Test.YtcfbdfgondmkoaaPack2
namespace Go.Proofs.Ytcfbdfgondmkoaa
open Go Go.RowKit
theorem packTells_ (t i m x : Int) (w : World) : Gives Proofs.Try.prog 3 #[.agg #[.int .i64 t, .int .i64 i, .int .i64 m, .int .i64 x]] w (eqv (.bool true)) := by
  by_cases h : may t i m
  · have hv : ofV t i m = two (word t i m) 0 := if_pos h
    unfold two at hv
    generalize word t i m = wd at *
    clear h
    go_enter Proofs.Try.func3, Proofs.Try.ntmps3
    go_wp2_with (first | (go_at_call 36; refine (shown1_ _).calls.mono ?_; rintro e w0 ⟨_, rfl, hb0, rfl⟩) | (go_at_call 37; refine (of_ _ _ _ _).calls.mono ?_; rintro e w1 ⟨_, rfl, hb1, rfl⟩; rw [hv]) | (go_at_call 38; refine (refOf_ _ _ _ _).calls.mono ?_; rintro e w1 ⟨_, rfl, hb1, rfl⟩; rw [hv]) | (go_at_call 47; refine (next_ _ _ _ _).calls.mono ?_; rintro e w2 ⟨_, rfl, hb2, rfl⟩) | (go_at_call 48; refine (refNext_ _ _ _ _).calls.mono ?_; rintro e w2 ⟨_, rfl, hb2, rfl⟩) | (go_at_call 41; refine (index_ _ _).calls.mono ?_; rintro e w3 ⟨_, rfl, hb3, rfl⟩) | (go_at_call 42; refine (refIndex_ _ _).calls.mono ?_; rintro e w3 ⟨_, rfl, hb3, rfl⟩) | (go_at_call 43; refine (mark_ _ _).calls.mono ?_; rintro e w4 ⟨_, rfl, hb4, rfl⟩) | (go_at_call 44; refine (refMark_ _ _).calls.mono ?_; rintro e w4 ⟨_, rfl, hb4, rfl⟩) | (go_at_call 45; refine (tag_ _ _).calls.mono ?_; rintro e w5 ⟨_, rfl, hb5, rfl⟩) | (go_at_call 46; refine (refTag_ _ _).calls.mono ?_; rintro e w5 ⟨_, rfl, hb5, rfl⟩) | (go_at_call 39; refine (right_ _ _).calls.mono ?_; rintro e w6 ⟨_, rfl, hb6, rfl⟩) | (go_at_call 40; refine (refRight_ _ _).calls.mono ?_; rintro e w6 ⟨_, rfl, hb6, rfl⟩))
    go_ret
    exact ⟨_, rfl, by repeat (first | assumption | exact Ext.refl _ | refine Ext.trans ?_ (Ext.alloc _ _) | refine Ext.trans ?_ (by assumption)), rfl⟩
  · have hv : ofV t i m = two 0 1 := if_neg h
    unfold two at hv
    clear h
    go_enter Proofs.Try.func3, Proofs.Try.ntmps3
    go_wp2_with (first | (go_at_call 36; refine (shown1_ _).calls.mono ?_; rintro e w0 ⟨_, rfl, hb0, rfl⟩) | (go_at_call 37; refine (of_ _ _ _ _).calls.mono ?_; rintro e w1 ⟨_, rfl, hb1, rfl⟩; rw [hv]) | (go_at_call 38; refine (refOf_ _ _ _ _).calls.mono ?_; rintro e w1 ⟨_, rfl, hb1, rfl⟩; rw [hv]) | (go_at_call 47; refine (next_ _ _ _ _).calls.mono ?_; rintro e w2 ⟨_, rfl, hb2, rfl⟩) | (go_at_call 48; refine (refNext_ _ _ _ _).calls.mono ?_; rintro e w2 ⟨_, rfl, hb2, rfl⟩) | (go_at_call 41; refine (index_ _ _).calls.mono ?_; rintro e w3 ⟨_, rfl, hb3, rfl⟩) | (go_at_call 42; refine (refIndex_ _ _).calls.mono ?_; rintro e w3 ⟨_, rfl, hb3, rfl⟩) | (go_at_call 43; refine (mark_ _ _).calls.mono ?_; rintro e w4 ⟨_, rfl, hb4, rfl⟩) | (go_at_call 44; refine (refMark_ _ _).calls.mono ?_; rintro e w4 ⟨_, rfl, hb4, rfl⟩) | (go_at_call 45; refine (tag_ _ _).calls.mono ?_; rintro e w5 ⟨_, rfl, hb5, rfl⟩) | (go_at_call 46; refine (refTag_ _ _).calls.mono ?_; rintro e w5 ⟨_, rfl, hb5, rfl⟩) | (go_at_call 39; refine (right_ _ _).calls.mono ?_; rintro e w6 ⟨_, rfl, hb6, rfl⟩) | (go_at_call 40; refine (refRight_ _ _).calls.mono ?_; rintro e w6 ⟨_, rfl, hb6, rfl⟩))
    go_ret
    exact ⟨_, rfl, by repeat (first | assumption | exact Ext.refl _ | refine Ext.trans ?_ (Ext.alloc _ _) | refine Ext.trans ?_ (by assumption)), rfl⟩
end Go.Proofs.Ytcfbdfgondmkoaa
