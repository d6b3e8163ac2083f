/- PackOdd: its walk. -/
import Derived.Test.YtcfbdfgondmkoaaPack2
import Derived.Test.YtcfbdfgondmkoaaEqA
namespace Go.Proofs.Ytcfbdfgondmkoaa
open Go Go.RowKit

theorem packOdd_ (x : Int) (w : World) (h0 : 0 ≤ x) (h1 : x ≤ 18446744073709551615) : Gives Proofs.Try.prog 10 #[.int .u64 x] w (eqv (.bool true)) := by
  have r1 : rightB (x % 2305843009213693952) = true := by unfold rightB; simp; omega
  have r2 : rightB (x % 2305843009213693952 + 2305843009213693952) = false := by unfold rightB; simp; omega
  have r3 : rightB (x % 2305843009213693952 - 2305843009213693952) = false := by unfold rightB; simp; omega
  have n1 : nextW (x % 2305843009213693952 + 2305843009213693952) 1 0 = nextW (x % 2305843009213693952) 1 0 := by unfold nextW word; omega
  have n2 : nextW (x % 2305843009213693952 - 2305843009213693952) 2 1 = nextW (x % 2305843009213693952) 2 1 := by unfold nextW word; omega
  go_enter Proofs.Try.func10, Proofs.Try.ntmps10
  go_wp2_with (first | (go_at_call 36; refine (shown1_ _).calls.mono ?_; rintro e w0 ⟨_, rfl, hb0, rfl⟩) | (go_at_call 37; refine (of_ _ _ _ _).calls.mono ?_; rintro e w1 ⟨_, rfl, hb1, rfl⟩; skip) | (go_at_call 38; refine (refOf_ _ _ _ _).calls.mono ?_; rintro e w1 ⟨_, rfl, hb1, rfl⟩; skip) | (go_at_call 47; refine (next_ _ _ _ _).calls.mono ?_; rintro e w2 ⟨_, rfl, hb2, rfl⟩) | (go_at_call 48; refine (refNext_ _ _ _ _).calls.mono ?_; rintro e w2 ⟨_, rfl, hb2, rfl⟩) | (go_at_call 41; refine (index_ _ _).calls.mono ?_; rintro e w3 ⟨_, rfl, hb3, rfl⟩) | (go_at_call 42; refine (refIndex_ _ _).calls.mono ?_; rintro e w3 ⟨_, rfl, hb3, rfl⟩) | (go_at_call 43; refine (mark_ _ _).calls.mono ?_; rintro e w4 ⟨_, rfl, hb4, rfl⟩) | (go_at_call 44; refine (refMark_ _ _).calls.mono ?_; rintro e w4 ⟨_, rfl, hb4, rfl⟩) | (go_at_call 45; refine (tag_ _ _).calls.mono ?_; rintro e w5 ⟨_, rfl, hb5, rfl⟩) | (go_at_call 46; refine (refTag_ _ _).calls.mono ?_; rintro e w5 ⟨_, rfl, hb5, rfl⟩) | (go_at_call 39; refine (right_ _ _).calls.mono ?_; rintro e w6 ⟨_, rfl, hb6, rfl⟩) | (go_at_call 40; refine (refRight_ _ _).calls.mono ?_; rintro e w6 ⟨_, rfl, hb6, rfl⟩))
  go_ret
  exact ⟨_, rfl, by repeat (first | assumption | exact Ext.refl _ | refine Ext.trans ?_ (Ext.alloc _ _) | refine Ext.trans ?_ (by assumption)), rfl⟩

end Go.Proofs.Ytcfbdfgondmkoaa
