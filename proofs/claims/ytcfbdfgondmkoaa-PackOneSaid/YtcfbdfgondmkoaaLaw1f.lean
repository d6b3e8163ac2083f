/- PackOne: its walk. -/
import Derived.Test.YtcfbdfgondmkoaaPack2
import Derived.Test.YtcfbdfgondmkoaaEqA
namespace Go.Proofs.Ytcfbdfgondmkoaa
open Go Go.RowKit

theorem packOne_ (x i t : Int) (w : World) (h0 : 0 ≤ i) (h1 : i ≤ 4294967295) (h2 : 0 ≤ t) (h3 : t ≤ 18446744073709551615) : Gives Proofs.Try.prog 8 #[.int .i64 x, .int .u32 i, .int .u64 t] w (eqv (.bool true)) := by
  have o1 : ofV (x / 2097152 % 1099511627776) (i % 1048576) (x % 2) = .tuple #[.int .i64 (word (x / 2097152 % 1099511627776) (i % 1048576) (x % 2)), .int .i64 0] := by unfold ofV; rw [if_pos (by unfold may; omega)]; rfl
  have o2 : ofV (t % 1099511627776) (x / 2 % 1048576) (x % 2) = .tuple #[.int .i64 (word (t % 1099511627776) (x / 2 % 1048576) (x % 2)), .int .i64 0] := by unfold ofV; rw [if_pos (by unfold may; omega)]; rfl
  have o3 : ofV (x / 2097152 % 1099511627776) (x / 2 % 1048576) (1 - x % 2) = .tuple #[.int .i64 (word (x / 2097152 % 1099511627776) (x / 2 % 1048576) (1 - x % 2)), .int .i64 0] := by unfold ofV; rw [if_pos (by unfold may; omega)]; rfl
  have a1 : word (x / 2097152 % 1099511627776) (i % 1048576) (x % 2) / 2 % 1048576 = i % 1048576 := by rw [word_index]; omega
  have a2 : word (x / 2097152 % 1099511627776) (i % 1048576) (x % 2) / 2097152 % 1099511627776 = x / 2097152 % 1099511627776 := by rw [word_tag]; omega
  have a3 : word (x / 2097152 % 1099511627776) (i % 1048576) (x % 2) % 2 = x % 2 := by rw [word_mark]; omega
  have b1 : word (t % 1099511627776) (x / 2 % 1048576) (x % 2) / 2 % 1048576 = x / 2 % 1048576 := by rw [word_index]; omega
  have b2 : word (t % 1099511627776) (x / 2 % 1048576) (x % 2) / 2097152 % 1099511627776 = t % 1099511627776 := by rw [word_tag]; omega
  have b3 : word (t % 1099511627776) (x / 2 % 1048576) (x % 2) % 2 = x % 2 := by rw [word_mark]; omega
  have c1 : word (x / 2097152 % 1099511627776) (x / 2 % 1048576) (1 - x % 2) / 2 % 1048576 = x / 2 % 1048576 := by rw [word_index]; omega
  have c3 : word (x / 2097152 % 1099511627776) (x / 2 % 1048576) (1 - x % 2) % 2 = 1 - x % 2 := by rw [word_mark]; omega
  have c4 : (1 - x % 2 != x % 2) = true := by simp; omega
  generalize word (x / 2097152 % 1099511627776) (i % 1048576) (x % 2) = A at *
  generalize word (t % 1099511627776) (x / 2 % 1048576) (x % 2) = B at *
  generalize word (x / 2097152 % 1099511627776) (x / 2 % 1048576) (1 - x % 2) = C at *
  cases hr : rightB x with
  | false =>
    go_enter Proofs.Try.func8, Proofs.Try.ntmps8
    go_wp2_with (first | (go_at_call 36; refine (shown1_ _).calls.mono ?_; rintro e w0 ⟨_, rfl, hb0, rfl⟩) | (go_at_call 37; refine (of_ _ _ _ _).calls.mono ?_; rintro e w1 ⟨_, rfl, hb1, rfl⟩; (first | rw [o1] | rw [o2] | rw [o3])) | (go_at_call 38; refine (refOf_ _ _ _ _).calls.mono ?_; rintro e w1 ⟨_, rfl, hb1, rfl⟩; (first | rw [o1] | rw [o2] | rw [o3])) | (go_at_call 47; refine (next_ _ _ _ _).calls.mono ?_; rintro e w2 ⟨_, rfl, hb2, rfl⟩) | (go_at_call 48; refine (refNext_ _ _ _ _).calls.mono ?_; rintro e w2 ⟨_, rfl, hb2, rfl⟩) | (go_at_call 41; refine (index_ _ _).calls.mono ?_; rintro e w3 ⟨_, rfl, hb3, rfl⟩) | (go_at_call 42; refine (refIndex_ _ _).calls.mono ?_; rintro e w3 ⟨_, rfl, hb3, rfl⟩) | (go_at_call 43; refine (mark_ _ _).calls.mono ?_; rintro e w4 ⟨_, rfl, hb4, rfl⟩) | (go_at_call 44; refine (refMark_ _ _).calls.mono ?_; rintro e w4 ⟨_, rfl, hb4, rfl⟩) | (go_at_call 45; refine (tag_ _ _).calls.mono ?_; rintro e w5 ⟨_, rfl, hb5, rfl⟩) | (go_at_call 46; refine (refTag_ _ _).calls.mono ?_; rintro e w5 ⟨_, rfl, hb5, rfl⟩) | (go_at_call 39; refine (right_ _ _).calls.mono ?_; rintro e w6 ⟨_, rfl, hb6, rfl⟩) | (go_at_call 40; refine (refRight_ _ _).calls.mono ?_; rintro e w6 ⟨_, rfl, hb6, rfl⟩))
    go_ret
    exact ⟨_, rfl, by repeat (first | assumption | exact Ext.refl _ | refine Ext.trans ?_ (Ext.alloc _ _) | refine Ext.trans ?_ (by assumption)), rfl⟩
  | true =>
    go_enter Proofs.Try.func8, Proofs.Try.ntmps8
    go_wp2_with (first | (go_at_call 36; refine (shown1_ _).calls.mono ?_; rintro e w0 ⟨_, rfl, hb0, rfl⟩) | (go_at_call 37; refine (of_ _ _ _ _).calls.mono ?_; rintro e w1 ⟨_, rfl, hb1, rfl⟩; (first | rw [o1] | rw [o2] | rw [o3])) | (go_at_call 38; refine (refOf_ _ _ _ _).calls.mono ?_; rintro e w1 ⟨_, rfl, hb1, rfl⟩; (first | rw [o1] | rw [o2] | rw [o3])) | (go_at_call 47; refine (next_ _ _ _ _).calls.mono ?_; rintro e w2 ⟨_, rfl, hb2, rfl⟩) | (go_at_call 48; refine (refNext_ _ _ _ _).calls.mono ?_; rintro e w2 ⟨_, rfl, hb2, rfl⟩) | (go_at_call 41; refine (index_ _ _).calls.mono ?_; rintro e w3 ⟨_, rfl, hb3, rfl⟩) | (go_at_call 42; refine (refIndex_ _ _).calls.mono ?_; rintro e w3 ⟨_, rfl, hb3, rfl⟩) | (go_at_call 43; refine (mark_ _ _).calls.mono ?_; rintro e w4 ⟨_, rfl, hb4, rfl⟩) | (go_at_call 44; refine (refMark_ _ _).calls.mono ?_; rintro e w4 ⟨_, rfl, hb4, rfl⟩) | (go_at_call 45; refine (tag_ _ _).calls.mono ?_; rintro e w5 ⟨_, rfl, hb5, rfl⟩) | (go_at_call 46; refine (refTag_ _ _).calls.mono ?_; rintro e w5 ⟨_, rfl, hb5, rfl⟩) | (go_at_call 39; refine (right_ _ _).calls.mono ?_; rintro e w6 ⟨_, rfl, hb6, rfl⟩) | (go_at_call 40; refine (refRight_ _ _).calls.mono ?_; rintro e w6 ⟨_, rfl, hb6, rfl⟩))
    go_ret
    exact ⟨_, rfl, by repeat (first | assumption | exact Ext.refl _ | refine Ext.trans ?_ (Ext.alloc _ _) | refine Ext.trans ?_ (by assumption)), rfl⟩

end Go.Proofs.Ytcfbdfgondmkoaa
