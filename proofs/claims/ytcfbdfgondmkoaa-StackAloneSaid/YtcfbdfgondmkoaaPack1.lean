/- Layer pack: its exported functions, and the document's. -/
import Derived.Test.YtcfbdfgondmkoaaPack0
namespace Go.Proofs.Ytcfbdfgondmkoaa
open Go Go.RowKit

theorem Hands.eq {f : FuncId} {args : Array Value} {c c' : Value} (h : Hands f args c) (e : c = c') : Hands f args c' := e ▸ h

theorem cut0' (x : Int) : Hands 118 #[.int .i64 x, .int .i64 0] (.int .i64 (x % 2)) := (cut0_ x).eq (by rw [and1]; congr 1; omega)
theorem cut1' (x : Int) : Hands 118 #[.int .i64 x, .int .i64 1] (.int .i64 (x / 2 % 1048576)) := (cut1_ x).eq (by rw [and20]; congr 1)
theorem cut2' (x : Int) : Hands 118 #[.int .i64 x, .int .i64 2] (.int .i64 (x / 2097152 % 1099511627776)) := (cut2_ x).eq (by rw [and40]; congr 1)

theorem index_ (x : Int) : Hands 41 #[.int .i64 x] (.int .i64 (x / 2 % 1048576)) := by
  intro w
  go_enter Proofs.Try.func41, Proofs.Try.ntmps41
  go_wp2_with (go_at_call 118; refine (cut1' _ _).calls.mono ?_; rintro e w' ⟨_, rfl, hb, rfl⟩)
  go_ret
  exact ⟨_, rfl, hb, rfl⟩
theorem mark_ (x : Int) : Hands 43 #[.int .i64 x] (.int .i64 (x % 2)) := by
  intro w
  go_enter Proofs.Try.func43, Proofs.Try.ntmps43
  go_wp2_with (go_at_call 118; refine (cut0' _ _).calls.mono ?_; rintro e w' ⟨_, rfl, hb, rfl⟩)
  go_ret
  exact ⟨_, rfl, hb, rfl⟩
theorem tag_ (x : Int) : Hands 45 #[.int .i64 x] (.int .i64 (x / 2097152 % 1099511627776)) := by
  intro w
  go_enter Proofs.Try.func45, Proofs.Try.ntmps45
  go_wp2_with (go_at_call 118; refine (cut2' _ _).calls.mono ?_; rintro e w' ⟨_, rfl, hb, rfl⟩)
  go_ret
  exact ⟨_, rfl, hb, rfl⟩
def rightB (x : Int) : Bool := x / 2305843009213693952 == 0
theorem right_ (x : Int) : Hands 39 #[.int .i64 x] (.bool (rightB x)) := by
  intro w
  go_enter Proofs.Try.func39, Proofs.Try.ntmps39
  go_wp2_with (go_at_call 117; refine (from3_ _).calls.mono ?_; rintro e w' ⟨_, rfl, hb, rfl⟩)
  go_ret
  exact ⟨_, rfl, hb, rfl⟩
def nextW (x i m : Int) : Int := word (x / 2097152 % 1099511627776 + 1) i m
theorem next_ (x i m : Int) : Hands 47 #[.int .i64 x, .int .i64 i, .int .i64 m] (.int .i64 (nextW x i m)) := by
  intro w
  go_enter Proofs.Try.func47, Proofs.Try.ntmps47
  go_wp2_with (go_at_call 45; refine (tag_ _ _).calls.mono ?_; rintro e w' ⟨_, rfl, hb, rfl⟩)
  go_wp2_with (go_at_call 116; refine (joined_ m i (x / 2097152 % 1099511627776 + 1) _ _ _ _ (by simp [go_sem]) (by simp [go_sem]) (by simp [go_sem])).calls.mono ?_; rintro e w'' ⟨_, rfl, hb2, rfl⟩)
  go_ret
  exact ⟨_, rfl, (hb.trans (Ext.alloc _ _)).trans hb2, rfl⟩
end Go.Proofs.Ytcfbdfgondmkoaa
