/- Where a node's link stands, of any number; pairs of an arena and a value. -/
import Derived.Test.YtcfbdfgondmkoaaHzA
namespace Go.Proofs.Ytcfbdfgondmkoaa
open Go Go.RowKit
set_option linter.unusedSimpArgs false
set_option linter.unusedVariables false
set_option linter.unnecessarySimpa false

theorem linkAt_lo (p : Int) : -9223372036854775808 ≤ linkAt p ∧ linkAt p ≤ 9223372036854775807 := by unfold linkAt wrap64; omega
def isTupN (N : Nat → Prop) (m : Arena) (x : Value) : GP := fun v w => ∃ u, v = .tuple #[u, x] ∧ IsMem N w u m
theorem stable_isTupN (N : Nat → Prop) (m : Arena) (x : Value) : Stable (isTupN N m x) := fun _ _ _ ⟨u, h1, h2⟩ hx => ⟨u, h1, IsMem.keep h2 hx.keep⟩
theorem atw_ (p : Int) (w : World) : Gives Proofs.Try.prog 57 #[.int .i64 p, .int .i64 0] w (eqv (.int .i64 (linkAt p))) := by
  go_enter Proofs.Try.func57, Proofs.Try.ntmps57
  go_wp2
  go_ret
  exact ⟨_, rfl, (by with_reducible (repeat (first | assumption | exact Ext.refl _ | refine Ext.alloc' ?_ _ | refine Ext.store0 ?_ _ _ | refine Ext.storek ?_ _ _ _ | refine Ext.stores0 ?_ ?_ _ _ | refine Ext.storesk ?_ ?_ _ _ _ | refine Ext.drewN' ?_ _ | refine Ext.drew' ?_ | refine Ext.trans ?_ (by assumption)))), by show Value.int .i64 (wrap64 (wrap64 (128 + wrap64 (4 * wrap64 (p - 1))))) = Value.int .i64 (linkAt p); congr 1; unfold linkAt wrap64; omega⟩
theorem refAtw_ (p : Int) (w : World) : Gives Proofs.Try.prog 58 #[.int .i64 p, .int .i64 0] w (eqv (.int .i64 (linkAt p))) := by
  go_enter Proofs.Try.func58, Proofs.Try.ntmps58
  go_wp2
  go_ret
  exact ⟨_, rfl, (by with_reducible (repeat (first | assumption | exact Ext.refl _ | refine Ext.alloc' ?_ _ | refine Ext.store0 ?_ _ _ | refine Ext.storek ?_ _ _ _ | refine Ext.stores0 ?_ ?_ _ _ | refine Ext.storesk ?_ ?_ _ _ _ | refine Ext.drewN' ?_ _ | refine Ext.drew' ?_ | refine Ext.trans ?_ (by assumption)))), by show Value.int .i64 (wrap64 (wrap64 (128 + wrap64 (4 * wrap64 (p - 1))))) = Value.int .i64 (linkAt p); congr 1; unfold linkAt wrap64; omega⟩
end Go.Proofs.Ytcfbdfgondmkoaa
