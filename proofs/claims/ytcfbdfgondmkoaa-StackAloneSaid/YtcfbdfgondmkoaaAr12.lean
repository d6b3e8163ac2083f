/- Arenas: a word is stored; a word is swapped. -/
import Derived.Test.YtcfbdfgondmkoaaAr11
namespace Go.Proofs.Ytcfbdfgondmkoaa
open Go Go.RowKit
set_option linter.unusedSimpArgs false
set_option linter.unusedVariables false
set_option linter.unnecessarySimpa false

/-- four boxes for an arena's call -/
theorem Box.three' (w : World) (cs cs' cs'' : Array Value) (t t' t'' : TypeId) : Box (((w.alloc (.cells cs t (0, 0))).alloc (.cells cs' t' (0, 0))).alloc (.cells cs'' t'' (0, 0))) (w.heap.size + 1 + 1) cs'' t'' := Box.three _ _ _ _ _ _ _
theorem Box.four' (w : World) (cs cs' cs'' c4 : Array Value) (t t' t'' t4 : TypeId) : Box ((((w.alloc (.cells cs t (0, 0))).alloc (.cells cs' t' (0, 0))).alloc (.cells cs'' t'' (0, 0))).alloc (.cells c4 t4 (0, 0))) (w.heap.size + 1 + 1 + 1) c4 t4 := Box.four _ _ _ _ _ _ _ _ _
set_option maxRecDepth 100000 in
theorem memStore_ (N : Nat → Prop) (va : Value) (m : Arena) (x v : Int) (w : World) (h : IsMem N w va m) (hf : Fits m) (hN : ∀ b, N b → b < w.heap.size) (hx0 : -9223372036854775808 ≤ x) (hx1 : x ≤ 9223372036854775807) :
    Gives Proofs.Try.prog 68 #[va, .int .i64 x, .int .i64 v] w (fun r w' => IsMem N w' r (storeD m x v)) := by
  have kt := fun (w' : World) (e : Ext w w') (b4 b5 : Nat) => touchStore_ _ va m x v b4 b5 w' (h.at e) hf (Bx.lt hN e) hx0 hx1
  obtain ⟨aw, cw, ag, cg, rfl, hw, hg⟩ := h.opened
  go_enter Proofs.Try.func68, Proofs.Try.ntmps68
  go_wp2_with (fail)
  go_at_call 123
  refine (kt _ (by with_reducible (repeat (first | assumption | exact Ext.refl _ | refine Ext.alloc' ?_ _ | refine Ext.store0 ?_ _ _ | refine Ext.storek ?_ _ _ _ | refine Ext.stores0 ?_ ?_ _ _ | refine Ext.storesk ?_ ?_ _ _ _ | refine Ext.store ?_ _ _ (by first | omega | (dsimp only; omega)) | refine Ext.drewN' ?_ _ | refine Ext.drew' ?_ | refine Ext.trans ?_ (by assumption)))) _ _ ((Box.three' _ _ _ _ _ _ _).alloc _ |>.cell rfl) (((Box.two _ _ _ _ _).alloc _).alloc _ |>.cell rfl)).calls.mono ?_
  rintro e w1 ⟨u, rfl, hb1, hu⟩
  have B6 : Box w1 (w.heap.size + 1 + 1 + 1) #[.slice none 0 0, .slice none 0 0, .bool false] 50 := (Box.four' _ _ _ _ _ _ _ _ _).ext hb1
  have hs1 : w.heap.size + 4 ≤ w1.heap.size := by have := hb1.size; simp at this; omega
  have hz : w.heap.size + 1 + 1 + 1 < w1.heap.size := by omega
  have hsz : ((((w.alloc (Obj.cells #[.slice aw m.W.length cw, .slice ag m.G.length cg, .bool m.bad] 50)).alloc (Obj.cells #[.int .i64 x] 3)).alloc (Obj.cells #[.int .i64 v] 3)).alloc (Obj.cells #[.slice none 0 0, .slice none 0 0, .bool false] 50)).heap.size = w.heap.size + 4 := by simp
  rw [hsz] at hu
  have hz' : Bx N w.heap.size (w.heap.size + 4) (w.heap.size + 1 + 1 + 1) := Bx.mem (by omega) (by omega)
  obtain ⟨xw, yw, xg, yg, rfl, hxw, hxg⟩ := hu.opened
  obtain ⟨c60, c61, c62, d60, d61, d62⟩ := cells3 B6
  go_wp2
  exact bodyPost_ret (ret_cell (((B6.setCell _).setCell _).setCell _) Proofs.Try.results68 rfl Proofs.Try.underlying50 rfl (by kernel_rfl)) rfl ⟨_, rfl, (by with_reducible (repeat (first | assumption | exact Ext.refl _ | refine Ext.alloc' ?_ _ | refine Ext.store0 ?_ _ _ | refine Ext.storek ?_ _ _ _ | refine Ext.stores0 ?_ ?_ _ _ | refine Ext.storesk ?_ ?_ _ _ _ | refine Ext.store ?_ _ _ (by first | omega | (dsimp only; omega)) | refine Ext.drewN' ?_ _ | refine Ext.drew' ?_ | refine Ext.trans ?_ (by assumption)))), IsMem.back ⟨_, _, rfl, hxw.keep (by with_reducible (repeat (first | assumption | exact Keep.refl _ _ | refine Keep.alloc ?_ _ | refine Keep.s ?_ (by first | assumption | exact Bx.mem (by omega) (by omega)) | refine Keep.n ?_ (by omega) | refine Keep.ext ?_ (by assumption) | refine Keep.drew ?_))), hxg.keep (by with_reducible (repeat (first | assumption | exact Keep.refl _ _ | refine Keep.alloc ?_ _ | refine Keep.s ?_ (by first | assumption | exact Bx.mem (by omega) (by omega)) | refine Keep.n ?_ (by omega) | refine Keep.ext ?_ (by assumption) | refine Keep.drew ?_)))⟩⟩
end Go.Proofs.Ytcfbdfgondmkoaa
