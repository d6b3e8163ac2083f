/- Blocks that a caller keeps for itself. -/
import Derived.Test.YtcfbdfgondmkoaaAr7
import Derived.StillTailTactics
namespace Go.Proofs.Ytcfbdfgondmkoaa
open Go Go.RowKit
set_option linter.unusedSimpArgs false
set_option linter.unusedVariables false

/-- N, and the blocks from lo to hi -/
def Bx (N : Nat → Prop) (lo hi : Nat) : Nat → Prop := fun b => N b ∨ lo ≤ b ∧ b < hi
theorem Bx.lt {N : Nat → Prop} {w w' : World} (hN : ∀ b, N b → b < w.heap.size) (e : Ext w w') : ∀ b, Bx N w.heap.size w'.heap.size b → b < w'.heap.size :=
  fun b hb => hb.elim (fun k => Nat.lt_of_lt_of_le (hN b k) e.size) (fun k => k.2)
theorem Bx.new {N : Nat → Prop} {lo hi x : Nat} (h : x < lo) (hx : Bx N lo hi x) : N x := hx.elim id (fun k => absurd k.1 (by omega))
theorem Bx.mem {N : Nat → Prop} {lo hi x : Nat} (h : lo ≤ x) (h' : x < hi) : Bx N lo hi x := .inr ⟨h, h'⟩
theorem IsInts.at {N : Nat → Prop} {w w' : World} {v : Value} {l : List Int} (h : IsInts N w v l) (e : Ext w w') : IsInts (Bx N w.heap.size w'.heap.size) w' v l := (h.less (M := Bx N w.heap.size w'.heap.size) fun _ hy hn => Bx.new hy hn).ext e
theorem IsMem.at {N : Nat → Prop} {w w' : World} {v : Value} {m : Arena} (h : IsMem N w v m) (e : Ext w w') : IsMem (Bx N w.heap.size w'.heap.size) w' v m := (h.less (M := Bx N w.heap.size w'.heap.size) fun _ hy hn => Bx.new hy hn).ext e
theorem IsMem.back {N : Nat → Prop} {lo hi : Nat} {w : World} {v : Value} {m : Arena} (h : IsMem (Bx N lo hi) w v m) : IsMem N w v m := h.less fun _ _ hn => .inl hn
theorem IsInts.back {N : Nat → Prop} {lo hi : Nat} {w : World} {v : Value} {l : List Int} (h : IsInts (Bx N lo hi) w v l) : IsInts N w v l := h.less fun _ _ hn => .inl hn
/-- the two rows, laid open -/
theorem IsMem.opened {N : Nat → Prop} {w : World} {v : Value} {m : Arena} (h : IsMem N w v m) : ∃ aw cw ag cg, v = .agg #[.slice aw m.W.length cw, .slice ag m.G.length cg, .bool m.bad] ∧ IsInts N w (.slice aw m.W.length cw) m.W ∧ IsInts N w (.slice ag m.G.length cg) m.G := by
  obtain ⟨vw, vg, rfl, hw, hg⟩ := h
  obtain ⟨aw, cw, rfl, _⟩ := hw.opened
  obtain ⟨ag, cg, rfl, _⟩ := hg.opened
  exact ⟨aw, cw, ag, cg, rfl, hw, hg⟩
theorem IsMem.mk {N : Nat → Prop} {w : World} {aw ag : Value} {m : Arena} {b : Bool} (hb : b = m.bad) (hw : IsInts N w aw m.W) (hg : IsInts N w ag m.G) : IsMem N w (.agg #[aw, ag, .bool b]) m := by
  subst hb; exact ⟨_, _, rfl, hw, hg⟩
/-- stores into blocks that are kept -/
theorem Keep.s {N : Nat → Prop} {a b : World} (h : Keep N a b) {x o : Nat} {v : Value} (hx : N x) : Keep N a (b.setCell ⟨x, o, none⟩ v) := h.setCell _ _ (.inr hx)
theorem Keep.n {N : Nat → Prop} {a b : World} (h : Keep N a b) {x o : Nat} {v : Value} (hx : a.heap.size ≤ x) : Keep N a (b.setCell ⟨x, o, none⟩ v) := h.setCell _ _ (.inl hx)
/-- two boxes, one behind the other -/
theorem Box.two (w : World) (cs cs' : Array Value) (t t' : TypeId) : Box ((w.alloc (.cells cs t (0, 0))).alloc (.cells cs' t' (0, 0))) (w.heap.size + 1) cs' t' := by
  have := Box.new (w.alloc (.cells cs t (0, 0))) cs' t'
  simpa using this
theorem Box.three (w : World) (cs cs' cs'' : Array Value) (t t' t'' : TypeId) : Box (((w.alloc (.cells cs t (0, 0))).alloc (.cells cs' t' (0, 0))).alloc (.cells cs'' t'' (0, 0))) (w.heap.size + 2) cs'' t'' := by
  have := Box.new ((w.alloc (.cells cs t (0, 0))).alloc (.cells cs' t' (0, 0))) cs'' t''
  simpa using this
theorem Box.four (w : World) (cs cs' cs'' c4 : Array Value) (t t' t'' t4 : TypeId) : Box ((((w.alloc (.cells cs t (0, 0))).alloc (.cells cs' t' (0, 0))).alloc (.cells cs'' t'' (0, 0))).alloc (.cells c4 t4 (0, 0))) (w.heap.size + 3) c4 t4 := by
  have := Box.new (((w.alloc (.cells cs t (0, 0))).alloc (.cells cs' t' (0, 0))).alloc (.cells cs'' t'' (0, 0))) c4 t4
  simpa using this
end Go.Proofs.Ytcfbdfgondmkoaa
