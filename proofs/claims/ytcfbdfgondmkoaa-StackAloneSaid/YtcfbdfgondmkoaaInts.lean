/- Slices of integers as lists, and arenas, in a world that grows. -/
import Derived.Test.YtcfbdfgondmkoaaPack2
import Derived.Laws.MakeOwn
import Derived.Laws.IdiomCopy
import Derived.ArgAppend
import Derived.BigQuiet
namespace Go.Proofs.Ytcfbdfgondmkoaa
open Go Go.RowKit
set_option linter.unusedSimpArgs false
set_option linter.unusedVariables false

theorem Ext.drewN (w : World) : ∀ n, Ext w (w.drewN n)
  | 0 => Ext.refl _
  | n + 1 => (Ext.drewN w n).trans (Ext.drew _)
/-- all blocks of w but those of N are in w' as they were -/
def Keep (N : Nat → Prop) (w w' : World) : Prop := w.heap.size ≤ w'.heap.size ∧ ∀ b, b < w.heap.size → ¬ N b → w'.heap[b]? = w.heap[b]?
theorem Keep.refl (N : Nat → Prop) (w : World) : Keep N w w := ⟨Nat.le_refl _, fun _ _ _ => rfl⟩
theorem Keep.trans {N : Nat → Prop} {a b c : World} (h : Keep N a b) (k : Keep N b c) : Keep N a c := ⟨Nat.le_trans h.1 k.1, fun x hx hn => (k.2 x (Nat.lt_of_lt_of_le hx h.1) hn).trans (h.2 x hx hn)⟩
theorem Ext.keep {N : Nat → Prop} {w w' : World} (h : Ext w w') : Keep N w w' := ⟨h.size, fun b hb _ => h.block b hb⟩
theorem Keep.ext {N : Nat → Prop} {a b c : World} (h : Keep N a b) (k : Ext b c) : Keep N a c := h.trans k.keep
theorem Keep.alloc {N : Nat → Prop} {a b : World} (h : Keep N a b) (o : Obj) : Keep N a (b.alloc o) := h.ext (Ext.alloc _ _)
theorem Keep.drew {N : Nat → Prop} {a b : World} (h : Keep N a b) : Keep N a b.drew := h.ext (Ext.drew _)
theorem Keep.setCell {N : Nat → Prop} {a b : World} (h : Keep N a b) (p : Addr) (v : Value) (hp : a.heap.size ≤ p.block ∨ N p.block) : Keep N a (b.setCell p v) :=
  ⟨by simpa [World.setCell] using h.1, fun x hx hn => by
    have hne : p.block ≠ x := fun e => by
      subst e
      rcases hp with hp | hp
      · omega
      · exact hn hp
    rw [← h.2 x hx hn]
    simp [World.setCell, Array.getElem?_modify, hne]⟩
theorem Keep.put {N : Nat → Prop} {a b : World} (h : Keep N a b) (x : Nat) (o : Obj) (hp : a.heap.size ≤ x ∨ N x) : Keep N a (put b x o) :=
  ⟨by simpa [Ytcfbdfgondmkoaa.put] using h.1, fun k hk hn => by
    have hne : x ≠ k := fun e => by
      subst e
      rcases hp with hp | hp
      · omega
      · exact hn hp
    rw [put_other hne]
    exact h.2 k hk hn⟩
theorem Keep.less {N M : Nat → Prop} {a b : World} (h : Keep N a b) (hm : ∀ x, x < a.heap.size → N x → M x) : Keep M a b := ⟨h.1, fun x hx hn => h.2 x hx fun k => hn (hm x hx k)⟩
theorem Keep.cell {N : Nat → Prop} {w w' : World} (h : Keep N w w') {a : Addr} (hb : a.block < w.heap.size) (hn : ¬ N a.block) : w'.cell? a = w.cell? a := World.cell?_of_block (h.2 _ hb hn)

/-- element i -/
def gi (l : List Int) (i : Nat) : Int := l.getD i 0
theorem gi_eq (l : List Int) (i : Nat) (h : i < l.length) : l[i] = gi l i := by simp [gi, List.getD_eq_getElem?_getD, h]
theorem gi_get {l : List Int} {i : Nat} (h : i < l.length) : l[i]? = some (gi l i) := by rw [← gi_eq l i h]; exact List.getElem?_eq_getElem h
theorem gi_ext {a b : List Int} (hl : a.length = b.length) (h : ∀ i, i < a.length → gi a i = gi b i) : a = b := by
  apply List.ext_getElem hl
  intro i h1 h2
  rw [gi_eq, gi_eq]
  exact h i h1
theorem gi_ne {a b : List Int} {i : Nat} (h : gi a i ≠ gi b i) : (a == b) = false := by
  simp; intro e; exact h (by rw [e])
theorem gi_set (l : List Int) (i j : Nat) (v : Int) (h : i < l.length) : gi (l.set i v) j = if i = j then v else gi l j := by
  unfold gi
  rw [List.getD_eq_getElem?_getD, List.getD_eq_getElem?_getD, List.getElem?_set]
  split
  · subst_vars; simp [h]
  · rfl
theorem wrap_nat {n : Nat} (h : n ≤ 9223372036854775807) : IntKind.i64.wrap (n : Int) = n := by rw [IntKind.wrap_i64]; omega
/-- this slice shows the numbers l; its row lies in no block of N -/
def IsInts (N : Nat → Prop) (w : World) (v : Value) (l : List Int) : Prop :=
  ∃ a cap, v = .slice a l.length cap ∧ l.length ≤ cap ∧ cap ≤ 9223372036854775807 ∧ (a = none → cap = 0) ∧ ∀ i, i < l.length → ∃ b off, a = some ⟨b, off, none⟩ ∧ b < w.heap.size ∧ ¬ N b ∧ w.cell? ⟨b, off + i, none⟩ = some (.int .i64 (gi l i))
theorem IsInts.keep {N : Nat → Prop} {w w' : World} {v : Value} {l : List Int} (h : IsInts N w v l) (k : Keep N w w') : IsInts N w' v l := by
  obtain ⟨a, cap, rfl, h1, h2, h3, h4⟩ := h
  exact ⟨a, cap, rfl, h1, h2, h3, fun i hi => by
    obtain ⟨b, off, e, hb, hn, hc⟩ := h4 i hi
    exact ⟨b, off, e, Nat.lt_of_lt_of_le hb k.1, hn, (k.cell (a := ⟨b, off + i, none⟩) hb hn).trans hc⟩⟩
theorem IsInts.ext {N : Nat → Prop} {w w' : World} {v : Value} {l : List Int} (h : IsInts N w v l) (k : Ext w w') : IsInts N w' v l := h.keep k.keep
theorem IsInts.less {N M : Nat → Prop} {w : World} {v : Value} {l : List Int} (h : IsInts N w v l) (hm : ∀ x, x < w.heap.size → M x → N x) : IsInts M w v l := by
  obtain ⟨a, cap, rfl, h1, h2, h3, h4⟩ := h
  exact ⟨a, cap, rfl, h1, h2, h3, fun i hi => by
    obtain ⟨b, off, e, hb, hn, hc⟩ := h4 i hi
    exact ⟨b, off, e, hb, fun k => hn (hm b hb k), hc⟩⟩
/-- as the walk wants it: address, length, cells -/
theorem IsInts.opened {N : Nat → Prop} {w : World} {v : Value} {l : List Int} (h : IsInts N w v l) : ∃ a cap, v = .slice a l.length cap ∧ l.length ≤ cap ∧ l.length ≤ 9223372036854775807 ∧ ∀ i, i < l.length → ∃ b off, a = some ⟨b, off, none⟩ ∧ b < w.heap.size ∧ ¬ N b ∧ w.cell? ⟨b, off + i, none⟩ = some (.int .i64 (gi l i)) := by
  obtain ⟨a, cap, rfl, h1, h2, h3, h4⟩ := h
  exact ⟨a, cap, rfl, h1, by omega, h4⟩

end Go.Proofs.Ytcfbdfgondmkoaa
