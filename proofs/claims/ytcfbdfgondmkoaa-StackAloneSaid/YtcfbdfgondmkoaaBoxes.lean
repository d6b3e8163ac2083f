/- Boxes seen cell by cell. -/
import Derived.Test.YtcfbdfgondmkoaaAr5
namespace Go.Proofs.Ytcfbdfgondmkoaa
open Go Go.RowKit
set_option linter.unusedSimpArgs false
set_option linter.unusedVariables false
theorem cells1 {w : World} {b : Nat} {c0 : Value} {t : TypeId} (h : Box w b #[c0] t) : w.cell? ⟨b, 0, none⟩ = some c0 ∧ w.frozen? ⟨b, 0, none⟩ = false := ⟨h.cell rfl, h.frozen⟩
theorem cells3 {w : World} {b : Nat} {c0 c1 c2 : Value} {t : TypeId} (h : Box w b #[c0, c1, c2] t) :
    w.cell? ⟨b, 0, none⟩ = some c0 ∧ w.cell? ⟨b, 1, none⟩ = some c1 ∧ w.cell? ⟨b, 2, none⟩ = some c2 ∧ w.frozen? ⟨b, 0, none⟩ = false ∧ w.frozen? ⟨b, 1, none⟩ = false ∧ w.frozen? ⟨b, 2, none⟩ = false :=
  ⟨h.cell rfl, h.cell rfl, h.cell rfl, h.frozen, h.frozen, h.frozen⟩
theorem cells5 {w : World} {b : Nat} {c0 c1 c2 c3 c4 : Value} {t : TypeId} (h : Box w b #[c0, c1, c2, c3, c4] t) :
    w.cell? ⟨b, 0, none⟩ = some c0 ∧ w.cell? ⟨b, 1, none⟩ = some c1 ∧ w.cell? ⟨b, 2, none⟩ = some c2 ∧ w.cell? ⟨b, 3, none⟩ = some c3 ∧ w.cell? ⟨b, 4, none⟩ = some c4 ∧ w.frozen? ⟨b, 0, none⟩ = false ∧ w.frozen? ⟨b, 1, none⟩ = false ∧ w.frozen? ⟨b, 2, none⟩ = false ∧ w.frozen? ⟨b, 3, none⟩ = false ∧ w.frozen? ⟨b, 4, none⟩ = false :=
  ⟨h.cell rfl, h.cell rfl, h.cell rfl, h.cell rfl, h.cell rfl, h.frozen, h.frozen, h.frozen, h.frozen, h.frozen⟩
theorem Box.setCell {w : World} {b off : Nat} {cs : Array Value} {t : TypeId} (h : Box w b cs t) (v : Value) : Box (w.setCell ⟨b, off, none⟩ v) b (cs.setIfInBounds off v) t := by
  rw [setCell_box h]; exact h.put
theorem Box.setOther {w : World} {b k off : Nat} {cs : Array Value} {t : TypeId} (h : Box w k cs t) (hne : b ≠ k) (v : Value) : Box (w.setCell ⟨b, off, none⟩ v) k cs t := by
  show (w.setCell ⟨b, off, none⟩ v).heap[k]? = _
  rw [show (w.setCell ⟨b, off, none⟩ v).heap[k]? = w.heap[k]? by simp [World.setCell, Array.getElem?_modify, hne]]
  exact h
theorem Ext.store {w w' : World} (h : Ext w w') (p : Addr) (v : Value) (hp : w.heap.size ≤ p.block) : Ext w (w'.setCell p v) := Below.setCell h hp v
theorem Ext.alloc' {w w' : World} (h : Ext w w') (o : Obj) : Ext w (w'.alloc o) := h.trans (Ext.alloc _ _)
theorem Ext.drew' {w w' : World} (h : Ext w w') : Ext w w'.drew := h.trans (Ext.drew _)
theorem Ext.drewN' {w w' : World} (h : Ext w w') (n : Nat) : Ext w (w'.drewN n) := h.trans (Ext.drewN _ _)
theorem Ext.store0 {w w' : World} (h : Ext w w') (o : Nat) (v : Value) : Ext w (w'.setCell ⟨w.heap.size, o, none⟩ v) := h.store _ _ (Nat.le_refl _)
theorem Ext.storek {w w' : World} (h : Ext w w') (k o : Nat) (v : Value) : Ext w (w'.setCell ⟨w.heap.size + k, o, none⟩ v) := h.store _ _ (Nat.le_add_right _ _)
theorem Ext.stores0 {w w' w1 : World} (h : Ext w w') (k : Ext w w1) (o : Nat) (v : Value) : Ext w (w'.setCell ⟨w1.heap.size, o, none⟩ v) := h.store _ _ k.size
theorem Ext.storesk {w w' w1 : World} (h : Ext w w') (g : Ext w w1) (k o : Nat) (v : Value) : Ext w (w'.setCell ⟨w1.heap.size + k, o, none⟩ v) := h.store _ _ (Nat.le_trans g.size (Nat.le_add_right _ _))
section
variable {P : Program} {fn : Func} {w : World}
theorem run_loadVar_box {t : TypeId} {d : TypeDesc} {T : TypeId} {b : Nat} {cs : Array Value} (hB : Box w b cs T) (ht : P.underlying t = some d) (hd : (match d with | .struct _ | .array _ _ => true | _ => false) = true)
    (hz : (P.info? t).map (·.size) = some cs.size) : (loadVar t ⟨b, 0, none⟩).run P w = .ok (.agg cs) w := by
  have hagg : (isAgg t).run P w = .ok true w := by
    unfold isAgg
    rw [Sem.run_bind, run_underlying ht w]
    cases d <;> simp_all
  have hl : (loadCells ⟨b, 0, none⟩ cs.size).run P w = .ok cs w := by
    have := run_loadCells_list (P := P) w ⟨b, 0, none⟩ cs.toList (fun j v hv => by
      have hadd : (⟨b, 0, none⟩ : Addr).add j = ⟨b, 0 + j, none⟩ := by unfold Addr.add; split <;> simp_all
      rw [hadd, Nat.zero_add]; exact hB.cell (by rw [nth_eq]; exact hv))
    simpa using this
  cases hi : P.info? t with
  | none => rw [hi] at hz; cases hz
  | some ti =>
    rw [hi] at hz
    have hs : ti.size = cs.size := by simpa using hz
    simp [loadVar, hagg, sizeOf, typeInfo, hi, hs, hl]
theorem ret_cell {p : Tmp} {t : TypeId} {d : TypeDesc} {T : TypeId} {b : Nat} {cs : Array Value} {tmps : Array Value} (hB : Box w b cs T) (hr : fn.results = #[.cell p t]) (hp : tmps.getD p undef = .pointer (some ⟨b, 0, none⟩)) (ht : P.underlying t = some d) (hd : (match d with | .struct _ | .array _ _ => true | _ => false) = true)
    (hz : (P.info? t).map (·.size) = some cs.size) : (results fn tmps).run P w = .ok (.agg cs) w := by
  have := run_loadVar_box (P := P) hB ht hd hz
  rw [Array.getD_eq_getD_getElem?] at hp
  simp only [results, hr]
  simp [Sem.run_bind, Result.andThen, hp, asAddr, this]
theorem ret_cell_tmp {p u : Tmp} {t : TypeId} {d : TypeDesc} {T : TypeId} {b : Nat} {cs : Array Value} {tmps : Array Value} (hB : Box w b cs T) (hr : fn.results = #[.cell p t, .tmp u]) (hp : tmps.getD p undef = .pointer (some ⟨b, 0, none⟩)) (ht : P.underlying t = some d) (hd : (match d with | .struct _ | .array _ _ => true | _ => false) = true)
    (hz : (P.info? t).map (·.size) = some cs.size) : (results fn tmps).run P w = .ok (.tuple #[.agg cs, tmps.getD u undef]) w := by
  have := run_loadVar_box (P := P) hB ht hd hz
  rw [Array.getD_eq_getD_getElem?] at hp
  simp only [results, hr]
  simp [Sem.run_bind, Result.andThen, hp, asAddr, this]
end
theorem run_eqIn_nofunc {P : Program} (d : Nat) (w : World) {t : TypeId} {a b : Array TypeId} {c : Bool} (h : P.underlying t = some (.func a b c)) : (Op.equalIn (d + 1) t .nilFunc .nilFunc).run P w = .ok true w := by
  simp [Op.equalIn, run_underlying h]
theorem run_eqIn_isfunc {P : Program} (d : Nat) (w : World) {t : TypeId} {a b : Array TypeId} {c : Bool} (h : P.underlying t = some (.func a b c)) (f : Fn) (x y : Array Value) : (Op.equalIn (d + 1) t (.func f x y) .nilFunc).run P w = .ok false w := by
  simp [Op.equalIn, run_underlying h]
@[go_sem] theorem run_nofunc (w : World) : (binOp .neq 155 .nilFunc .nilFunc).run Proofs.Try.prog w = .ok (.bool false) w := by
  have := run_eqIn_nofunc 9999 w Proofs.Try.underlying155
  simp only [binOp]
  simp [Op.equal, Op.maxDepth, this]
@[go_sem] theorem run_isfunc (w : World) (f : Fn) (x y : Array Value) : (binOp .neq 155 (.func f x y) .nilFunc).run Proofs.Try.prog w = .ok (.bool true) w := by
  have := run_eqIn_isfunc 9999 w Proofs.Try.underlying155 f x y
  simp only [binOp]
  simp [Op.equal, Op.maxDepth, this]
end Go.Proofs.Ytcfbdfgondmkoaa
