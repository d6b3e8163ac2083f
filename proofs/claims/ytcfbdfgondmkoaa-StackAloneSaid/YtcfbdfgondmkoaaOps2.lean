/- Boxes: memory that a call makes for a variable; loads and stores there; calls by their contracts. -/
import Derived.Test.YtcfbdfgondmkoaaOps
namespace Go.Proofs.Ytcfbdfgondmkoaa
open Go Go.RowKit

/-- What a call comes to: it returns a value of which g holds, and has made memory at most. -/
def Gives (P : Program) (f : FuncId) (args : Array Value) (w : World) (g : GP) : Prop := Calls P f args w fun e w' => ∃ v, e = .returned v ∧ Ext w w' ∧ g v w'
theorem Gives.calls {P : Program} {f : FuncId} {args : Array Value} {w : World} {g : GP} (h : Gives P f args w g) : Calls P f args w fun e w' => ∃ v, e = .returned v ∧ Ext w w' ∧ g v w' := h
theorem Gives.mono {P : Program} {f : FuncId} {args : Array Value} {w : World} {g g' : GP} (h : Gives P f args w g) (hg : ∀ v w', Ext w w' → g v w' → g' v w') : Gives P f args w g' :=
  Calls.mono h fun _ _ ⟨v, h1, h2, h3⟩ => ⟨v, h1, h2, hg _ _ h2 h3⟩

theorem stable_any : Stable anyG := fun _ _ _ h _ => h

/-- block b holds these cells -/
def Box (w : World) (b : Nat) (cs : Array Value) (t : TypeId) : Prop := w.heap[b]? = some (.cells cs t (0, 0))
theorem Box.lt {w : World} {b : Nat} {cs : Array Value} {t : TypeId} (h : Box w b cs t) : b < w.heap.size := (Array.getElem?_eq_some_iff.1 h).1
theorem Box.ext {w w' : World} {b : Nat} {cs : Array Value} {t : TypeId} (h : Box w b cs t) (k : Ext w w') : Box w' b cs t := (k.block b h.lt).trans h
theorem Box.since {X : List Nat} {w w' : World} {b : Nat} {cs : Array Value} {t : TypeId} (h : Box w b cs t) (k : Since X w w') (hx : X.contains b = false) : Box w' b cs t := (k.block b h.lt hx).trans h
theorem Box.cell {w : World} {b off : Nat} {cs : Array Value} {t : TypeId} {c : Value} (h : Box w b cs t) (hc : nth cs.toList off = some c) : w.cell? ⟨b, off, none⟩ = some c := by
  rw [cell_of_row w b off cs t (0, 0) h]; exact nth_arr hc
theorem Box.frozen {w : World} {b off : Nat} {cs : Array Value} {t : TypeId} (h : Box w b cs t) : w.frozen? ⟨b, off, none⟩ = false := frozen_of_row w b off cs t h
theorem Box.new (w : World) (cs : Array Value) (t : TypeId) : Box (w.alloc (.cells cs t (0, 0))) w.heap.size cs t := heap_alloc_new w _
theorem Box.alloc {w : World} {b : Nat} {cs : Array Value} {t : TypeId} (h : Box w b cs t) (o : Obj) : Box (w.alloc o) b cs t := (Below.heap_alloc w o b h.lt).trans h
theorem Box.drew {w : World} {b : Nat} {cs : Array Value} {t : TypeId} (h : Box w b cs t) : Box w.drew b cs t := h

/-- the world with another object in block b -/
def put (w : World) (b : Nat) (o : Obj) : World := { w with heap := w.heap.setIfInBounds b o }
theorem put_size (w : World) (b : Nat) (o : Obj) : (put w b o).heap.size = w.heap.size := by simp [put]
theorem put_other {w : World} {b k : Nat} {o : Obj} (h : b ≠ k) : (put w b o).heap[k]? = w.heap[k]? := by simp [put, Array.getElem?_setIfInBounds_ne h]
theorem put_same {w : World} {b : Nat} {o : Obj} (h : b < w.heap.size) : (put w b o).heap[b]? = some o := by simp [put, h]
theorem Box.put {w : World} {b : Nat} {cs cs' : Array Value} {t : TypeId} (h : Box w b cs t) : Box (put w b (.cells cs' t (0, 0))) b cs' t := put_same h.lt
theorem Box.put_other {w : World} {b k : Nat} {cs : Array Value} {t : TypeId} {o : Obj} (h : Box w k cs t) (hn : b ≠ k) : Box (Ytcfbdfgondmkoaa.put w b o) k cs t := (Ytcfbdfgondmkoaa.put_other hn).trans h
theorem Since.put {X : List Nat} {w w' : World} (h : Since X w w') {b : Nat} {o : Obj} (hb : w.heap.size ≤ b ∨ X.contains b = true) : Since X w (put w' b o) :=
  ⟨h.os, h.tape, h.output, by rw [put_size]; exact h.size, fun k hk hx => by
    rw [put_other (fun e => ?_)]
    · exact h.block k hk hx
    · subst e
      rcases hb with hb | hb
      · omega
      · rw [hx] at hb; cases hb⟩

/-- cells from off on replaced -/
def splice (old : Array Value) (off : Nat) : List Value → Array Value
  | [] => old
  | v :: vs => splice (old.setIfInBounds off v) (off + 1) vs
theorem splice_size : ∀ (vs : List Value) (old : Array Value) (off : Nat), (splice old off vs).size = old.size
  | [], _, _ => rfl
  | v :: vs, old, off => by unfold splice; rw [splice_size]; simp

theorem setCell_box {w : World} {b off : Nat} {cs : Array Value} {t : TypeId} (h : Box w b cs t) (v : Value) : w.setCell ⟨b, off, none⟩ v = put w b (.cells (cs.setIfInBounds off v) t (0, 0)) := by
  have hb := h.lt
  have h0 : w.heap[b]? = some (.cells cs t (0, 0)) := h
  unfold World.setCell put
  congr 1
  apply Array.ext_getElem?
  intro k
  by_cases hk : b = k
  · subst hk
    rw [Array.getElem?_modify, if_pos rfl, h0, Array.getElem?_setIfInBounds_self_of_lt hb]
    rfl
  · rw [Array.getElem?_modify, if_neg (by simpa using hk), Array.getElem?_setIfInBounds_ne hk]

theorem put_put (w : World) (b : Nat) (o o' : Obj) : put (put w b o) b o' = put w b o' := by
  unfold put
  simp

section
variable {P : Program} {o : Oper} {a : Act} {w : World}

theorem run_storeCells_box {t : TypeId} : ∀ (vs : List Value) (off i : Nat) (cs : Array Value) (w : World) (b : Nat), Box w b cs t → (∀ v ∈ vs, v.oneCell' = true) → off + i + vs.length ≤ cs.size →
    (storeCells ⟨b, off, none⟩ vs i).run P w = .ok () (put w b (.cells (splice cs (off + i) vs) t (0, 0)))
  | [], off, i, cs, w, b, h, _, _ => by
    have : put w b (.cells cs t (0, 0)) = w := by
      unfold put
      have h0 : w.heap[b]? = some (.cells cs t (0, 0)) := h
      have : w.heap.setIfInBounds b (.cells cs t (0, 0)) = w.heap := by
        apply Array.ext_getElem?
        intro k
        by_cases hk : b = k
        · subst hk; rw [Array.getElem?_setIfInBounds_self_of_lt h.lt, h0]
        · rw [Array.getElem?_setIfInBounds_ne hk]
      rw [this]
    simp [storeCells, splice, this]
  | v :: vs, off, i, cs, w, b, h, hv, hs => by
    have hadd : (⟨b, off, none⟩ : Addr).add i = ⟨b, off + i, none⟩ := by unfold Addr.add; split <;> simp_all
    have hlt : off + i < cs.size := by simp at hs; omega
    have hc : w.cell? ⟨b, off + i, none⟩ = some cs[off + i] := h.cell (by rw [nth_eq]; simp [hlt])
    have h1 : (store ⟨b, off + i, none⟩ v).run P w = .ok () (w.setCell ⟨b, off + i, none⟩ v) := by
      rw [run_store P w _ v .plain (hv v (by simp))]
      simp [hc, h.frozen]
    have h2 := run_storeCells_box (t := t) vs off (i + 1) (cs.setIfInBounds (off + i) v) (put w b (.cells (cs.setIfInBounds (off + i) v) t (0, 0))) b h.put (fun u hu => hv u (by simp [hu])) (by simp at hs ⊢; omega)
    rw [put_put] at h2
    simp only [storeCells, Sem.run_bind, hadd, h1, Result.andThen_ok, setCell_box h, h2]
    rfl

/-- a store into a box, or a part of it -/
theorem o_store {t : TypeId} {x y : Operand} {b off : Nat} {v : Value} {cs new : Array Value} {T : TypeId} (ho : o.op = .store t x y) (hx : a.eval x = .pointer (some ⟨b, off, none⟩)) (hy : a.eval y = v) (hB : Box w b cs T)
    (hz : (P.info? t).map (·.size) = some v.cells.size) (h1 : v.cells.all (·.oneCell') = true) (hs : off + v.cells.size ≤ cs.size) (hn : splice cs off v.cells.toList = new) :
    (execOp a.eval o).run P w = .ok .skip (put w b (.cells new T (0, 0))) := by
  have h2 := run_storeCells_box (P := P) v.cells.toList off 0 cs w b hB (fun u hu => (Array.all_eq_true_iff_forall_mem.1 h1) u (by simpa using hu)) (by simpa using hs)
  cases hi : P.info? t with
  | none => rw [hi] at hz; cases hz
  | some ti =>
    rw [hi] at hz
    have hs : ti.size = v.cells.size := by simpa using hz
    simp only [Nat.add_zero] at h2
    rw [hn] at h2
    simp [execOp, ho, hx, hy, Instr.storeAt, Instr.sureAddr, storeVar, sizeOf, typeInfo, hi, hs, h2]

theorem yes_alloc {t : TypeId} {z : Value} {g : GP} (ho : o.op = .alloc t) (hz : ((P.info? t).bind (·.zero)) = some z) (hd : o.dst.isSome = true)
    (hg : g (.pointer (some ⟨w.heap.size, 0, none⟩)) (w.alloc (.cells z.cells t (0, 0)))) : Yes P o a w g := by
  cases hi : P.info? t with
  | none => rw [hi] at hz; cases hz
  | some ti =>
    rw [hi] at hz
    have hz' : ti.zero = some z := by simpa using hz
    refine yes_val (v := .pointer (some ⟨w.heap.size, 0, none⟩)) (w' := w.alloc (.cells z.cells t (0, 0))) ?_ (Ext.alloc _ _) hg hd
    simp [execOp, ho, Instr.alloc, zeroValue, typeInfo, hi, hz', newVar, newRow, go_sem]

/-- the fact of an alloc: a new box, from n on -/
def isNew (n : Nat) (cs : Array Value) (t : TypeId) : GP := fun v w => ∃ k, v = .pointer (some ⟨k, 0, none⟩) ∧ n ≤ k ∧ Box w k cs t
theorem stable_isNew (n : Nat) (cs : Array Value) (t : TypeId) : Stable (isNew n cs t) := fun _ _ _ ⟨k, h1, h2, h3⟩ hx => ⟨k, h1, h2, h3.ext hx⟩
theorem yes_new {t : TypeId} {z : Value} {n : Nat} {cs : Array Value} (ho : o.op = .alloc t) (hz : ((P.info? t).bind (·.zero)) = some z) (hcs : z.cells = cs) (hd : o.dst.isSome = true) (hn : n ≤ w.heap.size) : Yes P o a w (isNew n cs t) := by
  subst hcs
  exact yes_alloc ho hz hd ⟨_, rfl, hn, Box.new _ _ _⟩

theorem yes_gives {c : Call} {f : FuncId} {fn : Func} {g : GP} {args : Array Value} (hc : Gives P f args w g) (ho : o.op = .call c) (hcc : c.callee = .value (.func f)) (hf : P.funcs[f]? = some fn) (hn : (fn.name == "runtime.NumGoroutine") = false) (hb : fn.body.isNone = false)
    (ha : c.args.map a.eval = args) (hd : o.dst.isSome = true) : Yes P o a w g := yes_call (run_call ho hcc hf hn hb ha) hc hd

theorem eval_const (v : Value) : a.eval (.const v) = v := rfl

/-- a struct of three cells -/
theorem o_load3 {t : TypeId} {x : Operand} {d : TypeDesc} {b off : Nat} {c0 c1 c2 : Value} (ho : o.op = .load t x) (ht : P.underlying t = some d) (hd : (match d with | .struct _ | .array _ _ => true | _ => false) = true)
    (hz : (P.info? t).map (·.size) = some 3) (hx : a.eval x = .pointer (some ⟨b, off, none⟩)) (h0 : w.cell? ⟨b, off, none⟩ = some c0) (h1 : w.cell? ⟨b, off + 1, none⟩ = some c1) (h2 : w.cell? ⟨b, off + 2, none⟩ = some c2) : Runs P o a w (.agg #[c0, c1, c2]) :=
  o_loadN (cs := [c0, c1, c2]) ho ht hd hz hx (fun j v hv => by
    match j, hv with
    | 0, hv => simp at hv; subst hv; exact h0
    | 1, hv => simp at hv; subst hv; exact h1
    | 2, hv => simp at hv; subst hv; exact h2
    | _ + 3, hv => simp at hv)
theorem o_load5 {t : TypeId} {x : Operand} {d : TypeDesc} {b off : Nat} {c0 c1 c2 c3 c4 : Value} (ho : o.op = .load t x) (ht : P.underlying t = some d) (hd : (match d with | .struct _ | .array _ _ => true | _ => false) = true)
    (hz : (P.info? t).map (·.size) = some 5) (hx : a.eval x = .pointer (some ⟨b, off, none⟩)) (h0 : w.cell? ⟨b, off, none⟩ = some c0) (h1 : w.cell? ⟨b, off + 1, none⟩ = some c1) (h2 : w.cell? ⟨b, off + 2, none⟩ = some c2)
    (h3 : w.cell? ⟨b, off + 3, none⟩ = some c3) (h4 : w.cell? ⟨b, off + 4, none⟩ = some c4) : Runs P o a w (.agg #[c0, c1, c2, c3, c4]) :=
  o_loadN (cs := [c0, c1, c2, c3, c4]) ho ht hd hz hx (fun j v hv => by
    match j, hv with
    | 0, hv => simp at hv; subst hv; exact h0
    | 1, hv => simp at hv; subst hv; exact h1
    | 2, hv => simp at hv; subst hv; exact h2
    | 3, hv => simp at hv; subst hv; exact h3
    | 4, hv => simp at hv; subst hv; exact h4
    | _ + 5, hv => simp at hv)
end
end Go.Proofs.Ytcfbdfgondmkoaa
