/- One operation, its operands known: what it yields. -/
import Derived.Test.YtcfbdfgondmkoaaRegI
import Derived.Laws.StructEq
namespace Go.Proofs.Ytcfbdfgondmkoaa
open Go Go.RowKit

abbrev Runs (P : Program) (o : Oper) (a : Act) (w : World) (c : Value) : Prop := (execOp a.eval o).run P w = .ok (.value c) w

section
variable {P : Program} {o : Oper} {a : Act} {w : World}

theorem o_move {x : Operand} {c : Value} (ho : o.op = .move x) (hx : a.eval x = c) : Runs P o a w c := by simp [Runs, execOp, ho, hx]
theorem o_assign {x : Operand} {c : Value} (ho : o.op = .assign x) (hx : a.eval x = c) : Runs P o a w c := by simp [Runs, execOp, ho, hx]
theorem o_pick_t {z x y : Operand} {c : Value} (ho : o.op = .pick z x y) (hz : a.eval z = .bool true) (hx : a.eval x = c) : Runs P o a w c := by simp [Runs, execOp, ho, hz, hx, asBool]
theorem o_pick_f {z x y : Operand} {c : Value} (ho : o.op = .pick z x y) (hz : a.eval z = .bool false) (hy : a.eval y = c) : Runs P o a w c := by simp [Runs, execOp, ho, hz, hy, asBool]
theorem o_not {t : TypeId} {x : Operand} {b : Bool} {r : Bool} (ho : o.op = .unOp .not t x) (hx : a.eval x = .bool b) (hr : (!b) = r) : Runs P o a w (.bool r) := by simp [Runs, execOp, ho, hx, Op.unary, hr]
theorem o_extract {x : Operand} {i : Nat} {vs : Array Value} {c : Value} (ho : o.op = .extract x i) (hx : a.eval x = .tuple vs) (hc : nth vs.toList i = some c) : Runs P o a w c := by simp [Runs, execOp, ho, hx, Instr.extract, nth_arr hc]
section ints
variable {t s : TypeId} {x y : Operand} {k : IntKind} {m n : Int}
theorem o_add {r : Int} (ho : o.op = .binOp .add t x y s) (hx : a.eval x = .int k m) (hy : a.eval y = .int k n) (hr : k.wrap (m + n) = r) : Runs P o a w (.int k r) := by (simp only [Runs, execOp, ho, hx, hy]; simp [go_sem, Op.intArith, hr])
theorem o_sub {r : Int} (ho : o.op = .binOp .sub t x y s) (hx : a.eval x = .int k m) (hy : a.eval y = .int k n) (hr : k.wrap (m - n) = r) : Runs P o a w (.int k r) := by (simp only [Runs, execOp, ho, hx, hy]; simp [go_sem, Op.intArith, hr])
theorem o_mul {r : Int} (ho : o.op = .binOp .mul t x y s) (hx : a.eval x = .int k m) (hy : a.eval y = .int k n) (hr : k.wrap (m * n) = r) : Runs P o a w (.int k r) := by (simp only [Runs, execOp, ho, hx, hy]; simp [go_sem, Op.intArith, hr])
theorem o_rem {r : Int} (ho : o.op = .binOp .rem t x y s) (hx : a.eval x = .int k m) (hy : a.eval y = .int k n) (hn : n ≠ 0) (hr : m.tmod n = r) : Runs P o a w (.int k r) := by (simp only [Runs, execOp, ho, hx, hy]; simp [go_sem, Op.intDiv, hn, hr])
theorem o_eql {r : Bool} (ho : o.op = .binOp .eql t x y s) (hx : a.eval x = .int k m) (hy : a.eval y = .int k n) (hr : (m == n) = r) : Runs P o a w (.bool r) := by (simp only [Runs, execOp, ho, hx, hy]; simp [go_sem, hr])
theorem o_neq {r : Bool} (ho : o.op = .binOp .neq t x y s) (hx : a.eval x = .int k m) (hy : a.eval y = .int k n) (hr : (m != n) = r) : Runs P o a w (.bool r) := by (simp only [Runs, execOp, ho, hx, hy]; simp [go_sem, hr])
theorem o_lss {r : Bool} (ho : o.op = .binOp .lss t x y s) (hx : a.eval x = .int k m) (hy : a.eval y = .int k n) (hr : decide (m < n) = r) : Runs P o a w (.bool r) := by (simp only [Runs, execOp, ho, hx, hy]; simp [go_sem, hr])
theorem o_leq {r : Bool} (ho : o.op = .binOp .leq t x y s) (hx : a.eval x = .int k m) (hy : a.eval y = .int k n) (hr : decide (m ≤ n) = r) : Runs P o a w (.bool r) := by (simp only [Runs, execOp, ho, hx, hy]; simp [go_sem, hr])
theorem o_gtr {r : Bool} (ho : o.op = .binOp .gtr t x y s) (hx : a.eval x = .int k m) (hy : a.eval y = .int k n) (hr : decide (m > n) = r) : Runs P o a w (.bool r) := by (simp only [Runs, execOp, ho, hx, hy]; simp [go_sem, ← hr])
theorem o_geq {r : Bool} (ho : o.op = .binOp .geq t x y s) (hx : a.eval x = .int k m) (hy : a.eval y = .int k n) (hr : decide (m ≥ n) = r) : Runs P o a w (.bool r) := by (simp only [Runs, execOp, ho, hx, hy]; simp [go_sem, ← hr])
theorem o_and {r : Int} (ho : o.op = .binOp .and t x y s) (hx : a.eval x = .int k m) (hy : a.eval y = .int k n) (hr : bits .and k m n = r) : Runs P o a w (.int k r) := by (simp only [Runs, execOp, ho, hx, hy]; simp [go_sem, hr])
theorem o_or {r : Int} (ho : o.op = .binOp .or t x y s) (hx : a.eval x = .int k m) (hy : a.eval y = .int k n) (hr : bits .or k m n = r) : Runs P o a w (.int k r) := by (simp only [Runs, execOp, ho, hx, hy]; simp [go_sem, hr])
theorem o_shl {r : Int} {k2 : IntKind} (ho : o.op = .binOp .shl t x y s) (hx : a.eval x = .int k m) (hy : a.eval y = .int k2 n) (h0 : 0 ≤ n) (h1 : n ≤ k.bits) (hr : k.wrap (m * 2 ^ n.toNat) = r) : Runs P o a w (.int k r) := by
  simp only [Runs, execOp, ho, hx, hy, binOp_shl, shift_shl k k2 m n h0 h1, ← hr]; simp [go_sem]
theorem o_shr {r : Int} {k2 : IntKind} (ho : o.op = .binOp .shr t x y s) (hx : a.eval x = .int k m) (hy : a.eval y = .int k2 n) (h0 : 0 ≤ n) (h1 : n ≤ k.bits) (hr : m / 2 ^ n.toNat = r) : Runs P o a w (.int k r) := by
  simp only [Runs, execOp, ho, hx, hy, binOp_shr, shift_shr k k2 m n h0 h1, ← hr]; simp [go_sem]
end ints
section bools
variable {t s : TypeId} {x y : Operand} {m n : Bool}
theorem o_eqlb {r : Bool} (ho : o.op = .binOp .eql t x y s) (ht : P.underlying t = some .bool) (hx : a.eval x = .bool m) (hy : a.eval y = .bool n) (hr : (m == n) = r) : Runs P o a w (.bool r) := by
  (simp only [Runs, execOp, ho, hx, hy]; simp [go_sem, binOp, Op.equal, Op.maxDepth, run_equalIn_bool' w _ t m n ht, hr])
theorem o_neqb {r : Bool} (ho : o.op = .binOp .neq t x y s) (ht : P.underlying t = some .bool) (hx : a.eval x = .bool m) (hy : a.eval y = .bool n) (hr : (m != n) = r) : Runs P o a w (.bool r) := by
  (simp only [Runs, execOp, ho, hx, hy]; simp [go_sem, binOp, Op.equal, Op.maxDepth, run_equalIn_bool' w _ t m n ht, ← hr, bne])
end bools
theorem o_conv {s d : TypeId} {x : Operand} {k k2 : IntKind} {n r : Int} (ho : o.op = .convert s d x) (hx : a.eval x = .int k n) (hs : (P.underlying s).isSome = true) (hd : P.underlying d = some (.int k2)) (hr : k2.wrap n = r) : Runs P o a w (.int k2 r) := by
  have hi : P.intKind d = k2 := by simp [Program.intKind, hd]
  have := run_convert_int (P := P) w s d k n hs (by rw [hi]; exact hd)
  rw [hi] at this
  simp [Runs, execOp, ho, hx, this, hr]
theorem o_len {t : TypeId} {x : Operand} {p : Option Addr} {n c : Nat} {e : TypeId} (ho : o.op = .call { callee := .builtin .len, args := #[x], argTypes := #[t] }) (ht : P.underlying t = some (.slice e)) (hx : a.eval x = .slice p n c) : Runs P o a w (.int .i64 n) := by
  have he : P.elem t = e := by simp [Program.elem, ht]
  have := run_len_slice (P := P) w t o.type p n c (by rw [he]; exact ht)
  simp [Runs, execOp, ho, resolve, hx, invoke, builtin, this, goInt]
theorem o_fieldAddr {s : TypeId} {x : Operand} {i b off k : Nat} {fs : Array Field} {f : Field} (ho : o.op = .fieldAddr s x i) (hs : P.underlying s = some (.struct fs)) (hf : fs[i]? = some f) (hk : f.offset = k) (hz : ((P.info? f.type).map fun i => decide (0 < i.size)) = some true)
    (hx : a.eval x = .pointer (some ⟨b, off, none⟩)) : Runs P o a w (.pointer (some ⟨b, off + k, none⟩)) := by
  cases hi : P.info? f.type with
  | none => rw [hi] at hz; cases hz
  | some ti =>
    rw [hi] at hz
    have h0 : ti.size ≠ 0 := by simp at hz; omega
    (simp only [Runs, execOp, ho, hx]; simp [Instr.fieldAt, run_underlying hs, hf, Instr.sureAddr, fieldPlace, sizeOf, typeInfo, hi, h0, hk, go_sem])
theorem o_indexAddr {t e : TypeId} {x y : Operand} {b off len cap sz : Nat} {k : IntKind} {i : Int} (ho : o.op = .indexAddr t x y) (ht : P.underlying t = some (.slice e)) (hz : (P.info? e).map (·.size) = some sz)
    (hx : a.eval x = .slice (some ⟨b, off, none⟩) len cap) (hy : a.eval y = .int k i) (h0 : 0 ≤ i) (h1 : i < len) : Runs P o a w (.pointer (some ⟨b, off + i.toNat * sz, none⟩)) := by
  cases hi : P.info? e with
  | none => rw [hi] at hz; cases hz
  | some ti =>
    rw [hi] at hz
    have hs : ti.size = sz := by simpa using hz
    (simp only [Runs, execOp, ho, hx, hy]; simp [Instr.indexAt, asIntOf, run_underlying ht, h0, h1, sizeOf, typeInfo, hi, hs, go_sem])
theorem o_indexAddrA {t e : TypeId} {x y : Operand} {b off len sz : Nat} {k : IntKind} {i : Int} (ho : o.op = .indexAddr t x y) (ht : P.underlying t = some (.array len e)) (hz : (P.info? e).map (·.size) = some sz)
    (hx : a.eval x = .pointer (some ⟨b, off, none⟩)) (hy : a.eval y = .int k i) (h0 : 0 ≤ i) (h1 : i < len) : Runs P o a w (.pointer (some ⟨b, off + i.toNat * sz, none⟩)) := by
  cases hi : P.info? e with
  | none => rw [hi] at hz; cases hz
  | some ti =>
    rw [hi] at hz
    have hs : ti.size = sz := by simpa using hz
    (simp only [Runs, execOp, ho, hx, hy]; simp [Instr.indexAt, asIntOf, run_underlying ht, h0, h1, sizeOf, typeInfo, hi, hs, go_sem, Instr.sureAddr])
/-- an element, of one cell, of an array that is a value -/
theorem o_index1 {t e : TypeId} {x y : Operand} {len : Nat} {cs : Array Value} {k : IntKind} {i : Int} {d : TypeDesc} {c : Value} (ho : o.op = .index t x y) (ht : P.underlying t = some (.array len e)) (hz : (P.info? e).map (·.size) = some 1)
    (he : P.underlying e = some d) (hd : (match d with | .struct _ | .array _ _ => true | _ => false) = false)
    (hx : a.eval x = .agg cs) (hy : a.eval y = .int k i) (h0 : 0 ≤ i) (h1 : i < len) (hc0 : nth cs.toList i.toNat = some c) : Runs P o a w c := by
  have hc := nth_arr hc0
  cases hi : P.info? e with
  | none => rw [hi] at hz; cases hz
  | some ti =>
    rw [hi] at hz
    have hs : ti.size = 1 := by simpa using hz
    have hagg : (isAgg e).run P w = .ok false w := by
      unfold isAgg
      rw [Sem.run_bind, run_underlying he w]
      cases d <;> simp_all
    simp [Runs, execOp, ho, hx, hy, Instr.index, asIntOf, run_underlying ht, h0, h1, sizeOf, typeInfo, hi, hs, part, hagg, hc]
/-- a load of one cell -/
theorem o_load1 {t : TypeId} {x : Operand} {d : TypeDesc} {b off : Nat} {c : Value} (ho : o.op = .load t x) (ht : P.underlying t = some d) (hd : (match d with | .struct _ | .array _ _ => true | _ => false) = false)
    (hx : a.eval x = .pointer (some ⟨b, off, none⟩)) (hc : w.cell? ⟨b, off, none⟩ = some c) : Runs P o a w c := by
  have hagg : (isAgg t).run P w = .ok false w := by
    unfold isAgg
    rw [Sem.run_bind, run_underlying ht w]
    cases d <;> simp_all
  (simp only [Runs, execOp, ho, hx]; simp [Instr.loadAt, Instr.sureAddr, loadVar, hagg, go_sem, hc])
/-- a load of a struct, or an array -/
theorem o_loadN {t : TypeId} {x : Operand} {d : TypeDesc} {b off : Nat} {cs : List Value} (ho : o.op = .load t x) (ht : P.underlying t = some d) (hd : (match d with | .struct _ | .array _ _ => true | _ => false) = true)
    (hz : (P.info? t).map (·.size) = some cs.length)
    (hx : a.eval x = .pointer (some ⟨b, off, none⟩)) (hc : ∀ j v, cs[j]? = some v → w.cell? ⟨b, off + j, none⟩ = some v) : Runs P o a w (.agg cs.toArray) := by
  have hagg : (isAgg t).run P w = .ok true w := by
    unfold isAgg
    rw [Sem.run_bind, run_underlying ht w]
    cases d <;> simp_all
  have hl : (loadCells ⟨b, off, none⟩ cs.length).run P w = .ok cs.toArray w :=
    run_loadCells_list (P := P) w ⟨b, off, none⟩ cs (fun j v hv => by
      have hadd : (⟨b, off, none⟩ : Addr).add j = ⟨b, off + j, none⟩ := by unfold Addr.add; split <;> simp_all
      rw [hadd]; exact hc j v hv)
  cases hi : P.info? t with
  | none => rw [hi] at hz; cases hz
  | some ti =>
    rw [hi] at hz
    have hs : ti.size = cs.length := by simpa using hz
    simp [Runs, execOp, ho, hx, Instr.loadAt, Instr.sureAddr, loadVar, hagg, sizeOf, typeInfo, hi, hs, hl]
theorem o_build {t : TypeId} {parts : Array (Nat × Operand)} {vs : Array (Nat × Value)} {cells : Array Value} (ho : o.op = .build t parts) (hp : (parts.map fun (i, x) => (i, a.eval x)) = vs) (hb : P.built t vs.toList = some cells) : Runs P o a w (.agg cells) := by
  have := run_build (P := P) w t vs cells hb
  simp only [Runs, execOp, ho, hp]
  simp [this]
theorem o_nilCheck {x : Operand} {p : Addr} (ho : o.op = .nilCheck x) (hx : a.eval x = .pointer (some p)) : Runs P o a w (.pointer (some p)) := by simp [Runs, execOp, ho, hx]
end
end Go.Proofs.Ytcfbdfgondmkoaa
