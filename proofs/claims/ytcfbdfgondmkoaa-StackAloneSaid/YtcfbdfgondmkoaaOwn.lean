/- Rows of integers that a call has made for itself. -/
import Derived.Test.YtcfbdfgondmkoaaBx
import Derived.Test.YtcfbdfgondmkoaaEqA
namespace Go.Proofs.Ytcfbdfgondmkoaa
open Go Go.RowKit
set_option linter.unusedSimpArgs false
set_option linter.unusedVariables false
set_option linter.unnecessarySimpa false

/-- this slice is the whole of a row of its own, in block b, not frozen -/
def Own (w : World) (v : Value) (l : List Int) (b : Nat) : Prop :=
  ∃ cap, v = .slice (some ⟨b, 0, none⟩) l.length cap ∧ l.length ≤ cap ∧ cap ≤ 9223372036854775807 ∧ b < w.heap.size ∧ ∀ i, i < l.length → w.cell? ⟨b, i, none⟩ = some (.int .i64 (gi l i)) ∧ w.frozen? ⟨b, i, none⟩ = false
theorem Own.ints {N : Nat → Prop} {w : World} {v : Value} {l : List Int} {b : Nat} (h : Own w v l b) (hn : ¬ N b) : IsInts N w v l := by
  obtain ⟨cap, rfl, h1, h2, h3, h4⟩ := h
  exact ⟨_, cap, rfl, h1, h2, fun e => by simp at e, fun i hi => ⟨b, 0, rfl, h3, hn, by rw [Nat.zero_add]; exact (h4 i hi).1⟩⟩
theorem Own.keep {N : Nat → Prop} {w w' : World} {v : Value} {l : List Int} {b : Nat} (h : Own w v l b) (k : Keep N w w') (hn : ¬ N b) : Own w' v l b := by
  obtain ⟨cap, rfl, h1, h2, h3, h4⟩ := h
  exact ⟨cap, rfl, h1, h2, Nat.lt_of_lt_of_le h3 k.1, fun i hi => ⟨(k.cell (a := ⟨b, i, none⟩) h3 hn).trans (h4 i hi).1, (World.frozen?_of_block (k.2 _ h3 hn)).trans (h4 i hi).2⟩⟩
theorem Own.ext {w w' : World} {v : Value} {l : List Int} {b : Nat} (h : Own w v l b) (k : Ext w w') : Own w' v l b := h.keep (N := fun _ => False) k.keep id
theorem Own.set {w : World} {v : Value} {l : List Int} {b k : Nat} (h : Own w v l b) (hk : k < l.length) (x : Int) : Own (w.setCell ⟨b, k, none⟩ (.int .i64 x)) v (l.set k x) b := by
  obtain ⟨cap, rfl, h1, h2, h3, h4⟩ := h
  refine ⟨cap, by simp, by simp; exact h1, h2, by simpa [World.setCell] using h3, fun i hi => ?_⟩
  have hi' : i < l.length := by simpa using hi
  rw [World.frozen?_setCell, gi_set l k i x hk]
  refine ⟨?_, (h4 i hi').2⟩
  by_cases e : k = i
  · subst e
    rw [if_pos rfl]
    exact World.cell?_setCell_same _ _ _ (h4 k hk).1
  · rw [if_neg e, World.cell?_setCell_other _ _ _ _ (by simpa using e)]
    exact (h4 i hi').1

def zeros (n : Nat) : Array Value := madeCells (Value.int .i64 0).cells (n * 1)
@[go_sem] theorem run_mk48 (n : Nat) (h : n ≤ 100000) (w : World) : (Instr.makeSlice 48 (.int .i64 n) (.int .i64 n)).run Proofs.Try.prog w = .ok (.slice (some ⟨w.heap.size, 0, none⟩) n n) (w.alloc (.cells (zeros n) 3)) := by
  cases hi : Proofs.Try.prog.info? 3 with
  | none => exact absurd (show (Proofs.Try.prog.info? 3).isSome = true by kernel_rfl) (by rw [hi]; simp)
  | some i =>
    have hz : i.zero = some (.int .i64 0) := by
      have : (Proofs.Try.prog.info? 3).bind (·.zero) = some (.int .i64 0) := by kernel_rfl
      rw [hi] at this; exact this
    have hs : i.size = 1 := by
      have : (Proofs.Try.prog.info? 3).map (·.size) = some 1 := by kernel_rfl
      rw [hi] at this; simpa using this
    have hb : i.bytes = 8 := by
      have : (Proofs.Try.prog.info? 3).map (·.bytes) = some 8 := by kernel_rfl
      rw [hi] at this; simpa using this
    have := run_make (P := Proofs.Try.prog) w 48 3 i _ Proofs.Try.underlying48 hi hz .i64 .i64 n n (by omega) (Int.le_refl _) (by rw [hb]; omega) (by omega)
    rw [hs] at this
    simpa [zeros] using this
theorem Own.made (w : World) (n : Nat) (h : n ≤ 100000) : Own (w.alloc (.cells (zeros n) 3)) (.slice (some ⟨w.heap.size, 0, none⟩) n n) (List.replicate n 0) w.heap.size := by
  refine ⟨n, by simp, by simp, by omega, by simp, fun i hi => ?_⟩
  have hi' : i < n := by simpa using hi
  have hB : Box (w.alloc (.cells (zeros n) 3)) w.heap.size (zeros n) 3 := Box.new _ _ _
  refine ⟨hB.cell ?_, hB.frozen⟩
  rw [nth_eq]
  simp [zeros, madeCells, hi', gi, List.getD_eq_getElem?_getD, Value.cells, Nat.mod_one]
@[go_sem] theorem eql48_some (a : Addr) (n c : Nat) (w : World) : (binOp .eql 48 (.slice (some a) n c) (.slice none 0 0)).run Proofs.Try.prog w = .ok (.bool false) w := by
  have : ∀ d, (Op.equalIn (d + 1) 48 (.slice (some a) n c) (.slice none 0 0)).run Proofs.Try.prog w = .ok false w := fun d => by simp [Op.equalIn, run_underlying Proofs.Try.underlying48]
  have := this 9999
  simp only [binOp]
  simp [Op.equal, Op.maxDepth, this]

theorem setCells_keep {N : Nat → Prop} {a : World} {b : Nat} (hb : a.heap.size ≤ b ∨ N b) : ∀ (vs : List Value) (o : Nat) (w : World), Keep N a w → Keep N a (w.setCells b o vs)
  | [], _, _, h => h
  | v :: vs, o, w, h => setCells_keep hb vs (o + 1) _ (h.setCell _ _ hb)
theorem setCells_ext {a : World} {b : Nat} (hb : a.heap.size ≤ b) : ∀ (vs : List Value) (o : Nat) (w : World), Ext a w → Ext a (w.setCells b o vs)
  | [], _, _, h => h
  | v :: vs, o, w, h => setCells_ext hb vs (o + 1) _ (h.store _ _ hb)
theorem setCells_size {b : Nat} : ∀ (vs : List Value) (o : Nat) (w : World), (w.setCells b o vs).heap.size = w.heap.size
  | [], _, _ => rfl
  | v :: vs, o, w => (setCells_size vs (o + 1) _).trans (by simp [World.setCell])
theorem one_size {t : TypeId} (h : (Proofs.Try.prog.info? t).map (·.size) = some 1) : (Proofs.Try.prog.info? t).map (·.size) = some 1 := h
/-- one row copied over another of the same length -/
theorem run_copy_own {N : Nat → Prop} {w : World} {vd vs : Value} {ld ls : List Int} {b : Nat} (hd : Own w vd ld b) (hs : IsInts N w vs ls) (hl : ld.length = ls.length) (h0 : 0 < ls.length) :
    ∃ w', (Builtin.copy_ #[48, 48] 3 #[vd, vs]).run Proofs.Try.prog w = .ok (goInt ls.length) w' ∧ Own w' vd ls b ∧ (∀ M, M b → Keep M w w') ∧ (∀ a, Ext a w → a.heap.size ≤ b → Ext a w') := by
  obtain ⟨cap, rfl, h1, h2, h3, h4⟩ := hd
  obtain ⟨a, cs, rfl, k1, k2, k3⟩ := hs.opened
  obtain ⟨bs, os, rfl, hbs, hns, _⟩ := k3 0 h0
  have hc : ∀ j v, (ints ls)[j]? = some v → w.cell? ((⟨bs, os, none⟩ : Addr).add j) = some v := fun j v hv => by
    rw [ints_get] at hv
    have hj : j < ls.length := by
      rcases Nat.lt_or_ge j ls.length with h | h
      · exact h
      · rw [List.getElem?_eq_none h] at hv; cases hv
    rw [gi_get hj] at hv
    obtain rfl : Value.int .i64 (gi ls j) = v := by simpa using hv
    obtain ⟨b', o', e, _, _, hcell⟩ := k3 j hj
    cases e
    have hadd : (⟨bs, os, none⟩ : Addr).add j = ⟨bs, os + j, none⟩ := by unfold Addr.add; split <;> simp_all
    rw [hadd]; exact hcell
  have hlen : (ints ls).length = ls.length := by simp [ints]
  have hr := run_copy_cells (P := Proofs.Try.prog) w 48 48 3 3 b 0 ld.length cap ⟨bs, os, none⟩ ls.length cs (ints ls) Proofs.Try.underlying48 (by kernel_rfl) (by rw [hlen, hl]; simp) hc
    (fun j hj => by rw [Nat.zero_add, (h4 j (by omega)).1]; rfl) (fun j hj => by rw [Nat.zero_add]; exact (h4 j (by omega)).2) (fun v hv => by
      obtain ⟨x, _, rfl⟩ := List.mem_map.1 (show v ∈ ls.map (Value.int .i64) from hv)
      rfl)
  rw [hlen] at hr
  refine ⟨_, hr, ⟨cap, by rw [hl], by omega, h2, by rw [setCells_size]; exact h3, fun i hi => ⟨?_, ?_⟩⟩, fun M hM => setCells_keep (.inr hM) _ _ _ (Keep.refl _ _), fun a ha hb => setCells_ext hb _ _ _ ha⟩
  · have := World.cell?_setCells_in b (ints ls) 0 w (fun j hj => by rw [Nat.zero_add, (h4 j (by omega)).1]; rfl) i (by omega)
    rw [Nat.zero_add] at this
    rw [this]
    simp [ints, gi_eq _ _ hi]
  · rw [World.frozen?_setCells]; exact (h4 i (by omega)).2
/-- all of a row appended to an empty one: a row of its own -/
theorem run_append_new {N : Nat → Prop} {w : World} {vs : Value} {ls : List Int} (a0 : Addr) (hs : IsInts N w vs ls) (h0 : 0 < ls.length) (hm : ls.length ≤ 100000) (ty : TypeId) :
    ∃ v' w', (Builtin.append_ #[48, 48] ty #[.slice (some a0) 0 0, vs]).run Proofs.Try.prog w = .ok v' w' ∧ Own w' v' ls w.heap.size ∧ Ext w w' := by
  obtain ⟨a, cs, rfl, k1, k2, k3⟩ := hs.opened
  obtain ⟨bs, os, rfl, hbs, hns, _⟩ := k3 0 h0
  have hc : ∀ j v, (ints ls)[j]? = some v → w.cell? ((⟨bs, os, none⟩ : Addr).add j) = some v := fun j v hv => by
    rw [ints_get] at hv
    have hj : j < ls.length := by
      rcases Nat.lt_or_ge j ls.length with h | h
      · exact h
      · rw [List.getElem?_eq_none h] at hv; cases hv
    rw [gi_get hj] at hv
    obtain rfl : Value.int .i64 (gi ls j) = v := by simpa using hv
    obtain ⟨b', o', e, _, _, hcell⟩ := k3 j hj
    cases e
    have hadd : (⟨bs, os, none⟩ : Addr).add j = ⟨bs, os + j, none⟩ := by unfold Addr.add; split <;> simp_all
    rw [hadd]; exact hcell
  have hlen : (ints ls).length = ls.length := by simp [ints]
  cases hi : Proofs.Try.prog.info? 3 with
  | none => exact absurd (show (Proofs.Try.prog.info? 3).isSome = true by kernel_rfl) (by rw [hi]; simp)
  | some i =>
    have hz : i.zero = some (.int .i64 0) := by
      have : (Proofs.Try.prog.info? 3).bind (·.zero) = some (.int .i64 0) := by kernel_rfl
      rw [hi] at this; exact this
    have hs : i.size = 1 := by
      have : (Proofs.Try.prog.info? 3).map (·.size) = some 1 := by kernel_rfl
      rw [hi] at this; simpa using this
    have hb : i.bytes = 8 := by
      have : (Proofs.Try.prog.info? 3).map (·.bytes) = some 8 := by kernel_rfl
      rw [hi] at this; simpa using this
    have hr := run_append_grow (P := Proofs.Try.prog) w 48 ty 3 i _ Proofs.Try.underlying48 hi hz a0 0 0 [] (by simp) (by simp) ⟨bs, os, none⟩ ls.length cs (ints ls) (by rw [hlen, hs]; simp) hc (by omega) (by omega)
      (by rw [Nat.zero_add, nextslicecap_zero h0, hb]; omega)
    simp only [Nat.zero_add] at hr
    have hge := grownCap_ge w ls.length 0 3
    have hcm := grownCap_le_maxLen w ls.length 0 3 (by simp [maxLen]; omega)
    refine ⟨_, _, hr, ⟨_, rfl, hge, by simpa [maxLen] using hcm, by simp, fun j hj => ?_⟩, (Ext.drew _).trans (Ext.alloc _ _)⟩
    have hB := Box.new w.drew ((([] : List Value).toArray ++ (ints ls).toArray ++ Builtin.zeroCells (Value.int .i64 0).cells (grownCap w ls.length 0 3 - ls.length))) 3
    refine ⟨hB.cell ?_, hB.frozen⟩
    rw [nth_eq]
    have hj' : j < (ints ls).length := by rw [hlen]; exact hj
    simp only [Array.toList_append, List.append_assoc, List.nil_append]
    rw [List.getElem?_append_left hj', ints_get, gi_get hj]
    rfl

section
variable {ops : Array Oper} {rest : List Oper} {o : Oper} {a : Act} {Q : Exit → Act → World → Prop} {w : World}
theorem wpList_append48 {N : Nat → Prop} {a0 : Addr} {vs : Value} {ls : List Int} (s x : Operand) (hg : o.guard = none) (hop : o.op = Op.call { callee := Callee.builtin Builtin.append, args := #[s, x], argTypes := #[48, 48] })
    (hs : a.eval s = .slice (some a0) 0 0) (hx : a.eval x = vs) (hrow : IsInts N w vs ls) (h0 : 0 < ls.length) (hm : ls.length ≤ 100000)
    (hK : ∀ v' w', Own w' v' ls w.heap.size → Ext w w' → wpList Proofs.Try.prog ops Q rest (a.put o.dst v') w') : wpList Proofs.Try.prog ops Q (o :: rest) a w := by
  refine wpList_plain hg fun K hK' => ?_
  obtain ⟨v', w', hrun, r1, r2⟩ := run_append_new a0 hrow h0 hm o.type
  unfold Oper.wp
  simp [execOp, hop, resolve, invoke, builtin, hs, hx, hrun, Result.andThen]
  exact hK' _ _ (hK v' w' r1 r2)
theorem wpList_copy48 {N : Nat → Prop} {vd vs : Value} {ld ls : List Int} {b : Nat} (s x : Operand) (hg : o.guard = none) (hop : o.op = Op.call { callee := Callee.builtin Builtin.copy, args := #[s, x], argTypes := #[48, 48] }) (hty : o.type = 3)
    (hs : a.eval s = vd) (hx : a.eval x = vs) (hd : Own w vd ld b) (hrow : IsInts N w vs ls) (hl : ld.length = ls.length) (h0 : 0 < ls.length)
    (hK : ∀ w', Own w' vd ls b → (∀ M, M b → Keep M w w') → (∀ a, Ext a w → a.heap.size ≤ b → Ext a w') → wpList Proofs.Try.prog ops Q rest (a.put o.dst (goInt ls.length)) w') : wpList Proofs.Try.prog ops Q (o :: rest) a w := by
  refine wpList_plain hg fun K hK' => ?_
  obtain ⟨w', hrun, r1, r2, r3⟩ := run_copy_own hd hrow hl h0
  unfold Oper.wp
  simp [execOp, hop, hty, resolve, invoke, builtin, hs, hx, hrun, Result.andThen]
  exact hK' _ _ (hK w' r1 r2 r3)
end
end Go.Proofs.Ytcfbdfgondmkoaa
