/- Arenas: plain laws of what the calls give. -/
import Derived.Test.YtcfbdfgondmkoaaAr20
namespace Go.Proofs.Ytcfbdfgondmkoaa
open Go Go.RowKit
set_option linter.unusedSimpArgs false
set_option linter.unusedVariables false
set_option linter.unnecessarySimpa false

theorem touchD_bad (m : Arena) (x : Int) : (touchD m x).bad = badAt m x := rfl
theorem storeD_bad (m : Arena) (x v : Int) : (storeD m x v).bad = badAt m x := rfl
theorem casD_bad (m : Arena) (x a b : Int) : (casD m x a b).bad = badAt m x := by unfold casD; split <;> rfl
theorem touchD_len (m : Arena) (x : Int) : (touchD m x).W.length = m.W.length ∧ (touchD m x).G.length = m.G.length := ⟨rfl, rfl⟩
theorem storeD_len (m : Arena) (x v : Int) : (storeD m x v).W.length = m.W.length ∧ (storeD m x v).G.length = m.G.length := by
  unfold storeD; constructor
  · simp only []; split <;> simp
  · rfl
theorem turnMD_len (m : Arena) (x t : Int) : (turnMD m x t).W.length = m.W.length ∧ (turnMD m x t).G.length = m.G.length := by unfold turnMD; split <;> simp
theorem casD_len (m : Arena) (x a b : Int) : (casD m x a b).W.length = m.W.length ∧ (casD m x a b).G.length = m.G.length := by
  unfold casD; split
  · exact storeD_len _ _ _
  · exact touchD_len _ _
theorem Fits.same {m n : Arena} (h : Fits m) (k : n.W.length = m.W.length ∧ n.G.length = m.G.length) : Fits n := by
  unfold Fits at *; rw [k.1, k.2]; exact h
/-- a node's cell's place -/
theorem nodeD_at {m : Arena} (h : Fits m) {i k : Nat} (h1 : 1 ≤ i) (h2 : i < m.G.length) (h4 : k < 4) : nodeD m.W.length (128 + 4 * ((i : Int) - 1) + k) = if k = 0 then 0 else (i : Int) := by
  obtain ⟨e1, e2, e3⟩ := h
  unfold nodeD
  by_cases hk : k = 0
  · subst hk; rw [if_pos (by omega)]; rfl
  · rw [if_neg (by omega), if_neg hk]; omega
theorem outside_at {m : Arena} (h : Fits m) {i k : Nat} (h1 : 1 ≤ i) (h2 : i < m.G.length) (h4 : k < 4) : outside m (128 + 4 * ((i : Int) - 1) + k) = false := by
  obtain ⟨e1, e2, e3⟩ := h
  simp [outside]; omega
theorem badAt_at {m : Arena} (h : Fits m) {i k : Nat} (h1 : 1 ≤ i) (h2 : i < m.G.length) (h4 : k < 4) : badAt m (128 + 4 * ((i : Int) - 1) + k) = (m.bad || (decide (0 < k) && gi m.G i == 0)) := by
  unfold badAt freeAt
  rw [outside_at h h1 h2 h4, nodeD_at h h1 h2 h4]
  by_cases hk : k = 0
  · subst hk; simp
  · rw [if_neg hk]
    have e1 : decide ((0 : Int) < (i : Int)) = true := by simp; omega
    have e2 : decide (0 < k) = true := by simp; omega
    rw [e1, e2]; simp
theorem badAt_root {m : Arena} (h : Fits m) {k : Nat} (h4 : k < 128) : badAt m k = m.bad := by
  obtain ⟨e1, e2, e3⟩ := h
  have hn : nodeD m.W.length k = 0 := by unfold nodeD; rw [if_pos (by omega)]
  have ho : outside m k = false := by simp [outside]; omega
  simp [badAt, freeAt, hn, ho]
theorem turnIs_live {m : Arena} {i : Nat} (h1 : 1 ≤ i) (h2 : i < m.G.length) : turnIs m i 1 = (gi m.G i == 0) := by
  unfold turnIs turnD pairEq
  have e : decide (1 ≤ (i : Int) ∧ (i : Int) < m.G.length) = true := by simp; omega
  rw [e]
  by_cases h : gi m.G i = 0 <;> simp [h]
theorem turnMD_bad (m : Arena) (x t : Int) : (turnMD m x t).bad = if turnIs m x t then m.bad else true := by unfold turnMD; split <;> rfl
theorem o_min {o : Oper} {a : Act} {w : World} {x : Operand} {u r : Int} (ho : o.op = Op.call { callee := Callee.builtin Builtin.min, args := #[x, .const (.int .i64 1)], argTypes := #[3, 3] }) (hx : a.eval x = .int .i64 u) (hr : (if 1 < u then 1 else u) = r) : Runs Proofs.Try.prog o a w (.int .i64 r) := by
  subst hr
  have he : a.eval (.const (.int .i64 1)) = .int .i64 1 := rfl
  have := run_min_int2 (P := Proofs.Try.prog) (w := w) #[3, 3] o.type .i64 .i64 u 1
  simp [Runs, execOp, ho, resolve, invoke, builtin, hx, he, this]
end Go.Proofs.Ytcfbdfgondmkoaa
