/- == and != of arrays of whole numbers. -/
import Derived.Test.YtcfbdfgondmkoaaOps2
import Derived.ChangeKeysEq
namespace Go.Proofs.Ytcfbdfgondmkoaa
open Go Go.RowKit

/-- whole numbers as cells -/
def ints (xs : List Int) : List Value := xs.map (Value.int .i64)
theorem ints_get (xs : List Int) (i : Nat) : (ints xs)[i]? = (xs[i]?).map (Value.int .i64) := by simp [ints]

section
variable {P : Program} (w : World)
theorem run_part1 {e : TypeId} {d : TypeDesc} (he : P.underlying e = some d) (hd : (match d with | .struct _ | .array _ _ => true | _ => false) = false) (cs : Array Value) (i : Nat) (c : Value) (hc : cs[i]? = some c) : (part e cs i).run P w = .ok c w := by
  have hagg : (isAgg e).run P w = .ok false w := by
    unfold isAgg
    rw [Sem.run_bind, run_underlying he w]
    cases d <;> simp_all
  simp [part, hagg, hc]

theorem run_eqItems_ints {e : TypeId} (he : P.underlying e = some (.int .i64)) (d : Nat) (xs ys : List Int) (h : xs.length = ys.length) : ∀ (k : Nat), k ≤ xs.length →
    (Op.eqItems (d + 1) e 1 (ints xs).toArray (ints ys).toArray (List.range' (xs.length - k) k)).run P w = .ok (decide (xs.drop (xs.length - k) = ys.drop (xs.length - k))) w
  | 0, _ => by simp [Op.eqItems, ← h]
  | k + 1, hk => by
    have hlt : xs.length - (k + 1) < xs.length := by omega
    have e1 : xs.length - (k + 1) + 1 = xs.length - k := by omega
    have px : (part e (ints xs).toArray (xs.length - (k + 1))).run P w = .ok (.int .i64 xs[xs.length - (k + 1)]) w := run_part1 w he rfl _ _ _ (by simp [ints, hlt])
    have py : (part e (ints ys).toArray (xs.length - (k + 1))).run P w = .ok (.int .i64 (ys[xs.length - (k + 1)]'(by omega))) w := run_part1 w he rfl _ _ _ (by simp [ints, show xs.length - (k + 1) < ys.length by omega])
    have ih := run_eqItems_ints he d xs ys h k (by omega)
    rw [List.range'_succ]
    simp only [Op.eqItems, Sem.run_bind, Nat.mul_one, px, py, Result.andThen_ok, run_equalIn_int w d e .i64 .i64 _ _ he, e1]
    have dx : xs.drop (xs.length - (k + 1)) = xs[xs.length - (k + 1)] :: xs.drop (xs.length - k) := by rw [← e1]; exact List.drop_eq_getElem_cons hlt
    have dy : ys.drop (xs.length - (k + 1)) = ys[xs.length - (k + 1)]'(by omega) :: ys.drop (xs.length - k) := by rw [← e1]; exact List.drop_eq_getElem_cons (by omega)
    rw [dx, dy]
    by_cases hxy : xs[xs.length - (k + 1)] = ys[xs.length - (k + 1)]'(by omega)
    · simp [hxy, ih]
    · simp [hxy]

theorem run_equalIn_ints {t e : TypeId} (he : P.underlying e = some (.int .i64)) (d : Nat) (xs ys : List Int) (h : xs.length = ys.length) (ht : P.underlying t = some (.array xs.length e)) (hz : (P.info? e).map (·.size) = some 1) :
    (Op.equalIn (d + 2) t (.agg (ints xs).toArray) (.agg (ints ys).toArray)).run P w = .ok (decide (xs = ys)) w := by
  cases hi : P.info? e with
  | none => rw [hi] at hz; cases hz
  | some i =>
    rw [hi] at hz
    have hs : P.cellsOf e = 1 := by simp [Program.cellsOf, hi]; simpa using hz
    rw [run_equalIn_array w (d + 1) _ _ ht hi, hs]
    have := run_eqItems_ints w he d xs ys h xs.length (Nat.le_refl _)
    simpa [List.range_eq_range'] using this

theorem run_eql_ints {t e : TypeId} (he : P.underlying e = some (.int .i64)) (xs ys : List Int) (h : xs.length = ys.length) (ht : P.underlying t = some (.array xs.length e)) (hz : (P.info? e).map (·.size) = some 1) :
    (binOp .eql t (.agg (ints xs).toArray) (.agg (ints ys).toArray)).run P w = .ok (.bool (decide (xs = ys))) w := by
  have := run_equalIn_ints w he 9998 xs ys h ht hz
  simp only [binOp]
  simp [Op.equal, Op.maxDepth, this]
theorem run_neq_ints {t e : TypeId} (he : P.underlying e = some (.int .i64)) (xs ys : List Int) (h : xs.length = ys.length) (ht : P.underlying t = some (.array xs.length e)) (hz : (P.info? e).map (·.size) = some 1) :
    (binOp .neq t (.agg (ints xs).toArray) (.agg (ints ys).toArray)).run P w = .ok (.bool (!decide (xs = ys))) w := by
  have := run_equalIn_ints w he 9998 xs ys h ht hz
  simp only [binOp]
  simp [Op.equal, Op.maxDepth, this]
theorem eqGuard_agg {op : BinOp} {t : TypeId} {x y : Operand} {xs ys : Array Value} (hm : P.eqGuardType P.depth t = false) : (eqGuard op t x y (.agg xs) (.agg ys)).run P w = .ok () w := run_eqGuard_agg w op t x y xs ys hm
end
end Go.Proofs.Ytcfbdfgondmkoaa
