/- Rows of small integers among a law's arguments. -/
import Derived.Test.YtcfbdfgondmkoaaRdM
namespace Go.Proofs.Ytcfbdfgondmkoaa
open Go Go.RowKit Go.WideShapes
set_option linter.unusedSimpArgs false
set_option linter.unusedVariables false
set_option linter.unnecessarySimpa false

/-- a row of integers of a kind -/
def IsNums (k : IntKind) (w : World) (v : Value) (l : List Int) : Prop :=
  ∃ a cap, v = .slice a l.length cap ∧ l.length ≤ cap ∧ cap ≤ 9223372036854775807 ∧ ∀ i, i < l.length → ∃ b off, a = some ⟨b, off, none⟩ ∧ b < w.heap.size ∧ w.cell? ⟨b, off + i, none⟩ = some (.int k (gi l i)) ∧ (Lit.int k (gi l i)).wf = true
theorem okWide_slice {P : Program} {w : World} {e t : TypeId} {r : Reach} {base : Nat} {v : Value} (ht : P.underlying t = some (.slice e)) (h : Value.okWide P w r base t v) : ∃ p n c, v = .slice p n c := by
  unfold Value.okWide at h
  rw [ht] at h
  unfold Cell.okWide at h
  rw [ht] at h
  cases v <;> simp [Cell.ok, ht] at h ⊢
section
variable {H : Type} {enc : TypeId × Value → H} {w : World} {cs : List Value}
theorem Rd.nums {k : IntKind} {t e : TypeId} (ht : Proofs.Try.prog.underlying t = some (.slice e)) (he : Proofs.Try.prog.underlying e = some (.int k)) (hz : Proofs.Try.prog.cellsOf e = 1) (h : Rd enc Proofs.Try.prog w t cs) : ∃ v l, cs = [v] ∧ IsNums k w v l := by
  rcases Rd.slice h ht with rfl | ⟨a, len, cap, rfl, hl, hm, hx⟩
  · exact ⟨_, [], rfl, none, 0, rfl, by simp, by omega, fun i hi => by simp at hi⟩
  · rw [hz] at hx
    have hc : ∀ i, i < cap → ∃ n, w.cell? (a.add i) = some (.int k n) ∧ (Lit.int k n).wf = true := fun i hi => by
      obtain ⟨cs', h1, h2⟩ := hx i hi
      obtain ⟨n, rfl, hwf⟩ := Rd.int (k := k) h2 he
      obtain ⟨_, _, h3⟩ := World.cells?_some h1
      have := h3 0 (by omega)
      rw [Nat.mul_one] at this
      have e : (a.add i).add 0 = a.add i := by unfold Addr.add; simp
      rw [e] at this
      exact ⟨n, by simpa using this, hwf⟩
    obtain ⟨f, hf⟩ : ∃ f : Nat → Int, ∀ i, i < cap → w.cell? (a.add i) = some (.int k (f i)) ∧ (Lit.int k (f i)).wf = true :=
      ⟨fun i => if hi : i < cap then Classical.choose (hc i hi) else 0, fun i hi => by simp only [dif_pos hi]; exact Classical.choose_spec (hc i hi)⟩
    refine ⟨_, (List.range len).map f, rfl, some a, cap, by simp, by simpa using hl, by simpa [maxLen] using hm, fun i hi => ?_⟩
    have hi' : i < len := by simpa using hi
    have h1 := (hf i (by omega)).1
    have h2 := (hf i (by omega)).2
    obtain ⟨b, off, spot⟩ := a
    have hspot : spot = none := by
      have := World.cell?_spot (hf 0 (by omega)).1
      simpa [Addr.add] using this
    subst hspot
    have hadd : (⟨b, off, none⟩ : Addr).add i = ⟨b, off + i, none⟩ := by unfold Addr.add; split <;> simp_all
    rw [hadd] at h1
    have hg : gi ((List.range len).map f) i = f i := by simp [gi, List.getD_eq_getElem?_getD, hi']
    rw [hg]
    exact ⟨b, off, rfl, World.block_lt_of_cell? w _ h1, h1, h2⟩
end
end Go.Proofs.Ytcfbdfgondmkoaa
