/- Arenas and rows of integers among a law's arguments. -/
import Derived.Test.YtcfbdfgondmkoaaAr19
import Derived.Test.YtcfbdfgondmkoaaRd
namespace Go.Proofs.Ytcfbdfgondmkoaa
open Go Go.RowKit Go.WideShapes
set_option linter.unusedSimpArgs false
set_option linter.unusedVariables false
set_option linter.unnecessarySimpa false

section
variable {H : Type} {enc : TypeId × Value → H} {w : World} {cs : List Value}
theorem Rd.ints (h : Rd enc Proofs.Try.prog w 48 cs) : ∃ v l, cs = [v] ∧ IsInts no w v l := by
  rcases Rd.slice h Proofs.Try.underlying48 with rfl | ⟨a, len, cap, rfl, hl, hm, hx⟩
  · exact ⟨_, [], rfl, none, 0, rfl, by simp, by omega, fun _ => rfl, fun i hi => by simp at hi⟩
  · have hz : Proofs.Try.prog.cellsOf 3 = 1 := by kernel_rfl
    rw [hz] at hx
    have hc : ∀ i, i < cap → ∃ n, w.cell? (a.add i) = some (.int .i64 n) := fun i hi => by
      obtain ⟨cs', h1, h2⟩ := hx i hi
      obtain ⟨n, rfl, _⟩ := Rd.int (k := .i64) h2 Proofs.Try.underlying3
      obtain ⟨_, _, h3⟩ := World.cells?_some h1
      have := h3 0 (by omega)
      rw [Nat.mul_one] at this
      have e : (a.add i).add 0 = a.add i := by unfold Addr.add; simp
      rw [e] at this
      exact ⟨n, by simpa using this⟩
    obtain ⟨f, hf⟩ : ∃ f : Nat → Int, ∀ i, i < cap → w.cell? (a.add i) = some (.int .i64 (f i)) :=
      ⟨fun i => if hi : i < cap then Classical.choose (hc i hi) else 0, fun i hi => by simp only [dif_pos hi]; exact Classical.choose_spec (hc i hi)⟩
    refine ⟨_, (List.range len).map f, rfl, some a, cap, by simp, by simpa using hl, by simpa [maxLen] using hm, fun e => by simp at e, fun i hi => ?_⟩
    have hi' : i < len := by simpa using hi
    have h1 := hf i (by omega)
    obtain ⟨b, off, spot⟩ := a
    have hspot : spot = none := by
      have := World.cell?_spot (hf 0 (by omega))
      simpa [Addr.add] using this
    subst hspot
    have hadd : (⟨b, off, none⟩ : Addr).add i = ⟨b, off + i, none⟩ := by unfold Addr.add; split <;> simp_all
    rw [hadd] at h1
    refine ⟨b, off, rfl, World.block_lt_of_cell? w _ h1, id, ?_⟩
    rw [h1]
    simp [gi, List.getD_eq_getElem?_getD, hi']
theorem Rd.mem (h : Rd enc Proofs.Try.prog w 50 cs) : ∃ v0 v1 v2 m, cs = [v0, v1, v2] ∧ IsMem no w (.agg #[v0, v1, v2]) m := by
  have h0 := Rd.field h Proofs.Try.underlying50 0 (n := 1) rfl (by kernel_rfl)
  have h1 := Rd.field h Proofs.Try.underlying50 1 (n := 1) rfl (by kernel_rfl)
  have h2 := Rd.field h Proofs.Try.underlying50 2 (n := 1) rfl (by kernel_rfl)
  have hl := (Rd.struct h Proofs.Try.underlying50).1
  have hz : Proofs.Try.prog.cellsOf 50 = 3 := by kernel_rfl
  rw [hz] at hl
  obtain ⟨v0, v1, v2, rfl⟩ : ∃ v0 v1 v2, cs = [v0, v1, v2] := by
    match cs, hl with
    | [a, b, c], _ => exact ⟨a, b, c, rfl⟩
  obtain ⟨u0, l0, e0, i0⟩ := Rd.ints (cs := [v0]) h0
  obtain ⟨u1, l1, e1, i1⟩ := Rd.ints (cs := [v1]) h1
  obtain ⟨b, e2⟩ := Rd.bool (cs := [v2]) h2 Proofs.Try.underlying4
  obtain rfl : v0 = u0 := by simpa using e0
  obtain rfl : v1 = u1 := by simpa using e1
  obtain rfl : v2 = .bool b := by simpa using e2
  exact ⟨_, _, _, ⟨l0, l1, b⟩, rfl, _, _, rfl, i0, i1⟩
end
end Go.Proofs.Ytcfbdfgondmkoaa
