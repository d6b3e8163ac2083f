/- Texts of this work, put together: Haz2. -/
import Derived.Test.YtcfbdfgondmkoaaM9
import Derived.Test.YtcfbdfgondmkoaaM10
/- What a system that may be is like, for chapter 5's statements. -/
namespace Go.Proofs.Ytcfbdfgondmkoaa
open Go Go.RowKit
set_option linter.unusedSimpArgs false
set_option linter.unusedVariables false
set_option linter.unnecessarySimpa false

theorem right5 {m : Arena} (h : rightD m = true) : 2 ≤ m.G.length ∧ m.G.length ≤ 201 ∧ m.W.length = 128 + 4 * (m.G.length - 1) ∧ gi m.G 0 = 0 := by
  unfold rightD at h
  simp only [Bool.and_eq_true, decide_eq_true_eq] at h
  exact h.1
theorem near5 {f : FrameD} (h : longF f = false) (i : Nat) : -2305843009213693952 ≤ gi f.R i ∧ gi f.R i ≤ 2305843009213693952 := by
  unfold longF at h
  rw [Bool.or_eq_false_iff] at h
  have h2 := List.any_eq_false.1 h.2
  unfold gi
  rw [List.getD_eq_getElem?_getD]
  cases hx : f.R[i]? with
  | none => simp
  | some x =>
    have := h2 x (List.mem_of_getElem? hx)
    simp [farB] at this
    simp only [Option.getD_some]
    omega
structure May5 (s : SysD) : Prop where
  c8 : s.C.length ≤ 8
  c1 : 1 ≤ s.C.length
  l : s.L.length ≤ 200
  fit : Fits s.M
  f40 : ∀ (i : Nat) c, s.C[i]? = some c → c.F.length ≤ 40
  g2 : 2 ≤ s.M.G.length
  g201 : s.M.G.length ≤ 201
  w : s.M.W.length = 128 + 4 * (s.M.G.length - 1)
  reg : ∀ (id : Int) f, topD s id = some f → ∀ i, -2305843009213693952 ≤ gi f.R i ∧ gi f.R i ≤ 2305843009213693952
theorem may5 {s : SysD} {n : Nat} (h : mayS s n = true) : May5 s := by
  simp only [mayS, smallS, rightS, Bool.and_eq_true, decide_eq_true_eq, Bool.not_eq_true'] at h
  obtain ⟨⟨_, h1, h2, _⟩, h5, h3, h6, h4⟩ := h
  rw [List.any_eq_false] at h4
  obtain ⟨r2, r201, rW, _⟩ := right5 h5
  refine ⟨h6, h3, h2, ⟨by omega, by omega, by omega⟩, fun i c hi => ?_, r2, r201, rW, fun id f hf i => ?_⟩
  · have := h4 c (List.mem_of_getElem? hi)
    simp [oddC] at this
    omega
  · obtain ⟨k, c, rfl, hk, _, hl⟩ := top_some hf
    have h8 := h4 c (List.mem_of_getElem? hk)
    refine near5 ?_ i
    cases hlf : longF f with
    | false => rfl
    | true =>
      exfalso
      apply h8
      unfold oddC
      have : c.F.any longF = true := List.any_eq_true.2 ⟨f, List.mem_of_getElem? hl, hlf⟩
      rw [this]
      simp
end Go.Proofs.Ytcfbdfgondmkoaa
