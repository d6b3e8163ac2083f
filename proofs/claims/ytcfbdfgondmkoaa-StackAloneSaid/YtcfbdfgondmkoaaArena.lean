/- Arenas: what their plain questions answer. -/
import Derived.Test.YtcfbdfgondmkoaaCmp
namespace Go.Proofs.Ytcfbdfgondmkoaa
open Go Go.RowKit
set_option linter.unusedSimpArgs false
set_option linter.unusedVariables false

structure Arena where
  W : List Int
  G : List Int
  bad : Bool

def IsMem (N : Nat → Prop) (w : World) (v : Value) (m : Arena) : Prop := ∃ vw vg, v = .agg #[vw, vg, .bool m.bad] ∧ IsInts N w vw m.W ∧ IsInts N w vg m.G
theorem IsMem.keep {N : Nat → Prop} {w w' : World} {v : Value} {m : Arena} (h : IsMem N w v m) (k : Keep N w w') : IsMem N w' v m := by
  obtain ⟨vw, vg, h0, h1, h2⟩ := h
  exact ⟨vw, vg, h0, h1.keep k, h2.keep k⟩
theorem IsMem.ext {N : Nat → Prop} {w w' : World} {v : Value} {m : Arena} (h : IsMem N w v m) (k : Ext w w') : IsMem N w' v m := h.keep k.keep
theorem IsMem.less {N M : Nat → Prop} {w : World} {v : Value} {m : Arena} (h : IsMem N w v m) (hm : ∀ x, x < w.heap.size → M x → N x) : IsMem M w v m := by
  obtain ⟨vw, vg, h0, h1, h2⟩ := h
  exact ⟨vw, vg, h0, h1.less hm, h2.less hm⟩

/-- whose a place is -/
def nodeD (len : Nat) (at_ : Int) : Int := if at_ < 128 ∨ (len : Int) ≤ at_ ∨ (at_ - 128) % 4 = 0 then 0 else (at_ - 128) / 4 + 1

theorem node_ (N : Nat → Prop) (v : Value) (m : Arena) (x : Int) (w : World) (h : IsMem N w v m) (hx0 : -9223372036854775808 ≤ x) (hx1 : x ≤ 9223372036854775807) : Gives Proofs.Try.prog 59 #[v, .int .i64 x] w (eqv (.int .i64 (nodeD m.W.length x))) := by
  obtain ⟨vw, vg, rfl, hw, hg⟩ := h
  obtain ⟨aw, cw, rfl, rw_, lw, cwc⟩ := hw.opened
  by_cases h1 : x < 128
  · have e : nodeD m.W.length x = 0 := by unfold nodeD; rw [if_pos (.inl h1)]
    go_enter Proofs.Try.func59, Proofs.Try.ntmps59
    go_wp2
    go_ret
    exact ⟨_, rfl, (by repeat (first | assumption | exact Ext.refl _ | refine Ext.trans ?_ (Ext.alloc _ _) | refine Ext.trans ?_ (Ext.drewN _ _) | refine Ext.trans ?_ (Ext.drew _) | refine Ext.trans ?_ (by assumption))), by first | rfl | (rw [e]; rfl)⟩
  · by_cases h2 : (m.W.length : Int) ≤ x
    · have e : nodeD m.W.length x = 0 := by unfold nodeD; rw [if_pos (.inr (.inl h2))]
      go_enter Proofs.Try.func59, Proofs.Try.ntmps59
      go_wp2
      go_ret
      exact ⟨_, rfl, (by repeat (first | assumption | exact Ext.refl _ | refine Ext.trans ?_ (Ext.alloc _ _) | refine Ext.trans ?_ (Ext.drewN _ _) | refine Ext.trans ?_ (Ext.drew _) | refine Ext.trans ?_ (by assumption))), by first | rfl | (rw [e]; rfl)⟩
    · have tm : (x - 128).tmod 4 = (x - 128) % 4 := Int.tmod_eq_emod_of_nonneg (by omega)
      have td : (x - 128).tdiv 4 = (x - 128) / 4 := Int.tdiv_eq_ediv_of_nonneg (by omega)
      by_cases h3 : (x - 128) % 4 = 0
      · have e : nodeD m.W.length x = 0 := by unfold nodeD; rw [if_pos (.inr (.inr h3))]
        have h3' : ((x - 128) % 4 == 0) = true := by simp [h3]
        go_enter Proofs.Try.func59, Proofs.Try.ntmps59
        go_wp2
        go_ret
        exact ⟨_, rfl, (by repeat (first | assumption | exact Ext.refl _ | refine Ext.trans ?_ (Ext.alloc _ _) | refine Ext.trans ?_ (Ext.drewN _ _) | refine Ext.trans ?_ (Ext.drew _) | refine Ext.trans ?_ (by assumption))), by first | rfl | (rw [e]; rfl)⟩
      · have e : nodeD m.W.length x = (x - 128) / 4 + 1 := by unfold nodeD; rw [if_neg (by omega)]
        have h3' : ((x - 128) % 4 == 0) = false := by simp [h3]
        go_enter Proofs.Try.func59, Proofs.Try.ntmps59
        go_wp2
        go_ret
        exact ⟨_, rfl, (by repeat (first | assumption | exact Ext.refl _ | refine Ext.trans ?_ (Ext.alloc _ _) | refine Ext.trans ?_ (Ext.drewN _ _) | refine Ext.trans ?_ (Ext.drew _) | refine Ext.trans ?_ (by assumption))), by first | rfl | (rw [e]; rfl)⟩
end Go.Proofs.Ytcfbdfgondmkoaa
