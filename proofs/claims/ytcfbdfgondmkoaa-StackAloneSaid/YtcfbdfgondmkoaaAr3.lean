/- Arenas: are two the same; is one right. -/
import Derived.Test.YtcfbdfgondmkoaaAr2
namespace Go.Proofs.Ytcfbdfgondmkoaa
open Go Go.RowKit
set_option linter.unusedSimpArgs false
set_option linter.unusedVariables false

def sameD (a b : Arena) : Bool := (a.bad == b.bad) && ((a.W == b.W) && (a.G == b.G))
theorem memSame_ (N : Nat → Prop) (va vb : Value) (a b : Arena) (w : World) (ha : IsMem N w va a) (hb : IsMem N w vb b) : Gives Proofs.Try.prog 56 #[va, vb] w (eqv (.bool (sameD a b))) := by
  obtain ⟨xw, xg, rfl, hxw, hxg⟩ := ha
  obtain ⟨yw, yg, rfl, hyw, hyg⟩ := hb
  have kw := fun (w' : World) (h : Ext w w') => equal_ N xw yw a.W b.W w' (hxw.ext h) (hyw.ext h)
  have kg := fun (w' : World) (h : Ext w w') => equal_ N xg yg a.G b.G w' (hxg.ext h) (hyg.ext h)
  cases h1 : (a.bad == b.bad)
  · go_enter Proofs.Try.func56, Proofs.Try.ntmps56
    go_wp2
    go_ret
    exact ⟨_, rfl, (by repeat (first | assumption | exact Ext.refl _ | refine Ext.trans ?_ (Ext.alloc _ _) | refine Ext.trans ?_ (Ext.drewN _ _) | refine Ext.trans ?_ (Ext.drew _) | refine Ext.trans ?_ (by assumption))), by simp [sameD, h1, eqv]⟩
  · cases h2 : (a.W == b.W)
    · rw [h2] at kw
      go_enter Proofs.Try.func56, Proofs.Try.ntmps56
      go_wp2_with (fail)
      go_at_call 122; refine (kw _ (by repeat (first | assumption | exact Ext.refl _ | refine Ext.trans ?_ (Ext.alloc _ _) | refine Ext.trans ?_ (Ext.drewN _ _) | refine Ext.trans ?_ (Ext.drew _) | refine Ext.trans ?_ (by assumption)))).calls.mono ?_; rintro e w1 ⟨_, rfl, hb1, rfl⟩; obtain ⟨q1, f1⟩ := bcell hb1; have z1_0 : w.heap.size < w1.heap.size := (by have := hb1.size; first | omega | (simp at this; omega)); have z1_1 : w.heap.size + 1 < w1.heap.size := (by have := hb1.size; first | omega | (simp at this; omega))
      go_wp2
      go_ret
      exact ⟨_, rfl, (by repeat (first | assumption | exact Ext.refl _ | refine Ext.trans ?_ (Ext.alloc _ _) | refine Ext.trans ?_ (Ext.drewN _ _) | refine Ext.trans ?_ (Ext.drew _) | refine Ext.trans ?_ (by assumption))), by simp [sameD, h1, h2, eqv]⟩
    · rw [h2] at kw
      go_enter Proofs.Try.func56, Proofs.Try.ntmps56
      go_wp2_with (fail)
      go_at_call 122; refine (kw _ (by repeat (first | assumption | exact Ext.refl _ | refine Ext.trans ?_ (Ext.alloc _ _) | refine Ext.trans ?_ (Ext.drewN _ _) | refine Ext.trans ?_ (Ext.drew _) | refine Ext.trans ?_ (by assumption)))).calls.mono ?_; rintro e w1 ⟨_, rfl, hb1, rfl⟩; obtain ⟨q1, f1⟩ := bcell hb1; have z1_0 : w.heap.size < w1.heap.size := (by have := hb1.size; first | omega | (simp at this; omega)); have z1_1 : w.heap.size + 1 < w1.heap.size := (by have := hb1.size; first | omega | (simp at this; omega))
      go_wp2_with (fail)
      go_at_call 122; refine (kg _ (by repeat (first | assumption | exact Ext.refl _ | refine Ext.trans ?_ (Ext.alloc _ _) | refine Ext.trans ?_ (Ext.drewN _ _) | refine Ext.trans ?_ (Ext.drew _) | refine Ext.trans ?_ (by assumption)))).calls.mono ?_; rintro e w2 ⟨_, rfl, hb2, rfl⟩; obtain ⟨q2, f2⟩ := bcell hb2; have z2_0 : w.heap.size < w2.heap.size := (by have := hb2.size; first | omega | (simp at this; omega)); have z2_1 : w.heap.size + 1 < w2.heap.size := (by have := hb2.size; first | omega | (simp at this; omega))
      go_wp2
      go_ret
      exact ⟨_, rfl, (by repeat (first | assumption | exact Ext.refl _ | refine Ext.trans ?_ (Ext.alloc _ _) | refine Ext.trans ?_ (Ext.drewN _ _) | refine Ext.trans ?_ (Ext.drew _) | refine Ext.trans ?_ (by assumption))), by simp [sameD, h1, h2, eqv]⟩
theorem refSame_ (N : Nat → Prop) (va vb : Value) (a b : Arena) (w : World) (ha : IsMem N w va a) (hb : IsMem N w vb b) : Gives Proofs.Try.prog 54 #[va, vb] w (eqv (.bool (sameD a b))) := by
  obtain ⟨xw, xg, rfl, hxw, hxg⟩ := ha
  obtain ⟨yw, yg, rfl, hyw, hyg⟩ := hb
  have kw := fun (w' : World) (h : Ext w w') => refInts_ N xw yw a.W b.W w' (hxw.ext h) (hyw.ext h)
  have kg := fun (w' : World) (h : Ext w w') => refInts_ N xg yg a.G b.G w' (hxg.ext h) (hyg.ext h)
  cases h1 : (a.bad == b.bad) <;> cases h2 : (a.W == b.W) <;> cases h3 : (a.G == b.G) <;> rw [h2] at kw <;> rw [h3] at kg
  all_goals
    go_enter Proofs.Try.func54, Proofs.Try.ntmps54
    go_wp2_with (fail)
    go_at_call 72; refine (kw _ (by repeat (first | assumption | exact Ext.refl _ | refine Ext.trans ?_ (Ext.alloc _ _) | refine Ext.trans ?_ (Ext.drewN _ _) | refine Ext.trans ?_ (Ext.drew _) | refine Ext.trans ?_ (by assumption)))).calls.mono ?_; rintro e w1 ⟨_, rfl, hb1, rfl⟩; obtain ⟨q1, f1⟩ := bcell hb1; have z1_0 : w.heap.size < w1.heap.size := (by have := hb1.size; first | omega | (simp at this; omega)); have z1_1 : w.heap.size + 1 < w1.heap.size := (by have := hb1.size; first | omega | (simp at this; omega))
    go_wp2_with (fail)
    go_at_call 72; refine (kg _ (by repeat (first | assumption | exact Ext.refl _ | refine Ext.trans ?_ (Ext.alloc _ _) | refine Ext.trans ?_ (Ext.drewN _ _) | refine Ext.trans ?_ (Ext.drew _) | refine Ext.trans ?_ (by assumption)))).calls.mono ?_; rintro e w2 ⟨_, rfl, hb2, rfl⟩; obtain ⟨q2, f2⟩ := bcell hb2; have z2_0 : w.heap.size < w2.heap.size := (by have := hb2.size; first | omega | (simp at this; omega)); have z2_1 : w.heap.size + 1 < w2.heap.size := (by have := hb2.size; first | omega | (simp at this; omega))
    go_wp2
    go_ret
    exact ⟨_, rfl, (by repeat (first | assumption | exact Ext.refl _ | refine Ext.trans ?_ (Ext.alloc _ _) | refine Ext.trans ?_ (Ext.drewN _ _) | refine Ext.trans ?_ (Ext.drew _) | refine Ext.trans ?_ (by assumption))), by simp [sameD, h1, h2, h3, eqv]⟩
end Go.Proofs.Ytcfbdfgondmkoaa
