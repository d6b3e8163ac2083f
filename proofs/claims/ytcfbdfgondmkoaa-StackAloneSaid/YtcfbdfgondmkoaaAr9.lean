/- Arenas: Bad, a load, by the document. -/
import Derived.Test.YtcfbdfgondmkoaaAr8
namespace Go.Proofs.Ytcfbdfgondmkoaa
open Go Go.RowKit
set_option linter.unusedSimpArgs false
set_option linter.unusedVariables false

theorem refBad_ (N : Nat → Prop) (v : Value) (m : Arena) (x : Int) (w : World) (h : IsMem N w v m) (hf : Fits m) : Gives Proofs.Try.prog 124 #[v, .int .i64 x] w (eqv (.bool (badAt m x))) := by
  have kn := fun (w' : World) (e : Ext w w') => refNode_ N v m x w' (h.ext e) hf
  obtain ⟨n0, n1⟩ := nodeD_lt hf x
  obtain ⟨k, hk⟩ : ∃ k : Nat, nodeD m.W.length x = k := ⟨(nodeD m.W.length x).toNat, by omega⟩
  rw [hk] at kn n1
  obtain ⟨aw, cw, ag, cg, rfl, hw, hg⟩ := h.opened
  obtain ⟨_, _, e0, rg, lg, cgc⟩ := hg.opened
  cases e0
  by_cases h1 : x < 0
  · have hbad : badAt m x = true := by simp [badAt, outside, h1]
    go_enter Proofs.Try.func124, Proofs.Try.ntmps124
    go_wp2
    go_ret
    exact ⟨_, rfl, (by with_reducible (repeat (first | assumption | exact Ext.refl _ | refine Ext.alloc' ?_ _ | refine Ext.store0 ?_ _ _ | refine Ext.storek ?_ _ _ _ | refine Ext.stores0 ?_ ?_ _ _ | refine Ext.storesk ?_ ?_ _ _ _ | refine Ext.drewN' ?_ _ | refine Ext.drew' ?_ | refine Ext.trans ?_ (by assumption)))), by first | rfl | (rw [hbad]; rfl)⟩
  · by_cases h2 : (m.W.length : Int) ≤ x
    · have hbad : badAt m x = true := by simp [badAt, outside, h2]
      go_enter Proofs.Try.func124, Proofs.Try.ntmps124
      go_wp2
      go_ret
      exact ⟨_, rfl, (by with_reducible (repeat (first | assumption | exact Ext.refl _ | refine Ext.alloc' ?_ _ | refine Ext.store0 ?_ _ _ | refine Ext.storek ?_ _ _ _ | refine Ext.stores0 ?_ ?_ _ _ | refine Ext.storesk ?_ ?_ _ _ _ | refine Ext.drewN' ?_ _ | refine Ext.drew' ?_ | refine Ext.trans ?_ (by assumption)))), by first | rfl | (rw [hbad]; rfl)⟩
    · cases hb : m.bad <;> rw [hb] at kn
      · by_cases h3 : 0 < k
        · obtain ⟨bg, og, rfl, xg, ng, eg⟩ := cgc k (by omega)
          have h3' : (0 : Int) < (k : Int) := by omega
          by_cases h4 : gi m.G k = 0
          · have h4' : (gi m.G k == 0) = true := by simp [h4]
            have hbad : badAt m x = true := by simp [badAt, freeAt, hk, h3, h4]
            go_enter Proofs.Try.func124, Proofs.Try.ntmps124
            go_wp2_with (fail)
            go_at_call 60; refine (kn _ (by with_reducible (repeat (first | assumption | exact Ext.refl _ | refine Ext.alloc' ?_ _ | refine Ext.store0 ?_ _ _ | refine Ext.storek ?_ _ _ _ | refine Ext.stores0 ?_ ?_ _ _ | refine Ext.storesk ?_ ?_ _ _ _ | refine Ext.drewN' ?_ _ | refine Ext.drew' ?_ | refine Ext.trans ?_ (by assumption))))).calls.mono ?_; rintro e w1 ⟨_, rfl, hb1, rfl⟩; obtain ⟨q1, f1⟩ := bcell hb1; have z1_0 : w.heap.size < w1.heap.size := (by have := hb1.size; first | omega | (simp at this; omega))
            have eg1 := cell_ext eg ((by with_reducible (repeat (first | assumption | exact Ext.refl _ | refine Ext.alloc' ?_ _ | refine Ext.store0 ?_ _ _ | refine Ext.storek ?_ _ _ _ | refine Ext.stores0 ?_ ?_ _ _ | refine Ext.storesk ?_ ?_ _ _ _ | refine Ext.drewN' ?_ _ | refine Ext.drew' ?_ | refine Ext.trans ?_ (by assumption)))) : Ext w w1)
            go_wp2
            go_ret
            exact ⟨_, rfl, (by with_reducible (repeat (first | assumption | exact Ext.refl _ | refine Ext.alloc' ?_ _ | refine Ext.store0 ?_ _ _ | refine Ext.storek ?_ _ _ _ | refine Ext.stores0 ?_ ?_ _ _ | refine Ext.storesk ?_ ?_ _ _ _ | refine Ext.drewN' ?_ _ | refine Ext.drew' ?_ | refine Ext.trans ?_ (by assumption)))), by first | rfl | (rw [hbad]; rfl)⟩
          · have h4' : (gi m.G k == 0) = false := by simp [h4]
            have hbad : badAt m x = false := by simp [badAt, outside, freeAt, hk, h1, h2, h3, h4, hb]
            go_enter Proofs.Try.func124, Proofs.Try.ntmps124
            go_wp2_with (fail)
            go_at_call 60; refine (kn _ (by with_reducible (repeat (first | assumption | exact Ext.refl _ | refine Ext.alloc' ?_ _ | refine Ext.store0 ?_ _ _ | refine Ext.storek ?_ _ _ _ | refine Ext.stores0 ?_ ?_ _ _ | refine Ext.storesk ?_ ?_ _ _ _ | refine Ext.drewN' ?_ _ | refine Ext.drew' ?_ | refine Ext.trans ?_ (by assumption))))).calls.mono ?_; rintro e w1 ⟨_, rfl, hb1, rfl⟩; obtain ⟨q1, f1⟩ := bcell hb1; have z1_0 : w.heap.size < w1.heap.size := (by have := hb1.size; first | omega | (simp at this; omega))
            have eg1 := cell_ext eg ((by with_reducible (repeat (first | assumption | exact Ext.refl _ | refine Ext.alloc' ?_ _ | refine Ext.store0 ?_ _ _ | refine Ext.storek ?_ _ _ _ | refine Ext.stores0 ?_ ?_ _ _ | refine Ext.storesk ?_ ?_ _ _ _ | refine Ext.drewN' ?_ _ | refine Ext.drew' ?_ | refine Ext.trans ?_ (by assumption)))) : Ext w w1)
            go_wp2
            go_ret
            exact ⟨_, rfl, (by with_reducible (repeat (first | assumption | exact Ext.refl _ | refine Ext.alloc' ?_ _ | refine Ext.store0 ?_ _ _ | refine Ext.storek ?_ _ _ _ | refine Ext.stores0 ?_ ?_ _ _ | refine Ext.storesk ?_ ?_ _ _ _ | refine Ext.drewN' ?_ _ | refine Ext.drew' ?_ | refine Ext.trans ?_ (by assumption)))), by first | rfl | (rw [hbad]; rfl)⟩
        · obtain rfl : k = 0 := by omega
          have hbad : badAt m x = false := by simp [badAt, outside, freeAt, hk, h1, h2, hb]
          go_enter Proofs.Try.func124, Proofs.Try.ntmps124
          go_wp2_with (fail)
          go_at_call 60; refine (kn _ (by with_reducible (repeat (first | assumption | exact Ext.refl _ | refine Ext.alloc' ?_ _ | refine Ext.store0 ?_ _ _ | refine Ext.storek ?_ _ _ _ | refine Ext.stores0 ?_ ?_ _ _ | refine Ext.storesk ?_ ?_ _ _ _ | refine Ext.drewN' ?_ _ | refine Ext.drew' ?_ | refine Ext.trans ?_ (by assumption))))).calls.mono ?_; rintro e w1 ⟨_, rfl, hb1, rfl⟩; obtain ⟨q1, f1⟩ := bcell hb1; have z1_0 : w.heap.size < w1.heap.size := (by have := hb1.size; first | omega | (simp at this; omega))
          go_wp2
          go_ret
          exact ⟨_, rfl, (by with_reducible (repeat (first | assumption | exact Ext.refl _ | refine Ext.alloc' ?_ _ | refine Ext.store0 ?_ _ _ | refine Ext.storek ?_ _ _ _ | refine Ext.stores0 ?_ ?_ _ _ | refine Ext.storesk ?_ ?_ _ _ _ | refine Ext.drewN' ?_ _ | refine Ext.drew' ?_ | refine Ext.trans ?_ (by assumption)))), by first | rfl | (rw [hbad]; rfl)⟩
      · have hbad : badAt m x = true := by simp [badAt, hb]
        go_enter Proofs.Try.func124, Proofs.Try.ntmps124
        go_wp2_with (fail)
        go_at_call 60; refine (kn _ (by with_reducible (repeat (first | assumption | exact Ext.refl _ | refine Ext.alloc' ?_ _ | refine Ext.store0 ?_ _ _ | refine Ext.storek ?_ _ _ _ | refine Ext.stores0 ?_ ?_ _ _ | refine Ext.storesk ?_ ?_ _ _ _ | refine Ext.drewN' ?_ _ | refine Ext.drew' ?_ | refine Ext.trans ?_ (by assumption))))).calls.mono ?_; rintro e w1 ⟨_, rfl, hb1, rfl⟩; obtain ⟨q1, f1⟩ := bcell hb1; have z1_0 : w.heap.size < w1.heap.size := (by have := hb1.size; first | omega | (simp at this; omega))
        go_wp2
        go_ret
        exact ⟨_, rfl, (by with_reducible (repeat (first | assumption | exact Ext.refl _ | refine Ext.alloc' ?_ _ | refine Ext.store0 ?_ _ _ | refine Ext.storek ?_ _ _ _ | refine Ext.stores0 ?_ ?_ _ _ | refine Ext.storesk ?_ ?_ _ _ _ | refine Ext.drewN' ?_ _ | refine Ext.drew' ?_ | refine Ext.trans ?_ (by assumption)))), by first | rfl | (rw [hbad]; rfl)⟩
end Go.Proofs.Ytcfbdfgondmkoaa
