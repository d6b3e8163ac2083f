/- Arenas: a word is touched. -/
import Derived.Test.YtcfbdfgondmkoaaBoxes
namespace Go.Proofs.Ytcfbdfgondmkoaa
open Go Go.RowKit
set_option linter.unusedSimpArgs false
set_option linter.unusedVariables false

/-- what an arena's shape is -/
def Fits (m : Arena) : Prop := m.W.length = 128 + 4 * (m.G.length - 1) ∧ 1 ≤ m.G.length ∧ m.G.length ≤ 201
theorem Fits.of_right {m : Arena} (h : rightD m = true) : Fits m := by
  simp [rightD] at h
  exact ⟨h.1.2.2.1, by omega, by omega⟩
theorem nodeD_lt {m : Arena} (h : Fits m) (x : Int) : 0 ≤ nodeD m.W.length x ∧ nodeD m.W.length x < m.G.length := by
  obtain ⟨h1, h2, h3⟩ := h
  unfold nodeD
  split <;> omega
def freeAt (m : Arena) (x : Int) : Bool := decide (0 < nodeD m.W.length x) && (gi m.G (nodeD m.W.length x).toNat == 0)
def outside (m : Arena) (x : Int) : Bool := decide (x < 0) || decide ((m.W.length : Int) ≤ x)
def badAt (m : Arena) (x : Int) : Bool := m.bad || outside m x || freeAt m x
def touchD (m : Arena) (x : Int) : Arena := { m with bad := badAt m x }

set_option maxRecDepth 100000 in
theorem touch_ (N : Nat → Prop) (v : Value) (m : Arena) (x : Int) (w : World) (h : IsMem N w v m) (hf : Fits m) (hN : ∀ b, N b → b < w.heap.size) (hx0 : -9223372036854775808 ≤ x) (hx1 : x ≤ 9223372036854775807) : Gives Proofs.Try.prog 123 #[v, .int .i64 x, .nilFunc] w (fun r w' => IsMem N w' r (touchD m x)) := by
  have kn := fun (w' : World) (e : Ext w w') => node_ N v m x w' (h.ext e) hx0 hx1
  obtain ⟨n0, n1⟩ := nodeD_lt hf x
  obtain ⟨k, hk⟩ : ∃ k : Nat, nodeD m.W.length x = k := ⟨(nodeD m.W.length x).toNat, by omega⟩
  rw [hk] at kn n1
  obtain ⟨vw, vg, rfl, hw, hg⟩ := h
  obtain ⟨aw, cw, rfl, rw_, lw, cwc⟩ := hw.opened
  obtain ⟨ag, cg, rfl, rg, lg, cgc⟩ := hg.opened
  by_cases h1 : x < 0
  · have hbad : badAt m x = true := by simp [badAt, outside, h1]
    go_enter Proofs.Try.func123, Proofs.Try.ntmps123
    go_wp2_with (fail)
    go_at_call 59; refine (kn _ (by with_reducible (repeat (first | assumption | exact Ext.refl _ | refine Ext.alloc' ?_ _ | refine Ext.store0 ?_ _ _ | refine Ext.storek ?_ _ _ _ | refine Ext.stores0 ?_ ?_ _ _ | refine Ext.storesk ?_ ?_ _ _ _ | refine Ext.drewN' ?_ _ | refine Ext.drew' ?_ | refine Ext.trans ?_ (by assumption))))).calls.mono ?_; rintro e w1 ⟨_, rfl, hb1, rfl⟩; obtain ⟨q1, f1⟩ := bcell hb1; have z1_0 : w.heap.size < w1.heap.size := (by have := hb1.size; first | omega | (simp at this; omega)); have z1_1 : w.heap.size + 1 < w1.heap.size := (by have := hb1.size; first | omega | (simp at this; omega))
    have B0 : Box w1 w.heap.size #[.slice aw m.W.length cw, .slice ag m.G.length cg, .bool m.bad] 50 := ((Box.new _ _ _).alloc _).ext hb1
    have B1 : Box w1 (w.heap.size + 1) #[.slice none 0 0, .slice none 0 0, .bool false] 50 := Box.ext (by simpa using Box.new (w.alloc (Obj.cells #[.slice aw m.W.length cw, .slice ag m.G.length cg, .bool m.bad] 50)) #[.slice none 0 0, .slice none 0 0, .bool false] 50) hb1
    obtain ⟨c00, c01, c02, d00, d01, d02⟩ := cells3 B0
    obtain ⟨c10, c11, c12, d10, d11, d12⟩ := cells3 B1
    go_wp2
    have BF : Box ((((w1.setCell ⟨w.heap.size, 2, none⟩ (.bool true)).setCell ⟨w.heap.size + 1, 0, none⟩ (.slice aw m.W.length cw)).setCell ⟨w.heap.size + 1, 1, none⟩ (.slice ag m.G.length cg)).setCell ⟨w.heap.size + 1, 2, none⟩ (.bool true)) (w.heap.size + 1) #[.slice aw m.W.length cw, .slice ag m.G.length cg, .bool true] 50 := (((B1.setOther (by omega) _).setCell _).setCell _).setCell _
    exact bodyPost_ret (ret_cell BF Proofs.Try.results123 rfl Proofs.Try.underlying50 rfl (by kernel_rfl)) rfl ⟨_, rfl, (by with_reducible (repeat (first | assumption | exact Ext.refl _ | refine Ext.alloc' ?_ _ | refine Ext.store0 ?_ _ _ | refine Ext.storek ?_ _ _ _ | refine Ext.stores0 ?_ ?_ _ _ | refine Ext.storesk ?_ ?_ _ _ _ | refine Ext.drewN' ?_ _ | refine Ext.drew' ?_ | refine Ext.trans ?_ (by assumption)))), ⟨_, _, by rw [← hbad]; rfl, hw.ext (by with_reducible (repeat (first | assumption | exact Ext.refl _ | refine Ext.alloc' ?_ _ | refine Ext.store0 ?_ _ _ | refine Ext.storek ?_ _ _ _ | refine Ext.stores0 ?_ ?_ _ _ | refine Ext.storesk ?_ ?_ _ _ _ | refine Ext.drewN' ?_ _ | refine Ext.drew' ?_ | refine Ext.trans ?_ (by assumption)))), hg.ext (by with_reducible (repeat (first | assumption | exact Ext.refl _ | refine Ext.alloc' ?_ _ | refine Ext.store0 ?_ _ _ | refine Ext.storek ?_ _ _ _ | refine Ext.stores0 ?_ ?_ _ _ | refine Ext.storesk ?_ ?_ _ _ _ | refine Ext.drewN' ?_ _ | refine Ext.drew' ?_ | refine Ext.trans ?_ (by assumption))))⟩⟩
  · by_cases h2 : (m.W.length : Int) ≤ x
    · have hbad : badAt m x = true := by simp [badAt, outside, h2]
      go_enter Proofs.Try.func123, Proofs.Try.ntmps123
      go_wp2_with (fail)
      go_at_call 59; refine (kn _ (by with_reducible (repeat (first | assumption | exact Ext.refl _ | refine Ext.alloc' ?_ _ | refine Ext.store0 ?_ _ _ | refine Ext.storek ?_ _ _ _ | refine Ext.stores0 ?_ ?_ _ _ | refine Ext.storesk ?_ ?_ _ _ _ | refine Ext.drewN' ?_ _ | refine Ext.drew' ?_ | refine Ext.trans ?_ (by assumption))))).calls.mono ?_; rintro e w1 ⟨_, rfl, hb1, rfl⟩; obtain ⟨q1, f1⟩ := bcell hb1; have z1_0 : w.heap.size < w1.heap.size := (by have := hb1.size; first | omega | (simp at this; omega)); have z1_1 : w.heap.size + 1 < w1.heap.size := (by have := hb1.size; first | omega | (simp at this; omega))
      have B0 : Box w1 w.heap.size #[.slice aw m.W.length cw, .slice ag m.G.length cg, .bool m.bad] 50 := ((Box.new _ _ _).alloc _).ext hb1
      have B1 : Box w1 (w.heap.size + 1) #[.slice none 0 0, .slice none 0 0, .bool false] 50 := Box.ext (by simpa using Box.new (w.alloc (Obj.cells #[.slice aw m.W.length cw, .slice ag m.G.length cg, .bool m.bad] 50)) #[.slice none 0 0, .slice none 0 0, .bool false] 50) hb1
      obtain ⟨c00, c01, c02, d00, d01, d02⟩ := cells3 B0
      obtain ⟨c10, c11, c12, d10, d11, d12⟩ := cells3 B1
      go_wp2
      have BF : Box ((((w1.setCell ⟨w.heap.size, 2, none⟩ (.bool true)).setCell ⟨w.heap.size + 1, 0, none⟩ (.slice aw m.W.length cw)).setCell ⟨w.heap.size + 1, 1, none⟩ (.slice ag m.G.length cg)).setCell ⟨w.heap.size + 1, 2, none⟩ (.bool true)) (w.heap.size + 1) #[.slice aw m.W.length cw, .slice ag m.G.length cg, .bool true] 50 := (((B1.setOther (by omega) _).setCell _).setCell _).setCell _
      exact bodyPost_ret (ret_cell BF Proofs.Try.results123 rfl Proofs.Try.underlying50 rfl (by kernel_rfl)) rfl ⟨_, rfl, (by with_reducible (repeat (first | assumption | exact Ext.refl _ | refine Ext.alloc' ?_ _ | refine Ext.store0 ?_ _ _ | refine Ext.storek ?_ _ _ _ | refine Ext.stores0 ?_ ?_ _ _ | refine Ext.storesk ?_ ?_ _ _ _ | refine Ext.drewN' ?_ _ | refine Ext.drew' ?_ | refine Ext.trans ?_ (by assumption)))), ⟨_, _, by rw [← hbad]; rfl, hw.ext (by with_reducible (repeat (first | assumption | exact Ext.refl _ | refine Ext.alloc' ?_ _ | refine Ext.store0 ?_ _ _ | refine Ext.storek ?_ _ _ _ | refine Ext.stores0 ?_ ?_ _ _ | refine Ext.storesk ?_ ?_ _ _ _ | refine Ext.drewN' ?_ _ | refine Ext.drew' ?_ | refine Ext.trans ?_ (by assumption)))), hg.ext (by with_reducible (repeat (first | assumption | exact Ext.refl _ | refine Ext.alloc' ?_ _ | refine Ext.store0 ?_ _ _ | refine Ext.storek ?_ _ _ _ | refine Ext.stores0 ?_ ?_ _ _ | refine Ext.storesk ?_ ?_ _ _ _ | refine Ext.drewN' ?_ _ | refine Ext.drew' ?_ | refine Ext.trans ?_ (by assumption))))⟩⟩
    · by_cases h3 : 0 < k
      · obtain ⟨bg, og, rfl, xg, ng, eg⟩ := cgc k (by omega)
        have h3' : (0 : Int) < (k : Int) := by omega
        by_cases h4 : gi m.G k = 0
        · have h4' : (gi m.G k == 0) = true := by simp [h4]
          have hbad : badAt m x = true := by simp [badAt, freeAt, hk, h3, h4]
          go_enter Proofs.Try.func123, Proofs.Try.ntmps123
          go_wp2_with (fail)
          go_at_call 59; refine (kn _ (by with_reducible (repeat (first | assumption | exact Ext.refl _ | refine Ext.alloc' ?_ _ | refine Ext.store0 ?_ _ _ | refine Ext.storek ?_ _ _ _ | refine Ext.stores0 ?_ ?_ _ _ | refine Ext.storesk ?_ ?_ _ _ _ | refine Ext.drewN' ?_ _ | refine Ext.drew' ?_ | refine Ext.trans ?_ (by assumption))))).calls.mono ?_; rintro e w1 ⟨_, rfl, hb1, rfl⟩; obtain ⟨q1, f1⟩ := bcell hb1; have z1_0 : w.heap.size < w1.heap.size := (by have := hb1.size; first | omega | (simp at this; omega)); have z1_1 : w.heap.size + 1 < w1.heap.size := (by have := hb1.size; first | omega | (simp at this; omega))
          have B0 : Box w1 w.heap.size #[.slice aw m.W.length cw, .slice (some ⟨bg, og, none⟩) m.G.length cg, .bool m.bad] 50 := ((Box.new _ _ _).alloc _).ext hb1
          have B1 : Box w1 (w.heap.size + 1) #[.slice none 0 0, .slice none 0 0, .bool false] 50 := Box.ext (by simpa using Box.new (w.alloc (Obj.cells #[.slice aw m.W.length cw, .slice (some ⟨bg, og, none⟩) m.G.length cg, .bool m.bad] 50)) #[.slice none 0 0, .slice none 0 0, .bool false] 50) hb1
          obtain ⟨c00, c01, c02, d00, d01, d02⟩ := cells3 B0
          obtain ⟨c10, c11, c12, d10, d11, d12⟩ := cells3 B1
          have eg1 := cell_ext eg ((by with_reducible (repeat (first | assumption | exact Ext.refl _ | refine Ext.alloc' ?_ _ | refine Ext.store0 ?_ _ _ | refine Ext.storek ?_ _ _ _ | refine Ext.stores0 ?_ ?_ _ _ | refine Ext.storesk ?_ ?_ _ _ _ | refine Ext.drewN' ?_ _ | refine Ext.drew' ?_ | refine Ext.trans ?_ (by assumption)))) : Ext w w1)
          go_wp2
          have BF : Box ((((w1.setCell ⟨w.heap.size, 2, none⟩ (.bool true)).setCell ⟨w.heap.size + 1, 0, none⟩ (.slice aw m.W.length cw)).setCell ⟨w.heap.size + 1, 1, none⟩ (.slice (some ⟨bg, og, none⟩) m.G.length cg)).setCell ⟨w.heap.size + 1, 2, none⟩ (.bool true)) (w.heap.size + 1) #[.slice aw m.W.length cw, .slice (some ⟨bg, og, none⟩) m.G.length cg, .bool true] 50 := (((B1.setOther (by omega) _).setCell _).setCell _).setCell _
          exact bodyPost_ret (ret_cell BF Proofs.Try.results123 rfl Proofs.Try.underlying50 rfl (by kernel_rfl)) rfl ⟨_, rfl, (by with_reducible (repeat (first | assumption | exact Ext.refl _ | refine Ext.alloc' ?_ _ | refine Ext.store0 ?_ _ _ | refine Ext.storek ?_ _ _ _ | refine Ext.stores0 ?_ ?_ _ _ | refine Ext.storesk ?_ ?_ _ _ _ | refine Ext.drewN' ?_ _ | refine Ext.drew' ?_ | refine Ext.trans ?_ (by assumption)))), ⟨_, _, by rw [← hbad]; rfl, hw.ext (by with_reducible (repeat (first | assumption | exact Ext.refl _ | refine Ext.alloc' ?_ _ | refine Ext.store0 ?_ _ _ | refine Ext.storek ?_ _ _ _ | refine Ext.stores0 ?_ ?_ _ _ | refine Ext.storesk ?_ ?_ _ _ _ | refine Ext.drewN' ?_ _ | refine Ext.drew' ?_ | refine Ext.trans ?_ (by assumption)))), hg.ext (by with_reducible (repeat (first | assumption | exact Ext.refl _ | refine Ext.alloc' ?_ _ | refine Ext.store0 ?_ _ _ | refine Ext.storek ?_ _ _ _ | refine Ext.stores0 ?_ ?_ _ _ | refine Ext.storesk ?_ ?_ _ _ _ | refine Ext.drewN' ?_ _ | refine Ext.drew' ?_ | refine Ext.trans ?_ (by assumption))))⟩⟩
        · have h4' : (gi m.G k == 0) = false := by simp [h4]
          have hbad : badAt m x = m.bad := by simp [badAt, outside, freeAt, hk, h1, h2, h3, h4]
          go_enter Proofs.Try.func123, Proofs.Try.ntmps123
          go_wp2_with (fail)
          go_at_call 59; refine (kn _ (by with_reducible (repeat (first | assumption | exact Ext.refl _ | refine Ext.alloc' ?_ _ | refine Ext.store0 ?_ _ _ | refine Ext.storek ?_ _ _ _ | refine Ext.stores0 ?_ ?_ _ _ | refine Ext.storesk ?_ ?_ _ _ _ | refine Ext.drewN' ?_ _ | refine Ext.drew' ?_ | refine Ext.trans ?_ (by assumption))))).calls.mono ?_; rintro e w1 ⟨_, rfl, hb1, rfl⟩; obtain ⟨q1, f1⟩ := bcell hb1; have z1_0 : w.heap.size < w1.heap.size := (by have := hb1.size; first | omega | (simp at this; omega)); have z1_1 : w.heap.size + 1 < w1.heap.size := (by have := hb1.size; first | omega | (simp at this; omega))
          have B0 : Box w1 w.heap.size #[.slice aw m.W.length cw, .slice (some ⟨bg, og, none⟩) m.G.length cg, .bool m.bad] 50 := ((Box.new _ _ _).alloc _).ext hb1
          have B1 : Box w1 (w.heap.size + 1) #[.slice none 0 0, .slice none 0 0, .bool false] 50 := Box.ext (by simpa using Box.new (w.alloc (Obj.cells #[.slice aw m.W.length cw, .slice (some ⟨bg, og, none⟩) m.G.length cg, .bool m.bad] 50)) #[.slice none 0 0, .slice none 0 0, .bool false] 50) hb1
          obtain ⟨c00, c01, c02, d00, d01, d02⟩ := cells3 B0
          obtain ⟨c10, c11, c12, d10, d11, d12⟩ := cells3 B1
          have eg1 := cell_ext eg ((by with_reducible (repeat (first | assumption | exact Ext.refl _ | refine Ext.alloc' ?_ _ | refine Ext.store0 ?_ _ _ | refine Ext.storek ?_ _ _ _ | refine Ext.stores0 ?_ ?_ _ _ | refine Ext.storesk ?_ ?_ _ _ _ | refine Ext.drewN' ?_ _ | refine Ext.drew' ?_ | refine Ext.trans ?_ (by assumption)))) : Ext w w1)
          go_wp2
          have BF : Box (((w1.setCell ⟨w.heap.size + 1, 0, none⟩ (.slice aw m.W.length cw)).setCell ⟨w.heap.size + 1, 1, none⟩ (.slice (some ⟨bg, og, none⟩) m.G.length cg)).setCell ⟨w.heap.size + 1, 2, none⟩ (.bool m.bad)) (w.heap.size + 1) #[.slice aw m.W.length cw, .slice (some ⟨bg, og, none⟩) m.G.length cg, .bool m.bad] 50 := ((B1.setCell _).setCell _).setCell _
          exact bodyPost_ret (ret_cell BF Proofs.Try.results123 rfl Proofs.Try.underlying50 rfl (by kernel_rfl)) rfl ⟨_, rfl, (by with_reducible (repeat (first | assumption | exact Ext.refl _ | refine Ext.alloc' ?_ _ | refine Ext.store0 ?_ _ _ | refine Ext.storek ?_ _ _ _ | refine Ext.stores0 ?_ ?_ _ _ | refine Ext.storesk ?_ ?_ _ _ _ | refine Ext.drewN' ?_ _ | refine Ext.drew' ?_ | refine Ext.trans ?_ (by assumption)))), ⟨_, _, by rw [← hbad]; rfl, hw.ext (by with_reducible (repeat (first | assumption | exact Ext.refl _ | refine Ext.alloc' ?_ _ | refine Ext.store0 ?_ _ _ | refine Ext.storek ?_ _ _ _ | refine Ext.stores0 ?_ ?_ _ _ | refine Ext.storesk ?_ ?_ _ _ _ | refine Ext.drewN' ?_ _ | refine Ext.drew' ?_ | refine Ext.trans ?_ (by assumption)))), hg.ext (by with_reducible (repeat (first | assumption | exact Ext.refl _ | refine Ext.alloc' ?_ _ | refine Ext.store0 ?_ _ _ | refine Ext.storek ?_ _ _ _ | refine Ext.stores0 ?_ ?_ _ _ | refine Ext.storesk ?_ ?_ _ _ _ | refine Ext.drewN' ?_ _ | refine Ext.drew' ?_ | refine Ext.trans ?_ (by assumption))))⟩⟩
      · obtain rfl : k = 0 := by omega
        have hbad : badAt m x = m.bad := by simp [badAt, outside, freeAt, hk, h1, h2]
        go_enter Proofs.Try.func123, Proofs.Try.ntmps123
        go_wp2_with (fail)
        go_at_call 59; refine (kn _ (by with_reducible (repeat (first | assumption | exact Ext.refl _ | refine Ext.alloc' ?_ _ | refine Ext.store0 ?_ _ _ | refine Ext.storek ?_ _ _ _ | refine Ext.stores0 ?_ ?_ _ _ | refine Ext.storesk ?_ ?_ _ _ _ | refine Ext.drewN' ?_ _ | refine Ext.drew' ?_ | refine Ext.trans ?_ (by assumption))))).calls.mono ?_; rintro e w1 ⟨_, rfl, hb1, rfl⟩; obtain ⟨q1, f1⟩ := bcell hb1; have z1_0 : w.heap.size < w1.heap.size := (by have := hb1.size; first | omega | (simp at this; omega)); have z1_1 : w.heap.size + 1 < w1.heap.size := (by have := hb1.size; first | omega | (simp at this; omega))
        have B0 : Box w1 w.heap.size #[.slice aw m.W.length cw, .slice ag m.G.length cg, .bool m.bad] 50 := ((Box.new _ _ _).alloc _).ext hb1
        have B1 : Box w1 (w.heap.size + 1) #[.slice none 0 0, .slice none 0 0, .bool false] 50 := Box.ext (by simpa using Box.new (w.alloc (Obj.cells #[.slice aw m.W.length cw, .slice ag m.G.length cg, .bool m.bad] 50)) #[.slice none 0 0, .slice none 0 0, .bool false] 50) hb1
        obtain ⟨c00, c01, c02, d00, d01, d02⟩ := cells3 B0
        obtain ⟨c10, c11, c12, d10, d11, d12⟩ := cells3 B1
        go_wp2
        have BF : Box (((w1.setCell ⟨w.heap.size + 1, 0, none⟩ (.slice aw m.W.length cw)).setCell ⟨w.heap.size + 1, 1, none⟩ (.slice ag m.G.length cg)).setCell ⟨w.heap.size + 1, 2, none⟩ (.bool m.bad)) (w.heap.size + 1) #[.slice aw m.W.length cw, .slice ag m.G.length cg, .bool m.bad] 50 := ((B1.setCell _).setCell _).setCell _
        exact bodyPost_ret (ret_cell BF Proofs.Try.results123 rfl Proofs.Try.underlying50 rfl (by kernel_rfl)) rfl ⟨_, rfl, (by with_reducible (repeat (first | assumption | exact Ext.refl _ | refine Ext.alloc' ?_ _ | refine Ext.store0 ?_ _ _ | refine Ext.storek ?_ _ _ _ | refine Ext.stores0 ?_ ?_ _ _ | refine Ext.storesk ?_ ?_ _ _ _ | refine Ext.drewN' ?_ _ | refine Ext.drew' ?_ | refine Ext.trans ?_ (by assumption)))), ⟨_, _, by rw [← hbad]; rfl, hw.ext (by with_reducible (repeat (first | assumption | exact Ext.refl _ | refine Ext.alloc' ?_ _ | refine Ext.store0 ?_ _ _ | refine Ext.storek ?_ _ _ _ | refine Ext.stores0 ?_ ?_ _ _ | refine Ext.storesk ?_ ?_ _ _ _ | refine Ext.drewN' ?_ _ | refine Ext.drew' ?_ | refine Ext.trans ?_ (by assumption)))), hg.ext (by with_reducible (repeat (first | assumption | exact Ext.refl _ | refine Ext.alloc' ?_ _ | refine Ext.store0 ?_ _ _ | refine Ext.storek ?_ _ _ _ | refine Ext.stores0 ?_ ?_ _ _ | refine Ext.storesk ?_ ?_ _ _ _ | refine Ext.drewN' ?_ _ | refine Ext.drew' ?_ | refine Ext.trans ?_ (by assumption))))⟩⟩
end Go.Proofs.Ytcfbdfgondmkoaa
