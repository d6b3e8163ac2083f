/- Arenas: a node is turned. -/
import Derived.Test.YtcfbdfgondmkoaaAr13
namespace Go.Proofs.Ytcfbdfgondmkoaa
open Go Go.RowKit
set_option linter.unusedSimpArgs false
set_option linter.unusedVariables false
set_option linter.unnecessarySimpa false

def turnIs (m : Arena) (x to : Int) : Bool := decide (1 ≤ x ∧ x < m.G.length) && turnD (gi m.G x.toNat) to
def turnMD (m : Arena) (x to : Int) : Arena := if turnIs m x to then { W := m.W, G := m.G.set x.toNat to, bad := m.bad } else { m with bad := true }
set_option maxHeartbeats 400000 in
set_option maxRecDepth 100000 in
theorem memTurn_ (N : Nat → Prop) (va : Value) (m : Arena) (x to : Int) (w : World) (h : IsMem N w va m) (hf : Fits m) (hN : ∀ b, N b → b < w.heap.size) :
    Gives Proofs.Try.prog 70 #[va, .int .i64 x, .int .i64 to] w (fun r w' => IsMem N w' r (turnMD m x to)) := by
  obtain ⟨aw, cw, ag, cg, rfl, hw, hg⟩ := h.opened
  obtain ⟨_, _, e0, rg, lg, cgc⟩ := hg.opened
  cases e0
  by_cases h1 : x < 1
  · have hc : turnIs m x to = false := by simp [turnIs]; omega
    have hd : turnMD m x to = { m with bad := true } := by unfold turnMD; rw [hc]; rfl
    rw [hd]
    go_enter Proofs.Try.func70, Proofs.Try.ntmps70
    go_wp2
    exact bodyPost_ret (ret_cell (Box.two _ _ _ _ _) Proofs.Try.results70 rfl Proofs.Try.underlying50 rfl (by kernel_rfl)) rfl ⟨_, rfl, (by with_reducible (repeat (first | assumption | exact Ext.refl _ | refine Ext.alloc' ?_ _ | refine Ext.store0 ?_ _ _ | refine Ext.storek ?_ _ _ _ | refine Ext.stores0 ?_ ?_ _ _ | refine Ext.storesk ?_ ?_ _ _ _ | refine Ext.store ?_ _ _ (by first | omega | (dsimp only; omega)) | refine Ext.drewN' ?_ _ | refine Ext.drew' ?_ | refine Ext.trans ?_ (by assumption)))), ⟨_, _, rfl, hw.ext (by with_reducible (repeat (first | assumption | exact Ext.refl _ | refine Ext.alloc' ?_ _ | refine Ext.store0 ?_ _ _ | refine Ext.storek ?_ _ _ _ | refine Ext.stores0 ?_ ?_ _ _ | refine Ext.storesk ?_ ?_ _ _ _ | refine Ext.store ?_ _ _ (by first | omega | (dsimp only; omega)) | refine Ext.drewN' ?_ _ | refine Ext.drew' ?_ | refine Ext.trans ?_ (by assumption)))), hg.ext (by with_reducible (repeat (first | assumption | exact Ext.refl _ | refine Ext.alloc' ?_ _ | refine Ext.store0 ?_ _ _ | refine Ext.storek ?_ _ _ _ | refine Ext.stores0 ?_ ?_ _ _ | refine Ext.storesk ?_ ?_ _ _ _ | refine Ext.store ?_ _ _ (by first | omega | (dsimp only; omega)) | refine Ext.drewN' ?_ _ | refine Ext.drew' ?_ | refine Ext.trans ?_ (by assumption))))⟩⟩
  · by_cases h2 : (m.G.length : Int) ≤ x
    · have hc : turnIs m x to = false := by simp [turnIs]; omega
      have hd : turnMD m x to = { m with bad := true } := by unfold turnMD; rw [hc]; rfl
      rw [hd]
      go_enter Proofs.Try.func70, Proofs.Try.ntmps70
      go_wp2
      exact bodyPost_ret (ret_cell (Box.two _ _ _ _ _) Proofs.Try.results70 rfl Proofs.Try.underlying50 rfl (by kernel_rfl)) rfl ⟨_, rfl, (by with_reducible (repeat (first | assumption | exact Ext.refl _ | refine Ext.alloc' ?_ _ | refine Ext.store0 ?_ _ _ | refine Ext.storek ?_ _ _ _ | refine Ext.stores0 ?_ ?_ _ _ | refine Ext.storesk ?_ ?_ _ _ _ | refine Ext.store ?_ _ _ (by first | omega | (dsimp only; omega)) | refine Ext.drewN' ?_ _ | refine Ext.drew' ?_ | refine Ext.trans ?_ (by assumption)))), ⟨_, _, rfl, hw.ext (by with_reducible (repeat (first | assumption | exact Ext.refl _ | refine Ext.alloc' ?_ _ | refine Ext.store0 ?_ _ _ | refine Ext.storek ?_ _ _ _ | refine Ext.stores0 ?_ ?_ _ _ | refine Ext.storesk ?_ ?_ _ _ _ | refine Ext.store ?_ _ _ (by first | omega | (dsimp only; omega)) | refine Ext.drewN' ?_ _ | refine Ext.drew' ?_ | refine Ext.trans ?_ (by assumption)))), hg.ext (by with_reducible (repeat (first | assumption | exact Ext.refl _ | refine Ext.alloc' ?_ _ | refine Ext.store0 ?_ _ _ | refine Ext.storek ?_ _ _ _ | refine Ext.stores0 ?_ ?_ _ _ | refine Ext.storesk ?_ ?_ _ _ _ | refine Ext.store ?_ _ _ (by first | omega | (dsimp only; omega)) | refine Ext.drewN' ?_ _ | refine Ext.drew' ?_ | refine Ext.trans ?_ (by assumption))))⟩⟩
    · obtain ⟨i, rfl⟩ : ∃ i : Nat, x = i := ⟨x.toNat, by omega⟩
      have hi : i < m.G.length := by omega
      have hgl : m.G.length ≤ 100000 := by have := hf.2.2; omega
      obtain ⟨ba, oa, rfl, xa, na, ea⟩ := cgc i hi
      have kt := fun (w' : World) => turns_ (gi m.G i) to w'
      cases hT : turnD (gi m.G i) to <;> rw [hT] at kt
      · have hc : turnIs m i to = false := by simp [turnIs, hT]
        have hd : turnMD m i to = { m with bad := true } := by unfold turnMD; rw [hc]; rfl
        rw [hd]
        go_enter Proofs.Try.func70, Proofs.Try.ntmps70
        go_wp2_with (fail)
        go_at_call 126; refine (kt _).calls.mono ?_; rintro e w1 ⟨_, rfl, hb1, rfl⟩; obtain ⟨q1, f1⟩ := bcell hb1; have z1_0 : w.heap.size < w1.heap.size := (by have := hb1.size; first | omega | (simp at this; omega)); have z1_1 : w.heap.size + 1 < w1.heap.size := (by have := hb1.size; first | omega | (simp at this; omega))
        have B0 : Box w1 w.heap.size #[.slice aw m.W.length cw, .slice (some ⟨ba, oa, none⟩) m.G.length cg, .bool m.bad] 50 := ((Box.new _ _ _).alloc _).ext hb1
        have B1 : Box w1 (w.heap.size + 1) #[.slice none 0 0, .slice none 0 0, .bool false] 50 := (Box.two _ _ _ _ _).ext hb1
        obtain ⟨c00, c01, c02, d00, d01, d02⟩ := cells3 B0
        obtain ⟨c10, c11, c12, d10, d11, d12⟩ := cells3 B1
        go_wp2
        have BF : Box ((((w1.setCell ⟨w.heap.size, 2, none⟩ (.bool true)).setCell ⟨w.heap.size + 1, 0, none⟩ (.slice aw m.W.length cw)).setCell ⟨w.heap.size + 1, 1, none⟩ (.slice (some ⟨ba, oa, none⟩) m.G.length cg)).setCell ⟨w.heap.size + 1, 2, none⟩ (.bool true)) (w.heap.size + 1) #[.slice aw m.W.length cw, .slice (some ⟨ba, oa, none⟩) m.G.length cg, .bool true] 50 := (((B1.setOther (by omega) _).setCell _).setCell _).setCell _
        exact bodyPost_ret (ret_cell BF Proofs.Try.results70 rfl Proofs.Try.underlying50 rfl (by kernel_rfl)) rfl ⟨_, rfl, (by with_reducible (repeat (first | assumption | exact Ext.refl _ | refine Ext.alloc' ?_ _ | refine Ext.store0 ?_ _ _ | refine Ext.storek ?_ _ _ _ | refine Ext.stores0 ?_ ?_ _ _ | refine Ext.storesk ?_ ?_ _ _ _ | refine Ext.store ?_ _ _ (by first | omega | (dsimp only; omega)) | refine Ext.drewN' ?_ _ | refine Ext.drew' ?_ | refine Ext.trans ?_ (by assumption)))), ⟨_, _, rfl, hw.ext (by with_reducible (repeat (first | assumption | exact Ext.refl _ | refine Ext.alloc' ?_ _ | refine Ext.store0 ?_ _ _ | refine Ext.storek ?_ _ _ _ | refine Ext.stores0 ?_ ?_ _ _ | refine Ext.storesk ?_ ?_ _ _ _ | refine Ext.store ?_ _ _ (by first | omega | (dsimp only; omega)) | refine Ext.drewN' ?_ _ | refine Ext.drew' ?_ | refine Ext.trans ?_ (by assumption)))), hg.ext (by with_reducible (repeat (first | assumption | exact Ext.refl _ | refine Ext.alloc' ?_ _ | refine Ext.store0 ?_ _ _ | refine Ext.storek ?_ _ _ _ | refine Ext.stores0 ?_ ?_ _ _ | refine Ext.storesk ?_ ?_ _ _ _ | refine Ext.store ?_ _ _ (by first | omega | (dsimp only; omega)) | refine Ext.drewN' ?_ _ | refine Ext.drew' ?_ | refine Ext.trans ?_ (by assumption))))⟩⟩
      · have hc : turnIs m i to = true := by simp [turnIs, hT]; omega
        have hd : turnMD m i to = { W := m.W, G := m.G.set i to, bad := m.bad } := by unfold turnMD; rw [hc]; rfl
        rw [hd]
        go_enter Proofs.Try.func70, Proofs.Try.ntmps70
        go_wp2_with (fail)
        go_at_call 126; refine (kt _).calls.mono ?_; rintro e w1 ⟨_, rfl, hb1, rfl⟩; obtain ⟨q1, f1⟩ := bcell hb1; have z1_0 : w.heap.size < w1.heap.size := (by have := hb1.size; first | omega | (simp at this; omega)); have z1_1 : w.heap.size + 1 < w1.heap.size := (by have := hb1.size; first | omega | (simp at this; omega))
        have B0 : Box w1 w.heap.size #[.slice aw m.W.length cw, .slice (some ⟨ba, oa, none⟩) m.G.length cg, .bool m.bad] 50 := ((Box.new _ _ _).alloc _).ext hb1
        have B1 : Box w1 (w.heap.size + 1) #[.slice none 0 0, .slice none 0 0, .bool false] 50 := (Box.two _ _ _ _ _).ext hb1
        obtain ⟨c00, c01, c02, d00, d01, d02⟩ := cells3 B0
        obtain ⟨c10, c11, c12, d10, d11, d12⟩ := cells3 B1
        clear q1 f1
        go_wp2_with (fail)
        go_at_call 127
        refine (clone_ N _ m.G _ (hg.ext (by with_reducible (repeat (first | assumption | exact Ext.refl _ | refine Ext.alloc' ?_ _ | refine Ext.store0 ?_ _ _ | refine Ext.storek ?_ _ _ _ | refine Ext.stores0 ?_ ?_ _ _ | refine Ext.storesk ?_ ?_ _ _ _ | refine Ext.store ?_ _ _ (by first | omega | (dsimp only; omega)) | refine Ext.drewN' ?_ _ | refine Ext.drew' ?_ | refine Ext.trans ?_ (by assumption))))) (by omega) hgl).calls.mono ?_
        rintro e w2 ⟨u, rfl, hb2, b, hbn, ho⟩
        have C0 := B0.ext hb2
        have C1 := B1.ext hb2
        clear c00 c01 c02 d00 d01 d02 c10 c11 c12 d10 d11 d12
        obtain ⟨c00, c01, c02, d00, d01, d02⟩ := cells3 C0
        obtain ⟨c10, c11, c12, d10, d11, d12⟩ := cells3 C1
        have hE2 : Ext w w2 := (show Ext w w1 from (by with_reducible (repeat (first | assumption | exact Ext.refl _ | refine Ext.alloc' ?_ _ | refine Ext.store0 ?_ _ _ | refine Ext.storek ?_ _ _ _ | refine Ext.stores0 ?_ ?_ _ _ | refine Ext.storesk ?_ ?_ _ _ _ | refine Ext.store ?_ _ _ (by first | omega | (dsimp only; omega)) | refine Ext.drewN' ?_ _ | refine Ext.drew' ?_ | refine Ext.trans ?_ (by assumption))))).trans hb2
        have ho0 := ho
        obtain ⟨cu, rfl, u1, u2, u3, u4⟩ := ho0
        obtain ⟨u5, u6⟩ := u4 i hi
        have e1 : b ≠ w.heap.size := by omega
        have e2 : b ≠ w.heap.size + 1 := by omega
        have e1' : w.heap.size ≠ b := by omega
        have e2' : w.heap.size + 1 ≠ b := by omega
        have hz0 : Lo b w.heap.size := by show _ < _; omega
        have hz1 : Lo b (w.heap.size + 1) := by show _ < _; omega
        have hwb : w.heap.size ≤ b := by omega
        go_wp2
        refine bodyPost_ret (ret_cell (((((C1.setOther (by omega) _).setOther e2 _).setCell _).setCell _).setCell _) Proofs.Try.results70 rfl Proofs.Try.underlying50 rfl (by kernel_rfl)) rfl ⟨_, rfl, (by with_reducible (repeat (first | assumption | exact Ext.refl _ | refine Ext.alloc' ?_ _ | refine Ext.store0 ?_ _ _ | refine Ext.storek ?_ _ _ _ | refine Ext.stores0 ?_ ?_ _ _ | refine Ext.storesk ?_ ?_ _ _ _ | refine Ext.store ?_ _ _ (by first | omega | (dsimp only; omega)) | refine Ext.drewN' ?_ _ | refine Ext.drew' ?_ | refine Ext.trans ?_ (by assumption)))), ?_⟩
        have ho2 := (ho.keep (N := Lo b) (w' := w2.setCell ⟨w.heap.size, 1, none⟩ (.slice (some ⟨b, 0, none⟩) m.G.length cu)) (by with_reducible (repeat (first | assumption | exact Keep.refl _ _ | refine Keep.alloc ?_ _ | refine Keep.s ?_ (by first | assumption | exact Bx.mem (by omega) (by omega)) | refine Keep.n ?_ (by omega) | refine Keep.ext ?_ (by assumption) | refine Keep.drew ?_))) (Nat.lt_irrefl _)).set hi to
        refine ⟨_, _, rfl, hw.ext (by with_reducible (repeat (first | assumption | exact Ext.refl _ | refine Ext.alloc' ?_ _ | refine Ext.store0 ?_ _ _ | refine Ext.storek ?_ _ _ _ | refine Ext.stores0 ?_ ?_ _ _ | refine Ext.storesk ?_ ?_ _ _ _ | refine Ext.store ?_ _ _ (by first | omega | (dsimp only; omega)) | refine Ext.drewN' ?_ _ | refine Ext.drew' ?_ | refine Ext.trans ?_ (by assumption)))), Own.ints (ho2.keep (N := Lo b) (by with_reducible (repeat (first | assumption | exact Keep.refl _ _ | refine Keep.alloc ?_ _ | refine Keep.s ?_ (by first | assumption | exact Bx.mem (by omega) (by omega)) | refine Keep.n ?_ (by omega) | refine Keep.ext ?_ (by assumption) | refine Keep.drew ?_))) (Nat.lt_irrefl _)) (fun hx => absurd (hN _ hx) (by omega))⟩
end Go.Proofs.Ytcfbdfgondmkoaa
