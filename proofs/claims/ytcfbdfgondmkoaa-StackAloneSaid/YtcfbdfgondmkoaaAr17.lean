/- Arenas: a word is swapped, by the document. -/
import Derived.Test.YtcfbdfgondmkoaaAr16
namespace Go.Proofs.Ytcfbdfgondmkoaa
open Go Go.RowKit
set_option linter.unusedSimpArgs false
set_option linter.unusedVariables false
set_option linter.unnecessarySimpa false

set_option maxHeartbeats 400000 in
set_option maxRecDepth 100000 in
theorem refCas_ (N : Nat → Prop) (va : Value) (m : Arena) (x old new : Int) (w : World) (h : IsMem N w va m) (hf : Fits m) (hN : ∀ b, N b → b < w.heap.size) :
    Gives Proofs.Try.prog 67 #[va, .int .i64 x, .int .i64 old, .int .i64 new] w (fun r w' => ∃ u, r = .tuple #[u, .bool (casIs m x old)] ∧ IsMem N w' u (casD m x old new)) := by
  have kl := fun (w' : World) (e : Ext w w') => refLoad_ _ va m x w' (h.at e) hf (Bx.lt hN e)
  have ks := fun (w' : World) (e : Ext w w') => refStore_ _ va m x new w' (h.at e) hf (Bx.lt hN e)
  obtain ⟨aw, cw, ag, cg, rfl, hw, hg⟩ := h.opened
  obtain ⟨z, hz⟩ : ∃ z, loadD m x = z := ⟨_, rfl⟩
  rw [hz] at kl
  go_enter Proofs.Try.func67, Proofs.Try.ntmps67
  go_wp2_with (fail)
  go_at_call 65
  refine (kl _ (by with_reducible (repeat (first | assumption | exact Ext.refl _ | refine Ext.alloc' ?_ _ | refine Ext.store0 ?_ _ _ | refine Ext.storek ?_ _ _ _ | refine Ext.stores0 ?_ ?_ _ _ | refine Ext.storesk ?_ ?_ _ _ _ | refine Ext.store ?_ _ _ (by first | omega | (dsimp only; omega)) | refine Ext.drewN' ?_ _ | refine Ext.drew' ?_ | refine Ext.trans ?_ (by assumption))))).calls.mono ?_
  rintro e w1 ⟨_, rfl, hb1, u, rfl, hu⟩
  have hs1 : w.heap.size + 2 ≤ w1.heap.size := by have := hb1.size; simp at this; omega
  have hsz : ((w.alloc (Obj.cells #[.slice aw m.W.length cw, .slice ag m.G.length cg, .bool m.bad] 50)).alloc (Obj.cells #[.slice none 0 0, .slice none 0 0, .bool false] 50)).heap.size = w.heap.size + 2 := by simp
  rw [hsz] at hu
  have hz' : Bx N w.heap.size (w.heap.size + 2) (w.heap.size + 1) := Bx.mem (by omega) (by omega)
  obtain ⟨xw, yw, xg, yg, rfl, hxw, hxg⟩ := hu.opened
  have hz0 : w.heap.size < w1.heap.size := by omega
  have hz1 : w.heap.size + 1 < w1.heap.size := by omega
  have B0 : Box w1 w.heap.size #[.slice aw m.W.length cw, .slice ag m.G.length cg, .bool m.bad] 50 := ((Box.new _ _ _).alloc _).ext hb1
  have B1 : Box w1 (w.heap.size + 1) #[.slice none 0 0, .slice none 0 0, .bool false] 50 := (Box.two _ _ _ _ _).ext hb1
  obtain ⟨c00, c01, c02, d00, d01, d02⟩ := cells3 B0
  obtain ⟨c10, c11, c12, d10, d11, d12⟩ := cells3 B1
  by_cases h1 : x < 0
  · have hc : casIs m x old = false := by simp [casIs, outside, h1]
    have hd : casD m x old new = touchD m x := by unfold casD; rw [hc]; rfl
    go_wp2
    refine bodyPost_ret (ret_cell_tmp ((((B1.setCell _).setCell _).setCell _).alloc _) Proofs.Try.results67 rfl Proofs.Try.underlying50 rfl (by kernel_rfl)) rfl ⟨_, rfl, (by with_reducible (repeat (first | assumption | exact Ext.refl _ | refine Ext.alloc' ?_ _ | refine Ext.store0 ?_ _ _ | refine Ext.storek ?_ _ _ _ | refine Ext.stores0 ?_ ?_ _ _ | refine Ext.storesk ?_ ?_ _ _ _ | refine Ext.store ?_ _ _ (by first | omega | (dsimp only; omega)) | refine Ext.drewN' ?_ _ | refine Ext.drew' ?_ | refine Ext.trans ?_ (by assumption)))), _, ?_, (by rw [hd]; exact IsMem.back ⟨_, _, rfl, hxw.keep (by with_reducible (repeat (first | assumption | exact Keep.refl _ _ | refine Keep.alloc ?_ _ | refine Keep.s ?_ (by first | assumption | exact Bx.mem (by omega) (by omega)) | refine Keep.n ?_ (by omega) | refine Keep.ext ?_ (by assumption) | refine Keep.drew ?_))), hxg.keep (by with_reducible (repeat (first | assumption | exact Keep.refl _ _ | refine Keep.alloc ?_ _ | refine Keep.s ?_ (by first | assumption | exact Bx.mem (by omega) (by omega)) | refine Keep.n ?_ (by omega) | refine Keep.ext ?_ (by assumption) | refine Keep.drew ?_)))⟩)⟩
    rw [hc]; rfl
  · by_cases h2 : (m.W.length : Int) ≤ x
    · have hc : casIs m x old = false := by simp [casIs, outside, h2]
      have hd : casD m x old new = touchD m x := by unfold casD; rw [hc]; rfl
      go_wp2
      refine bodyPost_ret (ret_cell_tmp ((((B1.setCell _).setCell _).setCell _).alloc _) Proofs.Try.results67 rfl Proofs.Try.underlying50 rfl (by kernel_rfl)) rfl ⟨_, rfl, (by with_reducible (repeat (first | assumption | exact Ext.refl _ | refine Ext.alloc' ?_ _ | refine Ext.store0 ?_ _ _ | refine Ext.storek ?_ _ _ _ | refine Ext.stores0 ?_ ?_ _ _ | refine Ext.storesk ?_ ?_ _ _ _ | refine Ext.store ?_ _ _ (by first | omega | (dsimp only; omega)) | refine Ext.drewN' ?_ _ | refine Ext.drew' ?_ | refine Ext.trans ?_ (by assumption)))), _, ?_, (by rw [hd]; exact IsMem.back ⟨_, _, rfl, hxw.keep (by with_reducible (repeat (first | assumption | exact Keep.refl _ _ | refine Keep.alloc ?_ _ | refine Keep.s ?_ (by first | assumption | exact Bx.mem (by omega) (by omega)) | refine Keep.n ?_ (by omega) | refine Keep.ext ?_ (by assumption) | refine Keep.drew ?_))), hxg.keep (by with_reducible (repeat (first | assumption | exact Keep.refl _ _ | refine Keep.alloc ?_ _ | refine Keep.s ?_ (by first | assumption | exact Bx.mem (by omega) (by omega)) | refine Keep.n ?_ (by omega) | refine Keep.ext ?_ (by assumption) | refine Keep.drew ?_)))⟩)⟩
      rw [hc]; rfl
    · have hout : outside m x = false := by simp [outside]; omega
      have hzz : z = gi m.W x.toNat := by rw [← hz]; unfold loadD; rw [if_neg (by rw [hout]; simp)]
      by_cases h3 : z = old
      · have h3' : (z != old) = false := by simp [h3]
        have hc : casIs m x old = true := by simp [casIs, hout, ← hzz, h3]
        have hd : casD m x old new = storeD m x new := by unfold casD; rw [hc]; rfl
        clear hzz hz
        go_wp2_with (fail)
        go_at_call 69
        refine (ks _ (by with_reducible (repeat (first | assumption | exact Ext.refl _ | refine Ext.alloc' ?_ _ | refine Ext.store0 ?_ _ _ | refine Ext.storek ?_ _ _ _ | refine Ext.stores0 ?_ ?_ _ _ | refine Ext.storesk ?_ ?_ _ _ _ | refine Ext.store ?_ _ _ (by first | omega | (dsimp only; omega)) | refine Ext.drewN' ?_ _ | refine Ext.drew' ?_ | refine Ext.trans ?_ (by assumption))))).calls.mono ?_
        rintro e w2 ⟨u2, rfl, hb2, hu2⟩
        obtain ⟨pw, qw, pg, qg, rfl, hpw, hpg⟩ := hu2.opened
        have C1 : Box w2 (w.heap.size + 1) #[.slice none 0 0, .slice none 0 0, .bool false] 50 := (B1.alloc _).ext hb2
        have hs2 : w1.heap.size + 1 ≤ w2.heap.size := by have := hb2.size; simp at this; omega
        have hz2 : Bx N w.heap.size (w1.alloc (Obj.cells #[.slice xw (touchD m x).W.length yw, .slice xg (touchD m x).G.length yg, .bool (touchD m x).bad] 50)).heap.size (w.heap.size + 1) := Bx.mem (by omega) (by simp; omega)
        clear c10 c11 c12 d10 d11 d12
        obtain ⟨c10, c11, c12, d10, d11, d12⟩ := cells3 C1
        have hE2 : Ext w w2 := (show Ext w w1 from (by with_reducible (repeat (first | assumption | exact Ext.refl _ | refine Ext.alloc' ?_ _ | refine Ext.store0 ?_ _ _ | refine Ext.storek ?_ _ _ _ | refine Ext.stores0 ?_ ?_ _ _ | refine Ext.storesk ?_ ?_ _ _ _ | refine Ext.store ?_ _ _ (by first | omega | (dsimp only; omega)) | refine Ext.drewN' ?_ _ | refine Ext.drew' ?_ | refine Ext.trans ?_ (by assumption))))).trans ((Ext.alloc _ _).trans hb2)
        go_wp2
        refine bodyPost_ret (ret_cell_tmp (((C1.setCell _).setCell _).setCell _) Proofs.Try.results67 rfl Proofs.Try.underlying50 rfl (by kernel_rfl)) rfl ⟨_, rfl, (by with_reducible (repeat (first | assumption | exact Ext.refl _ | refine Ext.alloc' ?_ _ | refine Ext.store0 ?_ _ _ | refine Ext.storek ?_ _ _ _ | refine Ext.stores0 ?_ ?_ _ _ | refine Ext.storesk ?_ ?_ _ _ _ | refine Ext.store ?_ _ _ (by first | omega | (dsimp only; omega)) | refine Ext.drewN' ?_ _ | refine Ext.drew' ?_ | refine Ext.trans ?_ (by assumption)))), _, ?_, (by rw [hd]; exact IsMem.back ⟨_, _, rfl, hpw.keep (by with_reducible (repeat (first | assumption | exact Keep.refl _ _ | refine Keep.alloc ?_ _ | refine Keep.s ?_ (by first | assumption | exact Bx.mem (by omega) (by omega)) | refine Keep.n ?_ (by omega) | refine Keep.ext ?_ (by assumption) | refine Keep.drew ?_))), hpg.keep (by with_reducible (repeat (first | assumption | exact Keep.refl _ _ | refine Keep.alloc ?_ _ | refine Keep.s ?_ (by first | assumption | exact Bx.mem (by omega) (by omega)) | refine Keep.n ?_ (by omega) | refine Keep.ext ?_ (by assumption) | refine Keep.drew ?_)))⟩)⟩
        rw [hc]; rfl
      · have h3' : (z != old) = true := by simp [h3]
        have hc : casIs m x old = false := by simp [casIs, hout, ← hzz, h3]
        have hd : casD m x old new = touchD m x := by unfold casD; rw [hc]; rfl
        clear hzz hz
        go_wp2
        refine bodyPost_ret (ret_cell_tmp ((((B1.setCell _).setCell _).setCell _).alloc _) Proofs.Try.results67 rfl Proofs.Try.underlying50 rfl (by kernel_rfl)) rfl ⟨_, rfl, (by with_reducible (repeat (first | assumption | exact Ext.refl _ | refine Ext.alloc' ?_ _ | refine Ext.store0 ?_ _ _ | refine Ext.storek ?_ _ _ _ | refine Ext.stores0 ?_ ?_ _ _ | refine Ext.storesk ?_ ?_ _ _ _ | refine Ext.store ?_ _ _ (by first | omega | (dsimp only; omega)) | refine Ext.drewN' ?_ _ | refine Ext.drew' ?_ | refine Ext.trans ?_ (by assumption)))), _, ?_, (by rw [hd]; exact IsMem.back ⟨_, _, rfl, hxw.keep (by with_reducible (repeat (first | assumption | exact Keep.refl _ _ | refine Keep.alloc ?_ _ | refine Keep.s ?_ (by first | assumption | exact Bx.mem (by omega) (by omega)) | refine Keep.n ?_ (by omega) | refine Keep.ext ?_ (by assumption) | refine Keep.drew ?_))), hxg.keep (by with_reducible (repeat (first | assumption | exact Keep.refl _ _ | refine Keep.alloc ?_ _ | refine Keep.s ?_ (by first | assumption | exact Bx.mem (by omega) (by omega)) | refine Keep.n ?_ (by omega) | refine Keep.ext ?_ (by assumption) | refine Keep.drew ?_)))⟩)⟩
        rw [hc]; rfl
end Go.Proofs.Ytcfbdfgondmkoaa
