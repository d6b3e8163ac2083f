/- Arenas: a word is swapped. -/
import Derived.Test.YtcfbdfgondmkoaaAr12
namespace Go.Proofs.Ytcfbdfgondmkoaa
open Go Go.RowKit
set_option linter.unusedSimpArgs false
set_option linter.unusedVariables false
set_option linter.unnecessarySimpa false

def casIs (m : Arena) (x old : Int) : Bool := !outside m x && (gi m.W x.toNat == old)
def casD (m : Arena) (x old new : Int) : Arena := if casIs m x old then storeD m x new else touchD m x
set_option maxRecDepth 100000 in
theorem memCas_ (N : Nat → Prop) (va : Value) (m : Arena) (x old new : Int) (w : World) (h : IsMem N w va m) (hf : Fits m) (hN : ∀ b, N b → b < w.heap.size) (hx0 : -9223372036854775808 ≤ x) (hx1 : x ≤ 9223372036854775807) :
    Gives Proofs.Try.prog 66 #[va, .int .i64 x, .int .i64 old, .int .i64 new] w (fun r w' => ∃ u, r = .tuple #[u, .bool (casIs m x old)] ∧ IsMem N w' u (casD m x old new)) := by
  have kt := fun (w' : World) (e : Ext w w') => touch_ _ va m x w' (h.at e) hf (Bx.lt hN e) hx0 hx1
  have ks := fun (w' : World) (e : Ext w w') => memStore_ _ va m x new w' (h.at e) hf (Bx.lt hN e) hx0 hx1
  obtain ⟨aw, cw, ag, cg, rfl, hw, hg⟩ := h.opened
  obtain ⟨_, _, e0, rw_, lw, cwc⟩ := hw.opened
  cases e0
  by_cases h1 : x < 0
  · have hz : True := trivial
    have hc : casIs m x old = false := by simp [casIs, outside, h1]
    have hd : casD m x old new = touchD m x := by unfold casD; rw [hc]; rfl
    rw [hd]
    go_enter Proofs.Try.func66, Proofs.Try.ntmps66
    go_wp2_with (fail)
    go_at_call 123
    refine (kt _ (by with_reducible (repeat (first | assumption | exact Ext.refl _ | refine Ext.alloc' ?_ _ | refine Ext.store0 ?_ _ _ | refine Ext.storek ?_ _ _ _ | refine Ext.stores0 ?_ ?_ _ _ | refine Ext.storesk ?_ ?_ _ _ _ | refine Ext.store ?_ _ _ (by first | omega | (dsimp only; omega)) | refine Ext.drewN' ?_ _ | refine Ext.drew' ?_ | refine Ext.trans ?_ (by assumption))))).calls.mono ?_
    rintro e w1 ⟨u, rfl, hb1, hu⟩
    have hs1 : w.heap.size + 2 ≤ w1.heap.size := by have := hb1.size; simp at this; omega
    have hsz : ((w.alloc (Obj.cells #[.slice aw m.W.length cw, .slice ag m.G.length cg, .bool m.bad] 50)).alloc (Obj.cells #[.slice none 0 0, .slice none 0 0, .bool false] 50)).heap.size = w.heap.size + 2 := by simp
    rw [hsz] at hu
    have hz' : Bx N w.heap.size (w.heap.size + 2) (w.heap.size + 1) := Bx.mem (by omega) (by omega)
    obtain ⟨xw, yw, xg, yg, rfl, hxw, hxg⟩ := hu.opened
    have B1 : Box w1 (w.heap.size + 1) #[.slice none 0 0, .slice none 0 0, .bool false] 50 := (Box.two _ _ _ _ _).ext hb1
    obtain ⟨c10, c11, c12, d10, d11, d12⟩ := cells3 B1
    go_wp2
    refine bodyPost_ret (ret_cell_tmp (((B1.setCell _).setCell _).setCell _) Proofs.Try.results66 rfl Proofs.Try.underlying50 rfl (by kernel_rfl)) rfl ⟨_, rfl, (by with_reducible (repeat (first | assumption | exact Ext.refl _ | refine Ext.alloc' ?_ _ | refine Ext.store0 ?_ _ _ | refine Ext.storek ?_ _ _ _ | refine Ext.stores0 ?_ ?_ _ _ | refine Ext.storesk ?_ ?_ _ _ _ | refine Ext.store ?_ _ _ (by first | omega | (dsimp only; omega)) | refine Ext.drewN' ?_ _ | refine Ext.drew' ?_ | refine Ext.trans ?_ (by assumption)))), _, ?_, IsMem.back ⟨_, _, rfl, hxw.keep (by with_reducible (repeat (first | assumption | exact Keep.refl _ _ | refine Keep.alloc ?_ _ | refine Keep.s ?_ (by first | assumption | exact Bx.mem (by omega) (by omega)) | refine Keep.n ?_ (by omega) | refine Keep.ext ?_ (by assumption) | refine Keep.drew ?_))), hxg.keep (by with_reducible (repeat (first | assumption | exact Keep.refl _ _ | refine Keep.alloc ?_ _ | refine Keep.s ?_ (by first | assumption | exact Bx.mem (by omega) (by omega)) | refine Keep.n ?_ (by omega) | refine Keep.ext ?_ (by assumption) | refine Keep.drew ?_)))⟩⟩
    rw [hc]; rfl
  · by_cases h2 : (m.W.length : Int) ≤ x
    · have hz : True := trivial
      have hc : casIs m x old = false := by simp [casIs, outside, h2]
      have hd : casD m x old new = touchD m x := by unfold casD; rw [hc]; rfl
      rw [hd]
      go_enter Proofs.Try.func66, Proofs.Try.ntmps66
      go_wp2_with (fail)
      go_at_call 123
      refine (kt _ (by with_reducible (repeat (first | assumption | exact Ext.refl _ | refine Ext.alloc' ?_ _ | refine Ext.store0 ?_ _ _ | refine Ext.storek ?_ _ _ _ | refine Ext.stores0 ?_ ?_ _ _ | refine Ext.storesk ?_ ?_ _ _ _ | refine Ext.store ?_ _ _ (by first | omega | (dsimp only; omega)) | refine Ext.drewN' ?_ _ | refine Ext.drew' ?_ | refine Ext.trans ?_ (by assumption))))).calls.mono ?_
      rintro e w1 ⟨u, rfl, hb1, hu⟩
      have hs1 : w.heap.size + 2 ≤ w1.heap.size := by have := hb1.size; simp at this; omega
      have hsz : ((w.alloc (Obj.cells #[.slice aw m.W.length cw, .slice ag m.G.length cg, .bool m.bad] 50)).alloc (Obj.cells #[.slice none 0 0, .slice none 0 0, .bool false] 50)).heap.size = w.heap.size + 2 := by simp
      rw [hsz] at hu
      have hz' : Bx N w.heap.size (w.heap.size + 2) (w.heap.size + 1) := Bx.mem (by omega) (by omega)
      obtain ⟨xw, yw, xg, yg, rfl, hxw, hxg⟩ := hu.opened
      have B1 : Box w1 (w.heap.size + 1) #[.slice none 0 0, .slice none 0 0, .bool false] 50 := (Box.two _ _ _ _ _).ext hb1
      obtain ⟨c10, c11, c12, d10, d11, d12⟩ := cells3 B1
      go_wp2
      refine bodyPost_ret (ret_cell_tmp (((B1.setCell _).setCell _).setCell _) Proofs.Try.results66 rfl Proofs.Try.underlying50 rfl (by kernel_rfl)) rfl ⟨_, rfl, (by with_reducible (repeat (first | assumption | exact Ext.refl _ | refine Ext.alloc' ?_ _ | refine Ext.store0 ?_ _ _ | refine Ext.storek ?_ _ _ _ | refine Ext.stores0 ?_ ?_ _ _ | refine Ext.storesk ?_ ?_ _ _ _ | refine Ext.store ?_ _ _ (by first | omega | (dsimp only; omega)) | refine Ext.drewN' ?_ _ | refine Ext.drew' ?_ | refine Ext.trans ?_ (by assumption)))), _, ?_, IsMem.back ⟨_, _, rfl, hxw.keep (by with_reducible (repeat (first | assumption | exact Keep.refl _ _ | refine Keep.alloc ?_ _ | refine Keep.s ?_ (by first | assumption | exact Bx.mem (by omega) (by omega)) | refine Keep.n ?_ (by omega) | refine Keep.ext ?_ (by assumption) | refine Keep.drew ?_))), hxg.keep (by with_reducible (repeat (first | assumption | exact Keep.refl _ _ | refine Keep.alloc ?_ _ | refine Keep.s ?_ (by first | assumption | exact Bx.mem (by omega) (by omega)) | refine Keep.n ?_ (by omega) | refine Keep.ext ?_ (by assumption) | refine Keep.drew ?_)))⟩⟩
      rw [hc]; rfl
    · obtain ⟨i, rfl⟩ : ∃ i : Nat, x = i := ⟨x.toNat, by omega⟩
      have hi : i < m.W.length := by omega
      have hout : outside m i = false := by simp [outside]; omega
      obtain ⟨ba, oa, rfl, xa, na, ea⟩ := cwc i hi
      by_cases h3 : gi m.W i = old
      · have h3' : (gi m.W i == old) = true := by simp [h3]
        have hc : casIs m i old = true := by simp [casIs, hout, h3]
        have hd : casD m i old new = storeD m i new := by unfold casD; rw [hc]; rfl
        rw [hd]
        go_enter Proofs.Try.func66, Proofs.Try.ntmps66
        go_wp2_with (fail)
        go_at_call 68
        refine (ks _ (by with_reducible (repeat (first | assumption | exact Ext.refl _ | refine Ext.alloc' ?_ _ | refine Ext.store0 ?_ _ _ | refine Ext.storek ?_ _ _ _ | refine Ext.stores0 ?_ ?_ _ _ | refine Ext.storesk ?_ ?_ _ _ _ | refine Ext.store ?_ _ _ (by first | omega | (dsimp only; omega)) | refine Ext.drewN' ?_ _ | refine Ext.drew' ?_ | refine Ext.trans ?_ (by assumption))))).calls.mono ?_
        rintro e w1 ⟨u, rfl, hb1, hu⟩
        have hs1 : w.heap.size + 2 ≤ w1.heap.size := by have := hb1.size; simp at this; omega
        have hsz : ((w.alloc (Obj.cells #[.slice (some ⟨ba, oa, none⟩) m.W.length cw, .slice ag m.G.length cg, .bool m.bad] 50)).alloc (Obj.cells #[.slice none 0 0, .slice none 0 0, .bool false] 50)).heap.size = w.heap.size + 2 := by simp
        rw [hsz] at hu
        have hz' : Bx N w.heap.size (w.heap.size + 2) (w.heap.size + 1) := Bx.mem (by omega) (by omega)
        obtain ⟨xw, yw, xg, yg, rfl, hxw, hxg⟩ := hu.opened
        have B1 : Box w1 (w.heap.size + 1) #[.slice none 0 0, .slice none 0 0, .bool false] 50 := (Box.two _ _ _ _ _).ext hb1
        obtain ⟨c10, c11, c12, d10, d11, d12⟩ := cells3 B1
        go_wp2
        refine bodyPost_ret (ret_cell_tmp (((B1.setCell _).setCell _).setCell _) Proofs.Try.results66 rfl Proofs.Try.underlying50 rfl (by kernel_rfl)) rfl ⟨_, rfl, (by with_reducible (repeat (first | assumption | exact Ext.refl _ | refine Ext.alloc' ?_ _ | refine Ext.store0 ?_ _ _ | refine Ext.storek ?_ _ _ _ | refine Ext.stores0 ?_ ?_ _ _ | refine Ext.storesk ?_ ?_ _ _ _ | refine Ext.store ?_ _ _ (by first | omega | (dsimp only; omega)) | refine Ext.drewN' ?_ _ | refine Ext.drew' ?_ | refine Ext.trans ?_ (by assumption)))), _, ?_, IsMem.back ⟨_, _, rfl, hxw.keep (by with_reducible (repeat (first | assumption | exact Keep.refl _ _ | refine Keep.alloc ?_ _ | refine Keep.s ?_ (by first | assumption | exact Bx.mem (by omega) (by omega)) | refine Keep.n ?_ (by omega) | refine Keep.ext ?_ (by assumption) | refine Keep.drew ?_))), hxg.keep (by with_reducible (repeat (first | assumption | exact Keep.refl _ _ | refine Keep.alloc ?_ _ | refine Keep.s ?_ (by first | assumption | exact Bx.mem (by omega) (by omega)) | refine Keep.n ?_ (by omega) | refine Keep.ext ?_ (by assumption) | refine Keep.drew ?_)))⟩⟩
        rw [hc]; rfl
      · have h3' : (gi m.W i == old) = false := by simp [h3]
        have hc : casIs m i old = false := by simp [casIs, hout, h3]
        have hd : casD m i old new = touchD m i := by unfold casD; rw [hc]; rfl
        rw [hd]
        go_enter Proofs.Try.func66, Proofs.Try.ntmps66
        go_wp2_with (fail)
        go_at_call 123
        refine (kt _ (by with_reducible (repeat (first | assumption | exact Ext.refl _ | refine Ext.alloc' ?_ _ | refine Ext.store0 ?_ _ _ | refine Ext.storek ?_ _ _ _ | refine Ext.stores0 ?_ ?_ _ _ | refine Ext.storesk ?_ ?_ _ _ _ | refine Ext.store ?_ _ _ (by first | omega | (dsimp only; omega)) | refine Ext.drewN' ?_ _ | refine Ext.drew' ?_ | refine Ext.trans ?_ (by assumption))))).calls.mono ?_
        rintro e w1 ⟨u, rfl, hb1, hu⟩
        have hs1 : w.heap.size + 2 ≤ w1.heap.size := by have := hb1.size; simp at this; omega
        have hsz : ((w.alloc (Obj.cells #[.slice (some ⟨ba, oa, none⟩) m.W.length cw, .slice ag m.G.length cg, .bool m.bad] 50)).alloc (Obj.cells #[.slice none 0 0, .slice none 0 0, .bool false] 50)).heap.size = w.heap.size + 2 := by simp
        rw [hsz] at hu
        have hz' : Bx N w.heap.size (w.heap.size + 2) (w.heap.size + 1) := Bx.mem (by omega) (by omega)
        obtain ⟨xw, yw, xg, yg, rfl, hxw, hxg⟩ := hu.opened
        have B1 : Box w1 (w.heap.size + 1) #[.slice none 0 0, .slice none 0 0, .bool false] 50 := (Box.two _ _ _ _ _).ext hb1
        obtain ⟨c10, c11, c12, d10, d11, d12⟩ := cells3 B1
        go_wp2
        refine bodyPost_ret (ret_cell_tmp (((B1.setCell _).setCell _).setCell _) Proofs.Try.results66 rfl Proofs.Try.underlying50 rfl (by kernel_rfl)) rfl ⟨_, rfl, (by with_reducible (repeat (first | assumption | exact Ext.refl _ | refine Ext.alloc' ?_ _ | refine Ext.store0 ?_ _ _ | refine Ext.storek ?_ _ _ _ | refine Ext.stores0 ?_ ?_ _ _ | refine Ext.storesk ?_ ?_ _ _ _ | refine Ext.store ?_ _ _ (by first | omega | (dsimp only; omega)) | refine Ext.drewN' ?_ _ | refine Ext.drew' ?_ | refine Ext.trans ?_ (by assumption)))), _, ?_, IsMem.back ⟨_, _, rfl, hxw.keep (by with_reducible (repeat (first | assumption | exact Keep.refl _ _ | refine Keep.alloc ?_ _ | refine Keep.s ?_ (by first | assumption | exact Bx.mem (by omega) (by omega)) | refine Keep.n ?_ (by omega) | refine Keep.ext ?_ (by assumption) | refine Keep.drew ?_))), hxg.keep (by with_reducible (repeat (first | assumption | exact Keep.refl _ _ | refine Keep.alloc ?_ _ | refine Keep.s ?_ (by first | assumption | exact Bx.mem (by omega) (by omega)) | refine Keep.n ?_ (by omega) | refine Keep.ext ?_ (by assumption) | refine Keep.drew ?_)))⟩⟩
        rw [hc]; rfl
end Go.Proofs.Ytcfbdfgondmkoaa
