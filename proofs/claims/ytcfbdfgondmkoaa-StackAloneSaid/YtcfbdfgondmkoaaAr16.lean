/- Arenas: a word is stored, by the document. -/
import Derived.Test.YtcfbdfgondmkoaaAr15
import Derived.Test.YtcfbdfgondmkoaaReg2
namespace Go.Proofs.Ytcfbdfgondmkoaa
open Go Go.RowKit
set_option linter.unusedSimpArgs false
set_option linter.unusedVariables false
set_option linter.unnecessarySimpa false

set_option maxHeartbeats 400000 in
set_option maxRecDepth 100000 in
theorem refStore_ (N : Nat → Prop) (va : Value) (m : Arena) (x v : Int) (w : World) (h : IsMem N w va m) (hf : Fits m) (hN : ∀ b, N b → b < w.heap.size) :
    Gives Proofs.Try.prog 69 #[va, .int .i64 x, .int .i64 v] w (fun r w' => IsMem N w' r (storeD m x v)) := by
  have kb := fun (w' : World) (e : Ext w w') => refBad_ N va m x w' (h.ext e) hf
  obtain ⟨aw, cw, ag, cg, rfl, hw, hg⟩ := h.opened
  obtain ⟨_, _, e0, rw_, lw, cwc⟩ := hw.opened
  cases e0
  by_cases h1 : x < 0
  · have hd : storeD m x v = { m with bad := true } := by simp [storeD, badAt, outside, h1]
    rw [hd]
    go_enter Proofs.Try.func69, Proofs.Try.ntmps69
    go_wp2
    exact bodyPost_ret (ret_cell (Box.two _ _ _ _ _) Proofs.Try.results69 rfl Proofs.Try.underlying50 rfl (by kernel_rfl)) rfl ⟨_, rfl, (by with_reducible (repeat (first | assumption | exact Ext.refl _ | refine Ext.alloc' ?_ _ | refine Ext.store0 ?_ _ _ | refine Ext.storek ?_ _ _ _ | refine Ext.stores0 ?_ ?_ _ _ | refine Ext.storesk ?_ ?_ _ _ _ | refine Ext.store ?_ _ _ (by first | omega | (dsimp only; omega)) | refine Ext.drewN' ?_ _ | refine Ext.drew' ?_ | refine Ext.trans ?_ (by assumption)))), ⟨_, _, rfl, hw.ext (by with_reducible (repeat (first | assumption | exact Ext.refl _ | refine Ext.alloc' ?_ _ | refine Ext.store0 ?_ _ _ | refine Ext.storek ?_ _ _ _ | refine Ext.stores0 ?_ ?_ _ _ | refine Ext.storesk ?_ ?_ _ _ _ | refine Ext.store ?_ _ _ (by first | omega | (dsimp only; omega)) | refine Ext.drewN' ?_ _ | refine Ext.drew' ?_ | refine Ext.trans ?_ (by assumption)))), hg.ext (by with_reducible (repeat (first | assumption | exact Ext.refl _ | refine Ext.alloc' ?_ _ | refine Ext.store0 ?_ _ _ | refine Ext.storek ?_ _ _ _ | refine Ext.stores0 ?_ ?_ _ _ | refine Ext.storesk ?_ ?_ _ _ _ | refine Ext.store ?_ _ _ (by first | omega | (dsimp only; omega)) | refine Ext.drewN' ?_ _ | refine Ext.drew' ?_ | refine Ext.trans ?_ (by assumption))))⟩⟩
  · by_cases h2 : (m.W.length : Int) ≤ x
    · have hd : storeD m x v = { m with bad := true } := by simp [storeD, badAt, outside, h2]
      rw [hd]
      go_enter Proofs.Try.func69, Proofs.Try.ntmps69
      go_wp2
      exact bodyPost_ret (ret_cell (Box.two _ _ _ _ _) Proofs.Try.results69 rfl Proofs.Try.underlying50 rfl (by kernel_rfl)) rfl ⟨_, rfl, (by with_reducible (repeat (first | assumption | exact Ext.refl _ | refine Ext.alloc' ?_ _ | refine Ext.store0 ?_ _ _ | refine Ext.storek ?_ _ _ _ | refine Ext.stores0 ?_ ?_ _ _ | refine Ext.storesk ?_ ?_ _ _ _ | refine Ext.store ?_ _ _ (by first | omega | (dsimp only; omega)) | refine Ext.drewN' ?_ _ | refine Ext.drew' ?_ | refine Ext.trans ?_ (by assumption)))), ⟨_, _, rfl, hw.ext (by with_reducible (repeat (first | assumption | exact Ext.refl _ | refine Ext.alloc' ?_ _ | refine Ext.store0 ?_ _ _ | refine Ext.storek ?_ _ _ _ | refine Ext.stores0 ?_ ?_ _ _ | refine Ext.storesk ?_ ?_ _ _ _ | refine Ext.store ?_ _ _ (by first | omega | (dsimp only; omega)) | refine Ext.drewN' ?_ _ | refine Ext.drew' ?_ | refine Ext.trans ?_ (by assumption)))), hg.ext (by with_reducible (repeat (first | assumption | exact Ext.refl _ | refine Ext.alloc' ?_ _ | refine Ext.store0 ?_ _ _ | refine Ext.storek ?_ _ _ _ | refine Ext.stores0 ?_ ?_ _ _ | refine Ext.storesk ?_ ?_ _ _ _ | refine Ext.store ?_ _ _ (by first | omega | (dsimp only; omega)) | refine Ext.drewN' ?_ _ | refine Ext.drew' ?_ | refine Ext.trans ?_ (by assumption))))⟩⟩
    · obtain ⟨i, rfl⟩ : ∃ i : Nat, x = i := ⟨x.toNat, by omega⟩
      have hi : i < m.W.length := by omega
      have hwl : m.W.length ≤ 100000 := by have := hf.1; have := hf.2.2; omega
      have hout : outside m i = false := by simp [outside]; omega
      have hd : storeD m i v = { W := m.W.set i v, G := m.G, bad := badAt m i } := by simp [storeD, hout]
      rw [hd]
      go_enter Proofs.Try.func69, Proofs.Try.ntmps69
      go_wp2_with (at_builtin; refine wpList_append48 (ls := m.W) (.tmp 22) (.tmp 24) rfl rfl rfl rfl (hw.ext (by with_reducible (repeat (first | assumption | exact Ext.refl _ | refine Ext.alloc' ?_ _ | refine Ext.store0 ?_ _ _ | refine Ext.storek ?_ _ _ _ | refine Ext.stores0 ?_ ?_ _ _ | refine Ext.storesk ?_ ?_ _ _ _ | refine Ext.store ?_ _ _ (by first | omega | (dsimp only; omega)) | refine Ext.drewN' ?_ _ | refine Ext.drew' ?_ | refine Ext.trans ?_ (by assumption))))) (by omega) hwl ?_; intro v1 w1 ho hb1; have B0 : Box w1 w.heap.size #[.slice aw m.W.length cw, .slice ag m.G.length cg, .bool m.bad] 50 := (((Box.new _ _ _).alloc _).alloc _).ext hb1; have B1 : Box w1 (w.heap.size + 1) #[.slice none 0 0, .slice none 0 0, .bool false] 50 := ((Box.two _ _ _ _ _).alloc _).ext hb1; obtain ⟨c00, c01, c02, d00, d01, d02⟩ := cells3 B0; obtain ⟨c10, c11, c12, d10, d11, d12⟩ := cells3 B1; have hE1 : Ext w w1 := (by with_reducible (repeat (first | assumption | exact Ext.refl _ | refine Ext.alloc' ?_ _ | refine Ext.store0 ?_ _ _ | refine Ext.storek ?_ _ _ _ | refine Ext.stores0 ?_ ?_ _ _ | refine Ext.storesk ?_ ?_ _ _ _ | refine Ext.store ?_ _ _ (by first | omega | (dsimp only; omega)) | refine Ext.drewN' ?_ _ | refine Ext.drew' ?_ | refine Ext.trans ?_ (by assumption)))); obtain ⟨b, hb⟩ : ∃ b, b = w.heap.size + 3 := ⟨_, rfl⟩; have ho0 : Own w1 v1 m.W b := (by rw [hb]; have := ho; simp at this; exact this); clear ho; have ho1 := ho0; obtain ⟨cu, rfl, u1, u2, u3, u4⟩ := ho1; obtain ⟨u5, u6⟩ := u4 i hi; have e1 : b ≠ w.heap.size := (by omega); have e2 : b ≠ w.heap.size + 1 := (by omega); have e1' : w.heap.size ≠ b := (by omega); have e2' : w.heap.size + 1 ≠ b := (by omega); have hwb : w.heap.size ≤ b := (by omega); have hz1 : Lo b (w.heap.size + 1) := (by show _ < _; omega); clear hb)
      obtain ⟨W4, hW4⟩ : ∃ W4, W4 = w1.setCell ⟨b, i, none⟩ (.int .i64 v) := ⟨_, rfl⟩
      have hE4 : Ext w W4 := by rw [hW4]; exact (by with_reducible (repeat (first | assumption | exact Ext.refl _ | refine Ext.alloc' ?_ _ | refine Ext.store0 ?_ _ _ | refine Ext.storek ?_ _ _ _ | refine Ext.stores0 ?_ ?_ _ _ | refine Ext.storesk ?_ ?_ _ _ _ | refine Ext.store ?_ _ _ (by first | omega | (dsimp only; omega)) | refine Ext.drewN' ?_ _ | refine Ext.drew' ?_ | refine Ext.trans ?_ (by assumption))))
      have D0 := B0.setOther (off := i) e1 (.int .i64 v)
      have D1 := B1.setOther (off := i) e2 (.int .i64 v)
      have ho2 := ho0.set hi v
      rw [← hW4] at D0 D1 ho2 ⊢
      clear hW4
      apply region_lit2 (T := [7]) (L := []) (X := [w.heap.size + 1]) (G := [eqv _, eqv _, eqv _, eqv _, eqv _, eqv _, eqv _, anyG])
      case hm => kernel_rfl
      case hop =>
        refine ⟨?_, ?_, ?_, ?_, ?_, ?_, ?_, ?_, trivial⟩
        · intro a wa hs hf hd
          have t7 := hf.off 7 (by kernel_rfl) rfl
          exact plain_ rfl (yes_eqv (o_move rfl t7) rfl)
        · intro a wa hs hf hd
          have t3 := hf.off 3 (by kernel_rfl) rfl
          exact plain_ rfl (yes_eqv (o_fieldAddr rfl Proofs.Try.underlying50 rfl rfl (by kernel_rfl) t3) rfl)
        · intro a wa hs hf hd
          have t31 : a.eval (.tmp 31) = _ := hd.at 1 31 (by kernel_rfl)
          exact plain_ rfl (yes_eqv (o_load1 rfl Proofs.Try.underlying48 rfl t31 ((D0.since hs rfl).cell rfl)) rfl)
        · intro a wa hs hf hd
          have t3 := hf.off 3 (by kernel_rfl) rfl
          exact plain_ rfl (yes_eqv (o_load3 rfl Proofs.Try.underlying50 rfl (by kernel_rfl) t3 ((D0.since hs rfl).cell rfl) ((D0.since hs rfl).cell rfl) ((D0.since hs rfl).cell rfl)) rfl)
        · intro a wa hs hf hd
          have t1 := hf.off 1 (by kernel_rfl) rfl
          exact plain_ rfl (yes_eqv (o_move rfl t1) rfl)
        · intro a wa hs hf hd
          have t33 : a.eval (.tmp 33) = _ := hd.at 3 33 (by kernel_rfl)
          have t34 : a.eval (.tmp 34) = _ := hd.at 4 34 (by kernel_rfl)
          exact plain_ rfl (yes_gives (kb _ (hE4.trans (Since.to_ext hs) : Ext w _)) rfl rfl Proofs.Try.func124 (by kernel_rfl) (by kernel_rfl) (by simp only [List.map_toArray, List.map_cons, List.map_nil, t33, t34]) rfl)
        · intro a wa hs hf hd
          have t30 : a.eval (.tmp 30) = _ := hd.at 0 30 (by kernel_rfl)
          have t32 : a.eval (.tmp 32) = _ := hd.at 2 32 (by kernel_rfl)
          have t35 : a.eval (.tmp 35) = _ := hd.at 5 35 (by kernel_rfl)
          exact plain_ rfl (yes_eqv (o_build (cells := #[.slice (some ⟨b, 0, none⟩) m.W.length cu, .slice ag m.G.length cg, .bool (badAt m i)]) rfl (by simp only [List.map_toArray, List.map_cons, List.map_nil, eval_const, t30, t32, t35]; first | done | rfl) rfl) rfl)
        · intro a wb wa hs1 hs hf hd hrun
          have t6 := hf.off 6 (by kernel_rfl) rfl
          have t36 : a.eval (.tmp 36) = _ := hd.at 6 36 (by kernel_rfl)
          subst hrun; exact ⟨_, o_store rfl t6 t36 (D1.since hs1 rfl) (by kernel_rfl) (by simp [Value.cells, Value.oneCell']) (by simp [Value.cells]) rfl, Since.put hs (.inr (by simp))⟩
      case hG => exact ⟨stable_eqv _, stable_eqv _, stable_eqv _, stable_eqv _, stable_eqv _, stable_eqv _, stable_eqv _, stable_any, trivial⟩
      case hc => kernel_rfl
      case hfin =>
        intro w5 hs5
        rintro _ rfl _ rfl _ rfl _ rfl _ rfl _ rfl _ rfl
        rintro w6 ⟨o, w7, ho7, hr, rfl⟩
        cases ho7
        simp only [Act.put, List.setIfInBounds_toArray, List.set_cons_zero, List.set_cons_succ] at hr ⊢
        cases (hr.symm.trans (o_store (v := .agg #[.slice (some ⟨b, 0, none⟩) m.W.length cu, .slice ag m.G.length cg, .bool (badAt m i)]) (new := #[.slice (some ⟨b, 0, none⟩) m.W.length cu, .slice ag m.G.length cg, .bool (badAt m i)]) rfl rfl rfl (D1.since hs5 rfl) (by kernel_rfl) (by simp [Value.cells, Value.oneCell']) (by simp [Value.cells]) rfl))
        go_wp2
        have hE6 : Ext w (put w5 (w.heap.size + 1) (.cells #[.slice (some ⟨b, 0, none⟩) m.W.length cu, .slice ag m.G.length cg, .bool (badAt m i)] 50 (0, 0))) := Since.to_ext ((Since.of_ext (hE4.trans (Since.to_ext hs5))).put (.inl (by omega)))
        have hK : Keep (Lo b) W4 (put w5 (w.heap.size + 1) (.cells #[.slice (some ⟨b, 0, none⟩) m.W.length cu, .slice ag m.G.length cg, .bool (badAt m i)] 50 (0, 0))) := ((Keep.refl _ _).ext (Since.to_ext hs5)).put _ _ (.inr hz1)
        exact bodyPost_ret (ret_cell (D1.since hs5 rfl).put Proofs.Try.results69 rfl Proofs.Try.underlying50 rfl (by kernel_rfl)) rfl ⟨_, rfl, hE6, ⟨_, _, rfl, Own.ints (b := b) (ho2.keep (N := Lo b) hK (Nat.lt_irrefl _)) (fun hx => absurd (hN _ hx) (by omega)), hg.ext hE6⟩⟩
end Go.Proofs.Ytcfbdfgondmkoaa
