/- Arenas: a load, by the document. -/
import Derived.Test.YtcfbdfgondmkoaaAr9
import Derived.Test.YtcfbdfgondmkoaaReg2
namespace Go.Proofs.Ytcfbdfgondmkoaa
open Go Go.RowKit
set_option linter.unusedSimpArgs false
set_option linter.unusedVariables false

set_option maxRecDepth 100000 in
theorem refLoad_ (N : Nat → Prop) (v : Value) (m : Arena) (x : Int) (w : World) (h : IsMem N w v m) (hf : Fits m) (hN : ∀ b, N b → b < w.heap.size) :
    Gives Proofs.Try.prog 65 #[v, .int .i64 x] w (fun r w' => ∃ u, r = .tuple #[u, .int .i64 (loadD m x)] ∧ IsMem N w' u (touchD m x)) := by
  have kb := fun (w' : World) (e : Ext w w') => refBad_ N v m x w' (h.ext e) hf
  obtain ⟨aw, cw, ag, cg, rfl, hw, hg⟩ := h.opened
  obtain ⟨_, _, e0, rw_, lw, cwc⟩ := hw.opened
  cases e0
  go_enter Proofs.Try.func65, Proofs.Try.ntmps65
  go_wp2_with (fail)
  obtain ⟨W, hW⟩ : ∃ W, W = (w.alloc (Obj.cells #[.slice aw m.W.length cw, .slice ag m.G.length cg, .bool m.bad] 50)).alloc (Obj.cells #[.slice none 0 0, .slice none 0 0, .bool false] 50) := ⟨_, rfl⟩
  have hEW : Ext w W := by rw [hW]; exact (by with_reducible (repeat (first | assumption | exact Ext.refl _ | refine Ext.alloc' ?_ _ | refine Ext.store0 ?_ _ _ | refine Ext.storek ?_ _ _ _ | refine Ext.stores0 ?_ ?_ _ _ | refine Ext.storesk ?_ ?_ _ _ _ | refine Ext.drewN' ?_ _ | refine Ext.drew' ?_ | refine Ext.trans ?_ (by assumption))))
  have hsz : w.heap.size + 2 ≤ W.heap.size := by rw [hW]; simp
  have B0 : Box W w.heap.size #[.slice aw m.W.length cw, .slice ag m.G.length cg, .bool m.bad] 50 := by rw [hW]; exact (Box.new _ _ _).alloc _
  have B1 : Box W (w.heap.size + 1) #[.slice none 0 0, .slice none 0 0, .bool false] 50 := by rw [hW]; exact Box.two _ _ _ _ _
  rw [← hW]
  clear hW
  apply region_lit2 (T := [9]) (L := []) (X := []) (G := [eqv _, eqv _, eqv _, eqv _, eqv _, eqv _, eqv _, eqv _, isNew W.heap.size #[.slice none 0 0, .slice none 0 0, .bool false] 50, anyG])
  case hm => kernel_rfl
  case hop =>
    refine ⟨?_, ?_, ?_, ?_, ?_, ?_, ?_, ?_, ?_, ?_, trivial⟩
    · intro a wa hs hf hd
      have t2 := hf.off 2 (by kernel_rfl) rfl
      exact plain_ rfl (yes_eqv (o_fieldAddr rfl Proofs.Try.underlying50 rfl rfl (by kernel_rfl) t2) rfl)
    · intro a wa hs hf hd
      have t7 : a.eval (.tmp 7) = _ := hd.at 0 7 (by kernel_rfl)
      exact plain_ rfl (yes_eqv (o_load1 rfl Proofs.Try.underlying48 rfl t7 ((B0.since hs rfl).cell rfl)) rfl)
    · intro a wa hs hf hd
      have t2 := hf.off 2 (by kernel_rfl) rfl
      exact plain_ rfl (yes_eqv (o_fieldAddr rfl Proofs.Try.underlying50 rfl rfl (by kernel_rfl) t2) rfl)
    · intro a wa hs hf hd
      have t9 : a.eval (.tmp 9) = _ := hd.at 2 9 (by kernel_rfl)
      exact plain_ rfl (yes_eqv (o_load1 rfl Proofs.Try.underlying48 rfl t9 ((B0.since hs rfl).cell rfl)) rfl)
    · intro a wa hs hf hd
      have t2 := hf.off 2 (by kernel_rfl) rfl
      exact plain_ rfl (yes_eqv (o_load3 rfl Proofs.Try.underlying50 rfl (by kernel_rfl) t2 ((B0.since hs rfl).cell rfl) ((B0.since hs rfl).cell rfl) ((B0.since hs rfl).cell rfl)) rfl)
    · intro a wa hs hf hd
      have t1 := hf.off 1 (by kernel_rfl) rfl
      exact plain_ rfl (yes_eqv (o_move rfl t1) rfl)
    · intro a wa hs hf hd
      have t11 : a.eval (.tmp 11) = _ := hd.at 4 11 (by kernel_rfl)
      have t12 : a.eval (.tmp 12) = _ := hd.at 5 12 (by kernel_rfl)
      exact plain_ rfl (yes_gives (kb _ (hEW.trans (Since.to_ext hs) : Ext w _)) rfl rfl Proofs.Try.func124 (by kernel_rfl) (by kernel_rfl) (by simp only [List.map_toArray, List.map_cons, List.map_nil, t11, t12]) rfl)
    · intro a wa hs hf hd
      have t8 : a.eval (.tmp 8) = _ := hd.at 1 8 (by kernel_rfl)
      have t10 : a.eval (.tmp 10) = _ := hd.at 3 10 (by kernel_rfl)
      have t13 : a.eval (.tmp 13) = _ := hd.at 6 13 (by kernel_rfl)
      exact plain_ rfl (yes_eqv (o_build (cells := #[.slice aw m.W.length cw, .slice ag m.G.length cg, .bool (badAt m x)]) rfl (by simp only [List.map_toArray, List.map_cons, List.map_nil, eval_const, t8, t10, t13]; first | done | rfl) rfl) rfl)
    · intro a wa hs hf hd
      exact plain_ rfl (yes_new (z := .agg #[.slice none 0 0, .slice none 0 0, .bool false]) rfl (by kernel_rfl) rfl rfl hs.size)
    · intro a wb wa hs1 hs hf hd hrun
      have t6 := hd.at 8 6 (by kernel_rfl)
      have t14 : a.eval (.tmp 14) = _ := hd.at 7 14 (by kernel_rfl)
      subst hrun
      obtain ⟨k, hk, hn, hB⟩ := t6
      exact ⟨_, o_store rfl hk t14 hB (by kernel_rfl) (by simp [Value.cells, Value.oneCell']) (by simp [Value.cells]) rfl, Since.put hs (.inl (by omega))⟩
  case hG => exact ⟨stable_eqv _, stable_eqv _, stable_eqv _, stable_eqv _, stable_eqv _, stable_eqv _, stable_eqv _, stable_eqv _, stable_isNew _ _ _, stable_any, trivial⟩
  case hc => kernel_rfl
  case hfin =>
    intro w2 hs
    rintro _ rfl _ rfl _ rfl _ rfl _ rfl _ rfl _ rfl _ rfl _ ⟨b6, rfl, hn6, hB6⟩
    rintro w3 ⟨o, w4, ho, hr, rfl⟩
    cases ho
    simp only [Act.put, List.setIfInBounds_toArray, List.set_cons_zero, List.set_cons_succ] at hr ⊢
    cases (hr.symm.trans (o_store (v := .agg #[.slice aw m.W.length cw, .slice ag m.G.length cg, .bool (badAt m x)]) (new := #[.slice aw m.W.length cw, .slice ag m.G.length cg, .bool (badAt m x)]) rfl rfl rfl hB6 (by kernel_rfl) (by simp [Value.cells, Value.oneCell']) (by simp [Value.cells]) rfl))
    have hE2 : Ext w w2 := hEW.trans (Since.to_ext hs)
    obtain ⟨W2, hW2⟩ : ∃ W2, W2 = put w2 b6 (.cells #[.slice aw m.W.length cw, .slice ag m.G.length cg, .bool (badAt m x)] 50 (0, 0)) := ⟨_, rfl⟩
    have hEW2 : Ext w W2 := by rw [hW2]; exact Since.to_ext ((Since.of_ext hE2).put (.inl (by omega)))
    have B6 : Box W2 b6 #[.slice aw m.W.length cw, .slice ag m.G.length cg, .bool (badAt m x)] 50 := by rw [hW2]; exact hB6.put
    have C0 : Box W2 w.heap.size #[.slice aw m.W.length cw, .slice ag m.G.length cg, .bool m.bad] 50 := by rw [hW2]; exact (B0.since hs rfl).put_other (by omega)
    have C1 : Box W2 (w.heap.size + 1) #[.slice none 0 0, .slice none 0 0, .bool false] 50 := by rw [hW2]; exact (B1.since hs rfl).put_other (by omega)
    rw [← hW2]
    clear hW2
    obtain ⟨c00, c01, c02, d00, d01, d02⟩ := cells3 C0
    obtain ⟨c10, c11, c12, d10, d11, d12⟩ := cells3 C1
    obtain ⟨c60, c61, c62, d60, d61, d62⟩ := cells3 B6
    have e6 : b6 ≠ w.heap.size + 1 := by omega
    by_cases h1 : x < 0
    · have hl : loadD m x = 0 := by unfold loadD; rw [if_pos (by simp [outside]; omega)]
      have BF : Box (((W2.setCell ⟨w.heap.size + 1, 0, none⟩ (.slice aw m.W.length cw)).setCell ⟨w.heap.size + 1, 1, none⟩ (.slice ag m.G.length cg)).setCell ⟨w.heap.size + 1, 2, none⟩ (.bool (badAt m x))) (w.heap.size + 1) #[.slice aw m.W.length cw, .slice ag m.G.length cg, .bool (badAt m x)] 50 := ((C1.setCell _).setCell _).setCell _
      go_wp2
      exact bodyPost_ret (ret_cell_tmp BF Proofs.Try.results65 rfl Proofs.Try.underlying50 rfl (by kernel_rfl)) rfl ⟨_, rfl, (by with_reducible (repeat (first | assumption | exact Ext.refl _ | refine Ext.alloc' ?_ _ | refine Ext.store0 ?_ _ _ | refine Ext.storek ?_ _ _ _ | refine Ext.stores0 ?_ ?_ _ _ | refine Ext.storesk ?_ ?_ _ _ _ | refine Ext.drewN' ?_ _ | refine Ext.drew' ?_ | refine Ext.trans ?_ (by assumption)))), _, by first | rfl | (rw [hl]; rfl), ⟨_, _, rfl, hw.ext (by with_reducible (repeat (first | assumption | exact Ext.refl _ | refine Ext.alloc' ?_ _ | refine Ext.store0 ?_ _ _ | refine Ext.storek ?_ _ _ _ | refine Ext.stores0 ?_ ?_ _ _ | refine Ext.storesk ?_ ?_ _ _ _ | refine Ext.drewN' ?_ _ | refine Ext.drew' ?_ | refine Ext.trans ?_ (by assumption)))), hg.ext (by with_reducible (repeat (first | assumption | exact Ext.refl _ | refine Ext.alloc' ?_ _ | refine Ext.store0 ?_ _ _ | refine Ext.storek ?_ _ _ _ | refine Ext.stores0 ?_ ?_ _ _ | refine Ext.storesk ?_ ?_ _ _ _ | refine Ext.drewN' ?_ _ | refine Ext.drew' ?_ | refine Ext.trans ?_ (by assumption))))⟩⟩
    · by_cases h2 : (m.W.length : Int) ≤ x
      · have hl : loadD m x = 0 := by unfold loadD; rw [if_pos (by simp [outside]; omega)]
        have BF : Box (((W2.setCell ⟨w.heap.size + 1, 0, none⟩ (.slice aw m.W.length cw)).setCell ⟨w.heap.size + 1, 1, none⟩ (.slice ag m.G.length cg)).setCell ⟨w.heap.size + 1, 2, none⟩ (.bool (badAt m x))) (w.heap.size + 1) #[.slice aw m.W.length cw, .slice ag m.G.length cg, .bool (badAt m x)] 50 := ((C1.setCell _).setCell _).setCell _
        go_wp2
        exact bodyPost_ret (ret_cell_tmp BF Proofs.Try.results65 rfl Proofs.Try.underlying50 rfl (by kernel_rfl)) rfl ⟨_, rfl, (by with_reducible (repeat (first | assumption | exact Ext.refl _ | refine Ext.alloc' ?_ _ | refine Ext.store0 ?_ _ _ | refine Ext.storek ?_ _ _ _ | refine Ext.stores0 ?_ ?_ _ _ | refine Ext.storesk ?_ ?_ _ _ _ | refine Ext.drewN' ?_ _ | refine Ext.drew' ?_ | refine Ext.trans ?_ (by assumption)))), _, by first | rfl | (rw [hl]; rfl), ⟨_, _, rfl, hw.ext (by with_reducible (repeat (first | assumption | exact Ext.refl _ | refine Ext.alloc' ?_ _ | refine Ext.store0 ?_ _ _ | refine Ext.storek ?_ _ _ _ | refine Ext.stores0 ?_ ?_ _ _ | refine Ext.storesk ?_ ?_ _ _ _ | refine Ext.drewN' ?_ _ | refine Ext.drew' ?_ | refine Ext.trans ?_ (by assumption)))), hg.ext (by with_reducible (repeat (first | assumption | exact Ext.refl _ | refine Ext.alloc' ?_ _ | refine Ext.store0 ?_ _ _ | refine Ext.storek ?_ _ _ _ | refine Ext.stores0 ?_ ?_ _ _ | refine Ext.storesk ?_ ?_ _ _ _ | refine Ext.drewN' ?_ _ | refine Ext.drew' ?_ | refine Ext.trans ?_ (by assumption))))⟩⟩
      · obtain ⟨k, rfl⟩ : ∃ k : Nat, x = k := ⟨x.toNat, by omega⟩
        obtain ⟨ba, oa, rfl, xa, na, ea⟩ := cwc k (by omega)
        have ea1 := cell_ext ea hEW2
        have ea3 : W2.cell? ⟨ba, oa + (k : Int).toNat * 1, none⟩ = some (.int .i64 (gi m.W k)) := by simpa using ea1
        go_wp2_with (fail)
        apply region_lit2 (T := [6]) (L := [1, 2, 3, 4, 5, 7]) (X := [w.heap.size + 1]) (G := [eqv _, eqv _, eqv _, eqv _, eqv _, eqv _, anyG, eqv _])
        case hm => kernel_rfl
        case hop =>
          refine ⟨?_, ?_, ?_, ?_, ?_, ?_, ?_, ?_, trivial⟩
          · intro a wa hs hf hd
            have t6 := hf.off 6 (by kernel_rfl) rfl
            exact plain_ rfl (yes_eqv (o_load3 rfl Proofs.Try.underlying50 rfl (by kernel_rfl) t6 ((B6.since hs rfl).cell rfl) ((B6.since hs rfl).cell rfl) ((B6.since hs rfl).cell rfl)) rfl)
          · intro a wb wa hs1 hs hf hd
            have t2 := hf.off 2 (by kernel_rfl) rfl
            exact plain_ rfl (late_eqv (o_fieldAddr rfl Proofs.Try.underlying50 rfl rfl (by kernel_rfl) t2) rfl)
          · intro a wb wa hs1 hs hf hd
            have t26 : a.eval (.tmp 26) = _ := hd.at 1 26 (by kernel_rfl)
            exact plain_ rfl (late_eqv (o_load1 rfl Proofs.Try.underlying48 rfl t26 ((C0.since hs (by simp)).cell rfl)) rfl)
          · intro a wb wa hs1 hs hf hd
            have t1 := hf.off 1 (by kernel_rfl) rfl
            exact plain_ rfl (late_eqv (o_move rfl t1) rfl)
          · intro a wb wa hs1 hs hf hd
            have t27 : a.eval (.tmp 27) = _ := hd.at 2 27 (by kernel_rfl)
            have t28 : a.eval (.tmp 28) = _ := hd.at 3 28 (by kernel_rfl)
            exact plain_ rfl (late_eqv (o_indexAddr (sz := 1) rfl Proofs.Try.underlying48 (by kernel_rfl) t27 t28 (by omega) (by omega)) rfl)
          · intro a wb wa hs1 hs hf hd
            have t29 : a.eval (.tmp 29) = _ := hd.at 4 29 (by kernel_rfl)
            exact plain_ rfl (late_eqv (o_load1 rfl Proofs.Try.underlying3 rfl t29 (cell_since ea3 hs (by simp; omega))) rfl)
          · intro a wb wa hs1 hs hf hd hrun
            have t4 := hf.off 4 (by kernel_rfl) rfl
            have t25 : a.eval (.tmp 25) = _ := hd.at 0 25 (by kernel_rfl)
            subst hrun; exact ⟨_, o_store rfl t4 t25 (C1.since hs1 rfl) (by kernel_rfl) (by simp [Value.cells, Value.oneCell']) (by simp [Value.cells]) rfl, Since.put hs (.inr (by simp))⟩
          · intro a wb wa hs1 hs hf hd
            have t30 : a.eval (.tmp 30) = _ := hd.at 5 30 (by kernel_rfl)
            exact plain_ rfl (late_eqv (o_assign rfl t30) rfl)
        case hG => exact ⟨stable_eqv _, stable_eqv _, stable_eqv _, stable_eqv _, stable_eqv _, stable_eqv _, stable_any, stable_eqv _, trivial⟩
        case hc => kernel_rfl
        case hfin =>
          intro w3 hs3
          rintro _ rfl _ rfl _ rfl _ rfl _ rfl _ rfl _ rfl
          rintro w5 ⟨o, w4, ho, hr, rfl⟩
          cases ho
          simp only [Act.put, List.setIfInBounds_toArray, List.set_cons_zero, List.set_cons_succ] at hr ⊢
          cases (hr.symm.trans (o_store (v := .agg #[.slice (some ⟨ba, oa, none⟩) m.W.length cw, .slice ag m.G.length cg, .bool (badAt m k)]) (new := #[.slice (some ⟨ba, oa, none⟩) m.W.length cw, .slice ag m.G.length cg, .bool (badAt m k)]) rfl rfl rfl (C1.since hs3 rfl) (by kernel_rfl) (by simp [Value.cells, Value.oneCell']) (by simp [Value.cells]) rfl))
          go_wp2
          have hE4 : Ext w (put w3 (w.heap.size + 1) (.cells #[.slice (some ⟨ba, oa, none⟩) m.W.length cw, .slice ag m.G.length cg, .bool (badAt m k)] 50 (0, 0))) := Since.to_ext ((Since.of_ext (hEW2.trans (Since.to_ext hs3))).put (.inl (by omega)))
          have hl : loadD m k = gi m.W k := by unfold loadD; rw [if_neg (by simp [outside]; omega)]; simp
          exact bodyPost_ret (ret_cell_tmp ((C1.since hs3 rfl).put) Proofs.Try.results65 rfl Proofs.Try.underlying50 rfl (by kernel_rfl)) rfl ⟨_, rfl, hE4, _, by first | rfl | (rw [hl]; rfl), ⟨_, _, rfl, hw.ext hE4, hg.ext hE4⟩⟩

end Go.Proofs.Ytcfbdfgondmkoaa
