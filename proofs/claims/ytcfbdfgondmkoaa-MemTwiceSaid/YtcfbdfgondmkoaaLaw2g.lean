/- MemTwice: its walk. -/
import Derived.Test.YtcfbdfgondmkoaaDat3
namespace Go.Proofs.Ytcfbdfgondmkoaa
open Go Go.RowKit
set_option linter.unusedSimpArgs false
set_option linter.unusedVariables false
set_option linter.unnecessarySimpa false

theorem IsInts.put {N : Nat → Prop} {w : World} {v : Value} {l : List Int} {b : Nat} {cs cs' : Array Value} {t : TypeId} (h : IsInts N w v l) (hB : Box w b cs t) (hc : ∀ (off : Nat) k n, cs[off]? ≠ some (.int k n)) :
    IsInts N (Ytcfbdfgondmkoaa.put w b (.cells cs' t (0, 0))) v l := by
  obtain ⟨a, cap, rfl, h1, h2, h3, h4⟩ := h
  exact ⟨a, cap, rfl, h1, h2, h3, fun i hi => by
    obtain ⟨b', off, e, hb, hn, hc'⟩ := h4 i hi
    have hne : b ≠ b' := fun k => by
      subst k
      rw [cell_of_row w b (off + i) cs t (0, 0) hB] at hc'
      exact hc _ _ _ hc'
    refine ⟨b', off, e, by rw [put_size]; exact hb, hn, ?_⟩
    rw [World.cell?_of_block (show (Ytcfbdfgondmkoaa.put w b (.cells cs' t (0, 0))).heap[b']? = w.heap[b']? from put_other hne)]
    exact hc'⟩
theorem zero50 : ∀ (off : Nat) k n, (#[.slice none 0 0, .slice none 0 0, .bool false] : Array Value)[off]? ≠ some (.int k n) := by
  intro off k n
  match off with
  | 0 => simp
  | 1 => simp
  | 2 => simp
  | n + 3 => simp

set_option maxHeartbeats 8000000 in
set_option maxRecDepth 100000 in
theorem memTwice_ (v0 v1 v2 : Value) (m : Arena) (a0 a1 u0 u1 : Int) (w : World) (h : IsMem no w (.agg #[v0, v1, v2]) m) (hx0 : -9223372036854775808 ≤ a0) (hx1 : a0 ≤ 9223372036854775807) (hy0 : -9223372036854775808 ≤ a1) (hy1 : a1 ≤ 9223372036854775807) :
    Gives Proofs.Try.prog 15 #[.agg #[v0, v1, v2], .agg #[.int .i64 a0, .int .i64 a1], .agg #[.int .i64 u0, .int .i64 u1]] w (eqv (.bool true)) := by
  have km := fun (w' : World) (e : Ext w w') => memMay_ no _ m 60 (by omega) w' (h.ext e)
  obtain ⟨aw, cw, ag, cg, e, hw, hg⟩ := h.opened
  obtain ⟨rfl, rfl, rfl⟩ : v0 = .slice aw m.W.length cw ∧ v1 = .slice ag m.G.length cg ∧ v2 = .bool m.bad := by simpa using e
  clear e
  cases hm : mayD m 60 <;> rw [hm] at km
  · go_enter Proofs.Try.func15, Proofs.Try.ntmps15
    go_wp2_with (fail)
    go_at_call 49
    refine (shown2_ _).calls.mono ?_
    rintro e w1 ⟨_, rfl, hb1, rfl⟩
    have Bm_1 : Box w1 (w.heap.size) #[.slice aw m.W.length cw, .slice ag m.G.length cg, .bool m.bad] 50 := (((Box.new _ _ _).alloc _).alloc _).ext hb1
    have Ba_1 : Box w1 (w.heap.size + 1) #[.int .i64 a0, .int .i64 a1] 75 := ((Box.two _ _ _ _ _).alloc _).ext hb1
    have Bv_1 : Box w1 (w.heap.size + 1 + 1) #[.int .i64 u0, .int .i64 u1] 75 := (Box.three' _ _ _ _ _ _ _).ext hb1
    obtain ⟨cm0, cm1, cm2, dm0, dm1, dm2⟩ := cells3 Bm_1
    have zm : w.heap.size < w1.heap.size := Bm_1.lt
    obtain ⟨ca0, ca1, da0, da1⟩ := cells2 Ba_1
    have za : w.heap.size + 1 < w1.heap.size := Ba_1.lt
    obtain ⟨cv0, cv1, dv0, dv1⟩ := cells2 Bv_1
    have zv : w.heap.size + 1 + 1 < w1.heap.size := Bv_1.lt
    go_wp2_with (fail)
    go_at_call 63
    refine (km _ (by with_reducible (repeat (first | assumption | exact Ext.refl _ | refine Ext.alloc' ?_ _ | refine Ext.store0 ?_ _ _ | refine Ext.storek ?_ _ _ _ | refine Ext.stores0 ?_ ?_ _ _ | refine Ext.storesk ?_ ?_ _ _ _ | refine Ext.drewN' ?_ _ | refine Ext.drew' ?_ | refine Ext.trans ?_ (by assumption))))).calls.mono ?_
    rintro e w2 ⟨_, rfl, hb2, rfl⟩
    have Bm_2 := Bm_1.ext (show Ext w1 w2 from (by with_reducible (repeat (first | assumption | exact Ext.refl _ | refine Ext.alloc' ?_ _ | refine Ext.store0 ?_ _ _ | refine Ext.storek ?_ _ _ _ | refine Ext.stores0 ?_ ?_ _ _ | refine Ext.storesk ?_ ?_ _ _ _ | refine Ext.drewN' ?_ _ | refine Ext.drew' ?_ | refine Ext.trans ?_ (by assumption)))))
    have Ba_2 := Ba_1.ext (show Ext w1 w2 from (by with_reducible (repeat (first | assumption | exact Ext.refl _ | refine Ext.alloc' ?_ _ | refine Ext.store0 ?_ _ _ | refine Ext.storek ?_ _ _ _ | refine Ext.stores0 ?_ ?_ _ _ | refine Ext.storesk ?_ ?_ _ _ _ | refine Ext.drewN' ?_ _ | refine Ext.drew' ?_ | refine Ext.trans ?_ (by assumption)))))
    have Bv_2 := Bv_1.ext (show Ext w1 w2 from (by with_reducible (repeat (first | assumption | exact Ext.refl _ | refine Ext.alloc' ?_ _ | refine Ext.store0 ?_ _ _ | refine Ext.storek ?_ _ _ _ | refine Ext.stores0 ?_ ?_ _ _ | refine Ext.storesk ?_ ?_ _ _ _ | refine Ext.drewN' ?_ _ | refine Ext.drew' ?_ | refine Ext.trans ?_ (by assumption)))))
    clear Bm_1 zm cm0 cm1 cm2 dm0 dm1 dm2 Ba_1 za ca0 ca1 da0 da1 Bv_1 zv cv0 cv1 dv0 dv1
    obtain ⟨cm0, cm1, cm2, dm0, dm1, dm2⟩ := cells3 Bm_2
    have zm : w.heap.size < w2.heap.size := Bm_2.lt
    obtain ⟨ca0, ca1, da0, da1⟩ := cells2 Ba_2
    have za : w.heap.size + 1 < w2.heap.size := Ba_2.lt
    obtain ⟨cv0, cv1, dv0, dv1⟩ := cells2 Bv_2
    have zv : w.heap.size + 1 + 1 < w2.heap.size := Bv_2.lt
    go_wp2
    go_ret
    exact ⟨_, rfl, (by with_reducible (repeat (first | assumption | exact Ext.refl _ | refine Ext.alloc' ?_ _ | refine Ext.store0 ?_ _ _ | refine Ext.storek ?_ _ _ _ | refine Ext.stores0 ?_ ?_ _ _ | refine Ext.storesk ?_ ?_ _ _ _ | refine Ext.drewN' ?_ _ | refine Ext.drew' ?_ | refine Ext.trans ?_ (by assumption)))), rfl⟩
  · go_enter Proofs.Try.func15, Proofs.Try.ntmps15
    go_wp2_with (fail)
    go_at_call 49
    refine (shown2_ _).calls.mono ?_
    rintro e w1 ⟨_, rfl, hb1, rfl⟩
    have Bm_1 : Box w1 (w.heap.size) #[.slice aw m.W.length cw, .slice ag m.G.length cg, .bool m.bad] 50 := (((Box.new _ _ _).alloc _).alloc _).ext hb1
    have Ba_1 : Box w1 (w.heap.size + 1) #[.int .i64 a0, .int .i64 a1] 75 := ((Box.two _ _ _ _ _).alloc _).ext hb1
    have Bv_1 : Box w1 (w.heap.size + 1 + 1) #[.int .i64 u0, .int .i64 u1] 75 := (Box.three' _ _ _ _ _ _ _).ext hb1
    obtain ⟨cm0, cm1, cm2, dm0, dm1, dm2⟩ := cells3 Bm_1
    have zm : w.heap.size < w1.heap.size := Bm_1.lt
    obtain ⟨ca0, ca1, da0, da1⟩ := cells2 Ba_1
    have za : w.heap.size + 1 < w1.heap.size := Ba_1.lt
    obtain ⟨cv0, cv1, dv0, dv1⟩ := cells2 Bv_1
    have zv : w.heap.size + 1 + 1 < w1.heap.size := Bv_1.lt
    go_wp2_with (fail)
    go_at_call 63
    refine (km _ (by with_reducible (repeat (first | assumption | exact Ext.refl _ | refine Ext.alloc' ?_ _ | refine Ext.store0 ?_ _ _ | refine Ext.storek ?_ _ _ _ | refine Ext.stores0 ?_ ?_ _ _ | refine Ext.storesk ?_ ?_ _ _ _ | refine Ext.drewN' ?_ _ | refine Ext.drew' ?_ | refine Ext.trans ?_ (by assumption))))).calls.mono ?_
    rintro e w2 ⟨_, rfl, hb2, rfl⟩
    have Bm_2 := Bm_1.ext (show Ext w1 w2 from (by with_reducible (repeat (first | assumption | exact Ext.refl _ | refine Ext.alloc' ?_ _ | refine Ext.store0 ?_ _ _ | refine Ext.storek ?_ _ _ _ | refine Ext.stores0 ?_ ?_ _ _ | refine Ext.storesk ?_ ?_ _ _ _ | refine Ext.drewN' ?_ _ | refine Ext.drew' ?_ | refine Ext.trans ?_ (by assumption)))))
    have Ba_2 := Ba_1.ext (show Ext w1 w2 from (by with_reducible (repeat (first | assumption | exact Ext.refl _ | refine Ext.alloc' ?_ _ | refine Ext.store0 ?_ _ _ | refine Ext.storek ?_ _ _ _ | refine Ext.stores0 ?_ ?_ _ _ | refine Ext.storesk ?_ ?_ _ _ _ | refine Ext.drewN' ?_ _ | refine Ext.drew' ?_ | refine Ext.trans ?_ (by assumption)))))
    have Bv_2 := Bv_1.ext (show Ext w1 w2 from (by with_reducible (repeat (first | assumption | exact Ext.refl _ | refine Ext.alloc' ?_ _ | refine Ext.store0 ?_ _ _ | refine Ext.storek ?_ _ _ _ | refine Ext.stores0 ?_ ?_ _ _ | refine Ext.storesk ?_ ?_ _ _ _ | refine Ext.drewN' ?_ _ | refine Ext.drew' ?_ | refine Ext.trans ?_ (by assumption)))))
    clear Bm_1 zm cm0 cm1 cm2 dm0 dm1 dm2 Ba_1 za ca0 ca1 da0 da1 Bv_1 zv cv0 cv1 dv0 dv1
    obtain ⟨cm0, cm1, cm2, dm0, dm1, dm2⟩ := cells3 Bm_2
    have zm : w.heap.size < w2.heap.size := Bm_2.lt
    obtain ⟨ca0, ca1, da0, da1⟩ := cells2 Ba_2
    have za : w.heap.size + 1 < w2.heap.size := Ba_2.lt
    obtain ⟨cv0, cv1, dv0, dv1⟩ := cells2 Bv_2
    have zv : w.heap.size + 1 + 1 < w2.heap.size := Bv_2.lt
    have hFit := Fits.of_may hm
    have fS : ¬ a0 = a1 → sameD (storeD (storeD m a0 u0) a1 u1) (storeD (storeD m a1 u1) a0 u0) = true := fun e => by rw [store_comm m u0 u1 e]; exact sameD_refl _
    have fL : outside m a1 = false → loadD (storeD (storeD m a0 u0) a1 u1) a1 = u1 := fun e => load_store (by rw [outside_store]; exact e)
    have fC : casIs (storeD (storeD m a0 u0) a1 u1) a1 u1 = !outside m a1 := by rw [casIs_store, outside_store]
    have fD : casIs (casD (storeD (storeD m a0 u0) a1 u1) a1 u1 u0) a1 u0 = !outside m a1 := by rw [cas_back, outside_store]
    have fW : outside m a1 = false → (casD (casD (storeD (storeD m a0 u0) a1 u1) a1 u1 u0) a1 u0 u1).W = (storeD (storeD m a0 u0) a1 u1).W := fun e => cas_backW _ a1 u1 u0 (by rw [outside_store]; exact e)
    have xFit : Fits (storeD (storeD m a0 u0) a1 u1) := (hFit.same (storeD_len _ _ _)).same (storeD_len _ _ _)
    have cFit : Fits (casD (storeD (storeD m a0 u0) a1 u1) a1 u1 u0) := xFit.same (casD_len _ _ _ _)
    have lx : (storeD (storeD m a0 u0) a1 u1).W.length = m.W.length := by rw [(storeD_len _ _ _).1, (storeD_len _ _ _).1]
    obtain ⟨ms, hms⟩ : ∃ ms, storeD m a0 u0 = ms := ⟨_, rfl⟩
    obtain ⟨mr, hmr⟩ : ∃ mr, storeD m a1 u1 = mr := ⟨_, rfl⟩
    have sFit : Fits ms := by rw [← hms]; exact hFit.same (storeD_len _ _ _)
    have rFit : Fits mr := by rw [← hmr]; exact hFit.same (storeD_len _ _ _)
    rw [hms] at fS fL fC fD fW xFit cFit lx
    rw [hmr] at fS
    obtain ⟨mx, hmx⟩ : ∃ mx, storeD ms a1 u1 = mx := ⟨_, rfl⟩
    obtain ⟨my, hmy⟩ : ∃ my, storeD mr a0 u0 = my := ⟨_, rfl⟩
    rw [hmx] at fS fL fC fD fW xFit cFit lx
    rw [hmy] at fS
    obtain ⟨mc, hmc⟩ : ∃ mc, casD mx a1 u1 u0 = mc := ⟨_, rfl⟩
    rw [hmc] at fD fW cFit
    obtain ⟨md, hmd⟩ : ∃ md, casD mc a1 u0 u1 = md := ⟨_, rfl⟩
    rw [hmd] at fW
    obtain ⟨ml, hml⟩ : ∃ ml, touchD mx a1 = ml := ⟨_, rfl⟩
    obtain ⟨bo, hbo⟩ : ∃ bo, outside m a1 = bo := ⟨_, rfl⟩
    rw [hbo] at fL fC fD fW
    obtain ⟨z, hz⟩ : ∃ z, loadD mx a1 = z := ⟨_, rfl⟩
    rw [hz] at fL
    have h6 := Lib.hid hms; have h7 := Lib.hid hmr; have h8 := Lib.hid hmx; have h9 := Lib.hid hmy; have h10 := Lib.hid hmc; have h11 := Lib.hid hmd; have h12 := Lib.hid hml; have h13 := Lib.hid hz
    have hO := Lib.hid hbo; have HC := Lib.hid fC; have HD := Lib.hid fD; have HS := Lib.hid fS; have HL := Lib.hid fL; have HW := Lib.hid fW; have HX := Lib.hid lx
    clear hms hmr hmx hmy hmc hmd hml hbo fC fD fS fL fW hz lx
    go_wp2_with (fail)
    have hEk2 : Ext w w2 := (by with_reducible (repeat (first | assumption | exact Ext.refl _ | refine Ext.alloc' ?_ _ | refine Ext.store0 ?_ _ _ | refine Ext.storek ?_ _ _ _ | refine Ext.stores0 ?_ ?_ _ _ | refine Ext.storesk ?_ ?_ _ _ _ | refine Ext.drewN' ?_ _ | refine Ext.drew' ?_ | refine Ext.trans ?_ (by assumption))))
    apply region_lit2 (T := [12]) (L := []) (X := []) (G := [eqv _, eqv _, eqv _, eqv _, eqv _, isM ms, eqv _, eqv _, eqv _, eqv _, isM mx, isNew w2.heap.size #[.slice none 0 0, .slice none 0 0, .bool false] 50, anyG])
    case hm => kernel_rfl
    case hop =>
      refine ⟨?_, ?_, ?_, ?_, ?_, ?_, ?_, ?_, ?_, ?_, ?_, ?_, ?_, trivial⟩
      · intro a wa hs hf hd
        have t3 := hf.off 3 (by kernel_rfl) rfl
        exact plain_ rfl (yes_eqv (o_load3 rfl Proofs.Try.underlying50 rfl (by kernel_rfl) t3 ((Bm_2.since hs rfl).cell rfl) ((Bm_2.since hs rfl).cell rfl) ((Bm_2.since hs rfl).cell rfl)) rfl)
      · intro a wa hs hf hd
        have t4 := hf.off 4 (by kernel_rfl) rfl
        exact plain_ rfl (yes_eqv (o_indexAddrA (sz := 1) rfl Proofs.Try.underlying75 (by kernel_rfl) t4 rfl (by decide) (by decide)) rfl)
      · intro a wa hs hf hd
        have t23 : a.eval (.tmp 23) = _ := hd.at 1 23 (by kernel_rfl)
        exact plain_ rfl (yes_eqv (o_load1 rfl Proofs.Try.underlying3 rfl t23 ((Ba_2.since hs rfl).cell rfl)) rfl)
      · intro a wa hs hf hd
        have t5 := hf.off 5 (by kernel_rfl) rfl
        exact plain_ rfl (yes_eqv (o_indexAddrA (sz := 1) rfl Proofs.Try.underlying75 (by kernel_rfl) t5 rfl (by decide) (by decide)) rfl)
      · intro a wa hs hf hd
        have t25 : a.eval (.tmp 25) = _ := hd.at 3 25 (by kernel_rfl)
        exact plain_ rfl (yes_eqv (o_load1 rfl Proofs.Try.underlying3 rfl t25 ((Bv_2.since hs rfl).cell rfl)) rfl)
      · intro a wa hs hf hd
        have t22 : a.eval (.tmp 22) = _ := hd.at 0 22 (by kernel_rfl)
        have t24 : a.eval (.tmp 24) = _ := hd.at 2 24 (by kernel_rfl)
        have t26 : a.eval (.tmp 26) = _ := hd.at 4 26 (by kernel_rfl)
        exact plain_ rfl (yes_gives (by have h5 := memStore_ no _ m a0 u0 _ ((IsMem.mk rfl hw hg : IsMem no w (.agg #[.slice aw m.W.length cw, .slice ag m.G.length cg, .bool m.bad]) m).ext (hEk2.trans (Since.to_ext hs))) hFit no_lt (by omega) (by omega); rw [h6.out] at h5; exact h5) rfl rfl Proofs.Try.func68 (by kernel_rfl) (by kernel_rfl) (by simp only [List.map_toArray, List.map_cons, List.map_nil, t22, t24, t26]) rfl)
      · intro a wa hs hf hd
        have t4 := hf.off 4 (by kernel_rfl) rfl
        exact plain_ rfl (yes_eqv (o_indexAddrA (sz := 1) rfl Proofs.Try.underlying75 (by kernel_rfl) t4 rfl (by decide) (by decide)) rfl)
      · intro a wa hs hf hd
        have t28 : a.eval (.tmp 28) = _ := hd.at 6 28 (by kernel_rfl)
        exact plain_ rfl (yes_eqv (o_load1 rfl Proofs.Try.underlying3 rfl t28 ((Ba_2.since hs rfl).cell rfl)) rfl)
      · intro a wa hs hf hd
        have t5 := hf.off 5 (by kernel_rfl) rfl
        exact plain_ rfl (yes_eqv (o_indexAddrA (sz := 1) rfl Proofs.Try.underlying75 (by kernel_rfl) t5 rfl (by decide) (by decide)) rfl)
      · intro a wa hs hf hd
        have t30 : a.eval (.tmp 30) = _ := hd.at 8 30 (by kernel_rfl)
        exact plain_ rfl (yes_eqv (o_load1 rfl Proofs.Try.underlying3 rfl t30 ((Bv_2.since hs rfl).cell rfl)) rfl)
      · intro a wa hs hf hd
        have t27 := hd.at 5 27 (by kernel_rfl)
        have t29 : a.eval (.tmp 29) = _ := hd.at 7 29 (by kernel_rfl)
        have t31 : a.eval (.tmp 31) = _ := hd.at 9 31 (by kernel_rfl)
        exact plain_ rfl (yes_gives (by have h5 := memStore_ no _ ms a1 u1 _ t27 sFit no_lt (by omega) (by omega); rw [h8.out] at h5; exact h5) rfl rfl Proofs.Try.func68 (by kernel_rfl) (by kernel_rfl) (by simp only [List.map_toArray, List.map_cons, List.map_nil, t29, t31]) rfl)
      · intro a wa hs hf hd
        exact plain_ rfl (yes_new (z := .agg #[.slice none 0 0, .slice none 0 0, .bool false]) rfl (by kernel_rfl) rfl rfl hs.size)
      · intro a wb wa hs1 hs hf hd hrun
        have t8 := hd.at 11 8 (by kernel_rfl)
        have t32 := hd.at 10 32 (by kernel_rfl)
        subst hrun
        obtain ⟨k, hk, hn, hB⟩ := t8
        obtain ⟨x1, x2, x3, x4, hv, _, _⟩ := IsMem.opened t32
        exact ⟨_, o_store rfl hk hv hB (by kernel_rfl) (by simp [Value.cells, Value.oneCell']) (by simp [Value.cells]) rfl, Since.put hs (.inl (by omega))⟩
    case hG => exact ⟨stable_eqv _, stable_eqv _, stable_eqv _, stable_eqv _, stable_eqv _, stable_isM _, stable_eqv _, stable_eqv _, stable_eqv _, stable_eqv _, stable_isM _, stable_isNew _ _ _, stable_any, trivial⟩
    case hc => kernel_rfl
    case hfin =>
      intro v2 hs2
      rintro _ rfl _ rfl _ rfl _ rfl _ rfl r1 hr1 _ rfl _ rfl _ rfl _ rfl r2 hr2 _ ⟨bx, rfl, hnx, hBx⟩
      rintro v3 ⟨o, v4, ho4, hr, rfl⟩
      cases ho4
      obtain ⟨x1, x2, x3, x4, rfl, wx, gx⟩ := IsMem.opened hr2
      simp only [Act.put, List.setIfInBounds_toArray, List.set_cons_zero, List.set_cons_succ] at hr ⊢
      cases (hr.symm.trans (o_store (v := .agg #[.slice x1 mx.W.length x2, .slice x3 mx.G.length x4, .bool mx.bad]) (new := #[.slice x1 mx.W.length x2, .slice x3 mx.G.length x4, .bool mx.bad]) rfl rfl rfl hBx (by kernel_rfl) (by simp [Value.cells, Value.oneCell']) (by simp [Value.cells]) rfl))
      have hE3 : Ext w2 v2 := Since.to_ext hs2
      obtain ⟨w3, hw3⟩ : ∃ w3, w3 = put v2 bx (.cells #[.slice x1 mx.W.length x2, .slice x3 mx.G.length x4, .bool mx.bad] 50 (0, 0)) := ⟨_, rfl⟩
      have hb3 : Ext w2 w3 := by rw [hw3]; exact Since.to_ext ((Since.of_ext hE3).put (.inl (by omega)))
      have Bx_3 : Box w3 bx #[.slice x1 mx.W.length x2, .slice x3 mx.G.length x4, .bool mx.bad] 50 := by rw [hw3]; exact hBx.put
      have wx := wx.put hBx zero50 (cs' := #[.slice x1 mx.W.length x2, .slice x3 mx.G.length x4, .bool mx.bad])
      rw [← hw3] at wx
      have gx := gx.put hBx zero50 (cs' := #[.slice x1 mx.W.length x2, .slice x3 mx.G.length x4, .bool mx.bad])
      rw [← hw3] at gx
      rw [← hw3]
      clear hw3 hr hs2 hBx hE3 hr1 hr2
      have Bm_3 := Bm_2.ext (show Ext w2 w3 from (by with_reducible (repeat (first | assumption | exact Ext.refl _ | refine Ext.alloc' ?_ _ | refine Ext.store0 ?_ _ _ | refine Ext.storek ?_ _ _ _ | refine Ext.stores0 ?_ ?_ _ _ | refine Ext.storesk ?_ ?_ _ _ _ | refine Ext.drewN' ?_ _ | refine Ext.drew' ?_ | refine Ext.trans ?_ (by assumption)))))
      have Ba_3 := Ba_2.ext (show Ext w2 w3 from (by with_reducible (repeat (first | assumption | exact Ext.refl _ | refine Ext.alloc' ?_ _ | refine Ext.store0 ?_ _ _ | refine Ext.storek ?_ _ _ _ | refine Ext.stores0 ?_ ?_ _ _ | refine Ext.storesk ?_ ?_ _ _ _ | refine Ext.drewN' ?_ _ | refine Ext.drew' ?_ | refine Ext.trans ?_ (by assumption)))))
      have Bv_3 := Bv_2.ext (show Ext w2 w3 from (by with_reducible (repeat (first | assumption | exact Ext.refl _ | refine Ext.alloc' ?_ _ | refine Ext.store0 ?_ _ _ | refine Ext.storek ?_ _ _ _ | refine Ext.stores0 ?_ ?_ _ _ | refine Ext.storesk ?_ ?_ _ _ _ | refine Ext.drewN' ?_ _ | refine Ext.drew' ?_ | refine Ext.trans ?_ (by assumption)))))
      clear Bm_2 zm cm0 cm1 cm2 dm0 dm1 dm2 Ba_2 za ca0 ca1 da0 da1 Bv_2 zv cv0 cv1 dv0 dv1
      obtain ⟨cm0, cm1, cm2, dm0, dm1, dm2⟩ := cells3 Bm_3
      have zm : w.heap.size < w3.heap.size := Bm_3.lt
      obtain ⟨ca0, ca1, da0, da1⟩ := cells2 Ba_3
      have za : w.heap.size + 1 < w3.heap.size := Ba_3.lt
      obtain ⟨cv0, cv1, dv0, dv1⟩ := cells2 Bv_3
      have zv : w.heap.size + 1 + 1 < w3.heap.size := Bv_3.lt
      obtain ⟨cx0, cx1, cx2, dx0, dx1, dx2⟩ := cells3 Bx_3
      have zx : bx < w3.heap.size := Bx_3.lt
      go_wp2_with (fail)
      have hEk3 : Ext w w3 := (by with_reducible (repeat (first | assumption | exact Ext.refl _ | refine Ext.alloc' ?_ _ | refine Ext.store0 ?_ _ _ | refine Ext.storek ?_ _ _ _ | refine Ext.stores0 ?_ ?_ _ _ | refine Ext.storesk ?_ ?_ _ _ _ | refine Ext.drewN' ?_ _ | refine Ext.drew' ?_ | refine Ext.trans ?_ (by assumption))))
      apply region_lit2 (T := [12]) (L := []) (X := []) (G := [eqv _, eqv _, eqv _, eqv _, eqv _, isM mr, eqv _, eqv _, eqv _, eqv _, isM my, isNew w3.heap.size #[.slice none 0 0, .slice none 0 0, .bool false] 50, anyG])
      case hm => kernel_rfl
      case hop =>
        refine ⟨?_, ?_, ?_, ?_, ?_, ?_, ?_, ?_, ?_, ?_, ?_, ?_, ?_, trivial⟩
        · intro a wa hs hf hd
          have t3 := hf.off 3 (by kernel_rfl) rfl
          exact plain_ rfl (yes_eqv (o_load3 rfl Proofs.Try.underlying50 rfl (by kernel_rfl) t3 ((Bm_3.since hs rfl).cell rfl) ((Bm_3.since hs rfl).cell rfl) ((Bm_3.since hs rfl).cell rfl)) rfl)
        · intro a wa hs hf hd
          have t4 := hf.off 4 (by kernel_rfl) rfl
          exact plain_ rfl (yes_eqv (o_indexAddrA (sz := 1) rfl Proofs.Try.underlying75 (by kernel_rfl) t4 rfl (by decide) (by decide)) rfl)
        · intro a wa hs hf hd
          have t34 : a.eval (.tmp 34) = _ := hd.at 1 34 (by kernel_rfl)
          exact plain_ rfl (yes_eqv (o_load1 rfl Proofs.Try.underlying3 rfl t34 ((Ba_3.since hs rfl).cell rfl)) rfl)
        · intro a wa hs hf hd
          have t5 := hf.off 5 (by kernel_rfl) rfl
          exact plain_ rfl (yes_eqv (o_indexAddrA (sz := 1) rfl Proofs.Try.underlying75 (by kernel_rfl) t5 rfl (by decide) (by decide)) rfl)
        · intro a wa hs hf hd
          have t36 : a.eval (.tmp 36) = _ := hd.at 3 36 (by kernel_rfl)
          exact plain_ rfl (yes_eqv (o_load1 rfl Proofs.Try.underlying3 rfl t36 ((Bv_3.since hs rfl).cell rfl)) rfl)
        · intro a wa hs hf hd
          have t33 : a.eval (.tmp 33) = _ := hd.at 0 33 (by kernel_rfl)
          have t35 : a.eval (.tmp 35) = _ := hd.at 2 35 (by kernel_rfl)
          have t37 : a.eval (.tmp 37) = _ := hd.at 4 37 (by kernel_rfl)
          exact plain_ rfl (yes_gives (by have h5 := memStore_ no _ m a1 u1 _ ((IsMem.mk rfl hw hg : IsMem no w (.agg #[.slice aw m.W.length cw, .slice ag m.G.length cg, .bool m.bad]) m).ext (hEk3.trans (Since.to_ext hs))) hFit no_lt (by omega) (by omega); rw [h7.out] at h5; exact h5) rfl rfl Proofs.Try.func68 (by kernel_rfl) (by kernel_rfl) (by simp only [List.map_toArray, List.map_cons, List.map_nil, t33, t35, t37]) rfl)
        · intro a wa hs hf hd
          have t4 := hf.off 4 (by kernel_rfl) rfl
          exact plain_ rfl (yes_eqv (o_indexAddrA (sz := 1) rfl Proofs.Try.underlying75 (by kernel_rfl) t4 rfl (by decide) (by decide)) rfl)
        · intro a wa hs hf hd
          have t39 : a.eval (.tmp 39) = _ := hd.at 6 39 (by kernel_rfl)
          exact plain_ rfl (yes_eqv (o_load1 rfl Proofs.Try.underlying3 rfl t39 ((Ba_3.since hs rfl).cell rfl)) rfl)
        · intro a wa hs hf hd
          have t5 := hf.off 5 (by kernel_rfl) rfl
          exact plain_ rfl (yes_eqv (o_indexAddrA (sz := 1) rfl Proofs.Try.underlying75 (by kernel_rfl) t5 rfl (by decide) (by decide)) rfl)
        · intro a wa hs hf hd
          have t41 : a.eval (.tmp 41) = _ := hd.at 8 41 (by kernel_rfl)
          exact plain_ rfl (yes_eqv (o_load1 rfl Proofs.Try.underlying3 rfl t41 ((Bv_3.since hs rfl).cell rfl)) rfl)
        · intro a wa hs hf hd
          have t38 := hd.at 5 38 (by kernel_rfl)
          have t40 : a.eval (.tmp 40) = _ := hd.at 7 40 (by kernel_rfl)
          have t42 : a.eval (.tmp 42) = _ := hd.at 9 42 (by kernel_rfl)
          exact plain_ rfl (yes_gives (by have h5 := memStore_ no _ mr a0 u0 _ t38 rFit no_lt (by omega) (by omega); rw [h9.out] at h5; exact h5) rfl rfl Proofs.Try.func68 (by kernel_rfl) (by kernel_rfl) (by simp only [List.map_toArray, List.map_cons, List.map_nil, t40, t42]) rfl)
        · intro a wa hs hf hd
          exact plain_ rfl (yes_new (z := .agg #[.slice none 0 0, .slice none 0 0, .bool false]) rfl (by kernel_rfl) rfl rfl hs.size)
        · intro a wb wa hs1 hs hf hd hrun
          have t9 := hd.at 11 9 (by kernel_rfl)
          have t43 := hd.at 10 43 (by kernel_rfl)
          subst hrun
          obtain ⟨k, hk, hn, hB⟩ := t9
          obtain ⟨x1, x2, x3, x4, hv, _, _⟩ := IsMem.opened t43
          exact ⟨_, o_store rfl hk hv hB (by kernel_rfl) (by simp [Value.cells, Value.oneCell']) (by simp [Value.cells]) rfl, Since.put hs (.inl (by omega))⟩
      case hG => exact ⟨stable_eqv _, stable_eqv _, stable_eqv _, stable_eqv _, stable_eqv _, stable_isM _, stable_eqv _, stable_eqv _, stable_eqv _, stable_eqv _, stable_isM _, stable_isNew _ _ _, stable_any, trivial⟩
      case hc => kernel_rfl
      case hfin =>
        intro v2 hs2
        rintro _ rfl _ rfl _ rfl _ rfl _ rfl r1 hr1 _ rfl _ rfl _ rfl _ rfl r2 hr2 _ ⟨bp, rfl, hnp, hBp⟩
        rintro v3 ⟨o, v4, ho4, hr, rfl⟩
        cases ho4
        obtain ⟨p1, p2, p3, p4, rfl, wp, gp⟩ := IsMem.opened hr2
        simp only [Act.put, List.setIfInBounds_toArray, List.set_cons_zero, List.set_cons_succ] at hr ⊢
        cases (hr.symm.trans (o_store (v := .agg #[.slice p1 my.W.length p2, .slice p3 my.G.length p4, .bool my.bad]) (new := #[.slice p1 my.W.length p2, .slice p3 my.G.length p4, .bool my.bad]) rfl rfl rfl hBp (by kernel_rfl) (by simp [Value.cells, Value.oneCell']) (by simp [Value.cells]) rfl))
        have hE4 : Ext w3 v2 := Since.to_ext hs2
        obtain ⟨w4, hw4⟩ : ∃ w4, w4 = put v2 bp (.cells #[.slice p1 my.W.length p2, .slice p3 my.G.length p4, .bool my.bad] 50 (0, 0)) := ⟨_, rfl⟩
        have hb4 : Ext w3 w4 := by rw [hw4]; exact Since.to_ext ((Since.of_ext hE4).put (.inl (by omega)))
        have Bp_4 : Box w4 bp #[.slice p1 my.W.length p2, .slice p3 my.G.length p4, .bool my.bad] 50 := by rw [hw4]; exact hBp.put
        have wp := wp.put hBp zero50 (cs' := #[.slice p1 my.W.length p2, .slice p3 my.G.length p4, .bool my.bad])
        rw [← hw4] at wp
        have gp := gp.put hBp zero50 (cs' := #[.slice p1 my.W.length p2, .slice p3 my.G.length p4, .bool my.bad])
        rw [← hw4] at gp
        rw [← hw4]
        clear hw4 hr hs2 hBp hE4 hr1 hr2
        have Bm_4 := Bm_3.ext (show Ext w3 w4 from (by with_reducible (repeat (first | assumption | exact Ext.refl _ | refine Ext.alloc' ?_ _ | refine Ext.store0 ?_ _ _ | refine Ext.storek ?_ _ _ _ | refine Ext.stores0 ?_ ?_ _ _ | refine Ext.storesk ?_ ?_ _ _ _ | refine Ext.drewN' ?_ _ | refine Ext.drew' ?_ | refine Ext.trans ?_ (by assumption)))))
        have Ba_4 := Ba_3.ext (show Ext w3 w4 from (by with_reducible (repeat (first | assumption | exact Ext.refl _ | refine Ext.alloc' ?_ _ | refine Ext.store0 ?_ _ _ | refine Ext.storek ?_ _ _ _ | refine Ext.stores0 ?_ ?_ _ _ | refine Ext.storesk ?_ ?_ _ _ _ | refine Ext.drewN' ?_ _ | refine Ext.drew' ?_ | refine Ext.trans ?_ (by assumption)))))
        have Bv_4 := Bv_3.ext (show Ext w3 w4 from (by with_reducible (repeat (first | assumption | exact Ext.refl _ | refine Ext.alloc' ?_ _ | refine Ext.store0 ?_ _ _ | refine Ext.storek ?_ _ _ _ | refine Ext.stores0 ?_ ?_ _ _ | refine Ext.storesk ?_ ?_ _ _ _ | refine Ext.drewN' ?_ _ | refine Ext.drew' ?_ | refine Ext.trans ?_ (by assumption)))))
        have Bx_4 := Bx_3.ext (show Ext w3 w4 from (by with_reducible (repeat (first | assumption | exact Ext.refl _ | refine Ext.alloc' ?_ _ | refine Ext.store0 ?_ _ _ | refine Ext.storek ?_ _ _ _ | refine Ext.stores0 ?_ ?_ _ _ | refine Ext.storesk ?_ ?_ _ _ _ | refine Ext.drewN' ?_ _ | refine Ext.drew' ?_ | refine Ext.trans ?_ (by assumption)))))
        clear Bm_3 zm cm0 cm1 cm2 dm0 dm1 dm2 Ba_3 za ca0 ca1 da0 da1 Bv_3 zv cv0 cv1 dv0 dv1 Bx_3 zx cx0 cx1 cx2 dx0 dx1 dx2
        obtain ⟨cm0, cm1, cm2, dm0, dm1, dm2⟩ := cells3 Bm_4
        have zm : w.heap.size < w4.heap.size := Bm_4.lt
        obtain ⟨ca0, ca1, da0, da1⟩ := cells2 Ba_4
        have za : w.heap.size + 1 < w4.heap.size := Ba_4.lt
        obtain ⟨cv0, cv1, dv0, dv1⟩ := cells2 Bv_4
        have zv : w.heap.size + 1 + 1 < w4.heap.size := Bv_4.lt
        obtain ⟨cx0, cx1, cx2, dx0, dx1, dx2⟩ := cells3 Bx_4
        have zx : bx < w4.heap.size := Bx_4.lt
        obtain ⟨cp0, cp1, cp2, dp0, dp1, dp2⟩ := cells3 Bp_4
        have zp : bp < w4.heap.size := Bp_4.lt
        go_wp2_with (fail)
        go_at_call 64
        refine (memLoad_ no _ mx a1 _ ((IsMem.mk rfl wx gx : IsMem no w3 (.agg #[.slice x1 mx.W.length x2, .slice x3 mx.G.length x4, .bool mx.bad]) mx).ext (by with_reducible (repeat (first | assumption | exact Ext.refl _ | refine Ext.alloc' ?_ _ | refine Ext.store0 ?_ _ _ | refine Ext.storek ?_ _ _ _ | refine Ext.stores0 ?_ ?_ _ _ | refine Ext.storesk ?_ ?_ _ _ _ | refine Ext.drewN' ?_ _ | refine Ext.drew' ?_ | refine Ext.trans ?_ (by assumption))))) xFit no_lt (by omega) (by omega)).calls.mono ?_
        rintro e w5 ⟨_, rfl, hb5, ul, rfl, hul⟩
        rw [h12.out] at hul
        rw [h13.out]
        obtain ⟨l1, l2, l3, l4, rfl, wl, gl⟩ := hul.opened
        have Bm_5 := Bm_4.ext (show Ext w4 w5 from (by with_reducible (repeat (first | assumption | exact Ext.refl _ | refine Ext.alloc' ?_ _ | refine Ext.store0 ?_ _ _ | refine Ext.storek ?_ _ _ _ | refine Ext.stores0 ?_ ?_ _ _ | refine Ext.storesk ?_ ?_ _ _ _ | refine Ext.drewN' ?_ _ | refine Ext.drew' ?_ | refine Ext.trans ?_ (by assumption)))))
        have Ba_5 := Ba_4.ext (show Ext w4 w5 from (by with_reducible (repeat (first | assumption | exact Ext.refl _ | refine Ext.alloc' ?_ _ | refine Ext.store0 ?_ _ _ | refine Ext.storek ?_ _ _ _ | refine Ext.stores0 ?_ ?_ _ _ | refine Ext.storesk ?_ ?_ _ _ _ | refine Ext.drewN' ?_ _ | refine Ext.drew' ?_ | refine Ext.trans ?_ (by assumption)))))
        have Bv_5 := Bv_4.ext (show Ext w4 w5 from (by with_reducible (repeat (first | assumption | exact Ext.refl _ | refine Ext.alloc' ?_ _ | refine Ext.store0 ?_ _ _ | refine Ext.storek ?_ _ _ _ | refine Ext.stores0 ?_ ?_ _ _ | refine Ext.storesk ?_ ?_ _ _ _ | refine Ext.drewN' ?_ _ | refine Ext.drew' ?_ | refine Ext.trans ?_ (by assumption)))))
        have Bx_5 := Bx_4.ext (show Ext w4 w5 from (by with_reducible (repeat (first | assumption | exact Ext.refl _ | refine Ext.alloc' ?_ _ | refine Ext.store0 ?_ _ _ | refine Ext.storek ?_ _ _ _ | refine Ext.stores0 ?_ ?_ _ _ | refine Ext.storesk ?_ ?_ _ _ _ | refine Ext.drewN' ?_ _ | refine Ext.drew' ?_ | refine Ext.trans ?_ (by assumption)))))
        have Bp_5 := Bp_4.ext (show Ext w4 w5 from (by with_reducible (repeat (first | assumption | exact Ext.refl _ | refine Ext.alloc' ?_ _ | refine Ext.store0 ?_ _ _ | refine Ext.storek ?_ _ _ _ | refine Ext.stores0 ?_ ?_ _ _ | refine Ext.storesk ?_ ?_ _ _ _ | refine Ext.drewN' ?_ _ | refine Ext.drew' ?_ | refine Ext.trans ?_ (by assumption)))))
        clear Bm_4 zm cm0 cm1 cm2 dm0 dm1 dm2 Ba_4 za ca0 ca1 da0 da1 Bv_4 zv cv0 cv1 dv0 dv1 Bx_4 zx cx0 cx1 cx2 dx0 dx1 dx2 Bp_4 zp cp0 cp1 cp2 dp0 dp1 dp2
        obtain ⟨cm0, cm1, cm2, dm0, dm1, dm2⟩ := cells3 Bm_5
        have zm : w.heap.size < w5.heap.size := Bm_5.lt
        obtain ⟨ca0, ca1, da0, da1⟩ := cells2 Ba_5
        have za : w.heap.size + 1 < w5.heap.size := Ba_5.lt
        obtain ⟨cv0, cv1, dv0, dv1⟩ := cells2 Bv_5
        have zv : w.heap.size + 1 + 1 < w5.heap.size := Bv_5.lt
        obtain ⟨cx0, cx1, cx2, dx0, dx1, dx2⟩ := cells3 Bx_5
        have zx : bx < w5.heap.size := Bx_5.lt
        obtain ⟨cp0, cp1, cp2, dp0, dp1, dp2⟩ := cells3 Bp_5
        have zp : bp < w5.heap.size := Bp_5.lt
        have ho0 := hO.out
        by_cases hne : a0 = a1
        · have hn2 := hne.symm
          subst hn2
          by_cases q1 : a1 < 0
          · have ho : bo = true := by rw [← ho0]; simp [outside, q1]
            have q2 : ¬ 0 ≤ a1 := by omega
            clear ho0
            go_wp2_with (fail)
            go_at_call 66
            refine (memCas_ no _ mx a1 u1 u0 _ ((IsMem.mk rfl wx gx : IsMem no w3 (.agg #[.slice x1 mx.W.length x2, .slice x3 mx.G.length x4, .bool mx.bad]) mx).ext (by with_reducible (repeat (first | assumption | exact Ext.refl _ | refine Ext.alloc' ?_ _ | refine Ext.store0 ?_ _ _ | refine Ext.storek ?_ _ _ _ | refine Ext.stores0 ?_ ?_ _ _ | refine Ext.storesk ?_ ?_ _ _ _ | refine Ext.drewN' ?_ _ | refine Ext.drew' ?_ | refine Ext.trans ?_ (by assumption))))) xFit no_lt (by omega) (by omega)).calls.mono ?_
            rintro e w6 ⟨_, rfl, hb6, uc, rfl, huc⟩
            rw [h10.out] at huc
            rw [HC.out, ho]
            obtain ⟨c1, c2, c3, c4, rfl, wc, gc⟩ := huc.opened
            have Bm_6 := Bm_5.ext (show Ext w5 w6 from (by with_reducible (repeat (first | assumption | exact Ext.refl _ | refine Ext.alloc' ?_ _ | refine Ext.store0 ?_ _ _ | refine Ext.storek ?_ _ _ _ | refine Ext.stores0 ?_ ?_ _ _ | refine Ext.storesk ?_ ?_ _ _ _ | refine Ext.drewN' ?_ _ | refine Ext.drew' ?_ | refine Ext.trans ?_ (by assumption)))))
            have Ba_6 := Ba_5.ext (show Ext w5 w6 from (by with_reducible (repeat (first | assumption | exact Ext.refl _ | refine Ext.alloc' ?_ _ | refine Ext.store0 ?_ _ _ | refine Ext.storek ?_ _ _ _ | refine Ext.stores0 ?_ ?_ _ _ | refine Ext.storesk ?_ ?_ _ _ _ | refine Ext.drewN' ?_ _ | refine Ext.drew' ?_ | refine Ext.trans ?_ (by assumption)))))
            have Bv_6 := Bv_5.ext (show Ext w5 w6 from (by with_reducible (repeat (first | assumption | exact Ext.refl _ | refine Ext.alloc' ?_ _ | refine Ext.store0 ?_ _ _ | refine Ext.storek ?_ _ _ _ | refine Ext.stores0 ?_ ?_ _ _ | refine Ext.storesk ?_ ?_ _ _ _ | refine Ext.drewN' ?_ _ | refine Ext.drew' ?_ | refine Ext.trans ?_ (by assumption)))))
            have Bx_6 := Bx_5.ext (show Ext w5 w6 from (by with_reducible (repeat (first | assumption | exact Ext.refl _ | refine Ext.alloc' ?_ _ | refine Ext.store0 ?_ _ _ | refine Ext.storek ?_ _ _ _ | refine Ext.stores0 ?_ ?_ _ _ | refine Ext.storesk ?_ ?_ _ _ _ | refine Ext.drewN' ?_ _ | refine Ext.drew' ?_ | refine Ext.trans ?_ (by assumption)))))
            have Bp_6 := Bp_5.ext (show Ext w5 w6 from (by with_reducible (repeat (first | assumption | exact Ext.refl _ | refine Ext.alloc' ?_ _ | refine Ext.store0 ?_ _ _ | refine Ext.storek ?_ _ _ _ | refine Ext.stores0 ?_ ?_ _ _ | refine Ext.storesk ?_ ?_ _ _ _ | refine Ext.drewN' ?_ _ | refine Ext.drew' ?_ | refine Ext.trans ?_ (by assumption)))))
            clear Bm_5 zm cm0 cm1 cm2 dm0 dm1 dm2 Ba_5 za ca0 ca1 da0 da1 Bv_5 zv cv0 cv1 dv0 dv1 Bx_5 zx cx0 cx1 cx2 dx0 dx1 dx2 Bp_5 zp cp0 cp1 cp2 dp0 dp1 dp2
            have Bl_6 : Box w6 (w5.heap.size) #[.slice l1 ml.W.length l2, .slice l3 ml.G.length l4, .bool ml.bad] 50 := (Box.new _ _ _).ext hb6
            obtain ⟨cm0, cm1, cm2, dm0, dm1, dm2⟩ := cells3 Bm_6
            have zm : w.heap.size < w6.heap.size := Bm_6.lt
            obtain ⟨ca0, ca1, da0, da1⟩ := cells2 Ba_6
            have za : w.heap.size + 1 < w6.heap.size := Ba_6.lt
            obtain ⟨cv0, cv1, dv0, dv1⟩ := cells2 Bv_6
            have zv : w.heap.size + 1 + 1 < w6.heap.size := Bv_6.lt
            obtain ⟨cx0, cx1, cx2, dx0, dx1, dx2⟩ := cells3 Bx_6
            have zx : bx < w6.heap.size := Bx_6.lt
            obtain ⟨cp0, cp1, cp2, dp0, dp1, dp2⟩ := cells3 Bp_6
            have zp : bp < w6.heap.size := Bp_6.lt
            obtain ⟨cl0, cl1, cl2, dl0, dl1, dl2⟩ := cells3 Bl_6
            have zl : w5.heap.size < w6.heap.size := Bl_6.lt
            go_wp2_with (fail)
            go_at_call 66
            refine (memCas_ no _ mc a1 u0 u1 _ ((IsMem.mk rfl wc gc : IsMem no w6 (.agg #[.slice c1 mc.W.length c2, .slice c3 mc.G.length c4, .bool mc.bad]) mc).ext (by with_reducible (repeat (first | assumption | exact Ext.refl _ | refine Ext.alloc' ?_ _ | refine Ext.store0 ?_ _ _ | refine Ext.storek ?_ _ _ _ | refine Ext.stores0 ?_ ?_ _ _ | refine Ext.storesk ?_ ?_ _ _ _ | refine Ext.drewN' ?_ _ | refine Ext.drew' ?_ | refine Ext.trans ?_ (by assumption))))) cFit no_lt (by omega) (by omega)).calls.mono ?_
            rintro e w7 ⟨_, rfl, hb7, ud, rfl, hud⟩
            rw [h11.out] at hud
            rw [HD.out, ho]
            obtain ⟨d1, d2, d3, d4, rfl, wd, gd⟩ := hud.opened
            have Bm_7 := Bm_6.ext (show Ext w6 w7 from (by with_reducible (repeat (first | assumption | exact Ext.refl _ | refine Ext.alloc' ?_ _ | refine Ext.store0 ?_ _ _ | refine Ext.storek ?_ _ _ _ | refine Ext.stores0 ?_ ?_ _ _ | refine Ext.storesk ?_ ?_ _ _ _ | refine Ext.drewN' ?_ _ | refine Ext.drew' ?_ | refine Ext.trans ?_ (by assumption)))))
            have Ba_7 := Ba_6.ext (show Ext w6 w7 from (by with_reducible (repeat (first | assumption | exact Ext.refl _ | refine Ext.alloc' ?_ _ | refine Ext.store0 ?_ _ _ | refine Ext.storek ?_ _ _ _ | refine Ext.stores0 ?_ ?_ _ _ | refine Ext.storesk ?_ ?_ _ _ _ | refine Ext.drewN' ?_ _ | refine Ext.drew' ?_ | refine Ext.trans ?_ (by assumption)))))
            have Bv_7 := Bv_6.ext (show Ext w6 w7 from (by with_reducible (repeat (first | assumption | exact Ext.refl _ | refine Ext.alloc' ?_ _ | refine Ext.store0 ?_ _ _ | refine Ext.storek ?_ _ _ _ | refine Ext.stores0 ?_ ?_ _ _ | refine Ext.storesk ?_ ?_ _ _ _ | refine Ext.drewN' ?_ _ | refine Ext.drew' ?_ | refine Ext.trans ?_ (by assumption)))))
            have Bx_7 := Bx_6.ext (show Ext w6 w7 from (by with_reducible (repeat (first | assumption | exact Ext.refl _ | refine Ext.alloc' ?_ _ | refine Ext.store0 ?_ _ _ | refine Ext.storek ?_ _ _ _ | refine Ext.stores0 ?_ ?_ _ _ | refine Ext.storesk ?_ ?_ _ _ _ | refine Ext.drewN' ?_ _ | refine Ext.drew' ?_ | refine Ext.trans ?_ (by assumption)))))
            have Bp_7 := Bp_6.ext (show Ext w6 w7 from (by with_reducible (repeat (first | assumption | exact Ext.refl _ | refine Ext.alloc' ?_ _ | refine Ext.store0 ?_ _ _ | refine Ext.storek ?_ _ _ _ | refine Ext.stores0 ?_ ?_ _ _ | refine Ext.storesk ?_ ?_ _ _ _ | refine Ext.drewN' ?_ _ | refine Ext.drew' ?_ | refine Ext.trans ?_ (by assumption)))))
            have Bl_7 := Bl_6.ext (show Ext w6 w7 from (by with_reducible (repeat (first | assumption | exact Ext.refl _ | refine Ext.alloc' ?_ _ | refine Ext.store0 ?_ _ _ | refine Ext.storek ?_ _ _ _ | refine Ext.stores0 ?_ ?_ _ _ | refine Ext.storesk ?_ ?_ _ _ _ | refine Ext.drewN' ?_ _ | refine Ext.drew' ?_ | refine Ext.trans ?_ (by assumption)))))
            clear Bm_6 zm cm0 cm1 cm2 dm0 dm1 dm2 Ba_6 za ca0 ca1 da0 da1 Bv_6 zv cv0 cv1 dv0 dv1 Bx_6 zx cx0 cx1 cx2 dx0 dx1 dx2 Bp_6 zp cp0 cp1 cp2 dp0 dp1 dp2 Bl_6 zl cl0 cl1 cl2 dl0 dl1 dl2
            have Bc_7 : Box w7 (w6.heap.size) #[.slice c1 mc.W.length c2, .slice c3 mc.G.length c4, .bool mc.bad] 50 := (Box.new _ _ _).ext hb7
            obtain ⟨cm0, cm1, cm2, dm0, dm1, dm2⟩ := cells3 Bm_7
            have zm : w.heap.size < w7.heap.size := Bm_7.lt
            obtain ⟨ca0, ca1, da0, da1⟩ := cells2 Ba_7
            have za : w.heap.size + 1 < w7.heap.size := Ba_7.lt
            obtain ⟨cv0, cv1, dv0, dv1⟩ := cells2 Bv_7
            have zv : w.heap.size + 1 + 1 < w7.heap.size := Bv_7.lt
            obtain ⟨cx0, cx1, cx2, dx0, dx1, dx2⟩ := cells3 Bx_7
            have zx : bx < w7.heap.size := Bx_7.lt
            obtain ⟨cp0, cp1, cp2, dp0, dp1, dp2⟩ := cells3 Bp_7
            have zp : bp < w7.heap.size := Bp_7.lt
            obtain ⟨cl0, cl1, cl2, dl0, dl1, dl2⟩ := cells3 Bl_7
            have zl : w5.heap.size < w7.heap.size := Bl_7.lt
            obtain ⟨cc0, cc1, cc2, dc0, dc1, dc2⟩ := cells3 Bc_7
            have zc : w6.heap.size < w7.heap.size := Bc_7.lt
            go_wp2
            go_ret
            exact ⟨_, rfl, (by with_reducible (repeat (first | assumption | exact Ext.refl _ | refine Ext.alloc' ?_ _ | refine Ext.store0 ?_ _ _ | refine Ext.storek ?_ _ _ _ | refine Ext.stores0 ?_ ?_ _ _ | refine Ext.storesk ?_ ?_ _ _ _ | refine Ext.drewN' ?_ _ | refine Ext.drew' ?_ | refine Ext.trans ?_ (by assumption)))), rfl⟩
          · by_cases q2 : (m.W.length : Int) ≤ a1
            · have ho : bo = true := by rw [← ho0]; simp [outside, q2]
              have q3 : 0 ≤ a1 := by omega
              have q4 : ¬ a1 < (m.W.length : Int) := by omega
              clear ho0
              go_wp2_with (fail)
              go_at_call 66
              refine (memCas_ no _ mx a1 u1 u0 _ ((IsMem.mk rfl wx gx : IsMem no w3 (.agg #[.slice x1 mx.W.length x2, .slice x3 mx.G.length x4, .bool mx.bad]) mx).ext (by with_reducible (repeat (first | assumption | exact Ext.refl _ | refine Ext.alloc' ?_ _ | refine Ext.store0 ?_ _ _ | refine Ext.storek ?_ _ _ _ | refine Ext.stores0 ?_ ?_ _ _ | refine Ext.storesk ?_ ?_ _ _ _ | refine Ext.drewN' ?_ _ | refine Ext.drew' ?_ | refine Ext.trans ?_ (by assumption))))) xFit no_lt (by omega) (by omega)).calls.mono ?_
              rintro e w6 ⟨_, rfl, hb6, uc, rfl, huc⟩
              rw [h10.out] at huc
              rw [HC.out, ho]
              obtain ⟨c1, c2, c3, c4, rfl, wc, gc⟩ := huc.opened
              have Bm_6 := Bm_5.ext (show Ext w5 w6 from (by with_reducible (repeat (first | assumption | exact Ext.refl _ | refine Ext.alloc' ?_ _ | refine Ext.store0 ?_ _ _ | refine Ext.storek ?_ _ _ _ | refine Ext.stores0 ?_ ?_ _ _ | refine Ext.storesk ?_ ?_ _ _ _ | refine Ext.drewN' ?_ _ | refine Ext.drew' ?_ | refine Ext.trans ?_ (by assumption)))))
              have Ba_6 := Ba_5.ext (show Ext w5 w6 from (by with_reducible (repeat (first | assumption | exact Ext.refl _ | refine Ext.alloc' ?_ _ | refine Ext.store0 ?_ _ _ | refine Ext.storek ?_ _ _ _ | refine Ext.stores0 ?_ ?_ _ _ | refine Ext.storesk ?_ ?_ _ _ _ | refine Ext.drewN' ?_ _ | refine Ext.drew' ?_ | refine Ext.trans ?_ (by assumption)))))
              have Bv_6 := Bv_5.ext (show Ext w5 w6 from (by with_reducible (repeat (first | assumption | exact Ext.refl _ | refine Ext.alloc' ?_ _ | refine Ext.store0 ?_ _ _ | refine Ext.storek ?_ _ _ _ | refine Ext.stores0 ?_ ?_ _ _ | refine Ext.storesk ?_ ?_ _ _ _ | refine Ext.drewN' ?_ _ | refine Ext.drew' ?_ | refine Ext.trans ?_ (by assumption)))))
              have Bx_6 := Bx_5.ext (show Ext w5 w6 from (by with_reducible (repeat (first | assumption | exact Ext.refl _ | refine Ext.alloc' ?_ _ | refine Ext.store0 ?_ _ _ | refine Ext.storek ?_ _ _ _ | refine Ext.stores0 ?_ ?_ _ _ | refine Ext.storesk ?_ ?_ _ _ _ | refine Ext.drewN' ?_ _ | refine Ext.drew' ?_ | refine Ext.trans ?_ (by assumption)))))
              have Bp_6 := Bp_5.ext (show Ext w5 w6 from (by with_reducible (repeat (first | assumption | exact Ext.refl _ | refine Ext.alloc' ?_ _ | refine Ext.store0 ?_ _ _ | refine Ext.storek ?_ _ _ _ | refine Ext.stores0 ?_ ?_ _ _ | refine Ext.storesk ?_ ?_ _ _ _ | refine Ext.drewN' ?_ _ | refine Ext.drew' ?_ | refine Ext.trans ?_ (by assumption)))))
              clear Bm_5 zm cm0 cm1 cm2 dm0 dm1 dm2 Ba_5 za ca0 ca1 da0 da1 Bv_5 zv cv0 cv1 dv0 dv1 Bx_5 zx cx0 cx1 cx2 dx0 dx1 dx2 Bp_5 zp cp0 cp1 cp2 dp0 dp1 dp2
              have Bl_6 : Box w6 (w5.heap.size) #[.slice l1 ml.W.length l2, .slice l3 ml.G.length l4, .bool ml.bad] 50 := (Box.new _ _ _).ext hb6
              obtain ⟨cm0, cm1, cm2, dm0, dm1, dm2⟩ := cells3 Bm_6
              have zm : w.heap.size < w6.heap.size := Bm_6.lt
              obtain ⟨ca0, ca1, da0, da1⟩ := cells2 Ba_6
              have za : w.heap.size + 1 < w6.heap.size := Ba_6.lt
              obtain ⟨cv0, cv1, dv0, dv1⟩ := cells2 Bv_6
              have zv : w.heap.size + 1 + 1 < w6.heap.size := Bv_6.lt
              obtain ⟨cx0, cx1, cx2, dx0, dx1, dx2⟩ := cells3 Bx_6
              have zx : bx < w6.heap.size := Bx_6.lt
              obtain ⟨cp0, cp1, cp2, dp0, dp1, dp2⟩ := cells3 Bp_6
              have zp : bp < w6.heap.size := Bp_6.lt
              obtain ⟨cl0, cl1, cl2, dl0, dl1, dl2⟩ := cells3 Bl_6
              have zl : w5.heap.size < w6.heap.size := Bl_6.lt
              go_wp2_with (fail)
              go_at_call 66
              refine (memCas_ no _ mc a1 u0 u1 _ ((IsMem.mk rfl wc gc : IsMem no w6 (.agg #[.slice c1 mc.W.length c2, .slice c3 mc.G.length c4, .bool mc.bad]) mc).ext (by with_reducible (repeat (first | assumption | exact Ext.refl _ | refine Ext.alloc' ?_ _ | refine Ext.store0 ?_ _ _ | refine Ext.storek ?_ _ _ _ | refine Ext.stores0 ?_ ?_ _ _ | refine Ext.storesk ?_ ?_ _ _ _ | refine Ext.drewN' ?_ _ | refine Ext.drew' ?_ | refine Ext.trans ?_ (by assumption))))) cFit no_lt (by omega) (by omega)).calls.mono ?_
              rintro e w7 ⟨_, rfl, hb7, ud, rfl, hud⟩
              rw [h11.out] at hud
              rw [HD.out, ho]
              obtain ⟨d1, d2, d3, d4, rfl, wd, gd⟩ := hud.opened
              have Bm_7 := Bm_6.ext (show Ext w6 w7 from (by with_reducible (repeat (first | assumption | exact Ext.refl _ | refine Ext.alloc' ?_ _ | refine Ext.store0 ?_ _ _ | refine Ext.storek ?_ _ _ _ | refine Ext.stores0 ?_ ?_ _ _ | refine Ext.storesk ?_ ?_ _ _ _ | refine Ext.drewN' ?_ _ | refine Ext.drew' ?_ | refine Ext.trans ?_ (by assumption)))))
              have Ba_7 := Ba_6.ext (show Ext w6 w7 from (by with_reducible (repeat (first | assumption | exact Ext.refl _ | refine Ext.alloc' ?_ _ | refine Ext.store0 ?_ _ _ | refine Ext.storek ?_ _ _ _ | refine Ext.stores0 ?_ ?_ _ _ | refine Ext.storesk ?_ ?_ _ _ _ | refine Ext.drewN' ?_ _ | refine Ext.drew' ?_ | refine Ext.trans ?_ (by assumption)))))
              have Bv_7 := Bv_6.ext (show Ext w6 w7 from (by with_reducible (repeat (first | assumption | exact Ext.refl _ | refine Ext.alloc' ?_ _ | refine Ext.store0 ?_ _ _ | refine Ext.storek ?_ _ _ _ | refine Ext.stores0 ?_ ?_ _ _ | refine Ext.storesk ?_ ?_ _ _ _ | refine Ext.drewN' ?_ _ | refine Ext.drew' ?_ | refine Ext.trans ?_ (by assumption)))))
              have Bx_7 := Bx_6.ext (show Ext w6 w7 from (by with_reducible (repeat (first | assumption | exact Ext.refl _ | refine Ext.alloc' ?_ _ | refine Ext.store0 ?_ _ _ | refine Ext.storek ?_ _ _ _ | refine Ext.stores0 ?_ ?_ _ _ | refine Ext.storesk ?_ ?_ _ _ _ | refine Ext.drewN' ?_ _ | refine Ext.drew' ?_ | refine Ext.trans ?_ (by assumption)))))
              have Bp_7 := Bp_6.ext (show Ext w6 w7 from (by with_reducible (repeat (first | assumption | exact Ext.refl _ | refine Ext.alloc' ?_ _ | refine Ext.store0 ?_ _ _ | refine Ext.storek ?_ _ _ _ | refine Ext.stores0 ?_ ?_ _ _ | refine Ext.storesk ?_ ?_ _ _ _ | refine Ext.drewN' ?_ _ | refine Ext.drew' ?_ | refine Ext.trans ?_ (by assumption)))))
              have Bl_7 := Bl_6.ext (show Ext w6 w7 from (by with_reducible (repeat (first | assumption | exact Ext.refl _ | refine Ext.alloc' ?_ _ | refine Ext.store0 ?_ _ _ | refine Ext.storek ?_ _ _ _ | refine Ext.stores0 ?_ ?_ _ _ | refine Ext.storesk ?_ ?_ _ _ _ | refine Ext.drewN' ?_ _ | refine Ext.drew' ?_ | refine Ext.trans ?_ (by assumption)))))
              clear Bm_6 zm cm0 cm1 cm2 dm0 dm1 dm2 Ba_6 za ca0 ca1 da0 da1 Bv_6 zv cv0 cv1 dv0 dv1 Bx_6 zx cx0 cx1 cx2 dx0 dx1 dx2 Bp_6 zp cp0 cp1 cp2 dp0 dp1 dp2 Bl_6 zl cl0 cl1 cl2 dl0 dl1 dl2
              have Bc_7 : Box w7 (w6.heap.size) #[.slice c1 mc.W.length c2, .slice c3 mc.G.length c4, .bool mc.bad] 50 := (Box.new _ _ _).ext hb7
              obtain ⟨cm0, cm1, cm2, dm0, dm1, dm2⟩ := cells3 Bm_7
              have zm : w.heap.size < w7.heap.size := Bm_7.lt
              obtain ⟨ca0, ca1, da0, da1⟩ := cells2 Ba_7
              have za : w.heap.size + 1 < w7.heap.size := Ba_7.lt
              obtain ⟨cv0, cv1, dv0, dv1⟩ := cells2 Bv_7
              have zv : w.heap.size + 1 + 1 < w7.heap.size := Bv_7.lt
              obtain ⟨cx0, cx1, cx2, dx0, dx1, dx2⟩ := cells3 Bx_7
              have zx : bx < w7.heap.size := Bx_7.lt
              obtain ⟨cp0, cp1, cp2, dp0, dp1, dp2⟩ := cells3 Bp_7
              have zp : bp < w7.heap.size := Bp_7.lt
              obtain ⟨cl0, cl1, cl2, dl0, dl1, dl2⟩ := cells3 Bl_7
              have zl : w5.heap.size < w7.heap.size := Bl_7.lt
              obtain ⟨cc0, cc1, cc2, dc0, dc1, dc2⟩ := cells3 Bc_7
              have zc : w6.heap.size < w7.heap.size := Bc_7.lt
              go_wp2
              go_ret
              exact ⟨_, rfl, (by with_reducible (repeat (first | assumption | exact Ext.refl _ | refine Ext.alloc' ?_ _ | refine Ext.store0 ?_ _ _ | refine Ext.storek ?_ _ _ _ | refine Ext.stores0 ?_ ?_ _ _ | refine Ext.storesk ?_ ?_ _ _ _ | refine Ext.drewN' ?_ _ | refine Ext.drew' ?_ | refine Ext.trans ?_ (by assumption)))), rfl⟩
            · have ho : bo = false := by rw [← ho0]; simp [outside]; omega
              have q3 : 0 ≤ a1 := by omega
              have q4 : a1 < (m.W.length : Int) := by omega
              clear ho0
              obtain rfl : u1 = z := (HL.out ho).symm
              go_wp2_with (fail)
              go_at_call 66
              refine (memCas_ no _ mx a1 u1 u0 _ ((IsMem.mk rfl wx gx : IsMem no w3 (.agg #[.slice x1 mx.W.length x2, .slice x3 mx.G.length x4, .bool mx.bad]) mx).ext (by with_reducible (repeat (first | assumption | exact Ext.refl _ | refine Ext.alloc' ?_ _ | refine Ext.store0 ?_ _ _ | refine Ext.storek ?_ _ _ _ | refine Ext.stores0 ?_ ?_ _ _ | refine Ext.storesk ?_ ?_ _ _ _ | refine Ext.drewN' ?_ _ | refine Ext.drew' ?_ | refine Ext.trans ?_ (by assumption))))) xFit no_lt (by omega) (by omega)).calls.mono ?_
              rintro e w6 ⟨_, rfl, hb6, uc, rfl, huc⟩
              rw [h10.out] at huc
              rw [HC.out, ho]
              obtain ⟨c1, c2, c3, c4, rfl, wc, gc⟩ := huc.opened
              have Bm_6 := Bm_5.ext (show Ext w5 w6 from (by with_reducible (repeat (first | assumption | exact Ext.refl _ | refine Ext.alloc' ?_ _ | refine Ext.store0 ?_ _ _ | refine Ext.storek ?_ _ _ _ | refine Ext.stores0 ?_ ?_ _ _ | refine Ext.storesk ?_ ?_ _ _ _ | refine Ext.drewN' ?_ _ | refine Ext.drew' ?_ | refine Ext.trans ?_ (by assumption)))))
              have Ba_6 := Ba_5.ext (show Ext w5 w6 from (by with_reducible (repeat (first | assumption | exact Ext.refl _ | refine Ext.alloc' ?_ _ | refine Ext.store0 ?_ _ _ | refine Ext.storek ?_ _ _ _ | refine Ext.stores0 ?_ ?_ _ _ | refine Ext.storesk ?_ ?_ _ _ _ | refine Ext.drewN' ?_ _ | refine Ext.drew' ?_ | refine Ext.trans ?_ (by assumption)))))
              have Bv_6 := Bv_5.ext (show Ext w5 w6 from (by with_reducible (repeat (first | assumption | exact Ext.refl _ | refine Ext.alloc' ?_ _ | refine Ext.store0 ?_ _ _ | refine Ext.storek ?_ _ _ _ | refine Ext.stores0 ?_ ?_ _ _ | refine Ext.storesk ?_ ?_ _ _ _ | refine Ext.drewN' ?_ _ | refine Ext.drew' ?_ | refine Ext.trans ?_ (by assumption)))))
              have Bx_6 := Bx_5.ext (show Ext w5 w6 from (by with_reducible (repeat (first | assumption | exact Ext.refl _ | refine Ext.alloc' ?_ _ | refine Ext.store0 ?_ _ _ | refine Ext.storek ?_ _ _ _ | refine Ext.stores0 ?_ ?_ _ _ | refine Ext.storesk ?_ ?_ _ _ _ | refine Ext.drewN' ?_ _ | refine Ext.drew' ?_ | refine Ext.trans ?_ (by assumption)))))
              have Bp_6 := Bp_5.ext (show Ext w5 w6 from (by with_reducible (repeat (first | assumption | exact Ext.refl _ | refine Ext.alloc' ?_ _ | refine Ext.store0 ?_ _ _ | refine Ext.storek ?_ _ _ _ | refine Ext.stores0 ?_ ?_ _ _ | refine Ext.storesk ?_ ?_ _ _ _ | refine Ext.drewN' ?_ _ | refine Ext.drew' ?_ | refine Ext.trans ?_ (by assumption)))))
              clear Bm_5 zm cm0 cm1 cm2 dm0 dm1 dm2 Ba_5 za ca0 ca1 da0 da1 Bv_5 zv cv0 cv1 dv0 dv1 Bx_5 zx cx0 cx1 cx2 dx0 dx1 dx2 Bp_5 zp cp0 cp1 cp2 dp0 dp1 dp2
              have Bl_6 : Box w6 (w5.heap.size) #[.slice l1 ml.W.length l2, .slice l3 ml.G.length l4, .bool ml.bad] 50 := (Box.new _ _ _).ext hb6
              obtain ⟨cm0, cm1, cm2, dm0, dm1, dm2⟩ := cells3 Bm_6
              have zm : w.heap.size < w6.heap.size := Bm_6.lt
              obtain ⟨ca0, ca1, da0, da1⟩ := cells2 Ba_6
              have za : w.heap.size + 1 < w6.heap.size := Ba_6.lt
              obtain ⟨cv0, cv1, dv0, dv1⟩ := cells2 Bv_6
              have zv : w.heap.size + 1 + 1 < w6.heap.size := Bv_6.lt
              obtain ⟨cx0, cx1, cx2, dx0, dx1, dx2⟩ := cells3 Bx_6
              have zx : bx < w6.heap.size := Bx_6.lt
              obtain ⟨cp0, cp1, cp2, dp0, dp1, dp2⟩ := cells3 Bp_6
              have zp : bp < w6.heap.size := Bp_6.lt
              obtain ⟨cl0, cl1, cl2, dl0, dl1, dl2⟩ := cells3 Bl_6
              have zl : w5.heap.size < w6.heap.size := Bl_6.lt
              go_wp2_with (fail)
              go_at_call 66
              refine (memCas_ no _ mc a1 u0 u1 _ ((IsMem.mk rfl wc gc : IsMem no w6 (.agg #[.slice c1 mc.W.length c2, .slice c3 mc.G.length c4, .bool mc.bad]) mc).ext (by with_reducible (repeat (first | assumption | exact Ext.refl _ | refine Ext.alloc' ?_ _ | refine Ext.store0 ?_ _ _ | refine Ext.storek ?_ _ _ _ | refine Ext.stores0 ?_ ?_ _ _ | refine Ext.storesk ?_ ?_ _ _ _ | refine Ext.drewN' ?_ _ | refine Ext.drew' ?_ | refine Ext.trans ?_ (by assumption))))) cFit no_lt (by omega) (by omega)).calls.mono ?_
              rintro e w7 ⟨_, rfl, hb7, ud, rfl, hud⟩
              rw [h11.out] at hud
              rw [HD.out, ho]
              obtain ⟨d1, d2, d3, d4, rfl, wd, gd⟩ := hud.opened
              have Bm_7 := Bm_6.ext (show Ext w6 w7 from (by with_reducible (repeat (first | assumption | exact Ext.refl _ | refine Ext.alloc' ?_ _ | refine Ext.store0 ?_ _ _ | refine Ext.storek ?_ _ _ _ | refine Ext.stores0 ?_ ?_ _ _ | refine Ext.storesk ?_ ?_ _ _ _ | refine Ext.drewN' ?_ _ | refine Ext.drew' ?_ | refine Ext.trans ?_ (by assumption)))))
              have Ba_7 := Ba_6.ext (show Ext w6 w7 from (by with_reducible (repeat (first | assumption | exact Ext.refl _ | refine Ext.alloc' ?_ _ | refine Ext.store0 ?_ _ _ | refine Ext.storek ?_ _ _ _ | refine Ext.stores0 ?_ ?_ _ _ | refine Ext.storesk ?_ ?_ _ _ _ | refine Ext.drewN' ?_ _ | refine Ext.drew' ?_ | refine Ext.trans ?_ (by assumption)))))
              have Bv_7 := Bv_6.ext (show Ext w6 w7 from (by with_reducible (repeat (first | assumption | exact Ext.refl _ | refine Ext.alloc' ?_ _ | refine Ext.store0 ?_ _ _ | refine Ext.storek ?_ _ _ _ | refine Ext.stores0 ?_ ?_ _ _ | refine Ext.storesk ?_ ?_ _ _ _ | refine Ext.drewN' ?_ _ | refine Ext.drew' ?_ | refine Ext.trans ?_ (by assumption)))))
              have Bx_7 := Bx_6.ext (show Ext w6 w7 from (by with_reducible (repeat (first | assumption | exact Ext.refl _ | refine Ext.alloc' ?_ _ | refine Ext.store0 ?_ _ _ | refine Ext.storek ?_ _ _ _ | refine Ext.stores0 ?_ ?_ _ _ | refine Ext.storesk ?_ ?_ _ _ _ | refine Ext.drewN' ?_ _ | refine Ext.drew' ?_ | refine Ext.trans ?_ (by assumption)))))
              have Bp_7 := Bp_6.ext (show Ext w6 w7 from (by with_reducible (repeat (first | assumption | exact Ext.refl _ | refine Ext.alloc' ?_ _ | refine Ext.store0 ?_ _ _ | refine Ext.storek ?_ _ _ _ | refine Ext.stores0 ?_ ?_ _ _ | refine Ext.storesk ?_ ?_ _ _ _ | refine Ext.drewN' ?_ _ | refine Ext.drew' ?_ | refine Ext.trans ?_ (by assumption)))))
              have Bl_7 := Bl_6.ext (show Ext w6 w7 from (by with_reducible (repeat (first | assumption | exact Ext.refl _ | refine Ext.alloc' ?_ _ | refine Ext.store0 ?_ _ _ | refine Ext.storek ?_ _ _ _ | refine Ext.stores0 ?_ ?_ _ _ | refine Ext.storesk ?_ ?_ _ _ _ | refine Ext.drewN' ?_ _ | refine Ext.drew' ?_ | refine Ext.trans ?_ (by assumption)))))
              clear Bm_6 zm cm0 cm1 cm2 dm0 dm1 dm2 Ba_6 za ca0 ca1 da0 da1 Bv_6 zv cv0 cv1 dv0 dv1 Bx_6 zx cx0 cx1 cx2 dx0 dx1 dx2 Bp_6 zp cp0 cp1 cp2 dp0 dp1 dp2 Bl_6 zl cl0 cl1 cl2 dl0 dl1 dl2
              have Bc_7 : Box w7 (w6.heap.size) #[.slice c1 mc.W.length c2, .slice c3 mc.G.length c4, .bool mc.bad] 50 := (Box.new _ _ _).ext hb7
              obtain ⟨cm0, cm1, cm2, dm0, dm1, dm2⟩ := cells3 Bm_7
              have zm : w.heap.size < w7.heap.size := Bm_7.lt
              obtain ⟨ca0, ca1, da0, da1⟩ := cells2 Ba_7
              have za : w.heap.size + 1 < w7.heap.size := Ba_7.lt
              obtain ⟨cv0, cv1, dv0, dv1⟩ := cells2 Bv_7
              have zv : w.heap.size + 1 + 1 < w7.heap.size := Bv_7.lt
              obtain ⟨cx0, cx1, cx2, dx0, dx1, dx2⟩ := cells3 Bx_7
              have zx : bx < w7.heap.size := Bx_7.lt
              obtain ⟨cp0, cp1, cp2, dp0, dp1, dp2⟩ := cells3 Bp_7
              have zp : bp < w7.heap.size := Bp_7.lt
              obtain ⟨cl0, cl1, cl2, dl0, dl1, dl2⟩ := cells3 Bl_7
              have zl : w5.heap.size < w7.heap.size := Bl_7.lt
              obtain ⟨cc0, cc1, cc2, dc0, dc1, dc2⟩ := cells3 Bc_7
              have zc : w6.heap.size < w7.heap.size := Bc_7.lt
              go_wp2_with (fail)
              go_at_call 72
              refine (refInts_ no _ _ md.W mx.W _ (wd.ext (by with_reducible (repeat (first | assumption | exact Ext.refl _ | refine Ext.alloc' ?_ _ | refine Ext.store0 ?_ _ _ | refine Ext.storek ?_ _ _ _ | refine Ext.stores0 ?_ ?_ _ _ | refine Ext.storesk ?_ ?_ _ _ _ | refine Ext.drewN' ?_ _ | refine Ext.drew' ?_ | refine Ext.trans ?_ (by assumption))))) (wx.ext (by with_reducible (repeat (first | assumption | exact Ext.refl _ | refine Ext.alloc' ?_ _ | refine Ext.store0 ?_ _ _ | refine Ext.storek ?_ _ _ _ | refine Ext.stores0 ?_ ?_ _ _ | refine Ext.storesk ?_ ?_ _ _ _ | refine Ext.drewN' ?_ _ | refine Ext.drew' ?_ | refine Ext.trans ?_ (by assumption)))))).calls.mono ?_
              rintro e w8 ⟨_, rfl, hb8, rfl⟩
              rw [HW.out ho, show (mx.W == mx.W) = true by simp]
              have Bm_8 := Bm_7.ext (show Ext w7 w8 from (by with_reducible (repeat (first | assumption | exact Ext.refl _ | refine Ext.alloc' ?_ _ | refine Ext.store0 ?_ _ _ | refine Ext.storek ?_ _ _ _ | refine Ext.stores0 ?_ ?_ _ _ | refine Ext.storesk ?_ ?_ _ _ _ | refine Ext.drewN' ?_ _ | refine Ext.drew' ?_ | refine Ext.trans ?_ (by assumption)))))
              have Ba_8 := Ba_7.ext (show Ext w7 w8 from (by with_reducible (repeat (first | assumption | exact Ext.refl _ | refine Ext.alloc' ?_ _ | refine Ext.store0 ?_ _ _ | refine Ext.storek ?_ _ _ _ | refine Ext.stores0 ?_ ?_ _ _ | refine Ext.storesk ?_ ?_ _ _ _ | refine Ext.drewN' ?_ _ | refine Ext.drew' ?_ | refine Ext.trans ?_ (by assumption)))))
              have Bv_8 := Bv_7.ext (show Ext w7 w8 from (by with_reducible (repeat (first | assumption | exact Ext.refl _ | refine Ext.alloc' ?_ _ | refine Ext.store0 ?_ _ _ | refine Ext.storek ?_ _ _ _ | refine Ext.stores0 ?_ ?_ _ _ | refine Ext.storesk ?_ ?_ _ _ _ | refine Ext.drewN' ?_ _ | refine Ext.drew' ?_ | refine Ext.trans ?_ (by assumption)))))
              have Bx_8 := Bx_7.ext (show Ext w7 w8 from (by with_reducible (repeat (first | assumption | exact Ext.refl _ | refine Ext.alloc' ?_ _ | refine Ext.store0 ?_ _ _ | refine Ext.storek ?_ _ _ _ | refine Ext.stores0 ?_ ?_ _ _ | refine Ext.storesk ?_ ?_ _ _ _ | refine Ext.drewN' ?_ _ | refine Ext.drew' ?_ | refine Ext.trans ?_ (by assumption)))))
              have Bp_8 := Bp_7.ext (show Ext w7 w8 from (by with_reducible (repeat (first | assumption | exact Ext.refl _ | refine Ext.alloc' ?_ _ | refine Ext.store0 ?_ _ _ | refine Ext.storek ?_ _ _ _ | refine Ext.stores0 ?_ ?_ _ _ | refine Ext.storesk ?_ ?_ _ _ _ | refine Ext.drewN' ?_ _ | refine Ext.drew' ?_ | refine Ext.trans ?_ (by assumption)))))
              have Bl_8 := Bl_7.ext (show Ext w7 w8 from (by with_reducible (repeat (first | assumption | exact Ext.refl _ | refine Ext.alloc' ?_ _ | refine Ext.store0 ?_ _ _ | refine Ext.storek ?_ _ _ _ | refine Ext.stores0 ?_ ?_ _ _ | refine Ext.storesk ?_ ?_ _ _ _ | refine Ext.drewN' ?_ _ | refine Ext.drew' ?_ | refine Ext.trans ?_ (by assumption)))))
              have Bc_8 := Bc_7.ext (show Ext w7 w8 from (by with_reducible (repeat (first | assumption | exact Ext.refl _ | refine Ext.alloc' ?_ _ | refine Ext.store0 ?_ _ _ | refine Ext.storek ?_ _ _ _ | refine Ext.stores0 ?_ ?_ _ _ | refine Ext.storesk ?_ ?_ _ _ _ | refine Ext.drewN' ?_ _ | refine Ext.drew' ?_ | refine Ext.trans ?_ (by assumption)))))
              clear Bm_7 zm cm0 cm1 cm2 dm0 dm1 dm2 Ba_7 za ca0 ca1 da0 da1 Bv_7 zv cv0 cv1 dv0 dv1 Bx_7 zx cx0 cx1 cx2 dx0 dx1 dx2 Bp_7 zp cp0 cp1 cp2 dp0 dp1 dp2 Bl_7 zl cl0 cl1 cl2 dl0 dl1 dl2 Bc_7 zc cc0 cc1 cc2 dc0 dc1 dc2
              have Bd_8 : Box w8 (w7.heap.size) #[.slice d1 md.W.length d2, .slice d3 md.G.length d4, .bool md.bad] 50 := (Box.new _ _ _).ext hb8
              obtain ⟨cm0, cm1, cm2, dm0, dm1, dm2⟩ := cells3 Bm_8
              have zm : w.heap.size < w8.heap.size := Bm_8.lt
              obtain ⟨ca0, ca1, da0, da1⟩ := cells2 Ba_8
              have za : w.heap.size + 1 < w8.heap.size := Ba_8.lt
              obtain ⟨cv0, cv1, dv0, dv1⟩ := cells2 Bv_8
              have zv : w.heap.size + 1 + 1 < w8.heap.size := Bv_8.lt
              obtain ⟨cx0, cx1, cx2, dx0, dx1, dx2⟩ := cells3 Bx_8
              have zx : bx < w8.heap.size := Bx_8.lt
              obtain ⟨cp0, cp1, cp2, dp0, dp1, dp2⟩ := cells3 Bp_8
              have zp : bp < w8.heap.size := Bp_8.lt
              obtain ⟨cl0, cl1, cl2, dl0, dl1, dl2⟩ := cells3 Bl_8
              have zl : w5.heap.size < w8.heap.size := Bl_8.lt
              obtain ⟨cc0, cc1, cc2, dc0, dc1, dc2⟩ := cells3 Bc_8
              have zc : w6.heap.size < w8.heap.size := Bc_8.lt
              obtain ⟨cd0, cd1, cd2, dd0, dd1, dd2⟩ := cells3 Bd_8
              have zd : w7.heap.size < w8.heap.size := Bd_8.lt
              go_wp2
              go_ret
              exact ⟨_, rfl, (by with_reducible (repeat (first | assumption | exact Ext.refl _ | refine Ext.alloc' ?_ _ | refine Ext.store0 ?_ _ _ | refine Ext.storek ?_ _ _ _ | refine Ext.stores0 ?_ ?_ _ _ | refine Ext.storesk ?_ ?_ _ _ _ | refine Ext.drewN' ?_ _ | refine Ext.drew' ?_ | refine Ext.trans ?_ (by assumption)))), rfl⟩
        · by_cases q1 : a1 < 0
          · have ho : bo = true := by rw [← ho0]; simp [outside, q1]
            have q2 : ¬ 0 ≤ a1 := by omega
            clear ho0
            go_wp2_with (fail)
            go_at_call 54
            refine (refSame_ no _ _ mx my _ ((IsMem.mk rfl wx gx : IsMem no w3 (.agg #[.slice x1 mx.W.length x2, .slice x3 mx.G.length x4, .bool mx.bad]) mx).ext (by with_reducible (repeat (first | assumption | exact Ext.refl _ | refine Ext.alloc' ?_ _ | refine Ext.store0 ?_ _ _ | refine Ext.storek ?_ _ _ _ | refine Ext.stores0 ?_ ?_ _ _ | refine Ext.storesk ?_ ?_ _ _ _ | refine Ext.drewN' ?_ _ | refine Ext.drew' ?_ | refine Ext.trans ?_ (by assumption))))) ((IsMem.mk rfl wp gp : IsMem no w4 (.agg #[.slice p1 my.W.length p2, .slice p3 my.G.length p4, .bool my.bad]) my).ext (by with_reducible (repeat (first | assumption | exact Ext.refl _ | refine Ext.alloc' ?_ _ | refine Ext.store0 ?_ _ _ | refine Ext.storek ?_ _ _ _ | refine Ext.stores0 ?_ ?_ _ _ | refine Ext.storesk ?_ ?_ _ _ _ | refine Ext.drewN' ?_ _ | refine Ext.drew' ?_ | refine Ext.trans ?_ (by assumption)))))).calls.mono ?_
            rintro e w6 ⟨_, rfl, hb6, rfl⟩
            rw [HS.out hne]
            have Bm_6 := Bm_5.ext (show Ext w5 w6 from (by with_reducible (repeat (first | assumption | exact Ext.refl _ | refine Ext.alloc' ?_ _ | refine Ext.store0 ?_ _ _ | refine Ext.storek ?_ _ _ _ | refine Ext.stores0 ?_ ?_ _ _ | refine Ext.storesk ?_ ?_ _ _ _ | refine Ext.drewN' ?_ _ | refine Ext.drew' ?_ | refine Ext.trans ?_ (by assumption)))))
            have Ba_6 := Ba_5.ext (show Ext w5 w6 from (by with_reducible (repeat (first | assumption | exact Ext.refl _ | refine Ext.alloc' ?_ _ | refine Ext.store0 ?_ _ _ | refine Ext.storek ?_ _ _ _ | refine Ext.stores0 ?_ ?_ _ _ | refine Ext.storesk ?_ ?_ _ _ _ | refine Ext.drewN' ?_ _ | refine Ext.drew' ?_ | refine Ext.trans ?_ (by assumption)))))
            have Bv_6 := Bv_5.ext (show Ext w5 w6 from (by with_reducible (repeat (first | assumption | exact Ext.refl _ | refine Ext.alloc' ?_ _ | refine Ext.store0 ?_ _ _ | refine Ext.storek ?_ _ _ _ | refine Ext.stores0 ?_ ?_ _ _ | refine Ext.storesk ?_ ?_ _ _ _ | refine Ext.drewN' ?_ _ | refine Ext.drew' ?_ | refine Ext.trans ?_ (by assumption)))))
            have Bx_6 := Bx_5.ext (show Ext w5 w6 from (by with_reducible (repeat (first | assumption | exact Ext.refl _ | refine Ext.alloc' ?_ _ | refine Ext.store0 ?_ _ _ | refine Ext.storek ?_ _ _ _ | refine Ext.stores0 ?_ ?_ _ _ | refine Ext.storesk ?_ ?_ _ _ _ | refine Ext.drewN' ?_ _ | refine Ext.drew' ?_ | refine Ext.trans ?_ (by assumption)))))
            have Bp_6 := Bp_5.ext (show Ext w5 w6 from (by with_reducible (repeat (first | assumption | exact Ext.refl _ | refine Ext.alloc' ?_ _ | refine Ext.store0 ?_ _ _ | refine Ext.storek ?_ _ _ _ | refine Ext.stores0 ?_ ?_ _ _ | refine Ext.storesk ?_ ?_ _ _ _ | refine Ext.drewN' ?_ _ | refine Ext.drew' ?_ | refine Ext.trans ?_ (by assumption)))))
            clear Bm_5 zm cm0 cm1 cm2 dm0 dm1 dm2 Ba_5 za ca0 ca1 da0 da1 Bv_5 zv cv0 cv1 dv0 dv1 Bx_5 zx cx0 cx1 cx2 dx0 dx1 dx2 Bp_5 zp cp0 cp1 cp2 dp0 dp1 dp2
            have Bl_6 : Box w6 (w5.heap.size) #[.slice l1 ml.W.length l2, .slice l3 ml.G.length l4, .bool ml.bad] 50 := (Box.new _ _ _).ext hb6
            obtain ⟨cm0, cm1, cm2, dm0, dm1, dm2⟩ := cells3 Bm_6
            have zm : w.heap.size < w6.heap.size := Bm_6.lt
            obtain ⟨ca0, ca1, da0, da1⟩ := cells2 Ba_6
            have za : w.heap.size + 1 < w6.heap.size := Ba_6.lt
            obtain ⟨cv0, cv1, dv0, dv1⟩ := cells2 Bv_6
            have zv : w.heap.size + 1 + 1 < w6.heap.size := Bv_6.lt
            obtain ⟨cx0, cx1, cx2, dx0, dx1, dx2⟩ := cells3 Bx_6
            have zx : bx < w6.heap.size := Bx_6.lt
            obtain ⟨cp0, cp1, cp2, dp0, dp1, dp2⟩ := cells3 Bp_6
            have zp : bp < w6.heap.size := Bp_6.lt
            obtain ⟨cl0, cl1, cl2, dl0, dl1, dl2⟩ := cells3 Bl_6
            have zl : w5.heap.size < w6.heap.size := Bl_6.lt
            go_wp2_with (fail)
            go_at_call 66
            refine (memCas_ no _ mx a1 u1 u0 _ ((IsMem.mk rfl wx gx : IsMem no w3 (.agg #[.slice x1 mx.W.length x2, .slice x3 mx.G.length x4, .bool mx.bad]) mx).ext (by with_reducible (repeat (first | assumption | exact Ext.refl _ | refine Ext.alloc' ?_ _ | refine Ext.store0 ?_ _ _ | refine Ext.storek ?_ _ _ _ | refine Ext.stores0 ?_ ?_ _ _ | refine Ext.storesk ?_ ?_ _ _ _ | refine Ext.drewN' ?_ _ | refine Ext.drew' ?_ | refine Ext.trans ?_ (by assumption))))) xFit no_lt (by omega) (by omega)).calls.mono ?_
            rintro e w7 ⟨_, rfl, hb7, uc, rfl, huc⟩
            rw [h10.out] at huc
            rw [HC.out, ho]
            obtain ⟨c1, c2, c3, c4, rfl, wc, gc⟩ := huc.opened
            have Bm_7 := Bm_6.ext (show Ext w6 w7 from (by with_reducible (repeat (first | assumption | exact Ext.refl _ | refine Ext.alloc' ?_ _ | refine Ext.store0 ?_ _ _ | refine Ext.storek ?_ _ _ _ | refine Ext.stores0 ?_ ?_ _ _ | refine Ext.storesk ?_ ?_ _ _ _ | refine Ext.drewN' ?_ _ | refine Ext.drew' ?_ | refine Ext.trans ?_ (by assumption)))))
            have Ba_7 := Ba_6.ext (show Ext w6 w7 from (by with_reducible (repeat (first | assumption | exact Ext.refl _ | refine Ext.alloc' ?_ _ | refine Ext.store0 ?_ _ _ | refine Ext.storek ?_ _ _ _ | refine Ext.stores0 ?_ ?_ _ _ | refine Ext.storesk ?_ ?_ _ _ _ | refine Ext.drewN' ?_ _ | refine Ext.drew' ?_ | refine Ext.trans ?_ (by assumption)))))
            have Bv_7 := Bv_6.ext (show Ext w6 w7 from (by with_reducible (repeat (first | assumption | exact Ext.refl _ | refine Ext.alloc' ?_ _ | refine Ext.store0 ?_ _ _ | refine Ext.storek ?_ _ _ _ | refine Ext.stores0 ?_ ?_ _ _ | refine Ext.storesk ?_ ?_ _ _ _ | refine Ext.drewN' ?_ _ | refine Ext.drew' ?_ | refine Ext.trans ?_ (by assumption)))))
            have Bx_7 := Bx_6.ext (show Ext w6 w7 from (by with_reducible (repeat (first | assumption | exact Ext.refl _ | refine Ext.alloc' ?_ _ | refine Ext.store0 ?_ _ _ | refine Ext.storek ?_ _ _ _ | refine Ext.stores0 ?_ ?_ _ _ | refine Ext.storesk ?_ ?_ _ _ _ | refine Ext.drewN' ?_ _ | refine Ext.drew' ?_ | refine Ext.trans ?_ (by assumption)))))
            have Bp_7 := Bp_6.ext (show Ext w6 w7 from (by with_reducible (repeat (first | assumption | exact Ext.refl _ | refine Ext.alloc' ?_ _ | refine Ext.store0 ?_ _ _ | refine Ext.storek ?_ _ _ _ | refine Ext.stores0 ?_ ?_ _ _ | refine Ext.storesk ?_ ?_ _ _ _ | refine Ext.drewN' ?_ _ | refine Ext.drew' ?_ | refine Ext.trans ?_ (by assumption)))))
            have Bl_7 := Bl_6.ext (show Ext w6 w7 from (by with_reducible (repeat (first | assumption | exact Ext.refl _ | refine Ext.alloc' ?_ _ | refine Ext.store0 ?_ _ _ | refine Ext.storek ?_ _ _ _ | refine Ext.stores0 ?_ ?_ _ _ | refine Ext.storesk ?_ ?_ _ _ _ | refine Ext.drewN' ?_ _ | refine Ext.drew' ?_ | refine Ext.trans ?_ (by assumption)))))
            clear Bm_6 zm cm0 cm1 cm2 dm0 dm1 dm2 Ba_6 za ca0 ca1 da0 da1 Bv_6 zv cv0 cv1 dv0 dv1 Bx_6 zx cx0 cx1 cx2 dx0 dx1 dx2 Bp_6 zp cp0 cp1 cp2 dp0 dp1 dp2 Bl_6 zl cl0 cl1 cl2 dl0 dl1 dl2
            obtain ⟨cm0, cm1, cm2, dm0, dm1, dm2⟩ := cells3 Bm_7
            have zm : w.heap.size < w7.heap.size := Bm_7.lt
            obtain ⟨ca0, ca1, da0, da1⟩ := cells2 Ba_7
            have za : w.heap.size + 1 < w7.heap.size := Ba_7.lt
            obtain ⟨cv0, cv1, dv0, dv1⟩ := cells2 Bv_7
            have zv : w.heap.size + 1 + 1 < w7.heap.size := Bv_7.lt
            obtain ⟨cx0, cx1, cx2, dx0, dx1, dx2⟩ := cells3 Bx_7
            have zx : bx < w7.heap.size := Bx_7.lt
            obtain ⟨cp0, cp1, cp2, dp0, dp1, dp2⟩ := cells3 Bp_7
            have zp : bp < w7.heap.size := Bp_7.lt
            obtain ⟨cl0, cl1, cl2, dl0, dl1, dl2⟩ := cells3 Bl_7
            have zl : w5.heap.size < w7.heap.size := Bl_7.lt
            go_wp2_with (fail)
            go_at_call 66
            refine (memCas_ no _ mc a1 u0 u1 _ ((IsMem.mk rfl wc gc : IsMem no w7 (.agg #[.slice c1 mc.W.length c2, .slice c3 mc.G.length c4, .bool mc.bad]) mc).ext (by with_reducible (repeat (first | assumption | exact Ext.refl _ | refine Ext.alloc' ?_ _ | refine Ext.store0 ?_ _ _ | refine Ext.storek ?_ _ _ _ | refine Ext.stores0 ?_ ?_ _ _ | refine Ext.storesk ?_ ?_ _ _ _ | refine Ext.drewN' ?_ _ | refine Ext.drew' ?_ | refine Ext.trans ?_ (by assumption))))) cFit no_lt (by omega) (by omega)).calls.mono ?_
            rintro e w8 ⟨_, rfl, hb8, ud, rfl, hud⟩
            rw [h11.out] at hud
            rw [HD.out, ho]
            obtain ⟨d1, d2, d3, d4, rfl, wd, gd⟩ := hud.opened
            have Bm_8 := Bm_7.ext (show Ext w7 w8 from (by with_reducible (repeat (first | assumption | exact Ext.refl _ | refine Ext.alloc' ?_ _ | refine Ext.store0 ?_ _ _ | refine Ext.storek ?_ _ _ _ | refine Ext.stores0 ?_ ?_ _ _ | refine Ext.storesk ?_ ?_ _ _ _ | refine Ext.drewN' ?_ _ | refine Ext.drew' ?_ | refine Ext.trans ?_ (by assumption)))))
            have Ba_8 := Ba_7.ext (show Ext w7 w8 from (by with_reducible (repeat (first | assumption | exact Ext.refl _ | refine Ext.alloc' ?_ _ | refine Ext.store0 ?_ _ _ | refine Ext.storek ?_ _ _ _ | refine Ext.stores0 ?_ ?_ _ _ | refine Ext.storesk ?_ ?_ _ _ _ | refine Ext.drewN' ?_ _ | refine Ext.drew' ?_ | refine Ext.trans ?_ (by assumption)))))
            have Bv_8 := Bv_7.ext (show Ext w7 w8 from (by with_reducible (repeat (first | assumption | exact Ext.refl _ | refine Ext.alloc' ?_ _ | refine Ext.store0 ?_ _ _ | refine Ext.storek ?_ _ _ _ | refine Ext.stores0 ?_ ?_ _ _ | refine Ext.storesk ?_ ?_ _ _ _ | refine Ext.drewN' ?_ _ | refine Ext.drew' ?_ | refine Ext.trans ?_ (by assumption)))))
            have Bx_8 := Bx_7.ext (show Ext w7 w8 from (by with_reducible (repeat (first | assumption | exact Ext.refl _ | refine Ext.alloc' ?_ _ | refine Ext.store0 ?_ _ _ | refine Ext.storek ?_ _ _ _ | refine Ext.stores0 ?_ ?_ _ _ | refine Ext.storesk ?_ ?_ _ _ _ | refine Ext.drewN' ?_ _ | refine Ext.drew' ?_ | refine Ext.trans ?_ (by assumption)))))
            have Bp_8 := Bp_7.ext (show Ext w7 w8 from (by with_reducible (repeat (first | assumption | exact Ext.refl _ | refine Ext.alloc' ?_ _ | refine Ext.store0 ?_ _ _ | refine Ext.storek ?_ _ _ _ | refine Ext.stores0 ?_ ?_ _ _ | refine Ext.storesk ?_ ?_ _ _ _ | refine Ext.drewN' ?_ _ | refine Ext.drew' ?_ | refine Ext.trans ?_ (by assumption)))))
            have Bl_8 := Bl_7.ext (show Ext w7 w8 from (by with_reducible (repeat (first | assumption | exact Ext.refl _ | refine Ext.alloc' ?_ _ | refine Ext.store0 ?_ _ _ | refine Ext.storek ?_ _ _ _ | refine Ext.stores0 ?_ ?_ _ _ | refine Ext.storesk ?_ ?_ _ _ _ | refine Ext.drewN' ?_ _ | refine Ext.drew' ?_ | refine Ext.trans ?_ (by assumption)))))
            clear Bm_7 zm cm0 cm1 cm2 dm0 dm1 dm2 Ba_7 za ca0 ca1 da0 da1 Bv_7 zv cv0 cv1 dv0 dv1 Bx_7 zx cx0 cx1 cx2 dx0 dx1 dx2 Bp_7 zp cp0 cp1 cp2 dp0 dp1 dp2 Bl_7 zl cl0 cl1 cl2 dl0 dl1 dl2
            have Bc_8 : Box w8 (w7.heap.size) #[.slice c1 mc.W.length c2, .slice c3 mc.G.length c4, .bool mc.bad] 50 := (Box.new _ _ _).ext hb8
            obtain ⟨cm0, cm1, cm2, dm0, dm1, dm2⟩ := cells3 Bm_8
            have zm : w.heap.size < w8.heap.size := Bm_8.lt
            obtain ⟨ca0, ca1, da0, da1⟩ := cells2 Ba_8
            have za : w.heap.size + 1 < w8.heap.size := Ba_8.lt
            obtain ⟨cv0, cv1, dv0, dv1⟩ := cells2 Bv_8
            have zv : w.heap.size + 1 + 1 < w8.heap.size := Bv_8.lt
            obtain ⟨cx0, cx1, cx2, dx0, dx1, dx2⟩ := cells3 Bx_8
            have zx : bx < w8.heap.size := Bx_8.lt
            obtain ⟨cp0, cp1, cp2, dp0, dp1, dp2⟩ := cells3 Bp_8
            have zp : bp < w8.heap.size := Bp_8.lt
            obtain ⟨cl0, cl1, cl2, dl0, dl1, dl2⟩ := cells3 Bl_8
            have zl : w5.heap.size < w8.heap.size := Bl_8.lt
            obtain ⟨cc0, cc1, cc2, dc0, dc1, dc2⟩ := cells3 Bc_8
            have zc : w7.heap.size < w8.heap.size := Bc_8.lt
            go_wp2
            go_ret
            exact ⟨_, rfl, (by with_reducible (repeat (first | assumption | exact Ext.refl _ | refine Ext.alloc' ?_ _ | refine Ext.store0 ?_ _ _ | refine Ext.storek ?_ _ _ _ | refine Ext.stores0 ?_ ?_ _ _ | refine Ext.storesk ?_ ?_ _ _ _ | refine Ext.drewN' ?_ _ | refine Ext.drew' ?_ | refine Ext.trans ?_ (by assumption)))), rfl⟩
          · by_cases q2 : (m.W.length : Int) ≤ a1
            · have ho : bo = true := by rw [← ho0]; simp [outside, q2]
              have q3 : 0 ≤ a1 := by omega
              have q4 : ¬ a1 < (m.W.length : Int) := by omega
              clear ho0
              go_wp2_with (fail)
              go_at_call 54
              refine (refSame_ no _ _ mx my _ ((IsMem.mk rfl wx gx : IsMem no w3 (.agg #[.slice x1 mx.W.length x2, .slice x3 mx.G.length x4, .bool mx.bad]) mx).ext (by with_reducible (repeat (first | assumption | exact Ext.refl _ | refine Ext.alloc' ?_ _ | refine Ext.store0 ?_ _ _ | refine Ext.storek ?_ _ _ _ | refine Ext.stores0 ?_ ?_ _ _ | refine Ext.storesk ?_ ?_ _ _ _ | refine Ext.drewN' ?_ _ | refine Ext.drew' ?_ | refine Ext.trans ?_ (by assumption))))) ((IsMem.mk rfl wp gp : IsMem no w4 (.agg #[.slice p1 my.W.length p2, .slice p3 my.G.length p4, .bool my.bad]) my).ext (by with_reducible (repeat (first | assumption | exact Ext.refl _ | refine Ext.alloc' ?_ _ | refine Ext.store0 ?_ _ _ | refine Ext.storek ?_ _ _ _ | refine Ext.stores0 ?_ ?_ _ _ | refine Ext.storesk ?_ ?_ _ _ _ | refine Ext.drewN' ?_ _ | refine Ext.drew' ?_ | refine Ext.trans ?_ (by assumption)))))).calls.mono ?_
              rintro e w6 ⟨_, rfl, hb6, rfl⟩
              rw [HS.out hne]
              have Bm_6 := Bm_5.ext (show Ext w5 w6 from (by with_reducible (repeat (first | assumption | exact Ext.refl _ | refine Ext.alloc' ?_ _ | refine Ext.store0 ?_ _ _ | refine Ext.storek ?_ _ _ _ | refine Ext.stores0 ?_ ?_ _ _ | refine Ext.storesk ?_ ?_ _ _ _ | refine Ext.drewN' ?_ _ | refine Ext.drew' ?_ | refine Ext.trans ?_ (by assumption)))))
              have Ba_6 := Ba_5.ext (show Ext w5 w6 from (by with_reducible (repeat (first | assumption | exact Ext.refl _ | refine Ext.alloc' ?_ _ | refine Ext.store0 ?_ _ _ | refine Ext.storek ?_ _ _ _ | refine Ext.stores0 ?_ ?_ _ _ | refine Ext.storesk ?_ ?_ _ _ _ | refine Ext.drewN' ?_ _ | refine Ext.drew' ?_ | refine Ext.trans ?_ (by assumption)))))
              have Bv_6 := Bv_5.ext (show Ext w5 w6 from (by with_reducible (repeat (first | assumption | exact Ext.refl _ | refine Ext.alloc' ?_ _ | refine Ext.store0 ?_ _ _ | refine Ext.storek ?_ _ _ _ | refine Ext.stores0 ?_ ?_ _ _ | refine Ext.storesk ?_ ?_ _ _ _ | refine Ext.drewN' ?_ _ | refine Ext.drew' ?_ | refine Ext.trans ?_ (by assumption)))))
              have Bx_6 := Bx_5.ext (show Ext w5 w6 from (by with_reducible (repeat (first | assumption | exact Ext.refl _ | refine Ext.alloc' ?_ _ | refine Ext.store0 ?_ _ _ | refine Ext.storek ?_ _ _ _ | refine Ext.stores0 ?_ ?_ _ _ | refine Ext.storesk ?_ ?_ _ _ _ | refine Ext.drewN' ?_ _ | refine Ext.drew' ?_ | refine Ext.trans ?_ (by assumption)))))
              have Bp_6 := Bp_5.ext (show Ext w5 w6 from (by with_reducible (repeat (first | assumption | exact Ext.refl _ | refine Ext.alloc' ?_ _ | refine Ext.store0 ?_ _ _ | refine Ext.storek ?_ _ _ _ | refine Ext.stores0 ?_ ?_ _ _ | refine Ext.storesk ?_ ?_ _ _ _ | refine Ext.drewN' ?_ _ | refine Ext.drew' ?_ | refine Ext.trans ?_ (by assumption)))))
              clear Bm_5 zm cm0 cm1 cm2 dm0 dm1 dm2 Ba_5 za ca0 ca1 da0 da1 Bv_5 zv cv0 cv1 dv0 dv1 Bx_5 zx cx0 cx1 cx2 dx0 dx1 dx2 Bp_5 zp cp0 cp1 cp2 dp0 dp1 dp2
              have Bl_6 : Box w6 (w5.heap.size) #[.slice l1 ml.W.length l2, .slice l3 ml.G.length l4, .bool ml.bad] 50 := (Box.new _ _ _).ext hb6
              obtain ⟨cm0, cm1, cm2, dm0, dm1, dm2⟩ := cells3 Bm_6
              have zm : w.heap.size < w6.heap.size := Bm_6.lt
              obtain ⟨ca0, ca1, da0, da1⟩ := cells2 Ba_6
              have za : w.heap.size + 1 < w6.heap.size := Ba_6.lt
              obtain ⟨cv0, cv1, dv0, dv1⟩ := cells2 Bv_6
              have zv : w.heap.size + 1 + 1 < w6.heap.size := Bv_6.lt
              obtain ⟨cx0, cx1, cx2, dx0, dx1, dx2⟩ := cells3 Bx_6
              have zx : bx < w6.heap.size := Bx_6.lt
              obtain ⟨cp0, cp1, cp2, dp0, dp1, dp2⟩ := cells3 Bp_6
              have zp : bp < w6.heap.size := Bp_6.lt
              obtain ⟨cl0, cl1, cl2, dl0, dl1, dl2⟩ := cells3 Bl_6
              have zl : w5.heap.size < w6.heap.size := Bl_6.lt
              go_wp2_with (fail)
              go_at_call 66
              refine (memCas_ no _ mx a1 u1 u0 _ ((IsMem.mk rfl wx gx : IsMem no w3 (.agg #[.slice x1 mx.W.length x2, .slice x3 mx.G.length x4, .bool mx.bad]) mx).ext (by with_reducible (repeat (first | assumption | exact Ext.refl _ | refine Ext.alloc' ?_ _ | refine Ext.store0 ?_ _ _ | refine Ext.storek ?_ _ _ _ | refine Ext.stores0 ?_ ?_ _ _ | refine Ext.storesk ?_ ?_ _ _ _ | refine Ext.drewN' ?_ _ | refine Ext.drew' ?_ | refine Ext.trans ?_ (by assumption))))) xFit no_lt (by omega) (by omega)).calls.mono ?_
              rintro e w7 ⟨_, rfl, hb7, uc, rfl, huc⟩
              rw [h10.out] at huc
              rw [HC.out, ho]
              obtain ⟨c1, c2, c3, c4, rfl, wc, gc⟩ := huc.opened
              have Bm_7 := Bm_6.ext (show Ext w6 w7 from (by with_reducible (repeat (first | assumption | exact Ext.refl _ | refine Ext.alloc' ?_ _ | refine Ext.store0 ?_ _ _ | refine Ext.storek ?_ _ _ _ | refine Ext.stores0 ?_ ?_ _ _ | refine Ext.storesk ?_ ?_ _ _ _ | refine Ext.drewN' ?_ _ | refine Ext.drew' ?_ | refine Ext.trans ?_ (by assumption)))))
              have Ba_7 := Ba_6.ext (show Ext w6 w7 from (by with_reducible (repeat (first | assumption | exact Ext.refl _ | refine Ext.alloc' ?_ _ | refine Ext.store0 ?_ _ _ | refine Ext.storek ?_ _ _ _ | refine Ext.stores0 ?_ ?_ _ _ | refine Ext.storesk ?_ ?_ _ _ _ | refine Ext.drewN' ?_ _ | refine Ext.drew' ?_ | refine Ext.trans ?_ (by assumption)))))
              have Bv_7 := Bv_6.ext (show Ext w6 w7 from (by with_reducible (repeat (first | assumption | exact Ext.refl _ | refine Ext.alloc' ?_ _ | refine Ext.store0 ?_ _ _ | refine Ext.storek ?_ _ _ _ | refine Ext.stores0 ?_ ?_ _ _ | refine Ext.storesk ?_ ?_ _ _ _ | refine Ext.drewN' ?_ _ | refine Ext.drew' ?_ | refine Ext.trans ?_ (by assumption)))))
              have Bx_7 := Bx_6.ext (show Ext w6 w7 from (by with_reducible (repeat (first | assumption | exact Ext.refl _ | refine Ext.alloc' ?_ _ | refine Ext.store0 ?_ _ _ | refine Ext.storek ?_ _ _ _ | refine Ext.stores0 ?_ ?_ _ _ | refine Ext.storesk ?_ ?_ _ _ _ | refine Ext.drewN' ?_ _ | refine Ext.drew' ?_ | refine Ext.trans ?_ (by assumption)))))
              have Bp_7 := Bp_6.ext (show Ext w6 w7 from (by with_reducible (repeat (first | assumption | exact Ext.refl _ | refine Ext.alloc' ?_ _ | refine Ext.store0 ?_ _ _ | refine Ext.storek ?_ _ _ _ | refine Ext.stores0 ?_ ?_ _ _ | refine Ext.storesk ?_ ?_ _ _ _ | refine Ext.drewN' ?_ _ | refine Ext.drew' ?_ | refine Ext.trans ?_ (by assumption)))))
              have Bl_7 := Bl_6.ext (show Ext w6 w7 from (by with_reducible (repeat (first | assumption | exact Ext.refl _ | refine Ext.alloc' ?_ _ | refine Ext.store0 ?_ _ _ | refine Ext.storek ?_ _ _ _ | refine Ext.stores0 ?_ ?_ _ _ | refine Ext.storesk ?_ ?_ _ _ _ | refine Ext.drewN' ?_ _ | refine Ext.drew' ?_ | refine Ext.trans ?_ (by assumption)))))
              clear Bm_6 zm cm0 cm1 cm2 dm0 dm1 dm2 Ba_6 za ca0 ca1 da0 da1 Bv_6 zv cv0 cv1 dv0 dv1 Bx_6 zx cx0 cx1 cx2 dx0 dx1 dx2 Bp_6 zp cp0 cp1 cp2 dp0 dp1 dp2 Bl_6 zl cl0 cl1 cl2 dl0 dl1 dl2
              obtain ⟨cm0, cm1, cm2, dm0, dm1, dm2⟩ := cells3 Bm_7
              have zm : w.heap.size < w7.heap.size := Bm_7.lt
              obtain ⟨ca0, ca1, da0, da1⟩ := cells2 Ba_7
              have za : w.heap.size + 1 < w7.heap.size := Ba_7.lt
              obtain ⟨cv0, cv1, dv0, dv1⟩ := cells2 Bv_7
              have zv : w.heap.size + 1 + 1 < w7.heap.size := Bv_7.lt
              obtain ⟨cx0, cx1, cx2, dx0, dx1, dx2⟩ := cells3 Bx_7
              have zx : bx < w7.heap.size := Bx_7.lt
              obtain ⟨cp0, cp1, cp2, dp0, dp1, dp2⟩ := cells3 Bp_7
              have zp : bp < w7.heap.size := Bp_7.lt
              obtain ⟨cl0, cl1, cl2, dl0, dl1, dl2⟩ := cells3 Bl_7
              have zl : w5.heap.size < w7.heap.size := Bl_7.lt
              go_wp2_with (fail)
              go_at_call 66
              refine (memCas_ no _ mc a1 u0 u1 _ ((IsMem.mk rfl wc gc : IsMem no w7 (.agg #[.slice c1 mc.W.length c2, .slice c3 mc.G.length c4, .bool mc.bad]) mc).ext (by with_reducible (repeat (first | assumption | exact Ext.refl _ | refine Ext.alloc' ?_ _ | refine Ext.store0 ?_ _ _ | refine Ext.storek ?_ _ _ _ | refine Ext.stores0 ?_ ?_ _ _ | refine Ext.storesk ?_ ?_ _ _ _ | refine Ext.drewN' ?_ _ | refine Ext.drew' ?_ | refine Ext.trans ?_ (by assumption))))) cFit no_lt (by omega) (by omega)).calls.mono ?_
              rintro e w8 ⟨_, rfl, hb8, ud, rfl, hud⟩
              rw [h11.out] at hud
              rw [HD.out, ho]
              obtain ⟨d1, d2, d3, d4, rfl, wd, gd⟩ := hud.opened
              have Bm_8 := Bm_7.ext (show Ext w7 w8 from (by with_reducible (repeat (first | assumption | exact Ext.refl _ | refine Ext.alloc' ?_ _ | refine Ext.store0 ?_ _ _ | refine Ext.storek ?_ _ _ _ | refine Ext.stores0 ?_ ?_ _ _ | refine Ext.storesk ?_ ?_ _ _ _ | refine Ext.drewN' ?_ _ | refine Ext.drew' ?_ | refine Ext.trans ?_ (by assumption)))))
              have Ba_8 := Ba_7.ext (show Ext w7 w8 from (by with_reducible (repeat (first | assumption | exact Ext.refl _ | refine Ext.alloc' ?_ _ | refine Ext.store0 ?_ _ _ | refine Ext.storek ?_ _ _ _ | refine Ext.stores0 ?_ ?_ _ _ | refine Ext.storesk ?_ ?_ _ _ _ | refine Ext.drewN' ?_ _ | refine Ext.drew' ?_ | refine Ext.trans ?_ (by assumption)))))
              have Bv_8 := Bv_7.ext (show Ext w7 w8 from (by with_reducible (repeat (first | assumption | exact Ext.refl _ | refine Ext.alloc' ?_ _ | refine Ext.store0 ?_ _ _ | refine Ext.storek ?_ _ _ _ | refine Ext.stores0 ?_ ?_ _ _ | refine Ext.storesk ?_ ?_ _ _ _ | refine Ext.drewN' ?_ _ | refine Ext.drew' ?_ | refine Ext.trans ?_ (by assumption)))))
              have Bx_8 := Bx_7.ext (show Ext w7 w8 from (by with_reducible (repeat (first | assumption | exact Ext.refl _ | refine Ext.alloc' ?_ _ | refine Ext.store0 ?_ _ _ | refine Ext.storek ?_ _ _ _ | refine Ext.stores0 ?_ ?_ _ _ | refine Ext.storesk ?_ ?_ _ _ _ | refine Ext.drewN' ?_ _ | refine Ext.drew' ?_ | refine Ext.trans ?_ (by assumption)))))
              have Bp_8 := Bp_7.ext (show Ext w7 w8 from (by with_reducible (repeat (first | assumption | exact Ext.refl _ | refine Ext.alloc' ?_ _ | refine Ext.store0 ?_ _ _ | refine Ext.storek ?_ _ _ _ | refine Ext.stores0 ?_ ?_ _ _ | refine Ext.storesk ?_ ?_ _ _ _ | refine Ext.drewN' ?_ _ | refine Ext.drew' ?_ | refine Ext.trans ?_ (by assumption)))))
              have Bl_8 := Bl_7.ext (show Ext w7 w8 from (by with_reducible (repeat (first | assumption | exact Ext.refl _ | refine Ext.alloc' ?_ _ | refine Ext.store0 ?_ _ _ | refine Ext.storek ?_ _ _ _ | refine Ext.stores0 ?_ ?_ _ _ | refine Ext.storesk ?_ ?_ _ _ _ | refine Ext.drewN' ?_ _ | refine Ext.drew' ?_ | refine Ext.trans ?_ (by assumption)))))
              clear Bm_7 zm cm0 cm1 cm2 dm0 dm1 dm2 Ba_7 za ca0 ca1 da0 da1 Bv_7 zv cv0 cv1 dv0 dv1 Bx_7 zx cx0 cx1 cx2 dx0 dx1 dx2 Bp_7 zp cp0 cp1 cp2 dp0 dp1 dp2 Bl_7 zl cl0 cl1 cl2 dl0 dl1 dl2
              have Bc_8 : Box w8 (w7.heap.size) #[.slice c1 mc.W.length c2, .slice c3 mc.G.length c4, .bool mc.bad] 50 := (Box.new _ _ _).ext hb8
              obtain ⟨cm0, cm1, cm2, dm0, dm1, dm2⟩ := cells3 Bm_8
              have zm : w.heap.size < w8.heap.size := Bm_8.lt
              obtain ⟨ca0, ca1, da0, da1⟩ := cells2 Ba_8
              have za : w.heap.size + 1 < w8.heap.size := Ba_8.lt
              obtain ⟨cv0, cv1, dv0, dv1⟩ := cells2 Bv_8
              have zv : w.heap.size + 1 + 1 < w8.heap.size := Bv_8.lt
              obtain ⟨cx0, cx1, cx2, dx0, dx1, dx2⟩ := cells3 Bx_8
              have zx : bx < w8.heap.size := Bx_8.lt
              obtain ⟨cp0, cp1, cp2, dp0, dp1, dp2⟩ := cells3 Bp_8
              have zp : bp < w8.heap.size := Bp_8.lt
              obtain ⟨cl0, cl1, cl2, dl0, dl1, dl2⟩ := cells3 Bl_8
              have zl : w5.heap.size < w8.heap.size := Bl_8.lt
              obtain ⟨cc0, cc1, cc2, dc0, dc1, dc2⟩ := cells3 Bc_8
              have zc : w7.heap.size < w8.heap.size := Bc_8.lt
              go_wp2
              go_ret
              exact ⟨_, rfl, (by with_reducible (repeat (first | assumption | exact Ext.refl _ | refine Ext.alloc' ?_ _ | refine Ext.store0 ?_ _ _ | refine Ext.storek ?_ _ _ _ | refine Ext.stores0 ?_ ?_ _ _ | refine Ext.storesk ?_ ?_ _ _ _ | refine Ext.drewN' ?_ _ | refine Ext.drew' ?_ | refine Ext.trans ?_ (by assumption)))), rfl⟩
            · have ho : bo = false := by rw [← ho0]; simp [outside]; omega
              have q3 : 0 ≤ a1 := by omega
              have q4 : a1 < (m.W.length : Int) := by omega
              clear ho0
              obtain rfl : u1 = z := (HL.out ho).symm
              go_wp2_with (fail)
              go_at_call 54
              refine (refSame_ no _ _ mx my _ ((IsMem.mk rfl wx gx : IsMem no w3 (.agg #[.slice x1 mx.W.length x2, .slice x3 mx.G.length x4, .bool mx.bad]) mx).ext (by with_reducible (repeat (first | assumption | exact Ext.refl _ | refine Ext.alloc' ?_ _ | refine Ext.store0 ?_ _ _ | refine Ext.storek ?_ _ _ _ | refine Ext.stores0 ?_ ?_ _ _ | refine Ext.storesk ?_ ?_ _ _ _ | refine Ext.drewN' ?_ _ | refine Ext.drew' ?_ | refine Ext.trans ?_ (by assumption))))) ((IsMem.mk rfl wp gp : IsMem no w4 (.agg #[.slice p1 my.W.length p2, .slice p3 my.G.length p4, .bool my.bad]) my).ext (by with_reducible (repeat (first | assumption | exact Ext.refl _ | refine Ext.alloc' ?_ _ | refine Ext.store0 ?_ _ _ | refine Ext.storek ?_ _ _ _ | refine Ext.stores0 ?_ ?_ _ _ | refine Ext.storesk ?_ ?_ _ _ _ | refine Ext.drewN' ?_ _ | refine Ext.drew' ?_ | refine Ext.trans ?_ (by assumption)))))).calls.mono ?_
              rintro e w6 ⟨_, rfl, hb6, rfl⟩
              rw [HS.out hne]
              have Bm_6 := Bm_5.ext (show Ext w5 w6 from (by with_reducible (repeat (first | assumption | exact Ext.refl _ | refine Ext.alloc' ?_ _ | refine Ext.store0 ?_ _ _ | refine Ext.storek ?_ _ _ _ | refine Ext.stores0 ?_ ?_ _ _ | refine Ext.storesk ?_ ?_ _ _ _ | refine Ext.drewN' ?_ _ | refine Ext.drew' ?_ | refine Ext.trans ?_ (by assumption)))))
              have Ba_6 := Ba_5.ext (show Ext w5 w6 from (by with_reducible (repeat (first | assumption | exact Ext.refl _ | refine Ext.alloc' ?_ _ | refine Ext.store0 ?_ _ _ | refine Ext.storek ?_ _ _ _ | refine Ext.stores0 ?_ ?_ _ _ | refine Ext.storesk ?_ ?_ _ _ _ | refine Ext.drewN' ?_ _ | refine Ext.drew' ?_ | refine Ext.trans ?_ (by assumption)))))
              have Bv_6 := Bv_5.ext (show Ext w5 w6 from (by with_reducible (repeat (first | assumption | exact Ext.refl _ | refine Ext.alloc' ?_ _ | refine Ext.store0 ?_ _ _ | refine Ext.storek ?_ _ _ _ | refine Ext.stores0 ?_ ?_ _ _ | refine Ext.storesk ?_ ?_ _ _ _ | refine Ext.drewN' ?_ _ | refine Ext.drew' ?_ | refine Ext.trans ?_ (by assumption)))))
              have Bx_6 := Bx_5.ext (show Ext w5 w6 from (by with_reducible (repeat (first | assumption | exact Ext.refl _ | refine Ext.alloc' ?_ _ | refine Ext.store0 ?_ _ _ | refine Ext.storek ?_ _ _ _ | refine Ext.stores0 ?_ ?_ _ _ | refine Ext.storesk ?_ ?_ _ _ _ | refine Ext.drewN' ?_ _ | refine Ext.drew' ?_ | refine Ext.trans ?_ (by assumption)))))
              have Bp_6 := Bp_5.ext (show Ext w5 w6 from (by with_reducible (repeat (first | assumption | exact Ext.refl _ | refine Ext.alloc' ?_ _ | refine Ext.store0 ?_ _ _ | refine Ext.storek ?_ _ _ _ | refine Ext.stores0 ?_ ?_ _ _ | refine Ext.storesk ?_ ?_ _ _ _ | refine Ext.drewN' ?_ _ | refine Ext.drew' ?_ | refine Ext.trans ?_ (by assumption)))))
              clear Bm_5 zm cm0 cm1 cm2 dm0 dm1 dm2 Ba_5 za ca0 ca1 da0 da1 Bv_5 zv cv0 cv1 dv0 dv1 Bx_5 zx cx0 cx1 cx2 dx0 dx1 dx2 Bp_5 zp cp0 cp1 cp2 dp0 dp1 dp2
              have Bl_6 : Box w6 (w5.heap.size) #[.slice l1 ml.W.length l2, .slice l3 ml.G.length l4, .bool ml.bad] 50 := (Box.new _ _ _).ext hb6
              obtain ⟨cm0, cm1, cm2, dm0, dm1, dm2⟩ := cells3 Bm_6
              have zm : w.heap.size < w6.heap.size := Bm_6.lt
              obtain ⟨ca0, ca1, da0, da1⟩ := cells2 Ba_6
              have za : w.heap.size + 1 < w6.heap.size := Ba_6.lt
              obtain ⟨cv0, cv1, dv0, dv1⟩ := cells2 Bv_6
              have zv : w.heap.size + 1 + 1 < w6.heap.size := Bv_6.lt
              obtain ⟨cx0, cx1, cx2, dx0, dx1, dx2⟩ := cells3 Bx_6
              have zx : bx < w6.heap.size := Bx_6.lt
              obtain ⟨cp0, cp1, cp2, dp0, dp1, dp2⟩ := cells3 Bp_6
              have zp : bp < w6.heap.size := Bp_6.lt
              obtain ⟨cl0, cl1, cl2, dl0, dl1, dl2⟩ := cells3 Bl_6
              have zl : w5.heap.size < w6.heap.size := Bl_6.lt
              go_wp2_with (fail)
              go_at_call 66
              refine (memCas_ no _ mx a1 u1 u0 _ ((IsMem.mk rfl wx gx : IsMem no w3 (.agg #[.slice x1 mx.W.length x2, .slice x3 mx.G.length x4, .bool mx.bad]) mx).ext (by with_reducible (repeat (first | assumption | exact Ext.refl _ | refine Ext.alloc' ?_ _ | refine Ext.store0 ?_ _ _ | refine Ext.storek ?_ _ _ _ | refine Ext.stores0 ?_ ?_ _ _ | refine Ext.storesk ?_ ?_ _ _ _ | refine Ext.drewN' ?_ _ | refine Ext.drew' ?_ | refine Ext.trans ?_ (by assumption))))) xFit no_lt (by omega) (by omega)).calls.mono ?_
              rintro e w7 ⟨_, rfl, hb7, uc, rfl, huc⟩
              rw [h10.out] at huc
              rw [HC.out, ho]
              obtain ⟨c1, c2, c3, c4, rfl, wc, gc⟩ := huc.opened
              have Bm_7 := Bm_6.ext (show Ext w6 w7 from (by with_reducible (repeat (first | assumption | exact Ext.refl _ | refine Ext.alloc' ?_ _ | refine Ext.store0 ?_ _ _ | refine Ext.storek ?_ _ _ _ | refine Ext.stores0 ?_ ?_ _ _ | refine Ext.storesk ?_ ?_ _ _ _ | refine Ext.drewN' ?_ _ | refine Ext.drew' ?_ | refine Ext.trans ?_ (by assumption)))))
              have Ba_7 := Ba_6.ext (show Ext w6 w7 from (by with_reducible (repeat (first | assumption | exact Ext.refl _ | refine Ext.alloc' ?_ _ | refine Ext.store0 ?_ _ _ | refine Ext.storek ?_ _ _ _ | refine Ext.stores0 ?_ ?_ _ _ | refine Ext.storesk ?_ ?_ _ _ _ | refine Ext.drewN' ?_ _ | refine Ext.drew' ?_ | refine Ext.trans ?_ (by assumption)))))
              have Bv_7 := Bv_6.ext (show Ext w6 w7 from (by with_reducible (repeat (first | assumption | exact Ext.refl _ | refine Ext.alloc' ?_ _ | refine Ext.store0 ?_ _ _ | refine Ext.storek ?_ _ _ _ | refine Ext.stores0 ?_ ?_ _ _ | refine Ext.storesk ?_ ?_ _ _ _ | refine Ext.drewN' ?_ _ | refine Ext.drew' ?_ | refine Ext.trans ?_ (by assumption)))))
              have Bx_7 := Bx_6.ext (show Ext w6 w7 from (by with_reducible (repeat (first | assumption | exact Ext.refl _ | refine Ext.alloc' ?_ _ | refine Ext.store0 ?_ _ _ | refine Ext.storek ?_ _ _ _ | refine Ext.stores0 ?_ ?_ _ _ | refine Ext.storesk ?_ ?_ _ _ _ | refine Ext.drewN' ?_ _ | refine Ext.drew' ?_ | refine Ext.trans ?_ (by assumption)))))
              have Bp_7 := Bp_6.ext (show Ext w6 w7 from (by with_reducible (repeat (first | assumption | exact Ext.refl _ | refine Ext.alloc' ?_ _ | refine Ext.store0 ?_ _ _ | refine Ext.storek ?_ _ _ _ | refine Ext.stores0 ?_ ?_ _ _ | refine Ext.storesk ?_ ?_ _ _ _ | refine Ext.drewN' ?_ _ | refine Ext.drew' ?_ | refine Ext.trans ?_ (by assumption)))))
              have Bl_7 := Bl_6.ext (show Ext w6 w7 from (by with_reducible (repeat (first | assumption | exact Ext.refl _ | refine Ext.alloc' ?_ _ | refine Ext.store0 ?_ _ _ | refine Ext.storek ?_ _ _ _ | refine Ext.stores0 ?_ ?_ _ _ | refine Ext.storesk ?_ ?_ _ _ _ | refine Ext.drewN' ?_ _ | refine Ext.drew' ?_ | refine Ext.trans ?_ (by assumption)))))
              clear Bm_6 zm cm0 cm1 cm2 dm0 dm1 dm2 Ba_6 za ca0 ca1 da0 da1 Bv_6 zv cv0 cv1 dv0 dv1 Bx_6 zx cx0 cx1 cx2 dx0 dx1 dx2 Bp_6 zp cp0 cp1 cp2 dp0 dp1 dp2 Bl_6 zl cl0 cl1 cl2 dl0 dl1 dl2
              obtain ⟨cm0, cm1, cm2, dm0, dm1, dm2⟩ := cells3 Bm_7
              have zm : w.heap.size < w7.heap.size := Bm_7.lt
              obtain ⟨ca0, ca1, da0, da1⟩ := cells2 Ba_7
              have za : w.heap.size + 1 < w7.heap.size := Ba_7.lt
              obtain ⟨cv0, cv1, dv0, dv1⟩ := cells2 Bv_7
              have zv : w.heap.size + 1 + 1 < w7.heap.size := Bv_7.lt
              obtain ⟨cx0, cx1, cx2, dx0, dx1, dx2⟩ := cells3 Bx_7
              have zx : bx < w7.heap.size := Bx_7.lt
              obtain ⟨cp0, cp1, cp2, dp0, dp1, dp2⟩ := cells3 Bp_7
              have zp : bp < w7.heap.size := Bp_7.lt
              obtain ⟨cl0, cl1, cl2, dl0, dl1, dl2⟩ := cells3 Bl_7
              have zl : w5.heap.size < w7.heap.size := Bl_7.lt
              go_wp2_with (fail)
              go_at_call 66
              refine (memCas_ no _ mc a1 u0 u1 _ ((IsMem.mk rfl wc gc : IsMem no w7 (.agg #[.slice c1 mc.W.length c2, .slice c3 mc.G.length c4, .bool mc.bad]) mc).ext (by with_reducible (repeat (first | assumption | exact Ext.refl _ | refine Ext.alloc' ?_ _ | refine Ext.store0 ?_ _ _ | refine Ext.storek ?_ _ _ _ | refine Ext.stores0 ?_ ?_ _ _ | refine Ext.storesk ?_ ?_ _ _ _ | refine Ext.drewN' ?_ _ | refine Ext.drew' ?_ | refine Ext.trans ?_ (by assumption))))) cFit no_lt (by omega) (by omega)).calls.mono ?_
              rintro e w8 ⟨_, rfl, hb8, ud, rfl, hud⟩
              rw [h11.out] at hud
              rw [HD.out, ho]
              obtain ⟨d1, d2, d3, d4, rfl, wd, gd⟩ := hud.opened
              have Bm_8 := Bm_7.ext (show Ext w7 w8 from (by with_reducible (repeat (first | assumption | exact Ext.refl _ | refine Ext.alloc' ?_ _ | refine Ext.store0 ?_ _ _ | refine Ext.storek ?_ _ _ _ | refine Ext.stores0 ?_ ?_ _ _ | refine Ext.storesk ?_ ?_ _ _ _ | refine Ext.drewN' ?_ _ | refine Ext.drew' ?_ | refine Ext.trans ?_ (by assumption)))))
              have Ba_8 := Ba_7.ext (show Ext w7 w8 from (by with_reducible (repeat (first | assumption | exact Ext.refl _ | refine Ext.alloc' ?_ _ | refine Ext.store0 ?_ _ _ | refine Ext.storek ?_ _ _ _ | refine Ext.stores0 ?_ ?_ _ _ | refine Ext.storesk ?_ ?_ _ _ _ | refine Ext.drewN' ?_ _ | refine Ext.drew' ?_ | refine Ext.trans ?_ (by assumption)))))
              have Bv_8 := Bv_7.ext (show Ext w7 w8 from (by with_reducible (repeat (first | assumption | exact Ext.refl _ | refine Ext.alloc' ?_ _ | refine Ext.store0 ?_ _ _ | refine Ext.storek ?_ _ _ _ | refine Ext.stores0 ?_ ?_ _ _ | refine Ext.storesk ?_ ?_ _ _ _ | refine Ext.drewN' ?_ _ | refine Ext.drew' ?_ | refine Ext.trans ?_ (by assumption)))))
              have Bx_8 := Bx_7.ext (show Ext w7 w8 from (by with_reducible (repeat (first | assumption | exact Ext.refl _ | refine Ext.alloc' ?_ _ | refine Ext.store0 ?_ _ _ | refine Ext.storek ?_ _ _ _ | refine Ext.stores0 ?_ ?_ _ _ | refine Ext.storesk ?_ ?_ _ _ _ | refine Ext.drewN' ?_ _ | refine Ext.drew' ?_ | refine Ext.trans ?_ (by assumption)))))
              have Bp_8 := Bp_7.ext (show Ext w7 w8 from (by with_reducible (repeat (first | assumption | exact Ext.refl _ | refine Ext.alloc' ?_ _ | refine Ext.store0 ?_ _ _ | refine Ext.storek ?_ _ _ _ | refine Ext.stores0 ?_ ?_ _ _ | refine Ext.storesk ?_ ?_ _ _ _ | refine Ext.drewN' ?_ _ | refine Ext.drew' ?_ | refine Ext.trans ?_ (by assumption)))))
              have Bl_8 := Bl_7.ext (show Ext w7 w8 from (by with_reducible (repeat (first | assumption | exact Ext.refl _ | refine Ext.alloc' ?_ _ | refine Ext.store0 ?_ _ _ | refine Ext.storek ?_ _ _ _ | refine Ext.stores0 ?_ ?_ _ _ | refine Ext.storesk ?_ ?_ _ _ _ | refine Ext.drewN' ?_ _ | refine Ext.drew' ?_ | refine Ext.trans ?_ (by assumption)))))
              clear Bm_7 zm cm0 cm1 cm2 dm0 dm1 dm2 Ba_7 za ca0 ca1 da0 da1 Bv_7 zv cv0 cv1 dv0 dv1 Bx_7 zx cx0 cx1 cx2 dx0 dx1 dx2 Bp_7 zp cp0 cp1 cp2 dp0 dp1 dp2 Bl_7 zl cl0 cl1 cl2 dl0 dl1 dl2
              have Bc_8 : Box w8 (w7.heap.size) #[.slice c1 mc.W.length c2, .slice c3 mc.G.length c4, .bool mc.bad] 50 := (Box.new _ _ _).ext hb8
              obtain ⟨cm0, cm1, cm2, dm0, dm1, dm2⟩ := cells3 Bm_8
              have zm : w.heap.size < w8.heap.size := Bm_8.lt
              obtain ⟨ca0, ca1, da0, da1⟩ := cells2 Ba_8
              have za : w.heap.size + 1 < w8.heap.size := Ba_8.lt
              obtain ⟨cv0, cv1, dv0, dv1⟩ := cells2 Bv_8
              have zv : w.heap.size + 1 + 1 < w8.heap.size := Bv_8.lt
              obtain ⟨cx0, cx1, cx2, dx0, dx1, dx2⟩ := cells3 Bx_8
              have zx : bx < w8.heap.size := Bx_8.lt
              obtain ⟨cp0, cp1, cp2, dp0, dp1, dp2⟩ := cells3 Bp_8
              have zp : bp < w8.heap.size := Bp_8.lt
              obtain ⟨cl0, cl1, cl2, dl0, dl1, dl2⟩ := cells3 Bl_8
              have zl : w5.heap.size < w8.heap.size := Bl_8.lt
              obtain ⟨cc0, cc1, cc2, dc0, dc1, dc2⟩ := cells3 Bc_8
              have zc : w7.heap.size < w8.heap.size := Bc_8.lt
              go_wp2_with (fail)
              go_at_call 72
              refine (refInts_ no _ _ md.W mx.W _ (wd.ext (by with_reducible (repeat (first | assumption | exact Ext.refl _ | refine Ext.alloc' ?_ _ | refine Ext.store0 ?_ _ _ | refine Ext.storek ?_ _ _ _ | refine Ext.stores0 ?_ ?_ _ _ | refine Ext.storesk ?_ ?_ _ _ _ | refine Ext.drewN' ?_ _ | refine Ext.drew' ?_ | refine Ext.trans ?_ (by assumption))))) (wx.ext (by with_reducible (repeat (first | assumption | exact Ext.refl _ | refine Ext.alloc' ?_ _ | refine Ext.store0 ?_ _ _ | refine Ext.storek ?_ _ _ _ | refine Ext.stores0 ?_ ?_ _ _ | refine Ext.storesk ?_ ?_ _ _ _ | refine Ext.drewN' ?_ _ | refine Ext.drew' ?_ | refine Ext.trans ?_ (by assumption)))))).calls.mono ?_
              rintro e w9 ⟨_, rfl, hb9, rfl⟩
              rw [HW.out ho, show (mx.W == mx.W) = true by simp]
              have Bm_9 := Bm_8.ext (show Ext w8 w9 from (by with_reducible (repeat (first | assumption | exact Ext.refl _ | refine Ext.alloc' ?_ _ | refine Ext.store0 ?_ _ _ | refine Ext.storek ?_ _ _ _ | refine Ext.stores0 ?_ ?_ _ _ | refine Ext.storesk ?_ ?_ _ _ _ | refine Ext.drewN' ?_ _ | refine Ext.drew' ?_ | refine Ext.trans ?_ (by assumption)))))
              have Ba_9 := Ba_8.ext (show Ext w8 w9 from (by with_reducible (repeat (first | assumption | exact Ext.refl _ | refine Ext.alloc' ?_ _ | refine Ext.store0 ?_ _ _ | refine Ext.storek ?_ _ _ _ | refine Ext.stores0 ?_ ?_ _ _ | refine Ext.storesk ?_ ?_ _ _ _ | refine Ext.drewN' ?_ _ | refine Ext.drew' ?_ | refine Ext.trans ?_ (by assumption)))))
              have Bv_9 := Bv_8.ext (show Ext w8 w9 from (by with_reducible (repeat (first | assumption | exact Ext.refl _ | refine Ext.alloc' ?_ _ | refine Ext.store0 ?_ _ _ | refine Ext.storek ?_ _ _ _ | refine Ext.stores0 ?_ ?_ _ _ | refine Ext.storesk ?_ ?_ _ _ _ | refine Ext.drewN' ?_ _ | refine Ext.drew' ?_ | refine Ext.trans ?_ (by assumption)))))
              have Bx_9 := Bx_8.ext (show Ext w8 w9 from (by with_reducible (repeat (first | assumption | exact Ext.refl _ | refine Ext.alloc' ?_ _ | refine Ext.store0 ?_ _ _ | refine Ext.storek ?_ _ _ _ | refine Ext.stores0 ?_ ?_ _ _ | refine Ext.storesk ?_ ?_ _ _ _ | refine Ext.drewN' ?_ _ | refine Ext.drew' ?_ | refine Ext.trans ?_ (by assumption)))))
              have Bp_9 := Bp_8.ext (show Ext w8 w9 from (by with_reducible (repeat (first | assumption | exact Ext.refl _ | refine Ext.alloc' ?_ _ | refine Ext.store0 ?_ _ _ | refine Ext.storek ?_ _ _ _ | refine Ext.stores0 ?_ ?_ _ _ | refine Ext.storesk ?_ ?_ _ _ _ | refine Ext.drewN' ?_ _ | refine Ext.drew' ?_ | refine Ext.trans ?_ (by assumption)))))
              have Bl_9 := Bl_8.ext (show Ext w8 w9 from (by with_reducible (repeat (first | assumption | exact Ext.refl _ | refine Ext.alloc' ?_ _ | refine Ext.store0 ?_ _ _ | refine Ext.storek ?_ _ _ _ | refine Ext.stores0 ?_ ?_ _ _ | refine Ext.storesk ?_ ?_ _ _ _ | refine Ext.drewN' ?_ _ | refine Ext.drew' ?_ | refine Ext.trans ?_ (by assumption)))))
              have Bc_9 := Bc_8.ext (show Ext w8 w9 from (by with_reducible (repeat (first | assumption | exact Ext.refl _ | refine Ext.alloc' ?_ _ | refine Ext.store0 ?_ _ _ | refine Ext.storek ?_ _ _ _ | refine Ext.stores0 ?_ ?_ _ _ | refine Ext.storesk ?_ ?_ _ _ _ | refine Ext.drewN' ?_ _ | refine Ext.drew' ?_ | refine Ext.trans ?_ (by assumption)))))
              clear Bm_8 zm cm0 cm1 cm2 dm0 dm1 dm2 Ba_8 za ca0 ca1 da0 da1 Bv_8 zv cv0 cv1 dv0 dv1 Bx_8 zx cx0 cx1 cx2 dx0 dx1 dx2 Bp_8 zp cp0 cp1 cp2 dp0 dp1 dp2 Bl_8 zl cl0 cl1 cl2 dl0 dl1 dl2 Bc_8 zc cc0 cc1 cc2 dc0 dc1 dc2
              have Bd_9 : Box w9 (w8.heap.size) #[.slice d1 md.W.length d2, .slice d3 md.G.length d4, .bool md.bad] 50 := (Box.new _ _ _).ext hb9
              obtain ⟨cm0, cm1, cm2, dm0, dm1, dm2⟩ := cells3 Bm_9
              have zm : w.heap.size < w9.heap.size := Bm_9.lt
              obtain ⟨ca0, ca1, da0, da1⟩ := cells2 Ba_9
              have za : w.heap.size + 1 < w9.heap.size := Ba_9.lt
              obtain ⟨cv0, cv1, dv0, dv1⟩ := cells2 Bv_9
              have zv : w.heap.size + 1 + 1 < w9.heap.size := Bv_9.lt
              obtain ⟨cx0, cx1, cx2, dx0, dx1, dx2⟩ := cells3 Bx_9
              have zx : bx < w9.heap.size := Bx_9.lt
              obtain ⟨cp0, cp1, cp2, dp0, dp1, dp2⟩ := cells3 Bp_9
              have zp : bp < w9.heap.size := Bp_9.lt
              obtain ⟨cl0, cl1, cl2, dl0, dl1, dl2⟩ := cells3 Bl_9
              have zl : w5.heap.size < w9.heap.size := Bl_9.lt
              obtain ⟨cc0, cc1, cc2, dc0, dc1, dc2⟩ := cells3 Bc_9
              have zc : w7.heap.size < w9.heap.size := Bc_9.lt
              obtain ⟨cd0, cd1, cd2, dd0, dd1, dd2⟩ := cells3 Bd_9
              have zd : w8.heap.size < w9.heap.size := Bd_9.lt
              go_wp2
              go_ret
              exact ⟨_, rfl, (by with_reducible (repeat (first | assumption | exact Ext.refl _ | refine Ext.alloc' ?_ _ | refine Ext.store0 ?_ _ _ | refine Ext.storek ?_ _ _ _ | refine Ext.stores0 ?_ ?_ _ _ | refine Ext.storesk ?_ ?_ _ _ _ | refine Ext.drewN' ?_ _ | refine Ext.drew' ?_ | refine Ext.trans ?_ (by assumption)))), rfl⟩
end Go.Proofs.Ytcfbdfgondmkoaa
