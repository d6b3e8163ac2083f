/- MemGuards: its walk. -/
import Derived.Test.YtcfbdfgondmkoaaDat2
namespace Go.Proofs.Ytcfbdfgondmkoaa
open Go Go.RowKit
set_option linter.unusedSimpArgs false
set_option linter.unusedVariables false
set_option linter.unnecessarySimpa false

set_option maxHeartbeats 1000000 in
set_option maxRecDepth 100000 in
theorem memGuards_a (aw ag : Option Addr) (cw cg : Nat) (m : Arena) (x y : Int) (i k : Nat) (w : World) (hw : IsInts no w (.slice aw m.W.length cw) m.W) (hg : IsInts no w (.slice ag m.G.length cg) m.G) (hb : false = m.bad) (hm : mayD m 60 = true)
    (hi : 1 + x % ((m.G.length : Int) - 1) = i) (hi1 : 1 ≤ i) (hi2 : i < m.G.length) (hk : y % 4 = (k : Int)) (hk4 : k < 4) (hx0 : 0 ≤ x) (hx1 : x ≤ 255) (hy0 : 0 ≤ y) (hy1 : y ≤ 255) (hq : 0 < k) (hq0 : gi m.G i = 0) :
    Gives Proofs.Try.prog 14 #[.agg #[.slice aw m.W.length cw, .slice ag m.G.length cg, .bool false], .int .u8 x, .int .u8 y] w (eqv (.bool true)) := by
  have km := fun (w' : World) (e : Ext w w') => memMay_ no _ m 60 (by omega) w' ((IsMem.mk hb hw hg : IsMem no w (.agg #[.slice aw m.W.length cw, .slice ag m.G.length cg, .bool false]) m).ext e)
  rw [hm] at km
  have hFit := Fits.of_may hm
  have hl3 := hFit.2.2
  have HL := Lib.hid hFit.1
  obtain ⟨_, _, e0, rg, lg, cgc⟩ := hg.opened
  cases e0
  obtain ⟨ba, oa, rfl, xa, na, ea⟩ := cgc i hi2
  have g0 : (gi m.G i == 0) = true := by simp [hq0]
  have hz : ((m.G.length : Int) - 1 == 0) = false := by simp; omega
  obtain ⟨yy, hyy⟩ : ∃ yy, (128 : Int) + 4 * ((i : Int) - 1) + (k : Int) = yy := ⟨_, rfl⟩
  have fb : badAt m yy = true := by rw [← hyy, show (128 : Int) + 4 * ((i : Int) - 1) + (k : Int) = 128 + 4 * ((i : Int) - 1) + ((k : Nat) : Int) from rfl, badAt_at hFit hi1 hi2 (by omega), ← hb]; simp [hq, hq0]
  have fn : nodeD m.W.length yy = (i : Int) := by rw [← hyy, show (128 : Int) + 4 * ((i : Int) - 1) + (k : Int) = 128 + 4 * ((i : Int) - 1) + ((k : Nat) : Int) from rfl, nodeD_at hFit hi1 hi2 (by omega)]; rw [if_neg (by omega)]
  have ft : turnIs m i 1 = true := by rw [turnIs_live hi1 hi2]; simp [hq0]
  have ftb : (turnMD m i 1).bad = false := by rw [turnMD_bad, ft, ← hb]; rfl
  have fd : badAt (turnMD m i 1) yy = false := by
    rw [← hyy, show (128 : Int) + 4 * ((i : Int) - 1) + (k : Int) = 128 + 4 * ((i : Int) - 1) + ((k : Nat) : Int) from rfl, badAt_at (hFit.same (turnMD_len _ _ _)) hi1 (by rw [(turnMD_len _ _ _).2]; exact hi2) (by omega), ftb]
    have e : gi (turnMD m i 1).G i = 1 := by unfold turnMD; rw [ft]; simp [gi_set _ _ _ _ hi2]
    rw [e]; simp
  have fr : badAt m (k : Int) = false := (badAt_root hFit (k := k) (by omega)).trans hb.symm
  have y0 : -1000000 ≤ yy := by omega
  have y1 : yy ≤ 1000000 := by omega
  have HY := Lib.hid hyy
  have H := Lib.hid (And.intro fb (And.intro fn (And.intro ftb (And.intro fd fr))))
  have HB := Lib.hid hb
  clear hb hyy fb fn ft ftb fd fr
  go_enter Proofs.Try.func14, Proofs.Try.ntmps14
  go_wp2_with (fail)
  go_at_call 49
  refine (shown2_ _).calls.mono ?_
  rintro e w1 ⟨_, rfl, hb1, rfl⟩
  have Bm_1 : Box w1 (w.heap.size) #[.slice aw m.W.length cw, .slice (some ⟨ba, oa, none⟩) m.G.length cg, .bool false] 50 := (Box.new _ _ _).ext hb1
  obtain ⟨cm0, cm1, cm2, dm0, dm1, dm2⟩ := cells3 Bm_1
  have zm : w.heap.size < w1.heap.size := Bm_1.lt
  go_wp2_with (fail)
  go_at_call 63
  refine (km _ (by with_reducible (repeat (first | assumption | exact Ext.refl _ | refine Ext.alloc' ?_ _ | refine Ext.store0 ?_ _ _ | refine Ext.storek ?_ _ _ _ | refine Ext.stores0 ?_ ?_ _ _ | refine Ext.storesk ?_ ?_ _ _ _ | refine Ext.drewN' ?_ _ | refine Ext.drew' ?_ | refine Ext.trans ?_ (by assumption))))).calls.mono ?_
  rintro e w2 ⟨_, rfl, hb2, rfl⟩
  have Bm_2 := Bm_1.ext (show Ext w1 w2 from (by with_reducible (repeat (first | assumption | exact Ext.refl _ | refine Ext.alloc' ?_ _ | refine Ext.store0 ?_ _ _ | refine Ext.storek ?_ _ _ _ | refine Ext.stores0 ?_ ?_ _ _ | refine Ext.storesk ?_ ?_ _ _ _ | refine Ext.drewN' ?_ _ | refine Ext.drew' ?_ | refine Ext.trans ?_ (by assumption)))))
  clear Bm_1 zm cm0 cm1 cm2 dm0 dm1 dm2
  obtain ⟨cm0, cm1, cm2, dm0, dm1, dm2⟩ := cells3 Bm_2
  have zm : w.heap.size < w2.heap.size := Bm_2.lt
  have ea1 := cell_ext ea (show Ext w w2 from (by with_reducible (repeat (first | assumption | exact Ext.refl _ | refine Ext.alloc' ?_ _ | refine Ext.store0 ?_ _ _ | refine Ext.storek ?_ _ _ _ | refine Ext.stores0 ?_ ?_ _ _ | refine Ext.storesk ?_ ?_ _ _ _ | refine Ext.drewN' ?_ _ | refine Ext.drew' ?_ | refine Ext.trans ?_ (by assumption)))))
  go_wp2_with (fail)
  go_at_call 57
  refine (atF_ i (k : Int) _ (by omega) (by omega) (by omega) (by omega)).calls.mono ?_
  rintro e w3 ⟨_, rfl, hb3, rfl⟩
  rw [HY.out]
  have Bm_3 := Bm_2.ext (show Ext w2 w3 from (by with_reducible (repeat (first | assumption | exact Ext.refl _ | refine Ext.alloc' ?_ _ | refine Ext.store0 ?_ _ _ | refine Ext.storek ?_ _ _ _ | refine Ext.stores0 ?_ ?_ _ _ | refine Ext.storesk ?_ ?_ _ _ _ | refine Ext.drewN' ?_ _ | refine Ext.drew' ?_ | refine Ext.trans ?_ (by assumption)))))
  clear Bm_2 zm cm0 cm1 cm2 dm0 dm1 dm2
  obtain ⟨cm0, cm1, cm2, dm0, dm1, dm2⟩ := cells3 Bm_3
  have zm : w.heap.size < w3.heap.size := Bm_3.lt
  obtain ⟨ma, hma⟩ : ∃ ma, touchD m yy = ma := ⟨_, rfl⟩
  obtain ⟨mc, hmc⟩ : ∃ mc, casD m yy 0 0 = mc := ⟨_, rfl⟩
  obtain ⟨ms, hms⟩ : ∃ ms, storeD m yy 5 = ms := ⟨_, rfl⟩
  obtain ⟨mt, hmt⟩ : ∃ mt, turnMD m i 1 = mt := ⟨_, rfl⟩
  obtain ⟨md, hmd⟩ : ∃ md, touchD mt yy = md := ⟨_, rfl⟩
  obtain ⟨mr, hmr⟩ : ∃ mr, touchD m (k : Int) = mr := ⟨_, rfl⟩
  have HH := Lib.hid (And.intro hma (And.intro hmc (And.intro hms (And.intro hmt (And.intro hmd hmr)))))
  clear hma hmc hms hmt hmd hmr
  go_wp2_with (fail)
  go_at_call 64
  refine (memLoad_ no _ m yy _ ((IsMem.mk HB.out hw hg : IsMem no w (.agg #[.slice aw m.W.length cw, .slice (some ⟨ba, oa, none⟩) m.G.length cg, .bool false]) m).ext (by with_reducible (repeat (first | assumption | exact Ext.refl _ | refine Ext.alloc' ?_ _ | refine Ext.store0 ?_ _ _ | refine Ext.storek ?_ _ _ _ | refine Ext.stores0 ?_ ?_ _ _ | refine Ext.storesk ?_ ?_ _ _ _ | refine Ext.drewN' ?_ _ | refine Ext.drew' ?_ | refine Ext.trans ?_ (by assumption))))) hFit no_lt (by omega) (by omega)).calls.mono ?_
  rintro e w4 ⟨_, rfl, hb4, ua, rfl, hua⟩
  rw [HH.out.1] at hua
  obtain ⟨a1, a2, a3, a4, rfl, wa, ga⟩ := hua.lit rfl rfl (show ma.bad = true from by rw [← HH.out.1]; exact H.out.1)
  have Bm_4 := Bm_3.ext (show Ext w3 w4 from (by with_reducible (repeat (first | assumption | exact Ext.refl _ | refine Ext.alloc' ?_ _ | refine Ext.store0 ?_ _ _ | refine Ext.storek ?_ _ _ _ | refine Ext.stores0 ?_ ?_ _ _ | refine Ext.storesk ?_ ?_ _ _ _ | refine Ext.drewN' ?_ _ | refine Ext.drew' ?_ | refine Ext.trans ?_ (by assumption)))))
  clear Bm_3 zm cm0 cm1 cm2 dm0 dm1 dm2
  obtain ⟨cm0, cm1, cm2, dm0, dm1, dm2⟩ := cells3 Bm_4
  have zm : w.heap.size < w4.heap.size := Bm_4.lt
  go_wp2_with (fail)
  go_at_call 66
  refine (memCas_ no _ m yy 0 0 _ ((IsMem.mk HB.out hw hg : IsMem no w (.agg #[.slice aw m.W.length cw, .slice (some ⟨ba, oa, none⟩) m.G.length cg, .bool false]) m).ext (by with_reducible (repeat (first | assumption | exact Ext.refl _ | refine Ext.alloc' ?_ _ | refine Ext.store0 ?_ _ _ | refine Ext.storek ?_ _ _ _ | refine Ext.stores0 ?_ ?_ _ _ | refine Ext.storesk ?_ ?_ _ _ _ | refine Ext.drewN' ?_ _ | refine Ext.drew' ?_ | refine Ext.trans ?_ (by assumption))))) hFit no_lt (by omega) (by omega)).calls.mono ?_
  rintro e w5 ⟨_, rfl, hb5, uc, rfl, huc⟩
  rw [HH.out.2.1] at huc
  obtain ⟨c1, c2, c3, c4, rfl, wc, gc⟩ := huc.lit rfl rfl (show mc.bad = true from by rw [← HH.out.2.1, casD_bad]; exact H.out.1)
  have Bm_5 := Bm_4.ext (show Ext w4 w5 from (by with_reducible (repeat (first | assumption | exact Ext.refl _ | refine Ext.alloc' ?_ _ | refine Ext.store0 ?_ _ _ | refine Ext.storek ?_ _ _ _ | refine Ext.stores0 ?_ ?_ _ _ | refine Ext.storesk ?_ ?_ _ _ _ | refine Ext.drewN' ?_ _ | refine Ext.drew' ?_ | refine Ext.trans ?_ (by assumption)))))
  clear Bm_4 zm cm0 cm1 cm2 dm0 dm1 dm2
  have Ba_5 : Box w5 (w4.heap.size) #[.slice a1 ma.W.length a2, .slice a3 ma.G.length a4, .bool true] 50 := (Box.new _ _ _).ext hb5
  obtain ⟨cm0, cm1, cm2, dm0, dm1, dm2⟩ := cells3 Bm_5
  have zm : w.heap.size < w5.heap.size := Bm_5.lt
  obtain ⟨ca0, ca1, ca2, da0, da1, da2⟩ := cells3 Ba_5
  have za : w4.heap.size < w5.heap.size := Ba_5.lt
  go_wp2_with (fail)
  go_at_call 68
  refine (memStore_ no _ m yy 5 _ ((IsMem.mk HB.out hw hg : IsMem no w (.agg #[.slice aw m.W.length cw, .slice (some ⟨ba, oa, none⟩) m.G.length cg, .bool false]) m).ext (by with_reducible (repeat (first | assumption | exact Ext.refl _ | refine Ext.alloc' ?_ _ | refine Ext.store0 ?_ _ _ | refine Ext.storek ?_ _ _ _ | refine Ext.stores0 ?_ ?_ _ _ | refine Ext.storesk ?_ ?_ _ _ _ | refine Ext.drewN' ?_ _ | refine Ext.drew' ?_ | refine Ext.trans ?_ (by assumption))))) hFit no_lt (by omega) (by omega)).calls.mono ?_
  rintro e w6 ⟨_, rfl, hb6, hus⟩
  rw [HH.out.2.2.1] at hus
  obtain ⟨s1, s2, s3, s4, rfl, ws, gs⟩ := hus.lit rfl rfl (show ms.bad = true from by rw [← HH.out.2.2.1]; exact H.out.1)
  have Bm_6 := Bm_5.ext (show Ext w5 w6 from (by with_reducible (repeat (first | assumption | exact Ext.refl _ | refine Ext.alloc' ?_ _ | refine Ext.store0 ?_ _ _ | refine Ext.storek ?_ _ _ _ | refine Ext.stores0 ?_ ?_ _ _ | refine Ext.storesk ?_ ?_ _ _ _ | refine Ext.drewN' ?_ _ | refine Ext.drew' ?_ | refine Ext.trans ?_ (by assumption)))))
  have Ba_6 := Ba_5.ext (show Ext w5 w6 from (by with_reducible (repeat (first | assumption | exact Ext.refl _ | refine Ext.alloc' ?_ _ | refine Ext.store0 ?_ _ _ | refine Ext.storek ?_ _ _ _ | refine Ext.stores0 ?_ ?_ _ _ | refine Ext.storesk ?_ ?_ _ _ _ | refine Ext.drewN' ?_ _ | refine Ext.drew' ?_ | refine Ext.trans ?_ (by assumption)))))
  clear Bm_5 zm cm0 cm1 cm2 dm0 dm1 dm2 Ba_5 za ca0 ca1 ca2 da0 da1 da2
  have Bc_6 : Box w6 (w5.heap.size) #[.slice c1 mc.W.length c2, .slice c3 mc.G.length c4, .bool true] 50 := (Box.new _ _ _).ext hb6
  obtain ⟨cm0, cm1, cm2, dm0, dm1, dm2⟩ := cells3 Bm_6
  have zm : w.heap.size < w6.heap.size := Bm_6.lt
  obtain ⟨ca0, ca1, ca2, da0, da1, da2⟩ := cells3 Ba_6
  have za : w4.heap.size < w6.heap.size := Ba_6.lt
  obtain ⟨cc0, cc1, cc2, dc0, dc1, dc2⟩ := cells3 Bc_6
  have zc : w5.heap.size < w6.heap.size := Bc_6.lt
  have ea2 := cell_ext ea (show Ext w w6 from (by with_reducible (repeat (first | assumption | exact Ext.refl _ | refine Ext.alloc' ?_ _ | refine Ext.store0 ?_ _ _ | refine Ext.storek ?_ _ _ _ | refine Ext.stores0 ?_ ?_ _ _ | refine Ext.storesk ?_ ?_ _ _ _ | refine Ext.drewN' ?_ _ | refine Ext.drew' ?_ | refine Ext.trans ?_ (by assumption)))))
  have zg : ba < w6.heap.size := World.block_lt_of_cell? _ _ ea2
  go_wp2_with (fail)
  go_at_call 70
  refine (memTurn_ no _ m i 1 _ ((IsMem.mk HB.out hw hg : IsMem no w (.agg #[.slice aw m.W.length cw, .slice (some ⟨ba, oa, none⟩) m.G.length cg, .bool false]) m).ext (by with_reducible (repeat (first | assumption | exact Ext.refl _ | refine Ext.alloc' ?_ _ | refine Ext.store0 ?_ _ _ | refine Ext.storek ?_ _ _ _ | refine Ext.stores0 ?_ ?_ _ _ | refine Ext.storesk ?_ ?_ _ _ _ | refine Ext.drewN' ?_ _ | refine Ext.drew' ?_ | refine Ext.trans ?_ (by assumption))))) hFit no_lt).calls.mono ?_
  rintro e w7 ⟨_, rfl, hb7, hut⟩
  rw [HH.out.2.2.2.1] at hut
  obtain ⟨t1, t2, t3, t4, rfl, wt, gt⟩ := hut.lit rfl rfl (show mt.bad = false from by rw [← HH.out.2.2.2.1]; exact H.out.2.2.1)
  have Bm_7 := Bm_6.ext (show Ext w6 w7 from (by with_reducible (repeat (first | assumption | exact Ext.refl _ | refine Ext.alloc' ?_ _ | refine Ext.store0 ?_ _ _ | refine Ext.storek ?_ _ _ _ | refine Ext.stores0 ?_ ?_ _ _ | refine Ext.storesk ?_ ?_ _ _ _ | refine Ext.drewN' ?_ _ | refine Ext.drew' ?_ | refine Ext.trans ?_ (by assumption)))))
  have Ba_7 := Ba_6.ext (show Ext w6 w7 from (by with_reducible (repeat (first | assumption | exact Ext.refl _ | refine Ext.alloc' ?_ _ | refine Ext.store0 ?_ _ _ | refine Ext.storek ?_ _ _ _ | refine Ext.stores0 ?_ ?_ _ _ | refine Ext.storesk ?_ ?_ _ _ _ | refine Ext.drewN' ?_ _ | refine Ext.drew' ?_ | refine Ext.trans ?_ (by assumption)))))
  have Bc_7 := Bc_6.ext (show Ext w6 w7 from (by with_reducible (repeat (first | assumption | exact Ext.refl _ | refine Ext.alloc' ?_ _ | refine Ext.store0 ?_ _ _ | refine Ext.storek ?_ _ _ _ | refine Ext.stores0 ?_ ?_ _ _ | refine Ext.storesk ?_ ?_ _ _ _ | refine Ext.drewN' ?_ _ | refine Ext.drew' ?_ | refine Ext.trans ?_ (by assumption)))))
  clear Bm_6 zm cm0 cm1 cm2 dm0 dm1 dm2 Ba_6 za ca0 ca1 ca2 da0 da1 da2 Bc_6 zc cc0 cc1 cc2 dc0 dc1 dc2
  have Bs_7 : Box w7 (w6.heap.size) #[.slice s1 ms.W.length s2, .slice s3 ms.G.length s4, .bool true] 50 := (Box.new _ _ _).ext hb7
  obtain ⟨cm0, cm1, cm2, dm0, dm1, dm2⟩ := cells3 Bm_7
  have zm : w.heap.size < w7.heap.size := Bm_7.lt
  obtain ⟨ca0, ca1, ca2, da0, da1, da2⟩ := cells3 Ba_7
  have za : w4.heap.size < w7.heap.size := Ba_7.lt
  obtain ⟨cc0, cc1, cc2, dc0, dc1, dc2⟩ := cells3 Bc_7
  have zc : w5.heap.size < w7.heap.size := Bc_7.lt
  obtain ⟨cs0, cs1, cs2, ds0, ds1, ds2⟩ := cells3 Bs_7
  have zs : w6.heap.size < w7.heap.size := Bs_7.lt
  go_wp2_with (fail)
  go_at_call 64
  refine (memLoad_ no _ mt yy _ ((IsMem.mk (show false = mt.bad by rw [← HH.out.2.2.2.1, H.out.2.2.1]) wt gt : IsMem no w7 (.agg #[.slice t1 mt.W.length t2, .slice t3 mt.G.length t4, .bool false]) mt).ext (by with_reducible (repeat (first | assumption | exact Ext.refl _ | refine Ext.alloc' ?_ _ | refine Ext.store0 ?_ _ _ | refine Ext.storek ?_ _ _ _ | refine Ext.stores0 ?_ ?_ _ _ | refine Ext.storesk ?_ ?_ _ _ _ | refine Ext.drewN' ?_ _ | refine Ext.drew' ?_ | refine Ext.trans ?_ (by assumption))))) (by rw [← HH.out.2.2.2.1]; exact hFit.same (turnMD_len _ _ _)) no_lt (by omega) (by omega)).calls.mono ?_
  rintro e w8 ⟨_, rfl, hb8, ud, rfl, hud⟩
  rw [HH.out.2.2.2.2.1] at hud
  obtain ⟨d1, d2, d3, d4, rfl, wd, gd⟩ := hud.lit rfl rfl (show md.bad = false from by rw [← HH.out.2.2.2.2.1, ← HH.out.2.2.2.1]; exact H.out.2.2.2.1)
  have Bm_8 := Bm_7.ext (show Ext w7 w8 from (by with_reducible (repeat (first | assumption | exact Ext.refl _ | refine Ext.alloc' ?_ _ | refine Ext.store0 ?_ _ _ | refine Ext.storek ?_ _ _ _ | refine Ext.stores0 ?_ ?_ _ _ | refine Ext.storesk ?_ ?_ _ _ _ | refine Ext.drewN' ?_ _ | refine Ext.drew' ?_ | refine Ext.trans ?_ (by assumption)))))
  have Ba_8 := Ba_7.ext (show Ext w7 w8 from (by with_reducible (repeat (first | assumption | exact Ext.refl _ | refine Ext.alloc' ?_ _ | refine Ext.store0 ?_ _ _ | refine Ext.storek ?_ _ _ _ | refine Ext.stores0 ?_ ?_ _ _ | refine Ext.storesk ?_ ?_ _ _ _ | refine Ext.drewN' ?_ _ | refine Ext.drew' ?_ | refine Ext.trans ?_ (by assumption)))))
  have Bc_8 := Bc_7.ext (show Ext w7 w8 from (by with_reducible (repeat (first | assumption | exact Ext.refl _ | refine Ext.alloc' ?_ _ | refine Ext.store0 ?_ _ _ | refine Ext.storek ?_ _ _ _ | refine Ext.stores0 ?_ ?_ _ _ | refine Ext.storesk ?_ ?_ _ _ _ | refine Ext.drewN' ?_ _ | refine Ext.drew' ?_ | refine Ext.trans ?_ (by assumption)))))
  have Bs_8 := Bs_7.ext (show Ext w7 w8 from (by with_reducible (repeat (first | assumption | exact Ext.refl _ | refine Ext.alloc' ?_ _ | refine Ext.store0 ?_ _ _ | refine Ext.storek ?_ _ _ _ | refine Ext.stores0 ?_ ?_ _ _ | refine Ext.storesk ?_ ?_ _ _ _ | refine Ext.drewN' ?_ _ | refine Ext.drew' ?_ | refine Ext.trans ?_ (by assumption)))))
  clear Bm_7 zm cm0 cm1 cm2 dm0 dm1 dm2 Ba_7 za ca0 ca1 ca2 da0 da1 da2 Bc_7 zc cc0 cc1 cc2 dc0 dc1 dc2 Bs_7 zs cs0 cs1 cs2 ds0 ds1 ds2
  have Bt_8 : Box w8 (w7.heap.size) #[.slice t1 mt.W.length t2, .slice t3 mt.G.length t4, .bool false] 50 := (Box.new _ _ _).ext hb8
  obtain ⟨cm0, cm1, cm2, dm0, dm1, dm2⟩ := cells3 Bm_8
  have zm : w.heap.size < w8.heap.size := Bm_8.lt
  obtain ⟨ca0, ca1, ca2, da0, da1, da2⟩ := cells3 Ba_8
  have za : w4.heap.size < w8.heap.size := Ba_8.lt
  obtain ⟨cc0, cc1, cc2, dc0, dc1, dc2⟩ := cells3 Bc_8
  have zc : w5.heap.size < w8.heap.size := Bc_8.lt
  obtain ⟨cs0, cs1, cs2, ds0, ds1, ds2⟩ := cells3 Bs_8
  have zs : w6.heap.size < w8.heap.size := Bs_8.lt
  obtain ⟨ct0, ct1, ct2, dt0, dt1, dt2⟩ := cells3 Bt_8
  have zt : w7.heap.size < w8.heap.size := Bt_8.lt
  go_wp2_with (fail)
  go_at_call 64
  refine (memLoad_ no _ m (k : Int) _ ((IsMem.mk HB.out hw hg : IsMem no w (.agg #[.slice aw m.W.length cw, .slice (some ⟨ba, oa, none⟩) m.G.length cg, .bool false]) m).ext (by with_reducible (repeat (first | assumption | exact Ext.refl _ | refine Ext.alloc' ?_ _ | refine Ext.store0 ?_ _ _ | refine Ext.storek ?_ _ _ _ | refine Ext.stores0 ?_ ?_ _ _ | refine Ext.storesk ?_ ?_ _ _ _ | refine Ext.drewN' ?_ _ | refine Ext.drew' ?_ | refine Ext.trans ?_ (by assumption))))) hFit no_lt (by omega) (by omega)).calls.mono ?_
  rintro e w9 ⟨_, rfl, hb9, ur, rfl, hur⟩
  rw [HH.out.2.2.2.2.2] at hur
  obtain ⟨r1, r2, r3, r4, rfl, wr, gr⟩ := hur.lit rfl rfl (show mr.bad = false from by rw [← HH.out.2.2.2.2.2]; exact H.out.2.2.2.2)
  have Bm_9 := Bm_8.ext (show Ext w8 w9 from (by with_reducible (repeat (first | assumption | exact Ext.refl _ | refine Ext.alloc' ?_ _ | refine Ext.store0 ?_ _ _ | refine Ext.storek ?_ _ _ _ | refine Ext.stores0 ?_ ?_ _ _ | refine Ext.storesk ?_ ?_ _ _ _ | refine Ext.drewN' ?_ _ | refine Ext.drew' ?_ | refine Ext.trans ?_ (by assumption)))))
  have Ba_9 := Ba_8.ext (show Ext w8 w9 from (by with_reducible (repeat (first | assumption | exact Ext.refl _ | refine Ext.alloc' ?_ _ | refine Ext.store0 ?_ _ _ | refine Ext.storek ?_ _ _ _ | refine Ext.stores0 ?_ ?_ _ _ | refine Ext.storesk ?_ ?_ _ _ _ | refine Ext.drewN' ?_ _ | refine Ext.drew' ?_ | refine Ext.trans ?_ (by assumption)))))
  have Bc_9 := Bc_8.ext (show Ext w8 w9 from (by with_reducible (repeat (first | assumption | exact Ext.refl _ | refine Ext.alloc' ?_ _ | refine Ext.store0 ?_ _ _ | refine Ext.storek ?_ _ _ _ | refine Ext.stores0 ?_ ?_ _ _ | refine Ext.storesk ?_ ?_ _ _ _ | refine Ext.drewN' ?_ _ | refine Ext.drew' ?_ | refine Ext.trans ?_ (by assumption)))))
  have Bs_9 := Bs_8.ext (show Ext w8 w9 from (by with_reducible (repeat (first | assumption | exact Ext.refl _ | refine Ext.alloc' ?_ _ | refine Ext.store0 ?_ _ _ | refine Ext.storek ?_ _ _ _ | refine Ext.stores0 ?_ ?_ _ _ | refine Ext.storesk ?_ ?_ _ _ _ | refine Ext.drewN' ?_ _ | refine Ext.drew' ?_ | refine Ext.trans ?_ (by assumption)))))
  have Bt_9 := Bt_8.ext (show Ext w8 w9 from (by with_reducible (repeat (first | assumption | exact Ext.refl _ | refine Ext.alloc' ?_ _ | refine Ext.store0 ?_ _ _ | refine Ext.storek ?_ _ _ _ | refine Ext.stores0 ?_ ?_ _ _ | refine Ext.storesk ?_ ?_ _ _ _ | refine Ext.drewN' ?_ _ | refine Ext.drew' ?_ | refine Ext.trans ?_ (by assumption)))))
  clear Bm_8 zm cm0 cm1 cm2 dm0 dm1 dm2 Ba_8 za ca0 ca1 ca2 da0 da1 da2 Bc_8 zc cc0 cc1 cc2 dc0 dc1 dc2 Bs_8 zs cs0 cs1 cs2 ds0 ds1 ds2 Bt_8 zt ct0 ct1 ct2 dt0 dt1 dt2
  have Bd_9 : Box w9 (w8.heap.size) #[.slice d1 md.W.length d2, .slice d3 md.G.length d4, .bool false] 50 := (Box.new _ _ _).ext hb9
  obtain ⟨cm0, cm1, cm2, dm0, dm1, dm2⟩ := cells3 Bm_9
  have zm : w.heap.size < w9.heap.size := Bm_9.lt
  obtain ⟨ca0, ca1, ca2, da0, da1, da2⟩ := cells3 Ba_9
  have za : w4.heap.size < w9.heap.size := Ba_9.lt
  obtain ⟨cc0, cc1, cc2, dc0, dc1, dc2⟩ := cells3 Bc_9
  have zc : w5.heap.size < w9.heap.size := Bc_9.lt
  obtain ⟨cs0, cs1, cs2, ds0, ds1, ds2⟩ := cells3 Bs_9
  have zs : w6.heap.size < w9.heap.size := Bs_9.lt
  obtain ⟨ct0, ct1, ct2, dt0, dt1, dt2⟩ := cells3 Bt_9
  have zt : w7.heap.size < w9.heap.size := Bt_9.lt
  obtain ⟨cd0, cd1, cd2, dd0, dd1, dd2⟩ := cells3 Bd_9
  have zd : w8.heap.size < w9.heap.size := Bd_9.lt
  go_wp2_with (fail)
  have hEk : Ext w w9 := (by with_reducible (repeat (first | assumption | exact Ext.refl _ | refine Ext.alloc' ?_ _ | refine Ext.store0 ?_ _ _ | refine Ext.storek ?_ _ _ _ | refine Ext.stores0 ?_ ?_ _ _ | refine Ext.storesk ?_ ?_ _ _ _ | refine Ext.drewN' ?_ _ | refine Ext.drew' ?_ | refine Ext.trans ?_ (by assumption))))
  have eak := cell_ext ea hEk
  have eak1 : w9.cell? ⟨ba, oa + (i : Int).toNat * 1, none⟩ = some (.int .i64 (gi m.G i)) := by simpa using eak
  obtain ⟨W, hW⟩ : ∃ W, W = w9.alloc (.cells #[.slice r1 mr.W.length r2, .slice r3 mr.G.length r4, .bool false] 50 (0, 0)) := ⟨_, rfl⟩
  have hEW : Ext w W := by rw [hW]; exact (by with_reducible (repeat (first | assumption | exact Ext.refl _ | refine Ext.alloc' ?_ _ | refine Ext.store0 ?_ _ _ | refine Ext.storek ?_ _ _ _ | refine Ext.stores0 ?_ ?_ _ _ | refine Ext.storesk ?_ ?_ _ _ _ | refine Ext.drewN' ?_ _ | refine Ext.drew' ?_ | refine Ext.trans ?_ (by assumption))))
  have eaw : W.cell? ⟨ba, oa + (i : Int).toNat * 1, none⟩ = some (.int .i64 (gi m.G i)) := by rw [hW]; exact cell_ext eak1 (Ext.alloc _ _)
  have Dm := Bm_9.alloc (.cells #[.slice r1 mr.W.length r2, .slice r3 mr.G.length r4, .bool false] 50 (0, 0))
  have Da := Ba_9.alloc (.cells #[.slice r1 mr.W.length r2, .slice r3 mr.G.length r4, .bool false] 50 (0, 0))
  have Dc := Bc_9.alloc (.cells #[.slice r1 mr.W.length r2, .slice r3 mr.G.length r4, .bool false] 50 (0, 0))
  have Ds := Bs_9.alloc (.cells #[.slice r1 mr.W.length r2, .slice r3 mr.G.length r4, .bool false] 50 (0, 0))
  have Dt := Bt_9.alloc (.cells #[.slice r1 mr.W.length r2, .slice r3 mr.G.length r4, .bool false] 50 (0, 0))
  have Dd := Bd_9.alloc (.cells #[.slice r1 mr.W.length r2, .slice r3 mr.G.length r4, .bool false] 50 (0, 0))
  have Dr := Box.new w9 #[.slice r1 mr.W.length r2, .slice r3 mr.G.length r4, .bool false] 50
  rw [← hW] at Dm Da Dc Ds Dt Dd Dr
  rw [← hW]
  clear hW
  apply region_lit2 (T := []) (L := []) (X := []) (G := [eqv _, eqv _, eqv _, eqv _, eqv _, eqv (.bool true), eqv _, eqv _, eqv _, eqv _, eqv _, eqv (.bool true), eqv _, eqv _, eqv _, eqv _, eqv _, eqv (.bool true), eqv _, eqv _, eqv _, eqv _, eqv (.bool true), eqv _, eqv _, eqv _, eqv _, eqv _, eqv _, eqv _, eqv _, eqv _, eqv (.bool false), eqv (.bool true), eqv _, eqv _, eqv _, eqv _, eqv _, eqv _, eqv (.bool true), eqv _, eqv _, eqv _, eqv _, eqv (.int .i64 (i : Int)), eqv _, eqv _, eqv (.int .i64 1), eqv (.int .i64 (i : Int)), eqv (.bool true), eqv _, eqv _])
  case hm => kernel_rfl
  case hop =>
    refine ⟨?_, ?_, ?_, ?_, ?_, ?_, ?_, ?_, ?_, ?_, ?_, ?_, ?_, ?_, ?_, ?_, ?_, ?_, ?_, ?_, ?_, ?_, ?_, ?_, ?_, ?_, ?_, ?_, ?_, ?_, ?_, ?_, ?_, ?_, ?_, ?_, ?_, ?_, ?_, ?_, ?_, ?_, ?_, ?_, ?_, ?_, ?_, ?_, ?_, ?_, ?_, ?_, ?_, trivial⟩
    · intro a wa hs hf hd
      have t7 := hf.off 7 (by kernel_rfl) rfl
      exact plain_ rfl (yes_eqv (o_move rfl t7) rfl)
    · intro a wa hs hf hd
      have t85 : a.eval (.tmp 85) = _ := hd.at 0 85 (by kernel_rfl)
      exact plain_ rfl (yes_eqv (o_move rfl t85) rfl)
    · intro a wa hs hf hd
      have t86 : a.eval (.tmp 86) = _ := hd.at 1 86 (by kernel_rfl)
      have t11 := hf.off 11 (by kernel_rfl) rfl
      exact guard_on rfl rfl t86 (yes_eqv (o_fieldAddr rfl Proofs.Try.underlying50 rfl rfl (by kernel_rfl) t11) rfl)
    · intro a wa hs hf hd
      have t86 : a.eval (.tmp 86) = _ := hd.at 1 86 (by kernel_rfl)
      have t87 : a.eval (.tmp 87) = _ := hd.at 2 87 (by kernel_rfl)
      exact guard_on rfl rfl t86 (yes_eqv (o_load1 rfl Proofs.Try.underlying4 rfl t87 ((Da.since hs rfl).cell rfl)) rfl)
    · intro a wa hs hf hd
      have t86 : a.eval (.tmp 86) = _ := hd.at 1 86 (by kernel_rfl)
      have t16 := hf.off 16 (by kernel_rfl) rfl
      exact guard_on rfl rfl t86 (yes_eqv (o_move rfl t16) rfl)
    · intro a wa hs hf hd
      have t86 : a.eval (.tmp 86) = _ := hd.at 1 86 (by kernel_rfl)
      have t88 : a.eval (.tmp 88) = _ := hd.at 3 88 (by kernel_rfl)
      have t89 : a.eval (.tmp 89) = _ := hd.at 4 89 (by kernel_rfl)
      exact guard_on rfl rfl t86 (yes_eqv (o_eqlb rfl Proofs.Try.underlying4 t88 t89 (by simp [hq0])) rfl)
    · intro a wa hs hf hd
      have t86 : a.eval (.tmp 86) = _ := hd.at 1 86 (by kernel_rfl)
      have t90 : a.eval (.tmp 90) = _ := hd.at 5 90 (by kernel_rfl)
      exact plain_ rfl (yes_eqv (o_pick_t rfl t86 t90) rfl)
    · intro a wa hs hf hd
      have t91 : a.eval (.tmp 91) = _ := hd.at 6 91 (by kernel_rfl)
      exact plain_ rfl (yes_eqv (o_move rfl t91) rfl)
    · intro a wa hs hf hd
      have t92 : a.eval (.tmp 92) = _ := hd.at 7 92 (by kernel_rfl)
      have t13 := hf.off 13 (by kernel_rfl) rfl
      exact guard_on rfl rfl t92 (yes_eqv (o_fieldAddr rfl Proofs.Try.underlying50 rfl rfl (by kernel_rfl) t13) rfl)
    · intro a wa hs hf hd
      have t92 : a.eval (.tmp 92) = _ := hd.at 7 92 (by kernel_rfl)
      have t93 : a.eval (.tmp 93) = _ := hd.at 8 93 (by kernel_rfl)
      exact guard_on rfl rfl t92 (yes_eqv (o_load1 rfl Proofs.Try.underlying4 rfl t93 ((Dc.since hs rfl).cell rfl)) rfl)
    · intro a wa hs hf hd
      have t92 : a.eval (.tmp 92) = _ := hd.at 7 92 (by kernel_rfl)
      have t16 := hf.off 16 (by kernel_rfl) rfl
      exact guard_on rfl rfl t92 (yes_eqv (o_move rfl t16) rfl)
    · intro a wa hs hf hd
      have t92 : a.eval (.tmp 92) = _ := hd.at 7 92 (by kernel_rfl)
      have t94 : a.eval (.tmp 94) = _ := hd.at 9 94 (by kernel_rfl)
      have t95 : a.eval (.tmp 95) = _ := hd.at 10 95 (by kernel_rfl)
      exact guard_on rfl rfl t92 (yes_eqv (o_eqlb rfl Proofs.Try.underlying4 t94 t95 (by simp [hq0])) rfl)
    · intro a wa hs hf hd
      have t92 : a.eval (.tmp 92) = _ := hd.at 7 92 (by kernel_rfl)
      have t96 : a.eval (.tmp 96) = _ := hd.at 11 96 (by kernel_rfl)
      exact plain_ rfl (yes_eqv (o_pick_t rfl t92 t96) rfl)
    · intro a wa hs hf hd
      have t97 : a.eval (.tmp 97) = _ := hd.at 12 97 (by kernel_rfl)
      exact plain_ rfl (yes_eqv (o_move rfl t97) rfl)
    · intro a wa hs hf hd
      have t98 : a.eval (.tmp 98) = _ := hd.at 13 98 (by kernel_rfl)
      have t15 := hf.off 15 (by kernel_rfl) rfl
      exact guard_on rfl rfl t98 (yes_eqv (o_fieldAddr rfl Proofs.Try.underlying50 rfl rfl (by kernel_rfl) t15) rfl)
    · intro a wa hs hf hd
      have t98 : a.eval (.tmp 98) = _ := hd.at 13 98 (by kernel_rfl)
      have t99 : a.eval (.tmp 99) = _ := hd.at 14 99 (by kernel_rfl)
      exact guard_on rfl rfl t98 (yes_eqv (o_load1 rfl Proofs.Try.underlying4 rfl t99 ((Ds.since hs rfl).cell rfl)) rfl)
    · intro a wa hs hf hd
      have t98 : a.eval (.tmp 98) = _ := hd.at 13 98 (by kernel_rfl)
      have t16 := hf.off 16 (by kernel_rfl) rfl
      exact guard_on rfl rfl t98 (yes_eqv (o_move rfl t16) rfl)
    · intro a wa hs hf hd
      have t98 : a.eval (.tmp 98) = _ := hd.at 13 98 (by kernel_rfl)
      have t100 : a.eval (.tmp 100) = _ := hd.at 15 100 (by kernel_rfl)
      have t101 : a.eval (.tmp 101) = _ := hd.at 16 101 (by kernel_rfl)
      exact guard_on rfl rfl t98 (yes_eqv (o_eqlb rfl Proofs.Try.underlying4 t100 t101 (by simp [hq0])) rfl)
    · intro a wa hs hf hd
      have t98 : a.eval (.tmp 98) = _ := hd.at 13 98 (by kernel_rfl)
      have t102 : a.eval (.tmp 102) = _ := hd.at 17 102 (by kernel_rfl)
      exact plain_ rfl (yes_eqv (o_pick_t rfl t98 t102) rfl)
    · intro a wa hs hf hd
      have t103 : a.eval (.tmp 103) = _ := hd.at 18 103 (by kernel_rfl)
      exact plain_ rfl (yes_eqv (o_move rfl t103) rfl)
    · intro a wa hs hf hd
      have t104 : a.eval (.tmp 104) = _ := hd.at 19 104 (by kernel_rfl)
      have t20 := hf.off 20 (by kernel_rfl) rfl
      exact guard_on rfl rfl t104 (yes_eqv (o_fieldAddr rfl Proofs.Try.underlying50 rfl rfl (by kernel_rfl) t20) rfl)
    · intro a wa hs hf hd
      have t104 : a.eval (.tmp 104) = _ := hd.at 19 104 (by kernel_rfl)
      have t105 : a.eval (.tmp 105) = _ := hd.at 20 105 (by kernel_rfl)
      exact guard_on rfl rfl t104 (yes_eqv (o_load1 rfl Proofs.Try.underlying4 rfl t105 ((Dr.since hs rfl).cell rfl)) rfl)
    · intro a wa hs hf hd
      have t104 : a.eval (.tmp 104) = _ := hd.at 19 104 (by kernel_rfl)
      have t106 : a.eval (.tmp 106) = _ := hd.at 21 106 (by kernel_rfl)
      exact guard_on rfl rfl t104 (yes_eqv (o_not rfl t106 (by simp [hq0])) rfl)
    · intro a wa hs hf hd
      have t104 : a.eval (.tmp 104) = _ := hd.at 19 104 (by kernel_rfl)
      have t107 : a.eval (.tmp 107) = _ := hd.at 22 107 (by kernel_rfl)
      exact plain_ rfl (yes_eqv (o_pick_t rfl t104 t107) rfl)
    · intro a wa hs hf hd
      have t108 : a.eval (.tmp 108) = _ := hd.at 23 108 (by kernel_rfl)
      exact plain_ rfl (yes_eqv (o_move rfl t108) rfl)
    · intro a wa hs hf hd
      have t109 : a.eval (.tmp 109) = _ := hd.at 24 109 (by kernel_rfl)
      have t17 := hf.off 17 (by kernel_rfl) rfl
      exact guard_on rfl rfl t109 (yes_eqv (o_fieldAddr rfl Proofs.Try.underlying50 rfl rfl (by kernel_rfl) t17) rfl)
    · intro a wa hs hf hd
      have t109 : a.eval (.tmp 109) = _ := hd.at 24 109 (by kernel_rfl)
      have t110 : a.eval (.tmp 110) = _ := hd.at 25 110 (by kernel_rfl)
      exact guard_on rfl rfl t109 (yes_eqv (o_load1 rfl Proofs.Try.underlying4 rfl t110 ((Dt.since hs rfl).cell rfl)) rfl)
    · intro a wa hs hf hd
      have t109 : a.eval (.tmp 109) = _ := hd.at 24 109 (by kernel_rfl)
      have t3 := hf.off 3 (by kernel_rfl) rfl
      exact guard_on rfl rfl t109 (yes_eqv (o_fieldAddr rfl Proofs.Try.underlying50 rfl rfl (by kernel_rfl) t3) rfl)
    · intro a wa hs hf hd
      have t109 : a.eval (.tmp 109) = _ := hd.at 24 109 (by kernel_rfl)
      have t112 : a.eval (.tmp 112) = _ := hd.at 27 112 (by kernel_rfl)
      exact guard_on rfl rfl t109 (yes_eqv (o_load1 rfl Proofs.Try.underlying48 rfl t112 ((Dm.since hs rfl).cell rfl)) rfl)
    · intro a wa hs hf hd
      have t109 : a.eval (.tmp 109) = _ := hd.at 24 109 (by kernel_rfl)
      have t8 := hf.off 8 (by kernel_rfl) rfl
      exact guard_on rfl rfl t109 (yes_eqv (o_move rfl t8) rfl)
    · intro a wa hs hf hd
      have t109 : a.eval (.tmp 109) = _ := hd.at 24 109 (by kernel_rfl)
      have t113 : a.eval (.tmp 113) = _ := hd.at 28 113 (by kernel_rfl)
      have t114 : a.eval (.tmp 114) = _ := hd.at 29 114 (by kernel_rfl)
      exact guard_on rfl rfl t109 (yes_eqv (o_indexAddr (sz := 1) rfl Proofs.Try.underlying48 (by kernel_rfl) t113 t114 (by omega) (by omega)) rfl)
    · intro a wa hs hf hd
      have t109 : a.eval (.tmp 109) = _ := hd.at 24 109 (by kernel_rfl)
      have t115 : a.eval (.tmp 115) = _ := hd.at 30 115 (by kernel_rfl)
      exact guard_on rfl rfl t109 (yes_eqv (o_load1 rfl Proofs.Try.underlying3 rfl t115 (cell_since eaw hs rfl)) rfl)
    · intro a wa hs hf hd
      have t109 : a.eval (.tmp 109) = _ := hd.at 24 109 (by kernel_rfl)
      have t116 : a.eval (.tmp 116) = _ := hd.at 31 116 (by kernel_rfl)
      exact guard_on rfl rfl t109 (yes_eqv (o_neq rfl t116 rfl (by simp [hq0])) rfl)
    · intro a wa hs hf hd
      have t109 : a.eval (.tmp 109) = _ := hd.at 24 109 (by kernel_rfl)
      have t111 : a.eval (.tmp 111) = _ := hd.at 26 111 (by kernel_rfl)
      have t117 : a.eval (.tmp 117) = _ := hd.at 32 117 (by kernel_rfl)
      exact guard_on rfl rfl t109 (yes_eqv (o_eqlb rfl Proofs.Try.underlying4 t111 t117 (by simp [hq0])) rfl)
    · intro a wa hs hf hd
      have t109 : a.eval (.tmp 109) = _ := hd.at 24 109 (by kernel_rfl)
      have t118 : a.eval (.tmp 118) = _ := hd.at 33 118 (by kernel_rfl)
      exact plain_ rfl (yes_eqv (o_pick_t rfl t109 t118) rfl)
    · intro a wa hs hf hd
      have t119 : a.eval (.tmp 119) = _ := hd.at 34 119 (by kernel_rfl)
      exact plain_ rfl (yes_eqv (o_move rfl t119) rfl)
    · intro a wa hs hf hd
      have t120 : a.eval (.tmp 120) = _ := hd.at 35 120 (by kernel_rfl)
      have t18 := hf.off 18 (by kernel_rfl) rfl
      exact guard_on rfl rfl t120 (yes_eqv (o_fieldAddr rfl Proofs.Try.underlying50 rfl rfl (by kernel_rfl) t18) rfl)
    · intro a wa hs hf hd
      have t120 : a.eval (.tmp 120) = _ := hd.at 35 120 (by kernel_rfl)
      have t121 : a.eval (.tmp 121) = _ := hd.at 36 121 (by kernel_rfl)
      exact guard_on rfl rfl t120 (yes_eqv (o_load1 rfl Proofs.Try.underlying4 rfl t121 ((Dd.since hs rfl).cell rfl)) rfl)
    · intro a wa hs hf hd
      have t120 : a.eval (.tmp 120) = _ := hd.at 35 120 (by kernel_rfl)
      have t17 := hf.off 17 (by kernel_rfl) rfl
      exact guard_on rfl rfl t120 (yes_eqv (o_fieldAddr rfl Proofs.Try.underlying50 rfl rfl (by kernel_rfl) t17) rfl)
    · intro a wa hs hf hd
      have t120 : a.eval (.tmp 120) = _ := hd.at 35 120 (by kernel_rfl)
      have t123 : a.eval (.tmp 123) = _ := hd.at 38 123 (by kernel_rfl)
      exact guard_on rfl rfl t120 (yes_eqv (o_load1 rfl Proofs.Try.underlying4 rfl t123 ((Dt.since hs rfl).cell rfl)) rfl)
    · intro a wa hs hf hd
      have t120 : a.eval (.tmp 120) = _ := hd.at 35 120 (by kernel_rfl)
      have t122 : a.eval (.tmp 122) = _ := hd.at 37 122 (by kernel_rfl)
      have t124 : a.eval (.tmp 124) = _ := hd.at 39 124 (by kernel_rfl)
      exact guard_on rfl rfl t120 (yes_eqv (o_eqlb rfl Proofs.Try.underlying4 t122 t124 (by simp [hq0])) rfl)
    · intro a wa hs hf hd
      have t120 : a.eval (.tmp 120) = _ := hd.at 35 120 (by kernel_rfl)
      have t125 : a.eval (.tmp 125) = _ := hd.at 40 125 (by kernel_rfl)
      exact plain_ rfl (yes_eqv (o_pick_t rfl t120 t125) rfl)
    · intro a wa hs hf hd
      have t126 : a.eval (.tmp 126) = _ := hd.at 41 126 (by kernel_rfl)
      exact plain_ rfl (yes_eqv (o_move rfl t126) rfl)
    · intro a wa hs hf hd
      have t127 : a.eval (.tmp 127) = _ := hd.at 42 127 (by kernel_rfl)
      have t3 := hf.off 3 (by kernel_rfl) rfl
      exact guard_on rfl rfl t127 (yes_eqv (o_load3 rfl Proofs.Try.underlying50 rfl (by kernel_rfl) t3 ((Dm.since hs rfl).cell rfl) ((Dm.since hs rfl).cell rfl) ((Dm.since hs rfl).cell rfl)) rfl)
    · intro a wa hs hf hd
      have t127 : a.eval (.tmp 127) = _ := hd.at 42 127 (by kernel_rfl)
      have t10 := hf.off 10 (by kernel_rfl) rfl
      exact guard_on rfl rfl t127 (yes_eqv (o_move rfl t10) rfl)
    · intro a wa hs hf hd
      have t127 : a.eval (.tmp 127) = _ := hd.at 42 127 (by kernel_rfl)
      have t128 : a.eval (.tmp 128) = _ := hd.at 43 128 (by kernel_rfl)
      have t129 : a.eval (.tmp 129) = _ := hd.at 44 129 (by kernel_rfl)
      exact guard_on rfl rfl t127 (yes_gives (show Gives Proofs.Try.prog 59 #[.agg #[.slice aw m.W.length cw, .slice (some ⟨ba, oa, none⟩) m.G.length cg, .bool false], .int .i64 yy] _ (eqv (.int .i64 (i : Int))) by rw [← H.out.2.1]; exact node_ no _ m yy _ ((IsMem.mk HB.out hw hg : IsMem no w (.agg #[.slice aw m.W.length cw, .slice (some ⟨ba, oa, none⟩) m.G.length cg, .bool false]) m).ext (hEW.trans (Since.to_ext hs))) (by omega) (by omega)) rfl rfl Proofs.Try.func59 (by kernel_rfl) (by kernel_rfl) (by simp only [List.map_toArray, List.map_cons, List.map_nil, t128, t129]) rfl)
    · intro a wa hs hf hd
      have t127 : a.eval (.tmp 127) = _ := hd.at 42 127 (by kernel_rfl)
      have t8 := hf.off 8 (by kernel_rfl) rfl
      exact guard_on rfl rfl t127 (yes_eqv (o_move rfl t8) rfl)
    · intro a wa hs hf hd
      have t127 : a.eval (.tmp 127) = _ := hd.at 42 127 (by kernel_rfl)
      have t9 := hf.off 9 (by kernel_rfl) rfl
      exact guard_on rfl rfl t127 (yes_eqv (o_move rfl t9) rfl)
    · intro a wa hs hf hd
      have t127 : a.eval (.tmp 127) = _ := hd.at 42 127 (by kernel_rfl)
      have t132 : a.eval (.tmp 132) = _ := hd.at 47 132 (by kernel_rfl)
      exact guard_on rfl rfl t127 (yes_eqv (o_min rfl t132 (by split <;> omega)) rfl)
    · intro a wa hs hf hd
      have t127 : a.eval (.tmp 127) = _ := hd.at 42 127 (by kernel_rfl)
      have t131 : a.eval (.tmp 131) = _ := hd.at 46 131 (by kernel_rfl)
      have t133 : a.eval (.tmp 133) = _ := hd.at 48 133 (by kernel_rfl)
      exact guard_on rfl rfl t127 (yes_eqv (o_mul rfl t131 t133 (by rw [IntKind.wrap_i64]; omega)) rfl)
    · intro a wa hs hf hd
      have t127 : a.eval (.tmp 127) = _ := hd.at 42 127 (by kernel_rfl)
      have t130 : a.eval (.tmp 130) = _ := hd.at 45 130 (by kernel_rfl)
      have t134 : a.eval (.tmp 134) = _ := hd.at 49 134 (by kernel_rfl)
      exact guard_on rfl rfl t127 (yes_eqv (o_eql rfl t130 t134 (by simp [hq0])) rfl)
    · intro a wa hs hf hd
      have t127 : a.eval (.tmp 127) = _ := hd.at 42 127 (by kernel_rfl)
      have t135 : a.eval (.tmp 135) = _ := hd.at 50 135 (by kernel_rfl)
      exact plain_ rfl (yes_eqv (o_pick_t rfl t127 t135) rfl)
    · intro a wa hs hf hd
      have t136 : a.eval (.tmp 136) = _ := hd.at 51 136 (by kernel_rfl)
      exact plain_ rfl (yes_eqv (o_assign rfl t136) rfl)
  case hG => exact ⟨stable_eqv _, stable_eqv _, stable_eqv _, stable_eqv _, stable_eqv _, stable_eqv _, stable_eqv _, stable_eqv _, stable_eqv _, stable_eqv _, stable_eqv _, stable_eqv _, stable_eqv _, stable_eqv _, stable_eqv _, stable_eqv _, stable_eqv _, stable_eqv _, stable_eqv _, stable_eqv _, stable_eqv _, stable_eqv _, stable_eqv _, stable_eqv _, stable_eqv _, stable_eqv _, stable_eqv _, stable_eqv _, stable_eqv _, stable_eqv _, stable_eqv _, stable_eqv _, stable_eqv _, stable_eqv _, stable_eqv _, stable_eqv _, stable_eqv _, stable_eqv _, stable_eqv _, stable_eqv _, stable_eqv _, stable_eqv _, stable_eqv _, stable_eqv _, stable_eqv _, stable_eqv _, stable_eqv _, stable_eqv _, stable_eqv _, stable_eqv _, stable_eqv _, stable_eqv _, stable_eqv _, trivial⟩
  case hc => kernel_rfl
  case hfin =>
    intro v2 hs2
    rintro _ rfl _ rfl _ rfl _ rfl _ rfl _ rfl _ rfl _ rfl _ rfl _ rfl _ rfl _ rfl _ rfl _ rfl _ rfl _ rfl _ rfl _ rfl _ rfl _ rfl _ rfl _ rfl _ rfl _ rfl _ rfl _ rfl _ rfl _ rfl _ rfl _ rfl _ rfl _ rfl _ rfl _ rfl _ rfl _ rfl _ rfl _ rfl _ rfl _ rfl _ rfl _ rfl _ rfl _ rfl _ rfl _ rfl _ rfl _ rfl _ rfl _ rfl _ rfl _ rfl _ rfl
    rintro _ rfl
    simp only [Act.put, List.setIfInBounds_toArray, List.set_cons_zero, List.set_cons_succ]
    go_wp2
    go_ret
    exact ⟨_, rfl, hEW.trans (Since.to_ext hs2), rfl⟩
set_option maxHeartbeats 1000000 in
set_option maxRecDepth 100000 in
theorem memGuards_b (aw ag : Option Addr) (cw cg : Nat) (m : Arena) (x y : Int) (i k : Nat) (w : World) (hw : IsInts no w (.slice aw m.W.length cw) m.W) (hg : IsInts no w (.slice ag m.G.length cg) m.G) (hb : false = m.bad) (hm : mayD m 60 = true)
    (hi : 1 + x % ((m.G.length : Int) - 1) = i) (hi1 : 1 ≤ i) (hi2 : i < m.G.length) (hk : y % 4 = (k : Int)) (hk4 : k < 4) (hx0 : 0 ≤ x) (hx1 : x ≤ 255) (hy0 : 0 ≤ y) (hy1 : y ≤ 255) (hq : 0 < k) (hq0 : ¬ gi m.G i = 0) :
    Gives Proofs.Try.prog 14 #[.agg #[.slice aw m.W.length cw, .slice ag m.G.length cg, .bool false], .int .u8 x, .int .u8 y] w (eqv (.bool true)) := by
  have km := fun (w' : World) (e : Ext w w') => memMay_ no _ m 60 (by omega) w' ((IsMem.mk hb hw hg : IsMem no w (.agg #[.slice aw m.W.length cw, .slice ag m.G.length cg, .bool false]) m).ext e)
  rw [hm] at km
  have hFit := Fits.of_may hm
  have hl3 := hFit.2.2
  have HL := Lib.hid hFit.1
  obtain ⟨_, _, e0, rg, lg, cgc⟩ := hg.opened
  cases e0
  obtain ⟨ba, oa, rfl, xa, na, ea⟩ := cgc i hi2
  have g0 : (gi m.G i == 0) = false := by simp [hq0]
  have hz : ((m.G.length : Int) - 1 == 0) = false := by simp; omega
  obtain ⟨yy, hyy⟩ : ∃ yy, (128 : Int) + 4 * ((i : Int) - 1) + (k : Int) = yy := ⟨_, rfl⟩
  have fb : badAt m yy = false := by rw [← hyy, show (128 : Int) + 4 * ((i : Int) - 1) + (k : Int) = 128 + 4 * ((i : Int) - 1) + ((k : Nat) : Int) from rfl, badAt_at hFit hi1 hi2 (by omega), ← hb]; simp [hq, hq0]
  have fn : nodeD m.W.length yy = (i : Int) := by rw [← hyy, show (128 : Int) + 4 * ((i : Int) - 1) + (k : Int) = 128 + 4 * ((i : Int) - 1) + ((k : Nat) : Int) from rfl, nodeD_at hFit hi1 hi2 (by omega)]; rw [if_neg (by omega)]
  have ft : turnIs m i 1 = false := by rw [turnIs_live hi1 hi2]; simp [hq0]
  have ftb : (turnMD m i 1).bad = true := by rw [turnMD_bad, ft, ← hb]; rfl
  have fd : badAt (turnMD m i 1) yy = true := by
    rw [← hyy, show (128 : Int) + 4 * ((i : Int) - 1) + (k : Int) = 128 + 4 * ((i : Int) - 1) + ((k : Nat) : Int) from rfl, badAt_at (hFit.same (turnMD_len _ _ _)) hi1 (by rw [(turnMD_len _ _ _).2]; exact hi2) (by omega), ftb]
    simp
  have fr : badAt m (k : Int) = false := (badAt_root hFit (k := k) (by omega)).trans hb.symm
  have y0 : -1000000 ≤ yy := by omega
  have y1 : yy ≤ 1000000 := by omega
  have HY := Lib.hid hyy
  have H := Lib.hid (And.intro fb (And.intro fn (And.intro ftb (And.intro fd fr))))
  have HB := Lib.hid hb
  clear hb hyy fb fn ft ftb fd fr
  go_enter Proofs.Try.func14, Proofs.Try.ntmps14
  go_wp2_with (fail)
  go_at_call 49
  refine (shown2_ _).calls.mono ?_
  rintro e w1 ⟨_, rfl, hb1, rfl⟩
  have Bm_1 : Box w1 (w.heap.size) #[.slice aw m.W.length cw, .slice (some ⟨ba, oa, none⟩) m.G.length cg, .bool false] 50 := (Box.new _ _ _).ext hb1
  obtain ⟨cm0, cm1, cm2, dm0, dm1, dm2⟩ := cells3 Bm_1
  have zm : w.heap.size < w1.heap.size := Bm_1.lt
  go_wp2_with (fail)
  go_at_call 63
  refine (km _ (by with_reducible (repeat (first | assumption | exact Ext.refl _ | refine Ext.alloc' ?_ _ | refine Ext.store0 ?_ _ _ | refine Ext.storek ?_ _ _ _ | refine Ext.stores0 ?_ ?_ _ _ | refine Ext.storesk ?_ ?_ _ _ _ | refine Ext.drewN' ?_ _ | refine Ext.drew' ?_ | refine Ext.trans ?_ (by assumption))))).calls.mono ?_
  rintro e w2 ⟨_, rfl, hb2, rfl⟩
  have Bm_2 := Bm_1.ext (show Ext w1 w2 from (by with_reducible (repeat (first | assumption | exact Ext.refl _ | refine Ext.alloc' ?_ _ | refine Ext.store0 ?_ _ _ | refine Ext.storek ?_ _ _ _ | refine Ext.stores0 ?_ ?_ _ _ | refine Ext.storesk ?_ ?_ _ _ _ | refine Ext.drewN' ?_ _ | refine Ext.drew' ?_ | refine Ext.trans ?_ (by assumption)))))
  clear Bm_1 zm cm0 cm1 cm2 dm0 dm1 dm2
  obtain ⟨cm0, cm1, cm2, dm0, dm1, dm2⟩ := cells3 Bm_2
  have zm : w.heap.size < w2.heap.size := Bm_2.lt
  have ea1 := cell_ext ea (show Ext w w2 from (by with_reducible (repeat (first | assumption | exact Ext.refl _ | refine Ext.alloc' ?_ _ | refine Ext.store0 ?_ _ _ | refine Ext.storek ?_ _ _ _ | refine Ext.stores0 ?_ ?_ _ _ | refine Ext.storesk ?_ ?_ _ _ _ | refine Ext.drewN' ?_ _ | refine Ext.drew' ?_ | refine Ext.trans ?_ (by assumption)))))
  go_wp2_with (fail)
  go_at_call 57
  refine (atF_ i (k : Int) _ (by omega) (by omega) (by omega) (by omega)).calls.mono ?_
  rintro e w3 ⟨_, rfl, hb3, rfl⟩
  rw [HY.out]
  have Bm_3 := Bm_2.ext (show Ext w2 w3 from (by with_reducible (repeat (first | assumption | exact Ext.refl _ | refine Ext.alloc' ?_ _ | refine Ext.store0 ?_ _ _ | refine Ext.storek ?_ _ _ _ | refine Ext.stores0 ?_ ?_ _ _ | refine Ext.storesk ?_ ?_ _ _ _ | refine Ext.drewN' ?_ _ | refine Ext.drew' ?_ | refine Ext.trans ?_ (by assumption)))))
  clear Bm_2 zm cm0 cm1 cm2 dm0 dm1 dm2
  obtain ⟨cm0, cm1, cm2, dm0, dm1, dm2⟩ := cells3 Bm_3
  have zm : w.heap.size < w3.heap.size := Bm_3.lt
  obtain ⟨ma, hma⟩ : ∃ ma, touchD m yy = ma := ⟨_, rfl⟩
  obtain ⟨mc, hmc⟩ : ∃ mc, casD m yy 0 0 = mc := ⟨_, rfl⟩
  obtain ⟨ms, hms⟩ : ∃ ms, storeD m yy 5 = ms := ⟨_, rfl⟩
  obtain ⟨mt, hmt⟩ : ∃ mt, turnMD m i 1 = mt := ⟨_, rfl⟩
  obtain ⟨md, hmd⟩ : ∃ md, touchD mt yy = md := ⟨_, rfl⟩
  obtain ⟨mr, hmr⟩ : ∃ mr, touchD m (k : Int) = mr := ⟨_, rfl⟩
  have HH := Lib.hid (And.intro hma (And.intro hmc (And.intro hms (And.intro hmt (And.intro hmd hmr)))))
  clear hma hmc hms hmt hmd hmr
  go_wp2_with (fail)
  go_at_call 64
  refine (memLoad_ no _ m yy _ ((IsMem.mk HB.out hw hg : IsMem no w (.agg #[.slice aw m.W.length cw, .slice (some ⟨ba, oa, none⟩) m.G.length cg, .bool false]) m).ext (by with_reducible (repeat (first | assumption | exact Ext.refl _ | refine Ext.alloc' ?_ _ | refine Ext.store0 ?_ _ _ | refine Ext.storek ?_ _ _ _ | refine Ext.stores0 ?_ ?_ _ _ | refine Ext.storesk ?_ ?_ _ _ _ | refine Ext.drewN' ?_ _ | refine Ext.drew' ?_ | refine Ext.trans ?_ (by assumption))))) hFit no_lt (by omega) (by omega)).calls.mono ?_
  rintro e w4 ⟨_, rfl, hb4, ua, rfl, hua⟩
  rw [HH.out.1] at hua
  obtain ⟨a1, a2, a3, a4, rfl, wa, ga⟩ := hua.lit rfl rfl (show ma.bad = false from by rw [← HH.out.1]; exact H.out.1)
  have Bm_4 := Bm_3.ext (show Ext w3 w4 from (by with_reducible (repeat (first | assumption | exact Ext.refl _ | refine Ext.alloc' ?_ _ | refine Ext.store0 ?_ _ _ | refine Ext.storek ?_ _ _ _ | refine Ext.stores0 ?_ ?_ _ _ | refine Ext.storesk ?_ ?_ _ _ _ | refine Ext.drewN' ?_ _ | refine Ext.drew' ?_ | refine Ext.trans ?_ (by assumption)))))
  clear Bm_3 zm cm0 cm1 cm2 dm0 dm1 dm2
  obtain ⟨cm0, cm1, cm2, dm0, dm1, dm2⟩ := cells3 Bm_4
  have zm : w.heap.size < w4.heap.size := Bm_4.lt
  go_wp2_with (fail)
  go_at_call 66
  refine (memCas_ no _ m yy 0 0 _ ((IsMem.mk HB.out hw hg : IsMem no w (.agg #[.slice aw m.W.length cw, .slice (some ⟨ba, oa, none⟩) m.G.length cg, .bool false]) m).ext (by with_reducible (repeat (first | assumption | exact Ext.refl _ | refine Ext.alloc' ?_ _ | refine Ext.store0 ?_ _ _ | refine Ext.storek ?_ _ _ _ | refine Ext.stores0 ?_ ?_ _ _ | refine Ext.storesk ?_ ?_ _ _ _ | refine Ext.drewN' ?_ _ | refine Ext.drew' ?_ | refine Ext.trans ?_ (by assumption))))) hFit no_lt (by omega) (by omega)).calls.mono ?_
  rintro e w5 ⟨_, rfl, hb5, uc, rfl, huc⟩
  rw [HH.out.2.1] at huc
  obtain ⟨c1, c2, c3, c4, rfl, wc, gc⟩ := huc.lit rfl rfl (show mc.bad = false from by rw [← HH.out.2.1, casD_bad]; exact H.out.1)
  have Bm_5 := Bm_4.ext (show Ext w4 w5 from (by with_reducible (repeat (first | assumption | exact Ext.refl _ | refine Ext.alloc' ?_ _ | refine Ext.store0 ?_ _ _ | refine Ext.storek ?_ _ _ _ | refine Ext.stores0 ?_ ?_ _ _ | refine Ext.storesk ?_ ?_ _ _ _ | refine Ext.drewN' ?_ _ | refine Ext.drew' ?_ | refine Ext.trans ?_ (by assumption)))))
  clear Bm_4 zm cm0 cm1 cm2 dm0 dm1 dm2
  have Ba_5 : Box w5 (w4.heap.size) #[.slice a1 ma.W.length a2, .slice a3 ma.G.length a4, .bool false] 50 := (Box.new _ _ _).ext hb5
  obtain ⟨cm0, cm1, cm2, dm0, dm1, dm2⟩ := cells3 Bm_5
  have zm : w.heap.size < w5.heap.size := Bm_5.lt
  obtain ⟨ca0, ca1, ca2, da0, da1, da2⟩ := cells3 Ba_5
  have za : w4.heap.size < w5.heap.size := Ba_5.lt
  go_wp2_with (fail)
  go_at_call 68
  refine (memStore_ no _ m yy 5 _ ((IsMem.mk HB.out hw hg : IsMem no w (.agg #[.slice aw m.W.length cw, .slice (some ⟨ba, oa, none⟩) m.G.length cg, .bool false]) m).ext (by with_reducible (repeat (first | assumption | exact Ext.refl _ | refine Ext.alloc' ?_ _ | refine Ext.store0 ?_ _ _ | refine Ext.storek ?_ _ _ _ | refine Ext.stores0 ?_ ?_ _ _ | refine Ext.storesk ?_ ?_ _ _ _ | refine Ext.drewN' ?_ _ | refine Ext.drew' ?_ | refine Ext.trans ?_ (by assumption))))) hFit no_lt (by omega) (by omega)).calls.mono ?_
  rintro e w6 ⟨_, rfl, hb6, hus⟩
  rw [HH.out.2.2.1] at hus
  obtain ⟨s1, s2, s3, s4, rfl, ws, gs⟩ := hus.lit rfl rfl (show ms.bad = false from by rw [← HH.out.2.2.1]; exact H.out.1)
  have Bm_6 := Bm_5.ext (show Ext w5 w6 from (by with_reducible (repeat (first | assumption | exact Ext.refl _ | refine Ext.alloc' ?_ _ | refine Ext.store0 ?_ _ _ | refine Ext.storek ?_ _ _ _ | refine Ext.stores0 ?_ ?_ _ _ | refine Ext.storesk ?_ ?_ _ _ _ | refine Ext.drewN' ?_ _ | refine Ext.drew' ?_ | refine Ext.trans ?_ (by assumption)))))
  have Ba_6 := Ba_5.ext (show Ext w5 w6 from (by with_reducible (repeat (first | assumption | exact Ext.refl _ | refine Ext.alloc' ?_ _ | refine Ext.store0 ?_ _ _ | refine Ext.storek ?_ _ _ _ | refine Ext.stores0 ?_ ?_ _ _ | refine Ext.storesk ?_ ?_ _ _ _ | refine Ext.drewN' ?_ _ | refine Ext.drew' ?_ | refine Ext.trans ?_ (by assumption)))))
  clear Bm_5 zm cm0 cm1 cm2 dm0 dm1 dm2 Ba_5 za ca0 ca1 ca2 da0 da1 da2
  have Bc_6 : Box w6 (w5.heap.size) #[.slice c1 mc.W.length c2, .slice c3 mc.G.length c4, .bool false] 50 := (Box.new _ _ _).ext hb6
  obtain ⟨cm0, cm1, cm2, dm0, dm1, dm2⟩ := cells3 Bm_6
  have zm : w.heap.size < w6.heap.size := Bm_6.lt
  obtain ⟨ca0, ca1, ca2, da0, da1, da2⟩ := cells3 Ba_6
  have za : w4.heap.size < w6.heap.size := Ba_6.lt
  obtain ⟨cc0, cc1, cc2, dc0, dc1, dc2⟩ := cells3 Bc_6
  have zc : w5.heap.size < w6.heap.size := Bc_6.lt
  have ea2 := cell_ext ea (show Ext w w6 from (by with_reducible (repeat (first | assumption | exact Ext.refl _ | refine Ext.alloc' ?_ _ | refine Ext.store0 ?_ _ _ | refine Ext.storek ?_ _ _ _ | refine Ext.stores0 ?_ ?_ _ _ | refine Ext.storesk ?_ ?_ _ _ _ | refine Ext.drewN' ?_ _ | refine Ext.drew' ?_ | refine Ext.trans ?_ (by assumption)))))
  have zg : ba < w6.heap.size := World.block_lt_of_cell? _ _ ea2
  go_wp2_with (fail)
  go_at_call 70
  refine (memTurn_ no _ m i 1 _ ((IsMem.mk HB.out hw hg : IsMem no w (.agg #[.slice aw m.W.length cw, .slice (some ⟨ba, oa, none⟩) m.G.length cg, .bool false]) m).ext (by with_reducible (repeat (first | assumption | exact Ext.refl _ | refine Ext.alloc' ?_ _ | refine Ext.store0 ?_ _ _ | refine Ext.storek ?_ _ _ _ | refine Ext.stores0 ?_ ?_ _ _ | refine Ext.storesk ?_ ?_ _ _ _ | refine Ext.drewN' ?_ _ | refine Ext.drew' ?_ | refine Ext.trans ?_ (by assumption))))) hFit no_lt).calls.mono ?_
  rintro e w7 ⟨_, rfl, hb7, hut⟩
  rw [HH.out.2.2.2.1] at hut
  obtain ⟨t1, t2, t3, t4, rfl, wt, gt⟩ := hut.lit rfl rfl (show mt.bad = true from by rw [← HH.out.2.2.2.1]; exact H.out.2.2.1)
  have Bm_7 := Bm_6.ext (show Ext w6 w7 from (by with_reducible (repeat (first | assumption | exact Ext.refl _ | refine Ext.alloc' ?_ _ | refine Ext.store0 ?_ _ _ | refine Ext.storek ?_ _ _ _ | refine Ext.stores0 ?_ ?_ _ _ | refine Ext.storesk ?_ ?_ _ _ _ | refine Ext.drewN' ?_ _ | refine Ext.drew' ?_ | refine Ext.trans ?_ (by assumption)))))
  have Ba_7 := Ba_6.ext (show Ext w6 w7 from (by with_reducible (repeat (first | assumption | exact Ext.refl _ | refine Ext.alloc' ?_ _ | refine Ext.store0 ?_ _ _ | refine Ext.storek ?_ _ _ _ | refine Ext.stores0 ?_ ?_ _ _ | refine Ext.storesk ?_ ?_ _ _ _ | refine Ext.drewN' ?_ _ | refine Ext.drew' ?_ | refine Ext.trans ?_ (by assumption)))))
  have Bc_7 := Bc_6.ext (show Ext w6 w7 from (by with_reducible (repeat (first | assumption | exact Ext.refl _ | refine Ext.alloc' ?_ _ | refine Ext.store0 ?_ _ _ | refine Ext.storek ?_ _ _ _ | refine Ext.stores0 ?_ ?_ _ _ | refine Ext.storesk ?_ ?_ _ _ _ | refine Ext.drewN' ?_ _ | refine Ext.drew' ?_ | refine Ext.trans ?_ (by assumption)))))
  clear Bm_6 zm cm0 cm1 cm2 dm0 dm1 dm2 Ba_6 za ca0 ca1 ca2 da0 da1 da2 Bc_6 zc cc0 cc1 cc2 dc0 dc1 dc2
  have Bs_7 : Box w7 (w6.heap.size) #[.slice s1 ms.W.length s2, .slice s3 ms.G.length s4, .bool false] 50 := (Box.new _ _ _).ext hb7
  obtain ⟨cm0, cm1, cm2, dm0, dm1, dm2⟩ := cells3 Bm_7
  have zm : w.heap.size < w7.heap.size := Bm_7.lt
  obtain ⟨ca0, ca1, ca2, da0, da1, da2⟩ := cells3 Ba_7
  have za : w4.heap.size < w7.heap.size := Ba_7.lt
  obtain ⟨cc0, cc1, cc2, dc0, dc1, dc2⟩ := cells3 Bc_7
  have zc : w5.heap.size < w7.heap.size := Bc_7.lt
  obtain ⟨cs0, cs1, cs2, ds0, ds1, ds2⟩ := cells3 Bs_7
  have zs : w6.heap.size < w7.heap.size := Bs_7.lt
  go_wp2_with (fail)
  go_at_call 64
  refine (memLoad_ no _ mt yy _ ((IsMem.mk (show true = mt.bad by rw [← HH.out.2.2.2.1, H.out.2.2.1]) wt gt : IsMem no w7 (.agg #[.slice t1 mt.W.length t2, .slice t3 mt.G.length t4, .bool true]) mt).ext (by with_reducible (repeat (first | assumption | exact Ext.refl _ | refine Ext.alloc' ?_ _ | refine Ext.store0 ?_ _ _ | refine Ext.storek ?_ _ _ _ | refine Ext.stores0 ?_ ?_ _ _ | refine Ext.storesk ?_ ?_ _ _ _ | refine Ext.drewN' ?_ _ | refine Ext.drew' ?_ | refine Ext.trans ?_ (by assumption))))) (by rw [← HH.out.2.2.2.1]; exact hFit.same (turnMD_len _ _ _)) no_lt (by omega) (by omega)).calls.mono ?_
  rintro e w8 ⟨_, rfl, hb8, ud, rfl, hud⟩
  rw [HH.out.2.2.2.2.1] at hud
  obtain ⟨d1, d2, d3, d4, rfl, wd, gd⟩ := hud.lit rfl rfl (show md.bad = true from by rw [← HH.out.2.2.2.2.1, ← HH.out.2.2.2.1]; exact H.out.2.2.2.1)
  have Bm_8 := Bm_7.ext (show Ext w7 w8 from (by with_reducible (repeat (first | assumption | exact Ext.refl _ | refine Ext.alloc' ?_ _ | refine Ext.store0 ?_ _ _ | refine Ext.storek ?_ _ _ _ | refine Ext.stores0 ?_ ?_ _ _ | refine Ext.storesk ?_ ?_ _ _ _ | refine Ext.drewN' ?_ _ | refine Ext.drew' ?_ | refine Ext.trans ?_ (by assumption)))))
  have Ba_8 := Ba_7.ext (show Ext w7 w8 from (by with_reducible (repeat (first | assumption | exact Ext.refl _ | refine Ext.alloc' ?_ _ | refine Ext.store0 ?_ _ _ | refine Ext.storek ?_ _ _ _ | refine Ext.stores0 ?_ ?_ _ _ | refine Ext.storesk ?_ ?_ _ _ _ | refine Ext.drewN' ?_ _ | refine Ext.drew' ?_ | refine Ext.trans ?_ (by assumption)))))
  have Bc_8 := Bc_7.ext (show Ext w7 w8 from (by with_reducible (repeat (first | assumption | exact Ext.refl _ | refine Ext.alloc' ?_ _ | refine Ext.store0 ?_ _ _ | refine Ext.storek ?_ _ _ _ | refine Ext.stores0 ?_ ?_ _ _ | refine Ext.storesk ?_ ?_ _ _ _ | refine Ext.drewN' ?_ _ | refine Ext.drew' ?_ | refine Ext.trans ?_ (by assumption)))))
  have Bs_8 := Bs_7.ext (show Ext w7 w8 from (by with_reducible (repeat (first | assumption | exact Ext.refl _ | refine Ext.alloc' ?_ _ | refine Ext.store0 ?_ _ _ | refine Ext.storek ?_ _ _ _ | refine Ext.stores0 ?_ ?_ _ _ | refine Ext.storesk ?_ ?_ _ _ _ | refine Ext.drewN' ?_ _ | refine Ext.drew' ?_ | refine Ext.trans ?_ (by assumption)))))
  clear Bm_7 zm cm0 cm1 cm2 dm0 dm1 dm2 Ba_7 za ca0 ca1 ca2 da0 da1 da2 Bc_7 zc cc0 cc1 cc2 dc0 dc1 dc2 Bs_7 zs cs0 cs1 cs2 ds0 ds1 ds2
  have Bt_8 : Box w8 (w7.heap.size) #[.slice t1 mt.W.length t2, .slice t3 mt.G.length t4, .bool true] 50 := (Box.new _ _ _).ext hb8
  obtain ⟨cm0, cm1, cm2, dm0, dm1, dm2⟩ := cells3 Bm_8
  have zm : w.heap.size < w8.heap.size := Bm_8.lt
  obtain ⟨ca0, ca1, ca2, da0, da1, da2⟩ := cells3 Ba_8
  have za : w4.heap.size < w8.heap.size := Ba_8.lt
  obtain ⟨cc0, cc1, cc2, dc0, dc1, dc2⟩ := cells3 Bc_8
  have zc : w5.heap.size < w8.heap.size := Bc_8.lt
  obtain ⟨cs0, cs1, cs2, ds0, ds1, ds2⟩ := cells3 Bs_8
  have zs : w6.heap.size < w8.heap.size := Bs_8.lt
  obtain ⟨ct0, ct1, ct2, dt0, dt1, dt2⟩ := cells3 Bt_8
  have zt : w7.heap.size < w8.heap.size := Bt_8.lt
  go_wp2_with (fail)
  go_at_call 64
  refine (memLoad_ no _ m (k : Int) _ ((IsMem.mk HB.out hw hg : IsMem no w (.agg #[.slice aw m.W.length cw, .slice (some ⟨ba, oa, none⟩) m.G.length cg, .bool false]) m).ext (by with_reducible (repeat (first | assumption | exact Ext.refl _ | refine Ext.alloc' ?_ _ | refine Ext.store0 ?_ _ _ | refine Ext.storek ?_ _ _ _ | refine Ext.stores0 ?_ ?_ _ _ | refine Ext.storesk ?_ ?_ _ _ _ | refine Ext.drewN' ?_ _ | refine Ext.drew' ?_ | refine Ext.trans ?_ (by assumption))))) hFit no_lt (by omega) (by omega)).calls.mono ?_
  rintro e w9 ⟨_, rfl, hb9, ur, rfl, hur⟩
  rw [HH.out.2.2.2.2.2] at hur
  obtain ⟨r1, r2, r3, r4, rfl, wr, gr⟩ := hur.lit rfl rfl (show mr.bad = false from by rw [← HH.out.2.2.2.2.2]; exact H.out.2.2.2.2)
  have Bm_9 := Bm_8.ext (show Ext w8 w9 from (by with_reducible (repeat (first | assumption | exact Ext.refl _ | refine Ext.alloc' ?_ _ | refine Ext.store0 ?_ _ _ | refine Ext.storek ?_ _ _ _ | refine Ext.stores0 ?_ ?_ _ _ | refine Ext.storesk ?_ ?_ _ _ _ | refine Ext.drewN' ?_ _ | refine Ext.drew' ?_ | refine Ext.trans ?_ (by assumption)))))
  have Ba_9 := Ba_8.ext (show Ext w8 w9 from (by with_reducible (repeat (first | assumption | exact Ext.refl _ | refine Ext.alloc' ?_ _ | refine Ext.store0 ?_ _ _ | refine Ext.storek ?_ _ _ _ | refine Ext.stores0 ?_ ?_ _ _ | refine Ext.storesk ?_ ?_ _ _ _ | refine Ext.drewN' ?_ _ | refine Ext.drew' ?_ | refine Ext.trans ?_ (by assumption)))))
  have Bc_9 := Bc_8.ext (show Ext w8 w9 from (by with_reducible (repeat (first | assumption | exact Ext.refl _ | refine Ext.alloc' ?_ _ | refine Ext.store0 ?_ _ _ | refine Ext.storek ?_ _ _ _ | refine Ext.stores0 ?_ ?_ _ _ | refine Ext.storesk ?_ ?_ _ _ _ | refine Ext.drewN' ?_ _ | refine Ext.drew' ?_ | refine Ext.trans ?_ (by assumption)))))
  have Bs_9 := Bs_8.ext (show Ext w8 w9 from (by with_reducible (repeat (first | assumption | exact Ext.refl _ | refine Ext.alloc' ?_ _ | refine Ext.store0 ?_ _ _ | refine Ext.storek ?_ _ _ _ | refine Ext.stores0 ?_ ?_ _ _ | refine Ext.storesk ?_ ?_ _ _ _ | refine Ext.drewN' ?_ _ | refine Ext.drew' ?_ | refine Ext.trans ?_ (by assumption)))))
  have Bt_9 := Bt_8.ext (show Ext w8 w9 from (by with_reducible (repeat (first | assumption | exact Ext.refl _ | refine Ext.alloc' ?_ _ | refine Ext.store0 ?_ _ _ | refine Ext.storek ?_ _ _ _ | refine Ext.stores0 ?_ ?_ _ _ | refine Ext.storesk ?_ ?_ _ _ _ | refine Ext.drewN' ?_ _ | refine Ext.drew' ?_ | refine Ext.trans ?_ (by assumption)))))
  clear Bm_8 zm cm0 cm1 cm2 dm0 dm1 dm2 Ba_8 za ca0 ca1 ca2 da0 da1 da2 Bc_8 zc cc0 cc1 cc2 dc0 dc1 dc2 Bs_8 zs cs0 cs1 cs2 ds0 ds1 ds2 Bt_8 zt ct0 ct1 ct2 dt0 dt1 dt2
  have Bd_9 : Box w9 (w8.heap.size) #[.slice d1 md.W.length d2, .slice d3 md.G.length d4, .bool true] 50 := (Box.new _ _ _).ext hb9
  obtain ⟨cm0, cm1, cm2, dm0, dm1, dm2⟩ := cells3 Bm_9
  have zm : w.heap.size < w9.heap.size := Bm_9.lt
  obtain ⟨ca0, ca1, ca2, da0, da1, da2⟩ := cells3 Ba_9
  have za : w4.heap.size < w9.heap.size := Ba_9.lt
  obtain ⟨cc0, cc1, cc2, dc0, dc1, dc2⟩ := cells3 Bc_9
  have zc : w5.heap.size < w9.heap.size := Bc_9.lt
  obtain ⟨cs0, cs1, cs2, ds0, ds1, ds2⟩ := cells3 Bs_9
  have zs : w6.heap.size < w9.heap.size := Bs_9.lt
  obtain ⟨ct0, ct1, ct2, dt0, dt1, dt2⟩ := cells3 Bt_9
  have zt : w7.heap.size < w9.heap.size := Bt_9.lt
  obtain ⟨cd0, cd1, cd2, dd0, dd1, dd2⟩ := cells3 Bd_9
  have zd : w8.heap.size < w9.heap.size := Bd_9.lt
  go_wp2_with (fail)
  have hEk : Ext w w9 := (by with_reducible (repeat (first | assumption | exact Ext.refl _ | refine Ext.alloc' ?_ _ | refine Ext.store0 ?_ _ _ | refine Ext.storek ?_ _ _ _ | refine Ext.stores0 ?_ ?_ _ _ | refine Ext.storesk ?_ ?_ _ _ _ | refine Ext.drewN' ?_ _ | refine Ext.drew' ?_ | refine Ext.trans ?_ (by assumption))))
  have eak := cell_ext ea hEk
  have eak1 : w9.cell? ⟨ba, oa + (i : Int).toNat * 1, none⟩ = some (.int .i64 (gi m.G i)) := by simpa using eak
  obtain ⟨W, hW⟩ : ∃ W, W = w9.alloc (.cells #[.slice r1 mr.W.length r2, .slice r3 mr.G.length r4, .bool false] 50 (0, 0)) := ⟨_, rfl⟩
  have hEW : Ext w W := by rw [hW]; exact (by with_reducible (repeat (first | assumption | exact Ext.refl _ | refine Ext.alloc' ?_ _ | refine Ext.store0 ?_ _ _ | refine Ext.storek ?_ _ _ _ | refine Ext.stores0 ?_ ?_ _ _ | refine Ext.storesk ?_ ?_ _ _ _ | refine Ext.drewN' ?_ _ | refine Ext.drew' ?_ | refine Ext.trans ?_ (by assumption))))
  have eaw : W.cell? ⟨ba, oa + (i : Int).toNat * 1, none⟩ = some (.int .i64 (gi m.G i)) := by rw [hW]; exact cell_ext eak1 (Ext.alloc _ _)
  have Dm := Bm_9.alloc (.cells #[.slice r1 mr.W.length r2, .slice r3 mr.G.length r4, .bool false] 50 (0, 0))
  have Da := Ba_9.alloc (.cells #[.slice r1 mr.W.length r2, .slice r3 mr.G.length r4, .bool false] 50 (0, 0))
  have Dc := Bc_9.alloc (.cells #[.slice r1 mr.W.length r2, .slice r3 mr.G.length r4, .bool false] 50 (0, 0))
  have Ds := Bs_9.alloc (.cells #[.slice r1 mr.W.length r2, .slice r3 mr.G.length r4, .bool false] 50 (0, 0))
  have Dt := Bt_9.alloc (.cells #[.slice r1 mr.W.length r2, .slice r3 mr.G.length r4, .bool false] 50 (0, 0))
  have Dd := Bd_9.alloc (.cells #[.slice r1 mr.W.length r2, .slice r3 mr.G.length r4, .bool false] 50 (0, 0))
  have Dr := Box.new w9 #[.slice r1 mr.W.length r2, .slice r3 mr.G.length r4, .bool false] 50
  rw [← hW] at Dm Da Dc Ds Dt Dd Dr
  rw [← hW]
  clear hW
  apply region_lit2 (T := []) (L := []) (X := []) (G := [eqv _, eqv _, eqv _, eqv _, eqv _, eqv (.bool true), eqv _, eqv _, eqv _, eqv _, eqv _, eqv (.bool true), eqv _, eqv _, eqv _, eqv _, eqv _, eqv (.bool true), eqv _, eqv _, eqv _, eqv _, eqv (.bool true), eqv _, eqv _, eqv _, eqv _, eqv _, eqv _, eqv _, eqv _, eqv _, eqv (.bool true), eqv (.bool true), eqv _, eqv _, eqv _, eqv _, eqv _, eqv _, eqv (.bool true), eqv _, eqv _, eqv _, eqv _, eqv (.int .i64 (i : Int)), eqv _, eqv _, eqv (.int .i64 1), eqv (.int .i64 (i : Int)), eqv (.bool true), eqv _, eqv _])
  case hm => kernel_rfl
  case hop =>
    refine ⟨?_, ?_, ?_, ?_, ?_, ?_, ?_, ?_, ?_, ?_, ?_, ?_, ?_, ?_, ?_, ?_, ?_, ?_, ?_, ?_, ?_, ?_, ?_, ?_, ?_, ?_, ?_, ?_, ?_, ?_, ?_, ?_, ?_, ?_, ?_, ?_, ?_, ?_, ?_, ?_, ?_, ?_, ?_, ?_, ?_, ?_, ?_, ?_, ?_, ?_, ?_, ?_, ?_, trivial⟩
    · intro a wa hs hf hd
      have t7 := hf.off 7 (by kernel_rfl) rfl
      exact plain_ rfl (yes_eqv (o_move rfl t7) rfl)
    · intro a wa hs hf hd
      have t85 : a.eval (.tmp 85) = _ := hd.at 0 85 (by kernel_rfl)
      exact plain_ rfl (yes_eqv (o_move rfl t85) rfl)
    · intro a wa hs hf hd
      have t86 : a.eval (.tmp 86) = _ := hd.at 1 86 (by kernel_rfl)
      have t11 := hf.off 11 (by kernel_rfl) rfl
      exact guard_on rfl rfl t86 (yes_eqv (o_fieldAddr rfl Proofs.Try.underlying50 rfl rfl (by kernel_rfl) t11) rfl)
    · intro a wa hs hf hd
      have t86 : a.eval (.tmp 86) = _ := hd.at 1 86 (by kernel_rfl)
      have t87 : a.eval (.tmp 87) = _ := hd.at 2 87 (by kernel_rfl)
      exact guard_on rfl rfl t86 (yes_eqv (o_load1 rfl Proofs.Try.underlying4 rfl t87 ((Da.since hs rfl).cell rfl)) rfl)
    · intro a wa hs hf hd
      have t86 : a.eval (.tmp 86) = _ := hd.at 1 86 (by kernel_rfl)
      have t16 := hf.off 16 (by kernel_rfl) rfl
      exact guard_on rfl rfl t86 (yes_eqv (o_move rfl t16) rfl)
    · intro a wa hs hf hd
      have t86 : a.eval (.tmp 86) = _ := hd.at 1 86 (by kernel_rfl)
      have t88 : a.eval (.tmp 88) = _ := hd.at 3 88 (by kernel_rfl)
      have t89 : a.eval (.tmp 89) = _ := hd.at 4 89 (by kernel_rfl)
      exact guard_on rfl rfl t86 (yes_eqv (o_eqlb rfl Proofs.Try.underlying4 t88 t89 (by simp [hq0])) rfl)
    · intro a wa hs hf hd
      have t86 : a.eval (.tmp 86) = _ := hd.at 1 86 (by kernel_rfl)
      have t90 : a.eval (.tmp 90) = _ := hd.at 5 90 (by kernel_rfl)
      exact plain_ rfl (yes_eqv (o_pick_t rfl t86 t90) rfl)
    · intro a wa hs hf hd
      have t91 : a.eval (.tmp 91) = _ := hd.at 6 91 (by kernel_rfl)
      exact plain_ rfl (yes_eqv (o_move rfl t91) rfl)
    · intro a wa hs hf hd
      have t92 : a.eval (.tmp 92) = _ := hd.at 7 92 (by kernel_rfl)
      have t13 := hf.off 13 (by kernel_rfl) rfl
      exact guard_on rfl rfl t92 (yes_eqv (o_fieldAddr rfl Proofs.Try.underlying50 rfl rfl (by kernel_rfl) t13) rfl)
    · intro a wa hs hf hd
      have t92 : a.eval (.tmp 92) = _ := hd.at 7 92 (by kernel_rfl)
      have t93 : a.eval (.tmp 93) = _ := hd.at 8 93 (by kernel_rfl)
      exact guard_on rfl rfl t92 (yes_eqv (o_load1 rfl Proofs.Try.underlying4 rfl t93 ((Dc.since hs rfl).cell rfl)) rfl)
    · intro a wa hs hf hd
      have t92 : a.eval (.tmp 92) = _ := hd.at 7 92 (by kernel_rfl)
      have t16 := hf.off 16 (by kernel_rfl) rfl
      exact guard_on rfl rfl t92 (yes_eqv (o_move rfl t16) rfl)
    · intro a wa hs hf hd
      have t92 : a.eval (.tmp 92) = _ := hd.at 7 92 (by kernel_rfl)
      have t94 : a.eval (.tmp 94) = _ := hd.at 9 94 (by kernel_rfl)
      have t95 : a.eval (.tmp 95) = _ := hd.at 10 95 (by kernel_rfl)
      exact guard_on rfl rfl t92 (yes_eqv (o_eqlb rfl Proofs.Try.underlying4 t94 t95 (by simp [hq0])) rfl)
    · intro a wa hs hf hd
      have t92 : a.eval (.tmp 92) = _ := hd.at 7 92 (by kernel_rfl)
      have t96 : a.eval (.tmp 96) = _ := hd.at 11 96 (by kernel_rfl)
      exact plain_ rfl (yes_eqv (o_pick_t rfl t92 t96) rfl)
    · intro a wa hs hf hd
      have t97 : a.eval (.tmp 97) = _ := hd.at 12 97 (by kernel_rfl)
      exact plain_ rfl (yes_eqv (o_move rfl t97) rfl)
    · intro a wa hs hf hd
      have t98 : a.eval (.tmp 98) = _ := hd.at 13 98 (by kernel_rfl)
      have t15 := hf.off 15 (by kernel_rfl) rfl
      exact guard_on rfl rfl t98 (yes_eqv (o_fieldAddr rfl Proofs.Try.underlying50 rfl rfl (by kernel_rfl) t15) rfl)
    · intro a wa hs hf hd
      have t98 : a.eval (.tmp 98) = _ := hd.at 13 98 (by kernel_rfl)
      have t99 : a.eval (.tmp 99) = _ := hd.at 14 99 (by kernel_rfl)
      exact guard_on rfl rfl t98 (yes_eqv (o_load1 rfl Proofs.Try.underlying4 rfl t99 ((Ds.since hs rfl).cell rfl)) rfl)
    · intro a wa hs hf hd
      have t98 : a.eval (.tmp 98) = _ := hd.at 13 98 (by kernel_rfl)
      have t16 := hf.off 16 (by kernel_rfl) rfl
      exact guard_on rfl rfl t98 (yes_eqv (o_move rfl t16) rfl)
    · intro a wa hs hf hd
      have t98 : a.eval (.tmp 98) = _ := hd.at 13 98 (by kernel_rfl)
      have t100 : a.eval (.tmp 100) = _ := hd.at 15 100 (by kernel_rfl)
      have t101 : a.eval (.tmp 101) = _ := hd.at 16 101 (by kernel_rfl)
      exact guard_on rfl rfl t98 (yes_eqv (o_eqlb rfl Proofs.Try.underlying4 t100 t101 (by simp [hq0])) rfl)
    · intro a wa hs hf hd
      have t98 : a.eval (.tmp 98) = _ := hd.at 13 98 (by kernel_rfl)
      have t102 : a.eval (.tmp 102) = _ := hd.at 17 102 (by kernel_rfl)
      exact plain_ rfl (yes_eqv (o_pick_t rfl t98 t102) rfl)
    · intro a wa hs hf hd
      have t103 : a.eval (.tmp 103) = _ := hd.at 18 103 (by kernel_rfl)
      exact plain_ rfl (yes_eqv (o_move rfl t103) rfl)
    · intro a wa hs hf hd
      have t104 : a.eval (.tmp 104) = _ := hd.at 19 104 (by kernel_rfl)
      have t20 := hf.off 20 (by kernel_rfl) rfl
      exact guard_on rfl rfl t104 (yes_eqv (o_fieldAddr rfl Proofs.Try.underlying50 rfl rfl (by kernel_rfl) t20) rfl)
    · intro a wa hs hf hd
      have t104 : a.eval (.tmp 104) = _ := hd.at 19 104 (by kernel_rfl)
      have t105 : a.eval (.tmp 105) = _ := hd.at 20 105 (by kernel_rfl)
      exact guard_on rfl rfl t104 (yes_eqv (o_load1 rfl Proofs.Try.underlying4 rfl t105 ((Dr.since hs rfl).cell rfl)) rfl)
    · intro a wa hs hf hd
      have t104 : a.eval (.tmp 104) = _ := hd.at 19 104 (by kernel_rfl)
      have t106 : a.eval (.tmp 106) = _ := hd.at 21 106 (by kernel_rfl)
      exact guard_on rfl rfl t104 (yes_eqv (o_not rfl t106 (by simp [hq0])) rfl)
    · intro a wa hs hf hd
      have t104 : a.eval (.tmp 104) = _ := hd.at 19 104 (by kernel_rfl)
      have t107 : a.eval (.tmp 107) = _ := hd.at 22 107 (by kernel_rfl)
      exact plain_ rfl (yes_eqv (o_pick_t rfl t104 t107) rfl)
    · intro a wa hs hf hd
      have t108 : a.eval (.tmp 108) = _ := hd.at 23 108 (by kernel_rfl)
      exact plain_ rfl (yes_eqv (o_move rfl t108) rfl)
    · intro a wa hs hf hd
      have t109 : a.eval (.tmp 109) = _ := hd.at 24 109 (by kernel_rfl)
      have t17 := hf.off 17 (by kernel_rfl) rfl
      exact guard_on rfl rfl t109 (yes_eqv (o_fieldAddr rfl Proofs.Try.underlying50 rfl rfl (by kernel_rfl) t17) rfl)
    · intro a wa hs hf hd
      have t109 : a.eval (.tmp 109) = _ := hd.at 24 109 (by kernel_rfl)
      have t110 : a.eval (.tmp 110) = _ := hd.at 25 110 (by kernel_rfl)
      exact guard_on rfl rfl t109 (yes_eqv (o_load1 rfl Proofs.Try.underlying4 rfl t110 ((Dt.since hs rfl).cell rfl)) rfl)
    · intro a wa hs hf hd
      have t109 : a.eval (.tmp 109) = _ := hd.at 24 109 (by kernel_rfl)
      have t3 := hf.off 3 (by kernel_rfl) rfl
      exact guard_on rfl rfl t109 (yes_eqv (o_fieldAddr rfl Proofs.Try.underlying50 rfl rfl (by kernel_rfl) t3) rfl)
    · intro a wa hs hf hd
      have t109 : a.eval (.tmp 109) = _ := hd.at 24 109 (by kernel_rfl)
      have t112 : a.eval (.tmp 112) = _ := hd.at 27 112 (by kernel_rfl)
      exact guard_on rfl rfl t109 (yes_eqv (o_load1 rfl Proofs.Try.underlying48 rfl t112 ((Dm.since hs rfl).cell rfl)) rfl)
    · intro a wa hs hf hd
      have t109 : a.eval (.tmp 109) = _ := hd.at 24 109 (by kernel_rfl)
      have t8 := hf.off 8 (by kernel_rfl) rfl
      exact guard_on rfl rfl t109 (yes_eqv (o_move rfl t8) rfl)
    · intro a wa hs hf hd
      have t109 : a.eval (.tmp 109) = _ := hd.at 24 109 (by kernel_rfl)
      have t113 : a.eval (.tmp 113) = _ := hd.at 28 113 (by kernel_rfl)
      have t114 : a.eval (.tmp 114) = _ := hd.at 29 114 (by kernel_rfl)
      exact guard_on rfl rfl t109 (yes_eqv (o_indexAddr (sz := 1) rfl Proofs.Try.underlying48 (by kernel_rfl) t113 t114 (by omega) (by omega)) rfl)
    · intro a wa hs hf hd
      have t109 : a.eval (.tmp 109) = _ := hd.at 24 109 (by kernel_rfl)
      have t115 : a.eval (.tmp 115) = _ := hd.at 30 115 (by kernel_rfl)
      exact guard_on rfl rfl t109 (yes_eqv (o_load1 rfl Proofs.Try.underlying3 rfl t115 (cell_since eaw hs rfl)) rfl)
    · intro a wa hs hf hd
      have t109 : a.eval (.tmp 109) = _ := hd.at 24 109 (by kernel_rfl)
      have t116 : a.eval (.tmp 116) = _ := hd.at 31 116 (by kernel_rfl)
      exact guard_on rfl rfl t109 (yes_eqv (o_neq rfl t116 rfl (by simp [hq0])) rfl)
    · intro a wa hs hf hd
      have t109 : a.eval (.tmp 109) = _ := hd.at 24 109 (by kernel_rfl)
      have t111 : a.eval (.tmp 111) = _ := hd.at 26 111 (by kernel_rfl)
      have t117 : a.eval (.tmp 117) = _ := hd.at 32 117 (by kernel_rfl)
      exact guard_on rfl rfl t109 (yes_eqv (o_eqlb rfl Proofs.Try.underlying4 t111 t117 (by simp [hq0])) rfl)
    · intro a wa hs hf hd
      have t109 : a.eval (.tmp 109) = _ := hd.at 24 109 (by kernel_rfl)
      have t118 : a.eval (.tmp 118) = _ := hd.at 33 118 (by kernel_rfl)
      exact plain_ rfl (yes_eqv (o_pick_t rfl t109 t118) rfl)
    · intro a wa hs hf hd
      have t119 : a.eval (.tmp 119) = _ := hd.at 34 119 (by kernel_rfl)
      exact plain_ rfl (yes_eqv (o_move rfl t119) rfl)
    · intro a wa hs hf hd
      have t120 : a.eval (.tmp 120) = _ := hd.at 35 120 (by kernel_rfl)
      have t18 := hf.off 18 (by kernel_rfl) rfl
      exact guard_on rfl rfl t120 (yes_eqv (o_fieldAddr rfl Proofs.Try.underlying50 rfl rfl (by kernel_rfl) t18) rfl)
    · intro a wa hs hf hd
      have t120 : a.eval (.tmp 120) = _ := hd.at 35 120 (by kernel_rfl)
      have t121 : a.eval (.tmp 121) = _ := hd.at 36 121 (by kernel_rfl)
      exact guard_on rfl rfl t120 (yes_eqv (o_load1 rfl Proofs.Try.underlying4 rfl t121 ((Dd.since hs rfl).cell rfl)) rfl)
    · intro a wa hs hf hd
      have t120 : a.eval (.tmp 120) = _ := hd.at 35 120 (by kernel_rfl)
      have t17 := hf.off 17 (by kernel_rfl) rfl
      exact guard_on rfl rfl t120 (yes_eqv (o_fieldAddr rfl Proofs.Try.underlying50 rfl rfl (by kernel_rfl) t17) rfl)
    · intro a wa hs hf hd
      have t120 : a.eval (.tmp 120) = _ := hd.at 35 120 (by kernel_rfl)
      have t123 : a.eval (.tmp 123) = _ := hd.at 38 123 (by kernel_rfl)
      exact guard_on rfl rfl t120 (yes_eqv (o_load1 rfl Proofs.Try.underlying4 rfl t123 ((Dt.since hs rfl).cell rfl)) rfl)
    · intro a wa hs hf hd
      have t120 : a.eval (.tmp 120) = _ := hd.at 35 120 (by kernel_rfl)
      have t122 : a.eval (.tmp 122) = _ := hd.at 37 122 (by kernel_rfl)
      have t124 : a.eval (.tmp 124) = _ := hd.at 39 124 (by kernel_rfl)
      exact guard_on rfl rfl t120 (yes_eqv (o_eqlb rfl Proofs.Try.underlying4 t122 t124 (by simp [hq0])) rfl)
    · intro a wa hs hf hd
      have t120 : a.eval (.tmp 120) = _ := hd.at 35 120 (by kernel_rfl)
      have t125 : a.eval (.tmp 125) = _ := hd.at 40 125 (by kernel_rfl)
      exact plain_ rfl (yes_eqv (o_pick_t rfl t120 t125) rfl)
    · intro a wa hs hf hd
      have t126 : a.eval (.tmp 126) = _ := hd.at 41 126 (by kernel_rfl)
      exact plain_ rfl (yes_eqv (o_move rfl t126) rfl)
    · intro a wa hs hf hd
      have t127 : a.eval (.tmp 127) = _ := hd.at 42 127 (by kernel_rfl)
      have t3 := hf.off 3 (by kernel_rfl) rfl
      exact guard_on rfl rfl t127 (yes_eqv (o_load3 rfl Proofs.Try.underlying50 rfl (by kernel_rfl) t3 ((Dm.since hs rfl).cell rfl) ((Dm.since hs rfl).cell rfl) ((Dm.since hs rfl).cell rfl)) rfl)
    · intro a wa hs hf hd
      have t127 : a.eval (.tmp 127) = _ := hd.at 42 127 (by kernel_rfl)
      have t10 := hf.off 10 (by kernel_rfl) rfl
      exact guard_on rfl rfl t127 (yes_eqv (o_move rfl t10) rfl)
    · intro a wa hs hf hd
      have t127 : a.eval (.tmp 127) = _ := hd.at 42 127 (by kernel_rfl)
      have t128 : a.eval (.tmp 128) = _ := hd.at 43 128 (by kernel_rfl)
      have t129 : a.eval (.tmp 129) = _ := hd.at 44 129 (by kernel_rfl)
      exact guard_on rfl rfl t127 (yes_gives (show Gives Proofs.Try.prog 59 #[.agg #[.slice aw m.W.length cw, .slice (some ⟨ba, oa, none⟩) m.G.length cg, .bool false], .int .i64 yy] _ (eqv (.int .i64 (i : Int))) by rw [← H.out.2.1]; exact node_ no _ m yy _ ((IsMem.mk HB.out hw hg : IsMem no w (.agg #[.slice aw m.W.length cw, .slice (some ⟨ba, oa, none⟩) m.G.length cg, .bool false]) m).ext (hEW.trans (Since.to_ext hs))) (by omega) (by omega)) rfl rfl Proofs.Try.func59 (by kernel_rfl) (by kernel_rfl) (by simp only [List.map_toArray, List.map_cons, List.map_nil, t128, t129]) rfl)
    · intro a wa hs hf hd
      have t127 : a.eval (.tmp 127) = _ := hd.at 42 127 (by kernel_rfl)
      have t8 := hf.off 8 (by kernel_rfl) rfl
      exact guard_on rfl rfl t127 (yes_eqv (o_move rfl t8) rfl)
    · intro a wa hs hf hd
      have t127 : a.eval (.tmp 127) = _ := hd.at 42 127 (by kernel_rfl)
      have t9 := hf.off 9 (by kernel_rfl) rfl
      exact guard_on rfl rfl t127 (yes_eqv (o_move rfl t9) rfl)
    · intro a wa hs hf hd
      have t127 : a.eval (.tmp 127) = _ := hd.at 42 127 (by kernel_rfl)
      have t132 : a.eval (.tmp 132) = _ := hd.at 47 132 (by kernel_rfl)
      exact guard_on rfl rfl t127 (yes_eqv (o_min rfl t132 (by split <;> omega)) rfl)
    · intro a wa hs hf hd
      have t127 : a.eval (.tmp 127) = _ := hd.at 42 127 (by kernel_rfl)
      have t131 : a.eval (.tmp 131) = _ := hd.at 46 131 (by kernel_rfl)
      have t133 : a.eval (.tmp 133) = _ := hd.at 48 133 (by kernel_rfl)
      exact guard_on rfl rfl t127 (yes_eqv (o_mul rfl t131 t133 (by rw [IntKind.wrap_i64]; omega)) rfl)
    · intro a wa hs hf hd
      have t127 : a.eval (.tmp 127) = _ := hd.at 42 127 (by kernel_rfl)
      have t130 : a.eval (.tmp 130) = _ := hd.at 45 130 (by kernel_rfl)
      have t134 : a.eval (.tmp 134) = _ := hd.at 49 134 (by kernel_rfl)
      exact guard_on rfl rfl t127 (yes_eqv (o_eql rfl t130 t134 (by simp [hq0])) rfl)
    · intro a wa hs hf hd
      have t127 : a.eval (.tmp 127) = _ := hd.at 42 127 (by kernel_rfl)
      have t135 : a.eval (.tmp 135) = _ := hd.at 50 135 (by kernel_rfl)
      exact plain_ rfl (yes_eqv (o_pick_t rfl t127 t135) rfl)
    · intro a wa hs hf hd
      have t136 : a.eval (.tmp 136) = _ := hd.at 51 136 (by kernel_rfl)
      exact plain_ rfl (yes_eqv (o_assign rfl t136) rfl)
  case hG => exact ⟨stable_eqv _, stable_eqv _, stable_eqv _, stable_eqv _, stable_eqv _, stable_eqv _, stable_eqv _, stable_eqv _, stable_eqv _, stable_eqv _, stable_eqv _, stable_eqv _, stable_eqv _, stable_eqv _, stable_eqv _, stable_eqv _, stable_eqv _, stable_eqv _, stable_eqv _, stable_eqv _, stable_eqv _, stable_eqv _, stable_eqv _, stable_eqv _, stable_eqv _, stable_eqv _, stable_eqv _, stable_eqv _, stable_eqv _, stable_eqv _, stable_eqv _, stable_eqv _, stable_eqv _, stable_eqv _, stable_eqv _, stable_eqv _, stable_eqv _, stable_eqv _, stable_eqv _, stable_eqv _, stable_eqv _, stable_eqv _, stable_eqv _, stable_eqv _, stable_eqv _, stable_eqv _, stable_eqv _, stable_eqv _, stable_eqv _, stable_eqv _, stable_eqv _, stable_eqv _, stable_eqv _, trivial⟩
  case hc => kernel_rfl
  case hfin =>
    intro v2 hs2
    rintro _ rfl _ rfl _ rfl _ rfl _ rfl _ rfl _ rfl _ rfl _ rfl _ rfl _ rfl _ rfl _ rfl _ rfl _ rfl _ rfl _ rfl _ rfl _ rfl _ rfl _ rfl _ rfl _ rfl _ rfl _ rfl _ rfl _ rfl _ rfl _ rfl _ rfl _ rfl _ rfl _ rfl _ rfl _ rfl _ rfl _ rfl _ rfl _ rfl _ rfl _ rfl _ rfl _ rfl _ rfl _ rfl _ rfl _ rfl _ rfl _ rfl _ rfl _ rfl _ rfl _ rfl
    rintro _ rfl
    simp only [Act.put, List.setIfInBounds_toArray, List.set_cons_zero, List.set_cons_succ]
    go_wp2
    go_ret
    exact ⟨_, rfl, hEW.trans (Since.to_ext hs2), rfl⟩
set_option maxHeartbeats 1000000 in
set_option maxRecDepth 100000 in
theorem memGuards_c (aw ag : Option Addr) (cw cg : Nat) (m : Arena) (x y : Int) (i : Nat) (w : World) (hw : IsInts no w (.slice aw m.W.length cw) m.W) (hg : IsInts no w (.slice ag m.G.length cg) m.G) (hb : false = m.bad) (hm : mayD m 60 = true)
    (hi : 1 + x % ((m.G.length : Int) - 1) = i) (hi1 : 1 ≤ i) (hi2 : i < m.G.length) (hk : y % 4 = 0) (hx0 : 0 ≤ x) (hx1 : x ≤ 255) (hy0 : 0 ≤ y) (hy1 : y ≤ 255) (hq0 : gi m.G i = 0) :
    Gives Proofs.Try.prog 14 #[.agg #[.slice aw m.W.length cw, .slice ag m.G.length cg, .bool false], .int .u8 x, .int .u8 y] w (eqv (.bool true)) := by
  have km := fun (w' : World) (e : Ext w w') => memMay_ no _ m 60 (by omega) w' ((IsMem.mk hb hw hg : IsMem no w (.agg #[.slice aw m.W.length cw, .slice ag m.G.length cg, .bool false]) m).ext e)
  rw [hm] at km
  have hFit := Fits.of_may hm
  have hl3 := hFit.2.2
  have HL := Lib.hid hFit.1
  obtain ⟨_, _, e0, rg, lg, cgc⟩ := hg.opened
  cases e0
  obtain ⟨ba, oa, rfl, xa, na, ea⟩ := cgc i hi2
  have g0 : (gi m.G i == 0) = true := by simp [hq0]
  have hz : ((m.G.length : Int) - 1 == 0) = false := by simp; omega
  obtain ⟨yy, hyy⟩ : ∃ yy, (128 : Int) + 4 * ((i : Int) - 1) + 0 = yy := ⟨_, rfl⟩
  have fb : badAt m yy = false := by rw [← hyy, show (128 : Int) + 4 * ((i : Int) - 1) + 0 = 128 + 4 * ((i : Int) - 1) + ((0 : Nat) : Int) from rfl, badAt_at hFit hi1 hi2 (by omega), ← hb]; simp [hq0]
  have fn : nodeD m.W.length yy = 0 := by rw [← hyy, show (128 : Int) + 4 * ((i : Int) - 1) + 0 = 128 + 4 * ((i : Int) - 1) + ((0 : Nat) : Int) from rfl, nodeD_at hFit hi1 hi2 (by omega)]; simp
  have ft : turnIs m i 1 = true := by rw [turnIs_live hi1 hi2]; simp [hq0]
  have ftb : (turnMD m i 1).bad = false := by rw [turnMD_bad, ft, ← hb]; rfl
  have fd : badAt (turnMD m i 1) yy = false := by
    rw [← hyy, show (128 : Int) + 4 * ((i : Int) - 1) + 0 = 128 + 4 * ((i : Int) - 1) + ((0 : Nat) : Int) from rfl, badAt_at (hFit.same (turnMD_len _ _ _)) hi1 (by rw [(turnMD_len _ _ _).2]; exact hi2) (by omega), ftb]
    have e : gi (turnMD m i 1).G i = 1 := by unfold turnMD; rw [ft]; simp [gi_set _ _ _ _ hi2]
    rw [e]; simp
  have fr : badAt m 0 = false := (badAt_root hFit (k := 0) (by omega)).trans hb.symm
  have y0 : -1000000 ≤ yy := by omega
  have y1 : yy ≤ 1000000 := by omega
  have HY := Lib.hid hyy
  have H := Lib.hid (And.intro fb (And.intro fn (And.intro ftb (And.intro fd fr))))
  have HB := Lib.hid hb
  clear hb hyy fb fn ft ftb fd fr
  go_enter Proofs.Try.func14, Proofs.Try.ntmps14
  go_wp2_with (fail)
  go_at_call 49
  refine (shown2_ _).calls.mono ?_
  rintro e w1 ⟨_, rfl, hb1, rfl⟩
  have Bm_1 : Box w1 (w.heap.size) #[.slice aw m.W.length cw, .slice (some ⟨ba, oa, none⟩) m.G.length cg, .bool false] 50 := (Box.new _ _ _).ext hb1
  obtain ⟨cm0, cm1, cm2, dm0, dm1, dm2⟩ := cells3 Bm_1
  have zm : w.heap.size < w1.heap.size := Bm_1.lt
  go_wp2_with (fail)
  go_at_call 63
  refine (km _ (by with_reducible (repeat (first | assumption | exact Ext.refl _ | refine Ext.alloc' ?_ _ | refine Ext.store0 ?_ _ _ | refine Ext.storek ?_ _ _ _ | refine Ext.stores0 ?_ ?_ _ _ | refine Ext.storesk ?_ ?_ _ _ _ | refine Ext.drewN' ?_ _ | refine Ext.drew' ?_ | refine Ext.trans ?_ (by assumption))))).calls.mono ?_
  rintro e w2 ⟨_, rfl, hb2, rfl⟩
  have Bm_2 := Bm_1.ext (show Ext w1 w2 from (by with_reducible (repeat (first | assumption | exact Ext.refl _ | refine Ext.alloc' ?_ _ | refine Ext.store0 ?_ _ _ | refine Ext.storek ?_ _ _ _ | refine Ext.stores0 ?_ ?_ _ _ | refine Ext.storesk ?_ ?_ _ _ _ | refine Ext.drewN' ?_ _ | refine Ext.drew' ?_ | refine Ext.trans ?_ (by assumption)))))
  clear Bm_1 zm cm0 cm1 cm2 dm0 dm1 dm2
  obtain ⟨cm0, cm1, cm2, dm0, dm1, dm2⟩ := cells3 Bm_2
  have zm : w.heap.size < w2.heap.size := Bm_2.lt
  have ea1 := cell_ext ea (show Ext w w2 from (by with_reducible (repeat (first | assumption | exact Ext.refl _ | refine Ext.alloc' ?_ _ | refine Ext.store0 ?_ _ _ | refine Ext.storek ?_ _ _ _ | refine Ext.stores0 ?_ ?_ _ _ | refine Ext.storesk ?_ ?_ _ _ _ | refine Ext.drewN' ?_ _ | refine Ext.drew' ?_ | refine Ext.trans ?_ (by assumption)))))
  go_wp2_with (fail)
  go_at_call 57
  refine (atF_ i 0 _ (by omega) (by omega) (by omega) (by omega)).calls.mono ?_
  rintro e w3 ⟨_, rfl, hb3, rfl⟩
  rw [HY.out]
  have Bm_3 := Bm_2.ext (show Ext w2 w3 from (by with_reducible (repeat (first | assumption | exact Ext.refl _ | refine Ext.alloc' ?_ _ | refine Ext.store0 ?_ _ _ | refine Ext.storek ?_ _ _ _ | refine Ext.stores0 ?_ ?_ _ _ | refine Ext.storesk ?_ ?_ _ _ _ | refine Ext.drewN' ?_ _ | refine Ext.drew' ?_ | refine Ext.trans ?_ (by assumption)))))
  clear Bm_2 zm cm0 cm1 cm2 dm0 dm1 dm2
  obtain ⟨cm0, cm1, cm2, dm0, dm1, dm2⟩ := cells3 Bm_3
  have zm : w.heap.size < w3.heap.size := Bm_3.lt
  obtain ⟨ma, hma⟩ : ∃ ma, touchD m yy = ma := ⟨_, rfl⟩
  obtain ⟨mc, hmc⟩ : ∃ mc, casD m yy 0 0 = mc := ⟨_, rfl⟩
  obtain ⟨ms, hms⟩ : ∃ ms, storeD m yy 5 = ms := ⟨_, rfl⟩
  obtain ⟨mt, hmt⟩ : ∃ mt, turnMD m i 1 = mt := ⟨_, rfl⟩
  obtain ⟨md, hmd⟩ : ∃ md, touchD mt yy = md := ⟨_, rfl⟩
  obtain ⟨mr, hmr⟩ : ∃ mr, touchD m 0 = mr := ⟨_, rfl⟩
  have HH := Lib.hid (And.intro hma (And.intro hmc (And.intro hms (And.intro hmt (And.intro hmd hmr)))))
  clear hma hmc hms hmt hmd hmr
  go_wp2_with (fail)
  go_at_call 64
  refine (memLoad_ no _ m yy _ ((IsMem.mk HB.out hw hg : IsMem no w (.agg #[.slice aw m.W.length cw, .slice (some ⟨ba, oa, none⟩) m.G.length cg, .bool false]) m).ext (by with_reducible (repeat (first | assumption | exact Ext.refl _ | refine Ext.alloc' ?_ _ | refine Ext.store0 ?_ _ _ | refine Ext.storek ?_ _ _ _ | refine Ext.stores0 ?_ ?_ _ _ | refine Ext.storesk ?_ ?_ _ _ _ | refine Ext.drewN' ?_ _ | refine Ext.drew' ?_ | refine Ext.trans ?_ (by assumption))))) hFit no_lt (by omega) (by omega)).calls.mono ?_
  rintro e w4 ⟨_, rfl, hb4, ua, rfl, hua⟩
  rw [HH.out.1] at hua
  obtain ⟨a1, a2, a3, a4, rfl, wa, ga⟩ := hua.lit rfl rfl (show ma.bad = false from by rw [← HH.out.1]; exact H.out.1)
  have Bm_4 := Bm_3.ext (show Ext w3 w4 from (by with_reducible (repeat (first | assumption | exact Ext.refl _ | refine Ext.alloc' ?_ _ | refine Ext.store0 ?_ _ _ | refine Ext.storek ?_ _ _ _ | refine Ext.stores0 ?_ ?_ _ _ | refine Ext.storesk ?_ ?_ _ _ _ | refine Ext.drewN' ?_ _ | refine Ext.drew' ?_ | refine Ext.trans ?_ (by assumption)))))
  clear Bm_3 zm cm0 cm1 cm2 dm0 dm1 dm2
  obtain ⟨cm0, cm1, cm2, dm0, dm1, dm2⟩ := cells3 Bm_4
  have zm : w.heap.size < w4.heap.size := Bm_4.lt
  go_wp2_with (fail)
  go_at_call 66
  refine (memCas_ no _ m yy 0 0 _ ((IsMem.mk HB.out hw hg : IsMem no w (.agg #[.slice aw m.W.length cw, .slice (some ⟨ba, oa, none⟩) m.G.length cg, .bool false]) m).ext (by with_reducible (repeat (first | assumption | exact Ext.refl _ | refine Ext.alloc' ?_ _ | refine Ext.store0 ?_ _ _ | refine Ext.storek ?_ _ _ _ | refine Ext.stores0 ?_ ?_ _ _ | refine Ext.storesk ?_ ?_ _ _ _ | refine Ext.drewN' ?_ _ | refine Ext.drew' ?_ | refine Ext.trans ?_ (by assumption))))) hFit no_lt (by omega) (by omega)).calls.mono ?_
  rintro e w5 ⟨_, rfl, hb5, uc, rfl, huc⟩
  rw [HH.out.2.1] at huc
  obtain ⟨c1, c2, c3, c4, rfl, wc, gc⟩ := huc.lit rfl rfl (show mc.bad = false from by rw [← HH.out.2.1, casD_bad]; exact H.out.1)
  have Bm_5 := Bm_4.ext (show Ext w4 w5 from (by with_reducible (repeat (first | assumption | exact Ext.refl _ | refine Ext.alloc' ?_ _ | refine Ext.store0 ?_ _ _ | refine Ext.storek ?_ _ _ _ | refine Ext.stores0 ?_ ?_ _ _ | refine Ext.storesk ?_ ?_ _ _ _ | refine Ext.drewN' ?_ _ | refine Ext.drew' ?_ | refine Ext.trans ?_ (by assumption)))))
  clear Bm_4 zm cm0 cm1 cm2 dm0 dm1 dm2
  have Ba_5 : Box w5 (w4.heap.size) #[.slice a1 ma.W.length a2, .slice a3 ma.G.length a4, .bool false] 50 := (Box.new _ _ _).ext hb5
  obtain ⟨cm0, cm1, cm2, dm0, dm1, dm2⟩ := cells3 Bm_5
  have zm : w.heap.size < w5.heap.size := Bm_5.lt
  obtain ⟨ca0, ca1, ca2, da0, da1, da2⟩ := cells3 Ba_5
  have za : w4.heap.size < w5.heap.size := Ba_5.lt
  go_wp2_with (fail)
  go_at_call 68
  refine (memStore_ no _ m yy 5 _ ((IsMem.mk HB.out hw hg : IsMem no w (.agg #[.slice aw m.W.length cw, .slice (some ⟨ba, oa, none⟩) m.G.length cg, .bool false]) m).ext (by with_reducible (repeat (first | assumption | exact Ext.refl _ | refine Ext.alloc' ?_ _ | refine Ext.store0 ?_ _ _ | refine Ext.storek ?_ _ _ _ | refine Ext.stores0 ?_ ?_ _ _ | refine Ext.storesk ?_ ?_ _ _ _ | refine Ext.drewN' ?_ _ | refine Ext.drew' ?_ | refine Ext.trans ?_ (by assumption))))) hFit no_lt (by omega) (by omega)).calls.mono ?_
  rintro e w6 ⟨_, rfl, hb6, hus⟩
  rw [HH.out.2.2.1] at hus
  obtain ⟨s1, s2, s3, s4, rfl, ws, gs⟩ := hus.lit rfl rfl (show ms.bad = false from by rw [← HH.out.2.2.1]; exact H.out.1)
  have Bm_6 := Bm_5.ext (show Ext w5 w6 from (by with_reducible (repeat (first | assumption | exact Ext.refl _ | refine Ext.alloc' ?_ _ | refine Ext.store0 ?_ _ _ | refine Ext.storek ?_ _ _ _ | refine Ext.stores0 ?_ ?_ _ _ | refine Ext.storesk ?_ ?_ _ _ _ | refine Ext.drewN' ?_ _ | refine Ext.drew' ?_ | refine Ext.trans ?_ (by assumption)))))
  have Ba_6 := Ba_5.ext (show Ext w5 w6 from (by with_reducible (repeat (first | assumption | exact Ext.refl _ | refine Ext.alloc' ?_ _ | refine Ext.store0 ?_ _ _ | refine Ext.storek ?_ _ _ _ | refine Ext.stores0 ?_ ?_ _ _ | refine Ext.storesk ?_ ?_ _ _ _ | refine Ext.drewN' ?_ _ | refine Ext.drew' ?_ | refine Ext.trans ?_ (by assumption)))))
  clear Bm_5 zm cm0 cm1 cm2 dm0 dm1 dm2 Ba_5 za ca0 ca1 ca2 da0 da1 da2
  have Bc_6 : Box w6 (w5.heap.size) #[.slice c1 mc.W.length c2, .slice c3 mc.G.length c4, .bool false] 50 := (Box.new _ _ _).ext hb6
  obtain ⟨cm0, cm1, cm2, dm0, dm1, dm2⟩ := cells3 Bm_6
  have zm : w.heap.size < w6.heap.size := Bm_6.lt
  obtain ⟨ca0, ca1, ca2, da0, da1, da2⟩ := cells3 Ba_6
  have za : w4.heap.size < w6.heap.size := Ba_6.lt
  obtain ⟨cc0, cc1, cc2, dc0, dc1, dc2⟩ := cells3 Bc_6
  have zc : w5.heap.size < w6.heap.size := Bc_6.lt
  have ea2 := cell_ext ea (show Ext w w6 from (by with_reducible (repeat (first | assumption | exact Ext.refl _ | refine Ext.alloc' ?_ _ | refine Ext.store0 ?_ _ _ | refine Ext.storek ?_ _ _ _ | refine Ext.stores0 ?_ ?_ _ _ | refine Ext.storesk ?_ ?_ _ _ _ | refine Ext.drewN' ?_ _ | refine Ext.drew' ?_ | refine Ext.trans ?_ (by assumption)))))
  have zg : ba < w6.heap.size := World.block_lt_of_cell? _ _ ea2
  go_wp2_with (fail)
  go_at_call 70
  refine (memTurn_ no _ m i 1 _ ((IsMem.mk HB.out hw hg : IsMem no w (.agg #[.slice aw m.W.length cw, .slice (some ⟨ba, oa, none⟩) m.G.length cg, .bool false]) m).ext (by with_reducible (repeat (first | assumption | exact Ext.refl _ | refine Ext.alloc' ?_ _ | refine Ext.store0 ?_ _ _ | refine Ext.storek ?_ _ _ _ | refine Ext.stores0 ?_ ?_ _ _ | refine Ext.storesk ?_ ?_ _ _ _ | refine Ext.drewN' ?_ _ | refine Ext.drew' ?_ | refine Ext.trans ?_ (by assumption))))) hFit no_lt).calls.mono ?_
  rintro e w7 ⟨_, rfl, hb7, hut⟩
  rw [HH.out.2.2.2.1] at hut
  obtain ⟨t1, t2, t3, t4, rfl, wt, gt⟩ := hut.lit rfl rfl (show mt.bad = false from by rw [← HH.out.2.2.2.1]; exact H.out.2.2.1)
  have Bm_7 := Bm_6.ext (show Ext w6 w7 from (by with_reducible (repeat (first | assumption | exact Ext.refl _ | refine Ext.alloc' ?_ _ | refine Ext.store0 ?_ _ _ | refine Ext.storek ?_ _ _ _ | refine Ext.stores0 ?_ ?_ _ _ | refine Ext.storesk ?_ ?_ _ _ _ | refine Ext.drewN' ?_ _ | refine Ext.drew' ?_ | refine Ext.trans ?_ (by assumption)))))
  have Ba_7 := Ba_6.ext (show Ext w6 w7 from (by with_reducible (repeat (first | assumption | exact Ext.refl _ | refine Ext.alloc' ?_ _ | refine Ext.store0 ?_ _ _ | refine Ext.storek ?_ _ _ _ | refine Ext.stores0 ?_ ?_ _ _ | refine Ext.storesk ?_ ?_ _ _ _ | refine Ext.drewN' ?_ _ | refine Ext.drew' ?_ | refine Ext.trans ?_ (by assumption)))))
  have Bc_7 := Bc_6.ext (show Ext w6 w7 from (by with_reducible (repeat (first | assumption | exact Ext.refl _ | refine Ext.alloc' ?_ _ | refine Ext.store0 ?_ _ _ | refine Ext.storek ?_ _ _ _ | refine Ext.stores0 ?_ ?_ _ _ | refine Ext.storesk ?_ ?_ _ _ _ | refine Ext.drewN' ?_ _ | refine Ext.drew' ?_ | refine Ext.trans ?_ (by assumption)))))
  clear Bm_6 zm cm0 cm1 cm2 dm0 dm1 dm2 Ba_6 za ca0 ca1 ca2 da0 da1 da2 Bc_6 zc cc0 cc1 cc2 dc0 dc1 dc2
  have Bs_7 : Box w7 (w6.heap.size) #[.slice s1 ms.W.length s2, .slice s3 ms.G.length s4, .bool false] 50 := (Box.new _ _ _).ext hb7
  obtain ⟨cm0, cm1, cm2, dm0, dm1, dm2⟩ := cells3 Bm_7
  have zm : w.heap.size < w7.heap.size := Bm_7.lt
  obtain ⟨ca0, ca1, ca2, da0, da1, da2⟩ := cells3 Ba_7
  have za : w4.heap.size < w7.heap.size := Ba_7.lt
  obtain ⟨cc0, cc1, cc2, dc0, dc1, dc2⟩ := cells3 Bc_7
  have zc : w5.heap.size < w7.heap.size := Bc_7.lt
  obtain ⟨cs0, cs1, cs2, ds0, ds1, ds2⟩ := cells3 Bs_7
  have zs : w6.heap.size < w7.heap.size := Bs_7.lt
  go_wp2_with (fail)
  go_at_call 64
  refine (memLoad_ no _ mt yy _ ((IsMem.mk (show false = mt.bad by rw [← HH.out.2.2.2.1, H.out.2.2.1]) wt gt : IsMem no w7 (.agg #[.slice t1 mt.W.length t2, .slice t3 mt.G.length t4, .bool false]) mt).ext (by with_reducible (repeat (first | assumption | exact Ext.refl _ | refine Ext.alloc' ?_ _ | refine Ext.store0 ?_ _ _ | refine Ext.storek ?_ _ _ _ | refine Ext.stores0 ?_ ?_ _ _ | refine Ext.storesk ?_ ?_ _ _ _ | refine Ext.drewN' ?_ _ | refine Ext.drew' ?_ | refine Ext.trans ?_ (by assumption))))) (by rw [← HH.out.2.2.2.1]; exact hFit.same (turnMD_len _ _ _)) no_lt (by omega) (by omega)).calls.mono ?_
  rintro e w8 ⟨_, rfl, hb8, ud, rfl, hud⟩
  rw [HH.out.2.2.2.2.1] at hud
  obtain ⟨d1, d2, d3, d4, rfl, wd, gd⟩ := hud.lit rfl rfl (show md.bad = false from by rw [← HH.out.2.2.2.2.1, ← HH.out.2.2.2.1]; exact H.out.2.2.2.1)
  have Bm_8 := Bm_7.ext (show Ext w7 w8 from (by with_reducible (repeat (first | assumption | exact Ext.refl _ | refine Ext.alloc' ?_ _ | refine Ext.store0 ?_ _ _ | refine Ext.storek ?_ _ _ _ | refine Ext.stores0 ?_ ?_ _ _ | refine Ext.storesk ?_ ?_ _ _ _ | refine Ext.drewN' ?_ _ | refine Ext.drew' ?_ | refine Ext.trans ?_ (by assumption)))))
  have Ba_8 := Ba_7.ext (show Ext w7 w8 from (by with_reducible (repeat (first | assumption | exact Ext.refl _ | refine Ext.alloc' ?_ _ | refine Ext.store0 ?_ _ _ | refine Ext.storek ?_ _ _ _ | refine Ext.stores0 ?_ ?_ _ _ | refine Ext.storesk ?_ ?_ _ _ _ | refine Ext.drewN' ?_ _ | refine Ext.drew' ?_ | refine Ext.trans ?_ (by assumption)))))
  have Bc_8 := Bc_7.ext (show Ext w7 w8 from (by with_reducible (repeat (first | assumption | exact Ext.refl _ | refine Ext.alloc' ?_ _ | refine Ext.store0 ?_ _ _ | refine Ext.storek ?_ _ _ _ | refine Ext.stores0 ?_ ?_ _ _ | refine Ext.storesk ?_ ?_ _ _ _ | refine Ext.drewN' ?_ _ | refine Ext.drew' ?_ | refine Ext.trans ?_ (by assumption)))))
  have Bs_8 := Bs_7.ext (show Ext w7 w8 from (by with_reducible (repeat (first | assumption | exact Ext.refl _ | refine Ext.alloc' ?_ _ | refine Ext.store0 ?_ _ _ | refine Ext.storek ?_ _ _ _ | refine Ext.stores0 ?_ ?_ _ _ | refine Ext.storesk ?_ ?_ _ _ _ | refine Ext.drewN' ?_ _ | refine Ext.drew' ?_ | refine Ext.trans ?_ (by assumption)))))
  clear Bm_7 zm cm0 cm1 cm2 dm0 dm1 dm2 Ba_7 za ca0 ca1 ca2 da0 da1 da2 Bc_7 zc cc0 cc1 cc2 dc0 dc1 dc2 Bs_7 zs cs0 cs1 cs2 ds0 ds1 ds2
  have Bt_8 : Box w8 (w7.heap.size) #[.slice t1 mt.W.length t2, .slice t3 mt.G.length t4, .bool false] 50 := (Box.new _ _ _).ext hb8
  obtain ⟨cm0, cm1, cm2, dm0, dm1, dm2⟩ := cells3 Bm_8
  have zm : w.heap.size < w8.heap.size := Bm_8.lt
  obtain ⟨ca0, ca1, ca2, da0, da1, da2⟩ := cells3 Ba_8
  have za : w4.heap.size < w8.heap.size := Ba_8.lt
  obtain ⟨cc0, cc1, cc2, dc0, dc1, dc2⟩ := cells3 Bc_8
  have zc : w5.heap.size < w8.heap.size := Bc_8.lt
  obtain ⟨cs0, cs1, cs2, ds0, ds1, ds2⟩ := cells3 Bs_8
  have zs : w6.heap.size < w8.heap.size := Bs_8.lt
  obtain ⟨ct0, ct1, ct2, dt0, dt1, dt2⟩ := cells3 Bt_8
  have zt : w7.heap.size < w8.heap.size := Bt_8.lt
  go_wp2_with (fail)
  go_at_call 64
  refine (memLoad_ no _ m 0 _ ((IsMem.mk HB.out hw hg : IsMem no w (.agg #[.slice aw m.W.length cw, .slice (some ⟨ba, oa, none⟩) m.G.length cg, .bool false]) m).ext (by with_reducible (repeat (first | assumption | exact Ext.refl _ | refine Ext.alloc' ?_ _ | refine Ext.store0 ?_ _ _ | refine Ext.storek ?_ _ _ _ | refine Ext.stores0 ?_ ?_ _ _ | refine Ext.storesk ?_ ?_ _ _ _ | refine Ext.drewN' ?_ _ | refine Ext.drew' ?_ | refine Ext.trans ?_ (by assumption))))) hFit no_lt (by omega) (by omega)).calls.mono ?_
  rintro e w9 ⟨_, rfl, hb9, ur, rfl, hur⟩
  rw [HH.out.2.2.2.2.2] at hur
  obtain ⟨r1, r2, r3, r4, rfl, wr, gr⟩ := hur.lit rfl rfl (show mr.bad = false from by rw [← HH.out.2.2.2.2.2]; exact H.out.2.2.2.2)
  have Bm_9 := Bm_8.ext (show Ext w8 w9 from (by with_reducible (repeat (first | assumption | exact Ext.refl _ | refine Ext.alloc' ?_ _ | refine Ext.store0 ?_ _ _ | refine Ext.storek ?_ _ _ _ | refine Ext.stores0 ?_ ?_ _ _ | refine Ext.storesk ?_ ?_ _ _ _ | refine Ext.drewN' ?_ _ | refine Ext.drew' ?_ | refine Ext.trans ?_ (by assumption)))))
  have Ba_9 := Ba_8.ext (show Ext w8 w9 from (by with_reducible (repeat (first | assumption | exact Ext.refl _ | refine Ext.alloc' ?_ _ | refine Ext.store0 ?_ _ _ | refine Ext.storek ?_ _ _ _ | refine Ext.stores0 ?_ ?_ _ _ | refine Ext.storesk ?_ ?_ _ _ _ | refine Ext.drewN' ?_ _ | refine Ext.drew' ?_ | refine Ext.trans ?_ (by assumption)))))
  have Bc_9 := Bc_8.ext (show Ext w8 w9 from (by with_reducible (repeat (first | assumption | exact Ext.refl _ | refine Ext.alloc' ?_ _ | refine Ext.store0 ?_ _ _ | refine Ext.storek ?_ _ _ _ | refine Ext.stores0 ?_ ?_ _ _ | refine Ext.storesk ?_ ?_ _ _ _ | refine Ext.drewN' ?_ _ | refine Ext.drew' ?_ | refine Ext.trans ?_ (by assumption)))))
  have Bs_9 := Bs_8.ext (show Ext w8 w9 from (by with_reducible (repeat (first | assumption | exact Ext.refl _ | refine Ext.alloc' ?_ _ | refine Ext.store0 ?_ _ _ | refine Ext.storek ?_ _ _ _ | refine Ext.stores0 ?_ ?_ _ _ | refine Ext.storesk ?_ ?_ _ _ _ | refine Ext.drewN' ?_ _ | refine Ext.drew' ?_ | refine Ext.trans ?_ (by assumption)))))
  have Bt_9 := Bt_8.ext (show Ext w8 w9 from (by with_reducible (repeat (first | assumption | exact Ext.refl _ | refine Ext.alloc' ?_ _ | refine Ext.store0 ?_ _ _ | refine Ext.storek ?_ _ _ _ | refine Ext.stores0 ?_ ?_ _ _ | refine Ext.storesk ?_ ?_ _ _ _ | refine Ext.drewN' ?_ _ | refine Ext.drew' ?_ | refine Ext.trans ?_ (by assumption)))))
  clear Bm_8 zm cm0 cm1 cm2 dm0 dm1 dm2 Ba_8 za ca0 ca1 ca2 da0 da1 da2 Bc_8 zc cc0 cc1 cc2 dc0 dc1 dc2 Bs_8 zs cs0 cs1 cs2 ds0 ds1 ds2 Bt_8 zt ct0 ct1 ct2 dt0 dt1 dt2
  have Bd_9 : Box w9 (w8.heap.size) #[.slice d1 md.W.length d2, .slice d3 md.G.length d4, .bool false] 50 := (Box.new _ _ _).ext hb9
  obtain ⟨cm0, cm1, cm2, dm0, dm1, dm2⟩ := cells3 Bm_9
  have zm : w.heap.size < w9.heap.size := Bm_9.lt
  obtain ⟨ca0, ca1, ca2, da0, da1, da2⟩ := cells3 Ba_9
  have za : w4.heap.size < w9.heap.size := Ba_9.lt
  obtain ⟨cc0, cc1, cc2, dc0, dc1, dc2⟩ := cells3 Bc_9
  have zc : w5.heap.size < w9.heap.size := Bc_9.lt
  obtain ⟨cs0, cs1, cs2, ds0, ds1, ds2⟩ := cells3 Bs_9
  have zs : w6.heap.size < w9.heap.size := Bs_9.lt
  obtain ⟨ct0, ct1, ct2, dt0, dt1, dt2⟩ := cells3 Bt_9
  have zt : w7.heap.size < w9.heap.size := Bt_9.lt
  obtain ⟨cd0, cd1, cd2, dd0, dd1, dd2⟩ := cells3 Bd_9
  have zd : w8.heap.size < w9.heap.size := Bd_9.lt
  go_wp2_with (fail)
  have hEk : Ext w w9 := (by with_reducible (repeat (first | assumption | exact Ext.refl _ | refine Ext.alloc' ?_ _ | refine Ext.store0 ?_ _ _ | refine Ext.storek ?_ _ _ _ | refine Ext.stores0 ?_ ?_ _ _ | refine Ext.storesk ?_ ?_ _ _ _ | refine Ext.drewN' ?_ _ | refine Ext.drew' ?_ | refine Ext.trans ?_ (by assumption))))
  have eak := cell_ext ea hEk
  have eak1 : w9.cell? ⟨ba, oa + (i : Int).toNat * 1, none⟩ = some (.int .i64 (gi m.G i)) := by simpa using eak
  obtain ⟨W, hW⟩ : ∃ W, W = w9.alloc (.cells #[.slice r1 mr.W.length r2, .slice r3 mr.G.length r4, .bool false] 50 (0, 0)) := ⟨_, rfl⟩
  have hEW : Ext w W := by rw [hW]; exact (by with_reducible (repeat (first | assumption | exact Ext.refl _ | refine Ext.alloc' ?_ _ | refine Ext.store0 ?_ _ _ | refine Ext.storek ?_ _ _ _ | refine Ext.stores0 ?_ ?_ _ _ | refine Ext.storesk ?_ ?_ _ _ _ | refine Ext.drewN' ?_ _ | refine Ext.drew' ?_ | refine Ext.trans ?_ (by assumption))))
  have eaw : W.cell? ⟨ba, oa + (i : Int).toNat * 1, none⟩ = some (.int .i64 (gi m.G i)) := by rw [hW]; exact cell_ext eak1 (Ext.alloc _ _)
  have Dm := Bm_9.alloc (.cells #[.slice r1 mr.W.length r2, .slice r3 mr.G.length r4, .bool false] 50 (0, 0))
  have Da := Ba_9.alloc (.cells #[.slice r1 mr.W.length r2, .slice r3 mr.G.length r4, .bool false] 50 (0, 0))
  have Dc := Bc_9.alloc (.cells #[.slice r1 mr.W.length r2, .slice r3 mr.G.length r4, .bool false] 50 (0, 0))
  have Ds := Bs_9.alloc (.cells #[.slice r1 mr.W.length r2, .slice r3 mr.G.length r4, .bool false] 50 (0, 0))
  have Dt := Bt_9.alloc (.cells #[.slice r1 mr.W.length r2, .slice r3 mr.G.length r4, .bool false] 50 (0, 0))
  have Dd := Bd_9.alloc (.cells #[.slice r1 mr.W.length r2, .slice r3 mr.G.length r4, .bool false] 50 (0, 0))
  have Dr := Box.new w9 #[.slice r1 mr.W.length r2, .slice r3 mr.G.length r4, .bool false] 50
  rw [← hW] at Dm Da Dc Ds Dt Dd Dr
  rw [← hW]
  clear hW
  apply region_lit2 (T := []) (L := []) (X := []) (G := [eqv _, eqv _, eqv _, eqv _, eqv _, eqv (.bool true), eqv _, eqv _, eqv _, eqv _, eqv _, eqv (.bool true), eqv _, eqv _, eqv _, eqv _, eqv _, eqv (.bool true), eqv _, eqv _, eqv _, eqv _, eqv (.bool true), eqv _, eqv _, eqv _, eqv _, eqv _, eqv _, eqv _, eqv _, eqv _, eqv (.bool false), eqv (.bool true), eqv _, eqv _, eqv _, eqv _, eqv _, eqv _, eqv (.bool true), eqv _, eqv _, eqv _, eqv _, eqv (.int .i64 0), eqv _, eqv _, eqv (.int .i64 0), eqv (.int .i64 0), eqv (.bool true), eqv _, eqv _])
  case hm => kernel_rfl
  case hop =>
    refine ⟨?_, ?_, ?_, ?_, ?_, ?_, ?_, ?_, ?_, ?_, ?_, ?_, ?_, ?_, ?_, ?_, ?_, ?_, ?_, ?_, ?_, ?_, ?_, ?_, ?_, ?_, ?_, ?_, ?_, ?_, ?_, ?_, ?_, ?_, ?_, ?_, ?_, ?_, ?_, ?_, ?_, ?_, ?_, ?_, ?_, ?_, ?_, ?_, ?_, ?_, ?_, ?_, ?_, trivial⟩
    · intro a wa hs hf hd
      have t7 := hf.off 7 (by kernel_rfl) rfl
      exact plain_ rfl (yes_eqv (o_move rfl t7) rfl)
    · intro a wa hs hf hd
      have t85 : a.eval (.tmp 85) = _ := hd.at 0 85 (by kernel_rfl)
      exact plain_ rfl (yes_eqv (o_move rfl t85) rfl)
    · intro a wa hs hf hd
      have t86 : a.eval (.tmp 86) = _ := hd.at 1 86 (by kernel_rfl)
      have t11 := hf.off 11 (by kernel_rfl) rfl
      exact guard_on rfl rfl t86 (yes_eqv (o_fieldAddr rfl Proofs.Try.underlying50 rfl rfl (by kernel_rfl) t11) rfl)
    · intro a wa hs hf hd
      have t86 : a.eval (.tmp 86) = _ := hd.at 1 86 (by kernel_rfl)
      have t87 : a.eval (.tmp 87) = _ := hd.at 2 87 (by kernel_rfl)
      exact guard_on rfl rfl t86 (yes_eqv (o_load1 rfl Proofs.Try.underlying4 rfl t87 ((Da.since hs rfl).cell rfl)) rfl)
    · intro a wa hs hf hd
      have t86 : a.eval (.tmp 86) = _ := hd.at 1 86 (by kernel_rfl)
      have t16 := hf.off 16 (by kernel_rfl) rfl
      exact guard_on rfl rfl t86 (yes_eqv (o_move rfl t16) rfl)
    · intro a wa hs hf hd
      have t86 : a.eval (.tmp 86) = _ := hd.at 1 86 (by kernel_rfl)
      have t88 : a.eval (.tmp 88) = _ := hd.at 3 88 (by kernel_rfl)
      have t89 : a.eval (.tmp 89) = _ := hd.at 4 89 (by kernel_rfl)
      exact guard_on rfl rfl t86 (yes_eqv (o_eqlb rfl Proofs.Try.underlying4 t88 t89 (by simp [hq0])) rfl)
    · intro a wa hs hf hd
      have t86 : a.eval (.tmp 86) = _ := hd.at 1 86 (by kernel_rfl)
      have t90 : a.eval (.tmp 90) = _ := hd.at 5 90 (by kernel_rfl)
      exact plain_ rfl (yes_eqv (o_pick_t rfl t86 t90) rfl)
    · intro a wa hs hf hd
      have t91 : a.eval (.tmp 91) = _ := hd.at 6 91 (by kernel_rfl)
      exact plain_ rfl (yes_eqv (o_move rfl t91) rfl)
    · intro a wa hs hf hd
      have t92 : a.eval (.tmp 92) = _ := hd.at 7 92 (by kernel_rfl)
      have t13 := hf.off 13 (by kernel_rfl) rfl
      exact guard_on rfl rfl t92 (yes_eqv (o_fieldAddr rfl Proofs.Try.underlying50 rfl rfl (by kernel_rfl) t13) rfl)
    · intro a wa hs hf hd
      have t92 : a.eval (.tmp 92) = _ := hd.at 7 92 (by kernel_rfl)
      have t93 : a.eval (.tmp 93) = _ := hd.at 8 93 (by kernel_rfl)
      exact guard_on rfl rfl t92 (yes_eqv (o_load1 rfl Proofs.Try.underlying4 rfl t93 ((Dc.since hs rfl).cell rfl)) rfl)
    · intro a wa hs hf hd
      have t92 : a.eval (.tmp 92) = _ := hd.at 7 92 (by kernel_rfl)
      have t16 := hf.off 16 (by kernel_rfl) rfl
      exact guard_on rfl rfl t92 (yes_eqv (o_move rfl t16) rfl)
    · intro a wa hs hf hd
      have t92 : a.eval (.tmp 92) = _ := hd.at 7 92 (by kernel_rfl)
      have t94 : a.eval (.tmp 94) = _ := hd.at 9 94 (by kernel_rfl)
      have t95 : a.eval (.tmp 95) = _ := hd.at 10 95 (by kernel_rfl)
      exact guard_on rfl rfl t92 (yes_eqv (o_eqlb rfl Proofs.Try.underlying4 t94 t95 (by simp [hq0])) rfl)
    · intro a wa hs hf hd
      have t92 : a.eval (.tmp 92) = _ := hd.at 7 92 (by kernel_rfl)
      have t96 : a.eval (.tmp 96) = _ := hd.at 11 96 (by kernel_rfl)
      exact plain_ rfl (yes_eqv (o_pick_t rfl t92 t96) rfl)
    · intro a wa hs hf hd
      have t97 : a.eval (.tmp 97) = _ := hd.at 12 97 (by kernel_rfl)
      exact plain_ rfl (yes_eqv (o_move rfl t97) rfl)
    · intro a wa hs hf hd
      have t98 : a.eval (.tmp 98) = _ := hd.at 13 98 (by kernel_rfl)
      have t15 := hf.off 15 (by kernel_rfl) rfl
      exact guard_on rfl rfl t98 (yes_eqv (o_fieldAddr rfl Proofs.Try.underlying50 rfl rfl (by kernel_rfl) t15) rfl)
    · intro a wa hs hf hd
      have t98 : a.eval (.tmp 98) = _ := hd.at 13 98 (by kernel_rfl)
      have t99 : a.eval (.tmp 99) = _ := hd.at 14 99 (by kernel_rfl)
      exact guard_on rfl rfl t98 (yes_eqv (o_load1 rfl Proofs.Try.underlying4 rfl t99 ((Ds.since hs rfl).cell rfl)) rfl)
    · intro a wa hs hf hd
      have t98 : a.eval (.tmp 98) = _ := hd.at 13 98 (by kernel_rfl)
      have t16 := hf.off 16 (by kernel_rfl) rfl
      exact guard_on rfl rfl t98 (yes_eqv (o_move rfl t16) rfl)
    · intro a wa hs hf hd
      have t98 : a.eval (.tmp 98) = _ := hd.at 13 98 (by kernel_rfl)
      have t100 : a.eval (.tmp 100) = _ := hd.at 15 100 (by kernel_rfl)
      have t101 : a.eval (.tmp 101) = _ := hd.at 16 101 (by kernel_rfl)
      exact guard_on rfl rfl t98 (yes_eqv (o_eqlb rfl Proofs.Try.underlying4 t100 t101 (by simp [hq0])) rfl)
    · intro a wa hs hf hd
      have t98 : a.eval (.tmp 98) = _ := hd.at 13 98 (by kernel_rfl)
      have t102 : a.eval (.tmp 102) = _ := hd.at 17 102 (by kernel_rfl)
      exact plain_ rfl (yes_eqv (o_pick_t rfl t98 t102) rfl)
    · intro a wa hs hf hd
      have t103 : a.eval (.tmp 103) = _ := hd.at 18 103 (by kernel_rfl)
      exact plain_ rfl (yes_eqv (o_move rfl t103) rfl)
    · intro a wa hs hf hd
      have t104 : a.eval (.tmp 104) = _ := hd.at 19 104 (by kernel_rfl)
      have t20 := hf.off 20 (by kernel_rfl) rfl
      exact guard_on rfl rfl t104 (yes_eqv (o_fieldAddr rfl Proofs.Try.underlying50 rfl rfl (by kernel_rfl) t20) rfl)
    · intro a wa hs hf hd
      have t104 : a.eval (.tmp 104) = _ := hd.at 19 104 (by kernel_rfl)
      have t105 : a.eval (.tmp 105) = _ := hd.at 20 105 (by kernel_rfl)
      exact guard_on rfl rfl t104 (yes_eqv (o_load1 rfl Proofs.Try.underlying4 rfl t105 ((Dr.since hs rfl).cell rfl)) rfl)
    · intro a wa hs hf hd
      have t104 : a.eval (.tmp 104) = _ := hd.at 19 104 (by kernel_rfl)
      have t106 : a.eval (.tmp 106) = _ := hd.at 21 106 (by kernel_rfl)
      exact guard_on rfl rfl t104 (yes_eqv (o_not rfl t106 (by simp [hq0])) rfl)
    · intro a wa hs hf hd
      have t104 : a.eval (.tmp 104) = _ := hd.at 19 104 (by kernel_rfl)
      have t107 : a.eval (.tmp 107) = _ := hd.at 22 107 (by kernel_rfl)
      exact plain_ rfl (yes_eqv (o_pick_t rfl t104 t107) rfl)
    · intro a wa hs hf hd
      have t108 : a.eval (.tmp 108) = _ := hd.at 23 108 (by kernel_rfl)
      exact plain_ rfl (yes_eqv (o_move rfl t108) rfl)
    · intro a wa hs hf hd
      have t109 : a.eval (.tmp 109) = _ := hd.at 24 109 (by kernel_rfl)
      have t17 := hf.off 17 (by kernel_rfl) rfl
      exact guard_on rfl rfl t109 (yes_eqv (o_fieldAddr rfl Proofs.Try.underlying50 rfl rfl (by kernel_rfl) t17) rfl)
    · intro a wa hs hf hd
      have t109 : a.eval (.tmp 109) = _ := hd.at 24 109 (by kernel_rfl)
      have t110 : a.eval (.tmp 110) = _ := hd.at 25 110 (by kernel_rfl)
      exact guard_on rfl rfl t109 (yes_eqv (o_load1 rfl Proofs.Try.underlying4 rfl t110 ((Dt.since hs rfl).cell rfl)) rfl)
    · intro a wa hs hf hd
      have t109 : a.eval (.tmp 109) = _ := hd.at 24 109 (by kernel_rfl)
      have t3 := hf.off 3 (by kernel_rfl) rfl
      exact guard_on rfl rfl t109 (yes_eqv (o_fieldAddr rfl Proofs.Try.underlying50 rfl rfl (by kernel_rfl) t3) rfl)
    · intro a wa hs hf hd
      have t109 : a.eval (.tmp 109) = _ := hd.at 24 109 (by kernel_rfl)
      have t112 : a.eval (.tmp 112) = _ := hd.at 27 112 (by kernel_rfl)
      exact guard_on rfl rfl t109 (yes_eqv (o_load1 rfl Proofs.Try.underlying48 rfl t112 ((Dm.since hs rfl).cell rfl)) rfl)
    · intro a wa hs hf hd
      have t109 : a.eval (.tmp 109) = _ := hd.at 24 109 (by kernel_rfl)
      have t8 := hf.off 8 (by kernel_rfl) rfl
      exact guard_on rfl rfl t109 (yes_eqv (o_move rfl t8) rfl)
    · intro a wa hs hf hd
      have t109 : a.eval (.tmp 109) = _ := hd.at 24 109 (by kernel_rfl)
      have t113 : a.eval (.tmp 113) = _ := hd.at 28 113 (by kernel_rfl)
      have t114 : a.eval (.tmp 114) = _ := hd.at 29 114 (by kernel_rfl)
      exact guard_on rfl rfl t109 (yes_eqv (o_indexAddr (sz := 1) rfl Proofs.Try.underlying48 (by kernel_rfl) t113 t114 (by omega) (by omega)) rfl)
    · intro a wa hs hf hd
      have t109 : a.eval (.tmp 109) = _ := hd.at 24 109 (by kernel_rfl)
      have t115 : a.eval (.tmp 115) = _ := hd.at 30 115 (by kernel_rfl)
      exact guard_on rfl rfl t109 (yes_eqv (o_load1 rfl Proofs.Try.underlying3 rfl t115 (cell_since eaw hs rfl)) rfl)
    · intro a wa hs hf hd
      have t109 : a.eval (.tmp 109) = _ := hd.at 24 109 (by kernel_rfl)
      have t116 : a.eval (.tmp 116) = _ := hd.at 31 116 (by kernel_rfl)
      exact guard_on rfl rfl t109 (yes_eqv (o_neq rfl t116 rfl (by simp [hq0])) rfl)
    · intro a wa hs hf hd
      have t109 : a.eval (.tmp 109) = _ := hd.at 24 109 (by kernel_rfl)
      have t111 : a.eval (.tmp 111) = _ := hd.at 26 111 (by kernel_rfl)
      have t117 : a.eval (.tmp 117) = _ := hd.at 32 117 (by kernel_rfl)
      exact guard_on rfl rfl t109 (yes_eqv (o_eqlb rfl Proofs.Try.underlying4 t111 t117 (by simp [hq0])) rfl)
    · intro a wa hs hf hd
      have t109 : a.eval (.tmp 109) = _ := hd.at 24 109 (by kernel_rfl)
      have t118 : a.eval (.tmp 118) = _ := hd.at 33 118 (by kernel_rfl)
      exact plain_ rfl (yes_eqv (o_pick_t rfl t109 t118) rfl)
    · intro a wa hs hf hd
      have t119 : a.eval (.tmp 119) = _ := hd.at 34 119 (by kernel_rfl)
      exact plain_ rfl (yes_eqv (o_move rfl t119) rfl)
    · intro a wa hs hf hd
      have t120 : a.eval (.tmp 120) = _ := hd.at 35 120 (by kernel_rfl)
      have t18 := hf.off 18 (by kernel_rfl) rfl
      exact guard_on rfl rfl t120 (yes_eqv (o_fieldAddr rfl Proofs.Try.underlying50 rfl rfl (by kernel_rfl) t18) rfl)
    · intro a wa hs hf hd
      have t120 : a.eval (.tmp 120) = _ := hd.at 35 120 (by kernel_rfl)
      have t121 : a.eval (.tmp 121) = _ := hd.at 36 121 (by kernel_rfl)
      exact guard_on rfl rfl t120 (yes_eqv (o_load1 rfl Proofs.Try.underlying4 rfl t121 ((Dd.since hs rfl).cell rfl)) rfl)
    · intro a wa hs hf hd
      have t120 : a.eval (.tmp 120) = _ := hd.at 35 120 (by kernel_rfl)
      have t17 := hf.off 17 (by kernel_rfl) rfl
      exact guard_on rfl rfl t120 (yes_eqv (o_fieldAddr rfl Proofs.Try.underlying50 rfl rfl (by kernel_rfl) t17) rfl)
    · intro a wa hs hf hd
      have t120 : a.eval (.tmp 120) = _ := hd.at 35 120 (by kernel_rfl)
      have t123 : a.eval (.tmp 123) = _ := hd.at 38 123 (by kernel_rfl)
      exact guard_on rfl rfl t120 (yes_eqv (o_load1 rfl Proofs.Try.underlying4 rfl t123 ((Dt.since hs rfl).cell rfl)) rfl)
    · intro a wa hs hf hd
      have t120 : a.eval (.tmp 120) = _ := hd.at 35 120 (by kernel_rfl)
      have t122 : a.eval (.tmp 122) = _ := hd.at 37 122 (by kernel_rfl)
      have t124 : a.eval (.tmp 124) = _ := hd.at 39 124 (by kernel_rfl)
      exact guard_on rfl rfl t120 (yes_eqv (o_eqlb rfl Proofs.Try.underlying4 t122 t124 (by simp [hq0])) rfl)
    · intro a wa hs hf hd
      have t120 : a.eval (.tmp 120) = _ := hd.at 35 120 (by kernel_rfl)
      have t125 : a.eval (.tmp 125) = _ := hd.at 40 125 (by kernel_rfl)
      exact plain_ rfl (yes_eqv (o_pick_t rfl t120 t125) rfl)
    · intro a wa hs hf hd
      have t126 : a.eval (.tmp 126) = _ := hd.at 41 126 (by kernel_rfl)
      exact plain_ rfl (yes_eqv (o_move rfl t126) rfl)
    · intro a wa hs hf hd
      have t127 : a.eval (.tmp 127) = _ := hd.at 42 127 (by kernel_rfl)
      have t3 := hf.off 3 (by kernel_rfl) rfl
      exact guard_on rfl rfl t127 (yes_eqv (o_load3 rfl Proofs.Try.underlying50 rfl (by kernel_rfl) t3 ((Dm.since hs rfl).cell rfl) ((Dm.since hs rfl).cell rfl) ((Dm.since hs rfl).cell rfl)) rfl)
    · intro a wa hs hf hd
      have t127 : a.eval (.tmp 127) = _ := hd.at 42 127 (by kernel_rfl)
      have t10 := hf.off 10 (by kernel_rfl) rfl
      exact guard_on rfl rfl t127 (yes_eqv (o_move rfl t10) rfl)
    · intro a wa hs hf hd
      have t127 : a.eval (.tmp 127) = _ := hd.at 42 127 (by kernel_rfl)
      have t128 : a.eval (.tmp 128) = _ := hd.at 43 128 (by kernel_rfl)
      have t129 : a.eval (.tmp 129) = _ := hd.at 44 129 (by kernel_rfl)
      exact guard_on rfl rfl t127 (yes_gives (show Gives Proofs.Try.prog 59 #[.agg #[.slice aw m.W.length cw, .slice (some ⟨ba, oa, none⟩) m.G.length cg, .bool false], .int .i64 yy] _ (eqv (.int .i64 0)) by rw [← H.out.2.1]; exact node_ no _ m yy _ ((IsMem.mk HB.out hw hg : IsMem no w (.agg #[.slice aw m.W.length cw, .slice (some ⟨ba, oa, none⟩) m.G.length cg, .bool false]) m).ext (hEW.trans (Since.to_ext hs))) (by omega) (by omega)) rfl rfl Proofs.Try.func59 (by kernel_rfl) (by kernel_rfl) (by simp only [List.map_toArray, List.map_cons, List.map_nil, t128, t129]) rfl)
    · intro a wa hs hf hd
      have t127 : a.eval (.tmp 127) = _ := hd.at 42 127 (by kernel_rfl)
      have t8 := hf.off 8 (by kernel_rfl) rfl
      exact guard_on rfl rfl t127 (yes_eqv (o_move rfl t8) rfl)
    · intro a wa hs hf hd
      have t127 : a.eval (.tmp 127) = _ := hd.at 42 127 (by kernel_rfl)
      have t9 := hf.off 9 (by kernel_rfl) rfl
      exact guard_on rfl rfl t127 (yes_eqv (o_move rfl t9) rfl)
    · intro a wa hs hf hd
      have t127 : a.eval (.tmp 127) = _ := hd.at 42 127 (by kernel_rfl)
      have t132 : a.eval (.tmp 132) = _ := hd.at 47 132 (by kernel_rfl)
      exact guard_on rfl rfl t127 (yes_eqv (o_min rfl t132 (by split <;> omega)) rfl)
    · intro a wa hs hf hd
      have t127 : a.eval (.tmp 127) = _ := hd.at 42 127 (by kernel_rfl)
      have t131 : a.eval (.tmp 131) = _ := hd.at 46 131 (by kernel_rfl)
      have t133 : a.eval (.tmp 133) = _ := hd.at 48 133 (by kernel_rfl)
      exact guard_on rfl rfl t127 (yes_eqv (o_mul rfl t131 t133 (by rw [IntKind.wrap_i64]; omega)) rfl)
    · intro a wa hs hf hd
      have t127 : a.eval (.tmp 127) = _ := hd.at 42 127 (by kernel_rfl)
      have t130 : a.eval (.tmp 130) = _ := hd.at 45 130 (by kernel_rfl)
      have t134 : a.eval (.tmp 134) = _ := hd.at 49 134 (by kernel_rfl)
      exact guard_on rfl rfl t127 (yes_eqv (o_eql rfl t130 t134 (by simp [hq0])) rfl)
    · intro a wa hs hf hd
      have t127 : a.eval (.tmp 127) = _ := hd.at 42 127 (by kernel_rfl)
      have t135 : a.eval (.tmp 135) = _ := hd.at 50 135 (by kernel_rfl)
      exact plain_ rfl (yes_eqv (o_pick_t rfl t127 t135) rfl)
    · intro a wa hs hf hd
      have t136 : a.eval (.tmp 136) = _ := hd.at 51 136 (by kernel_rfl)
      exact plain_ rfl (yes_eqv (o_assign rfl t136) rfl)
  case hG => exact ⟨stable_eqv _, stable_eqv _, stable_eqv _, stable_eqv _, stable_eqv _, stable_eqv _, stable_eqv _, stable_eqv _, stable_eqv _, stable_eqv _, stable_eqv _, stable_eqv _, stable_eqv _, stable_eqv _, stable_eqv _, stable_eqv _, stable_eqv _, stable_eqv _, stable_eqv _, stable_eqv _, stable_eqv _, stable_eqv _, stable_eqv _, stable_eqv _, stable_eqv _, stable_eqv _, stable_eqv _, stable_eqv _, stable_eqv _, stable_eqv _, stable_eqv _, stable_eqv _, stable_eqv _, stable_eqv _, stable_eqv _, stable_eqv _, stable_eqv _, stable_eqv _, stable_eqv _, stable_eqv _, stable_eqv _, stable_eqv _, stable_eqv _, stable_eqv _, stable_eqv _, stable_eqv _, stable_eqv _, stable_eqv _, stable_eqv _, stable_eqv _, stable_eqv _, stable_eqv _, stable_eqv _, trivial⟩
  case hc => kernel_rfl
  case hfin =>
    intro v2 hs2
    rintro _ rfl _ rfl _ rfl _ rfl _ rfl _ rfl _ rfl _ rfl _ rfl _ rfl _ rfl _ rfl _ rfl _ rfl _ rfl _ rfl _ rfl _ rfl _ rfl _ rfl _ rfl _ rfl _ rfl _ rfl _ rfl _ rfl _ rfl _ rfl _ rfl _ rfl _ rfl _ rfl _ rfl _ rfl _ rfl _ rfl _ rfl _ rfl _ rfl _ rfl _ rfl _ rfl _ rfl _ rfl _ rfl _ rfl _ rfl _ rfl _ rfl _ rfl _ rfl _ rfl _ rfl
    rintro _ rfl
    simp only [Act.put, List.setIfInBounds_toArray, List.set_cons_zero, List.set_cons_succ]
    go_wp2
    go_ret
    exact ⟨_, rfl, hEW.trans (Since.to_ext hs2), rfl⟩
set_option maxHeartbeats 1000000 in
set_option maxRecDepth 100000 in
theorem memGuards_d (aw ag : Option Addr) (cw cg : Nat) (m : Arena) (x y : Int) (i : Nat) (w : World) (hw : IsInts no w (.slice aw m.W.length cw) m.W) (hg : IsInts no w (.slice ag m.G.length cg) m.G) (hb : false = m.bad) (hm : mayD m 60 = true)
    (hi : 1 + x % ((m.G.length : Int) - 1) = i) (hi1 : 1 ≤ i) (hi2 : i < m.G.length) (hk : y % 4 = 0) (hx0 : 0 ≤ x) (hx1 : x ≤ 255) (hy0 : 0 ≤ y) (hy1 : y ≤ 255) (hq0 : ¬ gi m.G i = 0) :
    Gives Proofs.Try.prog 14 #[.agg #[.slice aw m.W.length cw, .slice ag m.G.length cg, .bool false], .int .u8 x, .int .u8 y] w (eqv (.bool true)) := by
  have km := fun (w' : World) (e : Ext w w') => memMay_ no _ m 60 (by omega) w' ((IsMem.mk hb hw hg : IsMem no w (.agg #[.slice aw m.W.length cw, .slice ag m.G.length cg, .bool false]) m).ext e)
  rw [hm] at km
  have hFit := Fits.of_may hm
  have hl3 := hFit.2.2
  have HL := Lib.hid hFit.1
  obtain ⟨_, _, e0, rg, lg, cgc⟩ := hg.opened
  cases e0
  obtain ⟨ba, oa, rfl, xa, na, ea⟩ := cgc i hi2
  have g0 : (gi m.G i == 0) = false := by simp [hq0]
  have hz : ((m.G.length : Int) - 1 == 0) = false := by simp; omega
  obtain ⟨yy, hyy⟩ : ∃ yy, (128 : Int) + 4 * ((i : Int) - 1) + 0 = yy := ⟨_, rfl⟩
  have fb : badAt m yy = false := by rw [← hyy, show (128 : Int) + 4 * ((i : Int) - 1) + 0 = 128 + 4 * ((i : Int) - 1) + ((0 : Nat) : Int) from rfl, badAt_at hFit hi1 hi2 (by omega), ← hb]; simp [hq0]
  have fn : nodeD m.W.length yy = 0 := by rw [← hyy, show (128 : Int) + 4 * ((i : Int) - 1) + 0 = 128 + 4 * ((i : Int) - 1) + ((0 : Nat) : Int) from rfl, nodeD_at hFit hi1 hi2 (by omega)]; simp
  have ft : turnIs m i 1 = false := by rw [turnIs_live hi1 hi2]; simp [hq0]
  have ftb : (turnMD m i 1).bad = true := by rw [turnMD_bad, ft, ← hb]; rfl
  have fd : badAt (turnMD m i 1) yy = true := by
    rw [← hyy, show (128 : Int) + 4 * ((i : Int) - 1) + 0 = 128 + 4 * ((i : Int) - 1) + ((0 : Nat) : Int) from rfl, badAt_at (hFit.same (turnMD_len _ _ _)) hi1 (by rw [(turnMD_len _ _ _).2]; exact hi2) (by omega), ftb]
    simp
  have fr : badAt m 0 = false := (badAt_root hFit (k := 0) (by omega)).trans hb.symm
  have y0 : -1000000 ≤ yy := by omega
  have y1 : yy ≤ 1000000 := by omega
  have HY := Lib.hid hyy
  have H := Lib.hid (And.intro fb (And.intro fn (And.intro ftb (And.intro fd fr))))
  have HB := Lib.hid hb
  clear hb hyy fb fn ft ftb fd fr
  go_enter Proofs.Try.func14, Proofs.Try.ntmps14
  go_wp2_with (fail)
  go_at_call 49
  refine (shown2_ _).calls.mono ?_
  rintro e w1 ⟨_, rfl, hb1, rfl⟩
  have Bm_1 : Box w1 (w.heap.size) #[.slice aw m.W.length cw, .slice (some ⟨ba, oa, none⟩) m.G.length cg, .bool false] 50 := (Box.new _ _ _).ext hb1
  obtain ⟨cm0, cm1, cm2, dm0, dm1, dm2⟩ := cells3 Bm_1
  have zm : w.heap.size < w1.heap.size := Bm_1.lt
  go_wp2_with (fail)
  go_at_call 63
  refine (km _ (by with_reducible (repeat (first | assumption | exact Ext.refl _ | refine Ext.alloc' ?_ _ | refine Ext.store0 ?_ _ _ | refine Ext.storek ?_ _ _ _ | refine Ext.stores0 ?_ ?_ _ _ | refine Ext.storesk ?_ ?_ _ _ _ | refine Ext.drewN' ?_ _ | refine Ext.drew' ?_ | refine Ext.trans ?_ (by assumption))))).calls.mono ?_
  rintro e w2 ⟨_, rfl, hb2, rfl⟩
  have Bm_2 := Bm_1.ext (show Ext w1 w2 from (by with_reducible (repeat (first | assumption | exact Ext.refl _ | refine Ext.alloc' ?_ _ | refine Ext.store0 ?_ _ _ | refine Ext.storek ?_ _ _ _ | refine Ext.stores0 ?_ ?_ _ _ | refine Ext.storesk ?_ ?_ _ _ _ | refine Ext.drewN' ?_ _ | refine Ext.drew' ?_ | refine Ext.trans ?_ (by assumption)))))
  clear Bm_1 zm cm0 cm1 cm2 dm0 dm1 dm2
  obtain ⟨cm0, cm1, cm2, dm0, dm1, dm2⟩ := cells3 Bm_2
  have zm : w.heap.size < w2.heap.size := Bm_2.lt
  have ea1 := cell_ext ea (show Ext w w2 from (by with_reducible (repeat (first | assumption | exact Ext.refl _ | refine Ext.alloc' ?_ _ | refine Ext.store0 ?_ _ _ | refine Ext.storek ?_ _ _ _ | refine Ext.stores0 ?_ ?_ _ _ | refine Ext.storesk ?_ ?_ _ _ _ | refine Ext.drewN' ?_ _ | refine Ext.drew' ?_ | refine Ext.trans ?_ (by assumption)))))
  go_wp2_with (fail)
  go_at_call 57
  refine (atF_ i 0 _ (by omega) (by omega) (by omega) (by omega)).calls.mono ?_
  rintro e w3 ⟨_, rfl, hb3, rfl⟩
  rw [HY.out]
  have Bm_3 := Bm_2.ext (show Ext w2 w3 from (by with_reducible (repeat (first | assumption | exact Ext.refl _ | refine Ext.alloc' ?_ _ | refine Ext.store0 ?_ _ _ | refine Ext.storek ?_ _ _ _ | refine Ext.stores0 ?_ ?_ _ _ | refine Ext.storesk ?_ ?_ _ _ _ | refine Ext.drewN' ?_ _ | refine Ext.drew' ?_ | refine Ext.trans ?_ (by assumption)))))
  clear Bm_2 zm cm0 cm1 cm2 dm0 dm1 dm2
  obtain ⟨cm0, cm1, cm2, dm0, dm1, dm2⟩ := cells3 Bm_3
  have zm : w.heap.size < w3.heap.size := Bm_3.lt
  obtain ⟨ma, hma⟩ : ∃ ma, touchD m yy = ma := ⟨_, rfl⟩
  obtain ⟨mc, hmc⟩ : ∃ mc, casD m yy 0 0 = mc := ⟨_, rfl⟩
  obtain ⟨ms, hms⟩ : ∃ ms, storeD m yy 5 = ms := ⟨_, rfl⟩
  obtain ⟨mt, hmt⟩ : ∃ mt, turnMD m i 1 = mt := ⟨_, rfl⟩
  obtain ⟨md, hmd⟩ : ∃ md, touchD mt yy = md := ⟨_, rfl⟩
  obtain ⟨mr, hmr⟩ : ∃ mr, touchD m 0 = mr := ⟨_, rfl⟩
  have HH := Lib.hid (And.intro hma (And.intro hmc (And.intro hms (And.intro hmt (And.intro hmd hmr)))))
  clear hma hmc hms hmt hmd hmr
  go_wp2_with (fail)
  go_at_call 64
  refine (memLoad_ no _ m yy _ ((IsMem.mk HB.out hw hg : IsMem no w (.agg #[.slice aw m.W.length cw, .slice (some ⟨ba, oa, none⟩) m.G.length cg, .bool false]) m).ext (by with_reducible (repeat (first | assumption | exact Ext.refl _ | refine Ext.alloc' ?_ _ | refine Ext.store0 ?_ _ _ | refine Ext.storek ?_ _ _ _ | refine Ext.stores0 ?_ ?_ _ _ | refine Ext.storesk ?_ ?_ _ _ _ | refine Ext.drewN' ?_ _ | refine Ext.drew' ?_ | refine Ext.trans ?_ (by assumption))))) hFit no_lt (by omega) (by omega)).calls.mono ?_
  rintro e w4 ⟨_, rfl, hb4, ua, rfl, hua⟩
  rw [HH.out.1] at hua
  obtain ⟨a1, a2, a3, a4, rfl, wa, ga⟩ := hua.lit rfl rfl (show ma.bad = false from by rw [← HH.out.1]; exact H.out.1)
  have Bm_4 := Bm_3.ext (show Ext w3 w4 from (by with_reducible (repeat (first | assumption | exact Ext.refl _ | refine Ext.alloc' ?_ _ | refine Ext.store0 ?_ _ _ | refine Ext.storek ?_ _ _ _ | refine Ext.stores0 ?_ ?_ _ _ | refine Ext.storesk ?_ ?_ _ _ _ | refine Ext.drewN' ?_ _ | refine Ext.drew' ?_ | refine Ext.trans ?_ (by assumption)))))
  clear Bm_3 zm cm0 cm1 cm2 dm0 dm1 dm2
  obtain ⟨cm0, cm1, cm2, dm0, dm1, dm2⟩ := cells3 Bm_4
  have zm : w.heap.size < w4.heap.size := Bm_4.lt
  go_wp2_with (fail)
  go_at_call 66
  refine (memCas_ no _ m yy 0 0 _ ((IsMem.mk HB.out hw hg : IsMem no w (.agg #[.slice aw m.W.length cw, .slice (some ⟨ba, oa, none⟩) m.G.length cg, .bool false]) m).ext (by with_reducible (repeat (first | assumption | exact Ext.refl _ | refine Ext.alloc' ?_ _ | refine Ext.store0 ?_ _ _ | refine Ext.storek ?_ _ _ _ | refine Ext.stores0 ?_ ?_ _ _ | refine Ext.storesk ?_ ?_ _ _ _ | refine Ext.drewN' ?_ _ | refine Ext.drew' ?_ | refine Ext.trans ?_ (by assumption))))) hFit no_lt (by omega) (by omega)).calls.mono ?_
  rintro e w5 ⟨_, rfl, hb5, uc, rfl, huc⟩
  rw [HH.out.2.1] at huc
  obtain ⟨c1, c2, c3, c4, rfl, wc, gc⟩ := huc.lit rfl rfl (show mc.bad = false from by rw [← HH.out.2.1, casD_bad]; exact H.out.1)
  have Bm_5 := Bm_4.ext (show Ext w4 w5 from (by with_reducible (repeat (first | assumption | exact Ext.refl _ | refine Ext.alloc' ?_ _ | refine Ext.store0 ?_ _ _ | refine Ext.storek ?_ _ _ _ | refine Ext.stores0 ?_ ?_ _ _ | refine Ext.storesk ?_ ?_ _ _ _ | refine Ext.drewN' ?_ _ | refine Ext.drew' ?_ | refine Ext.trans ?_ (by assumption)))))
  clear Bm_4 zm cm0 cm1 cm2 dm0 dm1 dm2
  have Ba_5 : Box w5 (w4.heap.size) #[.slice a1 ma.W.length a2, .slice a3 ma.G.length a4, .bool false] 50 := (Box.new _ _ _).ext hb5
  obtain ⟨cm0, cm1, cm2, dm0, dm1, dm2⟩ := cells3 Bm_5
  have zm : w.heap.size < w5.heap.size := Bm_5.lt
  obtain ⟨ca0, ca1, ca2, da0, da1, da2⟩ := cells3 Ba_5
  have za : w4.heap.size < w5.heap.size := Ba_5.lt
  go_wp2_with (fail)
  go_at_call 68
  refine (memStore_ no _ m yy 5 _ ((IsMem.mk HB.out hw hg : IsMem no w (.agg #[.slice aw m.W.length cw, .slice (some ⟨ba, oa, none⟩) m.G.length cg, .bool false]) m).ext (by with_reducible (repeat (first | assumption | exact Ext.refl _ | refine Ext.alloc' ?_ _ | refine Ext.store0 ?_ _ _ | refine Ext.storek ?_ _ _ _ | refine Ext.stores0 ?_ ?_ _ _ | refine Ext.storesk ?_ ?_ _ _ _ | refine Ext.drewN' ?_ _ | refine Ext.drew' ?_ | refine Ext.trans ?_ (by assumption))))) hFit no_lt (by omega) (by omega)).calls.mono ?_
  rintro e w6 ⟨_, rfl, hb6, hus⟩
  rw [HH.out.2.2.1] at hus
  obtain ⟨s1, s2, s3, s4, rfl, ws, gs⟩ := hus.lit rfl rfl (show ms.bad = false from by rw [← HH.out.2.2.1]; exact H.out.1)
  have Bm_6 := Bm_5.ext (show Ext w5 w6 from (by with_reducible (repeat (first | assumption | exact Ext.refl _ | refine Ext.alloc' ?_ _ | refine Ext.store0 ?_ _ _ | refine Ext.storek ?_ _ _ _ | refine Ext.stores0 ?_ ?_ _ _ | refine Ext.storesk ?_ ?_ _ _ _ | refine Ext.drewN' ?_ _ | refine Ext.drew' ?_ | refine Ext.trans ?_ (by assumption)))))
  have Ba_6 := Ba_5.ext (show Ext w5 w6 from (by with_reducible (repeat (first | assumption | exact Ext.refl _ | refine Ext.alloc' ?_ _ | refine Ext.store0 ?_ _ _ | refine Ext.storek ?_ _ _ _ | refine Ext.stores0 ?_ ?_ _ _ | refine Ext.storesk ?_ ?_ _ _ _ | refine Ext.drewN' ?_ _ | refine Ext.drew' ?_ | refine Ext.trans ?_ (by assumption)))))
  clear Bm_5 zm cm0 cm1 cm2 dm0 dm1 dm2 Ba_5 za ca0 ca1 ca2 da0 da1 da2
  have Bc_6 : Box w6 (w5.heap.size) #[.slice c1 mc.W.length c2, .slice c3 mc.G.length c4, .bool false] 50 := (Box.new _ _ _).ext hb6
  obtain ⟨cm0, cm1, cm2, dm0, dm1, dm2⟩ := cells3 Bm_6
  have zm : w.heap.size < w6.heap.size := Bm_6.lt
  obtain ⟨ca0, ca1, ca2, da0, da1, da2⟩ := cells3 Ba_6
  have za : w4.heap.size < w6.heap.size := Ba_6.lt
  obtain ⟨cc0, cc1, cc2, dc0, dc1, dc2⟩ := cells3 Bc_6
  have zc : w5.heap.size < w6.heap.size := Bc_6.lt
  have ea2 := cell_ext ea (show Ext w w6 from (by with_reducible (repeat (first | assumption | exact Ext.refl _ | refine Ext.alloc' ?_ _ | refine Ext.store0 ?_ _ _ | refine Ext.storek ?_ _ _ _ | refine Ext.stores0 ?_ ?_ _ _ | refine Ext.storesk ?_ ?_ _ _ _ | refine Ext.drewN' ?_ _ | refine Ext.drew' ?_ | refine Ext.trans ?_ (by assumption)))))
  have zg : ba < w6.heap.size := World.block_lt_of_cell? _ _ ea2
  go_wp2_with (fail)
  go_at_call 70
  refine (memTurn_ no _ m i 1 _ ((IsMem.mk HB.out hw hg : IsMem no w (.agg #[.slice aw m.W.length cw, .slice (some ⟨ba, oa, none⟩) m.G.length cg, .bool false]) m).ext (by with_reducible (repeat (first | assumption | exact Ext.refl _ | refine Ext.alloc' ?_ _ | refine Ext.store0 ?_ _ _ | refine Ext.storek ?_ _ _ _ | refine Ext.stores0 ?_ ?_ _ _ | refine Ext.storesk ?_ ?_ _ _ _ | refine Ext.drewN' ?_ _ | refine Ext.drew' ?_ | refine Ext.trans ?_ (by assumption))))) hFit no_lt).calls.mono ?_
  rintro e w7 ⟨_, rfl, hb7, hut⟩
  rw [HH.out.2.2.2.1] at hut
  obtain ⟨t1, t2, t3, t4, rfl, wt, gt⟩ := hut.lit rfl rfl (show mt.bad = true from by rw [← HH.out.2.2.2.1]; exact H.out.2.2.1)
  have Bm_7 := Bm_6.ext (show Ext w6 w7 from (by with_reducible (repeat (first | assumption | exact Ext.refl _ | refine Ext.alloc' ?_ _ | refine Ext.store0 ?_ _ _ | refine Ext.storek ?_ _ _ _ | refine Ext.stores0 ?_ ?_ _ _ | refine Ext.storesk ?_ ?_ _ _ _ | refine Ext.drewN' ?_ _ | refine Ext.drew' ?_ | refine Ext.trans ?_ (by assumption)))))
  have Ba_7 := Ba_6.ext (show Ext w6 w7 from (by with_reducible (repeat (first | assumption | exact Ext.refl _ | refine Ext.alloc' ?_ _ | refine Ext.store0 ?_ _ _ | refine Ext.storek ?_ _ _ _ | refine Ext.stores0 ?_ ?_ _ _ | refine Ext.storesk ?_ ?_ _ _ _ | refine Ext.drewN' ?_ _ | refine Ext.drew' ?_ | refine Ext.trans ?_ (by assumption)))))
  have Bc_7 := Bc_6.ext (show Ext w6 w7 from (by with_reducible (repeat (first | assumption | exact Ext.refl _ | refine Ext.alloc' ?_ _ | refine Ext.store0 ?_ _ _ | refine Ext.storek ?_ _ _ _ | refine Ext.stores0 ?_ ?_ _ _ | refine Ext.storesk ?_ ?_ _ _ _ | refine Ext.drewN' ?_ _ | refine Ext.drew' ?_ | refine Ext.trans ?_ (by assumption)))))
  clear Bm_6 zm cm0 cm1 cm2 dm0 dm1 dm2 Ba_6 za ca0 ca1 ca2 da0 da1 da2 Bc_6 zc cc0 cc1 cc2 dc0 dc1 dc2
  have Bs_7 : Box w7 (w6.heap.size) #[.slice s1 ms.W.length s2, .slice s3 ms.G.length s4, .bool false] 50 := (Box.new _ _ _).ext hb7
  obtain ⟨cm0, cm1, cm2, dm0, dm1, dm2⟩ := cells3 Bm_7
  have zm : w.heap.size < w7.heap.size := Bm_7.lt
  obtain ⟨ca0, ca1, ca2, da0, da1, da2⟩ := cells3 Ba_7
  have za : w4.heap.size < w7.heap.size := Ba_7.lt
  obtain ⟨cc0, cc1, cc2, dc0, dc1, dc2⟩ := cells3 Bc_7
  have zc : w5.heap.size < w7.heap.size := Bc_7.lt
  obtain ⟨cs0, cs1, cs2, ds0, ds1, ds2⟩ := cells3 Bs_7
  have zs : w6.heap.size < w7.heap.size := Bs_7.lt
  go_wp2_with (fail)
  go_at_call 64
  refine (memLoad_ no _ mt yy _ ((IsMem.mk (show true = mt.bad by rw [← HH.out.2.2.2.1, H.out.2.2.1]) wt gt : IsMem no w7 (.agg #[.slice t1 mt.W.length t2, .slice t3 mt.G.length t4, .bool true]) mt).ext (by with_reducible (repeat (first | assumption | exact Ext.refl _ | refine Ext.alloc' ?_ _ | refine Ext.store0 ?_ _ _ | refine Ext.storek ?_ _ _ _ | refine Ext.stores0 ?_ ?_ _ _ | refine Ext.storesk ?_ ?_ _ _ _ | refine Ext.drewN' ?_ _ | refine Ext.drew' ?_ | refine Ext.trans ?_ (by assumption))))) (by rw [← HH.out.2.2.2.1]; exact hFit.same (turnMD_len _ _ _)) no_lt (by omega) (by omega)).calls.mono ?_
  rintro e w8 ⟨_, rfl, hb8, ud, rfl, hud⟩
  rw [HH.out.2.2.2.2.1] at hud
  obtain ⟨d1, d2, d3, d4, rfl, wd, gd⟩ := hud.lit rfl rfl (show md.bad = true from by rw [← HH.out.2.2.2.2.1, ← HH.out.2.2.2.1]; exact H.out.2.2.2.1)
  have Bm_8 := Bm_7.ext (show Ext w7 w8 from (by with_reducible (repeat (first | assumption | exact Ext.refl _ | refine Ext.alloc' ?_ _ | refine Ext.store0 ?_ _ _ | refine Ext.storek ?_ _ _ _ | refine Ext.stores0 ?_ ?_ _ _ | refine Ext.storesk ?_ ?_ _ _ _ | refine Ext.drewN' ?_ _ | refine Ext.drew' ?_ | refine Ext.trans ?_ (by assumption)))))
  have Ba_8 := Ba_7.ext (show Ext w7 w8 from (by with_reducible (repeat (first | assumption | exact Ext.refl _ | refine Ext.alloc' ?_ _ | refine Ext.store0 ?_ _ _ | refine Ext.storek ?_ _ _ _ | refine Ext.stores0 ?_ ?_ _ _ | refine Ext.storesk ?_ ?_ _ _ _ | refine Ext.drewN' ?_ _ | refine Ext.drew' ?_ | refine Ext.trans ?_ (by assumption)))))
  have Bc_8 := Bc_7.ext (show Ext w7 w8 from (by with_reducible (repeat (first | assumption | exact Ext.refl _ | refine Ext.alloc' ?_ _ | refine Ext.store0 ?_ _ _ | refine Ext.storek ?_ _ _ _ | refine Ext.stores0 ?_ ?_ _ _ | refine Ext.storesk ?_ ?_ _ _ _ | refine Ext.drewN' ?_ _ | refine Ext.drew' ?_ | refine Ext.trans ?_ (by assumption)))))
  have Bs_8 := Bs_7.ext (show Ext w7 w8 from (by with_reducible (repeat (first | assumption | exact Ext.refl _ | refine Ext.alloc' ?_ _ | refine Ext.store0 ?_ _ _ | refine Ext.storek ?_ _ _ _ | refine Ext.stores0 ?_ ?_ _ _ | refine Ext.storesk ?_ ?_ _ _ _ | refine Ext.drewN' ?_ _ | refine Ext.drew' ?_ | refine Ext.trans ?_ (by assumption)))))
  clear Bm_7 zm cm0 cm1 cm2 dm0 dm1 dm2 Ba_7 za ca0 ca1 ca2 da0 da1 da2 Bc_7 zc cc0 cc1 cc2 dc0 dc1 dc2 Bs_7 zs cs0 cs1 cs2 ds0 ds1 ds2
  have Bt_8 : Box w8 (w7.heap.size) #[.slice t1 mt.W.length t2, .slice t3 mt.G.length t4, .bool true] 50 := (Box.new _ _ _).ext hb8
  obtain ⟨cm0, cm1, cm2, dm0, dm1, dm2⟩ := cells3 Bm_8
  have zm : w.heap.size < w8.heap.size := Bm_8.lt
  obtain ⟨ca0, ca1, ca2, da0, da1, da2⟩ := cells3 Ba_8
  have za : w4.heap.size < w8.heap.size := Ba_8.lt
  obtain ⟨cc0, cc1, cc2, dc0, dc1, dc2⟩ := cells3 Bc_8
  have zc : w5.heap.size < w8.heap.size := Bc_8.lt
  obtain ⟨cs0, cs1, cs2, ds0, ds1, ds2⟩ := cells3 Bs_8
  have zs : w6.heap.size < w8.heap.size := Bs_8.lt
  obtain ⟨ct0, ct1, ct2, dt0, dt1, dt2⟩ := cells3 Bt_8
  have zt : w7.heap.size < w8.heap.size := Bt_8.lt
  go_wp2_with (fail)
  go_at_call 64
  refine (memLoad_ no _ m 0 _ ((IsMem.mk HB.out hw hg : IsMem no w (.agg #[.slice aw m.W.length cw, .slice (some ⟨ba, oa, none⟩) m.G.length cg, .bool false]) m).ext (by with_reducible (repeat (first | assumption | exact Ext.refl _ | refine Ext.alloc' ?_ _ | refine Ext.store0 ?_ _ _ | refine Ext.storek ?_ _ _ _ | refine Ext.stores0 ?_ ?_ _ _ | refine Ext.storesk ?_ ?_ _ _ _ | refine Ext.drewN' ?_ _ | refine Ext.drew' ?_ | refine Ext.trans ?_ (by assumption))))) hFit no_lt (by omega) (by omega)).calls.mono ?_
  rintro e w9 ⟨_, rfl, hb9, ur, rfl, hur⟩
  rw [HH.out.2.2.2.2.2] at hur
  obtain ⟨r1, r2, r3, r4, rfl, wr, gr⟩ := hur.lit rfl rfl (show mr.bad = false from by rw [← HH.out.2.2.2.2.2]; exact H.out.2.2.2.2)
  have Bm_9 := Bm_8.ext (show Ext w8 w9 from (by with_reducible (repeat (first | assumption | exact Ext.refl _ | refine Ext.alloc' ?_ _ | refine Ext.store0 ?_ _ _ | refine Ext.storek ?_ _ _ _ | refine Ext.stores0 ?_ ?_ _ _ | refine Ext.storesk ?_ ?_ _ _ _ | refine Ext.drewN' ?_ _ | refine Ext.drew' ?_ | refine Ext.trans ?_ (by assumption)))))
  have Ba_9 := Ba_8.ext (show Ext w8 w9 from (by with_reducible (repeat (first | assumption | exact Ext.refl _ | refine Ext.alloc' ?_ _ | refine Ext.store0 ?_ _ _ | refine Ext.storek ?_ _ _ _ | refine Ext.stores0 ?_ ?_ _ _ | refine Ext.storesk ?_ ?_ _ _ _ | refine Ext.drewN' ?_ _ | refine Ext.drew' ?_ | refine Ext.trans ?_ (by assumption)))))
  have Bc_9 := Bc_8.ext (show Ext w8 w9 from (by with_reducible (repeat (first | assumption | exact Ext.refl _ | refine Ext.alloc' ?_ _ | refine Ext.store0 ?_ _ _ | refine Ext.storek ?_ _ _ _ | refine Ext.stores0 ?_ ?_ _ _ | refine Ext.storesk ?_ ?_ _ _ _ | refine Ext.drewN' ?_ _ | refine Ext.drew' ?_ | refine Ext.trans ?_ (by assumption)))))
  have Bs_9 := Bs_8.ext (show Ext w8 w9 from (by with_reducible (repeat (first | assumption | exact Ext.refl _ | refine Ext.alloc' ?_ _ | refine Ext.store0 ?_ _ _ | refine Ext.storek ?_ _ _ _ | refine Ext.stores0 ?_ ?_ _ _ | refine Ext.storesk ?_ ?_ _ _ _ | refine Ext.drewN' ?_ _ | refine Ext.drew' ?_ | refine Ext.trans ?_ (by assumption)))))
  have Bt_9 := Bt_8.ext (show Ext w8 w9 from (by with_reducible (repeat (first | assumption | exact Ext.refl _ | refine Ext.alloc' ?_ _ | refine Ext.store0 ?_ _ _ | refine Ext.storek ?_ _ _ _ | refine Ext.stores0 ?_ ?_ _ _ | refine Ext.storesk ?_ ?_ _ _ _ | refine Ext.drewN' ?_ _ | refine Ext.drew' ?_ | refine Ext.trans ?_ (by assumption)))))
  clear Bm_8 zm cm0 cm1 cm2 dm0 dm1 dm2 Ba_8 za ca0 ca1 ca2 da0 da1 da2 Bc_8 zc cc0 cc1 cc2 dc0 dc1 dc2 Bs_8 zs cs0 cs1 cs2 ds0 ds1 ds2 Bt_8 zt ct0 ct1 ct2 dt0 dt1 dt2
  have Bd_9 : Box w9 (w8.heap.size) #[.slice d1 md.W.length d2, .slice d3 md.G.length d4, .bool true] 50 := (Box.new _ _ _).ext hb9
  obtain ⟨cm0, cm1, cm2, dm0, dm1, dm2⟩ := cells3 Bm_9
  have zm : w.heap.size < w9.heap.size := Bm_9.lt
  obtain ⟨ca0, ca1, ca2, da0, da1, da2⟩ := cells3 Ba_9
  have za : w4.heap.size < w9.heap.size := Ba_9.lt
  obtain ⟨cc0, cc1, cc2, dc0, dc1, dc2⟩ := cells3 Bc_9
  have zc : w5.heap.size < w9.heap.size := Bc_9.lt
  obtain ⟨cs0, cs1, cs2, ds0, ds1, ds2⟩ := cells3 Bs_9
  have zs : w6.heap.size < w9.heap.size := Bs_9.lt
  obtain ⟨ct0, ct1, ct2, dt0, dt1, dt2⟩ := cells3 Bt_9
  have zt : w7.heap.size < w9.heap.size := Bt_9.lt
  obtain ⟨cd0, cd1, cd2, dd0, dd1, dd2⟩ := cells3 Bd_9
  have zd : w8.heap.size < w9.heap.size := Bd_9.lt
  go_wp2_with (fail)
  have hEk : Ext w w9 := (by with_reducible (repeat (first | assumption | exact Ext.refl _ | refine Ext.alloc' ?_ _ | refine Ext.store0 ?_ _ _ | refine Ext.storek ?_ _ _ _ | refine Ext.stores0 ?_ ?_ _ _ | refine Ext.storesk ?_ ?_ _ _ _ | refine Ext.drewN' ?_ _ | refine Ext.drew' ?_ | refine Ext.trans ?_ (by assumption))))
  have eak := cell_ext ea hEk
  have eak1 : w9.cell? ⟨ba, oa + (i : Int).toNat * 1, none⟩ = some (.int .i64 (gi m.G i)) := by simpa using eak
  obtain ⟨W, hW⟩ : ∃ W, W = w9.alloc (.cells #[.slice r1 mr.W.length r2, .slice r3 mr.G.length r4, .bool false] 50 (0, 0)) := ⟨_, rfl⟩
  have hEW : Ext w W := by rw [hW]; exact (by with_reducible (repeat (first | assumption | exact Ext.refl _ | refine Ext.alloc' ?_ _ | refine Ext.store0 ?_ _ _ | refine Ext.storek ?_ _ _ _ | refine Ext.stores0 ?_ ?_ _ _ | refine Ext.storesk ?_ ?_ _ _ _ | refine Ext.drewN' ?_ _ | refine Ext.drew' ?_ | refine Ext.trans ?_ (by assumption))))
  have eaw : W.cell? ⟨ba, oa + (i : Int).toNat * 1, none⟩ = some (.int .i64 (gi m.G i)) := by rw [hW]; exact cell_ext eak1 (Ext.alloc _ _)
  have Dm := Bm_9.alloc (.cells #[.slice r1 mr.W.length r2, .slice r3 mr.G.length r4, .bool false] 50 (0, 0))
  have Da := Ba_9.alloc (.cells #[.slice r1 mr.W.length r2, .slice r3 mr.G.length r4, .bool false] 50 (0, 0))
  have Dc := Bc_9.alloc (.cells #[.slice r1 mr.W.length r2, .slice r3 mr.G.length r4, .bool false] 50 (0, 0))
  have Ds := Bs_9.alloc (.cells #[.slice r1 mr.W.length r2, .slice r3 mr.G.length r4, .bool false] 50 (0, 0))
  have Dt := Bt_9.alloc (.cells #[.slice r1 mr.W.length r2, .slice r3 mr.G.length r4, .bool false] 50 (0, 0))
  have Dd := Bd_9.alloc (.cells #[.slice r1 mr.W.length r2, .slice r3 mr.G.length r4, .bool false] 50 (0, 0))
  have Dr := Box.new w9 #[.slice r1 mr.W.length r2, .slice r3 mr.G.length r4, .bool false] 50
  rw [← hW] at Dm Da Dc Ds Dt Dd Dr
  rw [← hW]
  clear hW
  apply region_lit2 (T := []) (L := []) (X := []) (G := [eqv _, eqv _, eqv _, eqv _, eqv _, eqv (.bool true), eqv _, eqv _, eqv _, eqv _, eqv _, eqv (.bool true), eqv _, eqv _, eqv _, eqv _, eqv _, eqv (.bool true), eqv _, eqv _, eqv _, eqv _, eqv (.bool true), eqv _, eqv _, eqv _, eqv _, eqv _, eqv _, eqv _, eqv _, eqv _, eqv (.bool true), eqv (.bool true), eqv _, eqv _, eqv _, eqv _, eqv _, eqv _, eqv (.bool true), eqv _, eqv _, eqv _, eqv _, eqv (.int .i64 0), eqv _, eqv _, eqv (.int .i64 0), eqv (.int .i64 0), eqv (.bool true), eqv _, eqv _])
  case hm => kernel_rfl
  case hop =>
    refine ⟨?_, ?_, ?_, ?_, ?_, ?_, ?_, ?_, ?_, ?_, ?_, ?_, ?_, ?_, ?_, ?_, ?_, ?_, ?_, ?_, ?_, ?_, ?_, ?_, ?_, ?_, ?_, ?_, ?_, ?_, ?_, ?_, ?_, ?_, ?_, ?_, ?_, ?_, ?_, ?_, ?_, ?_, ?_, ?_, ?_, ?_, ?_, ?_, ?_, ?_, ?_, ?_, ?_, trivial⟩
    · intro a wa hs hf hd
      have t7 := hf.off 7 (by kernel_rfl) rfl
      exact plain_ rfl (yes_eqv (o_move rfl t7) rfl)
    · intro a wa hs hf hd
      have t85 : a.eval (.tmp 85) = _ := hd.at 0 85 (by kernel_rfl)
      exact plain_ rfl (yes_eqv (o_move rfl t85) rfl)
    · intro a wa hs hf hd
      have t86 : a.eval (.tmp 86) = _ := hd.at 1 86 (by kernel_rfl)
      have t11 := hf.off 11 (by kernel_rfl) rfl
      exact guard_on rfl rfl t86 (yes_eqv (o_fieldAddr rfl Proofs.Try.underlying50 rfl rfl (by kernel_rfl) t11) rfl)
    · intro a wa hs hf hd
      have t86 : a.eval (.tmp 86) = _ := hd.at 1 86 (by kernel_rfl)
      have t87 : a.eval (.tmp 87) = _ := hd.at 2 87 (by kernel_rfl)
      exact guard_on rfl rfl t86 (yes_eqv (o_load1 rfl Proofs.Try.underlying4 rfl t87 ((Da.since hs rfl).cell rfl)) rfl)
    · intro a wa hs hf hd
      have t86 : a.eval (.tmp 86) = _ := hd.at 1 86 (by kernel_rfl)
      have t16 := hf.off 16 (by kernel_rfl) rfl
      exact guard_on rfl rfl t86 (yes_eqv (o_move rfl t16) rfl)
    · intro a wa hs hf hd
      have t86 : a.eval (.tmp 86) = _ := hd.at 1 86 (by kernel_rfl)
      have t88 : a.eval (.tmp 88) = _ := hd.at 3 88 (by kernel_rfl)
      have t89 : a.eval (.tmp 89) = _ := hd.at 4 89 (by kernel_rfl)
      exact guard_on rfl rfl t86 (yes_eqv (o_eqlb rfl Proofs.Try.underlying4 t88 t89 (by simp [hq0])) rfl)
    · intro a wa hs hf hd
      have t86 : a.eval (.tmp 86) = _ := hd.at 1 86 (by kernel_rfl)
      have t90 : a.eval (.tmp 90) = _ := hd.at 5 90 (by kernel_rfl)
      exact plain_ rfl (yes_eqv (o_pick_t rfl t86 t90) rfl)
    · intro a wa hs hf hd
      have t91 : a.eval (.tmp 91) = _ := hd.at 6 91 (by kernel_rfl)
      exact plain_ rfl (yes_eqv (o_move rfl t91) rfl)
    · intro a wa hs hf hd
      have t92 : a.eval (.tmp 92) = _ := hd.at 7 92 (by kernel_rfl)
      have t13 := hf.off 13 (by kernel_rfl) rfl
      exact guard_on rfl rfl t92 (yes_eqv (o_fieldAddr rfl Proofs.Try.underlying50 rfl rfl (by kernel_rfl) t13) rfl)
    · intro a wa hs hf hd
      have t92 : a.eval (.tmp 92) = _ := hd.at 7 92 (by kernel_rfl)
      have t93 : a.eval (.tmp 93) = _ := hd.at 8 93 (by kernel_rfl)
      exact guard_on rfl rfl t92 (yes_eqv (o_load1 rfl Proofs.Try.underlying4 rfl t93 ((Dc.since hs rfl).cell rfl)) rfl)
    · intro a wa hs hf hd
      have t92 : a.eval (.tmp 92) = _ := hd.at 7 92 (by kernel_rfl)
      have t16 := hf.off 16 (by kernel_rfl) rfl
      exact guard_on rfl rfl t92 (yes_eqv (o_move rfl t16) rfl)
    · intro a wa hs hf hd
      have t92 : a.eval (.tmp 92) = _ := hd.at 7 92 (by kernel_rfl)
      have t94 : a.eval (.tmp 94) = _ := hd.at 9 94 (by kernel_rfl)
      have t95 : a.eval (.tmp 95) = _ := hd.at 10 95 (by kernel_rfl)
      exact guard_on rfl rfl t92 (yes_eqv (o_eqlb rfl Proofs.Try.underlying4 t94 t95 (by simp [hq0])) rfl)
    · intro a wa hs hf hd
      have t92 : a.eval (.tmp 92) = _ := hd.at 7 92 (by kernel_rfl)
      have t96 : a.eval (.tmp 96) = _ := hd.at 11 96 (by kernel_rfl)
      exact plain_ rfl (yes_eqv (o_pick_t rfl t92 t96) rfl)
    · intro a wa hs hf hd
      have t97 : a.eval (.tmp 97) = _ := hd.at 12 97 (by kernel_rfl)
      exact plain_ rfl (yes_eqv (o_move rfl t97) rfl)
    · intro a wa hs hf hd
      have t98 : a.eval (.tmp 98) = _ := hd.at 13 98 (by kernel_rfl)
      have t15 := hf.off 15 (by kernel_rfl) rfl
      exact guard_on rfl rfl t98 (yes_eqv (o_fieldAddr rfl Proofs.Try.underlying50 rfl rfl (by kernel_rfl) t15) rfl)
    · intro a wa hs hf hd
      have t98 : a.eval (.tmp 98) = _ := hd.at 13 98 (by kernel_rfl)
      have t99 : a.eval (.tmp 99) = _ := hd.at 14 99 (by kernel_rfl)
      exact guard_on rfl rfl t98 (yes_eqv (o_load1 rfl Proofs.Try.underlying4 rfl t99 ((Ds.since hs rfl).cell rfl)) rfl)
    · intro a wa hs hf hd
      have t98 : a.eval (.tmp 98) = _ := hd.at 13 98 (by kernel_rfl)
      have t16 := hf.off 16 (by kernel_rfl) rfl
      exact guard_on rfl rfl t98 (yes_eqv (o_move rfl t16) rfl)
    · intro a wa hs hf hd
      have t98 : a.eval (.tmp 98) = _ := hd.at 13 98 (by kernel_rfl)
      have t100 : a.eval (.tmp 100) = _ := hd.at 15 100 (by kernel_rfl)
      have t101 : a.eval (.tmp 101) = _ := hd.at 16 101 (by kernel_rfl)
      exact guard_on rfl rfl t98 (yes_eqv (o_eqlb rfl Proofs.Try.underlying4 t100 t101 (by simp [hq0])) rfl)
    · intro a wa hs hf hd
      have t98 : a.eval (.tmp 98) = _ := hd.at 13 98 (by kernel_rfl)
      have t102 : a.eval (.tmp 102) = _ := hd.at 17 102 (by kernel_rfl)
      exact plain_ rfl (yes_eqv (o_pick_t rfl t98 t102) rfl)
    · intro a wa hs hf hd
      have t103 : a.eval (.tmp 103) = _ := hd.at 18 103 (by kernel_rfl)
      exact plain_ rfl (yes_eqv (o_move rfl t103) rfl)
    · intro a wa hs hf hd
      have t104 : a.eval (.tmp 104) = _ := hd.at 19 104 (by kernel_rfl)
      have t20 := hf.off 20 (by kernel_rfl) rfl
      exact guard_on rfl rfl t104 (yes_eqv (o_fieldAddr rfl Proofs.Try.underlying50 rfl rfl (by kernel_rfl) t20) rfl)
    · intro a wa hs hf hd
      have t104 : a.eval (.tmp 104) = _ := hd.at 19 104 (by kernel_rfl)
      have t105 : a.eval (.tmp 105) = _ := hd.at 20 105 (by kernel_rfl)
      exact guard_on rfl rfl t104 (yes_eqv (o_load1 rfl Proofs.Try.underlying4 rfl t105 ((Dr.since hs rfl).cell rfl)) rfl)
    · intro a wa hs hf hd
      have t104 : a.eval (.tmp 104) = _ := hd.at 19 104 (by kernel_rfl)
      have t106 : a.eval (.tmp 106) = _ := hd.at 21 106 (by kernel_rfl)
      exact guard_on rfl rfl t104 (yes_eqv (o_not rfl t106 (by simp [hq0])) rfl)
    · intro a wa hs hf hd
      have t104 : a.eval (.tmp 104) = _ := hd.at 19 104 (by kernel_rfl)
      have t107 : a.eval (.tmp 107) = _ := hd.at 22 107 (by kernel_rfl)
      exact plain_ rfl (yes_eqv (o_pick_t rfl t104 t107) rfl)
    · intro a wa hs hf hd
      have t108 : a.eval (.tmp 108) = _ := hd.at 23 108 (by kernel_rfl)
      exact plain_ rfl (yes_eqv (o_move rfl t108) rfl)
    · intro a wa hs hf hd
      have t109 : a.eval (.tmp 109) = _ := hd.at 24 109 (by kernel_rfl)
      have t17 := hf.off 17 (by kernel_rfl) rfl
      exact guard_on rfl rfl t109 (yes_eqv (o_fieldAddr rfl Proofs.Try.underlying50 rfl rfl (by kernel_rfl) t17) rfl)
    · intro a wa hs hf hd
      have t109 : a.eval (.tmp 109) = _ := hd.at 24 109 (by kernel_rfl)
      have t110 : a.eval (.tmp 110) = _ := hd.at 25 110 (by kernel_rfl)
      exact guard_on rfl rfl t109 (yes_eqv (o_load1 rfl Proofs.Try.underlying4 rfl t110 ((Dt.since hs rfl).cell rfl)) rfl)
    · intro a wa hs hf hd
      have t109 : a.eval (.tmp 109) = _ := hd.at 24 109 (by kernel_rfl)
      have t3 := hf.off 3 (by kernel_rfl) rfl
      exact guard_on rfl rfl t109 (yes_eqv (o_fieldAddr rfl Proofs.Try.underlying50 rfl rfl (by kernel_rfl) t3) rfl)
    · intro a wa hs hf hd
      have t109 : a.eval (.tmp 109) = _ := hd.at 24 109 (by kernel_rfl)
      have t112 : a.eval (.tmp 112) = _ := hd.at 27 112 (by kernel_rfl)
      exact guard_on rfl rfl t109 (yes_eqv (o_load1 rfl Proofs.Try.underlying48 rfl t112 ((Dm.since hs rfl).cell rfl)) rfl)
    · intro a wa hs hf hd
      have t109 : a.eval (.tmp 109) = _ := hd.at 24 109 (by kernel_rfl)
      have t8 := hf.off 8 (by kernel_rfl) rfl
      exact guard_on rfl rfl t109 (yes_eqv (o_move rfl t8) rfl)
    · intro a wa hs hf hd
      have t109 : a.eval (.tmp 109) = _ := hd.at 24 109 (by kernel_rfl)
      have t113 : a.eval (.tmp 113) = _ := hd.at 28 113 (by kernel_rfl)
      have t114 : a.eval (.tmp 114) = _ := hd.at 29 114 (by kernel_rfl)
      exact guard_on rfl rfl t109 (yes_eqv (o_indexAddr (sz := 1) rfl Proofs.Try.underlying48 (by kernel_rfl) t113 t114 (by omega) (by omega)) rfl)
    · intro a wa hs hf hd
      have t109 : a.eval (.tmp 109) = _ := hd.at 24 109 (by kernel_rfl)
      have t115 : a.eval (.tmp 115) = _ := hd.at 30 115 (by kernel_rfl)
      exact guard_on rfl rfl t109 (yes_eqv (o_load1 rfl Proofs.Try.underlying3 rfl t115 (cell_since eaw hs rfl)) rfl)
    · intro a wa hs hf hd
      have t109 : a.eval (.tmp 109) = _ := hd.at 24 109 (by kernel_rfl)
      have t116 : a.eval (.tmp 116) = _ := hd.at 31 116 (by kernel_rfl)
      exact guard_on rfl rfl t109 (yes_eqv (o_neq rfl t116 rfl (by simp [hq0])) rfl)
    · intro a wa hs hf hd
      have t109 : a.eval (.tmp 109) = _ := hd.at 24 109 (by kernel_rfl)
      have t111 : a.eval (.tmp 111) = _ := hd.at 26 111 (by kernel_rfl)
      have t117 : a.eval (.tmp 117) = _ := hd.at 32 117 (by kernel_rfl)
      exact guard_on rfl rfl t109 (yes_eqv (o_eqlb rfl Proofs.Try.underlying4 t111 t117 (by simp [hq0])) rfl)
    · intro a wa hs hf hd
      have t109 : a.eval (.tmp 109) = _ := hd.at 24 109 (by kernel_rfl)
      have t118 : a.eval (.tmp 118) = _ := hd.at 33 118 (by kernel_rfl)
      exact plain_ rfl (yes_eqv (o_pick_t rfl t109 t118) rfl)
    · intro a wa hs hf hd
      have t119 : a.eval (.tmp 119) = _ := hd.at 34 119 (by kernel_rfl)
      exact plain_ rfl (yes_eqv (o_move rfl t119) rfl)
    · intro a wa hs hf hd
      have t120 : a.eval (.tmp 120) = _ := hd.at 35 120 (by kernel_rfl)
      have t18 := hf.off 18 (by kernel_rfl) rfl
      exact guard_on rfl rfl t120 (yes_eqv (o_fieldAddr rfl Proofs.Try.underlying50 rfl rfl (by kernel_rfl) t18) rfl)
    · intro a wa hs hf hd
      have t120 : a.eval (.tmp 120) = _ := hd.at 35 120 (by kernel_rfl)
      have t121 : a.eval (.tmp 121) = _ := hd.at 36 121 (by kernel_rfl)
      exact guard_on rfl rfl t120 (yes_eqv (o_load1 rfl Proofs.Try.underlying4 rfl t121 ((Dd.since hs rfl).cell rfl)) rfl)
    · intro a wa hs hf hd
      have t120 : a.eval (.tmp 120) = _ := hd.at 35 120 (by kernel_rfl)
      have t17 := hf.off 17 (by kernel_rfl) rfl
      exact guard_on rfl rfl t120 (yes_eqv (o_fieldAddr rfl Proofs.Try.underlying50 rfl rfl (by kernel_rfl) t17) rfl)
    · intro a wa hs hf hd
      have t120 : a.eval (.tmp 120) = _ := hd.at 35 120 (by kernel_rfl)
      have t123 : a.eval (.tmp 123) = _ := hd.at 38 123 (by kernel_rfl)
      exact guard_on rfl rfl t120 (yes_eqv (o_load1 rfl Proofs.Try.underlying4 rfl t123 ((Dt.since hs rfl).cell rfl)) rfl)
    · intro a wa hs hf hd
      have t120 : a.eval (.tmp 120) = _ := hd.at 35 120 (by kernel_rfl)
      have t122 : a.eval (.tmp 122) = _ := hd.at 37 122 (by kernel_rfl)
      have t124 : a.eval (.tmp 124) = _ := hd.at 39 124 (by kernel_rfl)
      exact guard_on rfl rfl t120 (yes_eqv (o_eqlb rfl Proofs.Try.underlying4 t122 t124 (by simp [hq0])) rfl)
    · intro a wa hs hf hd
      have t120 : a.eval (.tmp 120) = _ := hd.at 35 120 (by kernel_rfl)
      have t125 : a.eval (.tmp 125) = _ := hd.at 40 125 (by kernel_rfl)
      exact plain_ rfl (yes_eqv (o_pick_t rfl t120 t125) rfl)
    · intro a wa hs hf hd
      have t126 : a.eval (.tmp 126) = _ := hd.at 41 126 (by kernel_rfl)
      exact plain_ rfl (yes_eqv (o_move rfl t126) rfl)
    · intro a wa hs hf hd
      have t127 : a.eval (.tmp 127) = _ := hd.at 42 127 (by kernel_rfl)
      have t3 := hf.off 3 (by kernel_rfl) rfl
      exact guard_on rfl rfl t127 (yes_eqv (o_load3 rfl Proofs.Try.underlying50 rfl (by kernel_rfl) t3 ((Dm.since hs rfl).cell rfl) ((Dm.since hs rfl).cell rfl) ((Dm.since hs rfl).cell rfl)) rfl)
    · intro a wa hs hf hd
      have t127 : a.eval (.tmp 127) = _ := hd.at 42 127 (by kernel_rfl)
      have t10 := hf.off 10 (by kernel_rfl) rfl
      exact guard_on rfl rfl t127 (yes_eqv (o_move rfl t10) rfl)
    · intro a wa hs hf hd
      have t127 : a.eval (.tmp 127) = _ := hd.at 42 127 (by kernel_rfl)
      have t128 : a.eval (.tmp 128) = _ := hd.at 43 128 (by kernel_rfl)
      have t129 : a.eval (.tmp 129) = _ := hd.at 44 129 (by kernel_rfl)
      exact guard_on rfl rfl t127 (yes_gives (show Gives Proofs.Try.prog 59 #[.agg #[.slice aw m.W.length cw, .slice (some ⟨ba, oa, none⟩) m.G.length cg, .bool false], .int .i64 yy] _ (eqv (.int .i64 0)) by rw [← H.out.2.1]; exact node_ no _ m yy _ ((IsMem.mk HB.out hw hg : IsMem no w (.agg #[.slice aw m.W.length cw, .slice (some ⟨ba, oa, none⟩) m.G.length cg, .bool false]) m).ext (hEW.trans (Since.to_ext hs))) (by omega) (by omega)) rfl rfl Proofs.Try.func59 (by kernel_rfl) (by kernel_rfl) (by simp only [List.map_toArray, List.map_cons, List.map_nil, t128, t129]) rfl)
    · intro a wa hs hf hd
      have t127 : a.eval (.tmp 127) = _ := hd.at 42 127 (by kernel_rfl)
      have t8 := hf.off 8 (by kernel_rfl) rfl
      exact guard_on rfl rfl t127 (yes_eqv (o_move rfl t8) rfl)
    · intro a wa hs hf hd
      have t127 : a.eval (.tmp 127) = _ := hd.at 42 127 (by kernel_rfl)
      have t9 := hf.off 9 (by kernel_rfl) rfl
      exact guard_on rfl rfl t127 (yes_eqv (o_move rfl t9) rfl)
    · intro a wa hs hf hd
      have t127 : a.eval (.tmp 127) = _ := hd.at 42 127 (by kernel_rfl)
      have t132 : a.eval (.tmp 132) = _ := hd.at 47 132 (by kernel_rfl)
      exact guard_on rfl rfl t127 (yes_eqv (o_min rfl t132 (by split <;> omega)) rfl)
    · intro a wa hs hf hd
      have t127 : a.eval (.tmp 127) = _ := hd.at 42 127 (by kernel_rfl)
      have t131 : a.eval (.tmp 131) = _ := hd.at 46 131 (by kernel_rfl)
      have t133 : a.eval (.tmp 133) = _ := hd.at 48 133 (by kernel_rfl)
      exact guard_on rfl rfl t127 (yes_eqv (o_mul rfl t131 t133 (by rw [IntKind.wrap_i64]; omega)) rfl)
    · intro a wa hs hf hd
      have t127 : a.eval (.tmp 127) = _ := hd.at 42 127 (by kernel_rfl)
      have t130 : a.eval (.tmp 130) = _ := hd.at 45 130 (by kernel_rfl)
      have t134 : a.eval (.tmp 134) = _ := hd.at 49 134 (by kernel_rfl)
      exact guard_on rfl rfl t127 (yes_eqv (o_eql rfl t130 t134 (by simp [hq0])) rfl)
    · intro a wa hs hf hd
      have t127 : a.eval (.tmp 127) = _ := hd.at 42 127 (by kernel_rfl)
      have t135 : a.eval (.tmp 135) = _ := hd.at 50 135 (by kernel_rfl)
      exact plain_ rfl (yes_eqv (o_pick_t rfl t127 t135) rfl)
    · intro a wa hs hf hd
      have t136 : a.eval (.tmp 136) = _ := hd.at 51 136 (by kernel_rfl)
      exact plain_ rfl (yes_eqv (o_assign rfl t136) rfl)
  case hG => exact ⟨stable_eqv _, stable_eqv _, stable_eqv _, stable_eqv _, stable_eqv _, stable_eqv _, stable_eqv _, stable_eqv _, stable_eqv _, stable_eqv _, stable_eqv _, stable_eqv _, stable_eqv _, stable_eqv _, stable_eqv _, stable_eqv _, stable_eqv _, stable_eqv _, stable_eqv _, stable_eqv _, stable_eqv _, stable_eqv _, stable_eqv _, stable_eqv _, stable_eqv _, stable_eqv _, stable_eqv _, stable_eqv _, stable_eqv _, stable_eqv _, stable_eqv _, stable_eqv _, stable_eqv _, stable_eqv _, stable_eqv _, stable_eqv _, stable_eqv _, stable_eqv _, stable_eqv _, stable_eqv _, stable_eqv _, stable_eqv _, stable_eqv _, stable_eqv _, stable_eqv _, stable_eqv _, stable_eqv _, stable_eqv _, stable_eqv _, stable_eqv _, stable_eqv _, stable_eqv _, stable_eqv _, trivial⟩
  case hc => kernel_rfl
  case hfin =>
    intro v2 hs2
    rintro _ rfl _ rfl _ rfl _ rfl _ rfl _ rfl _ rfl _ rfl _ rfl _ rfl _ rfl _ rfl _ rfl _ rfl _ rfl _ rfl _ rfl _ rfl _ rfl _ rfl _ rfl _ rfl _ rfl _ rfl _ rfl _ rfl _ rfl _ rfl _ rfl _ rfl _ rfl _ rfl _ rfl _ rfl _ rfl _ rfl _ rfl _ rfl _ rfl _ rfl _ rfl _ rfl _ rfl _ rfl _ rfl _ rfl _ rfl _ rfl _ rfl _ rfl _ rfl _ rfl _ rfl
    rintro _ rfl
    simp only [Act.put, List.setIfInBounds_toArray, List.set_cons_zero, List.set_cons_succ]
    go_wp2
    go_ret
    exact ⟨_, rfl, hEW.trans (Since.to_ext hs2), rfl⟩

set_option maxHeartbeats 1000000 in
set_option maxRecDepth 100000 in
theorem memGuards_ (v0 v1 v2 : Value) (m : Arena) (x y : Int) (w : World) (h : IsMem no w (.agg #[v0, v1, v2]) m) (hx0 : 0 ≤ x) (hx1 : x ≤ 255) (hy0 : 0 ≤ y) (hy1 : y ≤ 255) :
    Gives Proofs.Try.prog 14 #[.agg #[v0, v1, v2], .int .u8 x, .int .u8 y] w (eqv (.bool true)) := by
  have km := fun (w' : World) (e : Ext w w') => memMay_ no _ m 60 (by omega) w' (h.ext e)
  obtain ⟨aw, cw, ag, cg, e, hw, hg⟩ := h.opened
  obtain ⟨rfl, rfl, rfl⟩ : v0 = .slice aw m.W.length cw ∧ v1 = .slice ag m.G.length cg ∧ v2 = .bool m.bad := by simpa using e
  clear e
  cases hm : mayD m 60
  · rw [hm] at km
    go_enter Proofs.Try.func14, Proofs.Try.ntmps14
    go_wp2_with (fail)
    go_at_call 49
    refine (shown2_ _).calls.mono ?_
    rintro e w1 ⟨_, rfl, hb1, rfl⟩
    have Bm_1 : Box w1 (w.heap.size) #[.slice aw m.W.length cw, .slice ag m.G.length cg, .bool m.bad] 50 := (Box.new _ _ _).ext hb1
    obtain ⟨cm0, cm1, cm2, dm0, dm1, dm2⟩ := cells3 Bm_1
    have zm : w.heap.size < w1.heap.size := Bm_1.lt
    go_wp2_with (fail)
    go_at_call 63
    refine (km _ (by with_reducible (repeat (first | assumption | exact Ext.refl _ | refine Ext.alloc' ?_ _ | refine Ext.store0 ?_ _ _ | refine Ext.storek ?_ _ _ _ | refine Ext.stores0 ?_ ?_ _ _ | refine Ext.storesk ?_ ?_ _ _ _ | refine Ext.drewN' ?_ _ | refine Ext.drew' ?_ | refine Ext.trans ?_ (by assumption))))).calls.mono ?_
    rintro e w2 ⟨_, rfl, hb2, rfl⟩
    have Bm_2 := Bm_1.ext (show Ext w1 w2 from (by with_reducible (repeat (first | assumption | exact Ext.refl _ | refine Ext.alloc' ?_ _ | refine Ext.store0 ?_ _ _ | refine Ext.storek ?_ _ _ _ | refine Ext.stores0 ?_ ?_ _ _ | refine Ext.storesk ?_ ?_ _ _ _ | refine Ext.drewN' ?_ _ | refine Ext.drew' ?_ | refine Ext.trans ?_ (by assumption)))))
    clear Bm_1 zm cm0 cm1 cm2 dm0 dm1 dm2
    obtain ⟨cm0, cm1, cm2, dm0, dm1, dm2⟩ := cells3 Bm_2
    have zm : w.heap.size < w2.heap.size := Bm_2.lt
    go_wp2
    go_ret
    exact ⟨_, rfl, (by with_reducible (repeat (first | assumption | exact Ext.refl _ | refine Ext.alloc' ?_ _ | refine Ext.store0 ?_ _ _ | refine Ext.storek ?_ _ _ _ | refine Ext.stores0 ?_ ?_ _ _ | refine Ext.storesk ?_ ?_ _ _ _ | refine Ext.drewN' ?_ _ | refine Ext.drew' ?_ | refine Ext.trans ?_ (by assumption)))), rfl⟩
  · cases hb : m.bad
    · have hl : 2 ≤ m.G.length := by simp [mayD, rightD] at hm; exact hm.2.1.1
      obtain ⟨j, hj⟩ : ∃ j : Nat, x % ((m.G.length : Int) - 1) = j := ⟨(x % ((m.G.length : Int) - 1)).toNat, by have := Int.emod_nonneg x (show (m.G.length : Int) - 1 ≠ 0 by omega); omega⟩
      have hj2 : (j : Int) < (m.G.length : Int) - 1 := by rw [← hj]; exact Int.emod_lt_of_pos x (by omega)
      obtain ⟨k, hk⟩ : ∃ k : Nat, y % 4 = k := ⟨(y % 4).toNat, by omega⟩
      by_cases hq : 0 < k <;> by_cases hq0 : gi m.G (j + 1) = 0
      · exact memGuards_a aw ag cw cg m x y (j + 1) k w hw hg hb.symm hm (by rw [hj]; omega) (by omega) (by omega) hk (by omega) hx0 hx1 hy0 hy1 hq hq0
      · exact memGuards_b aw ag cw cg m x y (j + 1) k w hw hg hb.symm hm (by rw [hj]; omega) (by omega) (by omega) hk (by omega) hx0 hx1 hy0 hy1 hq hq0
      · exact memGuards_c aw ag cw cg m x y (j + 1) w hw hg hb.symm hm (by rw [hj]; omega) (by omega) (by omega) (by omega) hx0 hx1 hy0 hy1 hq0
      · exact memGuards_d aw ag cw cg m x y (j + 1) w hw hg hb.symm hm (by rw [hj]; omega) (by omega) (by omega) (by omega) hx0 hx1 hy0 hy1 hq0
    · rw [hm] at km
      rw [hb] at km
      go_enter Proofs.Try.func14, Proofs.Try.ntmps14
      go_wp2_with (fail)
      go_at_call 49
      refine (shown2_ _).calls.mono ?_
      rintro e w1 ⟨_, rfl, hb1, rfl⟩
      have Bm_1 : Box w1 (w.heap.size) #[.slice aw m.W.length cw, .slice ag m.G.length cg, .bool true] 50 := (Box.new _ _ _).ext hb1
      obtain ⟨cm0, cm1, cm2, dm0, dm1, dm2⟩ := cells3 Bm_1
      have zm : w.heap.size < w1.heap.size := Bm_1.lt
      go_wp2_with (fail)
      go_at_call 63
      refine (km _ (by with_reducible (repeat (first | assumption | exact Ext.refl _ | refine Ext.alloc' ?_ _ | refine Ext.store0 ?_ _ _ | refine Ext.storek ?_ _ _ _ | refine Ext.stores0 ?_ ?_ _ _ | refine Ext.storesk ?_ ?_ _ _ _ | refine Ext.drewN' ?_ _ | refine Ext.drew' ?_ | refine Ext.trans ?_ (by assumption))))).calls.mono ?_
      rintro e w2 ⟨_, rfl, hb2, rfl⟩
      have Bm_2 := Bm_1.ext (show Ext w1 w2 from (by with_reducible (repeat (first | assumption | exact Ext.refl _ | refine Ext.alloc' ?_ _ | refine Ext.store0 ?_ _ _ | refine Ext.storek ?_ _ _ _ | refine Ext.stores0 ?_ ?_ _ _ | refine Ext.storesk ?_ ?_ _ _ _ | refine Ext.drewN' ?_ _ | refine Ext.drew' ?_ | refine Ext.trans ?_ (by assumption)))))
      clear Bm_1 zm cm0 cm1 cm2 dm0 dm1 dm2
      obtain ⟨cm0, cm1, cm2, dm0, dm1, dm2⟩ := cells3 Bm_2
      have zm : w.heap.size < w2.heap.size := Bm_2.lt
      go_wp2
      go_ret
      exact ⟨_, rfl, (by with_reducible (repeat (first | assumption | exact Ext.refl _ | refine Ext.alloc' ?_ _ | refine Ext.store0 ?_ _ _ | refine Ext.storek ?_ _ _ _ | refine Ext.stores0 ?_ ?_ _ _ | refine Ext.storesk ?_ ?_ _ _ _ | refine Ext.drewN' ?_ _ | refine Ext.drew' ?_ | refine Ext.trans ?_ (by assumption)))), rfl⟩
end Go.Proofs.Ytcfbdfgondmkoaa
