/- MemDoes: its walk. -/
import Derived.Test.YtcfbdfgondmkoaaAr20
namespace Go.Proofs.Ytcfbdfgondmkoaa
open Go Go.RowKit
set_option linter.unusedSimpArgs false
set_option linter.unusedVariables false
set_option linter.unnecessarySimpa false

theorem refSameT_ (va vb : Value) (a : Arena) (w : World) (ha : isM a va w) (hb : isM a vb w) : Gives Proofs.Try.prog 54 #[va, vb] w (eqv (.bool true)) := by
  have := refSame_ no va vb a a w ha hb
  rw [sameD_refl] at this
  exact this
set_option maxHeartbeats 1000000 in
set_option maxRecDepth 100000 in
theorem memDoes_ (v0 v1 v2 : Value) (m : Arena) (x old now node : Int) (w : World) (h : IsMem no w (.agg #[v0, v1, v2]) m) (hx0 : -9223372036854775808 ≤ x) (hx1 : x ≤ 9223372036854775807) :
    Gives Proofs.Try.prog 12 #[.agg #[v0, v1, v2, .int .i64 x, .int .i64 old, .int .i64 now, .int .i64 node]] w (eqv (.bool true)) := by
  have km := fun (w' : World) (e : Ext w w') => memMay_ no _ m 60 (by omega) w' (h.ext e)
  obtain ⟨aw, cw, ag, cg, e, hw, hg⟩ := h.opened
  obtain ⟨rfl, rfl, rfl⟩ : v0 = .slice aw m.W.length cw ∧ v1 = .slice ag m.G.length cg ∧ v2 = .bool m.bad := by simpa using e
  clear e
  cases hm : mayD m 60 <;> rw [hm] at km
  · go_enter Proofs.Try.func12, Proofs.Try.ntmps12
    go_wp2_with (fail)
    go_at_call 49
    refine (shown2_ _).calls.mono ?_
    rintro e w1 ⟨_, rfl, hb1, rfl⟩
    have Bi_1 : Box w1 (w.heap.size) #[.slice aw m.W.length cw, .slice ag m.G.length cg, .bool m.bad, .int .i64 x, .int .i64 old, .int .i64 now, .int .i64 node] 64 := ((Box.new _ _ _).alloc _).ext hb1
    have Bm_1 : Box w1 (w.heap.size + 1) #[.slice aw m.W.length cw, .slice ag m.G.length cg, .bool m.bad] 50 := (Box.two _ _ _ _ _).ext hb1
    obtain ⟨ci0, ci1, ci2, ci3, ci4, ci5, ci6, di0, di1, di2, di3, di4, di5, di6⟩ := cells7 Bi_1
    have zi : w.heap.size < w1.heap.size := Bi_1.lt
    obtain ⟨cm0, cm1, cm2, dm0, dm1, dm2⟩ := cells3 Bm_1
    have zm : w.heap.size + 1 < w1.heap.size := Bm_1.lt
    go_wp2_with (fail)
    go_at_call 63
    refine (km _ (by with_reducible (repeat (first | assumption | exact Ext.refl _ | refine Ext.alloc' ?_ _ | refine Ext.store0 ?_ _ _ | refine Ext.storek ?_ _ _ _ | refine Ext.stores0 ?_ ?_ _ _ | refine Ext.storesk ?_ ?_ _ _ _ | refine Ext.store ?_ _ _ (by first | omega | (dsimp only; omega)) | refine Ext.drewN' ?_ _ | refine Ext.drew' ?_ | refine Ext.trans ?_ (by assumption))))).calls.mono ?_
    rintro e w2 ⟨_, rfl, hb2, rfl⟩
    have Bi_2 := Bi_1.ext (show Ext w1 w2 from (by with_reducible (repeat (first | assumption | exact Ext.refl _ | refine Ext.alloc' ?_ _ | refine Ext.store0 ?_ _ _ | refine Ext.storek ?_ _ _ _ | refine Ext.stores0 ?_ ?_ _ _ | refine Ext.storesk ?_ ?_ _ _ _ | refine Ext.store ?_ _ _ (by first | omega | (dsimp only; omega)) | refine Ext.drewN' ?_ _ | refine Ext.drew' ?_ | refine Ext.trans ?_ (by assumption)))))
    have Bm_2 := Bm_1.ext (show Ext w1 w2 from (by with_reducible (repeat (first | assumption | exact Ext.refl _ | refine Ext.alloc' ?_ _ | refine Ext.store0 ?_ _ _ | refine Ext.storek ?_ _ _ _ | refine Ext.stores0 ?_ ?_ _ _ | refine Ext.storesk ?_ ?_ _ _ _ | refine Ext.store ?_ _ _ (by first | omega | (dsimp only; omega)) | refine Ext.drewN' ?_ _ | refine Ext.drew' ?_ | refine Ext.trans ?_ (by assumption)))))
    clear Bi_1 zi ci0 ci1 ci2 ci3 ci4 ci5 ci6 di0 di1 di2 di3 di4 di5 di6 Bm_1 zm cm0 cm1 cm2 dm0 dm1 dm2
    obtain ⟨ci0, ci1, ci2, ci3, ci4, ci5, ci6, di0, di1, di2, di3, di4, di5, di6⟩ := cells7 Bi_2
    have zi : w.heap.size < w2.heap.size := Bi_2.lt
    obtain ⟨cm0, cm1, cm2, dm0, dm1, dm2⟩ := cells3 Bm_2
    have zm : w.heap.size + 1 < w2.heap.size := Bm_2.lt
    go_wp2
    go_ret
    exact ⟨_, rfl, (by with_reducible (repeat (first | assumption | exact Ext.refl _ | refine Ext.alloc' ?_ _ | refine Ext.store0 ?_ _ _ | refine Ext.storek ?_ _ _ _ | refine Ext.stores0 ?_ ?_ _ _ | refine Ext.storesk ?_ ?_ _ _ _ | refine Ext.store ?_ _ _ (by first | omega | (dsimp only; omega)) | refine Ext.drewN' ?_ _ | refine Ext.drew' ?_ | refine Ext.trans ?_ (by assumption)))), rfl⟩
  · go_enter Proofs.Try.func12, Proofs.Try.ntmps12
    go_wp2_with (fail)
    go_at_call 49
    refine (shown2_ _).calls.mono ?_
    rintro e w1 ⟨_, rfl, hb1, rfl⟩
    have Bi_1 : Box w1 (w.heap.size) #[.slice aw m.W.length cw, .slice ag m.G.length cg, .bool m.bad, .int .i64 x, .int .i64 old, .int .i64 now, .int .i64 node] 64 := ((Box.new _ _ _).alloc _).ext hb1
    have Bm_1 : Box w1 (w.heap.size + 1) #[.slice aw m.W.length cw, .slice ag m.G.length cg, .bool m.bad] 50 := (Box.two _ _ _ _ _).ext hb1
    obtain ⟨ci0, ci1, ci2, ci3, ci4, ci5, ci6, di0, di1, di2, di3, di4, di5, di6⟩ := cells7 Bi_1
    have zi : w.heap.size < w1.heap.size := Bi_1.lt
    obtain ⟨cm0, cm1, cm2, dm0, dm1, dm2⟩ := cells3 Bm_1
    have zm : w.heap.size + 1 < w1.heap.size := Bm_1.lt
    go_wp2_with (fail)
    go_at_call 63
    refine (km _ (by with_reducible (repeat (first | assumption | exact Ext.refl _ | refine Ext.alloc' ?_ _ | refine Ext.store0 ?_ _ _ | refine Ext.storek ?_ _ _ _ | refine Ext.stores0 ?_ ?_ _ _ | refine Ext.storesk ?_ ?_ _ _ _ | refine Ext.store ?_ _ _ (by first | omega | (dsimp only; omega)) | refine Ext.drewN' ?_ _ | refine Ext.drew' ?_ | refine Ext.trans ?_ (by assumption))))).calls.mono ?_
    rintro e w2 ⟨_, rfl, hb2, rfl⟩
    have Bi_2 := Bi_1.ext (show Ext w1 w2 from (by with_reducible (repeat (first | assumption | exact Ext.refl _ | refine Ext.alloc' ?_ _ | refine Ext.store0 ?_ _ _ | refine Ext.storek ?_ _ _ _ | refine Ext.stores0 ?_ ?_ _ _ | refine Ext.storesk ?_ ?_ _ _ _ | refine Ext.store ?_ _ _ (by first | omega | (dsimp only; omega)) | refine Ext.drewN' ?_ _ | refine Ext.drew' ?_ | refine Ext.trans ?_ (by assumption)))))
    have Bm_2 := Bm_1.ext (show Ext w1 w2 from (by with_reducible (repeat (first | assumption | exact Ext.refl _ | refine Ext.alloc' ?_ _ | refine Ext.store0 ?_ _ _ | refine Ext.storek ?_ _ _ _ | refine Ext.stores0 ?_ ?_ _ _ | refine Ext.storesk ?_ ?_ _ _ _ | refine Ext.store ?_ _ _ (by first | omega | (dsimp only; omega)) | refine Ext.drewN' ?_ _ | refine Ext.drew' ?_ | refine Ext.trans ?_ (by assumption)))))
    clear Bi_1 zi ci0 ci1 ci2 ci3 ci4 ci5 ci6 di0 di1 di2 di3 di4 di5 di6 Bm_1 zm cm0 cm1 cm2 dm0 dm1 dm2
    obtain ⟨ci0, ci1, ci2, ci3, ci4, ci5, ci6, di0, di1, di2, di3, di4, di5, di6⟩ := cells7 Bi_2
    have zi : w.heap.size < w2.heap.size := Bi_2.lt
    obtain ⟨cm0, cm1, cm2, dm0, dm1, dm2⟩ := cells3 Bm_2
    have zm : w.heap.size + 1 < w2.heap.size := Bm_2.lt
    have hFit := Fits.of_may hm
    obtain ⟨z, hz⟩ : ∃ z, loadD m x = z := ⟨_, rfl⟩
    obtain ⟨mt, hmt⟩ : ∃ mt, touchD m x = mt := ⟨_, rfl⟩
    obtain ⟨mc, hmc⟩ : ∃ mc, casD m x old now = mc := ⟨_, rfl⟩
    obtain ⟨ci, hci⟩ : ∃ ci, casIs m x old = ci := ⟨_, rfl⟩
    have H1 := Lib.hid hz
    have H2 := Lib.hid hmt
    have H3 := Lib.hid hmc
    have H4 := Lib.hid hci
    clear hz hmt hmc hci
    go_wp2_with (fail)
    go_at_call 64
    refine (memLoad_ no _ m x _ ((IsMem.mk rfl hw hg : IsMem no w (.agg #[.slice aw m.W.length cw, .slice ag m.G.length cg, .bool m.bad]) m).ext (by with_reducible (repeat (first | assumption | exact Ext.refl _ | refine Ext.alloc' ?_ _ | refine Ext.store0 ?_ _ _ | refine Ext.storek ?_ _ _ _ | refine Ext.stores0 ?_ ?_ _ _ | refine Ext.storesk ?_ ?_ _ _ _ | refine Ext.store ?_ _ _ (by first | omega | (dsimp only; omega)) | refine Ext.drewN' ?_ _ | refine Ext.drew' ?_ | refine Ext.trans ?_ (by assumption))))) hFit no_lt hx0 hx1).calls.mono ?_
    rintro e w3 ⟨_, rfl, hb3, up, rfl, hup⟩
    rw [H1.out]
    rw [H2.out] at hup
    obtain ⟨p1, p2, p3, p4, rfl, wp, gp⟩ := hup.opened
    have Bi_3 := Bi_2.ext (show Ext w2 w3 from (by with_reducible (repeat (first | assumption | exact Ext.refl _ | refine Ext.alloc' ?_ _ | refine Ext.store0 ?_ _ _ | refine Ext.storek ?_ _ _ _ | refine Ext.stores0 ?_ ?_ _ _ | refine Ext.storesk ?_ ?_ _ _ _ | refine Ext.store ?_ _ _ (by first | omega | (dsimp only; omega)) | refine Ext.drewN' ?_ _ | refine Ext.drew' ?_ | refine Ext.trans ?_ (by assumption)))))
    have Bm_3 := Bm_2.ext (show Ext w2 w3 from (by with_reducible (repeat (first | assumption | exact Ext.refl _ | refine Ext.alloc' ?_ _ | refine Ext.store0 ?_ _ _ | refine Ext.storek ?_ _ _ _ | refine Ext.stores0 ?_ ?_ _ _ | refine Ext.storesk ?_ ?_ _ _ _ | refine Ext.store ?_ _ _ (by first | omega | (dsimp only; omega)) | refine Ext.drewN' ?_ _ | refine Ext.drew' ?_ | refine Ext.trans ?_ (by assumption)))))
    clear Bi_2 zi ci0 ci1 ci2 ci3 ci4 ci5 ci6 di0 di1 di2 di3 di4 di5 di6 Bm_2 zm cm0 cm1 cm2 dm0 dm1 dm2
    obtain ⟨ci0, ci1, ci2, ci3, ci4, ci5, ci6, di0, di1, di2, di3, di4, di5, di6⟩ := cells7 Bi_3
    have zi : w.heap.size < w3.heap.size := Bi_3.lt
    obtain ⟨cm0, cm1, cm2, dm0, dm1, dm2⟩ := cells3 Bm_3
    have zm : w.heap.size + 1 < w3.heap.size := Bm_3.lt
    go_wp2_with (fail)
    go_at_call 65
    refine (refLoad_ no _ m x _ ((IsMem.mk rfl hw hg : IsMem no w (.agg #[.slice aw m.W.length cw, .slice ag m.G.length cg, .bool m.bad]) m).ext (by with_reducible (repeat (first | assumption | exact Ext.refl _ | refine Ext.alloc' ?_ _ | refine Ext.store0 ?_ _ _ | refine Ext.storek ?_ _ _ _ | refine Ext.stores0 ?_ ?_ _ _ | refine Ext.storesk ?_ ?_ _ _ _ | refine Ext.store ?_ _ _ (by first | omega | (dsimp only; omega)) | refine Ext.drewN' ?_ _ | refine Ext.drew' ?_ | refine Ext.trans ?_ (by assumption))))) hFit no_lt).calls.mono ?_
    rintro e w4 ⟨_, rfl, hb4, uq, rfl, huq⟩
    rw [H1.out]
    rw [H2.out] at huq
    obtain ⟨q1, q2, q3, q4, rfl, wq, gq⟩ := huq.opened
    have Bi_4 := Bi_3.ext (show Ext w3 w4 from (by with_reducible (repeat (first | assumption | exact Ext.refl _ | refine Ext.alloc' ?_ _ | refine Ext.store0 ?_ _ _ | refine Ext.storek ?_ _ _ _ | refine Ext.stores0 ?_ ?_ _ _ | refine Ext.storesk ?_ ?_ _ _ _ | refine Ext.store ?_ _ _ (by first | omega | (dsimp only; omega)) | refine Ext.drewN' ?_ _ | refine Ext.drew' ?_ | refine Ext.trans ?_ (by assumption)))))
    have Bm_4 := Bm_3.ext (show Ext w3 w4 from (by with_reducible (repeat (first | assumption | exact Ext.refl _ | refine Ext.alloc' ?_ _ | refine Ext.store0 ?_ _ _ | refine Ext.storek ?_ _ _ _ | refine Ext.stores0 ?_ ?_ _ _ | refine Ext.storesk ?_ ?_ _ _ _ | refine Ext.store ?_ _ _ (by first | omega | (dsimp only; omega)) | refine Ext.drewN' ?_ _ | refine Ext.drew' ?_ | refine Ext.trans ?_ (by assumption)))))
    clear Bi_3 zi ci0 ci1 ci2 ci3 ci4 ci5 ci6 di0 di1 di2 di3 di4 di5 di6 Bm_3 zm cm0 cm1 cm2 dm0 dm1 dm2
    have Bp_4 : Box w4 (w3.heap.size) #[.slice p1 mt.W.length p2, .slice p3 mt.G.length p4, .bool mt.bad] 50 := (Box.new _ _ _).ext hb4
    obtain ⟨ci0, ci1, ci2, ci3, ci4, ci5, ci6, di0, di1, di2, di3, di4, di5, di6⟩ := cells7 Bi_4
    have zi : w.heap.size < w4.heap.size := Bi_4.lt
    obtain ⟨cm0, cm1, cm2, dm0, dm1, dm2⟩ := cells3 Bm_4
    have zm : w.heap.size + 1 < w4.heap.size := Bm_4.lt
    obtain ⟨cp0, cp1, cp2, dp0, dp1, dp2⟩ := cells3 Bp_4
    have zp : w3.heap.size < w4.heap.size := Bp_4.lt
    go_wp2_with (fail)
    go_at_call 66
    refine (memCas_ no _ m x old now _ ((IsMem.mk rfl hw hg : IsMem no w (.agg #[.slice aw m.W.length cw, .slice ag m.G.length cg, .bool m.bad]) m).ext (by with_reducible (repeat (first | assumption | exact Ext.refl _ | refine Ext.alloc' ?_ _ | refine Ext.store0 ?_ _ _ | refine Ext.storek ?_ _ _ _ | refine Ext.stores0 ?_ ?_ _ _ | refine Ext.storesk ?_ ?_ _ _ _ | refine Ext.store ?_ _ _ (by first | omega | (dsimp only; omega)) | refine Ext.drewN' ?_ _ | refine Ext.drew' ?_ | refine Ext.trans ?_ (by assumption))))) hFit no_lt hx0 hx1).calls.mono ?_
    rintro e w5 ⟨_, rfl, hb5, ur, rfl, hur⟩
    rw [H4.out]
    rw [H3.out] at hur
    obtain ⟨r1, r2, r3, r4, rfl, wr, gr⟩ := hur.opened
    have Bi_5 := Bi_4.ext (show Ext w4 w5 from (by with_reducible (repeat (first | assumption | exact Ext.refl _ | refine Ext.alloc' ?_ _ | refine Ext.store0 ?_ _ _ | refine Ext.storek ?_ _ _ _ | refine Ext.stores0 ?_ ?_ _ _ | refine Ext.storesk ?_ ?_ _ _ _ | refine Ext.store ?_ _ _ (by first | omega | (dsimp only; omega)) | refine Ext.drewN' ?_ _ | refine Ext.drew' ?_ | refine Ext.trans ?_ (by assumption)))))
    have Bm_5 := Bm_4.ext (show Ext w4 w5 from (by with_reducible (repeat (first | assumption | exact Ext.refl _ | refine Ext.alloc' ?_ _ | refine Ext.store0 ?_ _ _ | refine Ext.storek ?_ _ _ _ | refine Ext.stores0 ?_ ?_ _ _ | refine Ext.storesk ?_ ?_ _ _ _ | refine Ext.store ?_ _ _ (by first | omega | (dsimp only; omega)) | refine Ext.drewN' ?_ _ | refine Ext.drew' ?_ | refine Ext.trans ?_ (by assumption)))))
    have Bp_5 := Bp_4.ext (show Ext w4 w5 from (by with_reducible (repeat (first | assumption | exact Ext.refl _ | refine Ext.alloc' ?_ _ | refine Ext.store0 ?_ _ _ | refine Ext.storek ?_ _ _ _ | refine Ext.stores0 ?_ ?_ _ _ | refine Ext.storesk ?_ ?_ _ _ _ | refine Ext.store ?_ _ _ (by first | omega | (dsimp only; omega)) | refine Ext.drewN' ?_ _ | refine Ext.drew' ?_ | refine Ext.trans ?_ (by assumption)))))
    clear Bi_4 zi ci0 ci1 ci2 ci3 ci4 ci5 ci6 di0 di1 di2 di3 di4 di5 di6 Bm_4 zm cm0 cm1 cm2 dm0 dm1 dm2 Bp_4 zp cp0 cp1 cp2 dp0 dp1 dp2
    have Bq_5 : Box w5 (w4.heap.size) #[.slice q1 mt.W.length q2, .slice q3 mt.G.length q4, .bool mt.bad] 50 := (Box.new _ _ _).ext hb5
    obtain ⟨ci0, ci1, ci2, ci3, ci4, ci5, ci6, di0, di1, di2, di3, di4, di5, di6⟩ := cells7 Bi_5
    have zi : w.heap.size < w5.heap.size := Bi_5.lt
    obtain ⟨cm0, cm1, cm2, dm0, dm1, dm2⟩ := cells3 Bm_5
    have zm : w.heap.size + 1 < w5.heap.size := Bm_5.lt
    obtain ⟨cp0, cp1, cp2, dp0, dp1, dp2⟩ := cells3 Bp_5
    have zp : w3.heap.size < w5.heap.size := Bp_5.lt
    obtain ⟨cq0, cq1, cq2, dq0, dq1, dq2⟩ := cells3 Bq_5
    have zq : w4.heap.size < w5.heap.size := Bq_5.lt
    go_wp2_with (fail)
    go_at_call 67
    refine (refCas_ no _ m x old now _ ((IsMem.mk rfl hw hg : IsMem no w (.agg #[.slice aw m.W.length cw, .slice ag m.G.length cg, .bool m.bad]) m).ext (by with_reducible (repeat (first | assumption | exact Ext.refl _ | refine Ext.alloc' ?_ _ | refine Ext.store0 ?_ _ _ | refine Ext.storek ?_ _ _ _ | refine Ext.stores0 ?_ ?_ _ _ | refine Ext.storesk ?_ ?_ _ _ _ | refine Ext.store ?_ _ _ (by first | omega | (dsimp only; omega)) | refine Ext.drewN' ?_ _ | refine Ext.drew' ?_ | refine Ext.trans ?_ (by assumption))))) hFit no_lt).calls.mono ?_
    rintro e w6 ⟨_, rfl, hb6, us, rfl, hus⟩
    rw [H4.out]
    rw [H3.out] at hus
    obtain ⟨s1, s2, s3, s4, rfl, ws, gs⟩ := hus.opened
    have Bi_6 := Bi_5.ext (show Ext w5 w6 from (by with_reducible (repeat (first | assumption | exact Ext.refl _ | refine Ext.alloc' ?_ _ | refine Ext.store0 ?_ _ _ | refine Ext.storek ?_ _ _ _ | refine Ext.stores0 ?_ ?_ _ _ | refine Ext.storesk ?_ ?_ _ _ _ | refine Ext.store ?_ _ _ (by first | omega | (dsimp only; omega)) | refine Ext.drewN' ?_ _ | refine Ext.drew' ?_ | refine Ext.trans ?_ (by assumption)))))
    have Bm_6 := Bm_5.ext (show Ext w5 w6 from (by with_reducible (repeat (first | assumption | exact Ext.refl _ | refine Ext.alloc' ?_ _ | refine Ext.store0 ?_ _ _ | refine Ext.storek ?_ _ _ _ | refine Ext.stores0 ?_ ?_ _ _ | refine Ext.storesk ?_ ?_ _ _ _ | refine Ext.store ?_ _ _ (by first | omega | (dsimp only; omega)) | refine Ext.drewN' ?_ _ | refine Ext.drew' ?_ | refine Ext.trans ?_ (by assumption)))))
    have Bp_6 := Bp_5.ext (show Ext w5 w6 from (by with_reducible (repeat (first | assumption | exact Ext.refl _ | refine Ext.alloc' ?_ _ | refine Ext.store0 ?_ _ _ | refine Ext.storek ?_ _ _ _ | refine Ext.stores0 ?_ ?_ _ _ | refine Ext.storesk ?_ ?_ _ _ _ | refine Ext.store ?_ _ _ (by first | omega | (dsimp only; omega)) | refine Ext.drewN' ?_ _ | refine Ext.drew' ?_ | refine Ext.trans ?_ (by assumption)))))
    have Bq_6 := Bq_5.ext (show Ext w5 w6 from (by with_reducible (repeat (first | assumption | exact Ext.refl _ | refine Ext.alloc' ?_ _ | refine Ext.store0 ?_ _ _ | refine Ext.storek ?_ _ _ _ | refine Ext.stores0 ?_ ?_ _ _ | refine Ext.storesk ?_ ?_ _ _ _ | refine Ext.store ?_ _ _ (by first | omega | (dsimp only; omega)) | refine Ext.drewN' ?_ _ | refine Ext.drew' ?_ | refine Ext.trans ?_ (by assumption)))))
    clear Bi_5 zi ci0 ci1 ci2 ci3 ci4 ci5 ci6 di0 di1 di2 di3 di4 di5 di6 Bm_5 zm cm0 cm1 cm2 dm0 dm1 dm2 Bp_5 zp cp0 cp1 cp2 dp0 dp1 dp2 Bq_5 zq cq0 cq1 cq2 dq0 dq1 dq2
    have Br_6 : Box w6 (w5.heap.size) #[.slice r1 mc.W.length r2, .slice r3 mc.G.length r4, .bool mc.bad] 50 := (Box.new _ _ _).ext hb6
    obtain ⟨ci0, ci1, ci2, ci3, ci4, ci5, ci6, di0, di1, di2, di3, di4, di5, di6⟩ := cells7 Bi_6
    have zi : w.heap.size < w6.heap.size := Bi_6.lt
    obtain ⟨cm0, cm1, cm2, dm0, dm1, dm2⟩ := cells3 Bm_6
    have zm : w.heap.size + 1 < w6.heap.size := Bm_6.lt
    obtain ⟨cp0, cp1, cp2, dp0, dp1, dp2⟩ := cells3 Bp_6
    have zp : w3.heap.size < w6.heap.size := Bp_6.lt
    obtain ⟨cq0, cq1, cq2, dq0, dq1, dq2⟩ := cells3 Bq_6
    have zq : w4.heap.size < w6.heap.size := Bq_6.lt
    obtain ⟨cr0, cr1, cr2, dr0, dr1, dr2⟩ := cells3 Br_6
    have zr : w5.heap.size < w6.heap.size := Br_6.lt
    go_wp2_with (fail)
    go_at_call 54
    refine (refSame_ no _ _ mt mt _ ((IsMem.mk rfl wp gp : IsMem no w3 (.agg #[.slice p1 mt.W.length p2, .slice p3 mt.G.length p4, .bool mt.bad]) mt).ext (by with_reducible (repeat (first | assumption | exact Ext.refl _ | refine Ext.alloc' ?_ _ | refine Ext.store0 ?_ _ _ | refine Ext.storek ?_ _ _ _ | refine Ext.stores0 ?_ ?_ _ _ | refine Ext.storesk ?_ ?_ _ _ _ | refine Ext.store ?_ _ _ (by first | omega | (dsimp only; omega)) | refine Ext.drewN' ?_ _ | refine Ext.drew' ?_ | refine Ext.trans ?_ (by assumption))))) ((IsMem.mk rfl wq gq : IsMem no w4 (.agg #[.slice q1 mt.W.length q2, .slice q3 mt.G.length q4, .bool mt.bad]) mt).ext (by with_reducible (repeat (first | assumption | exact Ext.refl _ | refine Ext.alloc' ?_ _ | refine Ext.store0 ?_ _ _ | refine Ext.storek ?_ _ _ _ | refine Ext.stores0 ?_ ?_ _ _ | refine Ext.storesk ?_ ?_ _ _ _ | refine Ext.store ?_ _ _ (by first | omega | (dsimp only; omega)) | refine Ext.drewN' ?_ _ | refine Ext.drew' ?_ | refine Ext.trans ?_ (by assumption)))))).calls.mono ?_
    rintro e w7 ⟨_, rfl, hb7, rfl⟩
    rw [sameD_refl]
    have Bi_7 := Bi_6.ext (show Ext w6 w7 from (by with_reducible (repeat (first | assumption | exact Ext.refl _ | refine Ext.alloc' ?_ _ | refine Ext.store0 ?_ _ _ | refine Ext.storek ?_ _ _ _ | refine Ext.stores0 ?_ ?_ _ _ | refine Ext.storesk ?_ ?_ _ _ _ | refine Ext.store ?_ _ _ (by first | omega | (dsimp only; omega)) | refine Ext.drewN' ?_ _ | refine Ext.drew' ?_ | refine Ext.trans ?_ (by assumption)))))
    have Bm_7 := Bm_6.ext (show Ext w6 w7 from (by with_reducible (repeat (first | assumption | exact Ext.refl _ | refine Ext.alloc' ?_ _ | refine Ext.store0 ?_ _ _ | refine Ext.storek ?_ _ _ _ | refine Ext.stores0 ?_ ?_ _ _ | refine Ext.storesk ?_ ?_ _ _ _ | refine Ext.store ?_ _ _ (by first | omega | (dsimp only; omega)) | refine Ext.drewN' ?_ _ | refine Ext.drew' ?_ | refine Ext.trans ?_ (by assumption)))))
    have Bp_7 := Bp_6.ext (show Ext w6 w7 from (by with_reducible (repeat (first | assumption | exact Ext.refl _ | refine Ext.alloc' ?_ _ | refine Ext.store0 ?_ _ _ | refine Ext.storek ?_ _ _ _ | refine Ext.stores0 ?_ ?_ _ _ | refine Ext.storesk ?_ ?_ _ _ _ | refine Ext.store ?_ _ _ (by first | omega | (dsimp only; omega)) | refine Ext.drewN' ?_ _ | refine Ext.drew' ?_ | refine Ext.trans ?_ (by assumption)))))
    have Bq_7 := Bq_6.ext (show Ext w6 w7 from (by with_reducible (repeat (first | assumption | exact Ext.refl _ | refine Ext.alloc' ?_ _ | refine Ext.store0 ?_ _ _ | refine Ext.storek ?_ _ _ _ | refine Ext.stores0 ?_ ?_ _ _ | refine Ext.storesk ?_ ?_ _ _ _ | refine Ext.store ?_ _ _ (by first | omega | (dsimp only; omega)) | refine Ext.drewN' ?_ _ | refine Ext.drew' ?_ | refine Ext.trans ?_ (by assumption)))))
    have Br_7 := Br_6.ext (show Ext w6 w7 from (by with_reducible (repeat (first | assumption | exact Ext.refl _ | refine Ext.alloc' ?_ _ | refine Ext.store0 ?_ _ _ | refine Ext.storek ?_ _ _ _ | refine Ext.stores0 ?_ ?_ _ _ | refine Ext.storesk ?_ ?_ _ _ _ | refine Ext.store ?_ _ _ (by first | omega | (dsimp only; omega)) | refine Ext.drewN' ?_ _ | refine Ext.drew' ?_ | refine Ext.trans ?_ (by assumption)))))
    clear Bi_6 zi ci0 ci1 ci2 ci3 ci4 ci5 ci6 di0 di1 di2 di3 di4 di5 di6 Bm_6 zm cm0 cm1 cm2 dm0 dm1 dm2 Bp_6 zp cp0 cp1 cp2 dp0 dp1 dp2 Bq_6 zq cq0 cq1 cq2 dq0 dq1 dq2 Br_6 zr cr0 cr1 cr2 dr0 dr1 dr2
    have Bs_7 : Box w7 (w6.heap.size) #[.slice s1 mc.W.length s2, .slice s3 mc.G.length s4, .bool mc.bad] 50 := (Box.new _ _ _).ext hb7
    obtain ⟨ci0, ci1, ci2, ci3, ci4, ci5, ci6, di0, di1, di2, di3, di4, di5, di6⟩ := cells7 Bi_7
    have zi : w.heap.size < w7.heap.size := Bi_7.lt
    obtain ⟨cm0, cm1, cm2, dm0, dm1, dm2⟩ := cells3 Bm_7
    have zm : w.heap.size + 1 < w7.heap.size := Bm_7.lt
    obtain ⟨cp0, cp1, cp2, dp0, dp1, dp2⟩ := cells3 Bp_7
    have zp : w3.heap.size < w7.heap.size := Bp_7.lt
    obtain ⟨cq0, cq1, cq2, dq0, dq1, dq2⟩ := cells3 Bq_7
    have zq : w4.heap.size < w7.heap.size := Bq_7.lt
    obtain ⟨cr0, cr1, cr2, dr0, dr1, dr2⟩ := cells3 Br_7
    have zr : w5.heap.size < w7.heap.size := Br_7.lt
    obtain ⟨cs0, cs1, cs2, ds0, ds1, ds2⟩ := cells3 Bs_7
    have zs : w6.heap.size < w7.heap.size := Bs_7.lt
    go_wp2_with (fail)
    go_at_call 54
    refine (refSame_ no _ _ mc mc _ ((IsMem.mk rfl wr gr : IsMem no w5 (.agg #[.slice r1 mc.W.length r2, .slice r3 mc.G.length r4, .bool mc.bad]) mc).ext (by with_reducible (repeat (first | assumption | exact Ext.refl _ | refine Ext.alloc' ?_ _ | refine Ext.store0 ?_ _ _ | refine Ext.storek ?_ _ _ _ | refine Ext.stores0 ?_ ?_ _ _ | refine Ext.storesk ?_ ?_ _ _ _ | refine Ext.store ?_ _ _ (by first | omega | (dsimp only; omega)) | refine Ext.drewN' ?_ _ | refine Ext.drew' ?_ | refine Ext.trans ?_ (by assumption))))) ((IsMem.mk rfl ws gs : IsMem no w6 (.agg #[.slice s1 mc.W.length s2, .slice s3 mc.G.length s4, .bool mc.bad]) mc).ext (by with_reducible (repeat (first | assumption | exact Ext.refl _ | refine Ext.alloc' ?_ _ | refine Ext.store0 ?_ _ _ | refine Ext.storek ?_ _ _ _ | refine Ext.stores0 ?_ ?_ _ _ | refine Ext.storesk ?_ ?_ _ _ _ | refine Ext.store ?_ _ _ (by first | omega | (dsimp only; omega)) | refine Ext.drewN' ?_ _ | refine Ext.drew' ?_ | refine Ext.trans ?_ (by assumption)))))).calls.mono ?_
    rintro e w8 ⟨_, rfl, hb8, rfl⟩
    rw [sameD_refl]
    have Bi_8 := Bi_7.ext (show Ext w7 w8 from (by with_reducible (repeat (first | assumption | exact Ext.refl _ | refine Ext.alloc' ?_ _ | refine Ext.store0 ?_ _ _ | refine Ext.storek ?_ _ _ _ | refine Ext.stores0 ?_ ?_ _ _ | refine Ext.storesk ?_ ?_ _ _ _ | refine Ext.store ?_ _ _ (by first | omega | (dsimp only; omega)) | refine Ext.drewN' ?_ _ | refine Ext.drew' ?_ | refine Ext.trans ?_ (by assumption)))))
    have Bm_8 := Bm_7.ext (show Ext w7 w8 from (by with_reducible (repeat (first | assumption | exact Ext.refl _ | refine Ext.alloc' ?_ _ | refine Ext.store0 ?_ _ _ | refine Ext.storek ?_ _ _ _ | refine Ext.stores0 ?_ ?_ _ _ | refine Ext.storesk ?_ ?_ _ _ _ | refine Ext.store ?_ _ _ (by first | omega | (dsimp only; omega)) | refine Ext.drewN' ?_ _ | refine Ext.drew' ?_ | refine Ext.trans ?_ (by assumption)))))
    have Bp_8 := Bp_7.ext (show Ext w7 w8 from (by with_reducible (repeat (first | assumption | exact Ext.refl _ | refine Ext.alloc' ?_ _ | refine Ext.store0 ?_ _ _ | refine Ext.storek ?_ _ _ _ | refine Ext.stores0 ?_ ?_ _ _ | refine Ext.storesk ?_ ?_ _ _ _ | refine Ext.store ?_ _ _ (by first | omega | (dsimp only; omega)) | refine Ext.drewN' ?_ _ | refine Ext.drew' ?_ | refine Ext.trans ?_ (by assumption)))))
    have Bq_8 := Bq_7.ext (show Ext w7 w8 from (by with_reducible (repeat (first | assumption | exact Ext.refl _ | refine Ext.alloc' ?_ _ | refine Ext.store0 ?_ _ _ | refine Ext.storek ?_ _ _ _ | refine Ext.stores0 ?_ ?_ _ _ | refine Ext.storesk ?_ ?_ _ _ _ | refine Ext.store ?_ _ _ (by first | omega | (dsimp only; omega)) | refine Ext.drewN' ?_ _ | refine Ext.drew' ?_ | refine Ext.trans ?_ (by assumption)))))
    have Br_8 := Br_7.ext (show Ext w7 w8 from (by with_reducible (repeat (first | assumption | exact Ext.refl _ | refine Ext.alloc' ?_ _ | refine Ext.store0 ?_ _ _ | refine Ext.storek ?_ _ _ _ | refine Ext.stores0 ?_ ?_ _ _ | refine Ext.storesk ?_ ?_ _ _ _ | refine Ext.store ?_ _ _ (by first | omega | (dsimp only; omega)) | refine Ext.drewN' ?_ _ | refine Ext.drew' ?_ | refine Ext.trans ?_ (by assumption)))))
    have Bs_8 := Bs_7.ext (show Ext w7 w8 from (by with_reducible (repeat (first | assumption | exact Ext.refl _ | refine Ext.alloc' ?_ _ | refine Ext.store0 ?_ _ _ | refine Ext.storek ?_ _ _ _ | refine Ext.stores0 ?_ ?_ _ _ | refine Ext.storesk ?_ ?_ _ _ _ | refine Ext.store ?_ _ _ (by first | omega | (dsimp only; omega)) | refine Ext.drewN' ?_ _ | refine Ext.drew' ?_ | refine Ext.trans ?_ (by assumption)))))
    clear Bi_7 zi ci0 ci1 ci2 ci3 ci4 ci5 ci6 di0 di1 di2 di3 di4 di5 di6 Bm_7 zm cm0 cm1 cm2 dm0 dm1 dm2 Bp_7 zp cp0 cp1 cp2 dp0 dp1 dp2 Bq_7 zq cq0 cq1 cq2 dq0 dq1 dq2 Br_7 zr cr0 cr1 cr2 dr0 dr1 dr2 Bs_7 zs cs0 cs1 cs2 ds0 ds1 ds2
    obtain ⟨ci0, ci1, ci2, ci3, ci4, ci5, ci6, di0, di1, di2, di3, di4, di5, di6⟩ := cells7 Bi_8
    have zi : w.heap.size < w8.heap.size := Bi_8.lt
    obtain ⟨cm0, cm1, cm2, dm0, dm1, dm2⟩ := cells3 Bm_8
    have zm : w.heap.size + 1 < w8.heap.size := Bm_8.lt
    obtain ⟨cp0, cp1, cp2, dp0, dp1, dp2⟩ := cells3 Bp_8
    have zp : w3.heap.size < w8.heap.size := Bp_8.lt
    obtain ⟨cq0, cq1, cq2, dq0, dq1, dq2⟩ := cells3 Bq_8
    have zq : w4.heap.size < w8.heap.size := Bq_8.lt
    obtain ⟨cr0, cr1, cr2, dr0, dr1, dr2⟩ := cells3 Br_8
    have zr : w5.heap.size < w8.heap.size := Br_8.lt
    obtain ⟨cs0, cs1, cs2, ds0, ds1, ds2⟩ := cells3 Bs_8
    have zs : w6.heap.size < w8.heap.size := Bs_8.lt
    have hcc : (ci != ci) = false := by simp
    go_wp2_with (fail)
    have hEk : Ext w w8 := (by with_reducible (repeat (first | assumption | exact Ext.refl _ | refine Ext.alloc' ?_ _ | refine Ext.store0 ?_ _ _ | refine Ext.storek ?_ _ _ _ | refine Ext.stores0 ?_ ?_ _ _ | refine Ext.storesk ?_ ?_ _ _ _ | refine Ext.store ?_ _ _ (by first | omega | (dsimp only; omega)) | refine Ext.drewN' ?_ _ | refine Ext.drew' ?_ | refine Ext.trans ?_ (by assumption))))
    apply region_lit2 (T := []) (L := []) (X := []) (G := [eqv _, eqv _, eqv _, eqv _, eqv _, isM (storeD m x now), eqv _, eqv _, eqv _, isM (storeD m x now), eqv _, eqv _, eqv _, eqv _, eqv _, eqv _, isM (turnMD m node now), eqv _, eqv _, eqv _, isM (turnMD m node now), eqv _, eqv _, eqv _])
    case hm => kernel_rfl
    case hop =>
      refine ⟨?_, ?_, ?_, ?_, ?_, ?_, ?_, ?_, ?_, ?_, ?_, ?_, ?_, ?_, ?_, ?_, ?_, ?_, ?_, ?_, ?_, ?_, ?_, ?_, trivial⟩
      · intro a wa hs hf hd
        have t8 := hf.off 8 (by kernel_rfl) rfl
        exact plain_ rfl (yes_eqv (o_move rfl t8) rfl)
      · intro a wa hs hf hd
        have t80 : a.eval (.tmp 80) = _ := hd.at 0 80 (by kernel_rfl)
        exact plain_ rfl (yes_eqv (o_move rfl t80) rfl)
      · intro a wa hs hf hd
        have t81 : a.eval (.tmp 81) = _ := hd.at 1 81 (by kernel_rfl)
        have t3 := hf.off 3 (by kernel_rfl) rfl
        exact guard_on rfl rfl t81 (yes_eqv (o_load3 rfl Proofs.Try.underlying50 rfl (by kernel_rfl) t3 ((Bm_8.since hs rfl).cell rfl) ((Bm_8.since hs rfl).cell rfl) ((Bm_8.since hs rfl).cell rfl)) rfl)
      · intro a wa hs hf hd
        have t81 : a.eval (.tmp 81) = _ := hd.at 1 81 (by kernel_rfl)
        have t4 := hf.off 4 (by kernel_rfl) rfl
        exact guard_on rfl rfl t81 (yes_eqv (o_move rfl t4) rfl)
      · intro a wa hs hf hd
        have t81 : a.eval (.tmp 81) = _ := hd.at 1 81 (by kernel_rfl)
        have t6 := hf.off 6 (by kernel_rfl) rfl
        exact guard_on rfl rfl t81 (yes_eqv (o_move rfl t6) rfl)
      · intro a wa hs hf hd
        have t81 : a.eval (.tmp 81) = _ := hd.at 1 81 (by kernel_rfl)
        have t82 : a.eval (.tmp 82) = _ := hd.at 2 82 (by kernel_rfl)
        have t83 : a.eval (.tmp 83) = _ := hd.at 3 83 (by kernel_rfl)
        have t84 : a.eval (.tmp 84) = _ := hd.at 4 84 (by kernel_rfl)
        exact guard_on rfl rfl t81 (yes_gives (memStore_ no _ m x now _ ((IsMem.mk rfl hw hg : IsMem no w (.agg #[.slice aw m.W.length cw, .slice ag m.G.length cg, .bool m.bad]) m).ext (hEk.trans (Since.to_ext hs))) hFit no_lt hx0 hx1) rfl rfl Proofs.Try.func68 (by kernel_rfl) (by kernel_rfl) (by simp only [List.map_toArray, List.map_cons, List.map_nil, t82, t83, t84]) rfl)
      · intro a wa hs hf hd
        have t81 : a.eval (.tmp 81) = _ := hd.at 1 81 (by kernel_rfl)
        have t3 := hf.off 3 (by kernel_rfl) rfl
        exact guard_on rfl rfl t81 (yes_eqv (o_load3 rfl Proofs.Try.underlying50 rfl (by kernel_rfl) t3 ((Bm_8.since hs rfl).cell rfl) ((Bm_8.since hs rfl).cell rfl) ((Bm_8.since hs rfl).cell rfl)) rfl)
      · intro a wa hs hf hd
        have t81 : a.eval (.tmp 81) = _ := hd.at 1 81 (by kernel_rfl)
        have t4 := hf.off 4 (by kernel_rfl) rfl
        exact guard_on rfl rfl t81 (yes_eqv (o_move rfl t4) rfl)
      · intro a wa hs hf hd
        have t81 : a.eval (.tmp 81) = _ := hd.at 1 81 (by kernel_rfl)
        have t6 := hf.off 6 (by kernel_rfl) rfl
        exact guard_on rfl rfl t81 (yes_eqv (o_move rfl t6) rfl)
      · intro a wa hs hf hd
        have t81 : a.eval (.tmp 81) = _ := hd.at 1 81 (by kernel_rfl)
        have t86 : a.eval (.tmp 86) = _ := hd.at 6 86 (by kernel_rfl)
        have t87 : a.eval (.tmp 87) = _ := hd.at 7 87 (by kernel_rfl)
        have t88 : a.eval (.tmp 88) = _ := hd.at 8 88 (by kernel_rfl)
        exact guard_on rfl rfl t81 (yes_gives (refStore_ no _ m x now _ ((IsMem.mk rfl hw hg : IsMem no w (.agg #[.slice aw m.W.length cw, .slice ag m.G.length cg, .bool m.bad]) m).ext (hEk.trans (Since.to_ext hs))) hFit no_lt) rfl rfl Proofs.Try.func69 (by kernel_rfl) (by kernel_rfl) (by simp only [List.map_toArray, List.map_cons, List.map_nil, t86, t87, t88]) rfl)
      · intro a wa hs hf hd
        have t81 : a.eval (.tmp 81) = _ := hd.at 1 81 (by kernel_rfl)
        have t85 := hd.at 5 85 (by kernel_rfl)
        have t89 := hd.at 9 89 (by kernel_rfl)
        exact guard_on rfl rfl t81 (yes_gives (refSameT_ _ _ _ _ t85 t89) rfl rfl Proofs.Try.func54 (by kernel_rfl) (by kernel_rfl) (by simp only [List.map_toArray, List.map_cons, List.map_nil]) rfl)
      · intro a wa hs hf hd
        have t81 : a.eval (.tmp 81) = _ := hd.at 1 81 (by kernel_rfl)
        have t90 : a.eval (.tmp 90) = _ := hd.at 10 90 (by kernel_rfl)
        exact plain_ rfl (yes_eqv (o_pick_t rfl t81 t90) rfl)
      · intro a wa hs hf hd
        have t91 : a.eval (.tmp 91) = _ := hd.at 11 91 (by kernel_rfl)
        exact plain_ rfl (yes_eqv (o_move rfl t91) rfl)
      · intro a wa hs hf hd
        have t92 : a.eval (.tmp 92) = _ := hd.at 12 92 (by kernel_rfl)
        have t3 := hf.off 3 (by kernel_rfl) rfl
        exact guard_on rfl rfl t92 (yes_eqv (o_load3 rfl Proofs.Try.underlying50 rfl (by kernel_rfl) t3 ((Bm_8.since hs rfl).cell rfl) ((Bm_8.since hs rfl).cell rfl) ((Bm_8.since hs rfl).cell rfl)) rfl)
      · intro a wa hs hf hd
        have t92 : a.eval (.tmp 92) = _ := hd.at 12 92 (by kernel_rfl)
        have t7 := hf.off 7 (by kernel_rfl) rfl
        exact guard_on rfl rfl t92 (yes_eqv (o_move rfl t7) rfl)
      · intro a wa hs hf hd
        have t92 : a.eval (.tmp 92) = _ := hd.at 12 92 (by kernel_rfl)
        have t6 := hf.off 6 (by kernel_rfl) rfl
        exact guard_on rfl rfl t92 (yes_eqv (o_move rfl t6) rfl)
      · intro a wa hs hf hd
        have t92 : a.eval (.tmp 92) = _ := hd.at 12 92 (by kernel_rfl)
        have t93 : a.eval (.tmp 93) = _ := hd.at 13 93 (by kernel_rfl)
        have t94 : a.eval (.tmp 94) = _ := hd.at 14 94 (by kernel_rfl)
        have t95 : a.eval (.tmp 95) = _ := hd.at 15 95 (by kernel_rfl)
        exact guard_on rfl rfl t92 (yes_gives (memTurn_ no _ m node now _ ((IsMem.mk rfl hw hg : IsMem no w (.agg #[.slice aw m.W.length cw, .slice ag m.G.length cg, .bool m.bad]) m).ext (hEk.trans (Since.to_ext hs))) hFit no_lt) rfl rfl Proofs.Try.func70 (by kernel_rfl) (by kernel_rfl) (by simp only [List.map_toArray, List.map_cons, List.map_nil, t93, t94, t95]) rfl)
      · intro a wa hs hf hd
        have t92 : a.eval (.tmp 92) = _ := hd.at 12 92 (by kernel_rfl)
        have t3 := hf.off 3 (by kernel_rfl) rfl
        exact guard_on rfl rfl t92 (yes_eqv (o_load3 rfl Proofs.Try.underlying50 rfl (by kernel_rfl) t3 ((Bm_8.since hs rfl).cell rfl) ((Bm_8.since hs rfl).cell rfl) ((Bm_8.since hs rfl).cell rfl)) rfl)
      · intro a wa hs hf hd
        have t92 : a.eval (.tmp 92) = _ := hd.at 12 92 (by kernel_rfl)
        have t7 := hf.off 7 (by kernel_rfl) rfl
        exact guard_on rfl rfl t92 (yes_eqv (o_move rfl t7) rfl)
      · intro a wa hs hf hd
        have t92 : a.eval (.tmp 92) = _ := hd.at 12 92 (by kernel_rfl)
        have t6 := hf.off 6 (by kernel_rfl) rfl
        exact guard_on rfl rfl t92 (yes_eqv (o_move rfl t6) rfl)
      · intro a wa hs hf hd
        have t92 : a.eval (.tmp 92) = _ := hd.at 12 92 (by kernel_rfl)
        have t97 : a.eval (.tmp 97) = _ := hd.at 17 97 (by kernel_rfl)
        have t98 : a.eval (.tmp 98) = _ := hd.at 18 98 (by kernel_rfl)
        have t99 : a.eval (.tmp 99) = _ := hd.at 19 99 (by kernel_rfl)
        exact guard_on rfl rfl t92 (yes_gives (refTurn_ no _ m node now _ ((IsMem.mk rfl hw hg : IsMem no w (.agg #[.slice aw m.W.length cw, .slice ag m.G.length cg, .bool m.bad]) m).ext (hEk.trans (Since.to_ext hs))) hFit no_lt) rfl rfl Proofs.Try.func71 (by kernel_rfl) (by kernel_rfl) (by simp only [List.map_toArray, List.map_cons, List.map_nil, t97, t98, t99]) rfl)
      · intro a wa hs hf hd
        have t92 : a.eval (.tmp 92) = _ := hd.at 12 92 (by kernel_rfl)
        have t96 := hd.at 16 96 (by kernel_rfl)
        have t100 := hd.at 20 100 (by kernel_rfl)
        exact guard_on rfl rfl t92 (yes_gives (refSameT_ _ _ _ _ t96 t100) rfl rfl Proofs.Try.func54 (by kernel_rfl) (by kernel_rfl) (by simp only [List.map_toArray, List.map_cons, List.map_nil]) rfl)
      · intro a wa hs hf hd
        have t92 : a.eval (.tmp 92) = _ := hd.at 12 92 (by kernel_rfl)
        have t101 : a.eval (.tmp 101) = _ := hd.at 21 101 (by kernel_rfl)
        exact plain_ rfl (yes_eqv (o_pick_t rfl t92 t101) rfl)
      · intro a wa hs hf hd
        have t102 : a.eval (.tmp 102) = _ := hd.at 22 102 (by kernel_rfl)
        exact plain_ rfl (yes_eqv (o_assign rfl t102) rfl)
    case hG => exact ⟨stable_eqv _, stable_eqv _, stable_eqv _, stable_eqv _, stable_eqv _, stable_isM _, stable_eqv _, stable_eqv _, stable_eqv _, stable_isM _, stable_eqv _, stable_eqv _, stable_eqv _, stable_eqv _, stable_eqv _, stable_eqv _, stable_isM _, stable_eqv _, stable_eqv _, stable_eqv _, stable_isM _, stable_eqv _, stable_eqv _, stable_eqv _, trivial⟩
    case hc => kernel_rfl
    case hfin =>
      intro v2 hs2
      rintro _ rfl _ rfl _ rfl _ rfl _ rfl u85 h85 _ rfl _ rfl _ rfl u89 h89 _ rfl _ rfl _ rfl _ rfl _ rfl _ rfl u96 h96 _ rfl _ rfl _ rfl u100 h100 _ rfl _ rfl _ rfl
      rintro _ rfl
      simp only [Act.put, List.setIfInBounds_toArray, List.set_cons_zero, List.set_cons_succ]
      have hE2 := Since.to_ext hs2
      go_wp2
      go_ret
      exact ⟨_, rfl, hEk.trans hE2, rfl⟩
end Go.Proofs.Ytcfbdfgondmkoaa
