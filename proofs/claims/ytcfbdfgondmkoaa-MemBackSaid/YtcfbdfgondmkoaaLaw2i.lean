/- MemBack: its walk. -/
import Derived.Test.YtcfbdfgondmkoaaLaw2k
namespace Go.Proofs.Ytcfbdfgondmkoaa
open Go Go.RowKit
set_option linter.unusedSimpArgs false
set_option linter.unusedVariables false
set_option linter.unnecessarySimpa false

set_option maxHeartbeats 4000000 in
set_option maxRecDepth 100000 in
theorem memBack_true_neg (aw ag : Option Addr) (cw cg : Nat) (m : Arena) (x v old : Int) (w : World) (hw : IsInts no w (.slice aw m.W.length cw) m.W) (hg : IsInts no w (.slice ag m.G.length cg) m.G) (hb : true = m.bad) (hm : mayD m 60 = true) (hq : x < 0) (hx0 : -9223372036854775808 ≤ x) (hx1 : x ≤ 9223372036854775807) :
    Gives Proofs.Try.prog 13 #[.agg #[.slice aw m.W.length cw, .slice ag m.G.length cg, .bool true, .int .i64 x, .int .i64 v, .int .i64 old]] w (eqv (.bool true)) := by
  have km := fun (w' : World) (e : Ext w w') => memMay_ no _ m 60 (by omega) w' ((IsMem.mk hb hw hg : IsMem no w (.agg #[.slice aw m.W.length cw, .slice ag m.G.length cg, .bool true]) m).ext e)
  rw [hm] at km
  have hFit := Fits.of_may hm
  have hl1 := hFit.2.1
  have hl3 := hFit.2.2
  have hlw : 128 ≤ m.W.length := by rw [hFit.1]; omega
  have hlw2 : m.W.length ≤ 1000 := by rw [hFit.1]; omega
  have hO : outside m x = true := by simp [outside]; omega
  obtain ⟨_, _, e0, rw_, lw, cwc⟩ := hw.opened
  cases e0
  obtain ⟨ba, oa, rfl, xa, na, ea⟩ := cwc 0 (by omega)
  obtain ⟨ms, hms⟩ : ∃ ms, storeD m x v = ms := ⟨_, rfl⟩
  obtain ⟨mc, hmc⟩ : ∃ mc, casD m x old v = mc := ⟨_, rfl⟩
  obtain ⟨ml, hml⟩ : ∃ ml, touchD ms x = ml := ⟨_, rfl⟩
  obtain ⟨mt, hmt⟩ : ∃ mt, touchD m x = mt := ⟨_, rfl⟩
  have sG : ms.G = m.G := by rw [← hms]; rfl
  have sL : ms.W.length = m.W.length := by rw [← hms]; exact (storeD_len _ _ _).1
  have sFit : Fits ms := by rw [← hms]; exact hFit.same (storeD_len _ _ _)
  have cL : mc.W.length = m.W.length := by rw [← hmc]; exact (casD_len _ _ _ _).1
  have cG : mc.G.length = m.G.length := by rw [← hmc]; exact (casD_len _ _ _ _).2
  have sB : ms.bad = true := by rw [← hms, storeD_bad]; exact bad_out hO
  have sW : ms.W = m.W := by rw [← hms]; exact store_out hO
  have l1 : loadD ms x = 0 := load_out (by rw [← hms, outside_store]; exact hO)
  have c1 : casIs m x old = false := cas_out hO
  have cW : mc.W = m.W := by rw [← hmc, casD_no c1]; rfl
  have cG2 : mc.G = m.G := by rw [← hmc, casD_no c1]; rfl
  have cB : mc.bad = true := by rw [← hmc, casD_bad]; exact bad_out hO
  obtain ⟨z, hz⟩ : ∃ z, loadD m x = z := ⟨_, rfl⟩
  have hz1 := Lib.hid hz
  clear hz
  have Hhms := Lib.hid hms; have Hhmc := Lib.hid hmc; have Hhml := Lib.hid hml; have Hhmt := Lib.hid hmt; have HsG := Lib.hid sG; have HsL := Lib.hid sL; have HcL := Lib.hid cL; have HcG := Lib.hid cG; have HsB := Lib.hid sB; have HsW := Lib.hid sW; have Hl1 := Lib.hid l1; have Hc1 := Lib.hid c1; have HcB := Lib.hid cB; have HcW := Lib.hid cW; have HcG2 := Lib.hid cG2
  have HB := Lib.hid hb
  clear hb hms hmc hml hmt sG sL cL cG sB sW l1 c1 cB cW cG2
  have q0 : ¬ 0 ≤ x := by omega
  go_enter Proofs.Try.func13, Proofs.Try.ntmps13
  go_wp2_with (fail)
  go_at_call 49
  refine (shown2_ _).calls.mono ?_
  rintro e w1 ⟨_, rfl, hb1, rfl⟩
  have Bi_1 : Box w1 (w.heap.size) #[.slice (some ⟨ba, oa, none⟩) m.W.length cw, .slice ag m.G.length cg, .bool true, .int .i64 x, .int .i64 v, .int .i64 old] 71 := ((Box.new _ _ _).alloc _).ext hb1
  have Bm_1 : Box w1 (w.heap.size + 1) #[.slice (some ⟨ba, oa, none⟩) m.W.length cw, .slice ag m.G.length cg, .bool true] 50 := (Box.two _ _ _ _ _).ext hb1
  obtain ⟨ci0, ci1, ci2, ci3, ci4, ci5, di0, di1, di2, di3, di4, di5⟩ := cells6 Bi_1
  have zi : w.heap.size < w1.heap.size := Bi_1.lt
  obtain ⟨cm0, cm1, cm2, dm0, dm1, dm2⟩ := cells3 Bm_1
  have zm : w.heap.size + 1 < w1.heap.size := Bm_1.lt
  go_wp2_with (fail)
  go_at_call 63
  refine (km _ (by with_reducible (repeat (first | assumption | exact Ext.refl _ | refine Ext.alloc' ?_ _ | refine Ext.store0 ?_ _ _ | refine Ext.storek ?_ _ _ _ | refine Ext.stores0 ?_ ?_ _ _ | refine Ext.storesk ?_ ?_ _ _ _ | refine Ext.drewN' ?_ _ | refine Ext.drew' ?_ | refine Ext.trans ?_ (by assumption))))).calls.mono ?_
  rintro e w2 ⟨_, rfl, hb2, rfl⟩
  have Bi_2 := Bi_1.ext (show Ext w1 w2 from (by with_reducible (repeat (first | assumption | exact Ext.refl _ | refine Ext.alloc' ?_ _ | refine Ext.store0 ?_ _ _ | refine Ext.storek ?_ _ _ _ | refine Ext.stores0 ?_ ?_ _ _ | refine Ext.storesk ?_ ?_ _ _ _ | refine Ext.drewN' ?_ _ | refine Ext.drew' ?_ | refine Ext.trans ?_ (by assumption)))))
  have Bm_2 := Bm_1.ext (show Ext w1 w2 from (by with_reducible (repeat (first | assumption | exact Ext.refl _ | refine Ext.alloc' ?_ _ | refine Ext.store0 ?_ _ _ | refine Ext.storek ?_ _ _ _ | refine Ext.stores0 ?_ ?_ _ _ | refine Ext.storesk ?_ ?_ _ _ _ | refine Ext.drewN' ?_ _ | refine Ext.drew' ?_ | refine Ext.trans ?_ (by assumption)))))
  clear Bi_1 ci0 ci1 ci2 ci3 ci4 ci5 di0 di1 di2 di3 di4 di5 Bm_1 cm0 cm1 cm2 dm0 dm1 dm2
  obtain ⟨ci0, ci1, ci2, ci3, ci4, ci5, di0, di1, di2, di3, di4, di5⟩ := cells6 Bi_2
  have zi : w.heap.size < w2.heap.size := Bi_2.lt
  obtain ⟨cm0, cm1, cm2, dm0, dm1, dm2⟩ := cells3 Bm_2
  have zm : w.heap.size + 1 < w2.heap.size := Bm_2.lt
  go_wp2_with (fail)
  go_at_call 68
  refine (memStore_ no _ m x v _ ((IsMem.mk HB.out hw hg : IsMem no w (.agg #[.slice (some ⟨ba, oa, none⟩) m.W.length cw, .slice ag m.G.length cg, .bool true]) m).ext (by with_reducible (repeat (first | assumption | exact Ext.refl _ | refine Ext.alloc' ?_ _ | refine Ext.store0 ?_ _ _ | refine Ext.storek ?_ _ _ _ | refine Ext.stores0 ?_ ?_ _ _ | refine Ext.storesk ?_ ?_ _ _ _ | refine Ext.drewN' ?_ _ | refine Ext.drew' ?_ | refine Ext.trans ?_ (by assumption))))) hFit no_lt (by omega) (by omega)).calls.mono ?_
  rintro e w3 ⟨_, rfl, hb3, hus⟩
  rw [Hhms.out] at hus
  obtain ⟨s1, s2, s3, s4, rfl, ws, gs⟩ := hus.lit HsL.out (show ms.G.length = m.G.length by rw [HsG.out]) (show ms.bad = true from HsB.out)
  obtain ⟨_, _, e1, r1, ls, csc⟩ := ws.opened
  simp [HsL.out] at e1
  obtain ⟨rfl, rfl⟩ := e1
  obtain ⟨bs, os, rfl, xs, ns, es⟩ := csc 0 (by rw [HsL.out]; omega)
  have Bi_3 := Bi_2.ext (show Ext w2 w3 from (by with_reducible (repeat (first | assumption | exact Ext.refl _ | refine Ext.alloc' ?_ _ | refine Ext.store0 ?_ _ _ | refine Ext.storek ?_ _ _ _ | refine Ext.stores0 ?_ ?_ _ _ | refine Ext.storesk ?_ ?_ _ _ _ | refine Ext.drewN' ?_ _ | refine Ext.drew' ?_ | refine Ext.trans ?_ (by assumption)))))
  have Bm_3 := Bm_2.ext (show Ext w2 w3 from (by with_reducible (repeat (first | assumption | exact Ext.refl _ | refine Ext.alloc' ?_ _ | refine Ext.store0 ?_ _ _ | refine Ext.storek ?_ _ _ _ | refine Ext.stores0 ?_ ?_ _ _ | refine Ext.storesk ?_ ?_ _ _ _ | refine Ext.drewN' ?_ _ | refine Ext.drew' ?_ | refine Ext.trans ?_ (by assumption)))))
  clear Bi_2 ci0 ci1 ci2 ci3 ci4 ci5 di0 di1 di2 di3 di4 di5 Bm_2 cm0 cm1 cm2 dm0 dm1 dm2
  obtain ⟨ci0, ci1, ci2, ci3, ci4, ci5, di0, di1, di2, di3, di4, di5⟩ := cells6 Bi_3
  have zi : w.heap.size < w3.heap.size := Bi_3.lt
  obtain ⟨cm0, cm1, cm2, dm0, dm1, dm2⟩ := cells3 Bm_3
  have zm : w.heap.size + 1 < w3.heap.size := Bm_3.lt
  go_wp2_with (fail)
  go_at_call 72
  refine (refInts_ no _ _ ms.G m.G _ (gs.ext (by with_reducible (repeat (first | assumption | exact Ext.refl _ | refine Ext.alloc' ?_ _ | refine Ext.store0 ?_ _ _ | refine Ext.storek ?_ _ _ _ | refine Ext.stores0 ?_ ?_ _ _ | refine Ext.storesk ?_ ?_ _ _ _ | refine Ext.drewN' ?_ _ | refine Ext.drew' ?_ | refine Ext.trans ?_ (by assumption))))) (hg.ext (by with_reducible (repeat (first | assumption | exact Ext.refl _ | refine Ext.alloc' ?_ _ | refine Ext.store0 ?_ _ _ | refine Ext.storek ?_ _ _ _ | refine Ext.stores0 ?_ ?_ _ _ | refine Ext.storesk ?_ ?_ _ _ _ | refine Ext.drewN' ?_ _ | refine Ext.drew' ?_ | refine Ext.trans ?_ (by assumption)))))).calls.mono ?_
  rintro e w4 ⟨_, rfl, hb4, rfl⟩
  rw [show (ms.G == m.G) = true by rw [HsG.out]; simp]
  have Bi_4 := Bi_3.ext (show Ext w3 w4 from (by with_reducible (repeat (first | assumption | exact Ext.refl _ | refine Ext.alloc' ?_ _ | refine Ext.store0 ?_ _ _ | refine Ext.storek ?_ _ _ _ | refine Ext.stores0 ?_ ?_ _ _ | refine Ext.storesk ?_ ?_ _ _ _ | refine Ext.drewN' ?_ _ | refine Ext.drew' ?_ | refine Ext.trans ?_ (by assumption)))))
  have Bm_4 := Bm_3.ext (show Ext w3 w4 from (by with_reducible (repeat (first | assumption | exact Ext.refl _ | refine Ext.alloc' ?_ _ | refine Ext.store0 ?_ _ _ | refine Ext.storek ?_ _ _ _ | refine Ext.stores0 ?_ ?_ _ _ | refine Ext.storesk ?_ ?_ _ _ _ | refine Ext.drewN' ?_ _ | refine Ext.drew' ?_ | refine Ext.trans ?_ (by assumption)))))
  clear Bi_3 ci0 ci1 ci2 ci3 ci4 ci5 di0 di1 di2 di3 di4 di5 Bm_3 cm0 cm1 cm2 dm0 dm1 dm2
  have Bs_4 : Box w4 (w3.heap.size) #[.slice (some ⟨bs, os, none⟩) m.W.length s2, .slice s3 m.G.length s4, .bool true] 50 := (Box.new _ _ _).ext hb4
  obtain ⟨ci0, ci1, ci2, ci3, ci4, ci5, di0, di1, di2, di3, di4, di5⟩ := cells6 Bi_4
  have zi : w.heap.size < w4.heap.size := Bi_4.lt
  obtain ⟨cm0, cm1, cm2, dm0, dm1, dm2⟩ := cells3 Bm_4
  have zm : w.heap.size + 1 < w4.heap.size := Bm_4.lt
  obtain ⟨cs0, cs1, cs2, ds0, ds1, ds2⟩ := cells3 Bs_4
  have zs : w3.heap.size < w4.heap.size := Bs_4.lt
  have hE34 : Ext w3 w4 := (by with_reducible (repeat (first | assumption | exact Ext.refl _ | refine Ext.alloc' ?_ _ | refine Ext.store0 ?_ _ _ | refine Ext.storek ?_ _ _ _ | refine Ext.stores0 ?_ ?_ _ _ | refine Ext.storesk ?_ ?_ _ _ _ | refine Ext.drewN' ?_ _ | refine Ext.drew' ?_ | refine Ext.trans ?_ (by assumption))))
  have hE4 : Ext w w4 := (by with_reducible (repeat (first | assumption | exact Ext.refl _ | refine Ext.alloc' ?_ _ | refine Ext.store0 ?_ _ _ | refine Ext.storek ?_ _ _ _ | refine Ext.stores0 ?_ ?_ _ _ | refine Ext.storesk ?_ ?_ _ _ _ | refine Ext.drewN' ?_ _ | refine Ext.drew' ?_ | refine Ext.trans ?_ (by assumption))))
  go_wp2
  go_loopw [10] (fun kk wr => ∃ k : Nat, k ≤ m.W.length ∧ kk = .int .i64 k ∧ Ext w4 wr) (fun kk _ => m.W.length - (intOf kk).toNat)
  case atStart => exact ⟨0, Nat.zero_le _, rfl, Ext.refl _⟩
  case round =>
    obtain ⟨k, hk, rfl, hQ0⟩ := hrel
    obtain ⟨w5, rfl, hb5⟩ := Ext.pick hQ0
    clear hQ0
    have Bi_5 := Bi_4.ext (show Ext w4 w5 from (by with_reducible (repeat (first | assumption | exact Ext.refl _ | refine Ext.alloc' ?_ _ | refine Ext.store0 ?_ _ _ | refine Ext.storek ?_ _ _ _ | refine Ext.stores0 ?_ ?_ _ _ | refine Ext.storesk ?_ ?_ _ _ _ | refine Ext.drewN' ?_ _ | refine Ext.drew' ?_ | refine Ext.trans ?_ (by assumption)))))
    have Bm_5 := Bm_4.ext (show Ext w4 w5 from (by with_reducible (repeat (first | assumption | exact Ext.refl _ | refine Ext.alloc' ?_ _ | refine Ext.store0 ?_ _ _ | refine Ext.storek ?_ _ _ _ | refine Ext.stores0 ?_ ?_ _ _ | refine Ext.storesk ?_ ?_ _ _ _ | refine Ext.drewN' ?_ _ | refine Ext.drew' ?_ | refine Ext.trans ?_ (by assumption)))))
    have Bs_5 := Bs_4.ext (show Ext w4 w5 from (by with_reducible (repeat (first | assumption | exact Ext.refl _ | refine Ext.alloc' ?_ _ | refine Ext.store0 ?_ _ _ | refine Ext.storek ?_ _ _ _ | refine Ext.stores0 ?_ ?_ _ _ | refine Ext.storesk ?_ ?_ _ _ _ | refine Ext.drewN' ?_ _ | refine Ext.drew' ?_ | refine Ext.trans ?_ (by assumption)))))
    clear Bi_4 ci0 ci1 ci2 ci3 ci4 ci5 di0 di1 di2 di3 di4 di5 Bm_4 cm0 cm1 cm2 dm0 dm1 dm2 Bs_4 cs0 cs1 cs2 ds0 ds1 ds2
    obtain ⟨ci0, ci1, ci2, ci3, ci4, ci5, di0, di1, di2, di3, di4, di5⟩ := cells6 Bi_5
    have zi : w.heap.size < w5.heap.size := Bi_5.lt
    obtain ⟨cm0, cm1, cm2, dm0, dm1, dm2⟩ := cells3 Bm_5
    have zm : w.heap.size + 1 < w5.heap.size := Bm_5.lt
    obtain ⟨cs0, cs1, cs2, ds0, ds1, ds2⟩ := cells3 Bs_5
    have zs : w3.heap.size < w5.heap.size := Bs_5.lt
    by_cases hlt : k < m.W.length
    · have hlt1 : (k : Int) < (m.W.length : Int) := by omega
      obtain ⟨_, _, e4, _, _, em⟩ := cwc k hlt
      simp at e4
      obtain ⟨rfl, rfl⟩ := e4
      obtain ⟨_, _, e5, _, _, ey⟩ := csc k (by rw [HsL.out]; exact hlt)
      simp at e5
      obtain ⟨rfl, rfl⟩ := e5
      have em4 : w5.cell? ⟨ba, oa + (k : Int).toNat * 1, none⟩ = some (.int .i64 (gi m.W k)) := by simpa using cell_ext em (hE4.trans hb5)
      have ey4 : w5.cell? ⟨bs, os + (k : Int).toNat * 1, none⟩ = some (.int .i64 (gi ms.W k)) := by simpa using cell_ext ey (hE34.trans hb5)
      rw [HsW.out] at ey4
      go_wp2_with (fail)
      apply region_lit2 (T := []) (L := []) (X := []) (G := [eqv _, eqv _, eqv (.bool false), eqv _, anyG, anyG, anyG, anyG, anyG, anyG, anyG, eqv _, eqv _, eqv _, eqv _, eqv (.bool true), eqv _, eqv _, eqv _, eqv _, eqv _, eqv _, eqv _, eqv _, eqv _, eqv _, eqv _, eqv (.bool false), eqv _, eqv _])
      case hm => kernel_rfl
      case hop =>
        refine ⟨?_, ?_, ?_, ?_, ?_, ?_, ?_, ?_, ?_, ?_, ?_, ?_, ?_, ?_, ?_, ?_, ?_, ?_, ?_, ?_, ?_, ?_, ?_, ?_, ?_, ?_, ?_, ?_, ?_, ?_, trivial⟩
        · intro a wa hs hf hd
          have t10 := hf.off 10 (by kernel_rfl) rfl
          exact plain_ rfl (yes_eqv (o_move rfl t10) rfl)
        · intro a wa hs hf hd
          have t4 := hf.off 4 (by kernel_rfl) rfl
          exact plain_ rfl (yes_eqv (o_move rfl t4) rfl)
        · intro a wa hs hf hd
          have t74 : a.eval (.tmp 74) = _ := hd.at 0 74 (by kernel_rfl)
          have t75 : a.eval (.tmp 75) = _ := hd.at 1 75 (by kernel_rfl)
          exact plain_ rfl (yes_eqv (o_eql rfl t74 t75 (by simp; omega)) rfl)
        · intro a wa hs hf hd
          have t76 : a.eval (.tmp 76) = _ := hd.at 2 76 (by kernel_rfl)
          exact plain_ rfl (yes_eqv (o_move rfl t76) rfl)
        · intro a wa hs hf hd
          have t77 : a.eval (.tmp 77) = _ := hd.at 3 77 (by kernel_rfl)
          exact guard_off rfl rfl t77 trivial
        · intro a wa hs hf hd
          have t77 : a.eval (.tmp 77) = _ := hd.at 3 77 (by kernel_rfl)
          exact guard_off rfl rfl t77 trivial
        · intro a wa hs hf hd
          have t77 : a.eval (.tmp 77) = _ := hd.at 3 77 (by kernel_rfl)
          exact guard_off rfl rfl t77 trivial
        · intro a wa hs hf hd
          have t77 : a.eval (.tmp 77) = _ := hd.at 3 77 (by kernel_rfl)
          exact guard_off rfl rfl t77 trivial
        · intro a wa hs hf hd
          have t77 : a.eval (.tmp 77) = _ := hd.at 3 77 (by kernel_rfl)
          exact guard_off rfl rfl t77 trivial
        · intro a wa hs hf hd
          have t77 : a.eval (.tmp 77) = _ := hd.at 3 77 (by kernel_rfl)
          exact guard_off rfl rfl t77 trivial
        · intro a wa hs hf hd
          have t77 : a.eval (.tmp 77) = _ := hd.at 3 77 (by kernel_rfl)
          exact guard_off rfl rfl t77 trivial
        · intro a wa hs hf hd
          have t77 : a.eval (.tmp 77) = _ := hd.at 3 77 (by kernel_rfl)
          exact plain_ rfl (yes_eqv (o_pick_f rfl t77 rfl) rfl)
        · intro a wa hs hf hd
          have t85 : a.eval (.tmp 85) = _ := hd.at 11 85 (by kernel_rfl)
          exact plain_ rfl (yes_eqv (o_move rfl t85) rfl)
        · intro a wa hs hf hd
          have t86 : a.eval (.tmp 86) = _ := hd.at 12 86 (by kernel_rfl)
          have t10 := hf.off 10 (by kernel_rfl) rfl
          exact guard_on rfl rfl t86 (yes_eqv (o_move rfl t10) rfl)
        · intro a wa hs hf hd
          have t86 : a.eval (.tmp 86) = _ := hd.at 12 86 (by kernel_rfl)
          have t4 := hf.off 4 (by kernel_rfl) rfl
          exact guard_on rfl rfl t86 (yes_eqv (o_move rfl t4) rfl)
        · intro a wa hs hf hd
          have t86 : a.eval (.tmp 86) = _ := hd.at 12 86 (by kernel_rfl)
          have t87 : a.eval (.tmp 87) = _ := hd.at 13 87 (by kernel_rfl)
          have t88 : a.eval (.tmp 88) = _ := hd.at 14 88 (by kernel_rfl)
          exact guard_on rfl rfl t86 (yes_eqv (o_neq rfl t87 t88 (by simp; omega)) rfl)
        · intro a wa hs hf hd
          have t86 : a.eval (.tmp 86) = _ := hd.at 12 86 (by kernel_rfl)
          have t89 : a.eval (.tmp 89) = _ := hd.at 15 89 (by kernel_rfl)
          exact guard_on rfl rfl t86 (yes_eqv (o_move rfl t89) rfl)
        · intro a wa hs hf hd
          have t90 : a.eval (.tmp 90) = _ := hd.at 16 90 (by kernel_rfl)
          have t8 := hf.off 8 (by kernel_rfl) rfl
          exact guard_on rfl rfl t90 (yes_eqv (o_fieldAddr rfl Proofs.Try.underlying50 rfl rfl (by kernel_rfl) t8) rfl)
        · intro a wa hs hf hd
          have t90 : a.eval (.tmp 90) = _ := hd.at 16 90 (by kernel_rfl)
          have t91 : a.eval (.tmp 91) = _ := hd.at 17 91 (by kernel_rfl)
          exact guard_on rfl rfl t90 (yes_eqv (o_load1 rfl Proofs.Try.underlying48 rfl t91 ((Bs_5.since hs rfl).cell rfl)) rfl)
        · intro a wa hs hf hd
          have t90 : a.eval (.tmp 90) = _ := hd.at 16 90 (by kernel_rfl)
          have t10 := hf.off 10 (by kernel_rfl) rfl
          exact guard_on rfl rfl t90 (yes_eqv (o_move rfl t10) rfl)
        · intro a wa hs hf hd
          have t90 : a.eval (.tmp 90) = _ := hd.at 16 90 (by kernel_rfl)
          have t92 : a.eval (.tmp 92) = _ := hd.at 18 92 (by kernel_rfl)
          have t93 : a.eval (.tmp 93) = _ := hd.at 19 93 (by kernel_rfl)
          exact guard_on rfl rfl t90 (yes_eqv (o_indexAddr (sz := 1) rfl Proofs.Try.underlying48 (by kernel_rfl) t92 t93 (by omega) (by omega)) rfl)
        · intro a wa hs hf hd
          have t90 : a.eval (.tmp 90) = _ := hd.at 16 90 (by kernel_rfl)
          have t94 : a.eval (.tmp 94) = _ := hd.at 20 94 (by kernel_rfl)
          exact guard_on rfl rfl t90 (yes_eqv (o_load1 rfl Proofs.Try.underlying3 rfl t94 (cell_since ey4 hs rfl)) rfl)
        · intro a wa hs hf hd
          have t90 : a.eval (.tmp 90) = _ := hd.at 16 90 (by kernel_rfl)
          have t3 := hf.off 3 (by kernel_rfl) rfl
          exact guard_on rfl rfl t90 (yes_eqv (o_fieldAddr rfl Proofs.Try.underlying50 rfl rfl (by kernel_rfl) t3) rfl)
        · intro a wa hs hf hd
          have t90 : a.eval (.tmp 90) = _ := hd.at 16 90 (by kernel_rfl)
          have t96 : a.eval (.tmp 96) = _ := hd.at 22 96 (by kernel_rfl)
          exact guard_on rfl rfl t90 (yes_eqv (o_load1 rfl Proofs.Try.underlying48 rfl t96 ((Bm_5.since hs rfl).cell rfl)) rfl)
        · intro a wa hs hf hd
          have t90 : a.eval (.tmp 90) = _ := hd.at 16 90 (by kernel_rfl)
          have t10 := hf.off 10 (by kernel_rfl) rfl
          exact guard_on rfl rfl t90 (yes_eqv (o_move rfl t10) rfl)
        · intro a wa hs hf hd
          have t90 : a.eval (.tmp 90) = _ := hd.at 16 90 (by kernel_rfl)
          have t97 : a.eval (.tmp 97) = _ := hd.at 23 97 (by kernel_rfl)
          have t98 : a.eval (.tmp 98) = _ := hd.at 24 98 (by kernel_rfl)
          exact guard_on rfl rfl t90 (yes_eqv (o_indexAddr (sz := 1) rfl Proofs.Try.underlying48 (by kernel_rfl) t97 t98 (by omega) (by omega)) rfl)
        · intro a wa hs hf hd
          have t90 : a.eval (.tmp 90) = _ := hd.at 16 90 (by kernel_rfl)
          have t99 : a.eval (.tmp 99) = _ := hd.at 25 99 (by kernel_rfl)
          exact guard_on rfl rfl t90 (yes_eqv (o_load1 rfl Proofs.Try.underlying3 rfl t99 (cell_since em4 hs rfl)) rfl)
        · intro a wa hs hf hd
          have t90 : a.eval (.tmp 90) = _ := hd.at 16 90 (by kernel_rfl)
          have t95 : a.eval (.tmp 95) = _ := hd.at 21 95 (by kernel_rfl)
          have t100 : a.eval (.tmp 100) = _ := hd.at 26 100 (by kernel_rfl)
          exact guard_on rfl rfl t90 (yes_eqv (o_neq rfl t95 t100 (by simp)) rfl)
        · intro a wa hs hf hd
          have t86 : a.eval (.tmp 86) = _ := hd.at 12 86 (by kernel_rfl)
          have t90 : a.eval (.tmp 90) = _ := hd.at 16 90 (by kernel_rfl)
          have t101 : a.eval (.tmp 101) = _ := hd.at 27 101 (by kernel_rfl)
          exact guard_on rfl rfl t86 (yes_eqv (o_pick_t rfl t90 t101) rfl)
        · intro a wa hs hf hd
          have t86 : a.eval (.tmp 86) = _ := hd.at 12 86 (by kernel_rfl)
          have t102 : a.eval (.tmp 102) = _ := hd.at 28 102 (by kernel_rfl)
          exact plain_ rfl (yes_eqv (o_pick_f rfl t86 t102) rfl)
      case hG => exact ⟨stable_eqv _, stable_eqv _, stable_eqv _, stable_eqv _, stable_any, stable_any, stable_any, stable_any, stable_any, stable_any, stable_any, stable_eqv _, stable_eqv _, stable_eqv _, stable_eqv _, stable_eqv _, stable_eqv _, stable_eqv _, stable_eqv _, stable_eqv _, stable_eqv _, stable_eqv _, stable_eqv _, stable_eqv _, stable_eqv _, stable_eqv _, stable_eqv _, stable_eqv _, stable_eqv _, stable_eqv _, trivial⟩
      case hc => kernel_rfl
      case hfin =>
        intro v2 hs2
        rintro _ rfl _ rfl _ rfl _ rfl _ _ _ _ _ _ _ _ _ _ _ _ _ _ _ rfl _ rfl _ rfl _ rfl _ rfl _ rfl _ rfl _ rfl _ rfl _ rfl _ rfl _ rfl _ rfl _ rfl _ rfl _ rfl _ rfl _ rfl _ rfl
        rintro _ rfl
        simp only [Act.put, List.setIfInBounds_toArray, List.set_cons_zero, List.set_cons_succ]
        go_wp2
        go_roundw
        case rel => exact ⟨k + 1, by omega, by simp, hb5.trans (Since.to_ext hs2)⟩
        case measure => simp [intOf]; omega
    · have hlt1 : ¬ (k : Int) < (m.W.length : Int) := by omega
      go_wp2_with (fail)
      go_at_call 64
      refine (memLoad_ no _ ms x _ ((IsMem.mk HsB.out.symm (show IsInts no w3 (.slice (some ⟨bs, os, none⟩) m.W.length s2) ms.W from ws) gs : IsMem no w3 (.agg #[.slice (some ⟨bs, os, none⟩) m.W.length s2, .slice s3 m.G.length s4, .bool true]) ms).ext (by with_reducible (repeat (first | assumption | exact Ext.refl _ | refine Ext.alloc' ?_ _ | refine Ext.store0 ?_ _ _ | refine Ext.storek ?_ _ _ _ | refine Ext.stores0 ?_ ?_ _ _ | refine Ext.storesk ?_ ?_ _ _ _ | refine Ext.drewN' ?_ _ | refine Ext.drew' ?_ | refine Ext.trans ?_ (by assumption))))) sFit no_lt (by omega) (by omega)).calls.mono ?_
      rintro e w6 ⟨_, rfl, hb6, ul, rfl, hul⟩
      rw [Hhml.out] at hul
      rw [Hl1.out]
      obtain ⟨l1, l2, l3, l4, rfl, wl, gl⟩ := hul.opened
      have Bi_6 := Bi_5.ext (show Ext w5 w6 from (by with_reducible (repeat (first | assumption | exact Ext.refl _ | refine Ext.alloc' ?_ _ | refine Ext.store0 ?_ _ _ | refine Ext.storek ?_ _ _ _ | refine Ext.stores0 ?_ ?_ _ _ | refine Ext.storesk ?_ ?_ _ _ _ | refine Ext.drewN' ?_ _ | refine Ext.drew' ?_ | refine Ext.trans ?_ (by assumption)))))
      have Bm_6 := Bm_5.ext (show Ext w5 w6 from (by with_reducible (repeat (first | assumption | exact Ext.refl _ | refine Ext.alloc' ?_ _ | refine Ext.store0 ?_ _ _ | refine Ext.storek ?_ _ _ _ | refine Ext.stores0 ?_ ?_ _ _ | refine Ext.storesk ?_ ?_ _ _ _ | refine Ext.drewN' ?_ _ | refine Ext.drew' ?_ | refine Ext.trans ?_ (by assumption)))))
      have Bs_6 := Bs_5.ext (show Ext w5 w6 from (by with_reducible (repeat (first | assumption | exact Ext.refl _ | refine Ext.alloc' ?_ _ | refine Ext.store0 ?_ _ _ | refine Ext.storek ?_ _ _ _ | refine Ext.stores0 ?_ ?_ _ _ | refine Ext.storesk ?_ ?_ _ _ _ | refine Ext.drewN' ?_ _ | refine Ext.drew' ?_ | refine Ext.trans ?_ (by assumption)))))
      clear Bi_5 ci0 ci1 ci2 ci3 ci4 ci5 di0 di1 di2 di3 di4 di5 Bm_5 cm0 cm1 cm2 dm0 dm1 dm2 Bs_5 cs0 cs1 cs2 ds0 ds1 ds2
      obtain ⟨ci0, ci1, ci2, ci3, ci4, ci5, di0, di1, di2, di3, di4, di5⟩ := cells6 Bi_6
      have zi : w.heap.size < w6.heap.size := Bi_6.lt
      obtain ⟨cm0, cm1, cm2, dm0, dm1, dm2⟩ := cells3 Bm_6
      have zm : w.heap.size + 1 < w6.heap.size := Bm_6.lt
      obtain ⟨cs0, cs1, cs2, ds0, ds1, ds2⟩ := cells3 Bs_6
      have zs : w3.heap.size < w6.heap.size := Bs_6.lt
      go_wp2_with (fail)
      go_at_call 66
      refine (memCas_ no _ m x old v _ ((IsMem.mk HB.out hw hg : IsMem no w (.agg #[.slice (some ⟨ba, oa, none⟩) m.W.length cw, .slice ag m.G.length cg, .bool true]) m).ext (by with_reducible (repeat (first | assumption | exact Ext.refl _ | refine Ext.alloc' ?_ _ | refine Ext.store0 ?_ _ _ | refine Ext.storek ?_ _ _ _ | refine Ext.stores0 ?_ ?_ _ _ | refine Ext.storesk ?_ ?_ _ _ _ | refine Ext.drewN' ?_ _ | refine Ext.drew' ?_ | refine Ext.trans ?_ (by assumption))))) hFit no_lt (by omega) (by omega)).calls.mono ?_
      rintro e w7 ⟨_, rfl, hb7, uc, rfl, huc⟩
      rw [Hhmc.out] at huc
      rw [Hc1.out]
      obtain ⟨c1, c2, c3, c4, rfl, wc, gc⟩ := huc.lit HcL.out HcG.out (show mc.bad = true from HcB.out)
      have Bi_7 := Bi_6.ext (show Ext w6 w7 from (by with_reducible (repeat (first | assumption | exact Ext.refl _ | refine Ext.alloc' ?_ _ | refine Ext.store0 ?_ _ _ | refine Ext.storek ?_ _ _ _ | refine Ext.stores0 ?_ ?_ _ _ | refine Ext.storesk ?_ ?_ _ _ _ | refine Ext.drewN' ?_ _ | refine Ext.drew' ?_ | refine Ext.trans ?_ (by assumption)))))
      have Bm_7 := Bm_6.ext (show Ext w6 w7 from (by with_reducible (repeat (first | assumption | exact Ext.refl _ | refine Ext.alloc' ?_ _ | refine Ext.store0 ?_ _ _ | refine Ext.storek ?_ _ _ _ | refine Ext.stores0 ?_ ?_ _ _ | refine Ext.storesk ?_ ?_ _ _ _ | refine Ext.drewN' ?_ _ | refine Ext.drew' ?_ | refine Ext.trans ?_ (by assumption)))))
      have Bs_7 := Bs_6.ext (show Ext w6 w7 from (by with_reducible (repeat (first | assumption | exact Ext.refl _ | refine Ext.alloc' ?_ _ | refine Ext.store0 ?_ _ _ | refine Ext.storek ?_ _ _ _ | refine Ext.stores0 ?_ ?_ _ _ | refine Ext.storesk ?_ ?_ _ _ _ | refine Ext.drewN' ?_ _ | refine Ext.drew' ?_ | refine Ext.trans ?_ (by assumption)))))
      clear Bi_6 ci0 ci1 ci2 ci3 ci4 ci5 di0 di1 di2 di3 di4 di5 Bm_6 cm0 cm1 cm2 dm0 dm1 dm2 Bs_6 cs0 cs1 cs2 ds0 ds1 ds2
      have Bl_7 : Box w7 (w6.heap.size) #[.slice l1 ml.W.length l2, .slice l3 ml.G.length l4, .bool ml.bad] 50 := (Box.new _ _ _).ext hb7
      obtain ⟨ci0, ci1, ci2, ci3, ci4, ci5, di0, di1, di2, di3, di4, di5⟩ := cells6 Bi_7
      have zi : w.heap.size < w7.heap.size := Bi_7.lt
      obtain ⟨cm0, cm1, cm2, dm0, dm1, dm2⟩ := cells3 Bm_7
      have zm : w.heap.size + 1 < w7.heap.size := Bm_7.lt
      obtain ⟨cs0, cs1, cs2, ds0, ds1, ds2⟩ := cells3 Bs_7
      have zs : w3.heap.size < w7.heap.size := Bs_7.lt
      obtain ⟨cl0, cl1, cl2, dl0, dl1, dl2⟩ := cells3 Bl_7
      have zl : w6.heap.size < w7.heap.size := Bl_7.lt
      go_wp2_with (fail)
      go_at_call 64
      refine (memLoad_ no _ m x _ ((IsMem.mk HB.out hw hg : IsMem no w (.agg #[.slice (some ⟨ba, oa, none⟩) m.W.length cw, .slice ag m.G.length cg, .bool true]) m).ext (by with_reducible (repeat (first | assumption | exact Ext.refl _ | refine Ext.alloc' ?_ _ | refine Ext.store0 ?_ _ _ | refine Ext.storek ?_ _ _ _ | refine Ext.stores0 ?_ ?_ _ _ | refine Ext.storesk ?_ ?_ _ _ _ | refine Ext.drewN' ?_ _ | refine Ext.drew' ?_ | refine Ext.trans ?_ (by assumption))))) hFit no_lt (by omega) (by omega)).calls.mono ?_
      rintro e w8 ⟨_, rfl, hb8, ut, rfl, hut⟩
      rw [Hhmt.out] at hut
      rw [hz1.out]
      obtain ⟨t1, t2, t3, t4, rfl, wt, gt⟩ := hut.opened
      have Bi_8 := Bi_7.ext (show Ext w7 w8 from (by with_reducible (repeat (first | assumption | exact Ext.refl _ | refine Ext.alloc' ?_ _ | refine Ext.store0 ?_ _ _ | refine Ext.storek ?_ _ _ _ | refine Ext.stores0 ?_ ?_ _ _ | refine Ext.storesk ?_ ?_ _ _ _ | refine Ext.drewN' ?_ _ | refine Ext.drew' ?_ | refine Ext.trans ?_ (by assumption)))))
      have Bm_8 := Bm_7.ext (show Ext w7 w8 from (by with_reducible (repeat (first | assumption | exact Ext.refl _ | refine Ext.alloc' ?_ _ | refine Ext.store0 ?_ _ _ | refine Ext.storek ?_ _ _ _ | refine Ext.stores0 ?_ ?_ _ _ | refine Ext.storesk ?_ ?_ _ _ _ | refine Ext.drewN' ?_ _ | refine Ext.drew' ?_ | refine Ext.trans ?_ (by assumption)))))
      have Bs_8 := Bs_7.ext (show Ext w7 w8 from (by with_reducible (repeat (first | assumption | exact Ext.refl _ | refine Ext.alloc' ?_ _ | refine Ext.store0 ?_ _ _ | refine Ext.storek ?_ _ _ _ | refine Ext.stores0 ?_ ?_ _ _ | refine Ext.storesk ?_ ?_ _ _ _ | refine Ext.drewN' ?_ _ | refine Ext.drew' ?_ | refine Ext.trans ?_ (by assumption)))))
      have Bl_8 := Bl_7.ext (show Ext w7 w8 from (by with_reducible (repeat (first | assumption | exact Ext.refl _ | refine Ext.alloc' ?_ _ | refine Ext.store0 ?_ _ _ | refine Ext.storek ?_ _ _ _ | refine Ext.stores0 ?_ ?_ _ _ | refine Ext.storesk ?_ ?_ _ _ _ | refine Ext.drewN' ?_ _ | refine Ext.drew' ?_ | refine Ext.trans ?_ (by assumption)))))
      clear Bi_7 ci0 ci1 ci2 ci3 ci4 ci5 di0 di1 di2 di3 di4 di5 Bm_7 cm0 cm1 cm2 dm0 dm1 dm2 Bs_7 cs0 cs1 cs2 ds0 ds1 ds2 Bl_7 cl0 cl1 cl2 dl0 dl1 dl2
      have Bc_8 : Box w8 (w7.heap.size) #[.slice c1 m.W.length c2, .slice c3 m.G.length c4, .bool true] 50 := (Box.new _ _ _).ext hb8
      obtain ⟨ci0, ci1, ci2, ci3, ci4, ci5, di0, di1, di2, di3, di4, di5⟩ := cells6 Bi_8
      have zi : w.heap.size < w8.heap.size := Bi_8.lt
      obtain ⟨cm0, cm1, cm2, dm0, dm1, dm2⟩ := cells3 Bm_8
      have zm : w.heap.size + 1 < w8.heap.size := Bm_8.lt
      obtain ⟨cs0, cs1, cs2, ds0, ds1, ds2⟩ := cells3 Bs_8
      have zs : w3.heap.size < w8.heap.size := Bs_8.lt
      obtain ⟨cl0, cl1, cl2, dl0, dl1, dl2⟩ := cells3 Bl_8
      have zl : w6.heap.size < w8.heap.size := Bl_8.lt
      obtain ⟨cc0, cc1, cc2, dc0, dc1, dc2⟩ := cells3 Bc_8
      have zc : w7.heap.size < w8.heap.size := Bc_8.lt
      go_wp2_with (fail)
      go_at_call 72
      refine (refInts_ no _ _ mc.W m.W _ (wc.ext (by with_reducible (repeat (first | assumption | exact Ext.refl _ | refine Ext.alloc' ?_ _ | refine Ext.store0 ?_ _ _ | refine Ext.storek ?_ _ _ _ | refine Ext.stores0 ?_ ?_ _ _ | refine Ext.storesk ?_ ?_ _ _ _ | refine Ext.drewN' ?_ _ | refine Ext.drew' ?_ | refine Ext.trans ?_ (by assumption))))) (hw.ext (by with_reducible (repeat (first | assumption | exact Ext.refl _ | refine Ext.alloc' ?_ _ | refine Ext.store0 ?_ _ _ | refine Ext.storek ?_ _ _ _ | refine Ext.stores0 ?_ ?_ _ _ | refine Ext.storesk ?_ ?_ _ _ _ | refine Ext.drewN' ?_ _ | refine Ext.drew' ?_ | refine Ext.trans ?_ (by assumption)))))).calls.mono ?_
      rintro e w9 ⟨_, rfl, hb9, rfl⟩
      rw [show (mc.W == m.W) = true by rw [HcW.out]; simp]
      have Bi_9 := Bi_8.ext (show Ext w8 w9 from (by with_reducible (repeat (first | assumption | exact Ext.refl _ | refine Ext.alloc' ?_ _ | refine Ext.store0 ?_ _ _ | refine Ext.storek ?_ _ _ _ | refine Ext.stores0 ?_ ?_ _ _ | refine Ext.storesk ?_ ?_ _ _ _ | refine Ext.drewN' ?_ _ | refine Ext.drew' ?_ | refine Ext.trans ?_ (by assumption)))))
      have Bm_9 := Bm_8.ext (show Ext w8 w9 from (by with_reducible (repeat (first | assumption | exact Ext.refl _ | refine Ext.alloc' ?_ _ | refine Ext.store0 ?_ _ _ | refine Ext.storek ?_ _ _ _ | refine Ext.stores0 ?_ ?_ _ _ | refine Ext.storesk ?_ ?_ _ _ _ | refine Ext.drewN' ?_ _ | refine Ext.drew' ?_ | refine Ext.trans ?_ (by assumption)))))
      have Bs_9 := Bs_8.ext (show Ext w8 w9 from (by with_reducible (repeat (first | assumption | exact Ext.refl _ | refine Ext.alloc' ?_ _ | refine Ext.store0 ?_ _ _ | refine Ext.storek ?_ _ _ _ | refine Ext.stores0 ?_ ?_ _ _ | refine Ext.storesk ?_ ?_ _ _ _ | refine Ext.drewN' ?_ _ | refine Ext.drew' ?_ | refine Ext.trans ?_ (by assumption)))))
      have Bl_9 := Bl_8.ext (show Ext w8 w9 from (by with_reducible (repeat (first | assumption | exact Ext.refl _ | refine Ext.alloc' ?_ _ | refine Ext.store0 ?_ _ _ | refine Ext.storek ?_ _ _ _ | refine Ext.stores0 ?_ ?_ _ _ | refine Ext.storesk ?_ ?_ _ _ _ | refine Ext.drewN' ?_ _ | refine Ext.drew' ?_ | refine Ext.trans ?_ (by assumption)))))
      have Bc_9 := Bc_8.ext (show Ext w8 w9 from (by with_reducible (repeat (first | assumption | exact Ext.refl _ | refine Ext.alloc' ?_ _ | refine Ext.store0 ?_ _ _ | refine Ext.storek ?_ _ _ _ | refine Ext.stores0 ?_ ?_ _ _ | refine Ext.storesk ?_ ?_ _ _ _ | refine Ext.drewN' ?_ _ | refine Ext.drew' ?_ | refine Ext.trans ?_ (by assumption)))))
      clear Bi_8 ci0 ci1 ci2 ci3 ci4 ci5 di0 di1 di2 di3 di4 di5 Bm_8 cm0 cm1 cm2 dm0 dm1 dm2 Bs_8 cs0 cs1 cs2 ds0 ds1 ds2 Bl_8 cl0 cl1 cl2 dl0 dl1 dl2 Bc_8 cc0 cc1 cc2 dc0 dc1 dc2
      have Bt_9 : Box w9 (w8.heap.size) #[.slice t1 mt.W.length t2, .slice t3 mt.G.length t4, .bool mt.bad] 50 := (Box.new _ _ _).ext hb9
      obtain ⟨ci0, ci1, ci2, ci3, ci4, ci5, di0, di1, di2, di3, di4, di5⟩ := cells6 Bi_9
      have zi : w.heap.size < w9.heap.size := Bi_9.lt
      obtain ⟨cm0, cm1, cm2, dm0, dm1, dm2⟩ := cells3 Bm_9
      have zm : w.heap.size + 1 < w9.heap.size := Bm_9.lt
      obtain ⟨cs0, cs1, cs2, ds0, ds1, ds2⟩ := cells3 Bs_9
      have zs : w3.heap.size < w9.heap.size := Bs_9.lt
      obtain ⟨cl0, cl1, cl2, dl0, dl1, dl2⟩ := cells3 Bl_9
      have zl : w6.heap.size < w9.heap.size := Bl_9.lt
      obtain ⟨cc0, cc1, cc2, dc0, dc1, dc2⟩ := cells3 Bc_9
      have zc : w7.heap.size < w9.heap.size := Bc_9.lt
      obtain ⟨ct0, ct1, ct2, dt0, dt1, dt2⟩ := cells3 Bt_9
      have zt : w8.heap.size < w9.heap.size := Bt_9.lt
      go_wp2_with (fail)
      go_at_call 72
      refine (refInts_ no _ _ mc.G m.G _ (gc.ext (by with_reducible (repeat (first | assumption | exact Ext.refl _ | refine Ext.alloc' ?_ _ | refine Ext.store0 ?_ _ _ | refine Ext.storek ?_ _ _ _ | refine Ext.stores0 ?_ ?_ _ _ | refine Ext.storesk ?_ ?_ _ _ _ | refine Ext.drewN' ?_ _ | refine Ext.drew' ?_ | refine Ext.trans ?_ (by assumption))))) (hg.ext (by with_reducible (repeat (first | assumption | exact Ext.refl _ | refine Ext.alloc' ?_ _ | refine Ext.store0 ?_ _ _ | refine Ext.storek ?_ _ _ _ | refine Ext.stores0 ?_ ?_ _ _ | refine Ext.storesk ?_ ?_ _ _ _ | refine Ext.drewN' ?_ _ | refine Ext.drew' ?_ | refine Ext.trans ?_ (by assumption)))))).calls.mono ?_
      rintro e w10 ⟨_, rfl, hb10, rfl⟩
      rw [show (mc.G == m.G) = true by rw [HcG2.out]; simp]
      have Bi_10 := Bi_9.ext (show Ext w9 w10 from (by with_reducible (repeat (first | assumption | exact Ext.refl _ | refine Ext.alloc' ?_ _ | refine Ext.store0 ?_ _ _ | refine Ext.storek ?_ _ _ _ | refine Ext.stores0 ?_ ?_ _ _ | refine Ext.storesk ?_ ?_ _ _ _ | refine Ext.drewN' ?_ _ | refine Ext.drew' ?_ | refine Ext.trans ?_ (by assumption)))))
      have Bm_10 := Bm_9.ext (show Ext w9 w10 from (by with_reducible (repeat (first | assumption | exact Ext.refl _ | refine Ext.alloc' ?_ _ | refine Ext.store0 ?_ _ _ | refine Ext.storek ?_ _ _ _ | refine Ext.stores0 ?_ ?_ _ _ | refine Ext.storesk ?_ ?_ _ _ _ | refine Ext.drewN' ?_ _ | refine Ext.drew' ?_ | refine Ext.trans ?_ (by assumption)))))
      have Bs_10 := Bs_9.ext (show Ext w9 w10 from (by with_reducible (repeat (first | assumption | exact Ext.refl _ | refine Ext.alloc' ?_ _ | refine Ext.store0 ?_ _ _ | refine Ext.storek ?_ _ _ _ | refine Ext.stores0 ?_ ?_ _ _ | refine Ext.storesk ?_ ?_ _ _ _ | refine Ext.drewN' ?_ _ | refine Ext.drew' ?_ | refine Ext.trans ?_ (by assumption)))))
      have Bl_10 := Bl_9.ext (show Ext w9 w10 from (by with_reducible (repeat (first | assumption | exact Ext.refl _ | refine Ext.alloc' ?_ _ | refine Ext.store0 ?_ _ _ | refine Ext.storek ?_ _ _ _ | refine Ext.stores0 ?_ ?_ _ _ | refine Ext.storesk ?_ ?_ _ _ _ | refine Ext.drewN' ?_ _ | refine Ext.drew' ?_ | refine Ext.trans ?_ (by assumption)))))
      have Bc_10 := Bc_9.ext (show Ext w9 w10 from (by with_reducible (repeat (first | assumption | exact Ext.refl _ | refine Ext.alloc' ?_ _ | refine Ext.store0 ?_ _ _ | refine Ext.storek ?_ _ _ _ | refine Ext.stores0 ?_ ?_ _ _ | refine Ext.storesk ?_ ?_ _ _ _ | refine Ext.drewN' ?_ _ | refine Ext.drew' ?_ | refine Ext.trans ?_ (by assumption)))))
      have Bt_10 := Bt_9.ext (show Ext w9 w10 from (by with_reducible (repeat (first | assumption | exact Ext.refl _ | refine Ext.alloc' ?_ _ | refine Ext.store0 ?_ _ _ | refine Ext.storek ?_ _ _ _ | refine Ext.stores0 ?_ ?_ _ _ | refine Ext.storesk ?_ ?_ _ _ _ | refine Ext.drewN' ?_ _ | refine Ext.drew' ?_ | refine Ext.trans ?_ (by assumption)))))
      clear Bi_9 ci0 ci1 ci2 ci3 ci4 ci5 di0 di1 di2 di3 di4 di5 Bm_9 cm0 cm1 cm2 dm0 dm1 dm2 Bs_9 cs0 cs1 cs2 ds0 ds1 ds2 Bl_9 cl0 cl1 cl2 dl0 dl1 dl2 Bc_9 cc0 cc1 cc2 dc0 dc1 dc2 Bt_9 ct0 ct1 ct2 dt0 dt1 dt2
      obtain ⟨ci0, ci1, ci2, ci3, ci4, ci5, di0, di1, di2, di3, di4, di5⟩ := cells6 Bi_10
      have zi : w.heap.size < w10.heap.size := Bi_10.lt
      obtain ⟨cm0, cm1, cm2, dm0, dm1, dm2⟩ := cells3 Bm_10
      have zm : w.heap.size + 1 < w10.heap.size := Bm_10.lt
      obtain ⟨cs0, cs1, cs2, ds0, ds1, ds2⟩ := cells3 Bs_10
      have zs : w3.heap.size < w10.heap.size := Bs_10.lt
      obtain ⟨cl0, cl1, cl2, dl0, dl1, dl2⟩ := cells3 Bl_10
      have zl : w6.heap.size < w10.heap.size := Bl_10.lt
      obtain ⟨cc0, cc1, cc2, dc0, dc1, dc2⟩ := cells3 Bc_10
      have zc : w7.heap.size < w10.heap.size := Bc_10.lt
      obtain ⟨ct0, ct1, ct2, dt0, dt1, dt2⟩ := cells3 Bt_10
      have zt : w8.heap.size < w10.heap.size := Bt_10.lt
      go_wp2
      go_ret
      exact ⟨_, rfl, (by with_reducible (repeat (first | assumption | exact Ext.refl _ | refine Ext.alloc' ?_ _ | refine Ext.store0 ?_ _ _ | refine Ext.storek ?_ _ _ _ | refine Ext.stores0 ?_ ?_ _ _ | refine Ext.storesk ?_ ?_ _ _ _ | refine Ext.drewN' ?_ _ | refine Ext.drew' ?_ | refine Ext.trans ?_ (by assumption)))), rfl⟩
set_option maxHeartbeats 4000000 in
set_option maxRecDepth 100000 in
theorem memBack_true_big (aw ag : Option Addr) (cw cg : Nat) (m : Arena) (x v old : Int) (w : World) (hw : IsInts no w (.slice aw m.W.length cw) m.W) (hg : IsInts no w (.slice ag m.G.length cg) m.G) (hb : true = m.bad) (hm : mayD m 60 = true) (hq0 : 0 ≤ x) (hq : (m.W.length : Int) ≤ x) (hx0 : -9223372036854775808 ≤ x) (hx1 : x ≤ 9223372036854775807) :
    Gives Proofs.Try.prog 13 #[.agg #[.slice aw m.W.length cw, .slice ag m.G.length cg, .bool true, .int .i64 x, .int .i64 v, .int .i64 old]] w (eqv (.bool true)) := by
  have km := fun (w' : World) (e : Ext w w') => memMay_ no _ m 60 (by omega) w' ((IsMem.mk hb hw hg : IsMem no w (.agg #[.slice aw m.W.length cw, .slice ag m.G.length cg, .bool true]) m).ext e)
  rw [hm] at km
  have hFit := Fits.of_may hm
  have hl1 := hFit.2.1
  have hl3 := hFit.2.2
  have hlw : 128 ≤ m.W.length := by rw [hFit.1]; omega
  have hlw2 : m.W.length ≤ 1000 := by rw [hFit.1]; omega
  have hO : outside m x = true := by simp [outside]; omega
  obtain ⟨_, _, e0, rw_, lw, cwc⟩ := hw.opened
  cases e0
  obtain ⟨ba, oa, rfl, xa, na, ea⟩ := cwc 0 (by omega)
  obtain ⟨ms, hms⟩ : ∃ ms, storeD m x v = ms := ⟨_, rfl⟩
  obtain ⟨mc, hmc⟩ : ∃ mc, casD m x old v = mc := ⟨_, rfl⟩
  obtain ⟨ml, hml⟩ : ∃ ml, touchD ms x = ml := ⟨_, rfl⟩
  obtain ⟨mt, hmt⟩ : ∃ mt, touchD m x = mt := ⟨_, rfl⟩
  have sG : ms.G = m.G := by rw [← hms]; rfl
  have sL : ms.W.length = m.W.length := by rw [← hms]; exact (storeD_len _ _ _).1
  have sFit : Fits ms := by rw [← hms]; exact hFit.same (storeD_len _ _ _)
  have cL : mc.W.length = m.W.length := by rw [← hmc]; exact (casD_len _ _ _ _).1
  have cG : mc.G.length = m.G.length := by rw [← hmc]; exact (casD_len _ _ _ _).2
  have sB : ms.bad = true := by rw [← hms, storeD_bad]; exact bad_out hO
  have sW : ms.W = m.W := by rw [← hms]; exact store_out hO
  have l1 : loadD ms x = 0 := load_out (by rw [← hms, outside_store]; exact hO)
  have c1 : casIs m x old = false := cas_out hO
  have cW : mc.W = m.W := by rw [← hmc, casD_no c1]; rfl
  have cG2 : mc.G = m.G := by rw [← hmc, casD_no c1]; rfl
  have cB : mc.bad = true := by rw [← hmc, casD_bad]; exact bad_out hO
  obtain ⟨z, hz⟩ : ∃ z, loadD m x = z := ⟨_, rfl⟩
  have hz1 := Lib.hid hz
  clear hz
  have Hhms := Lib.hid hms; have Hhmc := Lib.hid hmc; have Hhml := Lib.hid hml; have Hhmt := Lib.hid hmt; have HsG := Lib.hid sG; have HsL := Lib.hid sL; have HcL := Lib.hid cL; have HcG := Lib.hid cG; have HsB := Lib.hid sB; have HsW := Lib.hid sW; have Hl1 := Lib.hid l1; have Hc1 := Lib.hid c1; have HcB := Lib.hid cB; have HcW := Lib.hid cW; have HcG2 := Lib.hid cG2
  have HB := Lib.hid hb
  clear hb hms hmc hml hmt sG sL cL cG sB sW l1 c1 cB cW cG2
  have q1 : ¬ x < (m.W.length : Int) := by omega
  go_enter Proofs.Try.func13, Proofs.Try.ntmps13
  go_wp2_with (fail)
  go_at_call 49
  refine (shown2_ _).calls.mono ?_
  rintro e w1 ⟨_, rfl, hb1, rfl⟩
  have Bi_1 : Box w1 (w.heap.size) #[.slice (some ⟨ba, oa, none⟩) m.W.length cw, .slice ag m.G.length cg, .bool true, .int .i64 x, .int .i64 v, .int .i64 old] 71 := ((Box.new _ _ _).alloc _).ext hb1
  have Bm_1 : Box w1 (w.heap.size + 1) #[.slice (some ⟨ba, oa, none⟩) m.W.length cw, .slice ag m.G.length cg, .bool true] 50 := (Box.two _ _ _ _ _).ext hb1
  obtain ⟨ci0, ci1, ci2, ci3, ci4, ci5, di0, di1, di2, di3, di4, di5⟩ := cells6 Bi_1
  have zi : w.heap.size < w1.heap.size := Bi_1.lt
  obtain ⟨cm0, cm1, cm2, dm0, dm1, dm2⟩ := cells3 Bm_1
  have zm : w.heap.size + 1 < w1.heap.size := Bm_1.lt
  go_wp2_with (fail)
  go_at_call 63
  refine (km _ (by with_reducible (repeat (first | assumption | exact Ext.refl _ | refine Ext.alloc' ?_ _ | refine Ext.store0 ?_ _ _ | refine Ext.storek ?_ _ _ _ | refine Ext.stores0 ?_ ?_ _ _ | refine Ext.storesk ?_ ?_ _ _ _ | refine Ext.drewN' ?_ _ | refine Ext.drew' ?_ | refine Ext.trans ?_ (by assumption))))).calls.mono ?_
  rintro e w2 ⟨_, rfl, hb2, rfl⟩
  have Bi_2 := Bi_1.ext (show Ext w1 w2 from (by with_reducible (repeat (first | assumption | exact Ext.refl _ | refine Ext.alloc' ?_ _ | refine Ext.store0 ?_ _ _ | refine Ext.storek ?_ _ _ _ | refine Ext.stores0 ?_ ?_ _ _ | refine Ext.storesk ?_ ?_ _ _ _ | refine Ext.drewN' ?_ _ | refine Ext.drew' ?_ | refine Ext.trans ?_ (by assumption)))))
  have Bm_2 := Bm_1.ext (show Ext w1 w2 from (by with_reducible (repeat (first | assumption | exact Ext.refl _ | refine Ext.alloc' ?_ _ | refine Ext.store0 ?_ _ _ | refine Ext.storek ?_ _ _ _ | refine Ext.stores0 ?_ ?_ _ _ | refine Ext.storesk ?_ ?_ _ _ _ | refine Ext.drewN' ?_ _ | refine Ext.drew' ?_ | refine Ext.trans ?_ (by assumption)))))
  clear Bi_1 ci0 ci1 ci2 ci3 ci4 ci5 di0 di1 di2 di3 di4 di5 Bm_1 cm0 cm1 cm2 dm0 dm1 dm2
  obtain ⟨ci0, ci1, ci2, ci3, ci4, ci5, di0, di1, di2, di3, di4, di5⟩ := cells6 Bi_2
  have zi : w.heap.size < w2.heap.size := Bi_2.lt
  obtain ⟨cm0, cm1, cm2, dm0, dm1, dm2⟩ := cells3 Bm_2
  have zm : w.heap.size + 1 < w2.heap.size := Bm_2.lt
  go_wp2_with (fail)
  go_at_call 68
  refine (memStore_ no _ m x v _ ((IsMem.mk HB.out hw hg : IsMem no w (.agg #[.slice (some ⟨ba, oa, none⟩) m.W.length cw, .slice ag m.G.length cg, .bool true]) m).ext (by with_reducible (repeat (first | assumption | exact Ext.refl _ | refine Ext.alloc' ?_ _ | refine Ext.store0 ?_ _ _ | refine Ext.storek ?_ _ _ _ | refine Ext.stores0 ?_ ?_ _ _ | refine Ext.storesk ?_ ?_ _ _ _ | refine Ext.drewN' ?_ _ | refine Ext.drew' ?_ | refine Ext.trans ?_ (by assumption))))) hFit no_lt (by omega) (by omega)).calls.mono ?_
  rintro e w3 ⟨_, rfl, hb3, hus⟩
  rw [Hhms.out] at hus
  obtain ⟨s1, s2, s3, s4, rfl, ws, gs⟩ := hus.lit HsL.out (show ms.G.length = m.G.length by rw [HsG.out]) (show ms.bad = true from HsB.out)
  obtain ⟨_, _, e1, r1, ls, csc⟩ := ws.opened
  simp [HsL.out] at e1
  obtain ⟨rfl, rfl⟩ := e1
  obtain ⟨bs, os, rfl, xs, ns, es⟩ := csc 0 (by rw [HsL.out]; omega)
  have Bi_3 := Bi_2.ext (show Ext w2 w3 from (by with_reducible (repeat (first | assumption | exact Ext.refl _ | refine Ext.alloc' ?_ _ | refine Ext.store0 ?_ _ _ | refine Ext.storek ?_ _ _ _ | refine Ext.stores0 ?_ ?_ _ _ | refine Ext.storesk ?_ ?_ _ _ _ | refine Ext.drewN' ?_ _ | refine Ext.drew' ?_ | refine Ext.trans ?_ (by assumption)))))
  have Bm_3 := Bm_2.ext (show Ext w2 w3 from (by with_reducible (repeat (first | assumption | exact Ext.refl _ | refine Ext.alloc' ?_ _ | refine Ext.store0 ?_ _ _ | refine Ext.storek ?_ _ _ _ | refine Ext.stores0 ?_ ?_ _ _ | refine Ext.storesk ?_ ?_ _ _ _ | refine Ext.drewN' ?_ _ | refine Ext.drew' ?_ | refine Ext.trans ?_ (by assumption)))))
  clear Bi_2 ci0 ci1 ci2 ci3 ci4 ci5 di0 di1 di2 di3 di4 di5 Bm_2 cm0 cm1 cm2 dm0 dm1 dm2
  obtain ⟨ci0, ci1, ci2, ci3, ci4, ci5, di0, di1, di2, di3, di4, di5⟩ := cells6 Bi_3
  have zi : w.heap.size < w3.heap.size := Bi_3.lt
  obtain ⟨cm0, cm1, cm2, dm0, dm1, dm2⟩ := cells3 Bm_3
  have zm : w.heap.size + 1 < w3.heap.size := Bm_3.lt
  go_wp2_with (fail)
  go_at_call 72
  refine (refInts_ no _ _ ms.G m.G _ (gs.ext (by with_reducible (repeat (first | assumption | exact Ext.refl _ | refine Ext.alloc' ?_ _ | refine Ext.store0 ?_ _ _ | refine Ext.storek ?_ _ _ _ | refine Ext.stores0 ?_ ?_ _ _ | refine Ext.storesk ?_ ?_ _ _ _ | refine Ext.drewN' ?_ _ | refine Ext.drew' ?_ | refine Ext.trans ?_ (by assumption))))) (hg.ext (by with_reducible (repeat (first | assumption | exact Ext.refl _ | refine Ext.alloc' ?_ _ | refine Ext.store0 ?_ _ _ | refine Ext.storek ?_ _ _ _ | refine Ext.stores0 ?_ ?_ _ _ | refine Ext.storesk ?_ ?_ _ _ _ | refine Ext.drewN' ?_ _ | refine Ext.drew' ?_ | refine Ext.trans ?_ (by assumption)))))).calls.mono ?_
  rintro e w4 ⟨_, rfl, hb4, rfl⟩
  rw [show (ms.G == m.G) = true by rw [HsG.out]; simp]
  have Bi_4 := Bi_3.ext (show Ext w3 w4 from (by with_reducible (repeat (first | assumption | exact Ext.refl _ | refine Ext.alloc' ?_ _ | refine Ext.store0 ?_ _ _ | refine Ext.storek ?_ _ _ _ | refine Ext.stores0 ?_ ?_ _ _ | refine Ext.storesk ?_ ?_ _ _ _ | refine Ext.drewN' ?_ _ | refine Ext.drew' ?_ | refine Ext.trans ?_ (by assumption)))))
  have Bm_4 := Bm_3.ext (show Ext w3 w4 from (by with_reducible (repeat (first | assumption | exact Ext.refl _ | refine Ext.alloc' ?_ _ | refine Ext.store0 ?_ _ _ | refine Ext.storek ?_ _ _ _ | refine Ext.stores0 ?_ ?_ _ _ | refine Ext.storesk ?_ ?_ _ _ _ | refine Ext.drewN' ?_ _ | refine Ext.drew' ?_ | refine Ext.trans ?_ (by assumption)))))
  clear Bi_3 ci0 ci1 ci2 ci3 ci4 ci5 di0 di1 di2 di3 di4 di5 Bm_3 cm0 cm1 cm2 dm0 dm1 dm2
  have Bs_4 : Box w4 (w3.heap.size) #[.slice (some ⟨bs, os, none⟩) m.W.length s2, .slice s3 m.G.length s4, .bool true] 50 := (Box.new _ _ _).ext hb4
  obtain ⟨ci0, ci1, ci2, ci3, ci4, ci5, di0, di1, di2, di3, di4, di5⟩ := cells6 Bi_4
  have zi : w.heap.size < w4.heap.size := Bi_4.lt
  obtain ⟨cm0, cm1, cm2, dm0, dm1, dm2⟩ := cells3 Bm_4
  have zm : w.heap.size + 1 < w4.heap.size := Bm_4.lt
  obtain ⟨cs0, cs1, cs2, ds0, ds1, ds2⟩ := cells3 Bs_4
  have zs : w3.heap.size < w4.heap.size := Bs_4.lt
  have hE34 : Ext w3 w4 := (by with_reducible (repeat (first | assumption | exact Ext.refl _ | refine Ext.alloc' ?_ _ | refine Ext.store0 ?_ _ _ | refine Ext.storek ?_ _ _ _ | refine Ext.stores0 ?_ ?_ _ _ | refine Ext.storesk ?_ ?_ _ _ _ | refine Ext.drewN' ?_ _ | refine Ext.drew' ?_ | refine Ext.trans ?_ (by assumption))))
  have hE4 : Ext w w4 := (by with_reducible (repeat (first | assumption | exact Ext.refl _ | refine Ext.alloc' ?_ _ | refine Ext.store0 ?_ _ _ | refine Ext.storek ?_ _ _ _ | refine Ext.stores0 ?_ ?_ _ _ | refine Ext.storesk ?_ ?_ _ _ _ | refine Ext.drewN' ?_ _ | refine Ext.drew' ?_ | refine Ext.trans ?_ (by assumption))))
  go_wp2
  go_loopw [10] (fun kk wr => ∃ k : Nat, k ≤ m.W.length ∧ kk = .int .i64 k ∧ Ext w4 wr) (fun kk _ => m.W.length - (intOf kk).toNat)
  case atStart => exact ⟨0, Nat.zero_le _, rfl, Ext.refl _⟩
  case round =>
    obtain ⟨k, hk, rfl, hQ0⟩ := hrel
    obtain ⟨w5, rfl, hb5⟩ := Ext.pick hQ0
    clear hQ0
    have Bi_5 := Bi_4.ext (show Ext w4 w5 from (by with_reducible (repeat (first | assumption | exact Ext.refl _ | refine Ext.alloc' ?_ _ | refine Ext.store0 ?_ _ _ | refine Ext.storek ?_ _ _ _ | refine Ext.stores0 ?_ ?_ _ _ | refine Ext.storesk ?_ ?_ _ _ _ | refine Ext.drewN' ?_ _ | refine Ext.drew' ?_ | refine Ext.trans ?_ (by assumption)))))
    have Bm_5 := Bm_4.ext (show Ext w4 w5 from (by with_reducible (repeat (first | assumption | exact Ext.refl _ | refine Ext.alloc' ?_ _ | refine Ext.store0 ?_ _ _ | refine Ext.storek ?_ _ _ _ | refine Ext.stores0 ?_ ?_ _ _ | refine Ext.storesk ?_ ?_ _ _ _ | refine Ext.drewN' ?_ _ | refine Ext.drew' ?_ | refine Ext.trans ?_ (by assumption)))))
    have Bs_5 := Bs_4.ext (show Ext w4 w5 from (by with_reducible (repeat (first | assumption | exact Ext.refl _ | refine Ext.alloc' ?_ _ | refine Ext.store0 ?_ _ _ | refine Ext.storek ?_ _ _ _ | refine Ext.stores0 ?_ ?_ _ _ | refine Ext.storesk ?_ ?_ _ _ _ | refine Ext.drewN' ?_ _ | refine Ext.drew' ?_ | refine Ext.trans ?_ (by assumption)))))
    clear Bi_4 ci0 ci1 ci2 ci3 ci4 ci5 di0 di1 di2 di3 di4 di5 Bm_4 cm0 cm1 cm2 dm0 dm1 dm2 Bs_4 cs0 cs1 cs2 ds0 ds1 ds2
    obtain ⟨ci0, ci1, ci2, ci3, ci4, ci5, di0, di1, di2, di3, di4, di5⟩ := cells6 Bi_5
    have zi : w.heap.size < w5.heap.size := Bi_5.lt
    obtain ⟨cm0, cm1, cm2, dm0, dm1, dm2⟩ := cells3 Bm_5
    have zm : w.heap.size + 1 < w5.heap.size := Bm_5.lt
    obtain ⟨cs0, cs1, cs2, ds0, ds1, ds2⟩ := cells3 Bs_5
    have zs : w3.heap.size < w5.heap.size := Bs_5.lt
    by_cases hlt : k < m.W.length
    · have hlt1 : (k : Int) < (m.W.length : Int) := by omega
      obtain ⟨_, _, e4, _, _, em⟩ := cwc k hlt
      simp at e4
      obtain ⟨rfl, rfl⟩ := e4
      obtain ⟨_, _, e5, _, _, ey⟩ := csc k (by rw [HsL.out]; exact hlt)
      simp at e5
      obtain ⟨rfl, rfl⟩ := e5
      have em4 : w5.cell? ⟨ba, oa + (k : Int).toNat * 1, none⟩ = some (.int .i64 (gi m.W k)) := by simpa using cell_ext em (hE4.trans hb5)
      have ey4 : w5.cell? ⟨bs, os + (k : Int).toNat * 1, none⟩ = some (.int .i64 (gi ms.W k)) := by simpa using cell_ext ey (hE34.trans hb5)
      rw [HsW.out] at ey4
      go_wp2_with (fail)
      apply region_lit2 (T := []) (L := []) (X := []) (G := [eqv _, eqv _, eqv (.bool false), eqv _, anyG, anyG, anyG, anyG, anyG, anyG, anyG, eqv _, eqv _, eqv _, eqv _, eqv (.bool true), eqv _, eqv _, eqv _, eqv _, eqv _, eqv _, eqv _, eqv _, eqv _, eqv _, eqv _, eqv (.bool false), eqv _, eqv _])
      case hm => kernel_rfl
      case hop =>
        refine ⟨?_, ?_, ?_, ?_, ?_, ?_, ?_, ?_, ?_, ?_, ?_, ?_, ?_, ?_, ?_, ?_, ?_, ?_, ?_, ?_, ?_, ?_, ?_, ?_, ?_, ?_, ?_, ?_, ?_, ?_, trivial⟩
        · intro a wa hs hf hd
          have t10 := hf.off 10 (by kernel_rfl) rfl
          exact plain_ rfl (yes_eqv (o_move rfl t10) rfl)
        · intro a wa hs hf hd
          have t4 := hf.off 4 (by kernel_rfl) rfl
          exact plain_ rfl (yes_eqv (o_move rfl t4) rfl)
        · intro a wa hs hf hd
          have t74 : a.eval (.tmp 74) = _ := hd.at 0 74 (by kernel_rfl)
          have t75 : a.eval (.tmp 75) = _ := hd.at 1 75 (by kernel_rfl)
          exact plain_ rfl (yes_eqv (o_eql rfl t74 t75 (by simp; omega)) rfl)
        · intro a wa hs hf hd
          have t76 : a.eval (.tmp 76) = _ := hd.at 2 76 (by kernel_rfl)
          exact plain_ rfl (yes_eqv (o_move rfl t76) rfl)
        · intro a wa hs hf hd
          have t77 : a.eval (.tmp 77) = _ := hd.at 3 77 (by kernel_rfl)
          exact guard_off rfl rfl t77 trivial
        · intro a wa hs hf hd
          have t77 : a.eval (.tmp 77) = _ := hd.at 3 77 (by kernel_rfl)
          exact guard_off rfl rfl t77 trivial
        · intro a wa hs hf hd
          have t77 : a.eval (.tmp 77) = _ := hd.at 3 77 (by kernel_rfl)
          exact guard_off rfl rfl t77 trivial
        · intro a wa hs hf hd
          have t77 : a.eval (.tmp 77) = _ := hd.at 3 77 (by kernel_rfl)
          exact guard_off rfl rfl t77 trivial
        · intro a wa hs hf hd
          have t77 : a.eval (.tmp 77) = _ := hd.at 3 77 (by kernel_rfl)
          exact guard_off rfl rfl t77 trivial
        · intro a wa hs hf hd
          have t77 : a.eval (.tmp 77) = _ := hd.at 3 77 (by kernel_rfl)
          exact guard_off rfl rfl t77 trivial
        · intro a wa hs hf hd
          have t77 : a.eval (.tmp 77) = _ := hd.at 3 77 (by kernel_rfl)
          exact guard_off rfl rfl t77 trivial
        · intro a wa hs hf hd
          have t77 : a.eval (.tmp 77) = _ := hd.at 3 77 (by kernel_rfl)
          exact plain_ rfl (yes_eqv (o_pick_f rfl t77 rfl) rfl)
        · intro a wa hs hf hd
          have t85 : a.eval (.tmp 85) = _ := hd.at 11 85 (by kernel_rfl)
          exact plain_ rfl (yes_eqv (o_move rfl t85) rfl)
        · intro a wa hs hf hd
          have t86 : a.eval (.tmp 86) = _ := hd.at 12 86 (by kernel_rfl)
          have t10 := hf.off 10 (by kernel_rfl) rfl
          exact guard_on rfl rfl t86 (yes_eqv (o_move rfl t10) rfl)
        · intro a wa hs hf hd
          have t86 : a.eval (.tmp 86) = _ := hd.at 12 86 (by kernel_rfl)
          have t4 := hf.off 4 (by kernel_rfl) rfl
          exact guard_on rfl rfl t86 (yes_eqv (o_move rfl t4) rfl)
        · intro a wa hs hf hd
          have t86 : a.eval (.tmp 86) = _ := hd.at 12 86 (by kernel_rfl)
          have t87 : a.eval (.tmp 87) = _ := hd.at 13 87 (by kernel_rfl)
          have t88 : a.eval (.tmp 88) = _ := hd.at 14 88 (by kernel_rfl)
          exact guard_on rfl rfl t86 (yes_eqv (o_neq rfl t87 t88 (by simp; omega)) rfl)
        · intro a wa hs hf hd
          have t86 : a.eval (.tmp 86) = _ := hd.at 12 86 (by kernel_rfl)
          have t89 : a.eval (.tmp 89) = _ := hd.at 15 89 (by kernel_rfl)
          exact guard_on rfl rfl t86 (yes_eqv (o_move rfl t89) rfl)
        · intro a wa hs hf hd
          have t90 : a.eval (.tmp 90) = _ := hd.at 16 90 (by kernel_rfl)
          have t8 := hf.off 8 (by kernel_rfl) rfl
          exact guard_on rfl rfl t90 (yes_eqv (o_fieldAddr rfl Proofs.Try.underlying50 rfl rfl (by kernel_rfl) t8) rfl)
        · intro a wa hs hf hd
          have t90 : a.eval (.tmp 90) = _ := hd.at 16 90 (by kernel_rfl)
          have t91 : a.eval (.tmp 91) = _ := hd.at 17 91 (by kernel_rfl)
          exact guard_on rfl rfl t90 (yes_eqv (o_load1 rfl Proofs.Try.underlying48 rfl t91 ((Bs_5.since hs rfl).cell rfl)) rfl)
        · intro a wa hs hf hd
          have t90 : a.eval (.tmp 90) = _ := hd.at 16 90 (by kernel_rfl)
          have t10 := hf.off 10 (by kernel_rfl) rfl
          exact guard_on rfl rfl t90 (yes_eqv (o_move rfl t10) rfl)
        · intro a wa hs hf hd
          have t90 : a.eval (.tmp 90) = _ := hd.at 16 90 (by kernel_rfl)
          have t92 : a.eval (.tmp 92) = _ := hd.at 18 92 (by kernel_rfl)
          have t93 : a.eval (.tmp 93) = _ := hd.at 19 93 (by kernel_rfl)
          exact guard_on rfl rfl t90 (yes_eqv (o_indexAddr (sz := 1) rfl Proofs.Try.underlying48 (by kernel_rfl) t92 t93 (by omega) (by omega)) rfl)
        · intro a wa hs hf hd
          have t90 : a.eval (.tmp 90) = _ := hd.at 16 90 (by kernel_rfl)
          have t94 : a.eval (.tmp 94) = _ := hd.at 20 94 (by kernel_rfl)
          exact guard_on rfl rfl t90 (yes_eqv (o_load1 rfl Proofs.Try.underlying3 rfl t94 (cell_since ey4 hs rfl)) rfl)
        · intro a wa hs hf hd
          have t90 : a.eval (.tmp 90) = _ := hd.at 16 90 (by kernel_rfl)
          have t3 := hf.off 3 (by kernel_rfl) rfl
          exact guard_on rfl rfl t90 (yes_eqv (o_fieldAddr rfl Proofs.Try.underlying50 rfl rfl (by kernel_rfl) t3) rfl)
        · intro a wa hs hf hd
          have t90 : a.eval (.tmp 90) = _ := hd.at 16 90 (by kernel_rfl)
          have t96 : a.eval (.tmp 96) = _ := hd.at 22 96 (by kernel_rfl)
          exact guard_on rfl rfl t90 (yes_eqv (o_load1 rfl Proofs.Try.underlying48 rfl t96 ((Bm_5.since hs rfl).cell rfl)) rfl)
        · intro a wa hs hf hd
          have t90 : a.eval (.tmp 90) = _ := hd.at 16 90 (by kernel_rfl)
          have t10 := hf.off 10 (by kernel_rfl) rfl
          exact guard_on rfl rfl t90 (yes_eqv (o_move rfl t10) rfl)
        · intro a wa hs hf hd
          have t90 : a.eval (.tmp 90) = _ := hd.at 16 90 (by kernel_rfl)
          have t97 : a.eval (.tmp 97) = _ := hd.at 23 97 (by kernel_rfl)
          have t98 : a.eval (.tmp 98) = _ := hd.at 24 98 (by kernel_rfl)
          exact guard_on rfl rfl t90 (yes_eqv (o_indexAddr (sz := 1) rfl Proofs.Try.underlying48 (by kernel_rfl) t97 t98 (by omega) (by omega)) rfl)
        · intro a wa hs hf hd
          have t90 : a.eval (.tmp 90) = _ := hd.at 16 90 (by kernel_rfl)
          have t99 : a.eval (.tmp 99) = _ := hd.at 25 99 (by kernel_rfl)
          exact guard_on rfl rfl t90 (yes_eqv (o_load1 rfl Proofs.Try.underlying3 rfl t99 (cell_since em4 hs rfl)) rfl)
        · intro a wa hs hf hd
          have t90 : a.eval (.tmp 90) = _ := hd.at 16 90 (by kernel_rfl)
          have t95 : a.eval (.tmp 95) = _ := hd.at 21 95 (by kernel_rfl)
          have t100 : a.eval (.tmp 100) = _ := hd.at 26 100 (by kernel_rfl)
          exact guard_on rfl rfl t90 (yes_eqv (o_neq rfl t95 t100 (by simp)) rfl)
        · intro a wa hs hf hd
          have t86 : a.eval (.tmp 86) = _ := hd.at 12 86 (by kernel_rfl)
          have t90 : a.eval (.tmp 90) = _ := hd.at 16 90 (by kernel_rfl)
          have t101 : a.eval (.tmp 101) = _ := hd.at 27 101 (by kernel_rfl)
          exact guard_on rfl rfl t86 (yes_eqv (o_pick_t rfl t90 t101) rfl)
        · intro a wa hs hf hd
          have t86 : a.eval (.tmp 86) = _ := hd.at 12 86 (by kernel_rfl)
          have t102 : a.eval (.tmp 102) = _ := hd.at 28 102 (by kernel_rfl)
          exact plain_ rfl (yes_eqv (o_pick_f rfl t86 t102) rfl)
      case hG => exact ⟨stable_eqv _, stable_eqv _, stable_eqv _, stable_eqv _, stable_any, stable_any, stable_any, stable_any, stable_any, stable_any, stable_any, stable_eqv _, stable_eqv _, stable_eqv _, stable_eqv _, stable_eqv _, stable_eqv _, stable_eqv _, stable_eqv _, stable_eqv _, stable_eqv _, stable_eqv _, stable_eqv _, stable_eqv _, stable_eqv _, stable_eqv _, stable_eqv _, stable_eqv _, stable_eqv _, stable_eqv _, trivial⟩
      case hc => kernel_rfl
      case hfin =>
        intro v2 hs2
        rintro _ rfl _ rfl _ rfl _ rfl _ _ _ _ _ _ _ _ _ _ _ _ _ _ _ rfl _ rfl _ rfl _ rfl _ rfl _ rfl _ rfl _ rfl _ rfl _ rfl _ rfl _ rfl _ rfl _ rfl _ rfl _ rfl _ rfl _ rfl _ rfl
        rintro _ rfl
        simp only [Act.put, List.setIfInBounds_toArray, List.set_cons_zero, List.set_cons_succ]
        go_wp2
        go_roundw
        case rel => exact ⟨k + 1, by omega, by simp, hb5.trans (Since.to_ext hs2)⟩
        case measure => simp [intOf]; omega
    · have hlt1 : ¬ (k : Int) < (m.W.length : Int) := by omega
      go_wp2_with (fail)
      go_at_call 64
      refine (memLoad_ no _ ms x _ ((IsMem.mk HsB.out.symm (show IsInts no w3 (.slice (some ⟨bs, os, none⟩) m.W.length s2) ms.W from ws) gs : IsMem no w3 (.agg #[.slice (some ⟨bs, os, none⟩) m.W.length s2, .slice s3 m.G.length s4, .bool true]) ms).ext (by with_reducible (repeat (first | assumption | exact Ext.refl _ | refine Ext.alloc' ?_ _ | refine Ext.store0 ?_ _ _ | refine Ext.storek ?_ _ _ _ | refine Ext.stores0 ?_ ?_ _ _ | refine Ext.storesk ?_ ?_ _ _ _ | refine Ext.drewN' ?_ _ | refine Ext.drew' ?_ | refine Ext.trans ?_ (by assumption))))) sFit no_lt (by omega) (by omega)).calls.mono ?_
      rintro e w6 ⟨_, rfl, hb6, ul, rfl, hul⟩
      rw [Hhml.out] at hul
      rw [Hl1.out]
      obtain ⟨l1, l2, l3, l4, rfl, wl, gl⟩ := hul.opened
      have Bi_6 := Bi_5.ext (show Ext w5 w6 from (by with_reducible (repeat (first | assumption | exact Ext.refl _ | refine Ext.alloc' ?_ _ | refine Ext.store0 ?_ _ _ | refine Ext.storek ?_ _ _ _ | refine Ext.stores0 ?_ ?_ _ _ | refine Ext.storesk ?_ ?_ _ _ _ | refine Ext.drewN' ?_ _ | refine Ext.drew' ?_ | refine Ext.trans ?_ (by assumption)))))
      have Bm_6 := Bm_5.ext (show Ext w5 w6 from (by with_reducible (repeat (first | assumption | exact Ext.refl _ | refine Ext.alloc' ?_ _ | refine Ext.store0 ?_ _ _ | refine Ext.storek ?_ _ _ _ | refine Ext.stores0 ?_ ?_ _ _ | refine Ext.storesk ?_ ?_ _ _ _ | refine Ext.drewN' ?_ _ | refine Ext.drew' ?_ | refine Ext.trans ?_ (by assumption)))))
      have Bs_6 := Bs_5.ext (show Ext w5 w6 from (by with_reducible (repeat (first | assumption | exact Ext.refl _ | refine Ext.alloc' ?_ _ | refine Ext.store0 ?_ _ _ | refine Ext.storek ?_ _ _ _ | refine Ext.stores0 ?_ ?_ _ _ | refine Ext.storesk ?_ ?_ _ _ _ | refine Ext.drewN' ?_ _ | refine Ext.drew' ?_ | refine Ext.trans ?_ (by assumption)))))
      clear Bi_5 ci0 ci1 ci2 ci3 ci4 ci5 di0 di1 di2 di3 di4 di5 Bm_5 cm0 cm1 cm2 dm0 dm1 dm2 Bs_5 cs0 cs1 cs2 ds0 ds1 ds2
      obtain ⟨ci0, ci1, ci2, ci3, ci4, ci5, di0, di1, di2, di3, di4, di5⟩ := cells6 Bi_6
      have zi : w.heap.size < w6.heap.size := Bi_6.lt
      obtain ⟨cm0, cm1, cm2, dm0, dm1, dm2⟩ := cells3 Bm_6
      have zm : w.heap.size + 1 < w6.heap.size := Bm_6.lt
      obtain ⟨cs0, cs1, cs2, ds0, ds1, ds2⟩ := cells3 Bs_6
      have zs : w3.heap.size < w6.heap.size := Bs_6.lt
      go_wp2_with (fail)
      go_at_call 66
      refine (memCas_ no _ m x old v _ ((IsMem.mk HB.out hw hg : IsMem no w (.agg #[.slice (some ⟨ba, oa, none⟩) m.W.length cw, .slice ag m.G.length cg, .bool true]) m).ext (by with_reducible (repeat (first | assumption | exact Ext.refl _ | refine Ext.alloc' ?_ _ | refine Ext.store0 ?_ _ _ | refine Ext.storek ?_ _ _ _ | refine Ext.stores0 ?_ ?_ _ _ | refine Ext.storesk ?_ ?_ _ _ _ | refine Ext.drewN' ?_ _ | refine Ext.drew' ?_ | refine Ext.trans ?_ (by assumption))))) hFit no_lt (by omega) (by omega)).calls.mono ?_
      rintro e w7 ⟨_, rfl, hb7, uc, rfl, huc⟩
      rw [Hhmc.out] at huc
      rw [Hc1.out]
      obtain ⟨c1, c2, c3, c4, rfl, wc, gc⟩ := huc.lit HcL.out HcG.out (show mc.bad = true from HcB.out)
      have Bi_7 := Bi_6.ext (show Ext w6 w7 from (by with_reducible (repeat (first | assumption | exact Ext.refl _ | refine Ext.alloc' ?_ _ | refine Ext.store0 ?_ _ _ | refine Ext.storek ?_ _ _ _ | refine Ext.stores0 ?_ ?_ _ _ | refine Ext.storesk ?_ ?_ _ _ _ | refine Ext.drewN' ?_ _ | refine Ext.drew' ?_ | refine Ext.trans ?_ (by assumption)))))
      have Bm_7 := Bm_6.ext (show Ext w6 w7 from (by with_reducible (repeat (first | assumption | exact Ext.refl _ | refine Ext.alloc' ?_ _ | refine Ext.store0 ?_ _ _ | refine Ext.storek ?_ _ _ _ | refine Ext.stores0 ?_ ?_ _ _ | refine Ext.storesk ?_ ?_ _ _ _ | refine Ext.drewN' ?_ _ | refine Ext.drew' ?_ | refine Ext.trans ?_ (by assumption)))))
      have Bs_7 := Bs_6.ext (show Ext w6 w7 from (by with_reducible (repeat (first | assumption | exact Ext.refl _ | refine Ext.alloc' ?_ _ | refine Ext.store0 ?_ _ _ | refine Ext.storek ?_ _ _ _ | refine Ext.stores0 ?_ ?_ _ _ | refine Ext.storesk ?_ ?_ _ _ _ | refine Ext.drewN' ?_ _ | refine Ext.drew' ?_ | refine Ext.trans ?_ (by assumption)))))
      clear Bi_6 ci0 ci1 ci2 ci3 ci4 ci5 di0 di1 di2 di3 di4 di5 Bm_6 cm0 cm1 cm2 dm0 dm1 dm2 Bs_6 cs0 cs1 cs2 ds0 ds1 ds2
      have Bl_7 : Box w7 (w6.heap.size) #[.slice l1 ml.W.length l2, .slice l3 ml.G.length l4, .bool ml.bad] 50 := (Box.new _ _ _).ext hb7
      obtain ⟨ci0, ci1, ci2, ci3, ci4, ci5, di0, di1, di2, di3, di4, di5⟩ := cells6 Bi_7
      have zi : w.heap.size < w7.heap.size := Bi_7.lt
      obtain ⟨cm0, cm1, cm2, dm0, dm1, dm2⟩ := cells3 Bm_7
      have zm : w.heap.size + 1 < w7.heap.size := Bm_7.lt
      obtain ⟨cs0, cs1, cs2, ds0, ds1, ds2⟩ := cells3 Bs_7
      have zs : w3.heap.size < w7.heap.size := Bs_7.lt
      obtain ⟨cl0, cl1, cl2, dl0, dl1, dl2⟩ := cells3 Bl_7
      have zl : w6.heap.size < w7.heap.size := Bl_7.lt
      go_wp2_with (fail)
      go_at_call 64
      refine (memLoad_ no _ m x _ ((IsMem.mk HB.out hw hg : IsMem no w (.agg #[.slice (some ⟨ba, oa, none⟩) m.W.length cw, .slice ag m.G.length cg, .bool true]) m).ext (by with_reducible (repeat (first | assumption | exact Ext.refl _ | refine Ext.alloc' ?_ _ | refine Ext.store0 ?_ _ _ | refine Ext.storek ?_ _ _ _ | refine Ext.stores0 ?_ ?_ _ _ | refine Ext.storesk ?_ ?_ _ _ _ | refine Ext.drewN' ?_ _ | refine Ext.drew' ?_ | refine Ext.trans ?_ (by assumption))))) hFit no_lt (by omega) (by omega)).calls.mono ?_
      rintro e w8 ⟨_, rfl, hb8, ut, rfl, hut⟩
      rw [Hhmt.out] at hut
      rw [hz1.out]
      obtain ⟨t1, t2, t3, t4, rfl, wt, gt⟩ := hut.opened
      have Bi_8 := Bi_7.ext (show Ext w7 w8 from (by with_reducible (repeat (first | assumption | exact Ext.refl _ | refine Ext.alloc' ?_ _ | refine Ext.store0 ?_ _ _ | refine Ext.storek ?_ _ _ _ | refine Ext.stores0 ?_ ?_ _ _ | refine Ext.storesk ?_ ?_ _ _ _ | refine Ext.drewN' ?_ _ | refine Ext.drew' ?_ | refine Ext.trans ?_ (by assumption)))))
      have Bm_8 := Bm_7.ext (show Ext w7 w8 from (by with_reducible (repeat (first | assumption | exact Ext.refl _ | refine Ext.alloc' ?_ _ | refine Ext.store0 ?_ _ _ | refine Ext.storek ?_ _ _ _ | refine Ext.stores0 ?_ ?_ _ _ | refine Ext.storesk ?_ ?_ _ _ _ | refine Ext.drewN' ?_ _ | refine Ext.drew' ?_ | refine Ext.trans ?_ (by assumption)))))
      have Bs_8 := Bs_7.ext (show Ext w7 w8 from (by with_reducible (repeat (first | assumption | exact Ext.refl _ | refine Ext.alloc' ?_ _ | refine Ext.store0 ?_ _ _ | refine Ext.storek ?_ _ _ _ | refine Ext.stores0 ?_ ?_ _ _ | refine Ext.storesk ?_ ?_ _ _ _ | refine Ext.drewN' ?_ _ | refine Ext.drew' ?_ | refine Ext.trans ?_ (by assumption)))))
      have Bl_8 := Bl_7.ext (show Ext w7 w8 from (by with_reducible (repeat (first | assumption | exact Ext.refl _ | refine Ext.alloc' ?_ _ | refine Ext.store0 ?_ _ _ | refine Ext.storek ?_ _ _ _ | refine Ext.stores0 ?_ ?_ _ _ | refine Ext.storesk ?_ ?_ _ _ _ | refine Ext.drewN' ?_ _ | refine Ext.drew' ?_ | refine Ext.trans ?_ (by assumption)))))
      clear Bi_7 ci0 ci1 ci2 ci3 ci4 ci5 di0 di1 di2 di3 di4 di5 Bm_7 cm0 cm1 cm2 dm0 dm1 dm2 Bs_7 cs0 cs1 cs2 ds0 ds1 ds2 Bl_7 cl0 cl1 cl2 dl0 dl1 dl2
      have Bc_8 : Box w8 (w7.heap.size) #[.slice c1 m.W.length c2, .slice c3 m.G.length c4, .bool true] 50 := (Box.new _ _ _).ext hb8
      obtain ⟨ci0, ci1, ci2, ci3, ci4, ci5, di0, di1, di2, di3, di4, di5⟩ := cells6 Bi_8
      have zi : w.heap.size < w8.heap.size := Bi_8.lt
      obtain ⟨cm0, cm1, cm2, dm0, dm1, dm2⟩ := cells3 Bm_8
      have zm : w.heap.size + 1 < w8.heap.size := Bm_8.lt
      obtain ⟨cs0, cs1, cs2, ds0, ds1, ds2⟩ := cells3 Bs_8
      have zs : w3.heap.size < w8.heap.size := Bs_8.lt
      obtain ⟨cl0, cl1, cl2, dl0, dl1, dl2⟩ := cells3 Bl_8
      have zl : w6.heap.size < w8.heap.size := Bl_8.lt
      obtain ⟨cc0, cc1, cc2, dc0, dc1, dc2⟩ := cells3 Bc_8
      have zc : w7.heap.size < w8.heap.size := Bc_8.lt
      go_wp2_with (fail)
      go_at_call 72
      refine (refInts_ no _ _ mc.W m.W _ (wc.ext (by with_reducible (repeat (first | assumption | exact Ext.refl _ | refine Ext.alloc' ?_ _ | refine Ext.store0 ?_ _ _ | refine Ext.storek ?_ _ _ _ | refine Ext.stores0 ?_ ?_ _ _ | refine Ext.storesk ?_ ?_ _ _ _ | refine Ext.drewN' ?_ _ | refine Ext.drew' ?_ | refine Ext.trans ?_ (by assumption))))) (hw.ext (by with_reducible (repeat (first | assumption | exact Ext.refl _ | refine Ext.alloc' ?_ _ | refine Ext.store0 ?_ _ _ | refine Ext.storek ?_ _ _ _ | refine Ext.stores0 ?_ ?_ _ _ | refine Ext.storesk ?_ ?_ _ _ _ | refine Ext.drewN' ?_ _ | refine Ext.drew' ?_ | refine Ext.trans ?_ (by assumption)))))).calls.mono ?_
      rintro e w9 ⟨_, rfl, hb9, rfl⟩
      rw [show (mc.W == m.W) = true by rw [HcW.out]; simp]
      have Bi_9 := Bi_8.ext (show Ext w8 w9 from (by with_reducible (repeat (first | assumption | exact Ext.refl _ | refine Ext.alloc' ?_ _ | refine Ext.store0 ?_ _ _ | refine Ext.storek ?_ _ _ _ | refine Ext.stores0 ?_ ?_ _ _ | refine Ext.storesk ?_ ?_ _ _ _ | refine Ext.drewN' ?_ _ | refine Ext.drew' ?_ | refine Ext.trans ?_ (by assumption)))))
      have Bm_9 := Bm_8.ext (show Ext w8 w9 from (by with_reducible (repeat (first | assumption | exact Ext.refl _ | refine Ext.alloc' ?_ _ | refine Ext.store0 ?_ _ _ | refine Ext.storek ?_ _ _ _ | refine Ext.stores0 ?_ ?_ _ _ | refine Ext.storesk ?_ ?_ _ _ _ | refine Ext.drewN' ?_ _ | refine Ext.drew' ?_ | refine Ext.trans ?_ (by assumption)))))
      have Bs_9 := Bs_8.ext (show Ext w8 w9 from (by with_reducible (repeat (first | assumption | exact Ext.refl _ | refine Ext.alloc' ?_ _ | refine Ext.store0 ?_ _ _ | refine Ext.storek ?_ _ _ _ | refine Ext.stores0 ?_ ?_ _ _ | refine Ext.storesk ?_ ?_ _ _ _ | refine Ext.drewN' ?_ _ | refine Ext.drew' ?_ | refine Ext.trans ?_ (by assumption)))))
      have Bl_9 := Bl_8.ext (show Ext w8 w9 from (by with_reducible (repeat (first | assumption | exact Ext.refl _ | refine Ext.alloc' ?_ _ | refine Ext.store0 ?_ _ _ | refine Ext.storek ?_ _ _ _ | refine Ext.stores0 ?_ ?_ _ _ | refine Ext.storesk ?_ ?_ _ _ _ | refine Ext.drewN' ?_ _ | refine Ext.drew' ?_ | refine Ext.trans ?_ (by assumption)))))
      have Bc_9 := Bc_8.ext (show Ext w8 w9 from (by with_reducible (repeat (first | assumption | exact Ext.refl _ | refine Ext.alloc' ?_ _ | refine Ext.store0 ?_ _ _ | refine Ext.storek ?_ _ _ _ | refine Ext.stores0 ?_ ?_ _ _ | refine Ext.storesk ?_ ?_ _ _ _ | refine Ext.drewN' ?_ _ | refine Ext.drew' ?_ | refine Ext.trans ?_ (by assumption)))))
      clear Bi_8 ci0 ci1 ci2 ci3 ci4 ci5 di0 di1 di2 di3 di4 di5 Bm_8 cm0 cm1 cm2 dm0 dm1 dm2 Bs_8 cs0 cs1 cs2 ds0 ds1 ds2 Bl_8 cl0 cl1 cl2 dl0 dl1 dl2 Bc_8 cc0 cc1 cc2 dc0 dc1 dc2
      have Bt_9 : Box w9 (w8.heap.size) #[.slice t1 mt.W.length t2, .slice t3 mt.G.length t4, .bool mt.bad] 50 := (Box.new _ _ _).ext hb9
      obtain ⟨ci0, ci1, ci2, ci3, ci4, ci5, di0, di1, di2, di3, di4, di5⟩ := cells6 Bi_9
      have zi : w.heap.size < w9.heap.size := Bi_9.lt
      obtain ⟨cm0, cm1, cm2, dm0, dm1, dm2⟩ := cells3 Bm_9
      have zm : w.heap.size + 1 < w9.heap.size := Bm_9.lt
      obtain ⟨cs0, cs1, cs2, ds0, ds1, ds2⟩ := cells3 Bs_9
      have zs : w3.heap.size < w9.heap.size := Bs_9.lt
      obtain ⟨cl0, cl1, cl2, dl0, dl1, dl2⟩ := cells3 Bl_9
      have zl : w6.heap.size < w9.heap.size := Bl_9.lt
      obtain ⟨cc0, cc1, cc2, dc0, dc1, dc2⟩ := cells3 Bc_9
      have zc : w7.heap.size < w9.heap.size := Bc_9.lt
      obtain ⟨ct0, ct1, ct2, dt0, dt1, dt2⟩ := cells3 Bt_9
      have zt : w8.heap.size < w9.heap.size := Bt_9.lt
      go_wp2_with (fail)
      go_at_call 72
      refine (refInts_ no _ _ mc.G m.G _ (gc.ext (by with_reducible (repeat (first | assumption | exact Ext.refl _ | refine Ext.alloc' ?_ _ | refine Ext.store0 ?_ _ _ | refine Ext.storek ?_ _ _ _ | refine Ext.stores0 ?_ ?_ _ _ | refine Ext.storesk ?_ ?_ _ _ _ | refine Ext.drewN' ?_ _ | refine Ext.drew' ?_ | refine Ext.trans ?_ (by assumption))))) (hg.ext (by with_reducible (repeat (first | assumption | exact Ext.refl _ | refine Ext.alloc' ?_ _ | refine Ext.store0 ?_ _ _ | refine Ext.storek ?_ _ _ _ | refine Ext.stores0 ?_ ?_ _ _ | refine Ext.storesk ?_ ?_ _ _ _ | refine Ext.drewN' ?_ _ | refine Ext.drew' ?_ | refine Ext.trans ?_ (by assumption)))))).calls.mono ?_
      rintro e w10 ⟨_, rfl, hb10, rfl⟩
      rw [show (mc.G == m.G) = true by rw [HcG2.out]; simp]
      have Bi_10 := Bi_9.ext (show Ext w9 w10 from (by with_reducible (repeat (first | assumption | exact Ext.refl _ | refine Ext.alloc' ?_ _ | refine Ext.store0 ?_ _ _ | refine Ext.storek ?_ _ _ _ | refine Ext.stores0 ?_ ?_ _ _ | refine Ext.storesk ?_ ?_ _ _ _ | refine Ext.drewN' ?_ _ | refine Ext.drew' ?_ | refine Ext.trans ?_ (by assumption)))))
      have Bm_10 := Bm_9.ext (show Ext w9 w10 from (by with_reducible (repeat (first | assumption | exact Ext.refl _ | refine Ext.alloc' ?_ _ | refine Ext.store0 ?_ _ _ | refine Ext.storek ?_ _ _ _ | refine Ext.stores0 ?_ ?_ _ _ | refine Ext.storesk ?_ ?_ _ _ _ | refine Ext.drewN' ?_ _ | refine Ext.drew' ?_ | refine Ext.trans ?_ (by assumption)))))
      have Bs_10 := Bs_9.ext (show Ext w9 w10 from (by with_reducible (repeat (first | assumption | exact Ext.refl _ | refine Ext.alloc' ?_ _ | refine Ext.store0 ?_ _ _ | refine Ext.storek ?_ _ _ _ | refine Ext.stores0 ?_ ?_ _ _ | refine Ext.storesk ?_ ?_ _ _ _ | refine Ext.drewN' ?_ _ | refine Ext.drew' ?_ | refine Ext.trans ?_ (by assumption)))))
      have Bl_10 := Bl_9.ext (show Ext w9 w10 from (by with_reducible (repeat (first | assumption | exact Ext.refl _ | refine Ext.alloc' ?_ _ | refine Ext.store0 ?_ _ _ | refine Ext.storek ?_ _ _ _ | refine Ext.stores0 ?_ ?_ _ _ | refine Ext.storesk ?_ ?_ _ _ _ | refine Ext.drewN' ?_ _ | refine Ext.drew' ?_ | refine Ext.trans ?_ (by assumption)))))
      have Bc_10 := Bc_9.ext (show Ext w9 w10 from (by with_reducible (repeat (first | assumption | exact Ext.refl _ | refine Ext.alloc' ?_ _ | refine Ext.store0 ?_ _ _ | refine Ext.storek ?_ _ _ _ | refine Ext.stores0 ?_ ?_ _ _ | refine Ext.storesk ?_ ?_ _ _ _ | refine Ext.drewN' ?_ _ | refine Ext.drew' ?_ | refine Ext.trans ?_ (by assumption)))))
      have Bt_10 := Bt_9.ext (show Ext w9 w10 from (by with_reducible (repeat (first | assumption | exact Ext.refl _ | refine Ext.alloc' ?_ _ | refine Ext.store0 ?_ _ _ | refine Ext.storek ?_ _ _ _ | refine Ext.stores0 ?_ ?_ _ _ | refine Ext.storesk ?_ ?_ _ _ _ | refine Ext.drewN' ?_ _ | refine Ext.drew' ?_ | refine Ext.trans ?_ (by assumption)))))
      clear Bi_9 ci0 ci1 ci2 ci3 ci4 ci5 di0 di1 di2 di3 di4 di5 Bm_9 cm0 cm1 cm2 dm0 dm1 dm2 Bs_9 cs0 cs1 cs2 ds0 ds1 ds2 Bl_9 cl0 cl1 cl2 dl0 dl1 dl2 Bc_9 cc0 cc1 cc2 dc0 dc1 dc2 Bt_9 ct0 ct1 ct2 dt0 dt1 dt2
      obtain ⟨ci0, ci1, ci2, ci3, ci4, ci5, di0, di1, di2, di3, di4, di5⟩ := cells6 Bi_10
      have zi : w.heap.size < w10.heap.size := Bi_10.lt
      obtain ⟨cm0, cm1, cm2, dm0, dm1, dm2⟩ := cells3 Bm_10
      have zm : w.heap.size + 1 < w10.heap.size := Bm_10.lt
      obtain ⟨cs0, cs1, cs2, ds0, ds1, ds2⟩ := cells3 Bs_10
      have zs : w3.heap.size < w10.heap.size := Bs_10.lt
      obtain ⟨cl0, cl1, cl2, dl0, dl1, dl2⟩ := cells3 Bl_10
      have zl : w6.heap.size < w10.heap.size := Bl_10.lt
      obtain ⟨cc0, cc1, cc2, dc0, dc1, dc2⟩ := cells3 Bc_10
      have zc : w7.heap.size < w10.heap.size := Bc_10.lt
      obtain ⟨ct0, ct1, ct2, dt0, dt1, dt2⟩ := cells3 Bt_10
      have zt : w8.heap.size < w10.heap.size := Bt_10.lt
      go_wp2
      go_ret
      exact ⟨_, rfl, (by with_reducible (repeat (first | assumption | exact Ext.refl _ | refine Ext.alloc' ?_ _ | refine Ext.store0 ?_ _ _ | refine Ext.storek ?_ _ _ _ | refine Ext.stores0 ?_ ?_ _ _ | refine Ext.storesk ?_ ?_ _ _ _ | refine Ext.drewN' ?_ _ | refine Ext.drew' ?_ | refine Ext.trans ?_ (by assumption)))), rfl⟩
set_option maxHeartbeats 4000000 in
set_option maxRecDepth 100000 in
theorem memBack_true_in1 (aw ag : Option Addr) (cw cg : Nat) (m : Arena) (p : Nat) (v old : Int) (w : World) (hw : IsInts no w (.slice aw m.W.length cw) m.W) (hg : IsInts no w (.slice ag m.G.length cg) m.G) (hb : true = m.bad) (hm : mayD m 60 = true) (hq : p < m.W.length) (hc : loadD m p = old) :
    Gives Proofs.Try.prog 13 #[.agg #[.slice aw m.W.length cw, .slice ag m.G.length cg, .bool true, .int .i64 (p : Int), .int .i64 v, .int .i64 old]] w (eqv (.bool true)) := by
  have km := fun (w' : World) (e : Ext w w') => memMay_ no _ m 60 (by omega) w' ((IsMem.mk hb hw hg : IsMem no w (.agg #[.slice aw m.W.length cw, .slice ag m.G.length cg, .bool true]) m).ext e)
  rw [hm] at km
  have hFit := Fits.of_may hm
  have hl1 := hFit.2.1
  have hl3 := hFit.2.2
  have hlw : 128 ≤ m.W.length := by rw [hFit.1]; omega
  have hlw2 : m.W.length ≤ 1000 := by rw [hFit.1]; omega
  have hO : outside m (p : Int) = false := by simp [outside]; omega
  obtain ⟨_, _, e0, rw_, lw, cwc⟩ := hw.opened
  cases e0
  obtain ⟨ba, oa, rfl, xa, na, ea⟩ := cwc 0 (by omega)
  obtain ⟨ms, hms⟩ : ∃ ms, storeD m (p : Int) v = ms := ⟨_, rfl⟩
  obtain ⟨mc, hmc⟩ : ∃ mc, casD m (p : Int) old v = mc := ⟨_, rfl⟩
  obtain ⟨ml, hml⟩ : ∃ ml, touchD ms (p : Int) = ml := ⟨_, rfl⟩
  obtain ⟨mt, hmt⟩ : ∃ mt, touchD m (p : Int) = mt := ⟨_, rfl⟩
  have sG : ms.G = m.G := by rw [← hms]; rfl
  have sL : ms.W.length = m.W.length := by rw [← hms]; exact (storeD_len _ _ _).1
  have sFit : Fits ms := by rw [← hms]; exact hFit.same (storeD_len _ _ _)
  have cL : mc.W.length = m.W.length := by rw [← hmc]; exact (casD_len _ _ _ _).1
  have cG : mc.G.length = m.G.length := by rw [← hmc]; exact (casD_len _ _ _ _).2
  have sB : ms.bad = true := by rw [← hms, storeD_bad]; unfold badAt; rw [← hb]; rfl
  have sW : ms.W = m.W.set p v := by rw [← hms, storeD_W v hO]; simp
  have l1 : loadD ms p = v := by rw [← hms]; exact load_store hO
  have c1 : casIs m p old = true := by rw [cas_in hO]; simp [hc]
  obtain ⟨z, hz⟩ : ∃ z, loadD m p = z := ⟨_, rfl⟩
  rw [hz] at hc
  have hc2 : (z == old) = true := by simp [hc]
  have cS : sameD mc ms = true := by rw [← hmc, ← hms, casD_yes c1]; exact sameD_refl _
  clear hc
  have hz1 := Lib.hid hz
  clear hz
  have Hhms := Lib.hid hms; have Hhmc := Lib.hid hmc; have Hhml := Lib.hid hml; have Hhmt := Lib.hid hmt; have HsG := Lib.hid sG; have HsL := Lib.hid sL; have HcL := Lib.hid cL; have HcG := Lib.hid cG; have HsB := Lib.hid sB; have HsW := Lib.hid sW; have Hl1 := Lib.hid l1; have Hc1 := Lib.hid c1; have HcS := Lib.hid cS
  have HB := Lib.hid hb
  clear hb hms hmc hml hmt sG sL cL cG sB sW l1 c1 cS
  have q0 : (0 : Int) ≤ p := by omega
  have q1 : (p : Int) < (m.W.length : Int) := by omega
  go_enter Proofs.Try.func13, Proofs.Try.ntmps13
  go_wp2_with (fail)
  go_at_call 49
  refine (shown2_ _).calls.mono ?_
  rintro e w1 ⟨_, rfl, hb1, rfl⟩
  have Bi_1 : Box w1 (w.heap.size) #[.slice (some ⟨ba, oa, none⟩) m.W.length cw, .slice ag m.G.length cg, .bool true, .int .i64 (p : Int), .int .i64 v, .int .i64 old] 71 := ((Box.new _ _ _).alloc _).ext hb1
  have Bm_1 : Box w1 (w.heap.size + 1) #[.slice (some ⟨ba, oa, none⟩) m.W.length cw, .slice ag m.G.length cg, .bool true] 50 := (Box.two _ _ _ _ _).ext hb1
  obtain ⟨ci0, ci1, ci2, ci3, ci4, ci5, di0, di1, di2, di3, di4, di5⟩ := cells6 Bi_1
  have zi : w.heap.size < w1.heap.size := Bi_1.lt
  obtain ⟨cm0, cm1, cm2, dm0, dm1, dm2⟩ := cells3 Bm_1
  have zm : w.heap.size + 1 < w1.heap.size := Bm_1.lt
  go_wp2_with (fail)
  go_at_call 63
  refine (km _ (by with_reducible (repeat (first | assumption | exact Ext.refl _ | refine Ext.alloc' ?_ _ | refine Ext.store0 ?_ _ _ | refine Ext.storek ?_ _ _ _ | refine Ext.stores0 ?_ ?_ _ _ | refine Ext.storesk ?_ ?_ _ _ _ | refine Ext.drewN' ?_ _ | refine Ext.drew' ?_ | refine Ext.trans ?_ (by assumption))))).calls.mono ?_
  rintro e w2 ⟨_, rfl, hb2, rfl⟩
  have Bi_2 := Bi_1.ext (show Ext w1 w2 from (by with_reducible (repeat (first | assumption | exact Ext.refl _ | refine Ext.alloc' ?_ _ | refine Ext.store0 ?_ _ _ | refine Ext.storek ?_ _ _ _ | refine Ext.stores0 ?_ ?_ _ _ | refine Ext.storesk ?_ ?_ _ _ _ | refine Ext.drewN' ?_ _ | refine Ext.drew' ?_ | refine Ext.trans ?_ (by assumption)))))
  have Bm_2 := Bm_1.ext (show Ext w1 w2 from (by with_reducible (repeat (first | assumption | exact Ext.refl _ | refine Ext.alloc' ?_ _ | refine Ext.store0 ?_ _ _ | refine Ext.storek ?_ _ _ _ | refine Ext.stores0 ?_ ?_ _ _ | refine Ext.storesk ?_ ?_ _ _ _ | refine Ext.drewN' ?_ _ | refine Ext.drew' ?_ | refine Ext.trans ?_ (by assumption)))))
  clear Bi_1 ci0 ci1 ci2 ci3 ci4 ci5 di0 di1 di2 di3 di4 di5 Bm_1 cm0 cm1 cm2 dm0 dm1 dm2
  obtain ⟨ci0, ci1, ci2, ci3, ci4, ci5, di0, di1, di2, di3, di4, di5⟩ := cells6 Bi_2
  have zi : w.heap.size < w2.heap.size := Bi_2.lt
  obtain ⟨cm0, cm1, cm2, dm0, dm1, dm2⟩ := cells3 Bm_2
  have zm : w.heap.size + 1 < w2.heap.size := Bm_2.lt
  go_wp2_with (fail)
  go_at_call 68
  refine (memStore_ no _ m (p : Int) v _ ((IsMem.mk HB.out hw hg : IsMem no w (.agg #[.slice (some ⟨ba, oa, none⟩) m.W.length cw, .slice ag m.G.length cg, .bool true]) m).ext (by with_reducible (repeat (first | assumption | exact Ext.refl _ | refine Ext.alloc' ?_ _ | refine Ext.store0 ?_ _ _ | refine Ext.storek ?_ _ _ _ | refine Ext.stores0 ?_ ?_ _ _ | refine Ext.storesk ?_ ?_ _ _ _ | refine Ext.drewN' ?_ _ | refine Ext.drew' ?_ | refine Ext.trans ?_ (by assumption))))) hFit no_lt (by omega) (by omega)).calls.mono ?_
  rintro e w3 ⟨_, rfl, hb3, hus⟩
  rw [Hhms.out] at hus
  obtain ⟨s1, s2, s3, s4, rfl, ws, gs⟩ := hus.lit HsL.out (show ms.G.length = m.G.length by rw [HsG.out]) (show ms.bad = true from HsB.out)
  obtain ⟨_, _, e1, r1, ls, csc⟩ := ws.opened
  simp [HsL.out] at e1
  obtain ⟨rfl, rfl⟩ := e1
  obtain ⟨bs, os, rfl, xs, ns, es⟩ := csc 0 (by rw [HsL.out]; omega)
  have Bi_3 := Bi_2.ext (show Ext w2 w3 from (by with_reducible (repeat (first | assumption | exact Ext.refl _ | refine Ext.alloc' ?_ _ | refine Ext.store0 ?_ _ _ | refine Ext.storek ?_ _ _ _ | refine Ext.stores0 ?_ ?_ _ _ | refine Ext.storesk ?_ ?_ _ _ _ | refine Ext.drewN' ?_ _ | refine Ext.drew' ?_ | refine Ext.trans ?_ (by assumption)))))
  have Bm_3 := Bm_2.ext (show Ext w2 w3 from (by with_reducible (repeat (first | assumption | exact Ext.refl _ | refine Ext.alloc' ?_ _ | refine Ext.store0 ?_ _ _ | refine Ext.storek ?_ _ _ _ | refine Ext.stores0 ?_ ?_ _ _ | refine Ext.storesk ?_ ?_ _ _ _ | refine Ext.drewN' ?_ _ | refine Ext.drew' ?_ | refine Ext.trans ?_ (by assumption)))))
  clear Bi_2 ci0 ci1 ci2 ci3 ci4 ci5 di0 di1 di2 di3 di4 di5 Bm_2 cm0 cm1 cm2 dm0 dm1 dm2
  obtain ⟨ci0, ci1, ci2, ci3, ci4, ci5, di0, di1, di2, di3, di4, di5⟩ := cells6 Bi_3
  have zi : w.heap.size < w3.heap.size := Bi_3.lt
  obtain ⟨cm0, cm1, cm2, dm0, dm1, dm2⟩ := cells3 Bm_3
  have zm : w.heap.size + 1 < w3.heap.size := Bm_3.lt
  go_wp2_with (fail)
  go_at_call 72
  refine (refInts_ no _ _ ms.G m.G _ (gs.ext (by with_reducible (repeat (first | assumption | exact Ext.refl _ | refine Ext.alloc' ?_ _ | refine Ext.store0 ?_ _ _ | refine Ext.storek ?_ _ _ _ | refine Ext.stores0 ?_ ?_ _ _ | refine Ext.storesk ?_ ?_ _ _ _ | refine Ext.drewN' ?_ _ | refine Ext.drew' ?_ | refine Ext.trans ?_ (by assumption))))) (hg.ext (by with_reducible (repeat (first | assumption | exact Ext.refl _ | refine Ext.alloc' ?_ _ | refine Ext.store0 ?_ _ _ | refine Ext.storek ?_ _ _ _ | refine Ext.stores0 ?_ ?_ _ _ | refine Ext.storesk ?_ ?_ _ _ _ | refine Ext.drewN' ?_ _ | refine Ext.drew' ?_ | refine Ext.trans ?_ (by assumption)))))).calls.mono ?_
  rintro e w4 ⟨_, rfl, hb4, rfl⟩
  rw [show (ms.G == m.G) = true by rw [HsG.out]; simp]
  have Bi_4 := Bi_3.ext (show Ext w3 w4 from (by with_reducible (repeat (first | assumption | exact Ext.refl _ | refine Ext.alloc' ?_ _ | refine Ext.store0 ?_ _ _ | refine Ext.storek ?_ _ _ _ | refine Ext.stores0 ?_ ?_ _ _ | refine Ext.storesk ?_ ?_ _ _ _ | refine Ext.drewN' ?_ _ | refine Ext.drew' ?_ | refine Ext.trans ?_ (by assumption)))))
  have Bm_4 := Bm_3.ext (show Ext w3 w4 from (by with_reducible (repeat (first | assumption | exact Ext.refl _ | refine Ext.alloc' ?_ _ | refine Ext.store0 ?_ _ _ | refine Ext.storek ?_ _ _ _ | refine Ext.stores0 ?_ ?_ _ _ | refine Ext.storesk ?_ ?_ _ _ _ | refine Ext.drewN' ?_ _ | refine Ext.drew' ?_ | refine Ext.trans ?_ (by assumption)))))
  clear Bi_3 ci0 ci1 ci2 ci3 ci4 ci5 di0 di1 di2 di3 di4 di5 Bm_3 cm0 cm1 cm2 dm0 dm1 dm2
  have Bs_4 : Box w4 (w3.heap.size) #[.slice (some ⟨bs, os, none⟩) m.W.length s2, .slice s3 m.G.length s4, .bool true] 50 := (Box.new _ _ _).ext hb4
  obtain ⟨ci0, ci1, ci2, ci3, ci4, ci5, di0, di1, di2, di3, di4, di5⟩ := cells6 Bi_4
  have zi : w.heap.size < w4.heap.size := Bi_4.lt
  obtain ⟨cm0, cm1, cm2, dm0, dm1, dm2⟩ := cells3 Bm_4
  have zm : w.heap.size + 1 < w4.heap.size := Bm_4.lt
  obtain ⟨cs0, cs1, cs2, ds0, ds1, ds2⟩ := cells3 Bs_4
  have zs : w3.heap.size < w4.heap.size := Bs_4.lt
  have hE34 : Ext w3 w4 := (by with_reducible (repeat (first | assumption | exact Ext.refl _ | refine Ext.alloc' ?_ _ | refine Ext.store0 ?_ _ _ | refine Ext.storek ?_ _ _ _ | refine Ext.stores0 ?_ ?_ _ _ | refine Ext.storesk ?_ ?_ _ _ _ | refine Ext.drewN' ?_ _ | refine Ext.drew' ?_ | refine Ext.trans ?_ (by assumption))))
  have hE4 : Ext w w4 := (by with_reducible (repeat (first | assumption | exact Ext.refl _ | refine Ext.alloc' ?_ _ | refine Ext.store0 ?_ _ _ | refine Ext.storek ?_ _ _ _ | refine Ext.stores0 ?_ ?_ _ _ | refine Ext.storesk ?_ ?_ _ _ _ | refine Ext.drewN' ?_ _ | refine Ext.drew' ?_ | refine Ext.trans ?_ (by assumption))))
  go_wp2
  go_loopw [10] (fun kk wr => ∃ k : Nat, k ≤ m.W.length ∧ kk = .int .i64 k ∧ Ext w4 wr) (fun kk _ => m.W.length - (intOf kk).toNat)
  case atStart => exact ⟨0, Nat.zero_le _, rfl, Ext.refl _⟩
  case round =>
    obtain ⟨k, hk, rfl, hQ0⟩ := hrel
    obtain ⟨w5, rfl, hb5⟩ := Ext.pick hQ0
    clear hQ0
    have Bi_5 := Bi_4.ext (show Ext w4 w5 from (by with_reducible (repeat (first | assumption | exact Ext.refl _ | refine Ext.alloc' ?_ _ | refine Ext.store0 ?_ _ _ | refine Ext.storek ?_ _ _ _ | refine Ext.stores0 ?_ ?_ _ _ | refine Ext.storesk ?_ ?_ _ _ _ | refine Ext.drewN' ?_ _ | refine Ext.drew' ?_ | refine Ext.trans ?_ (by assumption)))))
    have Bm_5 := Bm_4.ext (show Ext w4 w5 from (by with_reducible (repeat (first | assumption | exact Ext.refl _ | refine Ext.alloc' ?_ _ | refine Ext.store0 ?_ _ _ | refine Ext.storek ?_ _ _ _ | refine Ext.stores0 ?_ ?_ _ _ | refine Ext.storesk ?_ ?_ _ _ _ | refine Ext.drewN' ?_ _ | refine Ext.drew' ?_ | refine Ext.trans ?_ (by assumption)))))
    have Bs_5 := Bs_4.ext (show Ext w4 w5 from (by with_reducible (repeat (first | assumption | exact Ext.refl _ | refine Ext.alloc' ?_ _ | refine Ext.store0 ?_ _ _ | refine Ext.storek ?_ _ _ _ | refine Ext.stores0 ?_ ?_ _ _ | refine Ext.storesk ?_ ?_ _ _ _ | refine Ext.drewN' ?_ _ | refine Ext.drew' ?_ | refine Ext.trans ?_ (by assumption)))))
    clear Bi_4 ci0 ci1 ci2 ci3 ci4 ci5 di0 di1 di2 di3 di4 di5 Bm_4 cm0 cm1 cm2 dm0 dm1 dm2 Bs_4 cs0 cs1 cs2 ds0 ds1 ds2
    obtain ⟨ci0, ci1, ci2, ci3, ci4, ci5, di0, di1, di2, di3, di4, di5⟩ := cells6 Bi_5
    have zi : w.heap.size < w5.heap.size := Bi_5.lt
    obtain ⟨cm0, cm1, cm2, dm0, dm1, dm2⟩ := cells3 Bm_5
    have zm : w.heap.size + 1 < w5.heap.size := Bm_5.lt
    obtain ⟨cs0, cs1, cs2, ds0, ds1, ds2⟩ := cells3 Bs_5
    have zs : w3.heap.size < w5.heap.size := Bs_5.lt
    by_cases hlt : k < m.W.length
    · have hlt1 : (k : Int) < (m.W.length : Int) := by omega
      obtain ⟨_, _, e4, _, _, em⟩ := cwc k hlt
      simp at e4
      obtain ⟨rfl, rfl⟩ := e4
      obtain ⟨_, _, e5, _, _, ey⟩ := csc k (by rw [HsL.out]; exact hlt)
      simp at e5
      obtain ⟨rfl, rfl⟩ := e5
      have em4 : w5.cell? ⟨ba, oa + (k : Int).toNat * 1, none⟩ = some (.int .i64 (gi m.W k)) := by simpa using cell_ext em (hE4.trans hb5)
      have ey4 : w5.cell? ⟨bs, os + (k : Int).toNat * 1, none⟩ = some (.int .i64 (gi ms.W k)) := by simpa using cell_ext ey (hE34.trans hb5)
      rw [HsW.out] at ey4
      rw [gi_set _ _ _ _ hq] at ey4
      by_cases hkp : p = k
      · subst hkp
        rw [if_pos rfl] at ey4
        go_wp2_with (fail)
        apply region_lit2 (T := []) (L := []) (X := []) (G := [eqv _, eqv _, eqv (.bool true), eqv _, eqv _, eqv _, eqv _, eqv _, eqv _, eqv _, eqv (.bool false), eqv _, eqv _, eqv _, eqv _, eqv (.bool false), eqv _, anyG, anyG, anyG, anyG, anyG, anyG, anyG, anyG, anyG, anyG, anyG, eqv _, eqv _])
        case hm => kernel_rfl
        case hop =>
          refine ⟨?_, ?_, ?_, ?_, ?_, ?_, ?_, ?_, ?_, ?_, ?_, ?_, ?_, ?_, ?_, ?_, ?_, ?_, ?_, ?_, ?_, ?_, ?_, ?_, ?_, ?_, ?_, ?_, ?_, ?_, trivial⟩
          · intro a wa hs hf hd
            have t10 := hf.off 10 (by kernel_rfl) rfl
            exact plain_ rfl (yes_eqv (o_move rfl t10) rfl)
          · intro a wa hs hf hd
            have t4 := hf.off 4 (by kernel_rfl) rfl
            exact plain_ rfl (yes_eqv (o_move rfl t4) rfl)
          · intro a wa hs hf hd
            have t74 : a.eval (.tmp 74) = _ := hd.at 0 74 (by kernel_rfl)
            have t75 : a.eval (.tmp 75) = _ := hd.at 1 75 (by kernel_rfl)
            exact plain_ rfl (yes_eqv (o_eql rfl t74 t75 (by simp)) rfl)
          · intro a wa hs hf hd
            have t76 : a.eval (.tmp 76) = _ := hd.at 2 76 (by kernel_rfl)
            exact plain_ rfl (yes_eqv (o_move rfl t76) rfl)
          · intro a wa hs hf hd
            have t77 : a.eval (.tmp 77) = _ := hd.at 3 77 (by kernel_rfl)
            have t8 := hf.off 8 (by kernel_rfl) rfl
            exact guard_on rfl rfl t77 (yes_eqv (o_fieldAddr rfl Proofs.Try.underlying50 rfl rfl (by kernel_rfl) t8) rfl)
          · intro a wa hs hf hd
            have t77 : a.eval (.tmp 77) = _ := hd.at 3 77 (by kernel_rfl)
            have t78 : a.eval (.tmp 78) = _ := hd.at 4 78 (by kernel_rfl)
            exact guard_on rfl rfl t77 (yes_eqv (o_load1 rfl Proofs.Try.underlying48 rfl t78 ((Bs_5.since hs rfl).cell rfl)) rfl)
          · intro a wa hs hf hd
            have t77 : a.eval (.tmp 77) = _ := hd.at 3 77 (by kernel_rfl)
            have t10 := hf.off 10 (by kernel_rfl) rfl
            exact guard_on rfl rfl t77 (yes_eqv (o_move rfl t10) rfl)
          · intro a wa hs hf hd
            have t77 : a.eval (.tmp 77) = _ := hd.at 3 77 (by kernel_rfl)
            have t79 : a.eval (.tmp 79) = _ := hd.at 5 79 (by kernel_rfl)
            have t80 : a.eval (.tmp 80) = _ := hd.at 6 80 (by kernel_rfl)
            exact guard_on rfl rfl t77 (yes_eqv (o_indexAddr (sz := 1) rfl Proofs.Try.underlying48 (by kernel_rfl) t79 t80 (by omega) (by omega)) rfl)
          · intro a wa hs hf hd
            have t77 : a.eval (.tmp 77) = _ := hd.at 3 77 (by kernel_rfl)
            have t81 : a.eval (.tmp 81) = _ := hd.at 7 81 (by kernel_rfl)
            exact guard_on rfl rfl t77 (yes_eqv (o_load1 rfl Proofs.Try.underlying3 rfl t81 (cell_since ey4 hs rfl)) rfl)
          · intro a wa hs hf hd
            have t77 : a.eval (.tmp 77) = _ := hd.at 3 77 (by kernel_rfl)
            have t5 := hf.off 5 (by kernel_rfl) rfl
            exact guard_on rfl rfl t77 (yes_eqv (o_move rfl t5) rfl)
          · intro a wa hs hf hd
            have t77 : a.eval (.tmp 77) = _ := hd.at 3 77 (by kernel_rfl)
            have t82 : a.eval (.tmp 82) = _ := hd.at 8 82 (by kernel_rfl)
            have t83 : a.eval (.tmp 83) = _ := hd.at 9 83 (by kernel_rfl)
            exact guard_on rfl rfl t77 (yes_eqv (o_neq rfl t82 t83 (by simp)) rfl)
          · intro a wa hs hf hd
            have t77 : a.eval (.tmp 77) = _ := hd.at 3 77 (by kernel_rfl)
            have t84 : a.eval (.tmp 84) = _ := hd.at 10 84 (by kernel_rfl)
            exact plain_ rfl (yes_eqv (o_pick_t rfl t77 t84) rfl)
          · intro a wa hs hf hd
            have t85 : a.eval (.tmp 85) = _ := hd.at 11 85 (by kernel_rfl)
            exact plain_ rfl (yes_eqv (o_move rfl t85) rfl)
          · intro a wa hs hf hd
            have t86 : a.eval (.tmp 86) = _ := hd.at 12 86 (by kernel_rfl)
            have t10 := hf.off 10 (by kernel_rfl) rfl
            exact guard_on rfl rfl t86 (yes_eqv (o_move rfl t10) rfl)
          · intro a wa hs hf hd
            have t86 : a.eval (.tmp 86) = _ := hd.at 12 86 (by kernel_rfl)
            have t4 := hf.off 4 (by kernel_rfl) rfl
            exact guard_on rfl rfl t86 (yes_eqv (o_move rfl t4) rfl)
          · intro a wa hs hf hd
            have t86 : a.eval (.tmp 86) = _ := hd.at 12 86 (by kernel_rfl)
            have t87 : a.eval (.tmp 87) = _ := hd.at 13 87 (by kernel_rfl)
            have t88 : a.eval (.tmp 88) = _ := hd.at 14 88 (by kernel_rfl)
            exact guard_on rfl rfl t86 (yes_eqv (o_neq rfl t87 t88 (by simp)) rfl)
          · intro a wa hs hf hd
            have t86 : a.eval (.tmp 86) = _ := hd.at 12 86 (by kernel_rfl)
            have t89 : a.eval (.tmp 89) = _ := hd.at 15 89 (by kernel_rfl)
            exact guard_on rfl rfl t86 (yes_eqv (o_move rfl t89) rfl)
          · intro a wa hs hf hd
            have t90 : a.eval (.tmp 90) = _ := hd.at 16 90 (by kernel_rfl)
            exact guard_off rfl rfl t90 trivial
          · intro a wa hs hf hd
            have t90 : a.eval (.tmp 90) = _ := hd.at 16 90 (by kernel_rfl)
            exact guard_off rfl rfl t90 trivial
          · intro a wa hs hf hd
            have t90 : a.eval (.tmp 90) = _ := hd.at 16 90 (by kernel_rfl)
            exact guard_off rfl rfl t90 trivial
          · intro a wa hs hf hd
            have t90 : a.eval (.tmp 90) = _ := hd.at 16 90 (by kernel_rfl)
            exact guard_off rfl rfl t90 trivial
          · intro a wa hs hf hd
            have t90 : a.eval (.tmp 90) = _ := hd.at 16 90 (by kernel_rfl)
            exact guard_off rfl rfl t90 trivial
          · intro a wa hs hf hd
            have t90 : a.eval (.tmp 90) = _ := hd.at 16 90 (by kernel_rfl)
            exact guard_off rfl rfl t90 trivial
          · intro a wa hs hf hd
            have t90 : a.eval (.tmp 90) = _ := hd.at 16 90 (by kernel_rfl)
            exact guard_off rfl rfl t90 trivial
          · intro a wa hs hf hd
            have t90 : a.eval (.tmp 90) = _ := hd.at 16 90 (by kernel_rfl)
            exact guard_off rfl rfl t90 trivial
          · intro a wa hs hf hd
            have t90 : a.eval (.tmp 90) = _ := hd.at 16 90 (by kernel_rfl)
            exact guard_off rfl rfl t90 trivial
          · intro a wa hs hf hd
            have t90 : a.eval (.tmp 90) = _ := hd.at 16 90 (by kernel_rfl)
            exact guard_off rfl rfl t90 trivial
          · intro a wa hs hf hd
            have t90 : a.eval (.tmp 90) = _ := hd.at 16 90 (by kernel_rfl)
            exact guard_off rfl rfl t90 trivial
          · intro a wa hs hf hd
            have t86 : a.eval (.tmp 86) = _ := hd.at 12 86 (by kernel_rfl)
            have t90 : a.eval (.tmp 90) = _ := hd.at 16 90 (by kernel_rfl)
            exact guard_on rfl rfl t86 (yes_eqv (o_pick_f rfl t90 rfl) rfl)
          · intro a wa hs hf hd
            have t86 : a.eval (.tmp 86) = _ := hd.at 12 86 (by kernel_rfl)
            have t102 : a.eval (.tmp 102) = _ := hd.at 28 102 (by kernel_rfl)
            exact plain_ rfl (yes_eqv (o_pick_f rfl t86 t102) rfl)
        case hG => exact ⟨stable_eqv _, stable_eqv _, stable_eqv _, stable_eqv _, stable_eqv _, stable_eqv _, stable_eqv _, stable_eqv _, stable_eqv _, stable_eqv _, stable_eqv _, stable_eqv _, stable_eqv _, stable_eqv _, stable_eqv _, stable_eqv _, stable_eqv _, stable_any, stable_any, stable_any, stable_any, stable_any, stable_any, stable_any, stable_any, stable_any, stable_any, stable_any, stable_eqv _, stable_eqv _, trivial⟩
        case hc => kernel_rfl
        case hfin =>
          intro v2 hs2
          rintro _ rfl _ rfl _ rfl _ rfl _ rfl _ rfl _ rfl _ rfl _ rfl _ rfl _ rfl _ rfl _ rfl _ rfl _ rfl _ rfl _ rfl _ _ _ _ _ _ _ _ _ _ _ _ _ _ _ _ _ _ _ _ _ _ _ rfl _ rfl
          rintro _ rfl
          simp only [Act.put, List.setIfInBounds_toArray, List.set_cons_zero, List.set_cons_succ]
          go_wp2
          go_roundw
          case rel => exact ⟨p + 1, by omega, by simp, hb5.trans (Since.to_ext hs2)⟩
          case measure => simp [intOf]; omega
      · rw [if_neg hkp] at ey4
        go_wp2_with (fail)
        apply region_lit2 (T := []) (L := []) (X := []) (G := [eqv _, eqv _, eqv (.bool false), eqv _, anyG, anyG, anyG, anyG, anyG, anyG, anyG, eqv _, eqv _, eqv _, eqv _, eqv (.bool true), eqv _, eqv _, eqv _, eqv _, eqv _, eqv _, eqv _, eqv _, eqv _, eqv _, eqv _, eqv (.bool false), eqv _, eqv _])
        case hm => kernel_rfl
        case hop =>
          refine ⟨?_, ?_, ?_, ?_, ?_, ?_, ?_, ?_, ?_, ?_, ?_, ?_, ?_, ?_, ?_, ?_, ?_, ?_, ?_, ?_, ?_, ?_, ?_, ?_, ?_, ?_, ?_, ?_, ?_, ?_, trivial⟩
          · intro a wa hs hf hd
            have t10 := hf.off 10 (by kernel_rfl) rfl
            exact plain_ rfl (yes_eqv (o_move rfl t10) rfl)
          · intro a wa hs hf hd
            have t4 := hf.off 4 (by kernel_rfl) rfl
            exact plain_ rfl (yes_eqv (o_move rfl t4) rfl)
          · intro a wa hs hf hd
            have t74 : a.eval (.tmp 74) = _ := hd.at 0 74 (by kernel_rfl)
            have t75 : a.eval (.tmp 75) = _ := hd.at 1 75 (by kernel_rfl)
            exact plain_ rfl (yes_eqv (o_eql rfl t74 t75 (by simp; omega)) rfl)
          · intro a wa hs hf hd
            have t76 : a.eval (.tmp 76) = _ := hd.at 2 76 (by kernel_rfl)
            exact plain_ rfl (yes_eqv (o_move rfl t76) rfl)
          · intro a wa hs hf hd
            have t77 : a.eval (.tmp 77) = _ := hd.at 3 77 (by kernel_rfl)
            exact guard_off rfl rfl t77 trivial
          · intro a wa hs hf hd
            have t77 : a.eval (.tmp 77) = _ := hd.at 3 77 (by kernel_rfl)
            exact guard_off rfl rfl t77 trivial
          · intro a wa hs hf hd
            have t77 : a.eval (.tmp 77) = _ := hd.at 3 77 (by kernel_rfl)
            exact guard_off rfl rfl t77 trivial
          · intro a wa hs hf hd
            have t77 : a.eval (.tmp 77) = _ := hd.at 3 77 (by kernel_rfl)
            exact guard_off rfl rfl t77 trivial
          · intro a wa hs hf hd
            have t77 : a.eval (.tmp 77) = _ := hd.at 3 77 (by kernel_rfl)
            exact guard_off rfl rfl t77 trivial
          · intro a wa hs hf hd
            have t77 : a.eval (.tmp 77) = _ := hd.at 3 77 (by kernel_rfl)
            exact guard_off rfl rfl t77 trivial
          · intro a wa hs hf hd
            have t77 : a.eval (.tmp 77) = _ := hd.at 3 77 (by kernel_rfl)
            exact guard_off rfl rfl t77 trivial
          · intro a wa hs hf hd
            have t77 : a.eval (.tmp 77) = _ := hd.at 3 77 (by kernel_rfl)
            exact plain_ rfl (yes_eqv (o_pick_f rfl t77 rfl) rfl)
          · intro a wa hs hf hd
            have t85 : a.eval (.tmp 85) = _ := hd.at 11 85 (by kernel_rfl)
            exact plain_ rfl (yes_eqv (o_move rfl t85) rfl)
          · intro a wa hs hf hd
            have t86 : a.eval (.tmp 86) = _ := hd.at 12 86 (by kernel_rfl)
            have t10 := hf.off 10 (by kernel_rfl) rfl
            exact guard_on rfl rfl t86 (yes_eqv (o_move rfl t10) rfl)
          · intro a wa hs hf hd
            have t86 : a.eval (.tmp 86) = _ := hd.at 12 86 (by kernel_rfl)
            have t4 := hf.off 4 (by kernel_rfl) rfl
            exact guard_on rfl rfl t86 (yes_eqv (o_move rfl t4) rfl)
          · intro a wa hs hf hd
            have t86 : a.eval (.tmp 86) = _ := hd.at 12 86 (by kernel_rfl)
            have t87 : a.eval (.tmp 87) = _ := hd.at 13 87 (by kernel_rfl)
            have t88 : a.eval (.tmp 88) = _ := hd.at 14 88 (by kernel_rfl)
            exact guard_on rfl rfl t86 (yes_eqv (o_neq rfl t87 t88 (by simp; omega)) rfl)
          · intro a wa hs hf hd
            have t86 : a.eval (.tmp 86) = _ := hd.at 12 86 (by kernel_rfl)
            have t89 : a.eval (.tmp 89) = _ := hd.at 15 89 (by kernel_rfl)
            exact guard_on rfl rfl t86 (yes_eqv (o_move rfl t89) rfl)
          · intro a wa hs hf hd
            have t90 : a.eval (.tmp 90) = _ := hd.at 16 90 (by kernel_rfl)
            have t8 := hf.off 8 (by kernel_rfl) rfl
            exact guard_on rfl rfl t90 (yes_eqv (o_fieldAddr rfl Proofs.Try.underlying50 rfl rfl (by kernel_rfl) t8) rfl)
          · intro a wa hs hf hd
            have t90 : a.eval (.tmp 90) = _ := hd.at 16 90 (by kernel_rfl)
            have t91 : a.eval (.tmp 91) = _ := hd.at 17 91 (by kernel_rfl)
            exact guard_on rfl rfl t90 (yes_eqv (o_load1 rfl Proofs.Try.underlying48 rfl t91 ((Bs_5.since hs rfl).cell rfl)) rfl)
          · intro a wa hs hf hd
            have t90 : a.eval (.tmp 90) = _ := hd.at 16 90 (by kernel_rfl)
            have t10 := hf.off 10 (by kernel_rfl) rfl
            exact guard_on rfl rfl t90 (yes_eqv (o_move rfl t10) rfl)
          · intro a wa hs hf hd
            have t90 : a.eval (.tmp 90) = _ := hd.at 16 90 (by kernel_rfl)
            have t92 : a.eval (.tmp 92) = _ := hd.at 18 92 (by kernel_rfl)
            have t93 : a.eval (.tmp 93) = _ := hd.at 19 93 (by kernel_rfl)
            exact guard_on rfl rfl t90 (yes_eqv (o_indexAddr (sz := 1) rfl Proofs.Try.underlying48 (by kernel_rfl) t92 t93 (by omega) (by omega)) rfl)
          · intro a wa hs hf hd
            have t90 : a.eval (.tmp 90) = _ := hd.at 16 90 (by kernel_rfl)
            have t94 : a.eval (.tmp 94) = _ := hd.at 20 94 (by kernel_rfl)
            exact guard_on rfl rfl t90 (yes_eqv (o_load1 rfl Proofs.Try.underlying3 rfl t94 (cell_since ey4 hs rfl)) rfl)
          · intro a wa hs hf hd
            have t90 : a.eval (.tmp 90) = _ := hd.at 16 90 (by kernel_rfl)
            have t3 := hf.off 3 (by kernel_rfl) rfl
            exact guard_on rfl rfl t90 (yes_eqv (o_fieldAddr rfl Proofs.Try.underlying50 rfl rfl (by kernel_rfl) t3) rfl)
          · intro a wa hs hf hd
            have t90 : a.eval (.tmp 90) = _ := hd.at 16 90 (by kernel_rfl)
            have t96 : a.eval (.tmp 96) = _ := hd.at 22 96 (by kernel_rfl)
            exact guard_on rfl rfl t90 (yes_eqv (o_load1 rfl Proofs.Try.underlying48 rfl t96 ((Bm_5.since hs rfl).cell rfl)) rfl)
          · intro a wa hs hf hd
            have t90 : a.eval (.tmp 90) = _ := hd.at 16 90 (by kernel_rfl)
            have t10 := hf.off 10 (by kernel_rfl) rfl
            exact guard_on rfl rfl t90 (yes_eqv (o_move rfl t10) rfl)
          · intro a wa hs hf hd
            have t90 : a.eval (.tmp 90) = _ := hd.at 16 90 (by kernel_rfl)
            have t97 : a.eval (.tmp 97) = _ := hd.at 23 97 (by kernel_rfl)
            have t98 : a.eval (.tmp 98) = _ := hd.at 24 98 (by kernel_rfl)
            exact guard_on rfl rfl t90 (yes_eqv (o_indexAddr (sz := 1) rfl Proofs.Try.underlying48 (by kernel_rfl) t97 t98 (by omega) (by omega)) rfl)
          · intro a wa hs hf hd
            have t90 : a.eval (.tmp 90) = _ := hd.at 16 90 (by kernel_rfl)
            have t99 : a.eval (.tmp 99) = _ := hd.at 25 99 (by kernel_rfl)
            exact guard_on rfl rfl t90 (yes_eqv (o_load1 rfl Proofs.Try.underlying3 rfl t99 (cell_since em4 hs rfl)) rfl)
          · intro a wa hs hf hd
            have t90 : a.eval (.tmp 90) = _ := hd.at 16 90 (by kernel_rfl)
            have t95 : a.eval (.tmp 95) = _ := hd.at 21 95 (by kernel_rfl)
            have t100 : a.eval (.tmp 100) = _ := hd.at 26 100 (by kernel_rfl)
            exact guard_on rfl rfl t90 (yes_eqv (o_neq rfl t95 t100 (by simp)) rfl)
          · intro a wa hs hf hd
            have t86 : a.eval (.tmp 86) = _ := hd.at 12 86 (by kernel_rfl)
            have t90 : a.eval (.tmp 90) = _ := hd.at 16 90 (by kernel_rfl)
            have t101 : a.eval (.tmp 101) = _ := hd.at 27 101 (by kernel_rfl)
            exact guard_on rfl rfl t86 (yes_eqv (o_pick_t rfl t90 t101) rfl)
          · intro a wa hs hf hd
            have t86 : a.eval (.tmp 86) = _ := hd.at 12 86 (by kernel_rfl)
            have t102 : a.eval (.tmp 102) = _ := hd.at 28 102 (by kernel_rfl)
            exact plain_ rfl (yes_eqv (o_pick_f rfl t86 t102) rfl)
        case hG => exact ⟨stable_eqv _, stable_eqv _, stable_eqv _, stable_eqv _, stable_any, stable_any, stable_any, stable_any, stable_any, stable_any, stable_any, stable_eqv _, stable_eqv _, stable_eqv _, stable_eqv _, stable_eqv _, stable_eqv _, stable_eqv _, stable_eqv _, stable_eqv _, stable_eqv _, stable_eqv _, stable_eqv _, stable_eqv _, stable_eqv _, stable_eqv _, stable_eqv _, stable_eqv _, stable_eqv _, stable_eqv _, trivial⟩
        case hc => kernel_rfl
        case hfin =>
          intro v2 hs2
          rintro _ rfl _ rfl _ rfl _ rfl _ _ _ _ _ _ _ _ _ _ _ _ _ _ _ rfl _ rfl _ rfl _ rfl _ rfl _ rfl _ rfl _ rfl _ rfl _ rfl _ rfl _ rfl _ rfl _ rfl _ rfl _ rfl _ rfl _ rfl _ rfl
          rintro _ rfl
          simp only [Act.put, List.setIfInBounds_toArray, List.set_cons_zero, List.set_cons_succ]
          go_wp2
          go_roundw
          case rel => exact ⟨k + 1, by omega, by simp, hb5.trans (Since.to_ext hs2)⟩
          case measure => simp [intOf]; omega
    · have hlt1 : ¬ (k : Int) < (m.W.length : Int) := by omega
      go_wp2_with (fail)
      go_at_call 64
      refine (memLoad_ no _ ms (p : Int) _ ((IsMem.mk HsB.out.symm (show IsInts no w3 (.slice (some ⟨bs, os, none⟩) m.W.length s2) ms.W from ws) gs : IsMem no w3 (.agg #[.slice (some ⟨bs, os, none⟩) m.W.length s2, .slice s3 m.G.length s4, .bool true]) ms).ext (by with_reducible (repeat (first | assumption | exact Ext.refl _ | refine Ext.alloc' ?_ _ | refine Ext.store0 ?_ _ _ | refine Ext.storek ?_ _ _ _ | refine Ext.stores0 ?_ ?_ _ _ | refine Ext.storesk ?_ ?_ _ _ _ | refine Ext.drewN' ?_ _ | refine Ext.drew' ?_ | refine Ext.trans ?_ (by assumption))))) sFit no_lt (by omega) (by omega)).calls.mono ?_
      rintro e w6 ⟨_, rfl, hb6, ul, rfl, hul⟩
      rw [Hhml.out] at hul
      rw [Hl1.out]
      obtain ⟨l1, l2, l3, l4, rfl, wl, gl⟩ := hul.opened
      have Bi_6 := Bi_5.ext (show Ext w5 w6 from (by with_reducible (repeat (first | assumption | exact Ext.refl _ | refine Ext.alloc' ?_ _ | refine Ext.store0 ?_ _ _ | refine Ext.storek ?_ _ _ _ | refine Ext.stores0 ?_ ?_ _ _ | refine Ext.storesk ?_ ?_ _ _ _ | refine Ext.drewN' ?_ _ | refine Ext.drew' ?_ | refine Ext.trans ?_ (by assumption)))))
      have Bm_6 := Bm_5.ext (show Ext w5 w6 from (by with_reducible (repeat (first | assumption | exact Ext.refl _ | refine Ext.alloc' ?_ _ | refine Ext.store0 ?_ _ _ | refine Ext.storek ?_ _ _ _ | refine Ext.stores0 ?_ ?_ _ _ | refine Ext.storesk ?_ ?_ _ _ _ | refine Ext.drewN' ?_ _ | refine Ext.drew' ?_ | refine Ext.trans ?_ (by assumption)))))
      have Bs_6 := Bs_5.ext (show Ext w5 w6 from (by with_reducible (repeat (first | assumption | exact Ext.refl _ | refine Ext.alloc' ?_ _ | refine Ext.store0 ?_ _ _ | refine Ext.storek ?_ _ _ _ | refine Ext.stores0 ?_ ?_ _ _ | refine Ext.storesk ?_ ?_ _ _ _ | refine Ext.drewN' ?_ _ | refine Ext.drew' ?_ | refine Ext.trans ?_ (by assumption)))))
      clear Bi_5 ci0 ci1 ci2 ci3 ci4 ci5 di0 di1 di2 di3 di4 di5 Bm_5 cm0 cm1 cm2 dm0 dm1 dm2 Bs_5 cs0 cs1 cs2 ds0 ds1 ds2
      obtain ⟨ci0, ci1, ci2, ci3, ci4, ci5, di0, di1, di2, di3, di4, di5⟩ := cells6 Bi_6
      have zi : w.heap.size < w6.heap.size := Bi_6.lt
      obtain ⟨cm0, cm1, cm2, dm0, dm1, dm2⟩ := cells3 Bm_6
      have zm : w.heap.size + 1 < w6.heap.size := Bm_6.lt
      obtain ⟨cs0, cs1, cs2, ds0, ds1, ds2⟩ := cells3 Bs_6
      have zs : w3.heap.size < w6.heap.size := Bs_6.lt
      go_wp2_with (fail)
      go_at_call 66
      refine (memCas_ no _ m (p : Int) old v _ ((IsMem.mk HB.out hw hg : IsMem no w (.agg #[.slice (some ⟨ba, oa, none⟩) m.W.length cw, .slice ag m.G.length cg, .bool true]) m).ext (by with_reducible (repeat (first | assumption | exact Ext.refl _ | refine Ext.alloc' ?_ _ | refine Ext.store0 ?_ _ _ | refine Ext.storek ?_ _ _ _ | refine Ext.stores0 ?_ ?_ _ _ | refine Ext.storesk ?_ ?_ _ _ _ | refine Ext.drewN' ?_ _ | refine Ext.drew' ?_ | refine Ext.trans ?_ (by assumption))))) hFit no_lt (by omega) (by omega)).calls.mono ?_
      rintro e w7 ⟨_, rfl, hb7, uc, rfl, huc⟩
      rw [Hhmc.out] at huc
      rw [Hc1.out]
      obtain ⟨c1, c2, c3, c4, rfl, wc, gc⟩ := huc.lit HcL.out HcG.out (show mc.bad = mc.bad from rfl)
      have Bi_7 := Bi_6.ext (show Ext w6 w7 from (by with_reducible (repeat (first | assumption | exact Ext.refl _ | refine Ext.alloc' ?_ _ | refine Ext.store0 ?_ _ _ | refine Ext.storek ?_ _ _ _ | refine Ext.stores0 ?_ ?_ _ _ | refine Ext.storesk ?_ ?_ _ _ _ | refine Ext.drewN' ?_ _ | refine Ext.drew' ?_ | refine Ext.trans ?_ (by assumption)))))
      have Bm_7 := Bm_6.ext (show Ext w6 w7 from (by with_reducible (repeat (first | assumption | exact Ext.refl _ | refine Ext.alloc' ?_ _ | refine Ext.store0 ?_ _ _ | refine Ext.storek ?_ _ _ _ | refine Ext.stores0 ?_ ?_ _ _ | refine Ext.storesk ?_ ?_ _ _ _ | refine Ext.drewN' ?_ _ | refine Ext.drew' ?_ | refine Ext.trans ?_ (by assumption)))))
      have Bs_7 := Bs_6.ext (show Ext w6 w7 from (by with_reducible (repeat (first | assumption | exact Ext.refl _ | refine Ext.alloc' ?_ _ | refine Ext.store0 ?_ _ _ | refine Ext.storek ?_ _ _ _ | refine Ext.stores0 ?_ ?_ _ _ | refine Ext.storesk ?_ ?_ _ _ _ | refine Ext.drewN' ?_ _ | refine Ext.drew' ?_ | refine Ext.trans ?_ (by assumption)))))
      clear Bi_6 ci0 ci1 ci2 ci3 ci4 ci5 di0 di1 di2 di3 di4 di5 Bm_6 cm0 cm1 cm2 dm0 dm1 dm2 Bs_6 cs0 cs1 cs2 ds0 ds1 ds2
      have Bl_7 : Box w7 (w6.heap.size) #[.slice l1 ml.W.length l2, .slice l3 ml.G.length l4, .bool ml.bad] 50 := (Box.new _ _ _).ext hb7
      obtain ⟨ci0, ci1, ci2, ci3, ci4, ci5, di0, di1, di2, di3, di4, di5⟩ := cells6 Bi_7
      have zi : w.heap.size < w7.heap.size := Bi_7.lt
      obtain ⟨cm0, cm1, cm2, dm0, dm1, dm2⟩ := cells3 Bm_7
      have zm : w.heap.size + 1 < w7.heap.size := Bm_7.lt
      obtain ⟨cs0, cs1, cs2, ds0, ds1, ds2⟩ := cells3 Bs_7
      have zs : w3.heap.size < w7.heap.size := Bs_7.lt
      obtain ⟨cl0, cl1, cl2, dl0, dl1, dl2⟩ := cells3 Bl_7
      have zl : w6.heap.size < w7.heap.size := Bl_7.lt
      go_wp2_with (fail)
      go_at_call 64
      refine (memLoad_ no _ m (p : Int) _ ((IsMem.mk HB.out hw hg : IsMem no w (.agg #[.slice (some ⟨ba, oa, none⟩) m.W.length cw, .slice ag m.G.length cg, .bool true]) m).ext (by with_reducible (repeat (first | assumption | exact Ext.refl _ | refine Ext.alloc' ?_ _ | refine Ext.store0 ?_ _ _ | refine Ext.storek ?_ _ _ _ | refine Ext.stores0 ?_ ?_ _ _ | refine Ext.storesk ?_ ?_ _ _ _ | refine Ext.drewN' ?_ _ | refine Ext.drew' ?_ | refine Ext.trans ?_ (by assumption))))) hFit no_lt (by omega) (by omega)).calls.mono ?_
      rintro e w8 ⟨_, rfl, hb8, ut, rfl, hut⟩
      rw [Hhmt.out] at hut
      rw [hz1.out]
      obtain ⟨t1, t2, t3, t4, rfl, wt, gt⟩ := hut.opened
      have Bi_8 := Bi_7.ext (show Ext w7 w8 from (by with_reducible (repeat (first | assumption | exact Ext.refl _ | refine Ext.alloc' ?_ _ | refine Ext.store0 ?_ _ _ | refine Ext.storek ?_ _ _ _ | refine Ext.stores0 ?_ ?_ _ _ | refine Ext.storesk ?_ ?_ _ _ _ | refine Ext.drewN' ?_ _ | refine Ext.drew' ?_ | refine Ext.trans ?_ (by assumption)))))
      have Bm_8 := Bm_7.ext (show Ext w7 w8 from (by with_reducible (repeat (first | assumption | exact Ext.refl _ | refine Ext.alloc' ?_ _ | refine Ext.store0 ?_ _ _ | refine Ext.storek ?_ _ _ _ | refine Ext.stores0 ?_ ?_ _ _ | refine Ext.storesk ?_ ?_ _ _ _ | refine Ext.drewN' ?_ _ | refine Ext.drew' ?_ | refine Ext.trans ?_ (by assumption)))))
      have Bs_8 := Bs_7.ext (show Ext w7 w8 from (by with_reducible (repeat (first | assumption | exact Ext.refl _ | refine Ext.alloc' ?_ _ | refine Ext.store0 ?_ _ _ | refine Ext.storek ?_ _ _ _ | refine Ext.stores0 ?_ ?_ _ _ | refine Ext.storesk ?_ ?_ _ _ _ | refine Ext.drewN' ?_ _ | refine Ext.drew' ?_ | refine Ext.trans ?_ (by assumption)))))
      have Bl_8 := Bl_7.ext (show Ext w7 w8 from (by with_reducible (repeat (first | assumption | exact Ext.refl _ | refine Ext.alloc' ?_ _ | refine Ext.store0 ?_ _ _ | refine Ext.storek ?_ _ _ _ | refine Ext.stores0 ?_ ?_ _ _ | refine Ext.storesk ?_ ?_ _ _ _ | refine Ext.drewN' ?_ _ | refine Ext.drew' ?_ | refine Ext.trans ?_ (by assumption)))))
      clear Bi_7 ci0 ci1 ci2 ci3 ci4 ci5 di0 di1 di2 di3 di4 di5 Bm_7 cm0 cm1 cm2 dm0 dm1 dm2 Bs_7 cs0 cs1 cs2 ds0 ds1 ds2 Bl_7 cl0 cl1 cl2 dl0 dl1 dl2
      have Bc_8 : Box w8 (w7.heap.size) #[.slice c1 m.W.length c2, .slice c3 m.G.length c4, .bool mc.bad] 50 := (Box.new _ _ _).ext hb8
      obtain ⟨ci0, ci1, ci2, ci3, ci4, ci5, di0, di1, di2, di3, di4, di5⟩ := cells6 Bi_8
      have zi : w.heap.size < w8.heap.size := Bi_8.lt
      obtain ⟨cm0, cm1, cm2, dm0, dm1, dm2⟩ := cells3 Bm_8
      have zm : w.heap.size + 1 < w8.heap.size := Bm_8.lt
      obtain ⟨cs0, cs1, cs2, ds0, ds1, ds2⟩ := cells3 Bs_8
      have zs : w3.heap.size < w8.heap.size := Bs_8.lt
      obtain ⟨cl0, cl1, cl2, dl0, dl1, dl2⟩ := cells3 Bl_8
      have zl : w6.heap.size < w8.heap.size := Bl_8.lt
      obtain ⟨cc0, cc1, cc2, dc0, dc1, dc2⟩ := cells3 Bc_8
      have zc : w7.heap.size < w8.heap.size := Bc_8.lt
      go_wp2_with (fail)
      go_at_call 54
      refine (refSame_ no _ _ mc ms _ ((IsMem.mk rfl wc gc : IsMem no w7 (.agg #[.slice c1 m.W.length c2, .slice c3 m.G.length c4, .bool mc.bad]) mc).ext (by with_reducible (repeat (first | assumption | exact Ext.refl _ | refine Ext.alloc' ?_ _ | refine Ext.store0 ?_ _ _ | refine Ext.storek ?_ _ _ _ | refine Ext.stores0 ?_ ?_ _ _ | refine Ext.storesk ?_ ?_ _ _ _ | refine Ext.drewN' ?_ _ | refine Ext.drew' ?_ | refine Ext.trans ?_ (by assumption))))) ((IsMem.mk HsB.out.symm (show IsInts no w3 (.slice (some ⟨bs, os, none⟩) m.W.length s2) ms.W from ws) gs : IsMem no w3 (.agg #[.slice (some ⟨bs, os, none⟩) m.W.length s2, .slice s3 m.G.length s4, .bool true]) ms).ext (by with_reducible (repeat (first | assumption | exact Ext.refl _ | refine Ext.alloc' ?_ _ | refine Ext.store0 ?_ _ _ | refine Ext.storek ?_ _ _ _ | refine Ext.stores0 ?_ ?_ _ _ | refine Ext.storesk ?_ ?_ _ _ _ | refine Ext.drewN' ?_ _ | refine Ext.drew' ?_ | refine Ext.trans ?_ (by assumption)))))).calls.mono ?_
      rintro e w9 ⟨_, rfl, hb9, rfl⟩
      rw [HcS.out]
      have Bi_9 := Bi_8.ext (show Ext w8 w9 from (by with_reducible (repeat (first | assumption | exact Ext.refl _ | refine Ext.alloc' ?_ _ | refine Ext.store0 ?_ _ _ | refine Ext.storek ?_ _ _ _ | refine Ext.stores0 ?_ ?_ _ _ | refine Ext.storesk ?_ ?_ _ _ _ | refine Ext.drewN' ?_ _ | refine Ext.drew' ?_ | refine Ext.trans ?_ (by assumption)))))
      have Bm_9 := Bm_8.ext (show Ext w8 w9 from (by with_reducible (repeat (first | assumption | exact Ext.refl _ | refine Ext.alloc' ?_ _ | refine Ext.store0 ?_ _ _ | refine Ext.storek ?_ _ _ _ | refine Ext.stores0 ?_ ?_ _ _ | refine Ext.storesk ?_ ?_ _ _ _ | refine Ext.drewN' ?_ _ | refine Ext.drew' ?_ | refine Ext.trans ?_ (by assumption)))))
      have Bs_9 := Bs_8.ext (show Ext w8 w9 from (by with_reducible (repeat (first | assumption | exact Ext.refl _ | refine Ext.alloc' ?_ _ | refine Ext.store0 ?_ _ _ | refine Ext.storek ?_ _ _ _ | refine Ext.stores0 ?_ ?_ _ _ | refine Ext.storesk ?_ ?_ _ _ _ | refine Ext.drewN' ?_ _ | refine Ext.drew' ?_ | refine Ext.trans ?_ (by assumption)))))
      have Bl_9 := Bl_8.ext (show Ext w8 w9 from (by with_reducible (repeat (first | assumption | exact Ext.refl _ | refine Ext.alloc' ?_ _ | refine Ext.store0 ?_ _ _ | refine Ext.storek ?_ _ _ _ | refine Ext.stores0 ?_ ?_ _ _ | refine Ext.storesk ?_ ?_ _ _ _ | refine Ext.drewN' ?_ _ | refine Ext.drew' ?_ | refine Ext.trans ?_ (by assumption)))))
      have Bc_9 := Bc_8.ext (show Ext w8 w9 from (by with_reducible (repeat (first | assumption | exact Ext.refl _ | refine Ext.alloc' ?_ _ | refine Ext.store0 ?_ _ _ | refine Ext.storek ?_ _ _ _ | refine Ext.stores0 ?_ ?_ _ _ | refine Ext.storesk ?_ ?_ _ _ _ | refine Ext.drewN' ?_ _ | refine Ext.drew' ?_ | refine Ext.trans ?_ (by assumption)))))
      clear Bi_8 ci0 ci1 ci2 ci3 ci4 ci5 di0 di1 di2 di3 di4 di5 Bm_8 cm0 cm1 cm2 dm0 dm1 dm2 Bs_8 cs0 cs1 cs2 ds0 ds1 ds2 Bl_8 cl0 cl1 cl2 dl0 dl1 dl2 Bc_8 cc0 cc1 cc2 dc0 dc1 dc2
      have Bt_9 : Box w9 (w8.heap.size) #[.slice t1 mt.W.length t2, .slice t3 mt.G.length t4, .bool mt.bad] 50 := (Box.new _ _ _).ext hb9
      obtain ⟨ci0, ci1, ci2, ci3, ci4, ci5, di0, di1, di2, di3, di4, di5⟩ := cells6 Bi_9
      have zi : w.heap.size < w9.heap.size := Bi_9.lt
      obtain ⟨cm0, cm1, cm2, dm0, dm1, dm2⟩ := cells3 Bm_9
      have zm : w.heap.size + 1 < w9.heap.size := Bm_9.lt
      obtain ⟨cs0, cs1, cs2, ds0, ds1, ds2⟩ := cells3 Bs_9
      have zs : w3.heap.size < w9.heap.size := Bs_9.lt
      obtain ⟨cl0, cl1, cl2, dl0, dl1, dl2⟩ := cells3 Bl_9
      have zl : w6.heap.size < w9.heap.size := Bl_9.lt
      obtain ⟨cc0, cc1, cc2, dc0, dc1, dc2⟩ := cells3 Bc_9
      have zc : w7.heap.size < w9.heap.size := Bc_9.lt
      obtain ⟨ct0, ct1, ct2, dt0, dt1, dt2⟩ := cells3 Bt_9
      have zt : w8.heap.size < w9.heap.size := Bt_9.lt
      go_wp2
      go_ret
      exact ⟨_, rfl, (by with_reducible (repeat (first | assumption | exact Ext.refl _ | refine Ext.alloc' ?_ _ | refine Ext.store0 ?_ _ _ | refine Ext.storek ?_ _ _ _ | refine Ext.stores0 ?_ ?_ _ _ | refine Ext.storesk ?_ ?_ _ _ _ | refine Ext.drewN' ?_ _ | refine Ext.drew' ?_ | refine Ext.trans ?_ (by assumption)))), rfl⟩
set_option maxHeartbeats 4000000 in
set_option maxRecDepth 100000 in
theorem memBack_true_in0 (aw ag : Option Addr) (cw cg : Nat) (m : Arena) (p : Nat) (v old : Int) (w : World) (hw : IsInts no w (.slice aw m.W.length cw) m.W) (hg : IsInts no w (.slice ag m.G.length cg) m.G) (hb : true = m.bad) (hm : mayD m 60 = true) (hq : p < m.W.length) (hc : ¬ loadD m p = old) :
    Gives Proofs.Try.prog 13 #[.agg #[.slice aw m.W.length cw, .slice ag m.G.length cg, .bool true, .int .i64 (p : Int), .int .i64 v, .int .i64 old]] w (eqv (.bool true)) := by
  have km := fun (w' : World) (e : Ext w w') => memMay_ no _ m 60 (by omega) w' ((IsMem.mk hb hw hg : IsMem no w (.agg #[.slice aw m.W.length cw, .slice ag m.G.length cg, .bool true]) m).ext e)
  rw [hm] at km
  have hFit := Fits.of_may hm
  have hl1 := hFit.2.1
  have hl3 := hFit.2.2
  have hlw : 128 ≤ m.W.length := by rw [hFit.1]; omega
  have hlw2 : m.W.length ≤ 1000 := by rw [hFit.1]; omega
  have hO : outside m (p : Int) = false := by simp [outside]; omega
  obtain ⟨_, _, e0, rw_, lw, cwc⟩ := hw.opened
  cases e0
  obtain ⟨ba, oa, rfl, xa, na, ea⟩ := cwc 0 (by omega)
  obtain ⟨ms, hms⟩ : ∃ ms, storeD m (p : Int) v = ms := ⟨_, rfl⟩
  obtain ⟨mc, hmc⟩ : ∃ mc, casD m (p : Int) old v = mc := ⟨_, rfl⟩
  obtain ⟨ml, hml⟩ : ∃ ml, touchD ms (p : Int) = ml := ⟨_, rfl⟩
  obtain ⟨mt, hmt⟩ : ∃ mt, touchD m (p : Int) = mt := ⟨_, rfl⟩
  have sG : ms.G = m.G := by rw [← hms]; rfl
  have sL : ms.W.length = m.W.length := by rw [← hms]; exact (storeD_len _ _ _).1
  have sFit : Fits ms := by rw [← hms]; exact hFit.same (storeD_len _ _ _)
  have cL : mc.W.length = m.W.length := by rw [← hmc]; exact (casD_len _ _ _ _).1
  have cG : mc.G.length = m.G.length := by rw [← hmc]; exact (casD_len _ _ _ _).2
  have sB : ms.bad = true := by rw [← hms, storeD_bad]; unfold badAt; rw [← hb]; rfl
  have sW : ms.W = m.W.set p v := by rw [← hms, storeD_W v hO]; simp
  have l1 : loadD ms p = v := by rw [← hms]; exact load_store hO
  have c1 : casIs m p old = false := by rw [cas_in hO]; simp [hc]
  obtain ⟨z, hz⟩ : ∃ z, loadD m p = z := ⟨_, rfl⟩
  rw [hz] at hc
  have hc2 : (z == old) = false := by simp [hc]
  have cW : mc.W = m.W := by rw [← hmc, casD_no c1]; rfl
  have cG2 : mc.G = m.G := by rw [← hmc, casD_no c1]; rfl
  clear hc
  have hz1 := Lib.hid hz
  clear hz
  have Hhms := Lib.hid hms; have Hhmc := Lib.hid hmc; have Hhml := Lib.hid hml; have Hhmt := Lib.hid hmt; have HsG := Lib.hid sG; have HsL := Lib.hid sL; have HcL := Lib.hid cL; have HcG := Lib.hid cG; have HsB := Lib.hid sB; have HsW := Lib.hid sW; have Hl1 := Lib.hid l1; have Hc1 := Lib.hid c1; have HcW := Lib.hid cW; have HcG2 := Lib.hid cG2
  have HB := Lib.hid hb
  clear hb hms hmc hml hmt sG sL cL cG sB sW l1 c1 cW cG2
  have q0 : (0 : Int) ≤ p := by omega
  have q1 : (p : Int) < (m.W.length : Int) := by omega
  go_enter Proofs.Try.func13, Proofs.Try.ntmps13
  go_wp2_with (fail)
  go_at_call 49
  refine (shown2_ _).calls.mono ?_
  rintro e w1 ⟨_, rfl, hb1, rfl⟩
  have Bi_1 : Box w1 (w.heap.size) #[.slice (some ⟨ba, oa, none⟩) m.W.length cw, .slice ag m.G.length cg, .bool true, .int .i64 (p : Int), .int .i64 v, .int .i64 old] 71 := ((Box.new _ _ _).alloc _).ext hb1
  have Bm_1 : Box w1 (w.heap.size + 1) #[.slice (some ⟨ba, oa, none⟩) m.W.length cw, .slice ag m.G.length cg, .bool true] 50 := (Box.two _ _ _ _ _).ext hb1
  obtain ⟨ci0, ci1, ci2, ci3, ci4, ci5, di0, di1, di2, di3, di4, di5⟩ := cells6 Bi_1
  have zi : w.heap.size < w1.heap.size := Bi_1.lt
  obtain ⟨cm0, cm1, cm2, dm0, dm1, dm2⟩ := cells3 Bm_1
  have zm : w.heap.size + 1 < w1.heap.size := Bm_1.lt
  go_wp2_with (fail)
  go_at_call 63
  refine (km _ (by with_reducible (repeat (first | assumption | exact Ext.refl _ | refine Ext.alloc' ?_ _ | refine Ext.store0 ?_ _ _ | refine Ext.storek ?_ _ _ _ | refine Ext.stores0 ?_ ?_ _ _ | refine Ext.storesk ?_ ?_ _ _ _ | refine Ext.drewN' ?_ _ | refine Ext.drew' ?_ | refine Ext.trans ?_ (by assumption))))).calls.mono ?_
  rintro e w2 ⟨_, rfl, hb2, rfl⟩
  have Bi_2 := Bi_1.ext (show Ext w1 w2 from (by with_reducible (repeat (first | assumption | exact Ext.refl _ | refine Ext.alloc' ?_ _ | refine Ext.store0 ?_ _ _ | refine Ext.storek ?_ _ _ _ | refine Ext.stores0 ?_ ?_ _ _ | refine Ext.storesk ?_ ?_ _ _ _ | refine Ext.drewN' ?_ _ | refine Ext.drew' ?_ | refine Ext.trans ?_ (by assumption)))))
  have Bm_2 := Bm_1.ext (show Ext w1 w2 from (by with_reducible (repeat (first | assumption | exact Ext.refl _ | refine Ext.alloc' ?_ _ | refine Ext.store0 ?_ _ _ | refine Ext.storek ?_ _ _ _ | refine Ext.stores0 ?_ ?_ _ _ | refine Ext.storesk ?_ ?_ _ _ _ | refine Ext.drewN' ?_ _ | refine Ext.drew' ?_ | refine Ext.trans ?_ (by assumption)))))
  clear Bi_1 ci0 ci1 ci2 ci3 ci4 ci5 di0 di1 di2 di3 di4 di5 Bm_1 cm0 cm1 cm2 dm0 dm1 dm2
  obtain ⟨ci0, ci1, ci2, ci3, ci4, ci5, di0, di1, di2, di3, di4, di5⟩ := cells6 Bi_2
  have zi : w.heap.size < w2.heap.size := Bi_2.lt
  obtain ⟨cm0, cm1, cm2, dm0, dm1, dm2⟩ := cells3 Bm_2
  have zm : w.heap.size + 1 < w2.heap.size := Bm_2.lt
  go_wp2_with (fail)
  go_at_call 68
  refine (memStore_ no _ m (p : Int) v _ ((IsMem.mk HB.out hw hg : IsMem no w (.agg #[.slice (some ⟨ba, oa, none⟩) m.W.length cw, .slice ag m.G.length cg, .bool true]) m).ext (by with_reducible (repeat (first | assumption | exact Ext.refl _ | refine Ext.alloc' ?_ _ | refine Ext.store0 ?_ _ _ | refine Ext.storek ?_ _ _ _ | refine Ext.stores0 ?_ ?_ _ _ | refine Ext.storesk ?_ ?_ _ _ _ | refine Ext.drewN' ?_ _ | refine Ext.drew' ?_ | refine Ext.trans ?_ (by assumption))))) hFit no_lt (by omega) (by omega)).calls.mono ?_
  rintro e w3 ⟨_, rfl, hb3, hus⟩
  rw [Hhms.out] at hus
  obtain ⟨s1, s2, s3, s4, rfl, ws, gs⟩ := hus.lit HsL.out (show ms.G.length = m.G.length by rw [HsG.out]) (show ms.bad = true from HsB.out)
  obtain ⟨_, _, e1, r1, ls, csc⟩ := ws.opened
  simp [HsL.out] at e1
  obtain ⟨rfl, rfl⟩ := e1
  obtain ⟨bs, os, rfl, xs, ns, es⟩ := csc 0 (by rw [HsL.out]; omega)
  have Bi_3 := Bi_2.ext (show Ext w2 w3 from (by with_reducible (repeat (first | assumption | exact Ext.refl _ | refine Ext.alloc' ?_ _ | refine Ext.store0 ?_ _ _ | refine Ext.storek ?_ _ _ _ | refine Ext.stores0 ?_ ?_ _ _ | refine Ext.storesk ?_ ?_ _ _ _ | refine Ext.drewN' ?_ _ | refine Ext.drew' ?_ | refine Ext.trans ?_ (by assumption)))))
  have Bm_3 := Bm_2.ext (show Ext w2 w3 from (by with_reducible (repeat (first | assumption | exact Ext.refl _ | refine Ext.alloc' ?_ _ | refine Ext.store0 ?_ _ _ | refine Ext.storek ?_ _ _ _ | refine Ext.stores0 ?_ ?_ _ _ | refine Ext.storesk ?_ ?_ _ _ _ | refine Ext.drewN' ?_ _ | refine Ext.drew' ?_ | refine Ext.trans ?_ (by assumption)))))
  clear Bi_2 ci0 ci1 ci2 ci3 ci4 ci5 di0 di1 di2 di3 di4 di5 Bm_2 cm0 cm1 cm2 dm0 dm1 dm2
  obtain ⟨ci0, ci1, ci2, ci3, ci4, ci5, di0, di1, di2, di3, di4, di5⟩ := cells6 Bi_3
  have zi : w.heap.size < w3.heap.size := Bi_3.lt
  obtain ⟨cm0, cm1, cm2, dm0, dm1, dm2⟩ := cells3 Bm_3
  have zm : w.heap.size + 1 < w3.heap.size := Bm_3.lt
  go_wp2_with (fail)
  go_at_call 72
  refine (refInts_ no _ _ ms.G m.G _ (gs.ext (by with_reducible (repeat (first | assumption | exact Ext.refl _ | refine Ext.alloc' ?_ _ | refine Ext.store0 ?_ _ _ | refine Ext.storek ?_ _ _ _ | refine Ext.stores0 ?_ ?_ _ _ | refine Ext.storesk ?_ ?_ _ _ _ | refine Ext.drewN' ?_ _ | refine Ext.drew' ?_ | refine Ext.trans ?_ (by assumption))))) (hg.ext (by with_reducible (repeat (first | assumption | exact Ext.refl _ | refine Ext.alloc' ?_ _ | refine Ext.store0 ?_ _ _ | refine Ext.storek ?_ _ _ _ | refine Ext.stores0 ?_ ?_ _ _ | refine Ext.storesk ?_ ?_ _ _ _ | refine Ext.drewN' ?_ _ | refine Ext.drew' ?_ | refine Ext.trans ?_ (by assumption)))))).calls.mono ?_
  rintro e w4 ⟨_, rfl, hb4, rfl⟩
  rw [show (ms.G == m.G) = true by rw [HsG.out]; simp]
  have Bi_4 := Bi_3.ext (show Ext w3 w4 from (by with_reducible (repeat (first | assumption | exact Ext.refl _ | refine Ext.alloc' ?_ _ | refine Ext.store0 ?_ _ _ | refine Ext.storek ?_ _ _ _ | refine Ext.stores0 ?_ ?_ _ _ | refine Ext.storesk ?_ ?_ _ _ _ | refine Ext.drewN' ?_ _ | refine Ext.drew' ?_ | refine Ext.trans ?_ (by assumption)))))
  have Bm_4 := Bm_3.ext (show Ext w3 w4 from (by with_reducible (repeat (first | assumption | exact Ext.refl _ | refine Ext.alloc' ?_ _ | refine Ext.store0 ?_ _ _ | refine Ext.storek ?_ _ _ _ | refine Ext.stores0 ?_ ?_ _ _ | refine Ext.storesk ?_ ?_ _ _ _ | refine Ext.drewN' ?_ _ | refine Ext.drew' ?_ | refine Ext.trans ?_ (by assumption)))))
  clear Bi_3 ci0 ci1 ci2 ci3 ci4 ci5 di0 di1 di2 di3 di4 di5 Bm_3 cm0 cm1 cm2 dm0 dm1 dm2
  have Bs_4 : Box w4 (w3.heap.size) #[.slice (some ⟨bs, os, none⟩) m.W.length s2, .slice s3 m.G.length s4, .bool true] 50 := (Box.new _ _ _).ext hb4
  obtain ⟨ci0, ci1, ci2, ci3, ci4, ci5, di0, di1, di2, di3, di4, di5⟩ := cells6 Bi_4
  have zi : w.heap.size < w4.heap.size := Bi_4.lt
  obtain ⟨cm0, cm1, cm2, dm0, dm1, dm2⟩ := cells3 Bm_4
  have zm : w.heap.size + 1 < w4.heap.size := Bm_4.lt
  obtain ⟨cs0, cs1, cs2, ds0, ds1, ds2⟩ := cells3 Bs_4
  have zs : w3.heap.size < w4.heap.size := Bs_4.lt
  have hE34 : Ext w3 w4 := (by with_reducible (repeat (first | assumption | exact Ext.refl _ | refine Ext.alloc' ?_ _ | refine Ext.store0 ?_ _ _ | refine Ext.storek ?_ _ _ _ | refine Ext.stores0 ?_ ?_ _ _ | refine Ext.storesk ?_ ?_ _ _ _ | refine Ext.drewN' ?_ _ | refine Ext.drew' ?_ | refine Ext.trans ?_ (by assumption))))
  have hE4 : Ext w w4 := (by with_reducible (repeat (first | assumption | exact Ext.refl _ | refine Ext.alloc' ?_ _ | refine Ext.store0 ?_ _ _ | refine Ext.storek ?_ _ _ _ | refine Ext.stores0 ?_ ?_ _ _ | refine Ext.storesk ?_ ?_ _ _ _ | refine Ext.drewN' ?_ _ | refine Ext.drew' ?_ | refine Ext.trans ?_ (by assumption))))
  go_wp2
  go_loopw [10] (fun kk wr => ∃ k : Nat, k ≤ m.W.length ∧ kk = .int .i64 k ∧ Ext w4 wr) (fun kk _ => m.W.length - (intOf kk).toNat)
  case atStart => exact ⟨0, Nat.zero_le _, rfl, Ext.refl _⟩
  case round =>
    obtain ⟨k, hk, rfl, hQ0⟩ := hrel
    obtain ⟨w5, rfl, hb5⟩ := Ext.pick hQ0
    clear hQ0
    have Bi_5 := Bi_4.ext (show Ext w4 w5 from (by with_reducible (repeat (first | assumption | exact Ext.refl _ | refine Ext.alloc' ?_ _ | refine Ext.store0 ?_ _ _ | refine Ext.storek ?_ _ _ _ | refine Ext.stores0 ?_ ?_ _ _ | refine Ext.storesk ?_ ?_ _ _ _ | refine Ext.drewN' ?_ _ | refine Ext.drew' ?_ | refine Ext.trans ?_ (by assumption)))))
    have Bm_5 := Bm_4.ext (show Ext w4 w5 from (by with_reducible (repeat (first | assumption | exact Ext.refl _ | refine Ext.alloc' ?_ _ | refine Ext.store0 ?_ _ _ | refine Ext.storek ?_ _ _ _ | refine Ext.stores0 ?_ ?_ _ _ | refine Ext.storesk ?_ ?_ _ _ _ | refine Ext.drewN' ?_ _ | refine Ext.drew' ?_ | refine Ext.trans ?_ (by assumption)))))
    have Bs_5 := Bs_4.ext (show Ext w4 w5 from (by with_reducible (repeat (first | assumption | exact Ext.refl _ | refine Ext.alloc' ?_ _ | refine Ext.store0 ?_ _ _ | refine Ext.storek ?_ _ _ _ | refine Ext.stores0 ?_ ?_ _ _ | refine Ext.storesk ?_ ?_ _ _ _ | refine Ext.drewN' ?_ _ | refine Ext.drew' ?_ | refine Ext.trans ?_ (by assumption)))))
    clear Bi_4 ci0 ci1 ci2 ci3 ci4 ci5 di0 di1 di2 di3 di4 di5 Bm_4 cm0 cm1 cm2 dm0 dm1 dm2 Bs_4 cs0 cs1 cs2 ds0 ds1 ds2
    obtain ⟨ci0, ci1, ci2, ci3, ci4, ci5, di0, di1, di2, di3, di4, di5⟩ := cells6 Bi_5
    have zi : w.heap.size < w5.heap.size := Bi_5.lt
    obtain ⟨cm0, cm1, cm2, dm0, dm1, dm2⟩ := cells3 Bm_5
    have zm : w.heap.size + 1 < w5.heap.size := Bm_5.lt
    obtain ⟨cs0, cs1, cs2, ds0, ds1, ds2⟩ := cells3 Bs_5
    have zs : w3.heap.size < w5.heap.size := Bs_5.lt
    by_cases hlt : k < m.W.length
    · have hlt1 : (k : Int) < (m.W.length : Int) := by omega
      obtain ⟨_, _, e4, _, _, em⟩ := cwc k hlt
      simp at e4
      obtain ⟨rfl, rfl⟩ := e4
      obtain ⟨_, _, e5, _, _, ey⟩ := csc k (by rw [HsL.out]; exact hlt)
      simp at e5
      obtain ⟨rfl, rfl⟩ := e5
      have em4 : w5.cell? ⟨ba, oa + (k : Int).toNat * 1, none⟩ = some (.int .i64 (gi m.W k)) := by simpa using cell_ext em (hE4.trans hb5)
      have ey4 : w5.cell? ⟨bs, os + (k : Int).toNat * 1, none⟩ = some (.int .i64 (gi ms.W k)) := by simpa using cell_ext ey (hE34.trans hb5)
      rw [HsW.out] at ey4
      rw [gi_set _ _ _ _ hq] at ey4
      by_cases hkp : p = k
      · subst hkp
        rw [if_pos rfl] at ey4
        go_wp2_with (fail)
        apply region_lit2 (T := []) (L := []) (X := []) (G := [eqv _, eqv _, eqv (.bool true), eqv _, eqv _, eqv _, eqv _, eqv _, eqv _, eqv _, eqv (.bool false), eqv _, eqv _, eqv _, eqv _, eqv (.bool false), eqv _, anyG, anyG, anyG, anyG, anyG, anyG, anyG, anyG, anyG, anyG, anyG, eqv _, eqv _])
        case hm => kernel_rfl
        case hop =>
          refine ⟨?_, ?_, ?_, ?_, ?_, ?_, ?_, ?_, ?_, ?_, ?_, ?_, ?_, ?_, ?_, ?_, ?_, ?_, ?_, ?_, ?_, ?_, ?_, ?_, ?_, ?_, ?_, ?_, ?_, ?_, trivial⟩
          · intro a wa hs hf hd
            have t10 := hf.off 10 (by kernel_rfl) rfl
            exact plain_ rfl (yes_eqv (o_move rfl t10) rfl)
          · intro a wa hs hf hd
            have t4 := hf.off 4 (by kernel_rfl) rfl
            exact plain_ rfl (yes_eqv (o_move rfl t4) rfl)
          · intro a wa hs hf hd
            have t74 : a.eval (.tmp 74) = _ := hd.at 0 74 (by kernel_rfl)
            have t75 : a.eval (.tmp 75) = _ := hd.at 1 75 (by kernel_rfl)
            exact plain_ rfl (yes_eqv (o_eql rfl t74 t75 (by simp)) rfl)
          · intro a wa hs hf hd
            have t76 : a.eval (.tmp 76) = _ := hd.at 2 76 (by kernel_rfl)
            exact plain_ rfl (yes_eqv (o_move rfl t76) rfl)
          · intro a wa hs hf hd
            have t77 : a.eval (.tmp 77) = _ := hd.at 3 77 (by kernel_rfl)
            have t8 := hf.off 8 (by kernel_rfl) rfl
            exact guard_on rfl rfl t77 (yes_eqv (o_fieldAddr rfl Proofs.Try.underlying50 rfl rfl (by kernel_rfl) t8) rfl)
          · intro a wa hs hf hd
            have t77 : a.eval (.tmp 77) = _ := hd.at 3 77 (by kernel_rfl)
            have t78 : a.eval (.tmp 78) = _ := hd.at 4 78 (by kernel_rfl)
            exact guard_on rfl rfl t77 (yes_eqv (o_load1 rfl Proofs.Try.underlying48 rfl t78 ((Bs_5.since hs rfl).cell rfl)) rfl)
          · intro a wa hs hf hd
            have t77 : a.eval (.tmp 77) = _ := hd.at 3 77 (by kernel_rfl)
            have t10 := hf.off 10 (by kernel_rfl) rfl
            exact guard_on rfl rfl t77 (yes_eqv (o_move rfl t10) rfl)
          · intro a wa hs hf hd
            have t77 : a.eval (.tmp 77) = _ := hd.at 3 77 (by kernel_rfl)
            have t79 : a.eval (.tmp 79) = _ := hd.at 5 79 (by kernel_rfl)
            have t80 : a.eval (.tmp 80) = _ := hd.at 6 80 (by kernel_rfl)
            exact guard_on rfl rfl t77 (yes_eqv (o_indexAddr (sz := 1) rfl Proofs.Try.underlying48 (by kernel_rfl) t79 t80 (by omega) (by omega)) rfl)
          · intro a wa hs hf hd
            have t77 : a.eval (.tmp 77) = _ := hd.at 3 77 (by kernel_rfl)
            have t81 : a.eval (.tmp 81) = _ := hd.at 7 81 (by kernel_rfl)
            exact guard_on rfl rfl t77 (yes_eqv (o_load1 rfl Proofs.Try.underlying3 rfl t81 (cell_since ey4 hs rfl)) rfl)
          · intro a wa hs hf hd
            have t77 : a.eval (.tmp 77) = _ := hd.at 3 77 (by kernel_rfl)
            have t5 := hf.off 5 (by kernel_rfl) rfl
            exact guard_on rfl rfl t77 (yes_eqv (o_move rfl t5) rfl)
          · intro a wa hs hf hd
            have t77 : a.eval (.tmp 77) = _ := hd.at 3 77 (by kernel_rfl)
            have t82 : a.eval (.tmp 82) = _ := hd.at 8 82 (by kernel_rfl)
            have t83 : a.eval (.tmp 83) = _ := hd.at 9 83 (by kernel_rfl)
            exact guard_on rfl rfl t77 (yes_eqv (o_neq rfl t82 t83 (by simp)) rfl)
          · intro a wa hs hf hd
            have t77 : a.eval (.tmp 77) = _ := hd.at 3 77 (by kernel_rfl)
            have t84 : a.eval (.tmp 84) = _ := hd.at 10 84 (by kernel_rfl)
            exact plain_ rfl (yes_eqv (o_pick_t rfl t77 t84) rfl)
          · intro a wa hs hf hd
            have t85 : a.eval (.tmp 85) = _ := hd.at 11 85 (by kernel_rfl)
            exact plain_ rfl (yes_eqv (o_move rfl t85) rfl)
          · intro a wa hs hf hd
            have t86 : a.eval (.tmp 86) = _ := hd.at 12 86 (by kernel_rfl)
            have t10 := hf.off 10 (by kernel_rfl) rfl
            exact guard_on rfl rfl t86 (yes_eqv (o_move rfl t10) rfl)
          · intro a wa hs hf hd
            have t86 : a.eval (.tmp 86) = _ := hd.at 12 86 (by kernel_rfl)
            have t4 := hf.off 4 (by kernel_rfl) rfl
            exact guard_on rfl rfl t86 (yes_eqv (o_move rfl t4) rfl)
          · intro a wa hs hf hd
            have t86 : a.eval (.tmp 86) = _ := hd.at 12 86 (by kernel_rfl)
            have t87 : a.eval (.tmp 87) = _ := hd.at 13 87 (by kernel_rfl)
            have t88 : a.eval (.tmp 88) = _ := hd.at 14 88 (by kernel_rfl)
            exact guard_on rfl rfl t86 (yes_eqv (o_neq rfl t87 t88 (by simp)) rfl)
          · intro a wa hs hf hd
            have t86 : a.eval (.tmp 86) = _ := hd.at 12 86 (by kernel_rfl)
            have t89 : a.eval (.tmp 89) = _ := hd.at 15 89 (by kernel_rfl)
            exact guard_on rfl rfl t86 (yes_eqv (o_move rfl t89) rfl)
          · intro a wa hs hf hd
            have t90 : a.eval (.tmp 90) = _ := hd.at 16 90 (by kernel_rfl)
            exact guard_off rfl rfl t90 trivial
          · intro a wa hs hf hd
            have t90 : a.eval (.tmp 90) = _ := hd.at 16 90 (by kernel_rfl)
            exact guard_off rfl rfl t90 trivial
          · intro a wa hs hf hd
            have t90 : a.eval (.tmp 90) = _ := hd.at 16 90 (by kernel_rfl)
            exact guard_off rfl rfl t90 trivial
          · intro a wa hs hf hd
            have t90 : a.eval (.tmp 90) = _ := hd.at 16 90 (by kernel_rfl)
            exact guard_off rfl rfl t90 trivial
          · intro a wa hs hf hd
            have t90 : a.eval (.tmp 90) = _ := hd.at 16 90 (by kernel_rfl)
            exact guard_off rfl rfl t90 trivial
          · intro a wa hs hf hd
            have t90 : a.eval (.tmp 90) = _ := hd.at 16 90 (by kernel_rfl)
            exact guard_off rfl rfl t90 trivial
          · intro a wa hs hf hd
            have t90 : a.eval (.tmp 90) = _ := hd.at 16 90 (by kernel_rfl)
            exact guard_off rfl rfl t90 trivial
          · intro a wa hs hf hd
            have t90 : a.eval (.tmp 90) = _ := hd.at 16 90 (by kernel_rfl)
            exact guard_off rfl rfl t90 trivial
          · intro a wa hs hf hd
            have t90 : a.eval (.tmp 90) = _ := hd.at 16 90 (by kernel_rfl)
            exact guard_off rfl rfl t90 trivial
          · intro a wa hs hf hd
            have t90 : a.eval (.tmp 90) = _ := hd.at 16 90 (by kernel_rfl)
            exact guard_off rfl rfl t90 trivial
          · intro a wa hs hf hd
            have t90 : a.eval (.tmp 90) = _ := hd.at 16 90 (by kernel_rfl)
            exact guard_off rfl rfl t90 trivial
          · intro a wa hs hf hd
            have t86 : a.eval (.tmp 86) = _ := hd.at 12 86 (by kernel_rfl)
            have t90 : a.eval (.tmp 90) = _ := hd.at 16 90 (by kernel_rfl)
            exact guard_on rfl rfl t86 (yes_eqv (o_pick_f rfl t90 rfl) rfl)
          · intro a wa hs hf hd
            have t86 : a.eval (.tmp 86) = _ := hd.at 12 86 (by kernel_rfl)
            have t102 : a.eval (.tmp 102) = _ := hd.at 28 102 (by kernel_rfl)
            exact plain_ rfl (yes_eqv (o_pick_f rfl t86 t102) rfl)
        case hG => exact ⟨stable_eqv _, stable_eqv _, stable_eqv _, stable_eqv _, stable_eqv _, stable_eqv _, stable_eqv _, stable_eqv _, stable_eqv _, stable_eqv _, stable_eqv _, stable_eqv _, stable_eqv _, stable_eqv _, stable_eqv _, stable_eqv _, stable_eqv _, stable_any, stable_any, stable_any, stable_any, stable_any, stable_any, stable_any, stable_any, stable_any, stable_any, stable_any, stable_eqv _, stable_eqv _, trivial⟩
        case hc => kernel_rfl
        case hfin =>
          intro v2 hs2
          rintro _ rfl _ rfl _ rfl _ rfl _ rfl _ rfl _ rfl _ rfl _ rfl _ rfl _ rfl _ rfl _ rfl _ rfl _ rfl _ rfl _ rfl _ _ _ _ _ _ _ _ _ _ _ _ _ _ _ _ _ _ _ _ _ _ _ rfl _ rfl
          rintro _ rfl
          simp only [Act.put, List.setIfInBounds_toArray, List.set_cons_zero, List.set_cons_succ]
          go_wp2
          go_roundw
          case rel => exact ⟨p + 1, by omega, by simp, hb5.trans (Since.to_ext hs2)⟩
          case measure => simp [intOf]; omega
      · rw [if_neg hkp] at ey4
        go_wp2_with (fail)
        apply region_lit2 (T := []) (L := []) (X := []) (G := [eqv _, eqv _, eqv (.bool false), eqv _, anyG, anyG, anyG, anyG, anyG, anyG, anyG, eqv _, eqv _, eqv _, eqv _, eqv (.bool true), eqv _, eqv _, eqv _, eqv _, eqv _, eqv _, eqv _, eqv _, eqv _, eqv _, eqv _, eqv (.bool false), eqv _, eqv _])
        case hm => kernel_rfl
        case hop =>
          refine ⟨?_, ?_, ?_, ?_, ?_, ?_, ?_, ?_, ?_, ?_, ?_, ?_, ?_, ?_, ?_, ?_, ?_, ?_, ?_, ?_, ?_, ?_, ?_, ?_, ?_, ?_, ?_, ?_, ?_, ?_, trivial⟩
          · intro a wa hs hf hd
            have t10 := hf.off 10 (by kernel_rfl) rfl
            exact plain_ rfl (yes_eqv (o_move rfl t10) rfl)
          · intro a wa hs hf hd
            have t4 := hf.off 4 (by kernel_rfl) rfl
            exact plain_ rfl (yes_eqv (o_move rfl t4) rfl)
          · intro a wa hs hf hd
            have t74 : a.eval (.tmp 74) = _ := hd.at 0 74 (by kernel_rfl)
            have t75 : a.eval (.tmp 75) = _ := hd.at 1 75 (by kernel_rfl)
            exact plain_ rfl (yes_eqv (o_eql rfl t74 t75 (by simp; omega)) rfl)
          · intro a wa hs hf hd
            have t76 : a.eval (.tmp 76) = _ := hd.at 2 76 (by kernel_rfl)
            exact plain_ rfl (yes_eqv (o_move rfl t76) rfl)
          · intro a wa hs hf hd
            have t77 : a.eval (.tmp 77) = _ := hd.at 3 77 (by kernel_rfl)
            exact guard_off rfl rfl t77 trivial
          · intro a wa hs hf hd
            have t77 : a.eval (.tmp 77) = _ := hd.at 3 77 (by kernel_rfl)
            exact guard_off rfl rfl t77 trivial
          · intro a wa hs hf hd
            have t77 : a.eval (.tmp 77) = _ := hd.at 3 77 (by kernel_rfl)
            exact guard_off rfl rfl t77 trivial
          · intro a wa hs hf hd
            have t77 : a.eval (.tmp 77) = _ := hd.at 3 77 (by kernel_rfl)
            exact guard_off rfl rfl t77 trivial
          · intro a wa hs hf hd
            have t77 : a.eval (.tmp 77) = _ := hd.at 3 77 (by kernel_rfl)
            exact guard_off rfl rfl t77 trivial
          · intro a wa hs hf hd
            have t77 : a.eval (.tmp 77) = _ := hd.at 3 77 (by kernel_rfl)
            exact guard_off rfl rfl t77 trivial
          · intro a wa hs hf hd
            have t77 : a.eval (.tmp 77) = _ := hd.at 3 77 (by kernel_rfl)
            exact guard_off rfl rfl t77 trivial
          · intro a wa hs hf hd
            have t77 : a.eval (.tmp 77) = _ := hd.at 3 77 (by kernel_rfl)
            exact plain_ rfl (yes_eqv (o_pick_f rfl t77 rfl) rfl)
          · intro a wa hs hf hd
            have t85 : a.eval (.tmp 85) = _ := hd.at 11 85 (by kernel_rfl)
            exact plain_ rfl (yes_eqv (o_move rfl t85) rfl)
          · intro a wa hs hf hd
            have t86 : a.eval (.tmp 86) = _ := hd.at 12 86 (by kernel_rfl)
            have t10 := hf.off 10 (by kernel_rfl) rfl
            exact guard_on rfl rfl t86 (yes_eqv (o_move rfl t10) rfl)
          · intro a wa hs hf hd
            have t86 : a.eval (.tmp 86) = _ := hd.at 12 86 (by kernel_rfl)
            have t4 := hf.off 4 (by kernel_rfl) rfl
            exact guard_on rfl rfl t86 (yes_eqv (o_move rfl t4) rfl)
          · intro a wa hs hf hd
            have t86 : a.eval (.tmp 86) = _ := hd.at 12 86 (by kernel_rfl)
            have t87 : a.eval (.tmp 87) = _ := hd.at 13 87 (by kernel_rfl)
            have t88 : a.eval (.tmp 88) = _ := hd.at 14 88 (by kernel_rfl)
            exact guard_on rfl rfl t86 (yes_eqv (o_neq rfl t87 t88 (by simp; omega)) rfl)
          · intro a wa hs hf hd
            have t86 : a.eval (.tmp 86) = _ := hd.at 12 86 (by kernel_rfl)
            have t89 : a.eval (.tmp 89) = _ := hd.at 15 89 (by kernel_rfl)
            exact guard_on rfl rfl t86 (yes_eqv (o_move rfl t89) rfl)
          · intro a wa hs hf hd
            have t90 : a.eval (.tmp 90) = _ := hd.at 16 90 (by kernel_rfl)
            have t8 := hf.off 8 (by kernel_rfl) rfl
            exact guard_on rfl rfl t90 (yes_eqv (o_fieldAddr rfl Proofs.Try.underlying50 rfl rfl (by kernel_rfl) t8) rfl)
          · intro a wa hs hf hd
            have t90 : a.eval (.tmp 90) = _ := hd.at 16 90 (by kernel_rfl)
            have t91 : a.eval (.tmp 91) = _ := hd.at 17 91 (by kernel_rfl)
            exact guard_on rfl rfl t90 (yes_eqv (o_load1 rfl Proofs.Try.underlying48 rfl t91 ((Bs_5.since hs rfl).cell rfl)) rfl)
          · intro a wa hs hf hd
            have t90 : a.eval (.tmp 90) = _ := hd.at 16 90 (by kernel_rfl)
            have t10 := hf.off 10 (by kernel_rfl) rfl
            exact guard_on rfl rfl t90 (yes_eqv (o_move rfl t10) rfl)
          · intro a wa hs hf hd
            have t90 : a.eval (.tmp 90) = _ := hd.at 16 90 (by kernel_rfl)
            have t92 : a.eval (.tmp 92) = _ := hd.at 18 92 (by kernel_rfl)
            have t93 : a.eval (.tmp 93) = _ := hd.at 19 93 (by kernel_rfl)
            exact guard_on rfl rfl t90 (yes_eqv (o_indexAddr (sz := 1) rfl Proofs.Try.underlying48 (by kernel_rfl) t92 t93 (by omega) (by omega)) rfl)
          · intro a wa hs hf hd
            have t90 : a.eval (.tmp 90) = _ := hd.at 16 90 (by kernel_rfl)
            have t94 : a.eval (.tmp 94) = _ := hd.at 20 94 (by kernel_rfl)
            exact guard_on rfl rfl t90 (yes_eqv (o_load1 rfl Proofs.Try.underlying3 rfl t94 (cell_since ey4 hs rfl)) rfl)
          · intro a wa hs hf hd
            have t90 : a.eval (.tmp 90) = _ := hd.at 16 90 (by kernel_rfl)
            have t3 := hf.off 3 (by kernel_rfl) rfl
            exact guard_on rfl rfl t90 (yes_eqv (o_fieldAddr rfl Proofs.Try.underlying50 rfl rfl (by kernel_rfl) t3) rfl)
          · intro a wa hs hf hd
            have t90 : a.eval (.tmp 90) = _ := hd.at 16 90 (by kernel_rfl)
            have t96 : a.eval (.tmp 96) = _ := hd.at 22 96 (by kernel_rfl)
            exact guard_on rfl rfl t90 (yes_eqv (o_load1 rfl Proofs.Try.underlying48 rfl t96 ((Bm_5.since hs rfl).cell rfl)) rfl)
          · intro a wa hs hf hd
            have t90 : a.eval (.tmp 90) = _ := hd.at 16 90 (by kernel_rfl)
            have t10 := hf.off 10 (by kernel_rfl) rfl
            exact guard_on rfl rfl t90 (yes_eqv (o_move rfl t10) rfl)
          · intro a wa hs hf hd
            have t90 : a.eval (.tmp 90) = _ := hd.at 16 90 (by kernel_rfl)
            have t97 : a.eval (.tmp 97) = _ := hd.at 23 97 (by kernel_rfl)
            have t98 : a.eval (.tmp 98) = _ := hd.at 24 98 (by kernel_rfl)
            exact guard_on rfl rfl t90 (yes_eqv (o_indexAddr (sz := 1) rfl Proofs.Try.underlying48 (by kernel_rfl) t97 t98 (by omega) (by omega)) rfl)
          · intro a wa hs hf hd
            have t90 : a.eval (.tmp 90) = _ := hd.at 16 90 (by kernel_rfl)
            have t99 : a.eval (.tmp 99) = _ := hd.at 25 99 (by kernel_rfl)
            exact guard_on rfl rfl t90 (yes_eqv (o_load1 rfl Proofs.Try.underlying3 rfl t99 (cell_since em4 hs rfl)) rfl)
          · intro a wa hs hf hd
            have t90 : a.eval (.tmp 90) = _ := hd.at 16 90 (by kernel_rfl)
            have t95 : a.eval (.tmp 95) = _ := hd.at 21 95 (by kernel_rfl)
            have t100 : a.eval (.tmp 100) = _ := hd.at 26 100 (by kernel_rfl)
            exact guard_on rfl rfl t90 (yes_eqv (o_neq rfl t95 t100 (by simp)) rfl)
          · intro a wa hs hf hd
            have t86 : a.eval (.tmp 86) = _ := hd.at 12 86 (by kernel_rfl)
            have t90 : a.eval (.tmp 90) = _ := hd.at 16 90 (by kernel_rfl)
            have t101 : a.eval (.tmp 101) = _ := hd.at 27 101 (by kernel_rfl)
            exact guard_on rfl rfl t86 (yes_eqv (o_pick_t rfl t90 t101) rfl)
          · intro a wa hs hf hd
            have t86 : a.eval (.tmp 86) = _ := hd.at 12 86 (by kernel_rfl)
            have t102 : a.eval (.tmp 102) = _ := hd.at 28 102 (by kernel_rfl)
            exact plain_ rfl (yes_eqv (o_pick_f rfl t86 t102) rfl)
        case hG => exact ⟨stable_eqv _, stable_eqv _, stable_eqv _, stable_eqv _, stable_any, stable_any, stable_any, stable_any, stable_any, stable_any, stable_any, stable_eqv _, stable_eqv _, stable_eqv _, stable_eqv _, stable_eqv _, stable_eqv _, stable_eqv _, stable_eqv _, stable_eqv _, stable_eqv _, stable_eqv _, stable_eqv _, stable_eqv _, stable_eqv _, stable_eqv _, stable_eqv _, stable_eqv _, stable_eqv _, stable_eqv _, trivial⟩
        case hc => kernel_rfl
        case hfin =>
          intro v2 hs2
          rintro _ rfl _ rfl _ rfl _ rfl _ _ _ _ _ _ _ _ _ _ _ _ _ _ _ rfl _ rfl _ rfl _ rfl _ rfl _ rfl _ rfl _ rfl _ rfl _ rfl _ rfl _ rfl _ rfl _ rfl _ rfl _ rfl _ rfl _ rfl _ rfl
          rintro _ rfl
          simp only [Act.put, List.setIfInBounds_toArray, List.set_cons_zero, List.set_cons_succ]
          go_wp2
          go_roundw
          case rel => exact ⟨k + 1, by omega, by simp, hb5.trans (Since.to_ext hs2)⟩
          case measure => simp [intOf]; omega
    · have hlt1 : ¬ (k : Int) < (m.W.length : Int) := by omega
      go_wp2_with (fail)
      go_at_call 64
      refine (memLoad_ no _ ms (p : Int) _ ((IsMem.mk HsB.out.symm (show IsInts no w3 (.slice (some ⟨bs, os, none⟩) m.W.length s2) ms.W from ws) gs : IsMem no w3 (.agg #[.slice (some ⟨bs, os, none⟩) m.W.length s2, .slice s3 m.G.length s4, .bool true]) ms).ext (by with_reducible (repeat (first | assumption | exact Ext.refl _ | refine Ext.alloc' ?_ _ | refine Ext.store0 ?_ _ _ | refine Ext.storek ?_ _ _ _ | refine Ext.stores0 ?_ ?_ _ _ | refine Ext.storesk ?_ ?_ _ _ _ | refine Ext.drewN' ?_ _ | refine Ext.drew' ?_ | refine Ext.trans ?_ (by assumption))))) sFit no_lt (by omega) (by omega)).calls.mono ?_
      rintro e w6 ⟨_, rfl, hb6, ul, rfl, hul⟩
      rw [Hhml.out] at hul
      rw [Hl1.out]
      obtain ⟨l1, l2, l3, l4, rfl, wl, gl⟩ := hul.opened
      have Bi_6 := Bi_5.ext (show Ext w5 w6 from (by with_reducible (repeat (first | assumption | exact Ext.refl _ | refine Ext.alloc' ?_ _ | refine Ext.store0 ?_ _ _ | refine Ext.storek ?_ _ _ _ | refine Ext.stores0 ?_ ?_ _ _ | refine Ext.storesk ?_ ?_ _ _ _ | refine Ext.drewN' ?_ _ | refine Ext.drew' ?_ | refine Ext.trans ?_ (by assumption)))))
      have Bm_6 := Bm_5.ext (show Ext w5 w6 from (by with_reducible (repeat (first | assumption | exact Ext.refl _ | refine Ext.alloc' ?_ _ | refine Ext.store0 ?_ _ _ | refine Ext.storek ?_ _ _ _ | refine Ext.stores0 ?_ ?_ _ _ | refine Ext.storesk ?_ ?_ _ _ _ | refine Ext.drewN' ?_ _ | refine Ext.drew' ?_ | refine Ext.trans ?_ (by assumption)))))
      have Bs_6 := Bs_5.ext (show Ext w5 w6 from (by with_reducible (repeat (first | assumption | exact Ext.refl _ | refine Ext.alloc' ?_ _ | refine Ext.store0 ?_ _ _ | refine Ext.storek ?_ _ _ _ | refine Ext.stores0 ?_ ?_ _ _ | refine Ext.storesk ?_ ?_ _ _ _ | refine Ext.drewN' ?_ _ | refine Ext.drew' ?_ | refine Ext.trans ?_ (by assumption)))))
      clear Bi_5 ci0 ci1 ci2 ci3 ci4 ci5 di0 di1 di2 di3 di4 di5 Bm_5 cm0 cm1 cm2 dm0 dm1 dm2 Bs_5 cs0 cs1 cs2 ds0 ds1 ds2
      obtain ⟨ci0, ci1, ci2, ci3, ci4, ci5, di0, di1, di2, di3, di4, di5⟩ := cells6 Bi_6
      have zi : w.heap.size < w6.heap.size := Bi_6.lt
      obtain ⟨cm0, cm1, cm2, dm0, dm1, dm2⟩ := cells3 Bm_6
      have zm : w.heap.size + 1 < w6.heap.size := Bm_6.lt
      obtain ⟨cs0, cs1, cs2, ds0, ds1, ds2⟩ := cells3 Bs_6
      have zs : w3.heap.size < w6.heap.size := Bs_6.lt
      go_wp2_with (fail)
      go_at_call 66
      refine (memCas_ no _ m (p : Int) old v _ ((IsMem.mk HB.out hw hg : IsMem no w (.agg #[.slice (some ⟨ba, oa, none⟩) m.W.length cw, .slice ag m.G.length cg, .bool true]) m).ext (by with_reducible (repeat (first | assumption | exact Ext.refl _ | refine Ext.alloc' ?_ _ | refine Ext.store0 ?_ _ _ | refine Ext.storek ?_ _ _ _ | refine Ext.stores0 ?_ ?_ _ _ | refine Ext.storesk ?_ ?_ _ _ _ | refine Ext.drewN' ?_ _ | refine Ext.drew' ?_ | refine Ext.trans ?_ (by assumption))))) hFit no_lt (by omega) (by omega)).calls.mono ?_
      rintro e w7 ⟨_, rfl, hb7, uc, rfl, huc⟩
      rw [Hhmc.out] at huc
      rw [Hc1.out]
      obtain ⟨c1, c2, c3, c4, rfl, wc, gc⟩ := huc.lit HcL.out HcG.out (show mc.bad = mc.bad from rfl)
      have Bi_7 := Bi_6.ext (show Ext w6 w7 from (by with_reducible (repeat (first | assumption | exact Ext.refl _ | refine Ext.alloc' ?_ _ | refine Ext.store0 ?_ _ _ | refine Ext.storek ?_ _ _ _ | refine Ext.stores0 ?_ ?_ _ _ | refine Ext.storesk ?_ ?_ _ _ _ | refine Ext.drewN' ?_ _ | refine Ext.drew' ?_ | refine Ext.trans ?_ (by assumption)))))
      have Bm_7 := Bm_6.ext (show Ext w6 w7 from (by with_reducible (repeat (first | assumption | exact Ext.refl _ | refine Ext.alloc' ?_ _ | refine Ext.store0 ?_ _ _ | refine Ext.storek ?_ _ _ _ | refine Ext.stores0 ?_ ?_ _ _ | refine Ext.storesk ?_ ?_ _ _ _ | refine Ext.drewN' ?_ _ | refine Ext.drew' ?_ | refine Ext.trans ?_ (by assumption)))))
      have Bs_7 := Bs_6.ext (show Ext w6 w7 from (by with_reducible (repeat (first | assumption | exact Ext.refl _ | refine Ext.alloc' ?_ _ | refine Ext.store0 ?_ _ _ | refine Ext.storek ?_ _ _ _ | refine Ext.stores0 ?_ ?_ _ _ | refine Ext.storesk ?_ ?_ _ _ _ | refine Ext.drewN' ?_ _ | refine Ext.drew' ?_ | refine Ext.trans ?_ (by assumption)))))
      clear Bi_6 ci0 ci1 ci2 ci3 ci4 ci5 di0 di1 di2 di3 di4 di5 Bm_6 cm0 cm1 cm2 dm0 dm1 dm2 Bs_6 cs0 cs1 cs2 ds0 ds1 ds2
      have Bl_7 : Box w7 (w6.heap.size) #[.slice l1 ml.W.length l2, .slice l3 ml.G.length l4, .bool ml.bad] 50 := (Box.new _ _ _).ext hb7
      obtain ⟨ci0, ci1, ci2, ci3, ci4, ci5, di0, di1, di2, di3, di4, di5⟩ := cells6 Bi_7
      have zi : w.heap.size < w7.heap.size := Bi_7.lt
      obtain ⟨cm0, cm1, cm2, dm0, dm1, dm2⟩ := cells3 Bm_7
      have zm : w.heap.size + 1 < w7.heap.size := Bm_7.lt
      obtain ⟨cs0, cs1, cs2, ds0, ds1, ds2⟩ := cells3 Bs_7
      have zs : w3.heap.size < w7.heap.size := Bs_7.lt
      obtain ⟨cl0, cl1, cl2, dl0, dl1, dl2⟩ := cells3 Bl_7
      have zl : w6.heap.size < w7.heap.size := Bl_7.lt
      go_wp2_with (fail)
      go_at_call 64
      refine (memLoad_ no _ m (p : Int) _ ((IsMem.mk HB.out hw hg : IsMem no w (.agg #[.slice (some ⟨ba, oa, none⟩) m.W.length cw, .slice ag m.G.length cg, .bool true]) m).ext (by with_reducible (repeat (first | assumption | exact Ext.refl _ | refine Ext.alloc' ?_ _ | refine Ext.store0 ?_ _ _ | refine Ext.storek ?_ _ _ _ | refine Ext.stores0 ?_ ?_ _ _ | refine Ext.storesk ?_ ?_ _ _ _ | refine Ext.drewN' ?_ _ | refine Ext.drew' ?_ | refine Ext.trans ?_ (by assumption))))) hFit no_lt (by omega) (by omega)).calls.mono ?_
      rintro e w8 ⟨_, rfl, hb8, ut, rfl, hut⟩
      rw [Hhmt.out] at hut
      rw [hz1.out]
      obtain ⟨t1, t2, t3, t4, rfl, wt, gt⟩ := hut.opened
      have Bi_8 := Bi_7.ext (show Ext w7 w8 from (by with_reducible (repeat (first | assumption | exact Ext.refl _ | refine Ext.alloc' ?_ _ | refine Ext.store0 ?_ _ _ | refine Ext.storek ?_ _ _ _ | refine Ext.stores0 ?_ ?_ _ _ | refine Ext.storesk ?_ ?_ _ _ _ | refine Ext.drewN' ?_ _ | refine Ext.drew' ?_ | refine Ext.trans ?_ (by assumption)))))
      have Bm_8 := Bm_7.ext (show Ext w7 w8 from (by with_reducible (repeat (first | assumption | exact Ext.refl _ | refine Ext.alloc' ?_ _ | refine Ext.store0 ?_ _ _ | refine Ext.storek ?_ _ _ _ | refine Ext.stores0 ?_ ?_ _ _ | refine Ext.storesk ?_ ?_ _ _ _ | refine Ext.drewN' ?_ _ | refine Ext.drew' ?_ | refine Ext.trans ?_ (by assumption)))))
      have Bs_8 := Bs_7.ext (show Ext w7 w8 from (by with_reducible (repeat (first | assumption | exact Ext.refl _ | refine Ext.alloc' ?_ _ | refine Ext.store0 ?_ _ _ | refine Ext.storek ?_ _ _ _ | refine Ext.stores0 ?_ ?_ _ _ | refine Ext.storesk ?_ ?_ _ _ _ | refine Ext.drewN' ?_ _ | refine Ext.drew' ?_ | refine Ext.trans ?_ (by assumption)))))
      have Bl_8 := Bl_7.ext (show Ext w7 w8 from (by with_reducible (repeat (first | assumption | exact Ext.refl _ | refine Ext.alloc' ?_ _ | refine Ext.store0 ?_ _ _ | refine Ext.storek ?_ _ _ _ | refine Ext.stores0 ?_ ?_ _ _ | refine Ext.storesk ?_ ?_ _ _ _ | refine Ext.drewN' ?_ _ | refine Ext.drew' ?_ | refine Ext.trans ?_ (by assumption)))))
      clear Bi_7 ci0 ci1 ci2 ci3 ci4 ci5 di0 di1 di2 di3 di4 di5 Bm_7 cm0 cm1 cm2 dm0 dm1 dm2 Bs_7 cs0 cs1 cs2 ds0 ds1 ds2 Bl_7 cl0 cl1 cl2 dl0 dl1 dl2
      have Bc_8 : Box w8 (w7.heap.size) #[.slice c1 m.W.length c2, .slice c3 m.G.length c4, .bool mc.bad] 50 := (Box.new _ _ _).ext hb8
      obtain ⟨ci0, ci1, ci2, ci3, ci4, ci5, di0, di1, di2, di3, di4, di5⟩ := cells6 Bi_8
      have zi : w.heap.size < w8.heap.size := Bi_8.lt
      obtain ⟨cm0, cm1, cm2, dm0, dm1, dm2⟩ := cells3 Bm_8
      have zm : w.heap.size + 1 < w8.heap.size := Bm_8.lt
      obtain ⟨cs0, cs1, cs2, ds0, ds1, ds2⟩ := cells3 Bs_8
      have zs : w3.heap.size < w8.heap.size := Bs_8.lt
      obtain ⟨cl0, cl1, cl2, dl0, dl1, dl2⟩ := cells3 Bl_8
      have zl : w6.heap.size < w8.heap.size := Bl_8.lt
      obtain ⟨cc0, cc1, cc2, dc0, dc1, dc2⟩ := cells3 Bc_8
      have zc : w7.heap.size < w8.heap.size := Bc_8.lt
      go_wp2_with (fail)
      go_at_call 72
      refine (refInts_ no _ _ mc.W m.W _ (wc.ext (by with_reducible (repeat (first | assumption | exact Ext.refl _ | refine Ext.alloc' ?_ _ | refine Ext.store0 ?_ _ _ | refine Ext.storek ?_ _ _ _ | refine Ext.stores0 ?_ ?_ _ _ | refine Ext.storesk ?_ ?_ _ _ _ | refine Ext.drewN' ?_ _ | refine Ext.drew' ?_ | refine Ext.trans ?_ (by assumption))))) (hw.ext (by with_reducible (repeat (first | assumption | exact Ext.refl _ | refine Ext.alloc' ?_ _ | refine Ext.store0 ?_ _ _ | refine Ext.storek ?_ _ _ _ | refine Ext.stores0 ?_ ?_ _ _ | refine Ext.storesk ?_ ?_ _ _ _ | refine Ext.drewN' ?_ _ | refine Ext.drew' ?_ | refine Ext.trans ?_ (by assumption)))))).calls.mono ?_
      rintro e w9 ⟨_, rfl, hb9, rfl⟩
      rw [show (mc.W == m.W) = true by rw [HcW.out]; simp]
      have Bi_9 := Bi_8.ext (show Ext w8 w9 from (by with_reducible (repeat (first | assumption | exact Ext.refl _ | refine Ext.alloc' ?_ _ | refine Ext.store0 ?_ _ _ | refine Ext.storek ?_ _ _ _ | refine Ext.stores0 ?_ ?_ _ _ | refine Ext.storesk ?_ ?_ _ _ _ | refine Ext.drewN' ?_ _ | refine Ext.drew' ?_ | refine Ext.trans ?_ (by assumption)))))
      have Bm_9 := Bm_8.ext (show Ext w8 w9 from (by with_reducible (repeat (first | assumption | exact Ext.refl _ | refine Ext.alloc' ?_ _ | refine Ext.store0 ?_ _ _ | refine Ext.storek ?_ _ _ _ | refine Ext.stores0 ?_ ?_ _ _ | refine Ext.storesk ?_ ?_ _ _ _ | refine Ext.drewN' ?_ _ | refine Ext.drew' ?_ | refine Ext.trans ?_ (by assumption)))))
      have Bs_9 := Bs_8.ext (show Ext w8 w9 from (by with_reducible (repeat (first | assumption | exact Ext.refl _ | refine Ext.alloc' ?_ _ | refine Ext.store0 ?_ _ _ | refine Ext.storek ?_ _ _ _ | refine Ext.stores0 ?_ ?_ _ _ | refine Ext.storesk ?_ ?_ _ _ _ | refine Ext.drewN' ?_ _ | refine Ext.drew' ?_ | refine Ext.trans ?_ (by assumption)))))
      have Bl_9 := Bl_8.ext (show Ext w8 w9 from (by with_reducible (repeat (first | assumption | exact Ext.refl _ | refine Ext.alloc' ?_ _ | refine Ext.store0 ?_ _ _ | refine Ext.storek ?_ _ _ _ | refine Ext.stores0 ?_ ?_ _ _ | refine Ext.storesk ?_ ?_ _ _ _ | refine Ext.drewN' ?_ _ | refine Ext.drew' ?_ | refine Ext.trans ?_ (by assumption)))))
      have Bc_9 := Bc_8.ext (show Ext w8 w9 from (by with_reducible (repeat (first | assumption | exact Ext.refl _ | refine Ext.alloc' ?_ _ | refine Ext.store0 ?_ _ _ | refine Ext.storek ?_ _ _ _ | refine Ext.stores0 ?_ ?_ _ _ | refine Ext.storesk ?_ ?_ _ _ _ | refine Ext.drewN' ?_ _ | refine Ext.drew' ?_ | refine Ext.trans ?_ (by assumption)))))
      clear Bi_8 ci0 ci1 ci2 ci3 ci4 ci5 di0 di1 di2 di3 di4 di5 Bm_8 cm0 cm1 cm2 dm0 dm1 dm2 Bs_8 cs0 cs1 cs2 ds0 ds1 ds2 Bl_8 cl0 cl1 cl2 dl0 dl1 dl2 Bc_8 cc0 cc1 cc2 dc0 dc1 dc2
      have Bt_9 : Box w9 (w8.heap.size) #[.slice t1 mt.W.length t2, .slice t3 mt.G.length t4, .bool mt.bad] 50 := (Box.new _ _ _).ext hb9
      obtain ⟨ci0, ci1, ci2, ci3, ci4, ci5, di0, di1, di2, di3, di4, di5⟩ := cells6 Bi_9
      have zi : w.heap.size < w9.heap.size := Bi_9.lt
      obtain ⟨cm0, cm1, cm2, dm0, dm1, dm2⟩ := cells3 Bm_9
      have zm : w.heap.size + 1 < w9.heap.size := Bm_9.lt
      obtain ⟨cs0, cs1, cs2, ds0, ds1, ds2⟩ := cells3 Bs_9
      have zs : w3.heap.size < w9.heap.size := Bs_9.lt
      obtain ⟨cl0, cl1, cl2, dl0, dl1, dl2⟩ := cells3 Bl_9
      have zl : w6.heap.size < w9.heap.size := Bl_9.lt
      obtain ⟨cc0, cc1, cc2, dc0, dc1, dc2⟩ := cells3 Bc_9
      have zc : w7.heap.size < w9.heap.size := Bc_9.lt
      obtain ⟨ct0, ct1, ct2, dt0, dt1, dt2⟩ := cells3 Bt_9
      have zt : w8.heap.size < w9.heap.size := Bt_9.lt
      go_wp2_with (fail)
      go_at_call 72
      refine (refInts_ no _ _ mc.G m.G _ (gc.ext (by with_reducible (repeat (first | assumption | exact Ext.refl _ | refine Ext.alloc' ?_ _ | refine Ext.store0 ?_ _ _ | refine Ext.storek ?_ _ _ _ | refine Ext.stores0 ?_ ?_ _ _ | refine Ext.storesk ?_ ?_ _ _ _ | refine Ext.drewN' ?_ _ | refine Ext.drew' ?_ | refine Ext.trans ?_ (by assumption))))) (hg.ext (by with_reducible (repeat (first | assumption | exact Ext.refl _ | refine Ext.alloc' ?_ _ | refine Ext.store0 ?_ _ _ | refine Ext.storek ?_ _ _ _ | refine Ext.stores0 ?_ ?_ _ _ | refine Ext.storesk ?_ ?_ _ _ _ | refine Ext.drewN' ?_ _ | refine Ext.drew' ?_ | refine Ext.trans ?_ (by assumption)))))).calls.mono ?_
      rintro e w10 ⟨_, rfl, hb10, rfl⟩
      rw [show (mc.G == m.G) = true by rw [HcG2.out]; simp]
      have Bi_10 := Bi_9.ext (show Ext w9 w10 from (by with_reducible (repeat (first | assumption | exact Ext.refl _ | refine Ext.alloc' ?_ _ | refine Ext.store0 ?_ _ _ | refine Ext.storek ?_ _ _ _ | refine Ext.stores0 ?_ ?_ _ _ | refine Ext.storesk ?_ ?_ _ _ _ | refine Ext.drewN' ?_ _ | refine Ext.drew' ?_ | refine Ext.trans ?_ (by assumption)))))
      have Bm_10 := Bm_9.ext (show Ext w9 w10 from (by with_reducible (repeat (first | assumption | exact Ext.refl _ | refine Ext.alloc' ?_ _ | refine Ext.store0 ?_ _ _ | refine Ext.storek ?_ _ _ _ | refine Ext.stores0 ?_ ?_ _ _ | refine Ext.storesk ?_ ?_ _ _ _ | refine Ext.drewN' ?_ _ | refine Ext.drew' ?_ | refine Ext.trans ?_ (by assumption)))))
      have Bs_10 := Bs_9.ext (show Ext w9 w10 from (by with_reducible (repeat (first | assumption | exact Ext.refl _ | refine Ext.alloc' ?_ _ | refine Ext.store0 ?_ _ _ | refine Ext.storek ?_ _ _ _ | refine Ext.stores0 ?_ ?_ _ _ | refine Ext.storesk ?_ ?_ _ _ _ | refine Ext.drewN' ?_ _ | refine Ext.drew' ?_ | refine Ext.trans ?_ (by assumption)))))
      have Bl_10 := Bl_9.ext (show Ext w9 w10 from (by with_reducible (repeat (first | assumption | exact Ext.refl _ | refine Ext.alloc' ?_ _ | refine Ext.store0 ?_ _ _ | refine Ext.storek ?_ _ _ _ | refine Ext.stores0 ?_ ?_ _ _ | refine Ext.storesk ?_ ?_ _ _ _ | refine Ext.drewN' ?_ _ | refine Ext.drew' ?_ | refine Ext.trans ?_ (by assumption)))))
      have Bc_10 := Bc_9.ext (show Ext w9 w10 from (by with_reducible (repeat (first | assumption | exact Ext.refl _ | refine Ext.alloc' ?_ _ | refine Ext.store0 ?_ _ _ | refine Ext.storek ?_ _ _ _ | refine Ext.stores0 ?_ ?_ _ _ | refine Ext.storesk ?_ ?_ _ _ _ | refine Ext.drewN' ?_ _ | refine Ext.drew' ?_ | refine Ext.trans ?_ (by assumption)))))
      have Bt_10 := Bt_9.ext (show Ext w9 w10 from (by with_reducible (repeat (first | assumption | exact Ext.refl _ | refine Ext.alloc' ?_ _ | refine Ext.store0 ?_ _ _ | refine Ext.storek ?_ _ _ _ | refine Ext.stores0 ?_ ?_ _ _ | refine Ext.storesk ?_ ?_ _ _ _ | refine Ext.drewN' ?_ _ | refine Ext.drew' ?_ | refine Ext.trans ?_ (by assumption)))))
      clear Bi_9 ci0 ci1 ci2 ci3 ci4 ci5 di0 di1 di2 di3 di4 di5 Bm_9 cm0 cm1 cm2 dm0 dm1 dm2 Bs_9 cs0 cs1 cs2 ds0 ds1 ds2 Bl_9 cl0 cl1 cl2 dl0 dl1 dl2 Bc_9 cc0 cc1 cc2 dc0 dc1 dc2 Bt_9 ct0 ct1 ct2 dt0 dt1 dt2
      obtain ⟨ci0, ci1, ci2, ci3, ci4, ci5, di0, di1, di2, di3, di4, di5⟩ := cells6 Bi_10
      have zi : w.heap.size < w10.heap.size := Bi_10.lt
      obtain ⟨cm0, cm1, cm2, dm0, dm1, dm2⟩ := cells3 Bm_10
      have zm : w.heap.size + 1 < w10.heap.size := Bm_10.lt
      obtain ⟨cs0, cs1, cs2, ds0, ds1, ds2⟩ := cells3 Bs_10
      have zs : w3.heap.size < w10.heap.size := Bs_10.lt
      obtain ⟨cl0, cl1, cl2, dl0, dl1, dl2⟩ := cells3 Bl_10
      have zl : w6.heap.size < w10.heap.size := Bl_10.lt
      obtain ⟨cc0, cc1, cc2, dc0, dc1, dc2⟩ := cells3 Bc_10
      have zc : w7.heap.size < w10.heap.size := Bc_10.lt
      obtain ⟨ct0, ct1, ct2, dt0, dt1, dt2⟩ := cells3 Bt_10
      have zt : w8.heap.size < w10.heap.size := Bt_10.lt
      go_wp2
      go_ret
      exact ⟨_, rfl, (by with_reducible (repeat (first | assumption | exact Ext.refl _ | refine Ext.alloc' ?_ _ | refine Ext.store0 ?_ _ _ | refine Ext.storek ?_ _ _ _ | refine Ext.stores0 ?_ ?_ _ _ | refine Ext.storesk ?_ ?_ _ _ _ | refine Ext.drewN' ?_ _ | refine Ext.drew' ?_ | refine Ext.trans ?_ (by assumption)))), rfl⟩

set_option maxHeartbeats 1000000 in
set_option maxRecDepth 100000 in
theorem memBack_ (v0 v1 v2 : Value) (m : Arena) (x v old : Int) (w : World) (h : IsMem no w (.agg #[v0, v1, v2]) m) (hx0 : -9223372036854775808 ≤ x) (hx1 : x ≤ 9223372036854775807) :
    Gives Proofs.Try.prog 13 #[.agg #[v0, v1, v2, .int .i64 x, .int .i64 v, .int .i64 old]] w (eqv (.bool true)) := by
  have km := fun (w' : World) (e : Ext w w') => memMay_ no _ m 60 (by omega) w' (h.ext e)
  obtain ⟨aw, cw, ag, cg, e, hw, hg⟩ := h.opened
  obtain ⟨rfl, rfl, rfl⟩ : v0 = .slice aw m.W.length cw ∧ v1 = .slice ag m.G.length cg ∧ v2 = .bool m.bad := by simpa using e
  clear e
  cases hm : mayD m 60
  · rw [hm] at km
    go_enter Proofs.Try.func13, Proofs.Try.ntmps13
    go_wp2_with (fail)
    go_at_call 49
    refine (shown2_ _).calls.mono ?_
    rintro e w1 ⟨_, rfl, hb1, rfl⟩
    have Bi_1 : Box w1 (w.heap.size) #[.slice aw m.W.length cw, .slice ag m.G.length cg, .bool m.bad, .int .i64 x, .int .i64 v, .int .i64 old] 71 := ((Box.new _ _ _).alloc _).ext hb1
    have Bm_1 : Box w1 (w.heap.size + 1) #[.slice aw m.W.length cw, .slice ag m.G.length cg, .bool m.bad] 50 := (Box.two _ _ _ _ _).ext hb1
    obtain ⟨ci0, ci1, ci2, ci3, ci4, ci5, di0, di1, di2, di3, di4, di5⟩ := cells6 Bi_1
    have zi : w.heap.size < w1.heap.size := Bi_1.lt
    obtain ⟨cm0, cm1, cm2, dm0, dm1, dm2⟩ := cells3 Bm_1
    have zm : w.heap.size + 1 < w1.heap.size := Bm_1.lt
    go_wp2_with (fail)
    go_at_call 63
    refine (km _ (by with_reducible (repeat (first | assumption | exact Ext.refl _ | refine Ext.alloc' ?_ _ | refine Ext.store0 ?_ _ _ | refine Ext.storek ?_ _ _ _ | refine Ext.stores0 ?_ ?_ _ _ | refine Ext.storesk ?_ ?_ _ _ _ | refine Ext.drewN' ?_ _ | refine Ext.drew' ?_ | refine Ext.trans ?_ (by assumption))))).calls.mono ?_
    rintro e w2 ⟨_, rfl, hb2, rfl⟩
    have Bi_2 := Bi_1.ext (show Ext w1 w2 from (by with_reducible (repeat (first | assumption | exact Ext.refl _ | refine Ext.alloc' ?_ _ | refine Ext.store0 ?_ _ _ | refine Ext.storek ?_ _ _ _ | refine Ext.stores0 ?_ ?_ _ _ | refine Ext.storesk ?_ ?_ _ _ _ | refine Ext.drewN' ?_ _ | refine Ext.drew' ?_ | refine Ext.trans ?_ (by assumption)))))
    have Bm_2 := Bm_1.ext (show Ext w1 w2 from (by with_reducible (repeat (first | assumption | exact Ext.refl _ | refine Ext.alloc' ?_ _ | refine Ext.store0 ?_ _ _ | refine Ext.storek ?_ _ _ _ | refine Ext.stores0 ?_ ?_ _ _ | refine Ext.storesk ?_ ?_ _ _ _ | refine Ext.drewN' ?_ _ | refine Ext.drew' ?_ | refine Ext.trans ?_ (by assumption)))))
    clear Bi_1 ci0 ci1 ci2 ci3 ci4 ci5 di0 di1 di2 di3 di4 di5 Bm_1 cm0 cm1 cm2 dm0 dm1 dm2
    obtain ⟨ci0, ci1, ci2, ci3, ci4, ci5, di0, di1, di2, di3, di4, di5⟩ := cells6 Bi_2
    have zi : w.heap.size < w2.heap.size := Bi_2.lt
    obtain ⟨cm0, cm1, cm2, dm0, dm1, dm2⟩ := cells3 Bm_2
    have zm : w.heap.size + 1 < w2.heap.size := Bm_2.lt
    go_wp2
    go_ret
    exact ⟨_, rfl, (by with_reducible (repeat (first | assumption | exact Ext.refl _ | refine Ext.alloc' ?_ _ | refine Ext.store0 ?_ _ _ | refine Ext.storek ?_ _ _ _ | refine Ext.stores0 ?_ ?_ _ _ | refine Ext.storesk ?_ ?_ _ _ _ | refine Ext.drewN' ?_ _ | refine Ext.drew' ?_ | refine Ext.trans ?_ (by assumption)))), rfl⟩
  · by_cases hq : x < 0
    · cases hb : m.bad
      · exact memBack_false_neg aw ag cw cg m x v old w hw hg hb.symm hm hq hx0 hx1
      · exact memBack_true_neg aw ag cw cg m x v old w hw hg hb.symm hm hq hx0 hx1
    · by_cases hq2 : (m.W.length : Int) ≤ x
      · cases hb : m.bad
        · exact memBack_false_big aw ag cw cg m x v old w hw hg hb.symm hm (by omega) hq2 hx0 hx1
        · exact memBack_true_big aw ag cw cg m x v old w hw hg hb.symm hm (by omega) hq2 hx0 hx1
      · obtain ⟨p, rfl⟩ : ∃ p : Nat, x = p := ⟨x.toNat, by omega⟩
        by_cases hc : loadD m p = old <;> cases hb : m.bad
        · exact memBack_false_in1 aw ag cw cg m p v old w hw hg hb.symm hm (by omega) hc
        · exact memBack_true_in1 aw ag cw cg m p v old w hw hg hb.symm hm (by omega) hc
        · exact memBack_false_in0 aw ag cw cg m p v old w hw hg hb.symm hm (by omega) hc
        · exact memBack_true_in0 aw ag cw cg m p v old w hw hg hb.symm hm (by omega) hc
end Go.Proofs.Ytcfbdfgondmkoaa
