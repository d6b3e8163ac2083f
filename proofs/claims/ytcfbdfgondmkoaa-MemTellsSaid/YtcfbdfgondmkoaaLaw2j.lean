/- MemTells: its walk. -/
import Derived.Test.YtcfbdfgondmkoaaLaw2h
namespace Go.Proofs.Ytcfbdfgondmkoaa
open Go Go.RowKit
set_option linter.unusedSimpArgs false
set_option linter.unusedVariables false
set_option linter.unnecessarySimpa false

theorem guard_un {ops : Array Oper} {o : Oper} {a : Act} {A B : Prop} {j : Nat} {b : Bool} {t : Nat} (hg : o.guard = some (j, b)) (hj : (ops[j]?).bind (·.dst) = some t) (hv : a.eval (.tmp t) = undef) (h : B) : if Region.wanted o (yielded ops a.tmps) = true then A else B := by
  rw [if_neg]; exact h
  have hv' : a.tmps.getD t undef = undef := hv
  simp only [Region.wanted, hg, yielded, hj]
  rw [Array.getD_eq_getD_getElem?] at hv'
  cases hh : a.tmps[t]? with
  | none => simp [hh]
  | some x => rw [hh] at hv'; simp at hv'; subst hv'; simp [hh, undef]

set_option maxHeartbeats 4000000 in
set_option maxRecDepth 100000 in
theorem memTells_ (v0 v1 v2 v3 v4 v5 : Value) (ma mb : Arena) (n x c : Int) (w : World) (ha : IsMem no w (.agg #[v0, v1, v2]) ma) (hb : IsMem no w (.agg #[v3, v4, v5]) mb) (hx0 : -9223372036854775808 ≤ x) (hx1 : x ≤ 9223372036854775807) (hc0 : 0 ≤ c) (hc1 : c ≤ 255) :
    Gives Proofs.Try.prog 11 #[.agg #[v0, v1, v2, v3, v4, v5, .int .i64 n, .int .i64 x, .int .u8 c]] w (eqv (.bool true)) := by
  have ka := fun (w' : World) (e : Ext w w') => memSmall_ no _ ma 60 (by omega) w' (ha.ext e)
  have kb := fun (w' : World) (e : Ext w w') => memSmall_ no _ mb 60 (by omega) w' (hb.ext e)
  obtain ⟨aw, cw, ag, cg, e, hw, hg⟩ := ha.opened
  obtain ⟨rfl, rfl, rfl⟩ : v0 = .slice aw ma.W.length cw ∧ v1 = .slice ag ma.G.length cg ∧ v2 = .bool ma.bad := by simpa using e
  clear e
  obtain ⟨bw, dw, bg, dg, e, hv, hh⟩ := hb.opened
  obtain ⟨rfl, rfl, rfl⟩ : v3 = .slice bw mb.W.length dw ∧ v4 = .slice bg mb.G.length dg ∧ v5 = .bool mb.bad := by simpa using e
  clear e
  cases hsa : smallD ma 60 <;> rw [hsa] at ka
  · go_enter Proofs.Try.func11, Proofs.Try.ntmps11
    go_wp2_with (fail)
    go_at_call 49
    refine (shown2_ _).calls.mono ?_
    rintro e w1 ⟨_, rfl, hb1, rfl⟩
    have Bi_1 : Box w1 (w.heap.size) #[.slice aw ma.W.length cw, .slice ag ma.G.length cg, .bool ma.bad, .slice bw mb.W.length dw, .slice bg mb.G.length dg, .bool mb.bad, .int .i64 n, .int .i64 x, .int .u8 c] 52 := (((Box.new _ _ _).alloc _).alloc _).ext hb1
    have Ba_1 : Box w1 (w.heap.size + 1) #[.slice aw ma.W.length cw, .slice ag ma.G.length cg, .bool ma.bad] 50 := ((Box.two _ _ _ _ _).alloc _).ext hb1
    have Bb_1 : Box w1 (w.heap.size + 1 + 1) #[.slice bw mb.W.length dw, .slice bg mb.G.length dg, .bool mb.bad] 50 := (Box.three' _ _ _ _ _ _ _).ext hb1
    obtain ⟨ci0, ci1, ci2, ci3, ci4, ci5, ci6, ci7, ci8, di0, di1, di2, di3, di4, di5, di6, di7, di8⟩ := cells9 Bi_1
    have zi : w.heap.size < w1.heap.size := Bi_1.lt
    obtain ⟨ca0, ca1, ca2, da0, da1, da2⟩ := cells3 Ba_1
    have za : w.heap.size + 1 < w1.heap.size := Ba_1.lt
    obtain ⟨cb0, cb1, cb2, db0, db1, db2⟩ := cells3 Bb_1
    have zb : w.heap.size + 1 + 1 < w1.heap.size := Bb_1.lt
    go_wp2_with (fail)
    go_at_call 50
    refine (ka _ (by with_reducible (repeat (first | assumption | exact Ext.refl _ | refine Ext.alloc' ?_ _ | refine Ext.store0 ?_ _ _ | refine Ext.storek ?_ _ _ _ | refine Ext.stores0 ?_ ?_ _ _ | refine Ext.storesk ?_ ?_ _ _ _ | refine Ext.drewN' ?_ _ | refine Ext.drew' ?_ | refine Ext.trans ?_ (by assumption))))).calls.mono ?_
    rintro e w2 ⟨_, rfl, hb2, rfl⟩
    have Bi_2 := Bi_1.ext (show Ext w1 w2 from (by with_reducible (repeat (first | assumption | exact Ext.refl _ | refine Ext.alloc' ?_ _ | refine Ext.store0 ?_ _ _ | refine Ext.storek ?_ _ _ _ | refine Ext.stores0 ?_ ?_ _ _ | refine Ext.storesk ?_ ?_ _ _ _ | refine Ext.drewN' ?_ _ | refine Ext.drew' ?_ | refine Ext.trans ?_ (by assumption)))))
    have Ba_2 := Ba_1.ext (show Ext w1 w2 from (by with_reducible (repeat (first | assumption | exact Ext.refl _ | refine Ext.alloc' ?_ _ | refine Ext.store0 ?_ _ _ | refine Ext.storek ?_ _ _ _ | refine Ext.stores0 ?_ ?_ _ _ | refine Ext.storesk ?_ ?_ _ _ _ | refine Ext.drewN' ?_ _ | refine Ext.drew' ?_ | refine Ext.trans ?_ (by assumption)))))
    have Bb_2 := Bb_1.ext (show Ext w1 w2 from (by with_reducible (repeat (first | assumption | exact Ext.refl _ | refine Ext.alloc' ?_ _ | refine Ext.store0 ?_ _ _ | refine Ext.storek ?_ _ _ _ | refine Ext.stores0 ?_ ?_ _ _ | refine Ext.storesk ?_ ?_ _ _ _ | refine Ext.drewN' ?_ _ | refine Ext.drew' ?_ | refine Ext.trans ?_ (by assumption)))))
    clear Bi_1 ci0 ci1 ci2 ci3 ci4 ci5 ci6 ci7 ci8 di0 di1 di2 di3 di4 di5 di6 di7 di8 Ba_1 ca0 ca1 ca2 da0 da1 da2 Bb_1 cb0 cb1 cb2 db0 db1 db2
    obtain ⟨ci0, ci1, ci2, ci3, ci4, ci5, ci6, ci7, ci8, di0, di1, di2, di3, di4, di5, di6, di7, di8⟩ := cells9 Bi_2
    have zi : w.heap.size < w2.heap.size := Bi_2.lt
    obtain ⟨ca0, ca1, ca2, da0, da1, da2⟩ := cells3 Ba_2
    have za : w.heap.size + 1 < w2.heap.size := Ba_2.lt
    obtain ⟨cb0, cb1, cb2, db0, db1, db2⟩ := cells3 Bb_2
    have zb : w.heap.size + 1 + 1 < w2.heap.size := Bb_2.lt
    go_wp2
    go_ret
    exact ⟨_, rfl, (by with_reducible (repeat (first | assumption | exact Ext.refl _ | refine Ext.alloc' ?_ _ | refine Ext.store0 ?_ _ _ | refine Ext.storek ?_ _ _ _ | refine Ext.stores0 ?_ ?_ _ _ | refine Ext.storesk ?_ ?_ _ _ _ | refine Ext.drewN' ?_ _ | refine Ext.drew' ?_ | refine Ext.trans ?_ (by assumption)))), rfl⟩
  · cases hsb : smallD mb 60 <;> rw [hsb] at kb
    · go_enter Proofs.Try.func11, Proofs.Try.ntmps11
      go_wp2_with (fail)
      go_at_call 49
      refine (shown2_ _).calls.mono ?_
      rintro e w1 ⟨_, rfl, hb1, rfl⟩
      have Bi_1 : Box w1 (w.heap.size) #[.slice aw ma.W.length cw, .slice ag ma.G.length cg, .bool ma.bad, .slice bw mb.W.length dw, .slice bg mb.G.length dg, .bool mb.bad, .int .i64 n, .int .i64 x, .int .u8 c] 52 := (((Box.new _ _ _).alloc _).alloc _).ext hb1
      have Ba_1 : Box w1 (w.heap.size + 1) #[.slice aw ma.W.length cw, .slice ag ma.G.length cg, .bool ma.bad] 50 := ((Box.two _ _ _ _ _).alloc _).ext hb1
      have Bb_1 : Box w1 (w.heap.size + 1 + 1) #[.slice bw mb.W.length dw, .slice bg mb.G.length dg, .bool mb.bad] 50 := (Box.three' _ _ _ _ _ _ _).ext hb1
      obtain ⟨ci0, ci1, ci2, ci3, ci4, ci5, ci6, ci7, ci8, di0, di1, di2, di3, di4, di5, di6, di7, di8⟩ := cells9 Bi_1
      have zi : w.heap.size < w1.heap.size := Bi_1.lt
      obtain ⟨ca0, ca1, ca2, da0, da1, da2⟩ := cells3 Ba_1
      have za : w.heap.size + 1 < w1.heap.size := Ba_1.lt
      obtain ⟨cb0, cb1, cb2, db0, db1, db2⟩ := cells3 Bb_1
      have zb : w.heap.size + 1 + 1 < w1.heap.size := Bb_1.lt
      go_wp2_with (fail)
      go_at_call 50
      refine (ka _ (by with_reducible (repeat (first | assumption | exact Ext.refl _ | refine Ext.alloc' ?_ _ | refine Ext.store0 ?_ _ _ | refine Ext.storek ?_ _ _ _ | refine Ext.stores0 ?_ ?_ _ _ | refine Ext.storesk ?_ ?_ _ _ _ | refine Ext.drewN' ?_ _ | refine Ext.drew' ?_ | refine Ext.trans ?_ (by assumption))))).calls.mono ?_
      rintro e w2 ⟨_, rfl, hb2, rfl⟩
      have Bi_2 := Bi_1.ext (show Ext w1 w2 from (by with_reducible (repeat (first | assumption | exact Ext.refl _ | refine Ext.alloc' ?_ _ | refine Ext.store0 ?_ _ _ | refine Ext.storek ?_ _ _ _ | refine Ext.stores0 ?_ ?_ _ _ | refine Ext.storesk ?_ ?_ _ _ _ | refine Ext.drewN' ?_ _ | refine Ext.drew' ?_ | refine Ext.trans ?_ (by assumption)))))
      have Ba_2 := Ba_1.ext (show Ext w1 w2 from (by with_reducible (repeat (first | assumption | exact Ext.refl _ | refine Ext.alloc' ?_ _ | refine Ext.store0 ?_ _ _ | refine Ext.storek ?_ _ _ _ | refine Ext.stores0 ?_ ?_ _ _ | refine Ext.storesk ?_ ?_ _ _ _ | refine Ext.drewN' ?_ _ | refine Ext.drew' ?_ | refine Ext.trans ?_ (by assumption)))))
      have Bb_2 := Bb_1.ext (show Ext w1 w2 from (by with_reducible (repeat (first | assumption | exact Ext.refl _ | refine Ext.alloc' ?_ _ | refine Ext.store0 ?_ _ _ | refine Ext.storek ?_ _ _ _ | refine Ext.stores0 ?_ ?_ _ _ | refine Ext.storesk ?_ ?_ _ _ _ | refine Ext.drewN' ?_ _ | refine Ext.drew' ?_ | refine Ext.trans ?_ (by assumption)))))
      clear Bi_1 ci0 ci1 ci2 ci3 ci4 ci5 ci6 ci7 ci8 di0 di1 di2 di3 di4 di5 di6 di7 di8 Ba_1 ca0 ca1 ca2 da0 da1 da2 Bb_1 cb0 cb1 cb2 db0 db1 db2
      obtain ⟨ci0, ci1, ci2, ci3, ci4, ci5, ci6, ci7, ci8, di0, di1, di2, di3, di4, di5, di6, di7, di8⟩ := cells9 Bi_2
      have zi : w.heap.size < w2.heap.size := Bi_2.lt
      obtain ⟨ca0, ca1, ca2, da0, da1, da2⟩ := cells3 Ba_2
      have za : w.heap.size + 1 < w2.heap.size := Ba_2.lt
      obtain ⟨cb0, cb1, cb2, db0, db1, db2⟩ := cells3 Bb_2
      have zb : w.heap.size + 1 + 1 < w2.heap.size := Bb_2.lt
      go_wp2_with (fail)
      go_at_call 50
      refine (kb _ (by with_reducible (repeat (first | assumption | exact Ext.refl _ | refine Ext.alloc' ?_ _ | refine Ext.store0 ?_ _ _ | refine Ext.storek ?_ _ _ _ | refine Ext.stores0 ?_ ?_ _ _ | refine Ext.storesk ?_ ?_ _ _ _ | refine Ext.drewN' ?_ _ | refine Ext.drew' ?_ | refine Ext.trans ?_ (by assumption))))).calls.mono ?_
      rintro e w3 ⟨_, rfl, hb3, rfl⟩
      have Bi_3 := Bi_2.ext (show Ext w2 w3 from (by with_reducible (repeat (first | assumption | exact Ext.refl _ | refine Ext.alloc' ?_ _ | refine Ext.store0 ?_ _ _ | refine Ext.storek ?_ _ _ _ | refine Ext.stores0 ?_ ?_ _ _ | refine Ext.storesk ?_ ?_ _ _ _ | refine Ext.drewN' ?_ _ | refine Ext.drew' ?_ | refine Ext.trans ?_ (by assumption)))))
      have Ba_3 := Ba_2.ext (show Ext w2 w3 from (by with_reducible (repeat (first | assumption | exact Ext.refl _ | refine Ext.alloc' ?_ _ | refine Ext.store0 ?_ _ _ | refine Ext.storek ?_ _ _ _ | refine Ext.stores0 ?_ ?_ _ _ | refine Ext.storesk ?_ ?_ _ _ _ | refine Ext.drewN' ?_ _ | refine Ext.drew' ?_ | refine Ext.trans ?_ (by assumption)))))
      have Bb_3 := Bb_2.ext (show Ext w2 w3 from (by with_reducible (repeat (first | assumption | exact Ext.refl _ | refine Ext.alloc' ?_ _ | refine Ext.store0 ?_ _ _ | refine Ext.storek ?_ _ _ _ | refine Ext.stores0 ?_ ?_ _ _ | refine Ext.storesk ?_ ?_ _ _ _ | refine Ext.drewN' ?_ _ | refine Ext.drew' ?_ | refine Ext.trans ?_ (by assumption)))))
      clear Bi_2 ci0 ci1 ci2 ci3 ci4 ci5 ci6 ci7 ci8 di0 di1 di2 di3 di4 di5 di6 di7 di8 Ba_2 ca0 ca1 ca2 da0 da1 da2 Bb_2 cb0 cb1 cb2 db0 db1 db2
      obtain ⟨ci0, ci1, ci2, ci3, ci4, ci5, ci6, ci7, ci8, di0, di1, di2, di3, di4, di5, di6, di7, di8⟩ := cells9 Bi_3
      have zi : w.heap.size < w3.heap.size := Bi_3.lt
      obtain ⟨ca0, ca1, ca2, da0, da1, da2⟩ := cells3 Ba_3
      have za : w.heap.size + 1 < w3.heap.size := Ba_3.lt
      obtain ⟨cb0, cb1, cb2, db0, db1, db2⟩ := cells3 Bb_3
      have zb : w.heap.size + 1 + 1 < w3.heap.size := Bb_3.lt
      go_wp2
      go_ret
      exact ⟨_, rfl, (by with_reducible (repeat (first | assumption | exact Ext.refl _ | refine Ext.alloc' ?_ _ | refine Ext.store0 ?_ _ _ | refine Ext.storek ?_ _ _ _ | refine Ext.stores0 ?_ ?_ _ _ | refine Ext.storesk ?_ ?_ _ _ _ | refine Ext.drewN' ?_ _ | refine Ext.drew' ?_ | refine Ext.trans ?_ (by assumption)))), rfl⟩
    · go_enter Proofs.Try.func11, Proofs.Try.ntmps11
      go_wp2_with (fail)
      go_at_call 49
      refine (shown2_ _).calls.mono ?_
      rintro e w1 ⟨_, rfl, hb1, rfl⟩
      have Bi_1 : Box w1 (w.heap.size) #[.slice aw ma.W.length cw, .slice ag ma.G.length cg, .bool ma.bad, .slice bw mb.W.length dw, .slice bg mb.G.length dg, .bool mb.bad, .int .i64 n, .int .i64 x, .int .u8 c] 52 := (((Box.new _ _ _).alloc _).alloc _).ext hb1
      have Ba_1 : Box w1 (w.heap.size + 1) #[.slice aw ma.W.length cw, .slice ag ma.G.length cg, .bool ma.bad] 50 := ((Box.two _ _ _ _ _).alloc _).ext hb1
      have Bb_1 : Box w1 (w.heap.size + 1 + 1) #[.slice bw mb.W.length dw, .slice bg mb.G.length dg, .bool mb.bad] 50 := (Box.three' _ _ _ _ _ _ _).ext hb1
      obtain ⟨ci0, ci1, ci2, ci3, ci4, ci5, ci6, ci7, ci8, di0, di1, di2, di3, di4, di5, di6, di7, di8⟩ := cells9 Bi_1
      have zi : w.heap.size < w1.heap.size := Bi_1.lt
      obtain ⟨ca0, ca1, ca2, da0, da1, da2⟩ := cells3 Ba_1
      have za : w.heap.size + 1 < w1.heap.size := Ba_1.lt
      obtain ⟨cb0, cb1, cb2, db0, db1, db2⟩ := cells3 Bb_1
      have zb : w.heap.size + 1 + 1 < w1.heap.size := Bb_1.lt
      go_wp2_with (fail)
      go_at_call 50
      refine (ka _ (by with_reducible (repeat (first | assumption | exact Ext.refl _ | refine Ext.alloc' ?_ _ | refine Ext.store0 ?_ _ _ | refine Ext.storek ?_ _ _ _ | refine Ext.stores0 ?_ ?_ _ _ | refine Ext.storesk ?_ ?_ _ _ _ | refine Ext.drewN' ?_ _ | refine Ext.drew' ?_ | refine Ext.trans ?_ (by assumption))))).calls.mono ?_
      rintro e w2 ⟨_, rfl, hb2, rfl⟩
      have Bi_2 := Bi_1.ext (show Ext w1 w2 from (by with_reducible (repeat (first | assumption | exact Ext.refl _ | refine Ext.alloc' ?_ _ | refine Ext.store0 ?_ _ _ | refine Ext.storek ?_ _ _ _ | refine Ext.stores0 ?_ ?_ _ _ | refine Ext.storesk ?_ ?_ _ _ _ | refine Ext.drewN' ?_ _ | refine Ext.drew' ?_ | refine Ext.trans ?_ (by assumption)))))
      have Ba_2 := Ba_1.ext (show Ext w1 w2 from (by with_reducible (repeat (first | assumption | exact Ext.refl _ | refine Ext.alloc' ?_ _ | refine Ext.store0 ?_ _ _ | refine Ext.storek ?_ _ _ _ | refine Ext.stores0 ?_ ?_ _ _ | refine Ext.storesk ?_ ?_ _ _ _ | refine Ext.drewN' ?_ _ | refine Ext.drew' ?_ | refine Ext.trans ?_ (by assumption)))))
      have Bb_2 := Bb_1.ext (show Ext w1 w2 from (by with_reducible (repeat (first | assumption | exact Ext.refl _ | refine Ext.alloc' ?_ _ | refine Ext.store0 ?_ _ _ | refine Ext.storek ?_ _ _ _ | refine Ext.stores0 ?_ ?_ _ _ | refine Ext.storesk ?_ ?_ _ _ _ | refine Ext.drewN' ?_ _ | refine Ext.drew' ?_ | refine Ext.trans ?_ (by assumption)))))
      clear Bi_1 ci0 ci1 ci2 ci3 ci4 ci5 ci6 ci7 ci8 di0 di1 di2 di3 di4 di5 di6 di7 di8 Ba_1 ca0 ca1 ca2 da0 da1 da2 Bb_1 cb0 cb1 cb2 db0 db1 db2
      obtain ⟨ci0, ci1, ci2, ci3, ci4, ci5, ci6, ci7, ci8, di0, di1, di2, di3, di4, di5, di6, di7, di8⟩ := cells9 Bi_2
      have zi : w.heap.size < w2.heap.size := Bi_2.lt
      obtain ⟨ca0, ca1, ca2, da0, da1, da2⟩ := cells3 Ba_2
      have za : w.heap.size + 1 < w2.heap.size := Ba_2.lt
      obtain ⟨cb0, cb1, cb2, db0, db1, db2⟩ := cells3 Bb_2
      have zb : w.heap.size + 1 + 1 < w2.heap.size := Bb_2.lt
      go_wp2_with (fail)
      go_at_call 50
      refine (kb _ (by with_reducible (repeat (first | assumption | exact Ext.refl _ | refine Ext.alloc' ?_ _ | refine Ext.store0 ?_ _ _ | refine Ext.storek ?_ _ _ _ | refine Ext.stores0 ?_ ?_ _ _ | refine Ext.storesk ?_ ?_ _ _ _ | refine Ext.drewN' ?_ _ | refine Ext.drew' ?_ | refine Ext.trans ?_ (by assumption))))).calls.mono ?_
      rintro e w3 ⟨_, rfl, hb3, rfl⟩
      have Bi_3 := Bi_2.ext (show Ext w2 w3 from (by with_reducible (repeat (first | assumption | exact Ext.refl _ | refine Ext.alloc' ?_ _ | refine Ext.store0 ?_ _ _ | refine Ext.storek ?_ _ _ _ | refine Ext.stores0 ?_ ?_ _ _ | refine Ext.storesk ?_ ?_ _ _ _ | refine Ext.drewN' ?_ _ | refine Ext.drew' ?_ | refine Ext.trans ?_ (by assumption)))))
      have Ba_3 := Ba_2.ext (show Ext w2 w3 from (by with_reducible (repeat (first | assumption | exact Ext.refl _ | refine Ext.alloc' ?_ _ | refine Ext.store0 ?_ _ _ | refine Ext.storek ?_ _ _ _ | refine Ext.stores0 ?_ ?_ _ _ | refine Ext.storesk ?_ ?_ _ _ _ | refine Ext.drewN' ?_ _ | refine Ext.drew' ?_ | refine Ext.trans ?_ (by assumption)))))
      have Bb_3 := Bb_2.ext (show Ext w2 w3 from (by with_reducible (repeat (first | assumption | exact Ext.refl _ | refine Ext.alloc' ?_ _ | refine Ext.store0 ?_ _ _ | refine Ext.storek ?_ _ _ _ | refine Ext.stores0 ?_ ?_ _ _ | refine Ext.storesk ?_ ?_ _ _ _ | refine Ext.drewN' ?_ _ | refine Ext.drew' ?_ | refine Ext.trans ?_ (by assumption)))))
      clear Bi_2 ci0 ci1 ci2 ci3 ci4 ci5 ci6 ci7 ci8 di0 di1 di2 di3 di4 di5 di6 di7 di8 Ba_2 ca0 ca1 ca2 da0 da1 da2 Bb_2 cb0 cb1 cb2 db0 db1 db2
      obtain ⟨ci0, ci1, ci2, ci3, ci4, ci5, ci6, ci7, ci8, di0, di1, di2, di3, di4, di5, di6, di7, di8⟩ := cells9 Bi_3
      have zi : w.heap.size < w3.heap.size := Bi_3.lt
      obtain ⟨ca0, ca1, ca2, da0, da1, da2⟩ := cells3 Ba_3
      have za : w.heap.size + 1 < w3.heap.size := Ba_3.lt
      obtain ⟨cb0, cb1, cb2, db0, db1, db2⟩ := cells3 Bb_3
      have zb : w.heap.size + 1 + 1 < w3.heap.size := Bb_3.lt
      obtain ⟨mn, hmn⟩ : ∃ mn, newD n = mn := ⟨_, rfl⟩
      obtain ⟨ne, hne⟩ : ∃ ne, newE n = ne := ⟨_, rfl⟩
      obtain ⟨r, hr⟩ : ∃ r, rightD ma = r := ⟨_, rfl⟩
      obtain ⟨q, hq⟩ : ∃ q, sameD ma mb = q := ⟨_, rfl⟩
      have Hn := Lib.hid hmn; have He := Lib.hid hne; have Hr := Lib.hid hr; have Hq := Lib.hid hq
      clear hmn hne hr hq
      go_wp2_with (fail)
      go_at_call 51
      refine (memNew_ no n _ no_lt).calls.mono ?_
      rintro e w4 ⟨_, rfl, hb4, u, rfl, hup⟩
      rw [Hn.out] at hup
      rw [He.out]
      obtain ⟨p1, p2, p3, p4, rfl, wp, gp⟩ := hup.opened
      have Bi_4 := Bi_3.ext (show Ext w3 w4 from (by with_reducible (repeat (first | assumption | exact Ext.refl _ | refine Ext.alloc' ?_ _ | refine Ext.store0 ?_ _ _ | refine Ext.storek ?_ _ _ _ | refine Ext.stores0 ?_ ?_ _ _ | refine Ext.storesk ?_ ?_ _ _ _ | refine Ext.drewN' ?_ _ | refine Ext.drew' ?_ | refine Ext.trans ?_ (by assumption)))))
      have Ba_4 := Ba_3.ext (show Ext w3 w4 from (by with_reducible (repeat (first | assumption | exact Ext.refl _ | refine Ext.alloc' ?_ _ | refine Ext.store0 ?_ _ _ | refine Ext.storek ?_ _ _ _ | refine Ext.stores0 ?_ ?_ _ _ | refine Ext.storesk ?_ ?_ _ _ _ | refine Ext.drewN' ?_ _ | refine Ext.drew' ?_ | refine Ext.trans ?_ (by assumption)))))
      have Bb_4 := Bb_3.ext (show Ext w3 w4 from (by with_reducible (repeat (first | assumption | exact Ext.refl _ | refine Ext.alloc' ?_ _ | refine Ext.store0 ?_ _ _ | refine Ext.storek ?_ _ _ _ | refine Ext.stores0 ?_ ?_ _ _ | refine Ext.storesk ?_ ?_ _ _ _ | refine Ext.drewN' ?_ _ | refine Ext.drew' ?_ | refine Ext.trans ?_ (by assumption)))))
      clear Bi_3 ci0 ci1 ci2 ci3 ci4 ci5 ci6 ci7 ci8 di0 di1 di2 di3 di4 di5 di6 di7 di8 Ba_3 ca0 ca1 ca2 da0 da1 da2 Bb_3 cb0 cb1 cb2 db0 db1 db2
      obtain ⟨ci0, ci1, ci2, ci3, ci4, ci5, ci6, ci7, ci8, di0, di1, di2, di3, di4, di5, di6, di7, di8⟩ := cells9 Bi_4
      have zi : w.heap.size < w4.heap.size := Bi_4.lt
      obtain ⟨ca0, ca1, ca2, da0, da1, da2⟩ := cells3 Ba_4
      have za : w.heap.size + 1 < w4.heap.size := Ba_4.lt
      obtain ⟨cb0, cb1, cb2, db0, db1, db2⟩ := cells3 Bb_4
      have zb : w.heap.size + 1 + 1 < w4.heap.size := Bb_4.lt
      go_wp2_with (fail)
      go_at_call 52
      refine (refNew_ no n _ no_lt).calls.mono ?_
      rintro e w5 ⟨_, rfl, hb5, u, rfl, huq⟩
      rw [Hn.out] at huq
      rw [He.out]
      obtain ⟨q1, q2, q3, q4, rfl, wq, gq⟩ := huq.opened
      have Bi_5 := Bi_4.ext (show Ext w4 w5 from (by with_reducible (repeat (first | assumption | exact Ext.refl _ | refine Ext.alloc' ?_ _ | refine Ext.store0 ?_ _ _ | refine Ext.storek ?_ _ _ _ | refine Ext.stores0 ?_ ?_ _ _ | refine Ext.storesk ?_ ?_ _ _ _ | refine Ext.drewN' ?_ _ | refine Ext.drew' ?_ | refine Ext.trans ?_ (by assumption)))))
      have Ba_5 := Ba_4.ext (show Ext w4 w5 from (by with_reducible (repeat (first | assumption | exact Ext.refl _ | refine Ext.alloc' ?_ _ | refine Ext.store0 ?_ _ _ | refine Ext.storek ?_ _ _ _ | refine Ext.stores0 ?_ ?_ _ _ | refine Ext.storesk ?_ ?_ _ _ _ | refine Ext.drewN' ?_ _ | refine Ext.drew' ?_ | refine Ext.trans ?_ (by assumption)))))
      have Bb_5 := Bb_4.ext (show Ext w4 w5 from (by with_reducible (repeat (first | assumption | exact Ext.refl _ | refine Ext.alloc' ?_ _ | refine Ext.store0 ?_ _ _ | refine Ext.storek ?_ _ _ _ | refine Ext.stores0 ?_ ?_ _ _ | refine Ext.storesk ?_ ?_ _ _ _ | refine Ext.drewN' ?_ _ | refine Ext.drew' ?_ | refine Ext.trans ?_ (by assumption)))))
      clear Bi_4 ci0 ci1 ci2 ci3 ci4 ci5 ci6 ci7 ci8 di0 di1 di2 di3 di4 di5 di6 di7 di8 Ba_4 ca0 ca1 ca2 da0 da1 da2 Bb_4 cb0 cb1 cb2 db0 db1 db2
      have Bp_5 : Box w5 (w4.heap.size) #[.slice p1 mn.W.length p2, .slice p3 mn.G.length p4, .bool mn.bad] 50 := (Box.new _ _ _).ext hb5
      obtain ⟨ci0, ci1, ci2, ci3, ci4, ci5, ci6, ci7, ci8, di0, di1, di2, di3, di4, di5, di6, di7, di8⟩ := cells9 Bi_5
      have zi : w.heap.size < w5.heap.size := Bi_5.lt
      obtain ⟨ca0, ca1, ca2, da0, da1, da2⟩ := cells3 Ba_5
      have za : w.heap.size + 1 < w5.heap.size := Ba_5.lt
      obtain ⟨cb0, cb1, cb2, db0, db1, db2⟩ := cells3 Bb_5
      have zb : w.heap.size + 1 + 1 < w5.heap.size := Bb_5.lt
      obtain ⟨cp0, cp1, cp2, dp0, dp1, dp2⟩ := cells3 Bp_5
      have zp : w4.heap.size < w5.heap.size := Bp_5.lt
      go_wp2_with (fail)
      go_at_call 53
      refine (refMemRight_ no _ ma _ ((IsMem.mk rfl hw hg : IsMem no w (.agg #[.slice aw ma.W.length cw, .slice ag ma.G.length cg, .bool ma.bad]) ma).ext (by with_reducible (repeat (first | assumption | exact Ext.refl _ | refine Ext.alloc' ?_ _ | refine Ext.store0 ?_ _ _ | refine Ext.storek ?_ _ _ _ | refine Ext.stores0 ?_ ?_ _ _ | refine Ext.storesk ?_ ?_ _ _ _ | refine Ext.drewN' ?_ _ | refine Ext.drew' ?_ | refine Ext.trans ?_ (by assumption)))))).calls.mono ?_
      rintro e w6 ⟨_, rfl, hb6, rfl⟩
      rw [Hr.out]
      have Bi_6 := Bi_5.ext (show Ext w5 w6 from (by with_reducible (repeat (first | assumption | exact Ext.refl _ | refine Ext.alloc' ?_ _ | refine Ext.store0 ?_ _ _ | refine Ext.storek ?_ _ _ _ | refine Ext.stores0 ?_ ?_ _ _ | refine Ext.storesk ?_ ?_ _ _ _ | refine Ext.drewN' ?_ _ | refine Ext.drew' ?_ | refine Ext.trans ?_ (by assumption)))))
      have Ba_6 := Ba_5.ext (show Ext w5 w6 from (by with_reducible (repeat (first | assumption | exact Ext.refl _ | refine Ext.alloc' ?_ _ | refine Ext.store0 ?_ _ _ | refine Ext.storek ?_ _ _ _ | refine Ext.stores0 ?_ ?_ _ _ | refine Ext.storesk ?_ ?_ _ _ _ | refine Ext.drewN' ?_ _ | refine Ext.drew' ?_ | refine Ext.trans ?_ (by assumption)))))
      have Bb_6 := Bb_5.ext (show Ext w5 w6 from (by with_reducible (repeat (first | assumption | exact Ext.refl _ | refine Ext.alloc' ?_ _ | refine Ext.store0 ?_ _ _ | refine Ext.storek ?_ _ _ _ | refine Ext.stores0 ?_ ?_ _ _ | refine Ext.storesk ?_ ?_ _ _ _ | refine Ext.drewN' ?_ _ | refine Ext.drew' ?_ | refine Ext.trans ?_ (by assumption)))))
      have Bp_6 := Bp_5.ext (show Ext w5 w6 from (by with_reducible (repeat (first | assumption | exact Ext.refl _ | refine Ext.alloc' ?_ _ | refine Ext.store0 ?_ _ _ | refine Ext.storek ?_ _ _ _ | refine Ext.stores0 ?_ ?_ _ _ | refine Ext.storesk ?_ ?_ _ _ _ | refine Ext.drewN' ?_ _ | refine Ext.drew' ?_ | refine Ext.trans ?_ (by assumption)))))
      clear Bi_5 ci0 ci1 ci2 ci3 ci4 ci5 ci6 ci7 ci8 di0 di1 di2 di3 di4 di5 di6 di7 di8 Ba_5 ca0 ca1 ca2 da0 da1 da2 Bb_5 cb0 cb1 cb2 db0 db1 db2 Bp_5 cp0 cp1 cp2 dp0 dp1 dp2
      have Bq_6 : Box w6 (w5.heap.size) #[.slice q1 mn.W.length q2, .slice q3 mn.G.length q4, .bool mn.bad] 50 := (Box.new _ _ _).ext hb6
      obtain ⟨ci0, ci1, ci2, ci3, ci4, ci5, ci6, ci7, ci8, di0, di1, di2, di3, di4, di5, di6, di7, di8⟩ := cells9 Bi_6
      have zi : w.heap.size < w6.heap.size := Bi_6.lt
      obtain ⟨ca0, ca1, ca2, da0, da1, da2⟩ := cells3 Ba_6
      have za : w.heap.size + 1 < w6.heap.size := Ba_6.lt
      obtain ⟨cb0, cb1, cb2, db0, db1, db2⟩ := cells3 Bb_6
      have zb : w.heap.size + 1 + 1 < w6.heap.size := Bb_6.lt
      obtain ⟨cp0, cp1, cp2, dp0, dp1, dp2⟩ := cells3 Bp_6
      have zp : w4.heap.size < w6.heap.size := Bp_6.lt
      obtain ⟨cq0, cq1, cq2, dq0, dq1, dq2⟩ := cells3 Bq_6
      have zq : w5.heap.size < w6.heap.size := Bq_6.lt
      go_wp2_with (fail)
      have hE5 : Ext w5 w6 := (by with_reducible (repeat (first | assumption | exact Ext.refl _ | refine Ext.alloc' ?_ _ | refine Ext.store0 ?_ _ _ | refine Ext.storek ?_ _ _ _ | refine Ext.stores0 ?_ ?_ _ _ | refine Ext.storesk ?_ ?_ _ _ _ | refine Ext.drewN' ?_ _ | refine Ext.drew' ?_ | refine Ext.trans ?_ (by assumption))))
      have hE4 : Ext w4 w6 := (by with_reducible (repeat (first | assumption | exact Ext.refl _ | refine Ext.alloc' ?_ _ | refine Ext.store0 ?_ _ _ | refine Ext.storek ?_ _ _ _ | refine Ext.stores0 ?_ ?_ _ _ | refine Ext.storesk ?_ ?_ _ _ _ | refine Ext.drewN' ?_ _ | refine Ext.drew' ?_ | refine Ext.trans ?_ (by assumption))))
      have hEk : Ext w w6 := (by with_reducible (repeat (first | assumption | exact Ext.refl _ | refine Ext.alloc' ?_ _ | refine Ext.store0 ?_ _ _ | refine Ext.storek ?_ _ _ _ | refine Ext.stores0 ?_ ?_ _ _ | refine Ext.storesk ?_ ?_ _ _ _ | refine Ext.drewN' ?_ _ | refine Ext.drew' ?_ | refine Ext.trans ?_ (by assumption))))
      apply region_lit2 (T := []) (L := []) (X := []) (G := [eqv _, eqv _, eqv (.bool true), eqv (.bool false), eqv _, eqv _, eqv _, eqv (.bool false), eqv _, eqv _, eqv _, eqv (.bool r), eqv _, eqv (.bool false), eqv _, eqv _, eqv _, eqv _, eqv (.bool q), eqv _, eqv _, eqv (.bool q), eqv (.bool false), eqv _])
      case hm => kernel_rfl
      case hop =>
        refine ⟨?_, ?_, ?_, ?_, ?_, ?_, ?_, ?_, ?_, ?_, ?_, ?_, ?_, ?_, ?_, ?_, ?_, ?_, ?_, ?_, ?_, ?_, ?_, ?_, trivial⟩
        · intro a wa hs hf hd
          have t9 := hf.off 9 (by kernel_rfl) rfl
          exact plain_ rfl (yes_eqv (o_load3 rfl Proofs.Try.underlying50 rfl (by kernel_rfl) t9 ((Bp_6.since hs rfl).cell rfl) ((Bp_6.since hs rfl).cell rfl) ((Bp_6.since hs rfl).cell rfl)) rfl)
        · intro a wa hs hf hd
          have t11 := hf.off 11 (by kernel_rfl) rfl
          exact plain_ rfl (yes_eqv (o_load3 rfl Proofs.Try.underlying50 rfl (by kernel_rfl) t11 ((Bq_6.since hs rfl).cell rfl) ((Bq_6.since hs rfl).cell rfl) ((Bq_6.since hs rfl).cell rfl)) rfl)
        · intro a wa hs hf hd
          have t47 : a.eval (.tmp 47) = _ := hd.at 0 47 (by kernel_rfl)
          have t48 : a.eval (.tmp 48) = _ := hd.at 1 48 (by kernel_rfl)
          exact plain_ rfl (yes_gives (show Gives Proofs.Try.prog 54 #[.agg #[.slice p1 mn.W.length p2, .slice p3 mn.G.length p4, .bool mn.bad], .agg #[.slice q1 mn.W.length q2, .slice q3 mn.G.length q4, .bool mn.bad]] _ (eqv (.bool true)) by have h5 := refSame_ no _ _ mn mn _ ((IsMem.mk rfl wp gp : IsMem no w4 (.agg #[.slice p1 mn.W.length p2, .slice p3 mn.G.length p4, .bool mn.bad]) mn).ext (hE4.trans (Since.to_ext hs))) ((IsMem.mk rfl wq gq : IsMem no w5 (.agg #[.slice q1 mn.W.length q2, .slice q3 mn.G.length q4, .bool mn.bad]) mn).ext (hE5.trans (Since.to_ext hs))); rw [sameD_refl] at h5; exact h5) rfl rfl Proofs.Try.func54 (by kernel_rfl) (by kernel_rfl) (by simp only [List.map_toArray, List.map_cons, List.map_nil, t47, t48]) rfl)
        · intro a wa hs hf hd
          have t49 : a.eval (.tmp 49) = _ := hd.at 2 49 (by kernel_rfl)
          exact plain_ rfl (yes_eqv (o_not rfl t49 rfl) rfl)
        · intro a wa hs hf hd
          have t50 : a.eval (.tmp 50) = _ := hd.at 3 50 (by kernel_rfl)
          exact plain_ rfl (yes_eqv (o_move rfl t50) rfl)
        · intro a wa hs hf hd
          have t51 : a.eval (.tmp 51) = _ := hd.at 4 51 (by kernel_rfl)
          have t10 := hf.off 10 (by kernel_rfl) rfl
          exact guard_on rfl rfl t51 (yes_eqv (o_move rfl t10) rfl)
        · intro a wa hs hf hd
          have t51 : a.eval (.tmp 51) = _ := hd.at 4 51 (by kernel_rfl)
          have t12 := hf.off 12 (by kernel_rfl) rfl
          exact guard_on rfl rfl t51 (yes_eqv (o_move rfl t12) rfl)
        · intro a wa hs hf hd
          have t51 : a.eval (.tmp 51) = _ := hd.at 4 51 (by kernel_rfl)
          have t52 : a.eval (.tmp 52) = _ := hd.at 5 52 (by kernel_rfl)
          have t53 : a.eval (.tmp 53) = _ := hd.at 6 53 (by kernel_rfl)
          exact guard_on rfl rfl t51 (yes_eqv (o_neq rfl t52 t53 (by simp)) rfl)
        · intro a wa hs hf hd
          have t51 : a.eval (.tmp 51) = _ := hd.at 4 51 (by kernel_rfl)
          have t54 : a.eval (.tmp 54) = _ := hd.at 7 54 (by kernel_rfl)
          exact plain_ rfl (yes_eqv (o_pick_f rfl t51 t54) rfl)
        · intro a wa hs hf hd
          have t55 : a.eval (.tmp 55) = _ := hd.at 8 55 (by kernel_rfl)
          exact plain_ rfl (yes_eqv (o_move rfl t55) rfl)
        · intro a wa hs hf hd
          have t56 : a.eval (.tmp 56) = _ := hd.at 9 56 (by kernel_rfl)
          have t3 := hf.off 3 (by kernel_rfl) rfl
          exact guard_on rfl rfl t56 (yes_eqv (o_load3 rfl Proofs.Try.underlying50 rfl (by kernel_rfl) t3 ((Ba_6.since hs rfl).cell rfl) ((Ba_6.since hs rfl).cell rfl) ((Ba_6.since hs rfl).cell rfl)) rfl)
        · intro a wa hs hf hd
          have t56 : a.eval (.tmp 56) = _ := hd.at 9 56 (by kernel_rfl)
          have t57 : a.eval (.tmp 57) = _ := hd.at 10 57 (by kernel_rfl)
          exact guard_on rfl rfl t56 (yes_gives (show Gives Proofs.Try.prog 55 #[.agg #[.slice aw ma.W.length cw, .slice ag ma.G.length cg, .bool ma.bad]] _ (eqv (.bool r)) by rw [← Hr.out]; exact memRight_ no _ ma _ ((IsMem.mk rfl hw hg : IsMem no w (.agg #[.slice aw ma.W.length cw, .slice ag ma.G.length cg, .bool ma.bad]) ma).ext (hEk.trans (Since.to_ext hs)))) rfl rfl Proofs.Try.func55 (by kernel_rfl) (by kernel_rfl) (by simp only [List.map_toArray, List.map_cons, List.map_nil, t57]) rfl)
        · intro a wa hs hf hd
          have t56 : a.eval (.tmp 56) = _ := hd.at 9 56 (by kernel_rfl)
          have t13 := hf.off 13 (by kernel_rfl) rfl
          exact guard_on rfl rfl t56 (yes_eqv (o_move rfl t13) rfl)
        · intro a wa hs hf hd
          have t56 : a.eval (.tmp 56) = _ := hd.at 9 56 (by kernel_rfl)
          have t58 : a.eval (.tmp 58) = _ := hd.at 11 58 (by kernel_rfl)
          have t59 : a.eval (.tmp 59) = _ := hd.at 12 59 (by kernel_rfl)
          exact guard_on rfl rfl t56 (yes_eqv (o_neqb rfl Proofs.Try.underlying4 t58 t59 (by simp)) rfl)
        · intro a wa hs hf hd
          have t56 : a.eval (.tmp 56) = _ := hd.at 9 56 (by kernel_rfl)
          have t60 : a.eval (.tmp 60) = _ := hd.at 13 60 (by kernel_rfl)
          exact plain_ rfl (yes_eqv (o_pick_f rfl t56 t60) rfl)
        · intro a wa hs hf hd
          have t61 : a.eval (.tmp 61) = _ := hd.at 14 61 (by kernel_rfl)
          exact plain_ rfl (yes_eqv (o_move rfl t61) rfl)
        · intro a wa hs hf hd
          have t62 : a.eval (.tmp 62) = _ := hd.at 15 62 (by kernel_rfl)
          have t3 := hf.off 3 (by kernel_rfl) rfl
          exact guard_on rfl rfl t62 (yes_eqv (o_load3 rfl Proofs.Try.underlying50 rfl (by kernel_rfl) t3 ((Ba_6.since hs rfl).cell rfl) ((Ba_6.since hs rfl).cell rfl) ((Ba_6.since hs rfl).cell rfl)) rfl)
        · intro a wa hs hf hd
          have t62 : a.eval (.tmp 62) = _ := hd.at 15 62 (by kernel_rfl)
          have t4 := hf.off 4 (by kernel_rfl) rfl
          exact guard_on rfl rfl t62 (yes_eqv (o_load3 rfl Proofs.Try.underlying50 rfl (by kernel_rfl) t4 ((Bb_6.since hs rfl).cell rfl) ((Bb_6.since hs rfl).cell rfl) ((Bb_6.since hs rfl).cell rfl)) rfl)
        · intro a wa hs hf hd
          have t62 : a.eval (.tmp 62) = _ := hd.at 15 62 (by kernel_rfl)
          have t63 : a.eval (.tmp 63) = _ := hd.at 16 63 (by kernel_rfl)
          have t64 : a.eval (.tmp 64) = _ := hd.at 17 64 (by kernel_rfl)
          exact guard_on rfl rfl t62 (yes_gives (show Gives Proofs.Try.prog 56 #[.agg #[.slice aw ma.W.length cw, .slice ag ma.G.length cg, .bool ma.bad], .agg #[.slice bw mb.W.length dw, .slice bg mb.G.length dg, .bool mb.bad]] _ (eqv (.bool q)) by rw [← Hq.out]; exact memSame_ no _ _ ma mb _ ((IsMem.mk rfl hw hg : IsMem no w (.agg #[.slice aw ma.W.length cw, .slice ag ma.G.length cg, .bool ma.bad]) ma).ext (hEk.trans (Since.to_ext hs))) ((IsMem.mk rfl hv hh : IsMem no w (.agg #[.slice bw mb.W.length dw, .slice bg mb.G.length dg, .bool mb.bad]) mb).ext (hEk.trans (Since.to_ext hs)))) rfl rfl Proofs.Try.func56 (by kernel_rfl) (by kernel_rfl) (by simp only [List.map_toArray, List.map_cons, List.map_nil, t63, t64]) rfl)
        · intro a wa hs hf hd
          have t62 : a.eval (.tmp 62) = _ := hd.at 15 62 (by kernel_rfl)
          have t3 := hf.off 3 (by kernel_rfl) rfl
          exact guard_on rfl rfl t62 (yes_eqv (o_load3 rfl Proofs.Try.underlying50 rfl (by kernel_rfl) t3 ((Ba_6.since hs rfl).cell rfl) ((Ba_6.since hs rfl).cell rfl) ((Ba_6.since hs rfl).cell rfl)) rfl)
        · intro a wa hs hf hd
          have t62 : a.eval (.tmp 62) = _ := hd.at 15 62 (by kernel_rfl)
          have t4 := hf.off 4 (by kernel_rfl) rfl
          exact guard_on rfl rfl t62 (yes_eqv (o_load3 rfl Proofs.Try.underlying50 rfl (by kernel_rfl) t4 ((Bb_6.since hs rfl).cell rfl) ((Bb_6.since hs rfl).cell rfl) ((Bb_6.since hs rfl).cell rfl)) rfl)
        · intro a wa hs hf hd
          have t62 : a.eval (.tmp 62) = _ := hd.at 15 62 (by kernel_rfl)
          have t66 : a.eval (.tmp 66) = _ := hd.at 19 66 (by kernel_rfl)
          have t67 : a.eval (.tmp 67) = _ := hd.at 20 67 (by kernel_rfl)
          exact guard_on rfl rfl t62 (yes_gives (show Gives Proofs.Try.prog 54 #[.agg #[.slice aw ma.W.length cw, .slice ag ma.G.length cg, .bool ma.bad], .agg #[.slice bw mb.W.length dw, .slice bg mb.G.length dg, .bool mb.bad]] _ (eqv (.bool q)) by rw [← Hq.out]; exact refSame_ no _ _ ma mb _ ((IsMem.mk rfl hw hg : IsMem no w (.agg #[.slice aw ma.W.length cw, .slice ag ma.G.length cg, .bool ma.bad]) ma).ext (hEk.trans (Since.to_ext hs))) ((IsMem.mk rfl hv hh : IsMem no w (.agg #[.slice bw mb.W.length dw, .slice bg mb.G.length dg, .bool mb.bad]) mb).ext (hEk.trans (Since.to_ext hs)))) rfl rfl Proofs.Try.func54 (by kernel_rfl) (by kernel_rfl) (by simp only [List.map_toArray, List.map_cons, List.map_nil, t66, t67]) rfl)
        · intro a wa hs hf hd
          have t62 : a.eval (.tmp 62) = _ := hd.at 15 62 (by kernel_rfl)
          have t65 : a.eval (.tmp 65) = _ := hd.at 18 65 (by kernel_rfl)
          have t68 : a.eval (.tmp 68) = _ := hd.at 21 68 (by kernel_rfl)
          exact guard_on rfl rfl t62 (yes_eqv (o_neqb rfl Proofs.Try.underlying4 t65 t68 (by simp)) rfl)
        · intro a wa hs hf hd
          have t62 : a.eval (.tmp 62) = _ := hd.at 15 62 (by kernel_rfl)
          have t69 : a.eval (.tmp 69) = _ := hd.at 22 69 (by kernel_rfl)
          exact plain_ rfl (yes_eqv (o_pick_f rfl t62 t69) rfl)
      case hG => exact ⟨stable_eqv _, stable_eqv _, stable_eqv _, stable_eqv _, stable_eqv _, stable_eqv _, stable_eqv _, stable_eqv _, stable_eqv _, stable_eqv _, stable_eqv _, stable_eqv _, stable_eqv _, stable_eqv _, stable_eqv _, stable_eqv _, stable_eqv _, stable_eqv _, stable_eqv _, stable_eqv _, stable_eqv _, stable_eqv _, stable_eqv _, stable_eqv _, trivial⟩
      case hc => kernel_rfl
      case hfin =>
        intro v2 hs2
        rintro _ rfl _ rfl _ rfl _ rfl _ rfl _ rfl _ rfl _ rfl _ rfl _ rfl _ rfl _ rfl _ rfl _ rfl _ rfl _ rfl _ rfl _ rfl _ rfl _ rfl _ rfl _ rfl _ rfl _ rfl
        rintro _ rfl
        simp only [Act.put, List.setIfInBounds_toArray, List.set_cons_zero, List.set_cons_succ]
        obtain ⟨w7, rfl, hb7⟩ := Ext.pick (Since.to_ext hs2)
        clear hs2
        have Bi_7 := Bi_6.ext (show Ext w6 w7 from (by with_reducible (repeat (first | assumption | exact Ext.refl _ | refine Ext.alloc' ?_ _ | refine Ext.store0 ?_ _ _ | refine Ext.storek ?_ _ _ _ | refine Ext.stores0 ?_ ?_ _ _ | refine Ext.storesk ?_ ?_ _ _ _ | refine Ext.drewN' ?_ _ | refine Ext.drew' ?_ | refine Ext.trans ?_ (by assumption)))))
        have Ba_7 := Ba_6.ext (show Ext w6 w7 from (by with_reducible (repeat (first | assumption | exact Ext.refl _ | refine Ext.alloc' ?_ _ | refine Ext.store0 ?_ _ _ | refine Ext.storek ?_ _ _ _ | refine Ext.stores0 ?_ ?_ _ _ | refine Ext.storesk ?_ ?_ _ _ _ | refine Ext.drewN' ?_ _ | refine Ext.drew' ?_ | refine Ext.trans ?_ (by assumption)))))
        have Bb_7 := Bb_6.ext (show Ext w6 w7 from (by with_reducible (repeat (first | assumption | exact Ext.refl _ | refine Ext.alloc' ?_ _ | refine Ext.store0 ?_ _ _ | refine Ext.storek ?_ _ _ _ | refine Ext.stores0 ?_ ?_ _ _ | refine Ext.storesk ?_ ?_ _ _ _ | refine Ext.drewN' ?_ _ | refine Ext.drew' ?_ | refine Ext.trans ?_ (by assumption)))))
        have Bp_7 := Bp_6.ext (show Ext w6 w7 from (by with_reducible (repeat (first | assumption | exact Ext.refl _ | refine Ext.alloc' ?_ _ | refine Ext.store0 ?_ _ _ | refine Ext.storek ?_ _ _ _ | refine Ext.stores0 ?_ ?_ _ _ | refine Ext.storesk ?_ ?_ _ _ _ | refine Ext.drewN' ?_ _ | refine Ext.drew' ?_ | refine Ext.trans ?_ (by assumption)))))
        have Bq_7 := Bq_6.ext (show Ext w6 w7 from (by with_reducible (repeat (first | assumption | exact Ext.refl _ | refine Ext.alloc' ?_ _ | refine Ext.store0 ?_ _ _ | refine Ext.storek ?_ _ _ _ | refine Ext.stores0 ?_ ?_ _ _ | refine Ext.storesk ?_ ?_ _ _ _ | refine Ext.drewN' ?_ _ | refine Ext.drew' ?_ | refine Ext.trans ?_ (by assumption)))))
        clear Bi_6 ci0 ci1 ci2 ci3 ci4 ci5 ci6 ci7 ci8 di0 di1 di2 di3 di4 di5 di6 di7 di8 Ba_6 ca0 ca1 ca2 da0 da1 da2 Bb_6 cb0 cb1 cb2 db0 db1 db2 Bp_6 cp0 cp1 cp2 dp0 dp1 dp2 Bq_6 cq0 cq1 cq2 dq0 dq1 dq2
        obtain ⟨ci0, ci1, ci2, ci3, ci4, ci5, ci6, ci7, ci8, di0, di1, di2, di3, di4, di5, di6, di7, di8⟩ := cells9 Bi_7
        have zi : w.heap.size < w7.heap.size := Bi_7.lt
        obtain ⟨ca0, ca1, ca2, da0, da1, da2⟩ := cells3 Ba_7
        have za : w.heap.size + 1 < w7.heap.size := Ba_7.lt
        obtain ⟨cb0, cb1, cb2, db0, db1, db2⟩ := cells3 Bb_7
        have zb : w.heap.size + 1 + 1 < w7.heap.size := Bb_7.lt
        obtain ⟨cp0, cp1, cp2, dp0, dp1, dp2⟩ := cells3 Bp_7
        have zp : w4.heap.size < w7.heap.size := Bp_7.lt
        obtain ⟨cq0, cq1, cq2, dq0, dq1, dq2⟩ := cells3 Bq_7
        have zq : w5.heap.size < w7.heap.size := Bq_7.lt
        cases r
        · by_cases q1 : n < 0
          · have q2 : ¬ 0 ≤ n := by omega
            go_wp2_with (fail)
            have hEl : Ext w w7 := (by with_reducible (repeat (first | assumption | exact Ext.refl _ | refine Ext.alloc' ?_ _ | refine Ext.store0 ?_ _ _ | refine Ext.storek ?_ _ _ _ | refine Ext.stores0 ?_ ?_ _ _ | refine Ext.storesk ?_ ?_ _ _ _ | refine Ext.drewN' ?_ _ | refine Ext.drew' ?_ | refine Ext.trans ?_ (by assumption))))
            apply region_lit2 (T := []) (L := []) (X := []) (G := [eqv _, eqv _, eqv _, eqv _, eqv _, anyG, anyG, anyG, anyG, anyG, anyG, anyG, eqv undef, anyG, anyG, anyG, anyG, anyG, anyG, anyG, anyG, eqv _, eqv _, eqv _])
            case hm => kernel_rfl
            case hop =>
              refine ⟨?_, ?_, ?_, ?_, ?_, ?_, ?_, ?_, ?_, ?_, ?_, ?_, ?_, ?_, ?_, ?_, ?_, ?_, ?_, ?_, ?_, ?_, ?_, ?_, trivial⟩
              · intro a wa hs hf hd
                have t8 := hf.off 8 (by kernel_rfl) rfl
                exact plain_ rfl (yes_eqv (o_move rfl t8) rfl)
              · intro a wa hs hf hd
                have t88 : a.eval (.tmp 88) = _ := hd.at 0 88 (by kernel_rfl)
                exact plain_ rfl (yes_eqv (o_move rfl t88) rfl)
              · intro a wa hs hf hd
                have t89 : a.eval (.tmp 89) = _ := hd.at 1 89 (by kernel_rfl)
                have t13 := hf.off 13 (by kernel_rfl) rfl
                exact guard_on rfl rfl t89 (yes_eqv (o_move rfl t13) rfl)
              · intro a wa hs hf hd
                have t89 : a.eval (.tmp 89) = _ := hd.at 1 89 (by kernel_rfl)
                have t90 : a.eval (.tmp 90) = _ := hd.at 2 90 (by kernel_rfl)
                exact guard_on rfl rfl t89 (yes_eqv (o_not rfl t90 rfl) rfl)
              · intro a wa hs hf hd
                have t89 : a.eval (.tmp 89) = _ := hd.at 1 89 (by kernel_rfl)
                have t91 : a.eval (.tmp 91) = _ := hd.at 3 91 (by kernel_rfl)
                exact guard_on rfl rfl t89 (yes_eqv (o_move rfl t91) rfl)
              · intro a wa hs hf hd
                have t92 : a.eval (.tmp 92) = _ := hd.at 4 92 (by kernel_rfl)
                exact guard_off rfl rfl t92 trivial
              · intro a wa hs hf hd
                have t92 : a.eval (.tmp 92) = _ := hd.at 4 92 (by kernel_rfl)
                exact guard_off rfl rfl t92 trivial
              · intro a wa hs hf hd
                have t92 : a.eval (.tmp 92) = _ := hd.at 4 92 (by kernel_rfl)
                exact guard_off rfl rfl t92 trivial
              · intro a wa hs hf hd
                have t92 : a.eval (.tmp 92) = _ := hd.at 4 92 (by kernel_rfl)
                exact guard_off rfl rfl t92 trivial
              · intro a wa hs hf hd
                have t92 : a.eval (.tmp 92) = _ := hd.at 4 92 (by kernel_rfl)
                exact guard_off rfl rfl t92 trivial
              · intro a wa hs hf hd
                have t92 : a.eval (.tmp 92) = _ := hd.at 4 92 (by kernel_rfl)
                exact guard_off rfl rfl t92 trivial
              · intro a wa hs hf hd
                have t92 : a.eval (.tmp 92) = _ := hd.at 4 92 (by kernel_rfl)
                exact guard_off rfl rfl t92 trivial
              · intro a wa hs hf hd
                have t92 : a.eval (.tmp 92) = _ := hd.at 4 92 (by kernel_rfl)
                exact guard_off rfl rfl t92 rfl
              · intro a wa hs hf hd
                have t100 : a.eval (.tmp 100) = _ := hd.at 12 100 (by kernel_rfl)
                exact guard_un rfl rfl t100 trivial
              · intro a wa hs hf hd
                have t100 : a.eval (.tmp 100) = _ := hd.at 12 100 (by kernel_rfl)
                exact guard_un rfl rfl t100 trivial
              · intro a wa hs hf hd
                have t100 : a.eval (.tmp 100) = _ := hd.at 12 100 (by kernel_rfl)
                exact guard_un rfl rfl t100 trivial
              · intro a wa hs hf hd
                have t100 : a.eval (.tmp 100) = _ := hd.at 12 100 (by kernel_rfl)
                exact guard_un rfl rfl t100 trivial
              · intro a wa hs hf hd
                have t100 : a.eval (.tmp 100) = _ := hd.at 12 100 (by kernel_rfl)
                exact guard_un rfl rfl t100 trivial
              · intro a wa hs hf hd
                have t100 : a.eval (.tmp 100) = _ := hd.at 12 100 (by kernel_rfl)
                exact guard_un rfl rfl t100 trivial
              · intro a wa hs hf hd
                have t100 : a.eval (.tmp 100) = _ := hd.at 12 100 (by kernel_rfl)
                exact guard_un rfl rfl t100 trivial
              · intro a wa hs hf hd
                have t92 : a.eval (.tmp 92) = _ := hd.at 4 92 (by kernel_rfl)
                exact guard_off rfl rfl t92 trivial
              · intro a wa hs hf hd
                have t89 : a.eval (.tmp 89) = _ := hd.at 1 89 (by kernel_rfl)
                have t92 : a.eval (.tmp 92) = _ := hd.at 4 92 (by kernel_rfl)
                exact guard_on rfl rfl t89 (yes_eqv (o_pick_t rfl t92 rfl) rfl)
              · intro a wa hs hf hd
                have t89 : a.eval (.tmp 89) = _ := hd.at 1 89 (by kernel_rfl)
                have t109 : a.eval (.tmp 109) = _ := hd.at 21 109 (by kernel_rfl)
                exact plain_ rfl (yes_eqv (o_pick_t rfl t89 t109) rfl)
              · intro a wa hs hf hd
                have t110 : a.eval (.tmp 110) = _ := hd.at 22 110 (by kernel_rfl)
                exact plain_ rfl (yes_eqv (o_assign rfl t110) rfl)
            case hG => exact ⟨stable_eqv _, stable_eqv _, stable_eqv _, stable_eqv _, stable_eqv _, stable_any, stable_any, stable_any, stable_any, stable_any, stable_any, stable_any, stable_eqv _, stable_any, stable_any, stable_any, stable_any, stable_any, stable_any, stable_any, stable_any, stable_eqv _, stable_eqv _, stable_eqv _, trivial⟩
            case hc => kernel_rfl
            case hfin =>
              intro v2 hs2
              rintro _ rfl _ rfl _ rfl _ rfl _ rfl _ _ _ _ _ _ _ _ _ _ _ _ _ _ _ rfl _ _ _ _ _ _ _ _ _ _ _ _ _ _ _ _ _ rfl _ rfl _ rfl
              rintro _ rfl
              simp only [Act.put, List.setIfInBounds_toArray, List.set_cons_zero, List.set_cons_succ]
              go_wp2
              go_ret
              exact ⟨_, rfl, hEl.trans (Since.to_ext hs2), rfl⟩
          · have q2 : 0 ≤ n := by omega
            by_cases q3 : 1048576 < n
            · have q4 : ¬ n ≤ 1048576 := by omega
              go_wp2_with (fail)
              have hEl : Ext w w7 := (by with_reducible (repeat (first | assumption | exact Ext.refl _ | refine Ext.alloc' ?_ _ | refine Ext.store0 ?_ _ _ | refine Ext.storek ?_ _ _ _ | refine Ext.stores0 ?_ ?_ _ _ | refine Ext.storesk ?_ ?_ _ _ _ | refine Ext.drewN' ?_ _ | refine Ext.drew' ?_ | refine Ext.trans ?_ (by assumption))))
              apply region_lit2 (T := []) (L := []) (X := []) (G := [eqv _, eqv _, eqv _, eqv _, eqv _, anyG, anyG, anyG, anyG, anyG, anyG, anyG, eqv undef, anyG, anyG, anyG, anyG, anyG, anyG, anyG, anyG, eqv _, eqv _, eqv _])
              case hm => kernel_rfl
              case hop =>
                refine ⟨?_, ?_, ?_, ?_, ?_, ?_, ?_, ?_, ?_, ?_, ?_, ?_, ?_, ?_, ?_, ?_, ?_, ?_, ?_, ?_, ?_, ?_, ?_, ?_, trivial⟩
                · intro a wa hs hf hd
                  have t8 := hf.off 8 (by kernel_rfl) rfl
                  exact plain_ rfl (yes_eqv (o_move rfl t8) rfl)
                · intro a wa hs hf hd
                  have t88 : a.eval (.tmp 88) = _ := hd.at 0 88 (by kernel_rfl)
                  exact plain_ rfl (yes_eqv (o_move rfl t88) rfl)
                · intro a wa hs hf hd
                  have t89 : a.eval (.tmp 89) = _ := hd.at 1 89 (by kernel_rfl)
                  have t13 := hf.off 13 (by kernel_rfl) rfl
                  exact guard_on rfl rfl t89 (yes_eqv (o_move rfl t13) rfl)
                · intro a wa hs hf hd
                  have t89 : a.eval (.tmp 89) = _ := hd.at 1 89 (by kernel_rfl)
                  have t90 : a.eval (.tmp 90) = _ := hd.at 2 90 (by kernel_rfl)
                  exact guard_on rfl rfl t89 (yes_eqv (o_not rfl t90 rfl) rfl)
                · intro a wa hs hf hd
                  have t89 : a.eval (.tmp 89) = _ := hd.at 1 89 (by kernel_rfl)
                  have t91 : a.eval (.tmp 91) = _ := hd.at 3 91 (by kernel_rfl)
                  exact guard_on rfl rfl t89 (yes_eqv (o_move rfl t91) rfl)
                · intro a wa hs hf hd
                  have t92 : a.eval (.tmp 92) = _ := hd.at 4 92 (by kernel_rfl)
                  exact guard_off rfl rfl t92 trivial
                · intro a wa hs hf hd
                  have t92 : a.eval (.tmp 92) = _ := hd.at 4 92 (by kernel_rfl)
                  exact guard_off rfl rfl t92 trivial
                · intro a wa hs hf hd
                  have t92 : a.eval (.tmp 92) = _ := hd.at 4 92 (by kernel_rfl)
                  exact guard_off rfl rfl t92 trivial
                · intro a wa hs hf hd
                  have t92 : a.eval (.tmp 92) = _ := hd.at 4 92 (by kernel_rfl)
                  exact guard_off rfl rfl t92 trivial
                · intro a wa hs hf hd
                  have t92 : a.eval (.tmp 92) = _ := hd.at 4 92 (by kernel_rfl)
                  exact guard_off rfl rfl t92 trivial
                · intro a wa hs hf hd
                  have t92 : a.eval (.tmp 92) = _ := hd.at 4 92 (by kernel_rfl)
                  exact guard_off rfl rfl t92 trivial
                · intro a wa hs hf hd
                  have t92 : a.eval (.tmp 92) = _ := hd.at 4 92 (by kernel_rfl)
                  exact guard_off rfl rfl t92 trivial
                · intro a wa hs hf hd
                  have t92 : a.eval (.tmp 92) = _ := hd.at 4 92 (by kernel_rfl)
                  exact guard_off rfl rfl t92 rfl
                · intro a wa hs hf hd
                  have t100 : a.eval (.tmp 100) = _ := hd.at 12 100 (by kernel_rfl)
                  exact guard_un rfl rfl t100 trivial
                · intro a wa hs hf hd
                  have t100 : a.eval (.tmp 100) = _ := hd.at 12 100 (by kernel_rfl)
                  exact guard_un rfl rfl t100 trivial
                · intro a wa hs hf hd
                  have t100 : a.eval (.tmp 100) = _ := hd.at 12 100 (by kernel_rfl)
                  exact guard_un rfl rfl t100 trivial
                · intro a wa hs hf hd
                  have t100 : a.eval (.tmp 100) = _ := hd.at 12 100 (by kernel_rfl)
                  exact guard_un rfl rfl t100 trivial
                · intro a wa hs hf hd
                  have t100 : a.eval (.tmp 100) = _ := hd.at 12 100 (by kernel_rfl)
                  exact guard_un rfl rfl t100 trivial
                · intro a wa hs hf hd
                  have t100 : a.eval (.tmp 100) = _ := hd.at 12 100 (by kernel_rfl)
                  exact guard_un rfl rfl t100 trivial
                · intro a wa hs hf hd
                  have t100 : a.eval (.tmp 100) = _ := hd.at 12 100 (by kernel_rfl)
                  exact guard_un rfl rfl t100 trivial
                · intro a wa hs hf hd
                  have t92 : a.eval (.tmp 92) = _ := hd.at 4 92 (by kernel_rfl)
                  exact guard_off rfl rfl t92 trivial
                · intro a wa hs hf hd
                  have t89 : a.eval (.tmp 89) = _ := hd.at 1 89 (by kernel_rfl)
                  have t92 : a.eval (.tmp 92) = _ := hd.at 4 92 (by kernel_rfl)
                  exact guard_on rfl rfl t89 (yes_eqv (o_pick_t rfl t92 rfl) rfl)
                · intro a wa hs hf hd
                  have t89 : a.eval (.tmp 89) = _ := hd.at 1 89 (by kernel_rfl)
                  have t109 : a.eval (.tmp 109) = _ := hd.at 21 109 (by kernel_rfl)
                  exact plain_ rfl (yes_eqv (o_pick_t rfl t89 t109) rfl)
                · intro a wa hs hf hd
                  have t110 : a.eval (.tmp 110) = _ := hd.at 22 110 (by kernel_rfl)
                  exact plain_ rfl (yes_eqv (o_assign rfl t110) rfl)
              case hG => exact ⟨stable_eqv _, stable_eqv _, stable_eqv _, stable_eqv _, stable_eqv _, stable_any, stable_any, stable_any, stable_any, stable_any, stable_any, stable_any, stable_eqv _, stable_any, stable_any, stable_any, stable_any, stable_any, stable_any, stable_any, stable_any, stable_eqv _, stable_eqv _, stable_eqv _, trivial⟩
              case hc => kernel_rfl
              case hfin =>
                intro v2 hs2
                rintro _ rfl _ rfl _ rfl _ rfl _ rfl _ _ _ _ _ _ _ _ _ _ _ _ _ _ _ rfl _ _ _ _ _ _ _ _ _ _ _ _ _ _ _ _ _ rfl _ rfl _ rfl
                rintro _ rfl
                simp only [Act.put, List.setIfInBounds_toArray, List.set_cons_zero, List.set_cons_succ]
                go_wp2
                go_ret
                exact ⟨_, rfl, hEl.trans (Since.to_ext hs2), rfl⟩
            · have q4 : n ≤ 1048576 := by omega
              go_wp2_with (fail)
              go_at_call 57
              refine (atF_ n c _ (by omega) (by omega) (by omega) (by omega)).calls.mono ?_
              rintro e w8 ⟨_, rfl, hb8, rfl⟩
              have Bi_8 := Bi_7.ext (show Ext w7 w8 from (by with_reducible (repeat (first | assumption | exact Ext.refl _ | refine Ext.alloc' ?_ _ | refine Ext.store0 ?_ _ _ | refine Ext.storek ?_ _ _ _ | refine Ext.stores0 ?_ ?_ _ _ | refine Ext.storesk ?_ ?_ _ _ _ | refine Ext.drewN' ?_ _ | refine Ext.drew' ?_ | refine Ext.trans ?_ (by assumption)))))
              have Ba_8 := Ba_7.ext (show Ext w7 w8 from (by with_reducible (repeat (first | assumption | exact Ext.refl _ | refine Ext.alloc' ?_ _ | refine Ext.store0 ?_ _ _ | refine Ext.storek ?_ _ _ _ | refine Ext.stores0 ?_ ?_ _ _ | refine Ext.storesk ?_ ?_ _ _ _ | refine Ext.drewN' ?_ _ | refine Ext.drew' ?_ | refine Ext.trans ?_ (by assumption)))))
              have Bb_8 := Bb_7.ext (show Ext w7 w8 from (by with_reducible (repeat (first | assumption | exact Ext.refl _ | refine Ext.alloc' ?_ _ | refine Ext.store0 ?_ _ _ | refine Ext.storek ?_ _ _ _ | refine Ext.stores0 ?_ ?_ _ _ | refine Ext.storesk ?_ ?_ _ _ _ | refine Ext.drewN' ?_ _ | refine Ext.drew' ?_ | refine Ext.trans ?_ (by assumption)))))
              have Bp_8 := Bp_7.ext (show Ext w7 w8 from (by with_reducible (repeat (first | assumption | exact Ext.refl _ | refine Ext.alloc' ?_ _ | refine Ext.store0 ?_ _ _ | refine Ext.storek ?_ _ _ _ | refine Ext.stores0 ?_ ?_ _ _ | refine Ext.storesk ?_ ?_ _ _ _ | refine Ext.drewN' ?_ _ | refine Ext.drew' ?_ | refine Ext.trans ?_ (by assumption)))))
              have Bq_8 := Bq_7.ext (show Ext w7 w8 from (by with_reducible (repeat (first | assumption | exact Ext.refl _ | refine Ext.alloc' ?_ _ | refine Ext.store0 ?_ _ _ | refine Ext.storek ?_ _ _ _ | refine Ext.stores0 ?_ ?_ _ _ | refine Ext.storesk ?_ ?_ _ _ _ | refine Ext.drewN' ?_ _ | refine Ext.drew' ?_ | refine Ext.trans ?_ (by assumption)))))
              clear Bi_7 ci0 ci1 ci2 ci3 ci4 ci5 ci6 ci7 ci8 di0 di1 di2 di3 di4 di5 di6 di7 di8 Ba_7 ca0 ca1 ca2 da0 da1 da2 Bb_7 cb0 cb1 cb2 db0 db1 db2 Bp_7 cp0 cp1 cp2 dp0 dp1 dp2 Bq_7 cq0 cq1 cq2 dq0 dq1 dq2
              obtain ⟨ci0, ci1, ci2, ci3, ci4, ci5, ci6, ci7, ci8, di0, di1, di2, di3, di4, di5, di6, di7, di8⟩ := cells9 Bi_8
              have zi : w.heap.size < w8.heap.size := Bi_8.lt
              obtain ⟨ca0, ca1, ca2, da0, da1, da2⟩ := cells3 Ba_8
              have za : w.heap.size + 1 < w8.heap.size := Ba_8.lt
              obtain ⟨cb0, cb1, cb2, db0, db1, db2⟩ := cells3 Bb_8
              have zb : w.heap.size + 1 + 1 < w8.heap.size := Bb_8.lt
              obtain ⟨cp0, cp1, cp2, dp0, dp1, dp2⟩ := cells3 Bp_8
              have zp : w4.heap.size < w8.heap.size := Bp_8.lt
              obtain ⟨cq0, cq1, cq2, dq0, dq1, dq2⟩ := cells3 Bq_8
              have zq : w5.heap.size < w8.heap.size := Bq_8.lt
              go_wp2_with (fail)
              go_at_call 58
              refine (refAt_ n c _ (by omega) (by omega) (by omega) (by omega)).calls.mono ?_
              rintro e w9 ⟨_, rfl, hb9, rfl⟩
              have Bi_9 := Bi_8.ext (show Ext w8 w9 from (by with_reducible (repeat (first | assumption | exact Ext.refl _ | refine Ext.alloc' ?_ _ | refine Ext.store0 ?_ _ _ | refine Ext.storek ?_ _ _ _ | refine Ext.stores0 ?_ ?_ _ _ | refine Ext.storesk ?_ ?_ _ _ _ | refine Ext.drewN' ?_ _ | refine Ext.drew' ?_ | refine Ext.trans ?_ (by assumption)))))
              have Ba_9 := Ba_8.ext (show Ext w8 w9 from (by with_reducible (repeat (first | assumption | exact Ext.refl _ | refine Ext.alloc' ?_ _ | refine Ext.store0 ?_ _ _ | refine Ext.storek ?_ _ _ _ | refine Ext.stores0 ?_ ?_ _ _ | refine Ext.storesk ?_ ?_ _ _ _ | refine Ext.drewN' ?_ _ | refine Ext.drew' ?_ | refine Ext.trans ?_ (by assumption)))))
              have Bb_9 := Bb_8.ext (show Ext w8 w9 from (by with_reducible (repeat (first | assumption | exact Ext.refl _ | refine Ext.alloc' ?_ _ | refine Ext.store0 ?_ _ _ | refine Ext.storek ?_ _ _ _ | refine Ext.stores0 ?_ ?_ _ _ | refine Ext.storesk ?_ ?_ _ _ _ | refine Ext.drewN' ?_ _ | refine Ext.drew' ?_ | refine Ext.trans ?_ (by assumption)))))
              have Bp_9 := Bp_8.ext (show Ext w8 w9 from (by with_reducible (repeat (first | assumption | exact Ext.refl _ | refine Ext.alloc' ?_ _ | refine Ext.store0 ?_ _ _ | refine Ext.storek ?_ _ _ _ | refine Ext.stores0 ?_ ?_ _ _ | refine Ext.storesk ?_ ?_ _ _ _ | refine Ext.drewN' ?_ _ | refine Ext.drew' ?_ | refine Ext.trans ?_ (by assumption)))))
              have Bq_9 := Bq_8.ext (show Ext w8 w9 from (by with_reducible (repeat (first | assumption | exact Ext.refl _ | refine Ext.alloc' ?_ _ | refine Ext.store0 ?_ _ _ | refine Ext.storek ?_ _ _ _ | refine Ext.stores0 ?_ ?_ _ _ | refine Ext.storesk ?_ ?_ _ _ _ | refine Ext.drewN' ?_ _ | refine Ext.drew' ?_ | refine Ext.trans ?_ (by assumption)))))
              clear Bi_8 ci0 ci1 ci2 ci3 ci4 ci5 ci6 ci7 ci8 di0 di1 di2 di3 di4 di5 di6 di7 di8 Ba_8 ca0 ca1 ca2 da0 da1 da2 Bb_8 cb0 cb1 cb2 db0 db1 db2 Bp_8 cp0 cp1 cp2 dp0 dp1 dp2 Bq_8 cq0 cq1 cq2 dq0 dq1 dq2
              obtain ⟨ci0, ci1, ci2, ci3, ci4, ci5, ci6, ci7, ci8, di0, di1, di2, di3, di4, di5, di6, di7, di8⟩ := cells9 Bi_9
              have zi : w.heap.size < w9.heap.size := Bi_9.lt
              obtain ⟨ca0, ca1, ca2, da0, da1, da2⟩ := cells3 Ba_9
              have za : w.heap.size + 1 < w9.heap.size := Ba_9.lt
              obtain ⟨cb0, cb1, cb2, db0, db1, db2⟩ := cells3 Bb_9
              have zb : w.heap.size + 1 + 1 < w9.heap.size := Bb_9.lt
              obtain ⟨cp0, cp1, cp2, dp0, dp1, dp2⟩ := cells3 Bp_9
              have zp : w4.heap.size < w9.heap.size := Bp_9.lt
              obtain ⟨cq0, cq1, cq2, dq0, dq1, dq2⟩ := cells3 Bq_9
              have zq : w5.heap.size < w9.heap.size := Bq_9.lt
              go_wp2_with (fail)
              have hEl : Ext w w9 := (by with_reducible (repeat (first | assumption | exact Ext.refl _ | refine Ext.alloc' ?_ _ | refine Ext.store0 ?_ _ _ | refine Ext.storek ?_ _ _ _ | refine Ext.stores0 ?_ ?_ _ _ | refine Ext.storesk ?_ ?_ _ _ _ | refine Ext.drewN' ?_ _ | refine Ext.drew' ?_ | refine Ext.trans ?_ (by assumption))))
              apply region_lit2 (T := []) (L := []) (X := []) (G := [eqv _, eqv _, eqv _, eqv _, eqv _, anyG, anyG, anyG, anyG, anyG, anyG, anyG, eqv undef, anyG, anyG, anyG, anyG, anyG, anyG, anyG, anyG, eqv _, eqv _, eqv _])
              case hm => kernel_rfl
              case hop =>
                refine ⟨?_, ?_, ?_, ?_, ?_, ?_, ?_, ?_, ?_, ?_, ?_, ?_, ?_, ?_, ?_, ?_, ?_, ?_, ?_, ?_, ?_, ?_, ?_, ?_, trivial⟩
                · intro a wa hs hf hd
                  have t8 := hf.off 8 (by kernel_rfl) rfl
                  exact plain_ rfl (yes_eqv (o_move rfl t8) rfl)
                · intro a wa hs hf hd
                  have t88 : a.eval (.tmp 88) = _ := hd.at 0 88 (by kernel_rfl)
                  exact plain_ rfl (yes_eqv (o_move rfl t88) rfl)
                · intro a wa hs hf hd
                  have t89 : a.eval (.tmp 89) = _ := hd.at 1 89 (by kernel_rfl)
                  have t13 := hf.off 13 (by kernel_rfl) rfl
                  exact guard_on rfl rfl t89 (yes_eqv (o_move rfl t13) rfl)
                · intro a wa hs hf hd
                  have t89 : a.eval (.tmp 89) = _ := hd.at 1 89 (by kernel_rfl)
                  have t90 : a.eval (.tmp 90) = _ := hd.at 2 90 (by kernel_rfl)
                  exact guard_on rfl rfl t89 (yes_eqv (o_not rfl t90 rfl) rfl)
                · intro a wa hs hf hd
                  have t89 : a.eval (.tmp 89) = _ := hd.at 1 89 (by kernel_rfl)
                  have t91 : a.eval (.tmp 91) = _ := hd.at 3 91 (by kernel_rfl)
                  exact guard_on rfl rfl t89 (yes_eqv (o_move rfl t91) rfl)
                · intro a wa hs hf hd
                  have t92 : a.eval (.tmp 92) = _ := hd.at 4 92 (by kernel_rfl)
                  exact guard_off rfl rfl t92 trivial
                · intro a wa hs hf hd
                  have t92 : a.eval (.tmp 92) = _ := hd.at 4 92 (by kernel_rfl)
                  exact guard_off rfl rfl t92 trivial
                · intro a wa hs hf hd
                  have t92 : a.eval (.tmp 92) = _ := hd.at 4 92 (by kernel_rfl)
                  exact guard_off rfl rfl t92 trivial
                · intro a wa hs hf hd
                  have t92 : a.eval (.tmp 92) = _ := hd.at 4 92 (by kernel_rfl)
                  exact guard_off rfl rfl t92 trivial
                · intro a wa hs hf hd
                  have t92 : a.eval (.tmp 92) = _ := hd.at 4 92 (by kernel_rfl)
                  exact guard_off rfl rfl t92 trivial
                · intro a wa hs hf hd
                  have t92 : a.eval (.tmp 92) = _ := hd.at 4 92 (by kernel_rfl)
                  exact guard_off rfl rfl t92 trivial
                · intro a wa hs hf hd
                  have t92 : a.eval (.tmp 92) = _ := hd.at 4 92 (by kernel_rfl)
                  exact guard_off rfl rfl t92 trivial
                · intro a wa hs hf hd
                  have t92 : a.eval (.tmp 92) = _ := hd.at 4 92 (by kernel_rfl)
                  exact guard_off rfl rfl t92 rfl
                · intro a wa hs hf hd
                  have t100 : a.eval (.tmp 100) = _ := hd.at 12 100 (by kernel_rfl)
                  exact guard_un rfl rfl t100 trivial
                · intro a wa hs hf hd
                  have t100 : a.eval (.tmp 100) = _ := hd.at 12 100 (by kernel_rfl)
                  exact guard_un rfl rfl t100 trivial
                · intro a wa hs hf hd
                  have t100 : a.eval (.tmp 100) = _ := hd.at 12 100 (by kernel_rfl)
                  exact guard_un rfl rfl t100 trivial
                · intro a wa hs hf hd
                  have t100 : a.eval (.tmp 100) = _ := hd.at 12 100 (by kernel_rfl)
                  exact guard_un rfl rfl t100 trivial
                · intro a wa hs hf hd
                  have t100 : a.eval (.tmp 100) = _ := hd.at 12 100 (by kernel_rfl)
                  exact guard_un rfl rfl t100 trivial
                · intro a wa hs hf hd
                  have t100 : a.eval (.tmp 100) = _ := hd.at 12 100 (by kernel_rfl)
                  exact guard_un rfl rfl t100 trivial
                · intro a wa hs hf hd
                  have t100 : a.eval (.tmp 100) = _ := hd.at 12 100 (by kernel_rfl)
                  exact guard_un rfl rfl t100 trivial
                · intro a wa hs hf hd
                  have t92 : a.eval (.tmp 92) = _ := hd.at 4 92 (by kernel_rfl)
                  exact guard_off rfl rfl t92 trivial
                · intro a wa hs hf hd
                  have t89 : a.eval (.tmp 89) = _ := hd.at 1 89 (by kernel_rfl)
                  have t92 : a.eval (.tmp 92) = _ := hd.at 4 92 (by kernel_rfl)
                  exact guard_on rfl rfl t89 (yes_eqv (o_pick_t rfl t92 rfl) rfl)
                · intro a wa hs hf hd
                  have t89 : a.eval (.tmp 89) = _ := hd.at 1 89 (by kernel_rfl)
                  have t109 : a.eval (.tmp 109) = _ := hd.at 21 109 (by kernel_rfl)
                  exact plain_ rfl (yes_eqv (o_pick_t rfl t89 t109) rfl)
                · intro a wa hs hf hd
                  have t110 : a.eval (.tmp 110) = _ := hd.at 22 110 (by kernel_rfl)
                  exact plain_ rfl (yes_eqv (o_assign rfl t110) rfl)
              case hG => exact ⟨stable_eqv _, stable_eqv _, stable_eqv _, stable_eqv _, stable_eqv _, stable_any, stable_any, stable_any, stable_any, stable_any, stable_any, stable_any, stable_eqv _, stable_any, stable_any, stable_any, stable_any, stable_any, stable_any, stable_any, stable_any, stable_eqv _, stable_eqv _, stable_eqv _, trivial⟩
              case hc => kernel_rfl
              case hfin =>
                intro v2 hs2
                rintro _ rfl _ rfl _ rfl _ rfl _ rfl _ _ _ _ _ _ _ _ _ _ _ _ _ _ _ rfl _ _ _ _ _ _ _ _ _ _ _ _ _ _ _ _ _ rfl _ rfl _ rfl
                rintro _ rfl
                simp only [Act.put, List.setIfInBounds_toArray, List.set_cons_zero, List.set_cons_succ]
                go_wp2
                go_ret
                exact ⟨_, rfl, hEl.trans (Since.to_ext hs2), rfl⟩
        · have hFit := Fits.of_right Hr.out
          obtain ⟨nd, hd⟩ : ∃ nd, nodeD ma.W.length x = nd := ⟨_, rfl⟩
          obtain ⟨cn, hc⟩ : ∃ cn : Int, ((countD ma.G 1 c : Nat) : Int) = cn := ⟨_, rfl⟩
          have Hd := Lib.hid hd; have Hc := Lib.hid hc; have HF := Lib.hid hFit
          clear hd hc
          by_cases q1 : n < 0
          · have q2 : ¬ 0 ≤ n := by omega
            go_wp2_with (fail)
            have hEl : Ext w w7 := (by with_reducible (repeat (first | assumption | exact Ext.refl _ | refine Ext.alloc' ?_ _ | refine Ext.store0 ?_ _ _ | refine Ext.storek ?_ _ _ _ | refine Ext.stores0 ?_ ?_ _ _ | refine Ext.storesk ?_ ?_ _ _ _ | refine Ext.drewN' ?_ _ | refine Ext.drew' ?_ | refine Ext.trans ?_ (by assumption))))
            apply region_lit2 (T := []) (L := []) (X := []) (G := [eqv _, eqv _, eqv _, eqv _, eqv _, eqv _, eqv _, eqv (.int .i64 nd), eqv _, eqv _, eqv (.int .i64 nd), eqv (.bool true), eqv _, eqv _, eqv _, eqv (.int .i64 cn), eqv _, eqv _, eqv (.int .i64 cn), eqv (.bool true), eqv _, eqv _, eqv _, eqv _])
            case hm => kernel_rfl
            case hop =>
              refine ⟨?_, ?_, ?_, ?_, ?_, ?_, ?_, ?_, ?_, ?_, ?_, ?_, ?_, ?_, ?_, ?_, ?_, ?_, ?_, ?_, ?_, ?_, ?_, ?_, trivial⟩
              · intro a wa hs hf hd
                have t8 := hf.off 8 (by kernel_rfl) rfl
                exact plain_ rfl (yes_eqv (o_move rfl t8) rfl)
              · intro a wa hs hf hd
                have t88 : a.eval (.tmp 88) = _ := hd.at 0 88 (by kernel_rfl)
                exact plain_ rfl (yes_eqv (o_move rfl t88) rfl)
              · intro a wa hs hf hd
                have t89 : a.eval (.tmp 89) = _ := hd.at 1 89 (by kernel_rfl)
                have t13 := hf.off 13 (by kernel_rfl) rfl
                exact guard_on rfl rfl t89 (yes_eqv (o_move rfl t13) rfl)
              · intro a wa hs hf hd
                have t89 : a.eval (.tmp 89) = _ := hd.at 1 89 (by kernel_rfl)
                have t90 : a.eval (.tmp 90) = _ := hd.at 2 90 (by kernel_rfl)
                exact guard_on rfl rfl t89 (yes_eqv (o_not rfl t90 rfl) rfl)
              · intro a wa hs hf hd
                have t89 : a.eval (.tmp 89) = _ := hd.at 1 89 (by kernel_rfl)
                have t91 : a.eval (.tmp 91) = _ := hd.at 3 91 (by kernel_rfl)
                exact guard_on rfl rfl t89 (yes_eqv (o_move rfl t91) rfl)
              · intro a wa hs hf hd
                have t92 : a.eval (.tmp 92) = _ := hd.at 4 92 (by kernel_rfl)
                have t3 := hf.off 3 (by kernel_rfl) rfl
                exact guard_on rfl rfl t92 (yes_eqv (o_load3 rfl Proofs.Try.underlying50 rfl (by kernel_rfl) t3 ((Ba_7.since hs rfl).cell rfl) ((Ba_7.since hs rfl).cell rfl) ((Ba_7.since hs rfl).cell rfl)) rfl)
              · intro a wa hs hf hd
                have t92 : a.eval (.tmp 92) = _ := hd.at 4 92 (by kernel_rfl)
                have t6 := hf.off 6 (by kernel_rfl) rfl
                exact guard_on rfl rfl t92 (yes_eqv (o_move rfl t6) rfl)
              · intro a wa hs hf hd
                have t92 : a.eval (.tmp 92) = _ := hd.at 4 92 (by kernel_rfl)
                have t93 : a.eval (.tmp 93) = _ := hd.at 5 93 (by kernel_rfl)
                have t94 : a.eval (.tmp 94) = _ := hd.at 6 94 (by kernel_rfl)
                exact guard_on rfl rfl t92 (yes_gives (show Gives Proofs.Try.prog 59 #[.agg #[.slice aw ma.W.length cw, .slice ag ma.G.length cg, .bool ma.bad], .int .i64 x] _ (eqv (.int .i64 nd)) by rw [← Hd.out]; exact node_ no _ ma x _ ((IsMem.mk rfl hw hg : IsMem no w (.agg #[.slice aw ma.W.length cw, .slice ag ma.G.length cg, .bool ma.bad]) ma).ext (hEl.trans (Since.to_ext hs))) hx0 hx1) rfl rfl Proofs.Try.func59 (by kernel_rfl) (by kernel_rfl) (by simp only [List.map_toArray, List.map_cons, List.map_nil, t93, t94]) rfl)
              · intro a wa hs hf hd
                have t92 : a.eval (.tmp 92) = _ := hd.at 4 92 (by kernel_rfl)
                have t3 := hf.off 3 (by kernel_rfl) rfl
                exact guard_on rfl rfl t92 (yes_eqv (o_load3 rfl Proofs.Try.underlying50 rfl (by kernel_rfl) t3 ((Ba_7.since hs rfl).cell rfl) ((Ba_7.since hs rfl).cell rfl) ((Ba_7.since hs rfl).cell rfl)) rfl)
              · intro a wa hs hf hd
                have t92 : a.eval (.tmp 92) = _ := hd.at 4 92 (by kernel_rfl)
                have t6 := hf.off 6 (by kernel_rfl) rfl
                exact guard_on rfl rfl t92 (yes_eqv (o_move rfl t6) rfl)
              · intro a wa hs hf hd
                have t92 : a.eval (.tmp 92) = _ := hd.at 4 92 (by kernel_rfl)
                have t96 : a.eval (.tmp 96) = _ := hd.at 8 96 (by kernel_rfl)
                have t97 : a.eval (.tmp 97) = _ := hd.at 9 97 (by kernel_rfl)
                exact guard_on rfl rfl t92 (yes_gives (show Gives Proofs.Try.prog 60 #[.agg #[.slice aw ma.W.length cw, .slice ag ma.G.length cg, .bool ma.bad], .int .i64 x] _ (eqv (.int .i64 nd)) by rw [← Hd.out]; exact refNode_ no _ ma x _ ((IsMem.mk rfl hw hg : IsMem no w (.agg #[.slice aw ma.W.length cw, .slice ag ma.G.length cg, .bool ma.bad]) ma).ext (hEl.trans (Since.to_ext hs))) hFit) rfl rfl Proofs.Try.func60 (by kernel_rfl) (by kernel_rfl) (by simp only [List.map_toArray, List.map_cons, List.map_nil, t96, t97]) rfl)
              · intro a wa hs hf hd
                have t92 : a.eval (.tmp 92) = _ := hd.at 4 92 (by kernel_rfl)
                have t95 : a.eval (.tmp 95) = _ := hd.at 7 95 (by kernel_rfl)
                have t98 : a.eval (.tmp 98) = _ := hd.at 10 98 (by kernel_rfl)
                exact guard_on rfl rfl t92 (yes_eqv (o_eql rfl t95 t98 (by simp)) rfl)
              · intro a wa hs hf hd
                have t92 : a.eval (.tmp 92) = _ := hd.at 4 92 (by kernel_rfl)
                have t99 : a.eval (.tmp 99) = _ := hd.at 11 99 (by kernel_rfl)
                exact guard_on rfl rfl t92 (yes_eqv (o_move rfl t99) rfl)
              · intro a wa hs hf hd
                have t100 : a.eval (.tmp 100) = _ := hd.at 12 100 (by kernel_rfl)
                have t3 := hf.off 3 (by kernel_rfl) rfl
                exact guard_on rfl rfl t100 (yes_eqv (o_load3 rfl Proofs.Try.underlying50 rfl (by kernel_rfl) t3 ((Ba_7.since hs rfl).cell rfl) ((Ba_7.since hs rfl).cell rfl) ((Ba_7.since hs rfl).cell rfl)) rfl)
              · intro a wa hs hf hd
                have t100 : a.eval (.tmp 100) = _ := hd.at 12 100 (by kernel_rfl)
                have t14 := hf.off 14 (by kernel_rfl) rfl
                exact guard_on rfl rfl t100 (yes_eqv (o_move rfl t14) rfl)
              · intro a wa hs hf hd
                have t100 : a.eval (.tmp 100) = _ := hd.at 12 100 (by kernel_rfl)
                have t101 : a.eval (.tmp 101) = _ := hd.at 13 101 (by kernel_rfl)
                have t102 : a.eval (.tmp 102) = _ := hd.at 14 102 (by kernel_rfl)
                exact guard_on rfl rfl t100 (yes_gives (show Gives Proofs.Try.prog 61 #[.agg #[.slice aw ma.W.length cw, .slice ag ma.G.length cg, .bool ma.bad], .int .i64 c] _ (eqv (.int .i64 cn)) by rw [← Hc.out]; exact count_ no _ ma c _ ((IsMem.mk rfl hw hg : IsMem no w (.agg #[.slice aw ma.W.length cw, .slice ag ma.G.length cg, .bool ma.bad]) ma).ext (hEl.trans (Since.to_ext hs))) hFit.2.1) rfl rfl Proofs.Try.func61 (by kernel_rfl) (by kernel_rfl) (by simp only [List.map_toArray, List.map_cons, List.map_nil, t101, t102]) rfl)
              · intro a wa hs hf hd
                have t100 : a.eval (.tmp 100) = _ := hd.at 12 100 (by kernel_rfl)
                have t3 := hf.off 3 (by kernel_rfl) rfl
                exact guard_on rfl rfl t100 (yes_eqv (o_load3 rfl Proofs.Try.underlying50 rfl (by kernel_rfl) t3 ((Ba_7.since hs rfl).cell rfl) ((Ba_7.since hs rfl).cell rfl) ((Ba_7.since hs rfl).cell rfl)) rfl)
              · intro a wa hs hf hd
                have t100 : a.eval (.tmp 100) = _ := hd.at 12 100 (by kernel_rfl)
                have t14 := hf.off 14 (by kernel_rfl) rfl
                exact guard_on rfl rfl t100 (yes_eqv (o_move rfl t14) rfl)
              · intro a wa hs hf hd
                have t100 : a.eval (.tmp 100) = _ := hd.at 12 100 (by kernel_rfl)
                have t104 : a.eval (.tmp 104) = _ := hd.at 16 104 (by kernel_rfl)
                have t105 : a.eval (.tmp 105) = _ := hd.at 17 105 (by kernel_rfl)
                exact guard_on rfl rfl t100 (yes_gives (show Gives Proofs.Try.prog 62 #[.agg #[.slice aw ma.W.length cw, .slice ag ma.G.length cg, .bool ma.bad], .int .i64 c] _ (eqv (.int .i64 cn)) by rw [← Hc.out]; exact refCount_ no _ ma c _ ((IsMem.mk rfl hw hg : IsMem no w (.agg #[.slice aw ma.W.length cw, .slice ag ma.G.length cg, .bool ma.bad]) ma).ext (hEl.trans (Since.to_ext hs))) hFit.2.1) rfl rfl Proofs.Try.func62 (by kernel_rfl) (by kernel_rfl) (by simp only [List.map_toArray, List.map_cons, List.map_nil, t104, t105]) rfl)
              · intro a wa hs hf hd
                have t100 : a.eval (.tmp 100) = _ := hd.at 12 100 (by kernel_rfl)
                have t103 : a.eval (.tmp 103) = _ := hd.at 15 103 (by kernel_rfl)
                have t106 : a.eval (.tmp 106) = _ := hd.at 18 106 (by kernel_rfl)
                exact guard_on rfl rfl t100 (yes_eqv (o_eql rfl t103 t106 (by simp)) rfl)
              · intro a wa hs hf hd
                have t92 : a.eval (.tmp 92) = _ := hd.at 4 92 (by kernel_rfl)
                have t100 : a.eval (.tmp 100) = _ := hd.at 12 100 (by kernel_rfl)
                have t107 : a.eval (.tmp 107) = _ := hd.at 19 107 (by kernel_rfl)
                exact guard_on rfl rfl t92 (yes_eqv (o_pick_t rfl t100 t107) rfl)
              · intro a wa hs hf hd
                have t89 : a.eval (.tmp 89) = _ := hd.at 1 89 (by kernel_rfl)
                have t92 : a.eval (.tmp 92) = _ := hd.at 4 92 (by kernel_rfl)
                have t108 : a.eval (.tmp 108) = _ := hd.at 20 108 (by kernel_rfl)
                exact guard_on rfl rfl t89 (yes_eqv (o_pick_f rfl t92 t108) rfl)
              · intro a wa hs hf hd
                have t89 : a.eval (.tmp 89) = _ := hd.at 1 89 (by kernel_rfl)
                have t109 : a.eval (.tmp 109) = _ := hd.at 21 109 (by kernel_rfl)
                exact plain_ rfl (yes_eqv (o_pick_t rfl t89 t109) rfl)
              · intro a wa hs hf hd
                have t110 : a.eval (.tmp 110) = _ := hd.at 22 110 (by kernel_rfl)
                exact plain_ rfl (yes_eqv (o_assign rfl t110) rfl)
            case hG => exact ⟨stable_eqv _, stable_eqv _, stable_eqv _, stable_eqv _, stable_eqv _, stable_eqv _, stable_eqv _, stable_eqv _, stable_eqv _, stable_eqv _, stable_eqv _, stable_eqv _, stable_eqv _, stable_eqv _, stable_eqv _, stable_eqv _, stable_eqv _, stable_eqv _, stable_eqv _, stable_eqv _, stable_eqv _, stable_eqv _, stable_eqv _, stable_eqv _, trivial⟩
            case hc => kernel_rfl
            case hfin =>
              intro v2 hs2
              rintro _ rfl _ rfl _ rfl _ rfl _ rfl _ rfl _ rfl _ rfl _ rfl _ rfl _ rfl _ rfl _ rfl _ rfl _ rfl _ rfl _ rfl _ rfl _ rfl _ rfl _ rfl _ rfl _ rfl _ rfl
              rintro _ rfl
              simp only [Act.put, List.setIfInBounds_toArray, List.set_cons_zero, List.set_cons_succ]
              go_wp2
              go_ret
              exact ⟨_, rfl, hEl.trans (Since.to_ext hs2), rfl⟩
          · have q2 : 0 ≤ n := by omega
            by_cases q3 : 1048576 < n
            · have q4 : ¬ n ≤ 1048576 := by omega
              go_wp2_with (fail)
              have hEl : Ext w w7 := (by with_reducible (repeat (first | assumption | exact Ext.refl _ | refine Ext.alloc' ?_ _ | refine Ext.store0 ?_ _ _ | refine Ext.storek ?_ _ _ _ | refine Ext.stores0 ?_ ?_ _ _ | refine Ext.storesk ?_ ?_ _ _ _ | refine Ext.drewN' ?_ _ | refine Ext.drew' ?_ | refine Ext.trans ?_ (by assumption))))
              apply region_lit2 (T := []) (L := []) (X := []) (G := [eqv _, eqv _, eqv _, eqv _, eqv _, eqv _, eqv _, eqv (.int .i64 nd), eqv _, eqv _, eqv (.int .i64 nd), eqv (.bool true), eqv _, eqv _, eqv _, eqv (.int .i64 cn), eqv _, eqv _, eqv (.int .i64 cn), eqv (.bool true), eqv _, eqv _, eqv _, eqv _])
              case hm => kernel_rfl
              case hop =>
                refine ⟨?_, ?_, ?_, ?_, ?_, ?_, ?_, ?_, ?_, ?_, ?_, ?_, ?_, ?_, ?_, ?_, ?_, ?_, ?_, ?_, ?_, ?_, ?_, ?_, trivial⟩
                · intro a wa hs hf hd
                  have t8 := hf.off 8 (by kernel_rfl) rfl
                  exact plain_ rfl (yes_eqv (o_move rfl t8) rfl)
                · intro a wa hs hf hd
                  have t88 : a.eval (.tmp 88) = _ := hd.at 0 88 (by kernel_rfl)
                  exact plain_ rfl (yes_eqv (o_move rfl t88) rfl)
                · intro a wa hs hf hd
                  have t89 : a.eval (.tmp 89) = _ := hd.at 1 89 (by kernel_rfl)
                  have t13 := hf.off 13 (by kernel_rfl) rfl
                  exact guard_on rfl rfl t89 (yes_eqv (o_move rfl t13) rfl)
                · intro a wa hs hf hd
                  have t89 : a.eval (.tmp 89) = _ := hd.at 1 89 (by kernel_rfl)
                  have t90 : a.eval (.tmp 90) = _ := hd.at 2 90 (by kernel_rfl)
                  exact guard_on rfl rfl t89 (yes_eqv (o_not rfl t90 rfl) rfl)
                · intro a wa hs hf hd
                  have t89 : a.eval (.tmp 89) = _ := hd.at 1 89 (by kernel_rfl)
                  have t91 : a.eval (.tmp 91) = _ := hd.at 3 91 (by kernel_rfl)
                  exact guard_on rfl rfl t89 (yes_eqv (o_move rfl t91) rfl)
                · intro a wa hs hf hd
                  have t92 : a.eval (.tmp 92) = _ := hd.at 4 92 (by kernel_rfl)
                  have t3 := hf.off 3 (by kernel_rfl) rfl
                  exact guard_on rfl rfl t92 (yes_eqv (o_load3 rfl Proofs.Try.underlying50 rfl (by kernel_rfl) t3 ((Ba_7.since hs rfl).cell rfl) ((Ba_7.since hs rfl).cell rfl) ((Ba_7.since hs rfl).cell rfl)) rfl)
                · intro a wa hs hf hd
                  have t92 : a.eval (.tmp 92) = _ := hd.at 4 92 (by kernel_rfl)
                  have t6 := hf.off 6 (by kernel_rfl) rfl
                  exact guard_on rfl rfl t92 (yes_eqv (o_move rfl t6) rfl)
                · intro a wa hs hf hd
                  have t92 : a.eval (.tmp 92) = _ := hd.at 4 92 (by kernel_rfl)
                  have t93 : a.eval (.tmp 93) = _ := hd.at 5 93 (by kernel_rfl)
                  have t94 : a.eval (.tmp 94) = _ := hd.at 6 94 (by kernel_rfl)
                  exact guard_on rfl rfl t92 (yes_gives (show Gives Proofs.Try.prog 59 #[.agg #[.slice aw ma.W.length cw, .slice ag ma.G.length cg, .bool ma.bad], .int .i64 x] _ (eqv (.int .i64 nd)) by rw [← Hd.out]; exact node_ no _ ma x _ ((IsMem.mk rfl hw hg : IsMem no w (.agg #[.slice aw ma.W.length cw, .slice ag ma.G.length cg, .bool ma.bad]) ma).ext (hEl.trans (Since.to_ext hs))) hx0 hx1) rfl rfl Proofs.Try.func59 (by kernel_rfl) (by kernel_rfl) (by simp only [List.map_toArray, List.map_cons, List.map_nil, t93, t94]) rfl)
                · intro a wa hs hf hd
                  have t92 : a.eval (.tmp 92) = _ := hd.at 4 92 (by kernel_rfl)
                  have t3 := hf.off 3 (by kernel_rfl) rfl
                  exact guard_on rfl rfl t92 (yes_eqv (o_load3 rfl Proofs.Try.underlying50 rfl (by kernel_rfl) t3 ((Ba_7.since hs rfl).cell rfl) ((Ba_7.since hs rfl).cell rfl) ((Ba_7.since hs rfl).cell rfl)) rfl)
                · intro a wa hs hf hd
                  have t92 : a.eval (.tmp 92) = _ := hd.at 4 92 (by kernel_rfl)
                  have t6 := hf.off 6 (by kernel_rfl) rfl
                  exact guard_on rfl rfl t92 (yes_eqv (o_move rfl t6) rfl)
                · intro a wa hs hf hd
                  have t92 : a.eval (.tmp 92) = _ := hd.at 4 92 (by kernel_rfl)
                  have t96 : a.eval (.tmp 96) = _ := hd.at 8 96 (by kernel_rfl)
                  have t97 : a.eval (.tmp 97) = _ := hd.at 9 97 (by kernel_rfl)
                  exact guard_on rfl rfl t92 (yes_gives (show Gives Proofs.Try.prog 60 #[.agg #[.slice aw ma.W.length cw, .slice ag ma.G.length cg, .bool ma.bad], .int .i64 x] _ (eqv (.int .i64 nd)) by rw [← Hd.out]; exact refNode_ no _ ma x _ ((IsMem.mk rfl hw hg : IsMem no w (.agg #[.slice aw ma.W.length cw, .slice ag ma.G.length cg, .bool ma.bad]) ma).ext (hEl.trans (Since.to_ext hs))) hFit) rfl rfl Proofs.Try.func60 (by kernel_rfl) (by kernel_rfl) (by simp only [List.map_toArray, List.map_cons, List.map_nil, t96, t97]) rfl)
                · intro a wa hs hf hd
                  have t92 : a.eval (.tmp 92) = _ := hd.at 4 92 (by kernel_rfl)
                  have t95 : a.eval (.tmp 95) = _ := hd.at 7 95 (by kernel_rfl)
                  have t98 : a.eval (.tmp 98) = _ := hd.at 10 98 (by kernel_rfl)
                  exact guard_on rfl rfl t92 (yes_eqv (o_eql rfl t95 t98 (by simp)) rfl)
                · intro a wa hs hf hd
                  have t92 : a.eval (.tmp 92) = _ := hd.at 4 92 (by kernel_rfl)
                  have t99 : a.eval (.tmp 99) = _ := hd.at 11 99 (by kernel_rfl)
                  exact guard_on rfl rfl t92 (yes_eqv (o_move rfl t99) rfl)
                · intro a wa hs hf hd
                  have t100 : a.eval (.tmp 100) = _ := hd.at 12 100 (by kernel_rfl)
                  have t3 := hf.off 3 (by kernel_rfl) rfl
                  exact guard_on rfl rfl t100 (yes_eqv (o_load3 rfl Proofs.Try.underlying50 rfl (by kernel_rfl) t3 ((Ba_7.since hs rfl).cell rfl) ((Ba_7.since hs rfl).cell rfl) ((Ba_7.since hs rfl).cell rfl)) rfl)
                · intro a wa hs hf hd
                  have t100 : a.eval (.tmp 100) = _ := hd.at 12 100 (by kernel_rfl)
                  have t14 := hf.off 14 (by kernel_rfl) rfl
                  exact guard_on rfl rfl t100 (yes_eqv (o_move rfl t14) rfl)
                · intro a wa hs hf hd
                  have t100 : a.eval (.tmp 100) = _ := hd.at 12 100 (by kernel_rfl)
                  have t101 : a.eval (.tmp 101) = _ := hd.at 13 101 (by kernel_rfl)
                  have t102 : a.eval (.tmp 102) = _ := hd.at 14 102 (by kernel_rfl)
                  exact guard_on rfl rfl t100 (yes_gives (show Gives Proofs.Try.prog 61 #[.agg #[.slice aw ma.W.length cw, .slice ag ma.G.length cg, .bool ma.bad], .int .i64 c] _ (eqv (.int .i64 cn)) by rw [← Hc.out]; exact count_ no _ ma c _ ((IsMem.mk rfl hw hg : IsMem no w (.agg #[.slice aw ma.W.length cw, .slice ag ma.G.length cg, .bool ma.bad]) ma).ext (hEl.trans (Since.to_ext hs))) hFit.2.1) rfl rfl Proofs.Try.func61 (by kernel_rfl) (by kernel_rfl) (by simp only [List.map_toArray, List.map_cons, List.map_nil, t101, t102]) rfl)
                · intro a wa hs hf hd
                  have t100 : a.eval (.tmp 100) = _ := hd.at 12 100 (by kernel_rfl)
                  have t3 := hf.off 3 (by kernel_rfl) rfl
                  exact guard_on rfl rfl t100 (yes_eqv (o_load3 rfl Proofs.Try.underlying50 rfl (by kernel_rfl) t3 ((Ba_7.since hs rfl).cell rfl) ((Ba_7.since hs rfl).cell rfl) ((Ba_7.since hs rfl).cell rfl)) rfl)
                · intro a wa hs hf hd
                  have t100 : a.eval (.tmp 100) = _ := hd.at 12 100 (by kernel_rfl)
                  have t14 := hf.off 14 (by kernel_rfl) rfl
                  exact guard_on rfl rfl t100 (yes_eqv (o_move rfl t14) rfl)
                · intro a wa hs hf hd
                  have t100 : a.eval (.tmp 100) = _ := hd.at 12 100 (by kernel_rfl)
                  have t104 : a.eval (.tmp 104) = _ := hd.at 16 104 (by kernel_rfl)
                  have t105 : a.eval (.tmp 105) = _ := hd.at 17 105 (by kernel_rfl)
                  exact guard_on rfl rfl t100 (yes_gives (show Gives Proofs.Try.prog 62 #[.agg #[.slice aw ma.W.length cw, .slice ag ma.G.length cg, .bool ma.bad], .int .i64 c] _ (eqv (.int .i64 cn)) by rw [← Hc.out]; exact refCount_ no _ ma c _ ((IsMem.mk rfl hw hg : IsMem no w (.agg #[.slice aw ma.W.length cw, .slice ag ma.G.length cg, .bool ma.bad]) ma).ext (hEl.trans (Since.to_ext hs))) hFit.2.1) rfl rfl Proofs.Try.func62 (by kernel_rfl) (by kernel_rfl) (by simp only [List.map_toArray, List.map_cons, List.map_nil, t104, t105]) rfl)
                · intro a wa hs hf hd
                  have t100 : a.eval (.tmp 100) = _ := hd.at 12 100 (by kernel_rfl)
                  have t103 : a.eval (.tmp 103) = _ := hd.at 15 103 (by kernel_rfl)
                  have t106 : a.eval (.tmp 106) = _ := hd.at 18 106 (by kernel_rfl)
                  exact guard_on rfl rfl t100 (yes_eqv (o_eql rfl t103 t106 (by simp)) rfl)
                · intro a wa hs hf hd
                  have t92 : a.eval (.tmp 92) = _ := hd.at 4 92 (by kernel_rfl)
                  have t100 : a.eval (.tmp 100) = _ := hd.at 12 100 (by kernel_rfl)
                  have t107 : a.eval (.tmp 107) = _ := hd.at 19 107 (by kernel_rfl)
                  exact guard_on rfl rfl t92 (yes_eqv (o_pick_t rfl t100 t107) rfl)
                · intro a wa hs hf hd
                  have t89 : a.eval (.tmp 89) = _ := hd.at 1 89 (by kernel_rfl)
                  have t92 : a.eval (.tmp 92) = _ := hd.at 4 92 (by kernel_rfl)
                  have t108 : a.eval (.tmp 108) = _ := hd.at 20 108 (by kernel_rfl)
                  exact guard_on rfl rfl t89 (yes_eqv (o_pick_f rfl t92 t108) rfl)
                · intro a wa hs hf hd
                  have t89 : a.eval (.tmp 89) = _ := hd.at 1 89 (by kernel_rfl)
                  have t109 : a.eval (.tmp 109) = _ := hd.at 21 109 (by kernel_rfl)
                  exact plain_ rfl (yes_eqv (o_pick_t rfl t89 t109) rfl)
                · intro a wa hs hf hd
                  have t110 : a.eval (.tmp 110) = _ := hd.at 22 110 (by kernel_rfl)
                  exact plain_ rfl (yes_eqv (o_assign rfl t110) rfl)
              case hG => exact ⟨stable_eqv _, stable_eqv _, stable_eqv _, stable_eqv _, stable_eqv _, stable_eqv _, stable_eqv _, stable_eqv _, stable_eqv _, stable_eqv _, stable_eqv _, stable_eqv _, stable_eqv _, stable_eqv _, stable_eqv _, stable_eqv _, stable_eqv _, stable_eqv _, stable_eqv _, stable_eqv _, stable_eqv _, stable_eqv _, stable_eqv _, stable_eqv _, trivial⟩
              case hc => kernel_rfl
              case hfin =>
                intro v2 hs2
                rintro _ rfl _ rfl _ rfl _ rfl _ rfl _ rfl _ rfl _ rfl _ rfl _ rfl _ rfl _ rfl _ rfl _ rfl _ rfl _ rfl _ rfl _ rfl _ rfl _ rfl _ rfl _ rfl _ rfl _ rfl
                rintro _ rfl
                simp only [Act.put, List.setIfInBounds_toArray, List.set_cons_zero, List.set_cons_succ]
                go_wp2
                go_ret
                exact ⟨_, rfl, hEl.trans (Since.to_ext hs2), rfl⟩
            · have q4 : n ≤ 1048576 := by omega
              go_wp2_with (fail)
              go_at_call 57
              refine (atF_ n c _ (by omega) (by omega) (by omega) (by omega)).calls.mono ?_
              rintro e w8 ⟨_, rfl, hb8, rfl⟩
              have Bi_8 := Bi_7.ext (show Ext w7 w8 from (by with_reducible (repeat (first | assumption | exact Ext.refl _ | refine Ext.alloc' ?_ _ | refine Ext.store0 ?_ _ _ | refine Ext.storek ?_ _ _ _ | refine Ext.stores0 ?_ ?_ _ _ | refine Ext.storesk ?_ ?_ _ _ _ | refine Ext.drewN' ?_ _ | refine Ext.drew' ?_ | refine Ext.trans ?_ (by assumption)))))
              have Ba_8 := Ba_7.ext (show Ext w7 w8 from (by with_reducible (repeat (first | assumption | exact Ext.refl _ | refine Ext.alloc' ?_ _ | refine Ext.store0 ?_ _ _ | refine Ext.storek ?_ _ _ _ | refine Ext.stores0 ?_ ?_ _ _ | refine Ext.storesk ?_ ?_ _ _ _ | refine Ext.drewN' ?_ _ | refine Ext.drew' ?_ | refine Ext.trans ?_ (by assumption)))))
              have Bb_8 := Bb_7.ext (show Ext w7 w8 from (by with_reducible (repeat (first | assumption | exact Ext.refl _ | refine Ext.alloc' ?_ _ | refine Ext.store0 ?_ _ _ | refine Ext.storek ?_ _ _ _ | refine Ext.stores0 ?_ ?_ _ _ | refine Ext.storesk ?_ ?_ _ _ _ | refine Ext.drewN' ?_ _ | refine Ext.drew' ?_ | refine Ext.trans ?_ (by assumption)))))
              have Bp_8 := Bp_7.ext (show Ext w7 w8 from (by with_reducible (repeat (first | assumption | exact Ext.refl _ | refine Ext.alloc' ?_ _ | refine Ext.store0 ?_ _ _ | refine Ext.storek ?_ _ _ _ | refine Ext.stores0 ?_ ?_ _ _ | refine Ext.storesk ?_ ?_ _ _ _ | refine Ext.drewN' ?_ _ | refine Ext.drew' ?_ | refine Ext.trans ?_ (by assumption)))))
              have Bq_8 := Bq_7.ext (show Ext w7 w8 from (by with_reducible (repeat (first | assumption | exact Ext.refl _ | refine Ext.alloc' ?_ _ | refine Ext.store0 ?_ _ _ | refine Ext.storek ?_ _ _ _ | refine Ext.stores0 ?_ ?_ _ _ | refine Ext.storesk ?_ ?_ _ _ _ | refine Ext.drewN' ?_ _ | refine Ext.drew' ?_ | refine Ext.trans ?_ (by assumption)))))
              clear Bi_7 ci0 ci1 ci2 ci3 ci4 ci5 ci6 ci7 ci8 di0 di1 di2 di3 di4 di5 di6 di7 di8 Ba_7 ca0 ca1 ca2 da0 da1 da2 Bb_7 cb0 cb1 cb2 db0 db1 db2 Bp_7 cp0 cp1 cp2 dp0 dp1 dp2 Bq_7 cq0 cq1 cq2 dq0 dq1 dq2
              obtain ⟨ci0, ci1, ci2, ci3, ci4, ci5, ci6, ci7, ci8, di0, di1, di2, di3, di4, di5, di6, di7, di8⟩ := cells9 Bi_8
              have zi : w.heap.size < w8.heap.size := Bi_8.lt
              obtain ⟨ca0, ca1, ca2, da0, da1, da2⟩ := cells3 Ba_8
              have za : w.heap.size + 1 < w8.heap.size := Ba_8.lt
              obtain ⟨cb0, cb1, cb2, db0, db1, db2⟩ := cells3 Bb_8
              have zb : w.heap.size + 1 + 1 < w8.heap.size := Bb_8.lt
              obtain ⟨cp0, cp1, cp2, dp0, dp1, dp2⟩ := cells3 Bp_8
              have zp : w4.heap.size < w8.heap.size := Bp_8.lt
              obtain ⟨cq0, cq1, cq2, dq0, dq1, dq2⟩ := cells3 Bq_8
              have zq : w5.heap.size < w8.heap.size := Bq_8.lt
              go_wp2_with (fail)
              go_at_call 58
              refine (refAt_ n c _ (by omega) (by omega) (by omega) (by omega)).calls.mono ?_
              rintro e w9 ⟨_, rfl, hb9, rfl⟩
              have Bi_9 := Bi_8.ext (show Ext w8 w9 from (by with_reducible (repeat (first | assumption | exact Ext.refl _ | refine Ext.alloc' ?_ _ | refine Ext.store0 ?_ _ _ | refine Ext.storek ?_ _ _ _ | refine Ext.stores0 ?_ ?_ _ _ | refine Ext.storesk ?_ ?_ _ _ _ | refine Ext.drewN' ?_ _ | refine Ext.drew' ?_ | refine Ext.trans ?_ (by assumption)))))
              have Ba_9 := Ba_8.ext (show Ext w8 w9 from (by with_reducible (repeat (first | assumption | exact Ext.refl _ | refine Ext.alloc' ?_ _ | refine Ext.store0 ?_ _ _ | refine Ext.storek ?_ _ _ _ | refine Ext.stores0 ?_ ?_ _ _ | refine Ext.storesk ?_ ?_ _ _ _ | refine Ext.drewN' ?_ _ | refine Ext.drew' ?_ | refine Ext.trans ?_ (by assumption)))))
              have Bb_9 := Bb_8.ext (show Ext w8 w9 from (by with_reducible (repeat (first | assumption | exact Ext.refl _ | refine Ext.alloc' ?_ _ | refine Ext.store0 ?_ _ _ | refine Ext.storek ?_ _ _ _ | refine Ext.stores0 ?_ ?_ _ _ | refine Ext.storesk ?_ ?_ _ _ _ | refine Ext.drewN' ?_ _ | refine Ext.drew' ?_ | refine Ext.trans ?_ (by assumption)))))
              have Bp_9 := Bp_8.ext (show Ext w8 w9 from (by with_reducible (repeat (first | assumption | exact Ext.refl _ | refine Ext.alloc' ?_ _ | refine Ext.store0 ?_ _ _ | refine Ext.storek ?_ _ _ _ | refine Ext.stores0 ?_ ?_ _ _ | refine Ext.storesk ?_ ?_ _ _ _ | refine Ext.drewN' ?_ _ | refine Ext.drew' ?_ | refine Ext.trans ?_ (by assumption)))))
              have Bq_9 := Bq_8.ext (show Ext w8 w9 from (by with_reducible (repeat (first | assumption | exact Ext.refl _ | refine Ext.alloc' ?_ _ | refine Ext.store0 ?_ _ _ | refine Ext.storek ?_ _ _ _ | refine Ext.stores0 ?_ ?_ _ _ | refine Ext.storesk ?_ ?_ _ _ _ | refine Ext.drewN' ?_ _ | refine Ext.drew' ?_ | refine Ext.trans ?_ (by assumption)))))
              clear Bi_8 ci0 ci1 ci2 ci3 ci4 ci5 ci6 ci7 ci8 di0 di1 di2 di3 di4 di5 di6 di7 di8 Ba_8 ca0 ca1 ca2 da0 da1 da2 Bb_8 cb0 cb1 cb2 db0 db1 db2 Bp_8 cp0 cp1 cp2 dp0 dp1 dp2 Bq_8 cq0 cq1 cq2 dq0 dq1 dq2
              obtain ⟨ci0, ci1, ci2, ci3, ci4, ci5, ci6, ci7, ci8, di0, di1, di2, di3, di4, di5, di6, di7, di8⟩ := cells9 Bi_9
              have zi : w.heap.size < w9.heap.size := Bi_9.lt
              obtain ⟨ca0, ca1, ca2, da0, da1, da2⟩ := cells3 Ba_9
              have za : w.heap.size + 1 < w9.heap.size := Ba_9.lt
              obtain ⟨cb0, cb1, cb2, db0, db1, db2⟩ := cells3 Bb_9
              have zb : w.heap.size + 1 + 1 < w9.heap.size := Bb_9.lt
              obtain ⟨cp0, cp1, cp2, dp0, dp1, dp2⟩ := cells3 Bp_9
              have zp : w4.heap.size < w9.heap.size := Bp_9.lt
              obtain ⟨cq0, cq1, cq2, dq0, dq1, dq2⟩ := cells3 Bq_9
              have zq : w5.heap.size < w9.heap.size := Bq_9.lt
              go_wp2_with (fail)
              have hEl : Ext w w9 := (by with_reducible (repeat (first | assumption | exact Ext.refl _ | refine Ext.alloc' ?_ _ | refine Ext.store0 ?_ _ _ | refine Ext.storek ?_ _ _ _ | refine Ext.stores0 ?_ ?_ _ _ | refine Ext.storesk ?_ ?_ _ _ _ | refine Ext.drewN' ?_ _ | refine Ext.drew' ?_ | refine Ext.trans ?_ (by assumption))))
              apply region_lit2 (T := []) (L := []) (X := []) (G := [eqv _, eqv _, eqv _, eqv _, eqv _, eqv _, eqv _, eqv (.int .i64 nd), eqv _, eqv _, eqv (.int .i64 nd), eqv (.bool true), eqv _, eqv _, eqv _, eqv (.int .i64 cn), eqv _, eqv _, eqv (.int .i64 cn), eqv (.bool true), eqv _, eqv _, eqv _, eqv _])
              case hm => kernel_rfl
              case hop =>
                refine ⟨?_, ?_, ?_, ?_, ?_, ?_, ?_, ?_, ?_, ?_, ?_, ?_, ?_, ?_, ?_, ?_, ?_, ?_, ?_, ?_, ?_, ?_, ?_, ?_, trivial⟩
                · intro a wa hs hf hd
                  have t8 := hf.off 8 (by kernel_rfl) rfl
                  exact plain_ rfl (yes_eqv (o_move rfl t8) rfl)
                · intro a wa hs hf hd
                  have t88 : a.eval (.tmp 88) = _ := hd.at 0 88 (by kernel_rfl)
                  exact plain_ rfl (yes_eqv (o_move rfl t88) rfl)
                · intro a wa hs hf hd
                  have t89 : a.eval (.tmp 89) = _ := hd.at 1 89 (by kernel_rfl)
                  have t13 := hf.off 13 (by kernel_rfl) rfl
                  exact guard_on rfl rfl t89 (yes_eqv (o_move rfl t13) rfl)
                · intro a wa hs hf hd
                  have t89 : a.eval (.tmp 89) = _ := hd.at 1 89 (by kernel_rfl)
                  have t90 : a.eval (.tmp 90) = _ := hd.at 2 90 (by kernel_rfl)
                  exact guard_on rfl rfl t89 (yes_eqv (o_not rfl t90 rfl) rfl)
                · intro a wa hs hf hd
                  have t89 : a.eval (.tmp 89) = _ := hd.at 1 89 (by kernel_rfl)
                  have t91 : a.eval (.tmp 91) = _ := hd.at 3 91 (by kernel_rfl)
                  exact guard_on rfl rfl t89 (yes_eqv (o_move rfl t91) rfl)
                · intro a wa hs hf hd
                  have t92 : a.eval (.tmp 92) = _ := hd.at 4 92 (by kernel_rfl)
                  have t3 := hf.off 3 (by kernel_rfl) rfl
                  exact guard_on rfl rfl t92 (yes_eqv (o_load3 rfl Proofs.Try.underlying50 rfl (by kernel_rfl) t3 ((Ba_9.since hs rfl).cell rfl) ((Ba_9.since hs rfl).cell rfl) ((Ba_9.since hs rfl).cell rfl)) rfl)
                · intro a wa hs hf hd
                  have t92 : a.eval (.tmp 92) = _ := hd.at 4 92 (by kernel_rfl)
                  have t6 := hf.off 6 (by kernel_rfl) rfl
                  exact guard_on rfl rfl t92 (yes_eqv (o_move rfl t6) rfl)
                · intro a wa hs hf hd
                  have t92 : a.eval (.tmp 92) = _ := hd.at 4 92 (by kernel_rfl)
                  have t93 : a.eval (.tmp 93) = _ := hd.at 5 93 (by kernel_rfl)
                  have t94 : a.eval (.tmp 94) = _ := hd.at 6 94 (by kernel_rfl)
                  exact guard_on rfl rfl t92 (yes_gives (show Gives Proofs.Try.prog 59 #[.agg #[.slice aw ma.W.length cw, .slice ag ma.G.length cg, .bool ma.bad], .int .i64 x] _ (eqv (.int .i64 nd)) by rw [← Hd.out]; exact node_ no _ ma x _ ((IsMem.mk rfl hw hg : IsMem no w (.agg #[.slice aw ma.W.length cw, .slice ag ma.G.length cg, .bool ma.bad]) ma).ext (hEl.trans (Since.to_ext hs))) hx0 hx1) rfl rfl Proofs.Try.func59 (by kernel_rfl) (by kernel_rfl) (by simp only [List.map_toArray, List.map_cons, List.map_nil, t93, t94]) rfl)
                · intro a wa hs hf hd
                  have t92 : a.eval (.tmp 92) = _ := hd.at 4 92 (by kernel_rfl)
                  have t3 := hf.off 3 (by kernel_rfl) rfl
                  exact guard_on rfl rfl t92 (yes_eqv (o_load3 rfl Proofs.Try.underlying50 rfl (by kernel_rfl) t3 ((Ba_9.since hs rfl).cell rfl) ((Ba_9.since hs rfl).cell rfl) ((Ba_9.since hs rfl).cell rfl)) rfl)
                · intro a wa hs hf hd
                  have t92 : a.eval (.tmp 92) = _ := hd.at 4 92 (by kernel_rfl)
                  have t6 := hf.off 6 (by kernel_rfl) rfl
                  exact guard_on rfl rfl t92 (yes_eqv (o_move rfl t6) rfl)
                · intro a wa hs hf hd
                  have t92 : a.eval (.tmp 92) = _ := hd.at 4 92 (by kernel_rfl)
                  have t96 : a.eval (.tmp 96) = _ := hd.at 8 96 (by kernel_rfl)
                  have t97 : a.eval (.tmp 97) = _ := hd.at 9 97 (by kernel_rfl)
                  exact guard_on rfl rfl t92 (yes_gives (show Gives Proofs.Try.prog 60 #[.agg #[.slice aw ma.W.length cw, .slice ag ma.G.length cg, .bool ma.bad], .int .i64 x] _ (eqv (.int .i64 nd)) by rw [← Hd.out]; exact refNode_ no _ ma x _ ((IsMem.mk rfl hw hg : IsMem no w (.agg #[.slice aw ma.W.length cw, .slice ag ma.G.length cg, .bool ma.bad]) ma).ext (hEl.trans (Since.to_ext hs))) hFit) rfl rfl Proofs.Try.func60 (by kernel_rfl) (by kernel_rfl) (by simp only [List.map_toArray, List.map_cons, List.map_nil, t96, t97]) rfl)
                · intro a wa hs hf hd
                  have t92 : a.eval (.tmp 92) = _ := hd.at 4 92 (by kernel_rfl)
                  have t95 : a.eval (.tmp 95) = _ := hd.at 7 95 (by kernel_rfl)
                  have t98 : a.eval (.tmp 98) = _ := hd.at 10 98 (by kernel_rfl)
                  exact guard_on rfl rfl t92 (yes_eqv (o_eql rfl t95 t98 (by simp)) rfl)
                · intro a wa hs hf hd
                  have t92 : a.eval (.tmp 92) = _ := hd.at 4 92 (by kernel_rfl)
                  have t99 : a.eval (.tmp 99) = _ := hd.at 11 99 (by kernel_rfl)
                  exact guard_on rfl rfl t92 (yes_eqv (o_move rfl t99) rfl)
                · intro a wa hs hf hd
                  have t100 : a.eval (.tmp 100) = _ := hd.at 12 100 (by kernel_rfl)
                  have t3 := hf.off 3 (by kernel_rfl) rfl
                  exact guard_on rfl rfl t100 (yes_eqv (o_load3 rfl Proofs.Try.underlying50 rfl (by kernel_rfl) t3 ((Ba_9.since hs rfl).cell rfl) ((Ba_9.since hs rfl).cell rfl) ((Ba_9.since hs rfl).cell rfl)) rfl)
                · intro a wa hs hf hd
                  have t100 : a.eval (.tmp 100) = _ := hd.at 12 100 (by kernel_rfl)
                  have t14 := hf.off 14 (by kernel_rfl) rfl
                  exact guard_on rfl rfl t100 (yes_eqv (o_move rfl t14) rfl)
                · intro a wa hs hf hd
                  have t100 : a.eval (.tmp 100) = _ := hd.at 12 100 (by kernel_rfl)
                  have t101 : a.eval (.tmp 101) = _ := hd.at 13 101 (by kernel_rfl)
                  have t102 : a.eval (.tmp 102) = _ := hd.at 14 102 (by kernel_rfl)
                  exact guard_on rfl rfl t100 (yes_gives (show Gives Proofs.Try.prog 61 #[.agg #[.slice aw ma.W.length cw, .slice ag ma.G.length cg, .bool ma.bad], .int .i64 c] _ (eqv (.int .i64 cn)) by rw [← Hc.out]; exact count_ no _ ma c _ ((IsMem.mk rfl hw hg : IsMem no w (.agg #[.slice aw ma.W.length cw, .slice ag ma.G.length cg, .bool ma.bad]) ma).ext (hEl.trans (Since.to_ext hs))) hFit.2.1) rfl rfl Proofs.Try.func61 (by kernel_rfl) (by kernel_rfl) (by simp only [List.map_toArray, List.map_cons, List.map_nil, t101, t102]) rfl)
                · intro a wa hs hf hd
                  have t100 : a.eval (.tmp 100) = _ := hd.at 12 100 (by kernel_rfl)
                  have t3 := hf.off 3 (by kernel_rfl) rfl
                  exact guard_on rfl rfl t100 (yes_eqv (o_load3 rfl Proofs.Try.underlying50 rfl (by kernel_rfl) t3 ((Ba_9.since hs rfl).cell rfl) ((Ba_9.since hs rfl).cell rfl) ((Ba_9.since hs rfl).cell rfl)) rfl)
                · intro a wa hs hf hd
                  have t100 : a.eval (.tmp 100) = _ := hd.at 12 100 (by kernel_rfl)
                  have t14 := hf.off 14 (by kernel_rfl) rfl
                  exact guard_on rfl rfl t100 (yes_eqv (o_move rfl t14) rfl)
                · intro a wa hs hf hd
                  have t100 : a.eval (.tmp 100) = _ := hd.at 12 100 (by kernel_rfl)
                  have t104 : a.eval (.tmp 104) = _ := hd.at 16 104 (by kernel_rfl)
                  have t105 : a.eval (.tmp 105) = _ := hd.at 17 105 (by kernel_rfl)
                  exact guard_on rfl rfl t100 (yes_gives (show Gives Proofs.Try.prog 62 #[.agg #[.slice aw ma.W.length cw, .slice ag ma.G.length cg, .bool ma.bad], .int .i64 c] _ (eqv (.int .i64 cn)) by rw [← Hc.out]; exact refCount_ no _ ma c _ ((IsMem.mk rfl hw hg : IsMem no w (.agg #[.slice aw ma.W.length cw, .slice ag ma.G.length cg, .bool ma.bad]) ma).ext (hEl.trans (Since.to_ext hs))) hFit.2.1) rfl rfl Proofs.Try.func62 (by kernel_rfl) (by kernel_rfl) (by simp only [List.map_toArray, List.map_cons, List.map_nil, t104, t105]) rfl)
                · intro a wa hs hf hd
                  have t100 : a.eval (.tmp 100) = _ := hd.at 12 100 (by kernel_rfl)
                  have t103 : a.eval (.tmp 103) = _ := hd.at 15 103 (by kernel_rfl)
                  have t106 : a.eval (.tmp 106) = _ := hd.at 18 106 (by kernel_rfl)
                  exact guard_on rfl rfl t100 (yes_eqv (o_eql rfl t103 t106 (by simp)) rfl)
                · intro a wa hs hf hd
                  have t92 : a.eval (.tmp 92) = _ := hd.at 4 92 (by kernel_rfl)
                  have t100 : a.eval (.tmp 100) = _ := hd.at 12 100 (by kernel_rfl)
                  have t107 : a.eval (.tmp 107) = _ := hd.at 19 107 (by kernel_rfl)
                  exact guard_on rfl rfl t92 (yes_eqv (o_pick_t rfl t100 t107) rfl)
                · intro a wa hs hf hd
                  have t89 : a.eval (.tmp 89) = _ := hd.at 1 89 (by kernel_rfl)
                  have t92 : a.eval (.tmp 92) = _ := hd.at 4 92 (by kernel_rfl)
                  have t108 : a.eval (.tmp 108) = _ := hd.at 20 108 (by kernel_rfl)
                  exact guard_on rfl rfl t89 (yes_eqv (o_pick_f rfl t92 t108) rfl)
                · intro a wa hs hf hd
                  have t89 : a.eval (.tmp 89) = _ := hd.at 1 89 (by kernel_rfl)
                  have t109 : a.eval (.tmp 109) = _ := hd.at 21 109 (by kernel_rfl)
                  exact plain_ rfl (yes_eqv (o_pick_t rfl t89 t109) rfl)
                · intro a wa hs hf hd
                  have t110 : a.eval (.tmp 110) = _ := hd.at 22 110 (by kernel_rfl)
                  exact plain_ rfl (yes_eqv (o_assign rfl t110) rfl)
              case hG => exact ⟨stable_eqv _, stable_eqv _, stable_eqv _, stable_eqv _, stable_eqv _, stable_eqv _, stable_eqv _, stable_eqv _, stable_eqv _, stable_eqv _, stable_eqv _, stable_eqv _, stable_eqv _, stable_eqv _, stable_eqv _, stable_eqv _, stable_eqv _, stable_eqv _, stable_eqv _, stable_eqv _, stable_eqv _, stable_eqv _, stable_eqv _, stable_eqv _, trivial⟩
              case hc => kernel_rfl
              case hfin =>
                intro v2 hs2
                rintro _ rfl _ rfl _ rfl _ rfl _ rfl _ rfl _ rfl _ rfl _ rfl _ rfl _ rfl _ rfl _ rfl _ rfl _ rfl _ rfl _ rfl _ rfl _ rfl _ rfl _ rfl _ rfl _ rfl _ rfl
                rintro _ rfl
                simp only [Act.put, List.setIfInBounds_toArray, List.set_cons_zero, List.set_cons_succ]
                go_wp2
                go_ret
                exact ⟨_, rfl, hEl.trans (Since.to_ext hs2), rfl⟩
end Go.Proofs.Ytcfbdfgondmkoaa
