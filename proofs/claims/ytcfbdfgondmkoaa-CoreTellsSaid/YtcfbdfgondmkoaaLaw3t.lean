/- CoreTells: its walk. -/
import Derived.Test.YtcfbdfgondmkoaaLaw3l
namespace Go.Proofs.Ytcfbdfgondmkoaa
open Go Go.RowKit
set_option linter.unusedSimpArgs false
set_option linter.unusedVariables false
set_option linter.unnecessarySimpa false

theorem cells13 {w : World} {b : Nat} {c0 c1 c2 c3 c4 c5 c6 c7 c8 c9 c10 c11 c12 : Value} {t : TypeId} (h : Box w b #[c0, c1, c2, c3, c4, c5, c6, c7, c8, c9, c10, c11, c12] t) :
    w.cell? ⟨b, 0, none⟩ = some c0 ∧ w.cell? ⟨b, 1, none⟩ = some c1 ∧ w.cell? ⟨b, 2, none⟩ = some c2 ∧ w.cell? ⟨b, 3, none⟩ = some c3 ∧ w.cell? ⟨b, 4, none⟩ = some c4 ∧ w.cell? ⟨b, 5, none⟩ = some c5 ∧ w.cell? ⟨b, 6, none⟩ = some c6 ∧ w.cell? ⟨b, 7, none⟩ = some c7 ∧ w.cell? ⟨b, 8, none⟩ = some c8 ∧ w.cell? ⟨b, 9, none⟩ = some c9 ∧ w.cell? ⟨b, 10, none⟩ = some c10 ∧ w.cell? ⟨b, 11, none⟩ = some c11 ∧ w.cell? ⟨b, 12, none⟩ = some c12 ∧ w.frozen? ⟨b, 0, none⟩ = false ∧ w.frozen? ⟨b, 1, none⟩ = false ∧ w.frozen? ⟨b, 2, none⟩ = false ∧ w.frozen? ⟨b, 3, none⟩ = false ∧ w.frozen? ⟨b, 4, none⟩ = false ∧ w.frozen? ⟨b, 5, none⟩ = false ∧ w.frozen? ⟨b, 6, none⟩ = false ∧ w.frozen? ⟨b, 7, none⟩ = false ∧ w.frozen? ⟨b, 8, none⟩ = false ∧ w.frozen? ⟨b, 9, none⟩ = false ∧ w.frozen? ⟨b, 10, none⟩ = false ∧ w.frozen? ⟨b, 11, none⟩ = false ∧ w.frozen? ⟨b, 12, none⟩ = false :=
  ⟨h.cell rfl, h.cell rfl, h.cell rfl, h.cell rfl, h.cell rfl, h.cell rfl, h.cell rfl, h.cell rfl, h.cell rfl, h.cell rfl, h.cell rfl, h.cell rfl, h.cell rfl, h.frozen, h.frozen, h.frozen, h.frozen, h.frozen, h.frozen, h.frozen, h.frozen, h.frozen, h.frozen, h.frozen, h.frozen, h.frozen⟩
set_option maxHeartbeats 4000000 in
set_option maxRecDepth 100000 in
theorem coreTells_ (v0 v1 v2 v3 v4 u0 u1 u2 u3 u4 : Value) (sa sb : SysD) (nc nn id : Int) (w : World) (ha : IsSys no w (.agg #[v0, v1, v2, v3, v4]) sa) (hb : IsSys no w (.agg #[u0, u1, u2, u3, u4]) sb) :
    Gives Proofs.Try.prog 19 #[.agg #[v0, v1, v2, v3, v4, u0, u1, u2, u3, u4, .int .i64 nc, .int .i64 nn, .int .i64 id]] w (eqv (.bool true)) := by
  have ka := fun (w' : World) (e : Ext w w') => refSmall_ no _ sa 60 (by omega) w' (ha.ext e)
  have kb := fun (w' : World) (e : Ext w w') => refSmall_ no _ sb 60 (by omega) w' (hb.ext e)
  obtain ⟨aw, cw, ag, cg, ac, cc, al, cl, e, hw, hg, hc, hl⟩ := ha.opened
  obtain ⟨rfl, rfl, rfl, rfl, rfl⟩ : v0 = .slice aw sa.M.W.length cw ∧ v1 = .slice ag sa.M.G.length cg ∧ v2 = .bool sa.M.bad ∧ v3 = .slice ac sa.C.length cc ∧ v4 = .slice al sa.L.length cl := by simpa using e
  clear e
  obtain ⟨bw, dw, bg, dg, bc, dc, bl, dl, e, iw, ig, ic, il⟩ := hb.opened
  obtain ⟨rfl, rfl, rfl, rfl, rfl⟩ : u0 = .slice bw sb.M.W.length dw ∧ u1 = .slice bg sb.M.G.length dg ∧ u2 = .bool sb.M.bad ∧ u3 = .slice bc sb.C.length dc ∧ u4 = .slice bl sb.L.length dl := by simpa using e
  clear e
  cases hsa : smallS sa 60 <;> rw [hsa] at ka
  · go_enter Proofs.Try.func19, Proofs.Try.ntmps19
    go_wp2_with (fail)
    go_at_call 73
    refine (shown3_ _).calls.mono ?_
    rintro e w1 ⟨_, rfl, hb1, rfl⟩
    have Bi_1 : Box w1 (w.heap.size) #[.slice aw sa.M.W.length cw, .slice ag sa.M.G.length cg, .bool sa.M.bad, .slice ac sa.C.length cc, .slice al sa.L.length cl, .slice bw sb.M.W.length dw, .slice bg sb.M.G.length dg, .bool sb.M.bad, .slice bc sb.C.length dc, .slice bl sb.L.length dl, .int .i64 nc, .int .i64 nn, .int .i64 id] 85 := (((Box.new _ _ _).alloc _).alloc _).ext hb1
    have Ba_1 : Box w1 (w.heap.size + 1) #[.slice aw sa.M.W.length cw, .slice ag sa.M.G.length cg, .bool sa.M.bad, .slice ac sa.C.length cc, .slice al sa.L.length cl] 83 := ((Box.two _ _ _ _ _).alloc _).ext hb1
    have Bb_1 : Box w1 (w.heap.size + 1 + 1) #[.slice bw sb.M.W.length dw, .slice bg sb.M.G.length dg, .bool sb.M.bad, .slice bc sb.C.length dc, .slice bl sb.L.length dl] 83 := (Box.three' _ _ _ _ _ _ _).ext hb1
    obtain ⟨ci0, ci1, ci2, ci3, ci4, ci5, ci6, ci7, ci8, ci9, ci10, ci11, ci12, di0, di1, di2, di3, di4, di5, di6, di7, di8, di9, di10, di11, di12⟩ := cells13 Bi_1
    have zi : w.heap.size < w1.heap.size := Bi_1.lt
    obtain ⟨ca0, ca1, ca2, ca3, ca4, da0, da1, da2, da3, da4⟩ := cells5 Ba_1
    have za : w.heap.size + 1 < w1.heap.size := Ba_1.lt
    obtain ⟨cb0, cb1, cb2, cb3, cb4, db0, db1, db2, db3, db4⟩ := cells5 Bb_1
    have zb : w.heap.size + 1 + 1 < w1.heap.size := Bb_1.lt
    go_wp2_with (fail)
    go_at_call 74
    refine (ka _ (by with_reducible (repeat (first | assumption | exact Ext.refl _ | refine Ext.alloc' ?_ _ | refine Ext.store0 ?_ _ _ | refine Ext.storek ?_ _ _ _ | refine Ext.stores0 ?_ ?_ _ _ | refine Ext.storesk ?_ ?_ _ _ _ | refine Ext.drewN' ?_ _ | refine Ext.drew' ?_ | refine Ext.trans ?_ (by assumption))))).calls.mono ?_
    rintro e w2 ⟨_, rfl, hb2, rfl⟩
    have Bi_2 := Bi_1.ext (show Ext w1 w2 from (by with_reducible (repeat (first | assumption | exact Ext.refl _ | refine Ext.alloc' ?_ _ | refine Ext.store0 ?_ _ _ | refine Ext.storek ?_ _ _ _ | refine Ext.stores0 ?_ ?_ _ _ | refine Ext.storesk ?_ ?_ _ _ _ | refine Ext.drewN' ?_ _ | refine Ext.drew' ?_ | refine Ext.trans ?_ (by assumption)))))
    have Ba_2 := Ba_1.ext (show Ext w1 w2 from (by with_reducible (repeat (first | assumption | exact Ext.refl _ | refine Ext.alloc' ?_ _ | refine Ext.store0 ?_ _ _ | refine Ext.storek ?_ _ _ _ | refine Ext.stores0 ?_ ?_ _ _ | refine Ext.storesk ?_ ?_ _ _ _ | refine Ext.drewN' ?_ _ | refine Ext.drew' ?_ | refine Ext.trans ?_ (by assumption)))))
    have Bb_2 := Bb_1.ext (show Ext w1 w2 from (by with_reducible (repeat (first | assumption | exact Ext.refl _ | refine Ext.alloc' ?_ _ | refine Ext.store0 ?_ _ _ | refine Ext.storek ?_ _ _ _ | refine Ext.stores0 ?_ ?_ _ _ | refine Ext.storesk ?_ ?_ _ _ _ | refine Ext.drewN' ?_ _ | refine Ext.drew' ?_ | refine Ext.trans ?_ (by assumption)))))
    clear Bi_1 ci0 ci1 ci2 ci3 ci4 ci5 ci6 ci7 ci8 ci9 ci10 ci11 ci12 di0 di1 di2 di3 di4 di5 di6 di7 di8 di9 di10 di11 di12 Ba_1 ca0 ca1 ca2 ca3 ca4 da0 da1 da2 da3 da4 Bb_1 cb0 cb1 cb2 cb3 cb4 db0 db1 db2 db3 db4
    obtain ⟨ci0, ci1, ci2, ci3, ci4, ci5, ci6, ci7, ci8, ci9, ci10, ci11, ci12, di0, di1, di2, di3, di4, di5, di6, di7, di8, di9, di10, di11, di12⟩ := cells13 Bi_2
    have zi : w.heap.size < w2.heap.size := Bi_2.lt
    obtain ⟨ca0, ca1, ca2, ca3, ca4, da0, da1, da2, da3, da4⟩ := cells5 Ba_2
    have za : w.heap.size + 1 < w2.heap.size := Ba_2.lt
    obtain ⟨cb0, cb1, cb2, cb3, cb4, db0, db1, db2, db3, db4⟩ := cells5 Bb_2
    have zb : w.heap.size + 1 + 1 < w2.heap.size := Bb_2.lt
    go_wp2
    go_ret
    exact ⟨_, rfl, (by with_reducible (repeat (first | assumption | exact Ext.refl _ | refine Ext.alloc' ?_ _ | refine Ext.store0 ?_ _ _ | refine Ext.storek ?_ _ _ _ | refine Ext.stores0 ?_ ?_ _ _ | refine Ext.storesk ?_ ?_ _ _ _ | refine Ext.drewN' ?_ _ | refine Ext.drew' ?_ | refine Ext.trans ?_ (by assumption)))), rfl⟩
  · cases hsb : smallS sb 60 <;> rw [hsb] at kb
    · go_enter Proofs.Try.func19, Proofs.Try.ntmps19
      go_wp2_with (fail)
      go_at_call 73
      refine (shown3_ _).calls.mono ?_
      rintro e w1 ⟨_, rfl, hb1, rfl⟩
      have Bi_1 : Box w1 (w.heap.size) #[.slice aw sa.M.W.length cw, .slice ag sa.M.G.length cg, .bool sa.M.bad, .slice ac sa.C.length cc, .slice al sa.L.length cl, .slice bw sb.M.W.length dw, .slice bg sb.M.G.length dg, .bool sb.M.bad, .slice bc sb.C.length dc, .slice bl sb.L.length dl, .int .i64 nc, .int .i64 nn, .int .i64 id] 85 := (((Box.new _ _ _).alloc _).alloc _).ext hb1
      have Ba_1 : Box w1 (w.heap.size + 1) #[.slice aw sa.M.W.length cw, .slice ag sa.M.G.length cg, .bool sa.M.bad, .slice ac sa.C.length cc, .slice al sa.L.length cl] 83 := ((Box.two _ _ _ _ _).alloc _).ext hb1
      have Bb_1 : Box w1 (w.heap.size + 1 + 1) #[.slice bw sb.M.W.length dw, .slice bg sb.M.G.length dg, .bool sb.M.bad, .slice bc sb.C.length dc, .slice bl sb.L.length dl] 83 := (Box.three' _ _ _ _ _ _ _).ext hb1
      obtain ⟨ci0, ci1, ci2, ci3, ci4, ci5, ci6, ci7, ci8, ci9, ci10, ci11, ci12, di0, di1, di2, di3, di4, di5, di6, di7, di8, di9, di10, di11, di12⟩ := cells13 Bi_1
      have zi : w.heap.size < w1.heap.size := Bi_1.lt
      obtain ⟨ca0, ca1, ca2, ca3, ca4, da0, da1, da2, da3, da4⟩ := cells5 Ba_1
      have za : w.heap.size + 1 < w1.heap.size := Ba_1.lt
      obtain ⟨cb0, cb1, cb2, cb3, cb4, db0, db1, db2, db3, db4⟩ := cells5 Bb_1
      have zb : w.heap.size + 1 + 1 < w1.heap.size := Bb_1.lt
      go_wp2_with (fail)
      go_at_call 74
      refine (ka _ (by with_reducible (repeat (first | assumption | exact Ext.refl _ | refine Ext.alloc' ?_ _ | refine Ext.store0 ?_ _ _ | refine Ext.storek ?_ _ _ _ | refine Ext.stores0 ?_ ?_ _ _ | refine Ext.storesk ?_ ?_ _ _ _ | refine Ext.drewN' ?_ _ | refine Ext.drew' ?_ | refine Ext.trans ?_ (by assumption))))).calls.mono ?_
      rintro e w2 ⟨_, rfl, hb2, rfl⟩
      have Bi_2 := Bi_1.ext (show Ext w1 w2 from (by with_reducible (repeat (first | assumption | exact Ext.refl _ | refine Ext.alloc' ?_ _ | refine Ext.store0 ?_ _ _ | refine Ext.storek ?_ _ _ _ | refine Ext.stores0 ?_ ?_ _ _ | refine Ext.storesk ?_ ?_ _ _ _ | refine Ext.drewN' ?_ _ | refine Ext.drew' ?_ | refine Ext.trans ?_ (by assumption)))))
      have Ba_2 := Ba_1.ext (show Ext w1 w2 from (by with_reducible (repeat (first | assumption | exact Ext.refl _ | refine Ext.alloc' ?_ _ | refine Ext.store0 ?_ _ _ | refine Ext.storek ?_ _ _ _ | refine Ext.stores0 ?_ ?_ _ _ | refine Ext.storesk ?_ ?_ _ _ _ | refine Ext.drewN' ?_ _ | refine Ext.drew' ?_ | refine Ext.trans ?_ (by assumption)))))
      have Bb_2 := Bb_1.ext (show Ext w1 w2 from (by with_reducible (repeat (first | assumption | exact Ext.refl _ | refine Ext.alloc' ?_ _ | refine Ext.store0 ?_ _ _ | refine Ext.storek ?_ _ _ _ | refine Ext.stores0 ?_ ?_ _ _ | refine Ext.storesk ?_ ?_ _ _ _ | refine Ext.drewN' ?_ _ | refine Ext.drew' ?_ | refine Ext.trans ?_ (by assumption)))))
      clear Bi_1 ci0 ci1 ci2 ci3 ci4 ci5 ci6 ci7 ci8 ci9 ci10 ci11 ci12 di0 di1 di2 di3 di4 di5 di6 di7 di8 di9 di10 di11 di12 Ba_1 ca0 ca1 ca2 ca3 ca4 da0 da1 da2 da3 da4 Bb_1 cb0 cb1 cb2 cb3 cb4 db0 db1 db2 db3 db4
      obtain ⟨ci0, ci1, ci2, ci3, ci4, ci5, ci6, ci7, ci8, ci9, ci10, ci11, ci12, di0, di1, di2, di3, di4, di5, di6, di7, di8, di9, di10, di11, di12⟩ := cells13 Bi_2
      have zi : w.heap.size < w2.heap.size := Bi_2.lt
      obtain ⟨ca0, ca1, ca2, ca3, ca4, da0, da1, da2, da3, da4⟩ := cells5 Ba_2
      have za : w.heap.size + 1 < w2.heap.size := Ba_2.lt
      obtain ⟨cb0, cb1, cb2, cb3, cb4, db0, db1, db2, db3, db4⟩ := cells5 Bb_2
      have zb : w.heap.size + 1 + 1 < w2.heap.size := Bb_2.lt
      go_wp2_with (fail)
      go_at_call 74
      refine (kb _ (by with_reducible (repeat (first | assumption | exact Ext.refl _ | refine Ext.alloc' ?_ _ | refine Ext.store0 ?_ _ _ | refine Ext.storek ?_ _ _ _ | refine Ext.stores0 ?_ ?_ _ _ | refine Ext.storesk ?_ ?_ _ _ _ | refine Ext.drewN' ?_ _ | refine Ext.drew' ?_ | refine Ext.trans ?_ (by assumption))))).calls.mono ?_
      rintro e w3 ⟨_, rfl, hb3, rfl⟩
      have Bi_3 := Bi_2.ext (show Ext w2 w3 from (by with_reducible (repeat (first | assumption | exact Ext.refl _ | refine Ext.alloc' ?_ _ | refine Ext.store0 ?_ _ _ | refine Ext.storek ?_ _ _ _ | refine Ext.stores0 ?_ ?_ _ _ | refine Ext.storesk ?_ ?_ _ _ _ | refine Ext.drewN' ?_ _ | refine Ext.drew' ?_ | refine Ext.trans ?_ (by assumption)))))
      have Ba_3 := Ba_2.ext (show Ext w2 w3 from (by with_reducible (repeat (first | assumption | exact Ext.refl _ | refine Ext.alloc' ?_ _ | refine Ext.store0 ?_ _ _ | refine Ext.storek ?_ _ _ _ | refine Ext.stores0 ?_ ?_ _ _ | refine Ext.storesk ?_ ?_ _ _ _ | refine Ext.drewN' ?_ _ | refine Ext.drew' ?_ | refine Ext.trans ?_ (by assumption)))))
      have Bb_3 := Bb_2.ext (show Ext w2 w3 from (by with_reducible (repeat (first | assumption | exact Ext.refl _ | refine Ext.alloc' ?_ _ | refine Ext.store0 ?_ _ _ | refine Ext.storek ?_ _ _ _ | refine Ext.stores0 ?_ ?_ _ _ | refine Ext.storesk ?_ ?_ _ _ _ | refine Ext.drewN' ?_ _ | refine Ext.drew' ?_ | refine Ext.trans ?_ (by assumption)))))
      clear Bi_2 ci0 ci1 ci2 ci3 ci4 ci5 ci6 ci7 ci8 ci9 ci10 ci11 ci12 di0 di1 di2 di3 di4 di5 di6 di7 di8 di9 di10 di11 di12 Ba_2 ca0 ca1 ca2 ca3 ca4 da0 da1 da2 da3 da4 Bb_2 cb0 cb1 cb2 cb3 cb4 db0 db1 db2 db3 db4
      obtain ⟨ci0, ci1, ci2, ci3, ci4, ci5, ci6, ci7, ci8, ci9, ci10, ci11, ci12, di0, di1, di2, di3, di4, di5, di6, di7, di8, di9, di10, di11, di12⟩ := cells13 Bi_3
      have zi : w.heap.size < w3.heap.size := Bi_3.lt
      obtain ⟨ca0, ca1, ca2, ca3, ca4, da0, da1, da2, da3, da4⟩ := cells5 Ba_3
      have za : w.heap.size + 1 < w3.heap.size := Ba_3.lt
      obtain ⟨cb0, cb1, cb2, cb3, cb4, db0, db1, db2, db3, db4⟩ := cells5 Bb_3
      have zb : w.heap.size + 1 + 1 < w3.heap.size := Bb_3.lt
      go_wp2
      go_ret
      exact ⟨_, rfl, (by with_reducible (repeat (first | assumption | exact Ext.refl _ | refine Ext.alloc' ?_ _ | refine Ext.store0 ?_ _ _ | refine Ext.storek ?_ _ _ _ | refine Ext.stores0 ?_ ?_ _ _ | refine Ext.storesk ?_ ?_ _ _ _ | refine Ext.drewN' ?_ _ | refine Ext.drew' ?_ | refine Ext.trans ?_ (by assumption)))), rfl⟩
    · go_enter Proofs.Try.func19, Proofs.Try.ntmps19
      go_wp2_with (fail)
      go_at_call 73
      refine (shown3_ _).calls.mono ?_
      rintro e w1 ⟨_, rfl, hb1, rfl⟩
      have Bi_1 : Box w1 (w.heap.size) #[.slice aw sa.M.W.length cw, .slice ag sa.M.G.length cg, .bool sa.M.bad, .slice ac sa.C.length cc, .slice al sa.L.length cl, .slice bw sb.M.W.length dw, .slice bg sb.M.G.length dg, .bool sb.M.bad, .slice bc sb.C.length dc, .slice bl sb.L.length dl, .int .i64 nc, .int .i64 nn, .int .i64 id] 85 := (((Box.new _ _ _).alloc _).alloc _).ext hb1
      have Ba_1 : Box w1 (w.heap.size + 1) #[.slice aw sa.M.W.length cw, .slice ag sa.M.G.length cg, .bool sa.M.bad, .slice ac sa.C.length cc, .slice al sa.L.length cl] 83 := ((Box.two _ _ _ _ _).alloc _).ext hb1
      have Bb_1 : Box w1 (w.heap.size + 1 + 1) #[.slice bw sb.M.W.length dw, .slice bg sb.M.G.length dg, .bool sb.M.bad, .slice bc sb.C.length dc, .slice bl sb.L.length dl] 83 := (Box.three' _ _ _ _ _ _ _).ext hb1
      obtain ⟨ci0, ci1, ci2, ci3, ci4, ci5, ci6, ci7, ci8, ci9, ci10, ci11, ci12, di0, di1, di2, di3, di4, di5, di6, di7, di8, di9, di10, di11, di12⟩ := cells13 Bi_1
      have zi : w.heap.size < w1.heap.size := Bi_1.lt
      obtain ⟨ca0, ca1, ca2, ca3, ca4, da0, da1, da2, da3, da4⟩ := cells5 Ba_1
      have za : w.heap.size + 1 < w1.heap.size := Ba_1.lt
      obtain ⟨cb0, cb1, cb2, cb3, cb4, db0, db1, db2, db3, db4⟩ := cells5 Bb_1
      have zb : w.heap.size + 1 + 1 < w1.heap.size := Bb_1.lt
      go_wp2_with (fail)
      go_at_call 74
      refine (ka _ (by with_reducible (repeat (first | assumption | exact Ext.refl _ | refine Ext.alloc' ?_ _ | refine Ext.store0 ?_ _ _ | refine Ext.storek ?_ _ _ _ | refine Ext.stores0 ?_ ?_ _ _ | refine Ext.storesk ?_ ?_ _ _ _ | refine Ext.drewN' ?_ _ | refine Ext.drew' ?_ | refine Ext.trans ?_ (by assumption))))).calls.mono ?_
      rintro e w2 ⟨_, rfl, hb2, rfl⟩
      have Bi_2 := Bi_1.ext (show Ext w1 w2 from (by with_reducible (repeat (first | assumption | exact Ext.refl _ | refine Ext.alloc' ?_ _ | refine Ext.store0 ?_ _ _ | refine Ext.storek ?_ _ _ _ | refine Ext.stores0 ?_ ?_ _ _ | refine Ext.storesk ?_ ?_ _ _ _ | refine Ext.drewN' ?_ _ | refine Ext.drew' ?_ | refine Ext.trans ?_ (by assumption)))))
      have Ba_2 := Ba_1.ext (show Ext w1 w2 from (by with_reducible (repeat (first | assumption | exact Ext.refl _ | refine Ext.alloc' ?_ _ | refine Ext.store0 ?_ _ _ | refine Ext.storek ?_ _ _ _ | refine Ext.stores0 ?_ ?_ _ _ | refine Ext.storesk ?_ ?_ _ _ _ | refine Ext.drewN' ?_ _ | refine Ext.drew' ?_ | refine Ext.trans ?_ (by assumption)))))
      have Bb_2 := Bb_1.ext (show Ext w1 w2 from (by with_reducible (repeat (first | assumption | exact Ext.refl _ | refine Ext.alloc' ?_ _ | refine Ext.store0 ?_ _ _ | refine Ext.storek ?_ _ _ _ | refine Ext.stores0 ?_ ?_ _ _ | refine Ext.storesk ?_ ?_ _ _ _ | refine Ext.drewN' ?_ _ | refine Ext.drew' ?_ | refine Ext.trans ?_ (by assumption)))))
      clear Bi_1 ci0 ci1 ci2 ci3 ci4 ci5 ci6 ci7 ci8 ci9 ci10 ci11 ci12 di0 di1 di2 di3 di4 di5 di6 di7 di8 di9 di10 di11 di12 Ba_1 ca0 ca1 ca2 ca3 ca4 da0 da1 da2 da3 da4 Bb_1 cb0 cb1 cb2 cb3 cb4 db0 db1 db2 db3 db4
      obtain ⟨ci0, ci1, ci2, ci3, ci4, ci5, ci6, ci7, ci8, ci9, ci10, ci11, ci12, di0, di1, di2, di3, di4, di5, di6, di7, di8, di9, di10, di11, di12⟩ := cells13 Bi_2
      have zi : w.heap.size < w2.heap.size := Bi_2.lt
      obtain ⟨ca0, ca1, ca2, ca3, ca4, da0, da1, da2, da3, da4⟩ := cells5 Ba_2
      have za : w.heap.size + 1 < w2.heap.size := Ba_2.lt
      obtain ⟨cb0, cb1, cb2, cb3, cb4, db0, db1, db2, db3, db4⟩ := cells5 Bb_2
      have zb : w.heap.size + 1 + 1 < w2.heap.size := Bb_2.lt
      go_wp2_with (fail)
      go_at_call 74
      refine (kb _ (by with_reducible (repeat (first | assumption | exact Ext.refl _ | refine Ext.alloc' ?_ _ | refine Ext.store0 ?_ _ _ | refine Ext.storek ?_ _ _ _ | refine Ext.stores0 ?_ ?_ _ _ | refine Ext.storesk ?_ ?_ _ _ _ | refine Ext.drewN' ?_ _ | refine Ext.drew' ?_ | refine Ext.trans ?_ (by assumption))))).calls.mono ?_
      rintro e w3 ⟨_, rfl, hb3, rfl⟩
      have Bi_3 := Bi_2.ext (show Ext w2 w3 from (by with_reducible (repeat (first | assumption | exact Ext.refl _ | refine Ext.alloc' ?_ _ | refine Ext.store0 ?_ _ _ | refine Ext.storek ?_ _ _ _ | refine Ext.stores0 ?_ ?_ _ _ | refine Ext.storesk ?_ ?_ _ _ _ | refine Ext.drewN' ?_ _ | refine Ext.drew' ?_ | refine Ext.trans ?_ (by assumption)))))
      have Ba_3 := Ba_2.ext (show Ext w2 w3 from (by with_reducible (repeat (first | assumption | exact Ext.refl _ | refine Ext.alloc' ?_ _ | refine Ext.store0 ?_ _ _ | refine Ext.storek ?_ _ _ _ | refine Ext.stores0 ?_ ?_ _ _ | refine Ext.storesk ?_ ?_ _ _ _ | refine Ext.drewN' ?_ _ | refine Ext.drew' ?_ | refine Ext.trans ?_ (by assumption)))))
      have Bb_3 := Bb_2.ext (show Ext w2 w3 from (by with_reducible (repeat (first | assumption | exact Ext.refl _ | refine Ext.alloc' ?_ _ | refine Ext.store0 ?_ _ _ | refine Ext.storek ?_ _ _ _ | refine Ext.stores0 ?_ ?_ _ _ | refine Ext.storesk ?_ ?_ _ _ _ | refine Ext.drewN' ?_ _ | refine Ext.drew' ?_ | refine Ext.trans ?_ (by assumption)))))
      clear Bi_2 ci0 ci1 ci2 ci3 ci4 ci5 ci6 ci7 ci8 ci9 ci10 ci11 ci12 di0 di1 di2 di3 di4 di5 di6 di7 di8 di9 di10 di11 di12 Ba_2 ca0 ca1 ca2 ca3 ca4 da0 da1 da2 da3 da4 Bb_2 cb0 cb1 cb2 cb3 cb4 db0 db1 db2 db3 db4
      obtain ⟨ci0, ci1, ci2, ci3, ci4, ci5, ci6, ci7, ci8, ci9, ci10, ci11, ci12, di0, di1, di2, di3, di4, di5, di6, di7, di8, di9, di10, di11, di12⟩ := cells13 Bi_3
      have zi : w.heap.size < w3.heap.size := Bi_3.lt
      obtain ⟨ca0, ca1, ca2, ca3, ca4, da0, da1, da2, da3, da4⟩ := cells5 Ba_3
      have za : w.heap.size + 1 < w3.heap.size := Ba_3.lt
      obtain ⟨cb0, cb1, cb2, cb3, cb4, db0, db1, db2, db3, db4⟩ := cells5 Bb_3
      have zb : w.heap.size + 1 + 1 < w3.heap.size := Bb_3.lt
      obtain ⟨mn, hmn⟩ : ∃ mn, newS nc nn = mn := ⟨_, rfl⟩
      obtain ⟨ne, hne⟩ : ∃ ne, newSE nc nn = ne := ⟨_, rfl⟩
      obtain ⟨r, hr⟩ : ∃ r, rightS sa = r := ⟨_, rfl⟩
      obtain ⟨q, hq⟩ : ∃ q, sameS sa sb = q := ⟨_, rfl⟩
      obtain ⟨tf, htf⟩ : ∃ tf, topF sa id = tf := ⟨_, rfl⟩
      obtain ⟨tb, htb⟩ : ∃ tb, (topD sa id).isSome = tb := ⟨_, rfl⟩
      have e8 : eq8 tf.R tf.R = true := by simp [eq8]
      have Hn := Lib.hid hmn; have He := Lib.hid hne; have Hr := Lib.hid hr; have Hq := Lib.hid hq; have Hf := Lib.hid htf; have Hb := Lib.hid htb
      clear hmn hne hr hq htf htb
      go_wp2_with (fail)
      go_at_call 75
      refine (sysNew_ no nc nn _ no_lt).calls.mono ?_
      rintro e w4 ⟨_, rfl, hb4, u, rfl, hup⟩
      rw [Hn.out] at hup
      rw [He.out]
      obtain ⟨p1, p2, p3, p4, p5, p6, p7, p8, rfl, pw, pg, pc, pl⟩ := hup.opened
      have Bi_4 := Bi_3.ext (show Ext w3 w4 from (by with_reducible (repeat (first | assumption | exact Ext.refl _ | refine Ext.alloc' ?_ _ | refine Ext.store0 ?_ _ _ | refine Ext.storek ?_ _ _ _ | refine Ext.stores0 ?_ ?_ _ _ | refine Ext.storesk ?_ ?_ _ _ _ | refine Ext.drewN' ?_ _ | refine Ext.drew' ?_ | refine Ext.trans ?_ (by assumption)))))
      have Ba_4 := Ba_3.ext (show Ext w3 w4 from (by with_reducible (repeat (first | assumption | exact Ext.refl _ | refine Ext.alloc' ?_ _ | refine Ext.store0 ?_ _ _ | refine Ext.storek ?_ _ _ _ | refine Ext.stores0 ?_ ?_ _ _ | refine Ext.storesk ?_ ?_ _ _ _ | refine Ext.drewN' ?_ _ | refine Ext.drew' ?_ | refine Ext.trans ?_ (by assumption)))))
      have Bb_4 := Bb_3.ext (show Ext w3 w4 from (by with_reducible (repeat (first | assumption | exact Ext.refl _ | refine Ext.alloc' ?_ _ | refine Ext.store0 ?_ _ _ | refine Ext.storek ?_ _ _ _ | refine Ext.stores0 ?_ ?_ _ _ | refine Ext.storesk ?_ ?_ _ _ _ | refine Ext.drewN' ?_ _ | refine Ext.drew' ?_ | refine Ext.trans ?_ (by assumption)))))
      clear Bi_3 ci0 ci1 ci2 ci3 ci4 ci5 ci6 ci7 ci8 ci9 ci10 ci11 ci12 di0 di1 di2 di3 di4 di5 di6 di7 di8 di9 di10 di11 di12 Ba_3 ca0 ca1 ca2 ca3 ca4 da0 da1 da2 da3 da4 Bb_3 cb0 cb1 cb2 cb3 cb4 db0 db1 db2 db3 db4
      obtain ⟨ci0, ci1, ci2, ci3, ci4, ci5, ci6, ci7, ci8, ci9, ci10, ci11, ci12, di0, di1, di2, di3, di4, di5, di6, di7, di8, di9, di10, di11, di12⟩ := cells13 Bi_4
      have zi : w.heap.size < w4.heap.size := Bi_4.lt
      obtain ⟨ca0, ca1, ca2, ca3, ca4, da0, da1, da2, da3, da4⟩ := cells5 Ba_4
      have za : w.heap.size + 1 < w4.heap.size := Ba_4.lt
      obtain ⟨cb0, cb1, cb2, cb3, cb4, db0, db1, db2, db3, db4⟩ := cells5 Bb_4
      have zb : w.heap.size + 1 + 1 < w4.heap.size := Bb_4.lt
      go_wp2_with (fail)
      go_at_call 76
      refine (refNewS_ no nc nn _ no_lt).calls.mono ?_
      rintro e w5 ⟨_, rfl, hb5, u, rfl, huq⟩
      rw [Hn.out] at huq
      rw [He.out]
      obtain ⟨q1, q2, q3, q4, q5, q6, q7, q8, rfl, qw, qg, qc, ql⟩ := huq.opened
      have Bi_5 := Bi_4.ext (show Ext w4 w5 from (by with_reducible (repeat (first | assumption | exact Ext.refl _ | refine Ext.alloc' ?_ _ | refine Ext.store0 ?_ _ _ | refine Ext.storek ?_ _ _ _ | refine Ext.stores0 ?_ ?_ _ _ | refine Ext.storesk ?_ ?_ _ _ _ | refine Ext.drewN' ?_ _ | refine Ext.drew' ?_ | refine Ext.trans ?_ (by assumption)))))
      have Ba_5 := Ba_4.ext (show Ext w4 w5 from (by with_reducible (repeat (first | assumption | exact Ext.refl _ | refine Ext.alloc' ?_ _ | refine Ext.store0 ?_ _ _ | refine Ext.storek ?_ _ _ _ | refine Ext.stores0 ?_ ?_ _ _ | refine Ext.storesk ?_ ?_ _ _ _ | refine Ext.drewN' ?_ _ | refine Ext.drew' ?_ | refine Ext.trans ?_ (by assumption)))))
      have Bb_5 := Bb_4.ext (show Ext w4 w5 from (by with_reducible (repeat (first | assumption | exact Ext.refl _ | refine Ext.alloc' ?_ _ | refine Ext.store0 ?_ _ _ | refine Ext.storek ?_ _ _ _ | refine Ext.stores0 ?_ ?_ _ _ | refine Ext.storesk ?_ ?_ _ _ _ | refine Ext.drewN' ?_ _ | refine Ext.drew' ?_ | refine Ext.trans ?_ (by assumption)))))
      clear Bi_4 ci0 ci1 ci2 ci3 ci4 ci5 ci6 ci7 ci8 ci9 ci10 ci11 ci12 di0 di1 di2 di3 di4 di5 di6 di7 di8 di9 di10 di11 di12 Ba_4 ca0 ca1 ca2 ca3 ca4 da0 da1 da2 da3 da4 Bb_4 cb0 cb1 cb2 cb3 cb4 db0 db1 db2 db3 db4
      have Bp_5 : Box w5 (w4.heap.size) #[.slice p1 mn.M.W.length p2, .slice p3 mn.M.G.length p4, .bool mn.M.bad, .slice p5 mn.C.length p6, .slice p7 mn.L.length p8] 83 := (Box.new _ _ _).ext hb5
      obtain ⟨ci0, ci1, ci2, ci3, ci4, ci5, ci6, ci7, ci8, ci9, ci10, ci11, ci12, di0, di1, di2, di3, di4, di5, di6, di7, di8, di9, di10, di11, di12⟩ := cells13 Bi_5
      have zi : w.heap.size < w5.heap.size := Bi_5.lt
      obtain ⟨ca0, ca1, ca2, ca3, ca4, da0, da1, da2, da3, da4⟩ := cells5 Ba_5
      have za : w.heap.size + 1 < w5.heap.size := Ba_5.lt
      obtain ⟨cb0, cb1, cb2, cb3, cb4, db0, db1, db2, db3, db4⟩ := cells5 Bb_5
      have zb : w.heap.size + 1 + 1 < w5.heap.size := Bb_5.lt
      obtain ⟨cp0, cp1, cp2, cp3, cp4, dp0, dp1, dp2, dp3, dp4⟩ := cells5 Bp_5
      have zp : w4.heap.size < w5.heap.size := Bp_5.lt
      go_wp2_with (fail)
      go_at_call 77
      refine (refRightS_ no _ sa _ ((IsSys.mk rfl hw hg hc hl : IsSys no w (.agg #[.slice aw sa.M.W.length cw, .slice ag sa.M.G.length cg, .bool sa.M.bad, .slice ac sa.C.length cc, .slice al sa.L.length cl]) sa).ext (by with_reducible (repeat (first | assumption | exact Ext.refl _ | refine Ext.alloc' ?_ _ | refine Ext.store0 ?_ _ _ | refine Ext.storek ?_ _ _ _ | refine Ext.stores0 ?_ ?_ _ _ | refine Ext.storesk ?_ ?_ _ _ _ | refine Ext.drewN' ?_ _ | refine Ext.drew' ?_ | refine Ext.trans ?_ (by assumption)))))).calls.mono ?_
      rintro e w6 ⟨_, rfl, hb6, rfl⟩
      rw [Hr.out]
      have Bi_6 := Bi_5.ext (show Ext w5 w6 from (by with_reducible (repeat (first | assumption | exact Ext.refl _ | refine Ext.alloc' ?_ _ | refine Ext.store0 ?_ _ _ | refine Ext.storek ?_ _ _ _ | refine Ext.stores0 ?_ ?_ _ _ | refine Ext.storesk ?_ ?_ _ _ _ | refine Ext.drewN' ?_ _ | refine Ext.drew' ?_ | refine Ext.trans ?_ (by assumption)))))
      have Ba_6 := Ba_5.ext (show Ext w5 w6 from (by with_reducible (repeat (first | assumption | exact Ext.refl _ | refine Ext.alloc' ?_ _ | refine Ext.store0 ?_ _ _ | refine Ext.storek ?_ _ _ _ | refine Ext.stores0 ?_ ?_ _ _ | refine Ext.storesk ?_ ?_ _ _ _ | refine Ext.drewN' ?_ _ | refine Ext.drew' ?_ | refine Ext.trans ?_ (by assumption)))))
      have Bb_6 := Bb_5.ext (show Ext w5 w6 from (by with_reducible (repeat (first | assumption | exact Ext.refl _ | refine Ext.alloc' ?_ _ | refine Ext.store0 ?_ _ _ | refine Ext.storek ?_ _ _ _ | refine Ext.stores0 ?_ ?_ _ _ | refine Ext.storesk ?_ ?_ _ _ _ | refine Ext.drewN' ?_ _ | refine Ext.drew' ?_ | refine Ext.trans ?_ (by assumption)))))
      have Bp_6 := Bp_5.ext (show Ext w5 w6 from (by with_reducible (repeat (first | assumption | exact Ext.refl _ | refine Ext.alloc' ?_ _ | refine Ext.store0 ?_ _ _ | refine Ext.storek ?_ _ _ _ | refine Ext.stores0 ?_ ?_ _ _ | refine Ext.storesk ?_ ?_ _ _ _ | refine Ext.drewN' ?_ _ | refine Ext.drew' ?_ | refine Ext.trans ?_ (by assumption)))))
      clear Bi_5 ci0 ci1 ci2 ci3 ci4 ci5 ci6 ci7 ci8 ci9 ci10 ci11 ci12 di0 di1 di2 di3 di4 di5 di6 di7 di8 di9 di10 di11 di12 Ba_5 ca0 ca1 ca2 ca3 ca4 da0 da1 da2 da3 da4 Bb_5 cb0 cb1 cb2 cb3 cb4 db0 db1 db2 db3 db4 Bp_5 cp0 cp1 cp2 cp3 cp4 dp0 dp1 dp2 dp3 dp4
      have Bq_6 : Box w6 (w5.heap.size) #[.slice q1 mn.M.W.length q2, .slice q3 mn.M.G.length q4, .bool mn.M.bad, .slice q5 mn.C.length q6, .slice q7 mn.L.length q8] 83 := (Box.new _ _ _).ext hb6
      obtain ⟨ci0, ci1, ci2, ci3, ci4, ci5, ci6, ci7, ci8, ci9, ci10, ci11, ci12, di0, di1, di2, di3, di4, di5, di6, di7, di8, di9, di10, di11, di12⟩ := cells13 Bi_6
      have zi : w.heap.size < w6.heap.size := Bi_6.lt
      obtain ⟨ca0, ca1, ca2, ca3, ca4, da0, da1, da2, da3, da4⟩ := cells5 Ba_6
      have za : w.heap.size + 1 < w6.heap.size := Ba_6.lt
      obtain ⟨cb0, cb1, cb2, cb3, cb4, db0, db1, db2, db3, db4⟩ := cells5 Bb_6
      have zb : w.heap.size + 1 + 1 < w6.heap.size := Bb_6.lt
      obtain ⟨cp0, cp1, cp2, cp3, cp4, dp0, dp1, dp2, dp3, dp4⟩ := cells5 Bp_6
      have zp : w4.heap.size < w6.heap.size := Bp_6.lt
      obtain ⟨cq0, cq1, cq2, cq3, cq4, dq0, dq1, dq2, dq3, dq4⟩ := cells5 Bq_6
      have zq : w5.heap.size < w6.heap.size := Bq_6.lt
      go_wp2_with (fail)
      have hE5 : Ext w5 w6 := (by with_reducible (repeat (first | assumption | exact Ext.refl _ | refine Ext.alloc' ?_ _ | refine Ext.store0 ?_ _ _ | refine Ext.storek ?_ _ _ _ | refine Ext.stores0 ?_ ?_ _ _ | refine Ext.storesk ?_ ?_ _ _ _ | refine Ext.drewN' ?_ _ | refine Ext.drew' ?_ | refine Ext.trans ?_ (by assumption))))
      have hE4 : Ext w4 w6 := (by with_reducible (repeat (first | assumption | exact Ext.refl _ | refine Ext.alloc' ?_ _ | refine Ext.store0 ?_ _ _ | refine Ext.storek ?_ _ _ _ | refine Ext.stores0 ?_ ?_ _ _ | refine Ext.storesk ?_ ?_ _ _ _ | refine Ext.drewN' ?_ _ | refine Ext.drew' ?_ | refine Ext.trans ?_ (by assumption))))
      have hEk : Ext w w6 := (by with_reducible (repeat (first | assumption | exact Ext.refl _ | refine Ext.alloc' ?_ _ | refine Ext.store0 ?_ _ _ | refine Ext.storek ?_ _ _ _ | refine Ext.stores0 ?_ ?_ _ _ | refine Ext.storesk ?_ ?_ _ _ _ | refine Ext.drewN' ?_ _ | refine Ext.drew' ?_ | refine Ext.trans ?_ (by assumption))))
      apply region_lit2 (T := []) (L := []) (X := []) (G := [eqv _, eqv _, eqv (.bool true), eqv (.bool false), eqv _, eqv _, eqv _, eqv (.bool false), eqv _, eqv _, eqv _, eqv (.bool r), eqv _, eqv (.bool false), eqv _, eqv _, eqv _, eqv _, eqv (.bool q), eqv _, eqv _, eqv (.bool q), eqv (.bool false), eqv _])
      case hm => kernel_rfl
      case hop =>
        refine ⟨?_, ?_, ?_, ?_, ?_, ?_, ?_, ?_, ?_, ?_, ?_, ?_, ?_, ?_, ?_, ?_, ?_, ?_, ?_, ?_, ?_, ?_, ?_, ?_, trivial⟩
        · intro a wa hs hf hd
          have t9 := hf.off 9 (by kernel_rfl) rfl
          exact plain_ rfl (yes_eqv (o_load5 rfl Proofs.Try.underlying83 rfl (by kernel_rfl) t9 ((Bp_6.since hs rfl).cell rfl) ((Bp_6.since hs rfl).cell rfl) ((Bp_6.since hs rfl).cell rfl) ((Bp_6.since hs rfl).cell rfl) ((Bp_6.since hs rfl).cell rfl)) rfl)
        · intro a wa hs hf hd
          have t11 := hf.off 11 (by kernel_rfl) rfl
          exact plain_ rfl (yes_eqv (o_load5 rfl Proofs.Try.underlying83 rfl (by kernel_rfl) t11 ((Bq_6.since hs rfl).cell rfl) ((Bq_6.since hs rfl).cell rfl) ((Bq_6.since hs rfl).cell rfl) ((Bq_6.since hs rfl).cell rfl) ((Bq_6.since hs rfl).cell rfl)) rfl)
        · intro a wa hs hf hd
          have t52 : a.eval (.tmp 52) = _ := hd.at 0 52 (by kernel_rfl)
          have t53 : a.eval (.tmp 53) = _ := hd.at 1 53 (by kernel_rfl)
          exact plain_ rfl (yes_gives (show Gives Proofs.Try.prog 78 #[.agg #[.slice p1 mn.M.W.length p2, .slice p3 mn.M.G.length p4, .bool mn.M.bad, .slice p5 mn.C.length p6, .slice p7 mn.L.length p8], .agg #[.slice q1 mn.M.W.length q2, .slice q3 mn.M.G.length q4, .bool mn.M.bad, .slice q5 mn.C.length q6, .slice q7 mn.L.length q8]] _ (eqv (.bool true)) from sameT_ _ _ mn _ ((IsSys.mk rfl pw pg pc pl : IsSys no w4 (.agg #[.slice p1 mn.M.W.length p2, .slice p3 mn.M.G.length p4, .bool mn.M.bad, .slice p5 mn.C.length p6, .slice p7 mn.L.length p8]) mn).ext (hE4.trans (Since.to_ext hs))) ((IsSys.mk rfl qw qg qc ql : IsSys no w5 (.agg #[.slice q1 mn.M.W.length q2, .slice q3 mn.M.G.length q4, .bool mn.M.bad, .slice q5 mn.C.length q6, .slice q7 mn.L.length q8]) mn).ext (hE5.trans (Since.to_ext hs)))) rfl rfl Proofs.Try.func78 (by kernel_rfl) (by kernel_rfl) (by simp only [List.map_toArray, List.map_cons, List.map_nil, t52, t53]) rfl)
        · intro a wa hs hf hd
          have t54 : a.eval (.tmp 54) = _ := hd.at 2 54 (by kernel_rfl)
          exact plain_ rfl (yes_eqv (o_not rfl t54 rfl) rfl)
        · intro a wa hs hf hd
          have t55 : a.eval (.tmp 55) = _ := hd.at 3 55 (by kernel_rfl)
          exact plain_ rfl (yes_eqv (o_move rfl t55) rfl)
        · intro a wa hs hf hd
          have t56 : a.eval (.tmp 56) = _ := hd.at 4 56 (by kernel_rfl)
          have t10 := hf.off 10 (by kernel_rfl) rfl
          exact guard_on rfl rfl t56 (yes_eqv (o_move rfl t10) rfl)
        · intro a wa hs hf hd
          have t56 : a.eval (.tmp 56) = _ := hd.at 4 56 (by kernel_rfl)
          have t12 := hf.off 12 (by kernel_rfl) rfl
          exact guard_on rfl rfl t56 (yes_eqv (o_move rfl t12) rfl)
        · intro a wa hs hf hd
          have t56 : a.eval (.tmp 56) = _ := hd.at 4 56 (by kernel_rfl)
          have t57 : a.eval (.tmp 57) = _ := hd.at 5 57 (by kernel_rfl)
          have t58 : a.eval (.tmp 58) = _ := hd.at 6 58 (by kernel_rfl)
          exact guard_on rfl rfl t56 (yes_eqv (o_neq rfl t57 t58 (by simp)) rfl)
        · intro a wa hs hf hd
          have t56 : a.eval (.tmp 56) = _ := hd.at 4 56 (by kernel_rfl)
          have t59 : a.eval (.tmp 59) = _ := hd.at 7 59 (by kernel_rfl)
          exact plain_ rfl (yes_eqv (o_pick_f rfl t56 t59) rfl)
        · intro a wa hs hf hd
          have t60 : a.eval (.tmp 60) = _ := hd.at 8 60 (by kernel_rfl)
          exact plain_ rfl (yes_eqv (o_move rfl t60) rfl)
        · intro a wa hs hf hd
          have t61 : a.eval (.tmp 61) = _ := hd.at 9 61 (by kernel_rfl)
          have t3 := hf.off 3 (by kernel_rfl) rfl
          exact guard_on rfl rfl t61 (yes_eqv (o_load5 rfl Proofs.Try.underlying83 rfl (by kernel_rfl) t3 ((Ba_6.since hs rfl).cell rfl) ((Ba_6.since hs rfl).cell rfl) ((Ba_6.since hs rfl).cell rfl) ((Ba_6.since hs rfl).cell rfl) ((Ba_6.since hs rfl).cell rfl)) rfl)
        · intro a wa hs hf hd
          have t61 : a.eval (.tmp 61) = _ := hd.at 9 61 (by kernel_rfl)
          have t62 : a.eval (.tmp 62) = _ := hd.at 10 62 (by kernel_rfl)
          exact guard_on rfl rfl t61 (yes_gives (show Gives Proofs.Try.prog 79 #[.agg #[.slice aw sa.M.W.length cw, .slice ag sa.M.G.length cg, .bool sa.M.bad, .slice ac sa.C.length cc, .slice al sa.L.length cl]] _ (eqv (.bool r)) by rw [← Hr.out]; exact sysRight_ no _ sa _ ((IsSys.mk rfl hw hg hc hl : IsSys no w (.agg #[.slice aw sa.M.W.length cw, .slice ag sa.M.G.length cg, .bool sa.M.bad, .slice ac sa.C.length cc, .slice al sa.L.length cl]) sa).ext (hEk.trans (Since.to_ext hs)))) rfl rfl Proofs.Try.func79 (by kernel_rfl) (by kernel_rfl) (by simp only [List.map_toArray, List.map_cons, List.map_nil, t62]) rfl)
        · intro a wa hs hf hd
          have t61 : a.eval (.tmp 61) = _ := hd.at 9 61 (by kernel_rfl)
          have t13 := hf.off 13 (by kernel_rfl) rfl
          exact guard_on rfl rfl t61 (yes_eqv (o_move rfl t13) rfl)
        · intro a wa hs hf hd
          have t61 : a.eval (.tmp 61) = _ := hd.at 9 61 (by kernel_rfl)
          have t63 : a.eval (.tmp 63) = _ := hd.at 11 63 (by kernel_rfl)
          have t64 : a.eval (.tmp 64) = _ := hd.at 12 64 (by kernel_rfl)
          exact guard_on rfl rfl t61 (yes_eqv (o_neqb rfl Proofs.Try.underlying4 t63 t64 (by simp)) rfl)
        · intro a wa hs hf hd
          have t61 : a.eval (.tmp 61) = _ := hd.at 9 61 (by kernel_rfl)
          have t65 : a.eval (.tmp 65) = _ := hd.at 13 65 (by kernel_rfl)
          exact plain_ rfl (yes_eqv (o_pick_f rfl t61 t65) rfl)
        · intro a wa hs hf hd
          have t66 : a.eval (.tmp 66) = _ := hd.at 14 66 (by kernel_rfl)
          exact plain_ rfl (yes_eqv (o_move rfl t66) rfl)
        · intro a wa hs hf hd
          have t67 : a.eval (.tmp 67) = _ := hd.at 15 67 (by kernel_rfl)
          have t3 := hf.off 3 (by kernel_rfl) rfl
          exact guard_on rfl rfl t67 (yes_eqv (o_load5 rfl Proofs.Try.underlying83 rfl (by kernel_rfl) t3 ((Ba_6.since hs rfl).cell rfl) ((Ba_6.since hs rfl).cell rfl) ((Ba_6.since hs rfl).cell rfl) ((Ba_6.since hs rfl).cell rfl) ((Ba_6.since hs rfl).cell rfl)) rfl)
        · intro a wa hs hf hd
          have t67 : a.eval (.tmp 67) = _ := hd.at 15 67 (by kernel_rfl)
          have t4 := hf.off 4 (by kernel_rfl) rfl
          exact guard_on rfl rfl t67 (yes_eqv (o_load5 rfl Proofs.Try.underlying83 rfl (by kernel_rfl) t4 ((Bb_6.since hs rfl).cell rfl) ((Bb_6.since hs rfl).cell rfl) ((Bb_6.since hs rfl).cell rfl) ((Bb_6.since hs rfl).cell rfl) ((Bb_6.since hs rfl).cell rfl)) rfl)
        · intro a wa hs hf hd
          have t67 : a.eval (.tmp 67) = _ := hd.at 15 67 (by kernel_rfl)
          have t68 : a.eval (.tmp 68) = _ := hd.at 16 68 (by kernel_rfl)
          have t69 : a.eval (.tmp 69) = _ := hd.at 17 69 (by kernel_rfl)
          exact guard_on rfl rfl t67 (yes_gives (show Gives Proofs.Try.prog 80 #[.agg #[.slice aw sa.M.W.length cw, .slice ag sa.M.G.length cg, .bool sa.M.bad, .slice ac sa.C.length cc, .slice al sa.L.length cl], .agg #[.slice bw sb.M.W.length dw, .slice bg sb.M.G.length dg, .bool sb.M.bad, .slice bc sb.C.length dc, .slice bl sb.L.length dl]] _ (eqv (.bool q)) by rw [← Hq.out]; exact sysSame_ no _ _ sa sb _ ((IsSys.mk rfl hw hg hc hl : IsSys no w (.agg #[.slice aw sa.M.W.length cw, .slice ag sa.M.G.length cg, .bool sa.M.bad, .slice ac sa.C.length cc, .slice al sa.L.length cl]) sa).ext (hEk.trans (Since.to_ext hs))) ((IsSys.mk rfl iw ig ic il : IsSys no w (.agg #[.slice bw sb.M.W.length dw, .slice bg sb.M.G.length dg, .bool sb.M.bad, .slice bc sb.C.length dc, .slice bl sb.L.length dl]) sb).ext (hEk.trans (Since.to_ext hs)))) rfl rfl Proofs.Try.func80 (by kernel_rfl) (by kernel_rfl) (by simp only [List.map_toArray, List.map_cons, List.map_nil, t68, t69]) rfl)
        · intro a wa hs hf hd
          have t67 : a.eval (.tmp 67) = _ := hd.at 15 67 (by kernel_rfl)
          have t3 := hf.off 3 (by kernel_rfl) rfl
          exact guard_on rfl rfl t67 (yes_eqv (o_load5 rfl Proofs.Try.underlying83 rfl (by kernel_rfl) t3 ((Ba_6.since hs rfl).cell rfl) ((Ba_6.since hs rfl).cell rfl) ((Ba_6.since hs rfl).cell rfl) ((Ba_6.since hs rfl).cell rfl) ((Ba_6.since hs rfl).cell rfl)) rfl)
        · intro a wa hs hf hd
          have t67 : a.eval (.tmp 67) = _ := hd.at 15 67 (by kernel_rfl)
          have t4 := hf.off 4 (by kernel_rfl) rfl
          exact guard_on rfl rfl t67 (yes_eqv (o_load5 rfl Proofs.Try.underlying83 rfl (by kernel_rfl) t4 ((Bb_6.since hs rfl).cell rfl) ((Bb_6.since hs rfl).cell rfl) ((Bb_6.since hs rfl).cell rfl) ((Bb_6.since hs rfl).cell rfl) ((Bb_6.since hs rfl).cell rfl)) rfl)
        · intro a wa hs hf hd
          have t67 : a.eval (.tmp 67) = _ := hd.at 15 67 (by kernel_rfl)
          have t71 : a.eval (.tmp 71) = _ := hd.at 19 71 (by kernel_rfl)
          have t72 : a.eval (.tmp 72) = _ := hd.at 20 72 (by kernel_rfl)
          exact guard_on rfl rfl t67 (yes_gives (show Gives Proofs.Try.prog 78 #[.agg #[.slice aw sa.M.W.length cw, .slice ag sa.M.G.length cg, .bool sa.M.bad, .slice ac sa.C.length cc, .slice al sa.L.length cl], .agg #[.slice bw sb.M.W.length dw, .slice bg sb.M.G.length dg, .bool sb.M.bad, .slice bc sb.C.length dc, .slice bl sb.L.length dl]] _ (eqv (.bool q)) by rw [← Hq.out]; exact refSys_ no _ _ sa sb _ ((IsSys.mk rfl hw hg hc hl : IsSys no w (.agg #[.slice aw sa.M.W.length cw, .slice ag sa.M.G.length cg, .bool sa.M.bad, .slice ac sa.C.length cc, .slice al sa.L.length cl]) sa).ext (hEk.trans (Since.to_ext hs))) ((IsSys.mk rfl iw ig ic il : IsSys no w (.agg #[.slice bw sb.M.W.length dw, .slice bg sb.M.G.length dg, .bool sb.M.bad, .slice bc sb.C.length dc, .slice bl sb.L.length dl]) sb).ext (hEk.trans (Since.to_ext hs)))) rfl rfl Proofs.Try.func78 (by kernel_rfl) (by kernel_rfl) (by simp only [List.map_toArray, List.map_cons, List.map_nil, t71, t72]) rfl)
        · intro a wa hs hf hd
          have t67 : a.eval (.tmp 67) = _ := hd.at 15 67 (by kernel_rfl)
          have t70 : a.eval (.tmp 70) = _ := hd.at 18 70 (by kernel_rfl)
          have t73 : a.eval (.tmp 73) = _ := hd.at 21 73 (by kernel_rfl)
          exact guard_on rfl rfl t67 (yes_eqv (o_neqb rfl Proofs.Try.underlying4 t70 t73 (by simp)) rfl)
        · intro a wa hs hf hd
          have t67 : a.eval (.tmp 67) = _ := hd.at 15 67 (by kernel_rfl)
          have t74 : a.eval (.tmp 74) = _ := hd.at 22 74 (by kernel_rfl)
          exact plain_ rfl (yes_eqv (o_pick_f rfl t67 t74) rfl)
      case hG => exact ⟨stable_eqv _, stable_eqv _, stable_eqv _, stable_eqv _, stable_eqv _, stable_eqv _, stable_eqv _, stable_eqv _, stable_eqv _, stable_eqv _, stable_eqv _, stable_eqv _, stable_eqv _, stable_eqv _, stable_eqv _, stable_eqv _, stable_eqv _, stable_eqv _, stable_eqv _, stable_eqv _, stable_eqv _, stable_eqv _, stable_eqv _, stable_eqv _, trivial⟩
      case hc => kernel_rfl
      case hfin =>
        intro v2 hs2
        rintro _ rfl _ rfl _ rfl _ rfl _ rfl _ rfl _ rfl _ rfl _ rfl _ rfl _ rfl _ rfl _ rfl _ rfl _ rfl _ rfl _ rfl _ rfl _ rfl _ rfl _ rfl _ rfl _ rfl _ rfl
        rintro _ rfl
        simp only [Act.put, List.setIfInBounds_toArray, List.set_cons_zero, List.set_cons_succ]
        obtain ⟨w7, rfl, hb7⟩ := Ext.pick (Since.to_ext hs2)
        clear hs2
        have Bi_7 := Bi_6.ext (show Ext w6 w7 from (by with_reducible (repeat (first | assumption | exact Ext.refl _ | refine Ext.alloc' ?_ _ | refine Ext.store0 ?_ _ _ | refine Ext.storek ?_ _ _ _ | refine Ext.stores0 ?_ ?_ _ _ | refine Ext.storesk ?_ ?_ _ _ _ | refine Ext.drewN' ?_ _ | refine Ext.drew' ?_ | refine Ext.trans ?_ (by assumption)))))
        have Ba_7 := Ba_6.ext (show Ext w6 w7 from (by with_reducible (repeat (first | assumption | exact Ext.refl _ | refine Ext.alloc' ?_ _ | refine Ext.store0 ?_ _ _ | refine Ext.storek ?_ _ _ _ | refine Ext.stores0 ?_ ?_ _ _ | refine Ext.storesk ?_ ?_ _ _ _ | refine Ext.drewN' ?_ _ | refine Ext.drew' ?_ | refine Ext.trans ?_ (by assumption)))))
        have Bb_7 := Bb_6.ext (show Ext w6 w7 from (by with_reducible (repeat (first | assumption | exact Ext.refl _ | refine Ext.alloc' ?_ _ | refine Ext.store0 ?_ _ _ | refine Ext.storek ?_ _ _ _ | refine Ext.stores0 ?_ ?_ _ _ | refine Ext.storesk ?_ ?_ _ _ _ | refine Ext.drewN' ?_ _ | refine Ext.drew' ?_ | refine Ext.trans ?_ (by assumption)))))
        have Bp_7 := Bp_6.ext (show Ext w6 w7 from (by with_reducible (repeat (first | assumption | exact Ext.refl _ | refine Ext.alloc' ?_ _ | refine Ext.store0 ?_ _ _ | refine Ext.storek ?_ _ _ _ | refine Ext.stores0 ?_ ?_ _ _ | refine Ext.storesk ?_ ?_ _ _ _ | refine Ext.drewN' ?_ _ | refine Ext.drew' ?_ | refine Ext.trans ?_ (by assumption)))))
        have Bq_7 := Bq_6.ext (show Ext w6 w7 from (by with_reducible (repeat (first | assumption | exact Ext.refl _ | refine Ext.alloc' ?_ _ | refine Ext.store0 ?_ _ _ | refine Ext.storek ?_ _ _ _ | refine Ext.stores0 ?_ ?_ _ _ | refine Ext.storesk ?_ ?_ _ _ _ | refine Ext.drewN' ?_ _ | refine Ext.drew' ?_ | refine Ext.trans ?_ (by assumption)))))
        clear Bi_6 ci0 ci1 ci2 ci3 ci4 ci5 ci6 ci7 ci8 ci9 ci10 ci11 ci12 di0 di1 di2 di3 di4 di5 di6 di7 di8 di9 di10 di11 di12 Ba_6 ca0 ca1 ca2 ca3 ca4 da0 da1 da2 da3 da4 Bb_6 cb0 cb1 cb2 cb3 cb4 db0 db1 db2 db3 db4 Bp_6 cp0 cp1 cp2 cp3 cp4 dp0 dp1 dp2 dp3 dp4 Bq_6 cq0 cq1 cq2 cq3 cq4 dq0 dq1 dq2 dq3 dq4
        obtain ⟨ci0, ci1, ci2, ci3, ci4, ci5, ci6, ci7, ci8, ci9, ci10, ci11, ci12, di0, di1, di2, di3, di4, di5, di6, di7, di8, di9, di10, di11, di12⟩ := cells13 Bi_7
        have zi : w.heap.size < w7.heap.size := Bi_7.lt
        obtain ⟨ca0, ca1, ca2, ca3, ca4, da0, da1, da2, da3, da4⟩ := cells5 Ba_7
        have za : w.heap.size + 1 < w7.heap.size := Ba_7.lt
        obtain ⟨cb0, cb1, cb2, cb3, cb4, db0, db1, db2, db3, db4⟩ := cells5 Bb_7
        have zb : w.heap.size + 1 + 1 < w7.heap.size := Bb_7.lt
        obtain ⟨cp0, cp1, cp2, cp3, cp4, dp0, dp1, dp2, dp3, dp4⟩ := cells5 Bp_7
        have zp : w4.heap.size < w7.heap.size := Bp_7.lt
        obtain ⟨cq0, cq1, cq2, cq3, cq4, dq0, dq1, dq2, dq3, dq4⟩ := cells5 Bq_7
        have zq : w5.heap.size < w7.heap.size := Bq_7.lt
        cases r
        · go_wp2
          go_ret
          exact ⟨_, rfl, (by with_reducible (repeat (first | assumption | exact Ext.refl _ | refine Ext.alloc' ?_ _ | refine Ext.store0 ?_ _ _ | refine Ext.storek ?_ _ _ _ | refine Ext.stores0 ?_ ?_ _ _ | refine Ext.storesk ?_ ?_ _ _ _ | refine Ext.drewN' ?_ _ | refine Ext.drew' ?_ | refine Ext.trans ?_ (by assumption)))), rfl⟩
        · go_wp2_with (fail)
          go_at_call 81
          refine (top_ no _ sa id _ ((IsSys.mk rfl hw hg hc hl : IsSys no w (.agg #[.slice aw sa.M.W.length cw, .slice ag sa.M.G.length cg, .bool sa.M.bad, .slice ac sa.C.length cc, .slice al sa.L.length cl]) sa).ext (by with_reducible (repeat (first | assumption | exact Ext.refl _ | refine Ext.alloc' ?_ _ | refine Ext.store0 ?_ _ _ | refine Ext.storek ?_ _ _ _ | refine Ext.stores0 ?_ ?_ _ _ | refine Ext.storesk ?_ ?_ _ _ _ | refine Ext.drewN' ?_ _ | refine Ext.drew' ?_ | refine Ext.trans ?_ (by assumption)))))).calls.mono ?_
          rintro e w8 ⟨_, rfl, hb8, u, rfl, huf⟩
          rw [Hf.out] at huf
          rw [Hb.out]
          obtain ⟨f1, f2, rfl, f8, fs⟩ := huf.opened
          have Bi_8 := Bi_7.ext (show Ext w7 w8 from (by with_reducible (repeat (first | assumption | exact Ext.refl _ | refine Ext.alloc' ?_ _ | refine Ext.store0 ?_ _ _ | refine Ext.storek ?_ _ _ _ | refine Ext.stores0 ?_ ?_ _ _ | refine Ext.storesk ?_ ?_ _ _ _ | refine Ext.drewN' ?_ _ | refine Ext.drew' ?_ | refine Ext.trans ?_ (by assumption)))))
          have Ba_8 := Ba_7.ext (show Ext w7 w8 from (by with_reducible (repeat (first | assumption | exact Ext.refl _ | refine Ext.alloc' ?_ _ | refine Ext.store0 ?_ _ _ | refine Ext.storek ?_ _ _ _ | refine Ext.stores0 ?_ ?_ _ _ | refine Ext.storesk ?_ ?_ _ _ _ | refine Ext.drewN' ?_ _ | refine Ext.drew' ?_ | refine Ext.trans ?_ (by assumption)))))
          have Bb_8 := Bb_7.ext (show Ext w7 w8 from (by with_reducible (repeat (first | assumption | exact Ext.refl _ | refine Ext.alloc' ?_ _ | refine Ext.store0 ?_ _ _ | refine Ext.storek ?_ _ _ _ | refine Ext.stores0 ?_ ?_ _ _ | refine Ext.storesk ?_ ?_ _ _ _ | refine Ext.drewN' ?_ _ | refine Ext.drew' ?_ | refine Ext.trans ?_ (by assumption)))))
          have Bp_8 := Bp_7.ext (show Ext w7 w8 from (by with_reducible (repeat (first | assumption | exact Ext.refl _ | refine Ext.alloc' ?_ _ | refine Ext.store0 ?_ _ _ | refine Ext.storek ?_ _ _ _ | refine Ext.stores0 ?_ ?_ _ _ | refine Ext.storesk ?_ ?_ _ _ _ | refine Ext.drewN' ?_ _ | refine Ext.drew' ?_ | refine Ext.trans ?_ (by assumption)))))
          have Bq_8 := Bq_7.ext (show Ext w7 w8 from (by with_reducible (repeat (first | assumption | exact Ext.refl _ | refine Ext.alloc' ?_ _ | refine Ext.store0 ?_ _ _ | refine Ext.storek ?_ _ _ _ | refine Ext.stores0 ?_ ?_ _ _ | refine Ext.storesk ?_ ?_ _ _ _ | refine Ext.drewN' ?_ _ | refine Ext.drew' ?_ | refine Ext.trans ?_ (by assumption)))))
          clear Bi_7 ci0 ci1 ci2 ci3 ci4 ci5 ci6 ci7 ci8 ci9 ci10 ci11 ci12 di0 di1 di2 di3 di4 di5 di6 di7 di8 di9 di10 di11 di12 Ba_7 ca0 ca1 ca2 ca3 ca4 da0 da1 da2 da3 da4 Bb_7 cb0 cb1 cb2 cb3 cb4 db0 db1 db2 db3 db4 Bp_7 cp0 cp1 cp2 cp3 cp4 dp0 dp1 dp2 dp3 dp4 Bq_7 cq0 cq1 cq2 cq3 cq4 dq0 dq1 dq2 dq3 dq4
          obtain ⟨ci0, ci1, ci2, ci3, ci4, ci5, ci6, ci7, ci8, ci9, ci10, ci11, ci12, di0, di1, di2, di3, di4, di5, di6, di7, di8, di9, di10, di11, di12⟩ := cells13 Bi_8
          have zi : w.heap.size < w8.heap.size := Bi_8.lt
          obtain ⟨ca0, ca1, ca2, ca3, ca4, da0, da1, da2, da3, da4⟩ := cells5 Ba_8
          have za : w.heap.size + 1 < w8.heap.size := Ba_8.lt
          obtain ⟨cb0, cb1, cb2, cb3, cb4, db0, db1, db2, db3, db4⟩ := cells5 Bb_8
          have zb : w.heap.size + 1 + 1 < w8.heap.size := Bb_8.lt
          obtain ⟨cp0, cp1, cp2, cp3, cp4, dp0, dp1, dp2, dp3, dp4⟩ := cells5 Bp_8
          have zp : w4.heap.size < w8.heap.size := Bp_8.lt
          obtain ⟨cq0, cq1, cq2, cq3, cq4, dq0, dq1, dq2, dq3, dq4⟩ := cells5 Bq_8
          have zq : w5.heap.size < w8.heap.size := Bq_8.lt
          go_wp2_with (fail)
          go_at_call 82
          refine (refTop_ no _ sa id _ ((IsSys.mk rfl hw hg hc hl : IsSys no w (.agg #[.slice aw sa.M.W.length cw, .slice ag sa.M.G.length cg, .bool sa.M.bad, .slice ac sa.C.length cc, .slice al sa.L.length cl]) sa).ext (by with_reducible (repeat (first | assumption | exact Ext.refl _ | refine Ext.alloc' ?_ _ | refine Ext.store0 ?_ _ _ | refine Ext.storek ?_ _ _ _ | refine Ext.stores0 ?_ ?_ _ _ | refine Ext.storesk ?_ ?_ _ _ _ | refine Ext.drewN' ?_ _ | refine Ext.drew' ?_ | refine Ext.trans ?_ (by assumption)))))).calls.mono ?_
          rintro e w9 ⟨_, rfl, hb9, u, rfl, hug⟩
          rw [Hf.out] at hug
          rw [Hb.out]
          obtain ⟨g1, g2, rfl, g8, gs⟩ := hug.opened
          have Bi_9 := Bi_8.ext (show Ext w8 w9 from (by with_reducible (repeat (first | assumption | exact Ext.refl _ | refine Ext.alloc' ?_ _ | refine Ext.store0 ?_ _ _ | refine Ext.storek ?_ _ _ _ | refine Ext.stores0 ?_ ?_ _ _ | refine Ext.storesk ?_ ?_ _ _ _ | refine Ext.drewN' ?_ _ | refine Ext.drew' ?_ | refine Ext.trans ?_ (by assumption)))))
          have Ba_9 := Ba_8.ext (show Ext w8 w9 from (by with_reducible (repeat (first | assumption | exact Ext.refl _ | refine Ext.alloc' ?_ _ | refine Ext.store0 ?_ _ _ | refine Ext.storek ?_ _ _ _ | refine Ext.stores0 ?_ ?_ _ _ | refine Ext.storesk ?_ ?_ _ _ _ | refine Ext.drewN' ?_ _ | refine Ext.drew' ?_ | refine Ext.trans ?_ (by assumption)))))
          have Bb_9 := Bb_8.ext (show Ext w8 w9 from (by with_reducible (repeat (first | assumption | exact Ext.refl _ | refine Ext.alloc' ?_ _ | refine Ext.store0 ?_ _ _ | refine Ext.storek ?_ _ _ _ | refine Ext.stores0 ?_ ?_ _ _ | refine Ext.storesk ?_ ?_ _ _ _ | refine Ext.drewN' ?_ _ | refine Ext.drew' ?_ | refine Ext.trans ?_ (by assumption)))))
          have Bp_9 := Bp_8.ext (show Ext w8 w9 from (by with_reducible (repeat (first | assumption | exact Ext.refl _ | refine Ext.alloc' ?_ _ | refine Ext.store0 ?_ _ _ | refine Ext.storek ?_ _ _ _ | refine Ext.stores0 ?_ ?_ _ _ | refine Ext.storesk ?_ ?_ _ _ _ | refine Ext.drewN' ?_ _ | refine Ext.drew' ?_ | refine Ext.trans ?_ (by assumption)))))
          have Bq_9 := Bq_8.ext (show Ext w8 w9 from (by with_reducible (repeat (first | assumption | exact Ext.refl _ | refine Ext.alloc' ?_ _ | refine Ext.store0 ?_ _ _ | refine Ext.storek ?_ _ _ _ | refine Ext.stores0 ?_ ?_ _ _ | refine Ext.storesk ?_ ?_ _ _ _ | refine Ext.drewN' ?_ _ | refine Ext.drew' ?_ | refine Ext.trans ?_ (by assumption)))))
          clear Bi_8 ci0 ci1 ci2 ci3 ci4 ci5 ci6 ci7 ci8 ci9 ci10 ci11 ci12 di0 di1 di2 di3 di4 di5 di6 di7 di8 di9 di10 di11 di12 Ba_8 ca0 ca1 ca2 ca3 ca4 da0 da1 da2 da3 da4 Bb_8 cb0 cb1 cb2 cb3 cb4 db0 db1 db2 db3 db4 Bp_8 cp0 cp1 cp2 cp3 cp4 dp0 dp1 dp2 dp3 dp4 Bq_8 cq0 cq1 cq2 cq3 cq4 dq0 dq1 dq2 dq3 dq4
          have Bf_9 : Box w9 (w8.heap.size) #[.int .i64 tf.op, .int .i64 tf.pc, .int .i64 (gi tf.R 0), .int .i64 (gi tf.R 1), .int .i64 (gi tf.R 2), .int .i64 (gi tf.R 3), .int .i64 (gi tf.R 4), .int .i64 (gi tf.R 5), .int .i64 (gi tf.R 6), .int .i64 (gi tf.R 7), .slice f1 tf.S.length f2] 95 := (Box.new _ _ _).ext hb9
          obtain ⟨ci0, ci1, ci2, ci3, ci4, ci5, ci6, ci7, ci8, ci9, ci10, ci11, ci12, di0, di1, di2, di3, di4, di5, di6, di7, di8, di9, di10, di11, di12⟩ := cells13 Bi_9
          have zi : w.heap.size < w9.heap.size := Bi_9.lt
          obtain ⟨ca0, ca1, ca2, ca3, ca4, da0, da1, da2, da3, da4⟩ := cells5 Ba_9
          have za : w.heap.size + 1 < w9.heap.size := Ba_9.lt
          obtain ⟨cb0, cb1, cb2, cb3, cb4, db0, db1, db2, db3, db4⟩ := cells5 Bb_9
          have zb : w.heap.size + 1 + 1 < w9.heap.size := Bb_9.lt
          obtain ⟨cp0, cp1, cp2, cp3, cp4, dp0, dp1, dp2, dp3, dp4⟩ := cells5 Bp_9
          have zp : w4.heap.size < w9.heap.size := Bp_9.lt
          obtain ⟨cq0, cq1, cq2, cq3, cq4, dq0, dq1, dq2, dq3, dq4⟩ := cells5 Bq_9
          have zq : w5.heap.size < w9.heap.size := Bq_9.lt
          obtain ⟨⟨cf0, cf1, cf2, cf3, cf4, cf5, cf6, cf7, cf8, cf9, cf10⟩, df0, df1, df2, df3, df4, df5, df6, df7, df8, df9, df10⟩ := cells11 Bf_9
          have zf : w8.heap.size < w9.heap.size := Bf_9.lt
          go_wp2_with (fail)
          go_at_call 72
          refine (refInts_ no _ _ tf.S tf.S _ (fs.ext (by with_reducible (repeat (first | assumption | exact Ext.refl _ | refine Ext.alloc' ?_ _ | refine Ext.store0 ?_ _ _ | refine Ext.storek ?_ _ _ _ | refine Ext.stores0 ?_ ?_ _ _ | refine Ext.storesk ?_ ?_ _ _ _ | refine Ext.drewN' ?_ _ | refine Ext.drew' ?_ | refine Ext.trans ?_ (by assumption))))) (gs.ext (by with_reducible (repeat (first | assumption | exact Ext.refl _ | refine Ext.alloc' ?_ _ | refine Ext.store0 ?_ _ _ | refine Ext.storek ?_ _ _ _ | refine Ext.stores0 ?_ ?_ _ _ | refine Ext.storesk ?_ ?_ _ _ _ | refine Ext.drewN' ?_ _ | refine Ext.drew' ?_ | refine Ext.trans ?_ (by assumption)))))).calls.mono ?_
          rintro e w10 ⟨_, rfl, hb10, rfl⟩
          rw [show (tf.S == tf.S) = true by simp]
          have Bi_10 := Bi_9.ext (show Ext w9 w10 from (by with_reducible (repeat (first | assumption | exact Ext.refl _ | refine Ext.alloc' ?_ _ | refine Ext.store0 ?_ _ _ | refine Ext.storek ?_ _ _ _ | refine Ext.stores0 ?_ ?_ _ _ | refine Ext.storesk ?_ ?_ _ _ _ | refine Ext.drewN' ?_ _ | refine Ext.drew' ?_ | refine Ext.trans ?_ (by assumption)))))
          have Ba_10 := Ba_9.ext (show Ext w9 w10 from (by with_reducible (repeat (first | assumption | exact Ext.refl _ | refine Ext.alloc' ?_ _ | refine Ext.store0 ?_ _ _ | refine Ext.storek ?_ _ _ _ | refine Ext.stores0 ?_ ?_ _ _ | refine Ext.storesk ?_ ?_ _ _ _ | refine Ext.drewN' ?_ _ | refine Ext.drew' ?_ | refine Ext.trans ?_ (by assumption)))))
          have Bb_10 := Bb_9.ext (show Ext w9 w10 from (by with_reducible (repeat (first | assumption | exact Ext.refl _ | refine Ext.alloc' ?_ _ | refine Ext.store0 ?_ _ _ | refine Ext.storek ?_ _ _ _ | refine Ext.stores0 ?_ ?_ _ _ | refine Ext.storesk ?_ ?_ _ _ _ | refine Ext.drewN' ?_ _ | refine Ext.drew' ?_ | refine Ext.trans ?_ (by assumption)))))
          have Bp_10 := Bp_9.ext (show Ext w9 w10 from (by with_reducible (repeat (first | assumption | exact Ext.refl _ | refine Ext.alloc' ?_ _ | refine Ext.store0 ?_ _ _ | refine Ext.storek ?_ _ _ _ | refine Ext.stores0 ?_ ?_ _ _ | refine Ext.storesk ?_ ?_ _ _ _ | refine Ext.drewN' ?_ _ | refine Ext.drew' ?_ | refine Ext.trans ?_ (by assumption)))))
          have Bq_10 := Bq_9.ext (show Ext w9 w10 from (by with_reducible (repeat (first | assumption | exact Ext.refl _ | refine Ext.alloc' ?_ _ | refine Ext.store0 ?_ _ _ | refine Ext.storek ?_ _ _ _ | refine Ext.stores0 ?_ ?_ _ _ | refine Ext.storesk ?_ ?_ _ _ _ | refine Ext.drewN' ?_ _ | refine Ext.drew' ?_ | refine Ext.trans ?_ (by assumption)))))
          have Bf_10 := Bf_9.ext (show Ext w9 w10 from (by with_reducible (repeat (first | assumption | exact Ext.refl _ | refine Ext.alloc' ?_ _ | refine Ext.store0 ?_ _ _ | refine Ext.storek ?_ _ _ _ | refine Ext.stores0 ?_ ?_ _ _ | refine Ext.storesk ?_ ?_ _ _ _ | refine Ext.drewN' ?_ _ | refine Ext.drew' ?_ | refine Ext.trans ?_ (by assumption)))))
          clear Bi_9 ci0 ci1 ci2 ci3 ci4 ci5 ci6 ci7 ci8 ci9 ci10 ci11 ci12 di0 di1 di2 di3 di4 di5 di6 di7 di8 di9 di10 di11 di12 Ba_9 ca0 ca1 ca2 ca3 ca4 da0 da1 da2 da3 da4 Bb_9 cb0 cb1 cb2 cb3 cb4 db0 db1 db2 db3 db4 Bp_9 cp0 cp1 cp2 cp3 cp4 dp0 dp1 dp2 dp3 dp4 Bq_9 cq0 cq1 cq2 cq3 cq4 dq0 dq1 dq2 dq3 dq4 Bf_9 cf0 cf1 cf2 cf3 cf4 cf5 cf6 cf7 cf8 cf9 cf10 df0 df1 df2 df3 df4 df5 df6 df7 df8 df9 df10
          have Bg_10 : Box w10 (w9.heap.size) #[.int .i64 tf.op, .int .i64 tf.pc, .int .i64 (gi tf.R 0), .int .i64 (gi tf.R 1), .int .i64 (gi tf.R 2), .int .i64 (gi tf.R 3), .int .i64 (gi tf.R 4), .int .i64 (gi tf.R 5), .int .i64 (gi tf.R 6), .int .i64 (gi tf.R 7), .slice g1 tf.S.length g2] 95 := (Box.new _ _ _).ext hb10
          obtain ⟨ci0, ci1, ci2, ci3, ci4, ci5, ci6, ci7, ci8, ci9, ci10, ci11, ci12, di0, di1, di2, di3, di4, di5, di6, di7, di8, di9, di10, di11, di12⟩ := cells13 Bi_10
          have zi : w.heap.size < w10.heap.size := Bi_10.lt
          obtain ⟨ca0, ca1, ca2, ca3, ca4, da0, da1, da2, da3, da4⟩ := cells5 Ba_10
          have za : w.heap.size + 1 < w10.heap.size := Ba_10.lt
          obtain ⟨cb0, cb1, cb2, cb3, cb4, db0, db1, db2, db3, db4⟩ := cells5 Bb_10
          have zb : w.heap.size + 1 + 1 < w10.heap.size := Bb_10.lt
          obtain ⟨cp0, cp1, cp2, cp3, cp4, dp0, dp1, dp2, dp3, dp4⟩ := cells5 Bp_10
          have zp : w4.heap.size < w10.heap.size := Bp_10.lt
          obtain ⟨cq0, cq1, cq2, cq3, cq4, dq0, dq1, dq2, dq3, dq4⟩ := cells5 Bq_10
          have zq : w5.heap.size < w10.heap.size := Bq_10.lt
          obtain ⟨⟨cf0, cf1, cf2, cf3, cf4, cf5, cf6, cf7, cf8, cf9, cf10⟩, df0, df1, df2, df3, df4, df5, df6, df7, df8, df9, df10⟩ := cells11 Bf_10
          have zf : w8.heap.size < w10.heap.size := Bf_10.lt
          obtain ⟨⟨cg0, cg1, cg2, cg3, cg4, cg5, cg6, cg7, cg8, cg9, cg10⟩, dg0, dg1, dg2, dg3, dg4, dg5, dg6, dg7, dg8, dg9, dg10⟩ := cells11 Bg_10
          have zg : w9.heap.size < w10.heap.size := Bg_10.lt
          go_wp2
          go_ret
          exact ⟨_, rfl, (by with_reducible (repeat (first | assumption | exact Ext.refl _ | refine Ext.alloc' ?_ _ | refine Ext.store0 ?_ _ _ | refine Ext.storek ?_ _ _ _ | refine Ext.stores0 ?_ ?_ _ _ | refine Ext.storesk ?_ ?_ _ _ _ | refine Ext.drewN' ?_ _ | refine Ext.drew' ?_ | refine Ext.trans ?_ (by assumption)))), rfl⟩
end Go.Proofs.Ytcfbdfgondmkoaa
