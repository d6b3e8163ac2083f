/- CoreLogs: its walk. -/
import Derived.Test.YtcfbdfgondmkoaaLaw3n
import Derived.Test.YtcfbdfgondmkoaaRdS
namespace Go.Proofs.Ytcfbdfgondmkoaa
open Go Go.RowKit
set_option linter.unusedSimpArgs false
set_option linter.unusedVariables false
set_option linter.unnecessarySimpa false

theorem cells12 {w : World} {b : Nat} {c0 c1 c2 c3 c4 c5 c6 c7 c8 c9 c10 c11 : Value} {t : TypeId} (h : Box w b #[c0, c1, c2, c3, c4, c5, c6, c7, c8, c9, c10, c11] t) :
    w.cell? ⟨b, 0, none⟩ = some c0 ∧ w.cell? ⟨b, 1, none⟩ = some c1 ∧ w.cell? ⟨b, 2, none⟩ = some c2 ∧ w.cell? ⟨b, 3, none⟩ = some c3 ∧ w.cell? ⟨b, 4, none⟩ = some c4 ∧ w.cell? ⟨b, 5, none⟩ = some c5 ∧ w.cell? ⟨b, 6, none⟩ = some c6 ∧ w.cell? ⟨b, 7, none⟩ = some c7 ∧ w.cell? ⟨b, 8, none⟩ = some c8 ∧ w.cell? ⟨b, 9, none⟩ = some c9 ∧ w.cell? ⟨b, 10, none⟩ = some c10 ∧ w.cell? ⟨b, 11, none⟩ = some c11 ∧ w.frozen? ⟨b, 0, none⟩ = false ∧ w.frozen? ⟨b, 1, none⟩ = false ∧ w.frozen? ⟨b, 2, none⟩ = false ∧ w.frozen? ⟨b, 3, none⟩ = false ∧ w.frozen? ⟨b, 4, none⟩ = false ∧ w.frozen? ⟨b, 5, none⟩ = false ∧ w.frozen? ⟨b, 6, none⟩ = false ∧ w.frozen? ⟨b, 7, none⟩ = false ∧ w.frozen? ⟨b, 8, none⟩ = false ∧ w.frozen? ⟨b, 9, none⟩ = false ∧ w.frozen? ⟨b, 10, none⟩ = false ∧ w.frozen? ⟨b, 11, none⟩ = false :=
  ⟨h.cell rfl, h.cell rfl, h.cell rfl, h.cell rfl, h.cell rfl, h.cell rfl, h.cell rfl, h.cell rfl, h.cell rfl, h.cell rfl, h.cell rfl, h.cell rfl, h.frozen, h.frozen, h.frozen, h.frozen, h.frozen, h.frozen, h.frozen, h.frozen, h.frozen, h.frozen, h.frozen, h.frozen⟩
def isS (s : SysD) : GP := fun v w => IsSys no w v s
theorem stable_isS (s : SysD) : Stable (isS s) := fun _ _ _ h hx => IsSys.ext h hx
theorem sameT_ (va vb : Value) (s : SysD) (w : World) (ha : isS s va w) (hb : isS s vb w) : Gives Proofs.Try.prog 78 #[va, vb] w (eqv (.bool true)) := by
  have := refSys_ no va vb s s w ha hb
  rw [sameS_refl] at this
  exact this
theorem may_small {s : SysD} {n : Nat} (h : mayS s n = true) : s.C.length ≤ 9 ∧ s.L.length ≤ 200 ∧ 1 ≤ s.C.length ∧ ∀ (i : Nat) c, s.C[i]? = some c → c.F.length ≤ 40 := by
  simp only [mayS, smallS, rightS, Bool.and_eq_true, decide_eq_true_eq, Bool.not_eq_true'] at h
  obtain ⟨⟨_, h1, h2, _⟩, _, h3, _, h4⟩ := h
  refine ⟨h1, h2, h3, fun i c hi => ?_⟩
  rw [List.any_eq_false] at h4
  have := h4 c (List.mem_of_getElem? hi)
  simp [oddC] at this
  omega
theorem do_not {s : SysD} {id : Int} {f : CoreD → CoreD} (h : hasD s id = false) : doS s id f = s := doS_none (by simp [topD, h])

set_option maxHeartbeats 4000000 in
set_option maxRecDepth 100000 in
theorem coreLogs_neg (aw ag ac al : Option Addr) (cw cg cc cl : Nat) (s : SysD) (id x0 x1 x2 x3 x4 op : Int) (w : World) (hw : IsInts no w (.slice aw s.M.W.length cw) s.M.W) (hg : IsInts no w (.slice ag s.M.G.length cg) s.M.G) (hc : IsCores no w (.slice ac s.C.length cc) s.C) (hl : IsEvs no w (.slice al s.L.length cl) s.L)
    (hm : mayS s 60 = true) (hh : hasD s id = false) (hq : id < 0) : Gives Proofs.Try.prog 21 #[.agg #[.slice aw s.M.W.length cw, .slice ag s.M.G.length cg, .bool s.M.bad, .slice ac s.C.length cc, .slice al s.L.length cl, .int .i64 id, .int .i64 x0, .int .i64 x1, .int .i64 x2, .int .i64 x3, .int .i64 x4, .int .i64 op]] w (eqv (.bool true)) := by
  have km := fun (w' : World) (e : Ext w w') => refMay_ no _ s 60 (by omega) w' ((IsSys.mk rfl hw hg hc hl : IsSys no w (.agg #[.slice aw s.M.W.length cw, .slice ag s.M.G.length cg, .bool s.M.bad, .slice ac s.C.length cc, .slice al s.L.length cl]) s).ext e)
  rw [hm] at km
  obtain ⟨hC, hL, hC1, hF⟩ := may_small hm
  have hlog : logD s id x1 x2 x3 x4 = s := by simp [logD, hh]
  have hcall : callS s id op [] = s := by simp [callS, hh]
  have hset : setS s id zeroF = s := do_not hh
  have hback : backS s id op 0 = s := do_not hh
  have htop : (topD s id).isSome = false := by simp [topD, hh]
  have H1 := Lib.hid hlog; have H2 := Lib.hid hcall; have H3 := Lib.hid hset; have H4 := Lib.hid hback; have H5 := Lib.hid htop
  clear hlog hcall hset hback htop hm
  go_enter Proofs.Try.func21, Proofs.Try.ntmps21
  go_wp2_with (fail)
  go_at_call 73
  refine (shown3_ _).calls.mono ?_
  rintro e w1 ⟨_, rfl, hb1, rfl⟩
  have Bi_1 : Box w1 (w.heap.size) #[.slice aw s.M.W.length cw, .slice ag s.M.G.length cg, .bool s.M.bad, .slice ac s.C.length cc, .slice al s.L.length cl, .int .i64 id, .int .i64 x0, .int .i64 x1, .int .i64 x2, .int .i64 x3, .int .i64 x4, .int .i64 op] 111 := (((Box.new _ _ _).alloc _).alloc _).ext hb1
  have Bs_1 : Box w1 (w.heap.size + 1) #[.slice aw s.M.W.length cw, .slice ag s.M.G.length cg, .bool s.M.bad, .slice ac s.C.length cc, .slice al s.L.length cl] 83 := ((Box.two _ _ _ _ _).alloc _).ext hb1
  have Bx_1 : Box w1 (w.heap.size + 1 + 1) #[.int .i64 x0, .int .i64 x1, .int .i64 x2, .int .i64 x3, .int .i64 x4] 108 := (Box.three' _ _ _ _ _ _ _).ext hb1
  obtain ⟨ci0, ci1, ci2, ci3, ci4, ci5, ci6, ci7, ci8, ci9, ci10, ci11, di0, di1, di2, di3, di4, di5, di6, di7, di8, di9, di10, di11⟩ := cells12 Bi_1
  have zi : w.heap.size < w1.heap.size := Bi_1.lt
  obtain ⟨cs0, cs1, cs2, cs3, cs4, ds0, ds1, ds2, ds3, ds4⟩ := cells5 Bs_1
  have zs : w.heap.size + 1 < w1.heap.size := Bs_1.lt
  obtain ⟨cx0, cx1, cx2, cx3, cx4, dx0, dx1, dx2, dx3, dx4⟩ := cells5 Bx_1
  have zx : w.heap.size + 1 + 1 < w1.heap.size := Bx_1.lt
  go_wp2_with (fail)
  go_at_call 83
  refine (km _ (by with_reducible (repeat (first | assumption | exact Ext.refl _ | refine Ext.alloc' ?_ _ | refine Ext.store0 ?_ _ _ | refine Ext.storek ?_ _ _ _ | refine Ext.stores0 ?_ ?_ _ _ | refine Ext.storesk ?_ ?_ _ _ _ | refine Ext.drewN' ?_ _ | refine Ext.drew' ?_ | refine Ext.trans ?_ (by assumption))))).calls.mono ?_
  rintro e w2 ⟨_, rfl, hb2, rfl⟩
  have Bi_2 := Bi_1.ext (show Ext w1 w2 from (by with_reducible (repeat (first | assumption | exact Ext.refl _ | refine Ext.alloc' ?_ _ | refine Ext.store0 ?_ _ _ | refine Ext.storek ?_ _ _ _ | refine Ext.stores0 ?_ ?_ _ _ | refine Ext.storesk ?_ ?_ _ _ _ | refine Ext.drewN' ?_ _ | refine Ext.drew' ?_ | refine Ext.trans ?_ (by assumption)))))
  have Bs_2 := Bs_1.ext (show Ext w1 w2 from (by with_reducible (repeat (first | assumption | exact Ext.refl _ | refine Ext.alloc' ?_ _ | refine Ext.store0 ?_ _ _ | refine Ext.storek ?_ _ _ _ | refine Ext.stores0 ?_ ?_ _ _ | refine Ext.storesk ?_ ?_ _ _ _ | refine Ext.drewN' ?_ _ | refine Ext.drew' ?_ | refine Ext.trans ?_ (by assumption)))))
  have Bx_2 := Bx_1.ext (show Ext w1 w2 from (by with_reducible (repeat (first | assumption | exact Ext.refl _ | refine Ext.alloc' ?_ _ | refine Ext.store0 ?_ _ _ | refine Ext.storek ?_ _ _ _ | refine Ext.stores0 ?_ ?_ _ _ | refine Ext.storesk ?_ ?_ _ _ _ | refine Ext.drewN' ?_ _ | refine Ext.drew' ?_ | refine Ext.trans ?_ (by assumption)))))
  clear Bi_1 ci0 ci1 ci2 ci3 ci4 ci5 ci6 ci7 ci8 ci9 ci10 ci11 di0 di1 di2 di3 di4 di5 di6 di7 di8 di9 di10 di11 Bs_1 cs0 cs1 cs2 cs3 cs4 ds0 ds1 ds2 ds3 ds4 Bx_1 cx0 cx1 cx2 cx3 cx4 dx0 dx1 dx2 dx3 dx4
  obtain ⟨ci0, ci1, ci2, ci3, ci4, ci5, ci6, ci7, ci8, ci9, ci10, ci11, di0, di1, di2, di3, di4, di5, di6, di7, di8, di9, di10, di11⟩ := cells12 Bi_2
  have zi : w.heap.size < w2.heap.size := Bi_2.lt
  obtain ⟨cs0, cs1, cs2, cs3, cs4, ds0, ds1, ds2, ds3, ds4⟩ := cells5 Bs_2
  have zs : w.heap.size + 1 < w2.heap.size := Bs_2.lt
  obtain ⟨cx0, cx1, cx2, cx3, cx4, dx0, dx1, dx2, dx3, dx4⟩ := cells5 Bx_2
  have zx : w.heap.size + 1 + 1 < w2.heap.size := Bx_2.lt
  go_wp2_with (fail)
  go_at_call 87
  refine (log_ no _ s id x1 x2 x3 x4 _ ((IsSys.mk rfl hw hg hc hl : IsSys no w (.agg #[.slice aw s.M.W.length cw, .slice ag s.M.G.length cg, .bool s.M.bad, .slice ac s.C.length cc, .slice al s.L.length cl]) s).ext (by with_reducible (repeat (first | assumption | exact Ext.refl _ | refine Ext.alloc' ?_ _ | refine Ext.store0 ?_ _ _ | refine Ext.storek ?_ _ _ _ | refine Ext.stores0 ?_ ?_ _ _ | refine Ext.storesk ?_ ?_ _ _ _ | refine Ext.drewN' ?_ _ | refine Ext.drew' ?_ | refine Ext.trans ?_ (by assumption))))) no_lt (by omega)).calls.mono ?_
  rintro e w3 ⟨_, rfl, hb3, hut0⟩
  rw [H1.out] at hut0
  obtain ⟨t1, t2, t3, t4, t5, t6, t7, t8, rfl, tw, tg, tc, tl⟩ := hut0.opened
  have Bi_3 := Bi_2.ext (show Ext w2 w3 from (by with_reducible (repeat (first | assumption | exact Ext.refl _ | refine Ext.alloc' ?_ _ | refine Ext.store0 ?_ _ _ | refine Ext.storek ?_ _ _ _ | refine Ext.stores0 ?_ ?_ _ _ | refine Ext.storesk ?_ ?_ _ _ _ | refine Ext.drewN' ?_ _ | refine Ext.drew' ?_ | refine Ext.trans ?_ (by assumption)))))
  have Bs_3 := Bs_2.ext (show Ext w2 w3 from (by with_reducible (repeat (first | assumption | exact Ext.refl _ | refine Ext.alloc' ?_ _ | refine Ext.store0 ?_ _ _ | refine Ext.storek ?_ _ _ _ | refine Ext.stores0 ?_ ?_ _ _ | refine Ext.storesk ?_ ?_ _ _ _ | refine Ext.drewN' ?_ _ | refine Ext.drew' ?_ | refine Ext.trans ?_ (by assumption)))))
  have Bx_3 := Bx_2.ext (show Ext w2 w3 from (by with_reducible (repeat (first | assumption | exact Ext.refl _ | refine Ext.alloc' ?_ _ | refine Ext.store0 ?_ _ _ | refine Ext.storek ?_ _ _ _ | refine Ext.stores0 ?_ ?_ _ _ | refine Ext.storesk ?_ ?_ _ _ _ | refine Ext.drewN' ?_ _ | refine Ext.drew' ?_ | refine Ext.trans ?_ (by assumption)))))
  clear Bi_2 ci0 ci1 ci2 ci3 ci4 ci5 ci6 ci7 ci8 ci9 ci10 ci11 di0 di1 di2 di3 di4 di5 di6 di7 di8 di9 di10 di11 Bs_2 cs0 cs1 cs2 cs3 cs4 ds0 ds1 ds2 ds3 ds4 Bx_2 cx0 cx1 cx2 cx3 cx4 dx0 dx1 dx2 dx3 dx4
  obtain ⟨ci0, ci1, ci2, ci3, ci4, ci5, ci6, ci7, ci8, ci9, ci10, ci11, di0, di1, di2, di3, di4, di5, di6, di7, di8, di9, di10, di11⟩ := cells12 Bi_3
  have zi : w.heap.size < w3.heap.size := Bi_3.lt
  obtain ⟨cs0, cs1, cs2, cs3, cs4, ds0, ds1, ds2, ds3, ds4⟩ := cells5 Bs_3
  have zs : w.heap.size + 1 < w3.heap.size := Bs_3.lt
  obtain ⟨cx0, cx1, cx2, cx3, cx4, dx0, dx1, dx2, dx3, dx4⟩ := cells5 Bx_3
  have zx : w.heap.size + 1 + 1 < w3.heap.size := Bx_3.lt
  go_wp2_with (fail)
  go_at_call 81
  refine (top_ no _ s id _ ((IsSys.mk rfl hw hg hc hl : IsSys no w (.agg #[.slice aw s.M.W.length cw, .slice ag s.M.G.length cg, .bool s.M.bad, .slice ac s.C.length cc, .slice al s.L.length cl]) s).ext (by with_reducible (repeat (first | assumption | exact Ext.refl _ | refine Ext.alloc' ?_ _ | refine Ext.store0 ?_ _ _ | refine Ext.storek ?_ _ _ _ | refine Ext.stores0 ?_ ?_ _ _ | refine Ext.storesk ?_ ?_ _ _ _ | refine Ext.drewN' ?_ _ | refine Ext.drew' ?_ | refine Ext.trans ?_ (by assumption)))))).calls.mono ?_
  rintro e w4 ⟨_, rfl, hb4, u, rfl, huf⟩
  rw [H5.out]
  obtain ⟨tf, htf⟩ : ∃ tf, topF s id = tf := ⟨_, rfl⟩
  rw [htf] at huf
  clear htf
  obtain ⟨fa, fb, rfl, f8, fs⟩ := huf.opened
  have Bi_4 := Bi_3.ext (show Ext w3 w4 from (by with_reducible (repeat (first | assumption | exact Ext.refl _ | refine Ext.alloc' ?_ _ | refine Ext.store0 ?_ _ _ | refine Ext.storek ?_ _ _ _ | refine Ext.stores0 ?_ ?_ _ _ | refine Ext.storesk ?_ ?_ _ _ _ | refine Ext.drewN' ?_ _ | refine Ext.drew' ?_ | refine Ext.trans ?_ (by assumption)))))
  have Bs_4 := Bs_3.ext (show Ext w3 w4 from (by with_reducible (repeat (first | assumption | exact Ext.refl _ | refine Ext.alloc' ?_ _ | refine Ext.store0 ?_ _ _ | refine Ext.storek ?_ _ _ _ | refine Ext.stores0 ?_ ?_ _ _ | refine Ext.storesk ?_ ?_ _ _ _ | refine Ext.drewN' ?_ _ | refine Ext.drew' ?_ | refine Ext.trans ?_ (by assumption)))))
  have Bx_4 := Bx_3.ext (show Ext w3 w4 from (by with_reducible (repeat (first | assumption | exact Ext.refl _ | refine Ext.alloc' ?_ _ | refine Ext.store0 ?_ _ _ | refine Ext.storek ?_ _ _ _ | refine Ext.stores0 ?_ ?_ _ _ | refine Ext.storesk ?_ ?_ _ _ _ | refine Ext.drewN' ?_ _ | refine Ext.drew' ?_ | refine Ext.trans ?_ (by assumption)))))
  clear Bi_3 ci0 ci1 ci2 ci3 ci4 ci5 ci6 ci7 ci8 ci9 ci10 ci11 di0 di1 di2 di3 di4 di5 di6 di7 di8 di9 di10 di11 Bs_3 cs0 cs1 cs2 cs3 cs4 ds0 ds1 ds2 ds3 ds4 Bx_3 cx0 cx1 cx2 cx3 cx4 dx0 dx1 dx2 dx3 dx4
  have Bt_4 : Box w4 (w3.heap.size) #[.slice t1 s.M.W.length t2, .slice t3 s.M.G.length t4, .bool s.M.bad, .slice t5 s.C.length t6, .slice t7 s.L.length t8] 83 := (Box.new _ _ _).ext hb4
  obtain ⟨ci0, ci1, ci2, ci3, ci4, ci5, ci6, ci7, ci8, ci9, ci10, ci11, di0, di1, di2, di3, di4, di5, di6, di7, di8, di9, di10, di11⟩ := cells12 Bi_4
  have zi : w.heap.size < w4.heap.size := Bi_4.lt
  obtain ⟨cs0, cs1, cs2, cs3, cs4, ds0, ds1, ds2, ds3, ds4⟩ := cells5 Bs_4
  have zs : w.heap.size + 1 < w4.heap.size := Bs_4.lt
  obtain ⟨cx0, cx1, cx2, cx3, cx4, dx0, dx1, dx2, dx3, dx4⟩ := cells5 Bx_4
  have zx : w.heap.size + 1 + 1 < w4.heap.size := Bx_4.lt
  obtain ⟨ct0, ct1, ct2, ct3, ct4, dt0, dt1, dt2, dt3, dt4⟩ := cells5 Bt_4
  have zt : w3.heap.size < w4.heap.size := Bt_4.lt
  go_wp2_with (fail)
  obtain ⟨W, hW⟩ : ∃ W, W = w4.alloc (.cells #[.int .i64 tf.op, .int .i64 tf.pc, .int .i64 (gi tf.R 0), .int .i64 (gi tf.R 1), .int .i64 (gi tf.R 2), .int .i64 (gi tf.R 3), .int .i64 (gi tf.R 4), .int .i64 (gi tf.R 5), .int .i64 (gi tf.R 6), .int .i64 (gi tf.R 7), .slice fa tf.S.length fb] 95 (0, 0)) := ⟨_, rfl⟩
  have hEt : Ext w3 W := by rw [hW]; exact (by with_reducible (repeat (first | assumption | exact Ext.refl _ | refine Ext.alloc' ?_ _ | refine Ext.store0 ?_ _ _ | refine Ext.storek ?_ _ _ _ | refine Ext.stores0 ?_ ?_ _ _ | refine Ext.storesk ?_ ?_ _ _ _ | refine Ext.drewN' ?_ _ | refine Ext.drew' ?_ | refine Ext.trans ?_ (by assumption))))
  have hEW : Ext w W := by rw [hW]; exact (by with_reducible (repeat (first | assumption | exact Ext.refl _ | refine Ext.alloc' ?_ _ | refine Ext.store0 ?_ _ _ | refine Ext.storek ?_ _ _ _ | refine Ext.stores0 ?_ ?_ _ _ | refine Ext.storesk ?_ ?_ _ _ _ | refine Ext.drewN' ?_ _ | refine Ext.drew' ?_ | refine Ext.trans ?_ (by assumption))))
  have Ds := Bs_4.alloc (.cells #[.int .i64 tf.op, .int .i64 tf.pc, .int .i64 (gi tf.R 0), .int .i64 (gi tf.R 1), .int .i64 (gi tf.R 2), .int .i64 (gi tf.R 3), .int .i64 (gi tf.R 4), .int .i64 (gi tf.R 5), .int .i64 (gi tf.R 6), .int .i64 (gi tf.R 7), .slice fa tf.S.length fb] 95 (0, 0))
  rw [← hW] at Ds
  have Dt := Bt_4.alloc (.cells #[.int .i64 tf.op, .int .i64 tf.pc, .int .i64 (gi tf.R 0), .int .i64 (gi tf.R 1), .int .i64 (gi tf.R 2), .int .i64 (gi tf.R 3), .int .i64 (gi tf.R 4), .int .i64 (gi tf.R 5), .int .i64 (gi tf.R 6), .int .i64 (gi tf.R 7), .slice fa tf.S.length fb] 95 (0, 0))
  rw [← hW] at Dt
  rw [← hW]
  clear hW
  apply region_lit2 (T := []) (L := []) (X := []) (G := [eqv _, eqv _, eqv _, eqv _, eqv (.bool true), eqv _, eqv _, eqv _, eqv _, eqv _, eqv _, eqv _, eqv _, eqv _, isS s, eqv _, eqv (.bool true), eqv _, eqv _, eqv _, eqv _, eqv (.agg #[.int .i64 0, .int .i64 0, .int .i64 0, .int .i64 0, .int .i64 0, .int .i64 0, .int .i64 0, .int .i64 0, .int .i64 0, .int .i64 0, .slice none 0 0]), isS s, eqv _, eqv (.bool true), eqv _, eqv _, eqv _, eqv _, eqv _, isS s, eqv _, eqv (.bool true), eqv _, eqv _])
  case hm => kernel_rfl
  case hop =>
    refine ⟨?_, ?_, ?_, ?_, ?_, ?_, ?_, ?_, ?_, ?_, ?_, ?_, ?_, ?_, ?_, ?_, ?_, ?_, ?_, ?_, ?_, ?_, ?_, ?_, ?_, ?_, ?_, ?_, ?_, ?_, ?_, ?_, ?_, ?_, ?_, trivial⟩
    · intro a wa hs hf hd
      have t7 := hf.off 7 (by kernel_rfl) rfl
      exact plain_ rfl (yes_eqv (o_move rfl t7) rfl)
    · intro a wa hs hf hd
      have t50 : a.eval (.tmp 50) = _ := hd.at 0 50 (by kernel_rfl)
      exact plain_ rfl (yes_eqv (o_move rfl t50) rfl)
    · intro a wa hs hf hd
      have t51 : a.eval (.tmp 51) = _ := hd.at 1 51 (by kernel_rfl)
      have t8 := hf.off 8 (by kernel_rfl) rfl
      exact guard_on rfl rfl t51 (yes_eqv (o_load5 rfl Proofs.Try.underlying83 rfl (by kernel_rfl) t8 ((Dt.since hs rfl).cell rfl) ((Dt.since hs rfl).cell rfl) ((Dt.since hs rfl).cell rfl) ((Dt.since hs rfl).cell rfl) ((Dt.since hs rfl).cell rfl)) rfl)
    · intro a wa hs hf hd
      have t51 : a.eval (.tmp 51) = _ := hd.at 1 51 (by kernel_rfl)
      have t3 := hf.off 3 (by kernel_rfl) rfl
      exact guard_on rfl rfl t51 (yes_eqv (o_load5 rfl Proofs.Try.underlying83 rfl (by kernel_rfl) t3 ((Ds.since hs rfl).cell rfl) ((Ds.since hs rfl).cell rfl) ((Ds.since hs rfl).cell rfl) ((Ds.since hs rfl).cell rfl) ((Ds.since hs rfl).cell rfl)) rfl)
    · intro a wa hs hf hd
      have t51 : a.eval (.tmp 51) = _ := hd.at 1 51 (by kernel_rfl)
      have t52 : a.eval (.tmp 52) = _ := hd.at 2 52 (by kernel_rfl)
      have t53 : a.eval (.tmp 53) = _ := hd.at 3 53 (by kernel_rfl)
      exact guard_on rfl rfl t51 (yes_gives (sameT_ _ _ s _ ((IsSys.mk rfl tw tg tc tl : IsSys no w3 (.agg #[.slice t1 s.M.W.length t2, .slice t3 s.M.G.length t4, .bool s.M.bad, .slice t5 s.C.length t6, .slice t7 s.L.length t8]) s).ext (hEt.trans (Since.to_ext hs))) ((IsSys.mk rfl hw hg hc hl : IsSys no w (.agg #[.slice aw s.M.W.length cw, .slice ag s.M.G.length cg, .bool s.M.bad, .slice ac s.C.length cc, .slice al s.L.length cl]) s).ext (hEW.trans (Since.to_ext hs)))) rfl rfl Proofs.Try.func78 (by kernel_rfl) (by kernel_rfl) (by simp only [List.map_toArray, List.map_cons, List.map_nil, eval_const, t52, t53]) rfl)
    · intro a wa hs hf hd
      have t51 : a.eval (.tmp 51) = _ := hd.at 1 51 (by kernel_rfl)
      have t54 : a.eval (.tmp 54) = _ := hd.at 4 54 (by kernel_rfl)
      exact plain_ rfl (yes_eqv (o_pick_t rfl t51 t54) rfl)
    · intro a wa hs hf hd
      have t55 : a.eval (.tmp 55) = _ := hd.at 5 55 (by kernel_rfl)
      exact plain_ rfl (yes_eqv (o_move rfl t55) rfl)
    · intro a wa hs hf hd
      have t56 : a.eval (.tmp 56) = _ := hd.at 6 56 (by kernel_rfl)
      have t10 := hf.off 10 (by kernel_rfl) rfl
      exact guard_on rfl rfl t56 (yes_eqv (o_move rfl t10) rfl)
    · intro a wa hs hf hd
      have t56 : a.eval (.tmp 56) = _ := hd.at 6 56 (by kernel_rfl)
      have t57 : a.eval (.tmp 57) = _ := hd.at 7 57 (by kernel_rfl)
      exact guard_on rfl rfl t56 (yes_eqv (o_not rfl t57 rfl) rfl)
    · intro a wa hs hf hd
      have t56 : a.eval (.tmp 56) = _ := hd.at 6 56 (by kernel_rfl)
      have t58 : a.eval (.tmp 58) = _ := hd.at 8 58 (by kernel_rfl)
      exact plain_ rfl (yes_eqv (o_pick_t rfl t56 t58) rfl)
    · intro a wa hs hf hd
      have t59 : a.eval (.tmp 59) = _ := hd.at 9 59 (by kernel_rfl)
      exact plain_ rfl (yes_eqv (o_move rfl t59) rfl)
    · intro a wa hs hf hd
      have t60 : a.eval (.tmp 60) = _ := hd.at 10 60 (by kernel_rfl)
      have t3 := hf.off 3 (by kernel_rfl) rfl
      exact guard_on rfl rfl t60 (yes_eqv (o_load5 rfl Proofs.Try.underlying83 rfl (by kernel_rfl) t3 ((Ds.since hs rfl).cell rfl) ((Ds.since hs rfl).cell rfl) ((Ds.since hs rfl).cell rfl) ((Ds.since hs rfl).cell rfl) ((Ds.since hs rfl).cell rfl)) rfl)
    · intro a wa hs hf hd
      have t60 : a.eval (.tmp 60) = _ := hd.at 10 60 (by kernel_rfl)
      have t4 := hf.off 4 (by kernel_rfl) rfl
      exact guard_on rfl rfl t60 (yes_eqv (o_move rfl t4) rfl)
    · intro a wa hs hf hd
      have t60 : a.eval (.tmp 60) = _ := hd.at 10 60 (by kernel_rfl)
      have t6 := hf.off 6 (by kernel_rfl) rfl
      exact guard_on rfl rfl t60 (yes_eqv (o_move rfl t6) rfl)
    · intro a wa hs hf hd
      have t60 : a.eval (.tmp 60) = _ := hd.at 10 60 (by kernel_rfl)
      have t61 : a.eval (.tmp 61) = _ := hd.at 11 61 (by kernel_rfl)
      have t62 : a.eval (.tmp 62) = _ := hd.at 12 62 (by kernel_rfl)
      have t63 : a.eval (.tmp 63) = _ := hd.at 13 63 (by kernel_rfl)
      exact guard_on rfl rfl t60 (yes_gives (by have h5 := call_ no _ (.slice none 0 0) s id op [] _ ((IsSys.mk rfl hw hg hc hl : IsSys no w (.agg #[.slice aw s.M.W.length cw, .slice ag s.M.G.length cg, .bool s.M.bad, .slice ac s.C.length cc, .slice al s.L.length cl]) s).ext (hEW.trans (Since.to_ext hs))) ⟨none, 0, rfl, by simp, by omega, fun _ => rfl, fun i hi => by simp at hi⟩ no_lt (by omega) (by decide); rw [H2.out] at h5; exact h5) rfl rfl Proofs.Try.func84 (by kernel_rfl) (by kernel_rfl) (by simp only [List.map_toArray, List.map_cons, List.map_nil, eval_const, t61, t62, t63]) rfl)
    · intro a wa hs hf hd
      have t60 : a.eval (.tmp 60) = _ := hd.at 10 60 (by kernel_rfl)
      have t3 := hf.off 3 (by kernel_rfl) rfl
      exact guard_on rfl rfl t60 (yes_eqv (o_load5 rfl Proofs.Try.underlying83 rfl (by kernel_rfl) t3 ((Ds.since hs rfl).cell rfl) ((Ds.since hs rfl).cell rfl) ((Ds.since hs rfl).cell rfl) ((Ds.since hs rfl).cell rfl) ((Ds.since hs rfl).cell rfl)) rfl)
    · intro a wa hs hf hd
      have t60 : a.eval (.tmp 60) = _ := hd.at 10 60 (by kernel_rfl)
      have t64 := hd.at 14 64 (by kernel_rfl)
      have t65 : a.eval (.tmp 65) = _ := hd.at 15 65 (by kernel_rfl)
      exact guard_on rfl rfl t60 (yes_gives (sameT_ _ _ s _ t64 ((IsSys.mk rfl hw hg hc hl : IsSys no w (.agg #[.slice aw s.M.W.length cw, .slice ag s.M.G.length cg, .bool s.M.bad, .slice ac s.C.length cc, .slice al s.L.length cl]) s).ext (hEW.trans (Since.to_ext hs)))) rfl rfl Proofs.Try.func78 (by kernel_rfl) (by kernel_rfl) (by simp only [List.map_toArray, List.map_cons, List.map_nil, eval_const, t65]) rfl)
    · intro a wa hs hf hd
      have t60 : a.eval (.tmp 60) = _ := hd.at 10 60 (by kernel_rfl)
      have t66 : a.eval (.tmp 66) = _ := hd.at 16 66 (by kernel_rfl)
      exact plain_ rfl (yes_eqv (o_pick_t rfl t60 t66) rfl)
    · intro a wa hs hf hd
      have t67 : a.eval (.tmp 67) = _ := hd.at 17 67 (by kernel_rfl)
      exact plain_ rfl (yes_eqv (o_move rfl t67) rfl)
    · intro a wa hs hf hd
      have t68 : a.eval (.tmp 68) = _ := hd.at 18 68 (by kernel_rfl)
      have t3 := hf.off 3 (by kernel_rfl) rfl
      exact guard_on rfl rfl t68 (yes_eqv (o_load5 rfl Proofs.Try.underlying83 rfl (by kernel_rfl) t3 ((Ds.since hs rfl).cell rfl) ((Ds.since hs rfl).cell rfl) ((Ds.since hs rfl).cell rfl) ((Ds.since hs rfl).cell rfl) ((Ds.since hs rfl).cell rfl)) rfl)
    · intro a wa hs hf hd
      have t68 : a.eval (.tmp 68) = _ := hd.at 18 68 (by kernel_rfl)
      have t4 := hf.off 4 (by kernel_rfl) rfl
      exact guard_on rfl rfl t68 (yes_eqv (o_move rfl t4) rfl)
    · intro a wa hs hf hd
      have t68 : a.eval (.tmp 68) = _ := hd.at 18 68 (by kernel_rfl)
      exact guard_on rfl rfl t68 (yes_eqv (o_build rfl (by simp only [List.map_toArray, List.map_cons, List.map_nil, eval_const, ]; first | done | rfl) rfl) rfl)
    · intro a wa hs hf hd
      have t68 : a.eval (.tmp 68) = _ := hd.at 18 68 (by kernel_rfl)
      have t69 : a.eval (.tmp 69) = _ := hd.at 19 69 (by kernel_rfl)
      have t70 : a.eval (.tmp 70) = _ := hd.at 20 70 (by kernel_rfl)
      have t71 : a.eval (.tmp 71) = _ := hd.at 21 71 (by kernel_rfl)
      exact guard_on rfl rfl t68 (yes_gives (by have h5 := set_ no _ _ s id zeroF _ ((IsSys.mk rfl hw hg hc hl : IsSys no w (.agg #[.slice aw s.M.W.length cw, .slice ag s.M.G.length cg, .bool s.M.bad, .slice ac s.C.length cc, .slice al s.L.length cl]) s).ext (hEW.trans (Since.to_ext hs))) (zero_frame no _) no_lt (by omega) (fun i c hi => Nat.le_trans (hF i c hi) (by decide)); rw [H3.out] at h5; exact h5) rfl rfl Proofs.Try.func85 (by kernel_rfl) (by kernel_rfl) (by simp only [List.map_toArray, List.map_cons, List.map_nil, eval_const, t69, t70, t71]) rfl)
    · intro a wa hs hf hd
      have t68 : a.eval (.tmp 68) = _ := hd.at 18 68 (by kernel_rfl)
      have t3 := hf.off 3 (by kernel_rfl) rfl
      exact guard_on rfl rfl t68 (yes_eqv (o_load5 rfl Proofs.Try.underlying83 rfl (by kernel_rfl) t3 ((Ds.since hs rfl).cell rfl) ((Ds.since hs rfl).cell rfl) ((Ds.since hs rfl).cell rfl) ((Ds.since hs rfl).cell rfl) ((Ds.since hs rfl).cell rfl)) rfl)
    · intro a wa hs hf hd
      have t68 : a.eval (.tmp 68) = _ := hd.at 18 68 (by kernel_rfl)
      have t72 := hd.at 22 72 (by kernel_rfl)
      have t73 : a.eval (.tmp 73) = _ := hd.at 23 73 (by kernel_rfl)
      exact guard_on rfl rfl t68 (yes_gives (sameT_ _ _ s _ t72 ((IsSys.mk rfl hw hg hc hl : IsSys no w (.agg #[.slice aw s.M.W.length cw, .slice ag s.M.G.length cg, .bool s.M.bad, .slice ac s.C.length cc, .slice al s.L.length cl]) s).ext (hEW.trans (Since.to_ext hs)))) rfl rfl Proofs.Try.func78 (by kernel_rfl) (by kernel_rfl) (by simp only [List.map_toArray, List.map_cons, List.map_nil, eval_const, t73]) rfl)
    · intro a wa hs hf hd
      have t68 : a.eval (.tmp 68) = _ := hd.at 18 68 (by kernel_rfl)
      have t74 : a.eval (.tmp 74) = _ := hd.at 24 74 (by kernel_rfl)
      exact plain_ rfl (yes_eqv (o_pick_t rfl t68 t74) rfl)
    · intro a wa hs hf hd
      have t75 : a.eval (.tmp 75) = _ := hd.at 25 75 (by kernel_rfl)
      exact plain_ rfl (yes_eqv (o_move rfl t75) rfl)
    · intro a wa hs hf hd
      have t76 : a.eval (.tmp 76) = _ := hd.at 26 76 (by kernel_rfl)
      have t3 := hf.off 3 (by kernel_rfl) rfl
      exact guard_on rfl rfl t76 (yes_eqv (o_load5 rfl Proofs.Try.underlying83 rfl (by kernel_rfl) t3 ((Ds.since hs rfl).cell rfl) ((Ds.since hs rfl).cell rfl) ((Ds.since hs rfl).cell rfl) ((Ds.since hs rfl).cell rfl) ((Ds.since hs rfl).cell rfl)) rfl)
    · intro a wa hs hf hd
      have t76 : a.eval (.tmp 76) = _ := hd.at 26 76 (by kernel_rfl)
      have t4 := hf.off 4 (by kernel_rfl) rfl
      exact guard_on rfl rfl t76 (yes_eqv (o_move rfl t4) rfl)
    · intro a wa hs hf hd
      have t76 : a.eval (.tmp 76) = _ := hd.at 26 76 (by kernel_rfl)
      have t6 := hf.off 6 (by kernel_rfl) rfl
      exact guard_on rfl rfl t76 (yes_eqv (o_move rfl t6) rfl)
    · intro a wa hs hf hd
      have t76 : a.eval (.tmp 76) = _ := hd.at 26 76 (by kernel_rfl)
      have t77 : a.eval (.tmp 77) = _ := hd.at 27 77 (by kernel_rfl)
      have t78 : a.eval (.tmp 78) = _ := hd.at 28 78 (by kernel_rfl)
      have t79 : a.eval (.tmp 79) = _ := hd.at 29 79 (by kernel_rfl)
      exact guard_on rfl rfl t76 (yes_gives (by have h5 := back_ no _ s id op 0 _ ((IsSys.mk rfl hw hg hc hl : IsSys no w (.agg #[.slice aw s.M.W.length cw, .slice ag s.M.G.length cg, .bool s.M.bad, .slice ac s.C.length cc, .slice al s.L.length cl]) s).ext (hEW.trans (Since.to_ext hs))) no_lt (by omega); rw [H4.out] at h5; exact h5) rfl rfl Proofs.Try.func86 (by kernel_rfl) (by kernel_rfl) (by simp only [List.map_toArray, List.map_cons, List.map_nil, eval_const, t77, t78, t79]) rfl)
    · intro a wa hs hf hd
      have t76 : a.eval (.tmp 76) = _ := hd.at 26 76 (by kernel_rfl)
      have t3 := hf.off 3 (by kernel_rfl) rfl
      exact guard_on rfl rfl t76 (yes_eqv (o_load5 rfl Proofs.Try.underlying83 rfl (by kernel_rfl) t3 ((Ds.since hs rfl).cell rfl) ((Ds.since hs rfl).cell rfl) ((Ds.since hs rfl).cell rfl) ((Ds.since hs rfl).cell rfl) ((Ds.since hs rfl).cell rfl)) rfl)
    · intro a wa hs hf hd
      have t76 : a.eval (.tmp 76) = _ := hd.at 26 76 (by kernel_rfl)
      have t80 := hd.at 30 80 (by kernel_rfl)
      have t81 : a.eval (.tmp 81) = _ := hd.at 31 81 (by kernel_rfl)
      exact guard_on rfl rfl t76 (yes_gives (sameT_ _ _ s _ t80 ((IsSys.mk rfl hw hg hc hl : IsSys no w (.agg #[.slice aw s.M.W.length cw, .slice ag s.M.G.length cg, .bool s.M.bad, .slice ac s.C.length cc, .slice al s.L.length cl]) s).ext (hEW.trans (Since.to_ext hs)))) rfl rfl Proofs.Try.func78 (by kernel_rfl) (by kernel_rfl) (by simp only [List.map_toArray, List.map_cons, List.map_nil, eval_const, t81]) rfl)
    · intro a wa hs hf hd
      have t76 : a.eval (.tmp 76) = _ := hd.at 26 76 (by kernel_rfl)
      have t82 : a.eval (.tmp 82) = _ := hd.at 32 82 (by kernel_rfl)
      exact plain_ rfl (yes_eqv (o_pick_t rfl t76 t82) rfl)
    · intro a wa hs hf hd
      have t83 : a.eval (.tmp 83) = _ := hd.at 33 83 (by kernel_rfl)
      exact plain_ rfl (yes_eqv (o_assign rfl t83) rfl)
  case hG => exact ⟨stable_eqv _, stable_eqv _, stable_eqv _, stable_eqv _, stable_eqv _, stable_eqv _, stable_eqv _, stable_eqv _, stable_eqv _, stable_eqv _, stable_eqv _, stable_eqv _, stable_eqv _, stable_eqv _, stable_isS _, stable_eqv _, stable_eqv _, stable_eqv _, stable_eqv _, stable_eqv _, stable_eqv _, stable_eqv _, stable_isS _, stable_eqv _, stable_eqv _, stable_eqv _, stable_eqv _, stable_eqv _, stable_eqv _, stable_eqv _, stable_isS _, stable_eqv _, stable_eqv _, stable_eqv _, stable_eqv _, trivial⟩
  case hc => kernel_rfl
  case hfin =>
    intro v2 hs2
    rintro _ rfl _ rfl _ rfl _ rfl _ rfl _ rfl _ rfl _ rfl _ rfl _ rfl _ rfl _ rfl _ rfl _ rfl r14 hr14 _ rfl _ rfl _ rfl _ rfl _ rfl _ rfl _ rfl r22 hr22 _ rfl _ rfl _ rfl _ rfl _ rfl _ rfl _ rfl r30 hr30 _ rfl _ rfl _ rfl _ rfl
    rintro _ rfl
    simp only [Act.put, List.setIfInBounds_toArray, List.set_cons_zero, List.set_cons_succ]
    go_wp2
    go_ret
    exact ⟨_, rfl, hEW.trans (Since.to_ext hs2), rfl⟩

set_option maxHeartbeats 4000000 in
set_option maxRecDepth 100000 in
theorem coreLogs_big (aw ag ac al : Option Addr) (cw cg cc cl : Nat) (s : SysD) (id x0 x1 x2 x3 x4 op : Int) (w : World) (hw : IsInts no w (.slice aw s.M.W.length cw) s.M.W) (hg : IsInts no w (.slice ag s.M.G.length cg) s.M.G) (hc : IsCores no w (.slice ac s.C.length cc) s.C) (hl : IsEvs no w (.slice al s.L.length cl) s.L)
    (hm : mayS s 60 = true) (hh : hasD s id = false) (hq : 0 ≤ id) (hq2 : (s.C.length : Int) ≤ id) : Gives Proofs.Try.prog 21 #[.agg #[.slice aw s.M.W.length cw, .slice ag s.M.G.length cg, .bool s.M.bad, .slice ac s.C.length cc, .slice al s.L.length cl, .int .i64 id, .int .i64 x0, .int .i64 x1, .int .i64 x2, .int .i64 x3, .int .i64 x4, .int .i64 op]] w (eqv (.bool true)) := by
  have km := fun (w' : World) (e : Ext w w') => refMay_ no _ s 60 (by omega) w' ((IsSys.mk rfl hw hg hc hl : IsSys no w (.agg #[.slice aw s.M.W.length cw, .slice ag s.M.G.length cg, .bool s.M.bad, .slice ac s.C.length cc, .slice al s.L.length cl]) s).ext e)
  rw [hm] at km
  obtain ⟨hC, hL, hC1, hF⟩ := may_small hm
  have hlog : logD s id x1 x2 x3 x4 = s := by simp [logD, hh]
  have hcall : callS s id op [] = s := by simp [callS, hh]
  have hset : setS s id zeroF = s := do_not hh
  have hback : backS s id op 0 = s := do_not hh
  have htop : (topD s id).isSome = false := by simp [topD, hh]
  have H1 := Lib.hid hlog; have H2 := Lib.hid hcall; have H3 := Lib.hid hset; have H4 := Lib.hid hback; have H5 := Lib.hid htop
  clear hlog hcall hset hback htop hm
  have q0 : ¬ id < 0 := by omega
  go_enter Proofs.Try.func21, Proofs.Try.ntmps21
  go_wp2_with (fail)
  go_at_call 73
  refine (shown3_ _).calls.mono ?_
  rintro e w1 ⟨_, rfl, hb1, rfl⟩
  have Bi_1 : Box w1 (w.heap.size) #[.slice aw s.M.W.length cw, .slice ag s.M.G.length cg, .bool s.M.bad, .slice ac s.C.length cc, .slice al s.L.length cl, .int .i64 id, .int .i64 x0, .int .i64 x1, .int .i64 x2, .int .i64 x3, .int .i64 x4, .int .i64 op] 111 := (((Box.new _ _ _).alloc _).alloc _).ext hb1
  have Bs_1 : Box w1 (w.heap.size + 1) #[.slice aw s.M.W.length cw, .slice ag s.M.G.length cg, .bool s.M.bad, .slice ac s.C.length cc, .slice al s.L.length cl] 83 := ((Box.two _ _ _ _ _).alloc _).ext hb1
  have Bx_1 : Box w1 (w.heap.size + 1 + 1) #[.int .i64 x0, .int .i64 x1, .int .i64 x2, .int .i64 x3, .int .i64 x4] 108 := (Box.three' _ _ _ _ _ _ _).ext hb1
  obtain ⟨ci0, ci1, ci2, ci3, ci4, ci5, ci6, ci7, ci8, ci9, ci10, ci11, di0, di1, di2, di3, di4, di5, di6, di7, di8, di9, di10, di11⟩ := cells12 Bi_1
  have zi : w.heap.size < w1.heap.size := Bi_1.lt
  obtain ⟨cs0, cs1, cs2, cs3, cs4, ds0, ds1, ds2, ds3, ds4⟩ := cells5 Bs_1
  have zs : w.heap.size + 1 < w1.heap.size := Bs_1.lt
  obtain ⟨cx0, cx1, cx2, cx3, cx4, dx0, dx1, dx2, dx3, dx4⟩ := cells5 Bx_1
  have zx : w.heap.size + 1 + 1 < w1.heap.size := Bx_1.lt
  go_wp2_with (fail)
  go_at_call 83
  refine (km _ (by with_reducible (repeat (first | assumption | exact Ext.refl _ | refine Ext.alloc' ?_ _ | refine Ext.store0 ?_ _ _ | refine Ext.storek ?_ _ _ _ | refine Ext.stores0 ?_ ?_ _ _ | refine Ext.storesk ?_ ?_ _ _ _ | refine Ext.drewN' ?_ _ | refine Ext.drew' ?_ | refine Ext.trans ?_ (by assumption))))).calls.mono ?_
  rintro e w2 ⟨_, rfl, hb2, rfl⟩
  have Bi_2 := Bi_1.ext (show Ext w1 w2 from (by with_reducible (repeat (first | assumption | exact Ext.refl _ | refine Ext.alloc' ?_ _ | refine Ext.store0 ?_ _ _ | refine Ext.storek ?_ _ _ _ | refine Ext.stores0 ?_ ?_ _ _ | refine Ext.storesk ?_ ?_ _ _ _ | refine Ext.drewN' ?_ _ | refine Ext.drew' ?_ | refine Ext.trans ?_ (by assumption)))))
  have Bs_2 := Bs_1.ext (show Ext w1 w2 from (by with_reducible (repeat (first | assumption | exact Ext.refl _ | refine Ext.alloc' ?_ _ | refine Ext.store0 ?_ _ _ | refine Ext.storek ?_ _ _ _ | refine Ext.stores0 ?_ ?_ _ _ | refine Ext.storesk ?_ ?_ _ _ _ | refine Ext.drewN' ?_ _ | refine Ext.drew' ?_ | refine Ext.trans ?_ (by assumption)))))
  have Bx_2 := Bx_1.ext (show Ext w1 w2 from (by with_reducible (repeat (first | assumption | exact Ext.refl _ | refine Ext.alloc' ?_ _ | refine Ext.store0 ?_ _ _ | refine Ext.storek ?_ _ _ _ | refine Ext.stores0 ?_ ?_ _ _ | refine Ext.storesk ?_ ?_ _ _ _ | refine Ext.drewN' ?_ _ | refine Ext.drew' ?_ | refine Ext.trans ?_ (by assumption)))))
  clear Bi_1 ci0 ci1 ci2 ci3 ci4 ci5 ci6 ci7 ci8 ci9 ci10 ci11 di0 di1 di2 di3 di4 di5 di6 di7 di8 di9 di10 di11 Bs_1 cs0 cs1 cs2 cs3 cs4 ds0 ds1 ds2 ds3 ds4 Bx_1 cx0 cx1 cx2 cx3 cx4 dx0 dx1 dx2 dx3 dx4
  obtain ⟨ci0, ci1, ci2, ci3, ci4, ci5, ci6, ci7, ci8, ci9, ci10, ci11, di0, di1, di2, di3, di4, di5, di6, di7, di8, di9, di10, di11⟩ := cells12 Bi_2
  have zi : w.heap.size < w2.heap.size := Bi_2.lt
  obtain ⟨cs0, cs1, cs2, cs3, cs4, ds0, ds1, ds2, ds3, ds4⟩ := cells5 Bs_2
  have zs : w.heap.size + 1 < w2.heap.size := Bs_2.lt
  obtain ⟨cx0, cx1, cx2, cx3, cx4, dx0, dx1, dx2, dx3, dx4⟩ := cells5 Bx_2
  have zx : w.heap.size + 1 + 1 < w2.heap.size := Bx_2.lt
  go_wp2_with (fail)
  go_at_call 87
  refine (log_ no _ s id x1 x2 x3 x4 _ ((IsSys.mk rfl hw hg hc hl : IsSys no w (.agg #[.slice aw s.M.W.length cw, .slice ag s.M.G.length cg, .bool s.M.bad, .slice ac s.C.length cc, .slice al s.L.length cl]) s).ext (by with_reducible (repeat (first | assumption | exact Ext.refl _ | refine Ext.alloc' ?_ _ | refine Ext.store0 ?_ _ _ | refine Ext.storek ?_ _ _ _ | refine Ext.stores0 ?_ ?_ _ _ | refine Ext.storesk ?_ ?_ _ _ _ | refine Ext.drewN' ?_ _ | refine Ext.drew' ?_ | refine Ext.trans ?_ (by assumption))))) no_lt (by omega)).calls.mono ?_
  rintro e w3 ⟨_, rfl, hb3, hut0⟩
  rw [H1.out] at hut0
  obtain ⟨t1, t2, t3, t4, t5, t6, t7, t8, rfl, tw, tg, tc, tl⟩ := hut0.opened
  have Bi_3 := Bi_2.ext (show Ext w2 w3 from (by with_reducible (repeat (first | assumption | exact Ext.refl _ | refine Ext.alloc' ?_ _ | refine Ext.store0 ?_ _ _ | refine Ext.storek ?_ _ _ _ | refine Ext.stores0 ?_ ?_ _ _ | refine Ext.storesk ?_ ?_ _ _ _ | refine Ext.drewN' ?_ _ | refine Ext.drew' ?_ | refine Ext.trans ?_ (by assumption)))))
  have Bs_3 := Bs_2.ext (show Ext w2 w3 from (by with_reducible (repeat (first | assumption | exact Ext.refl _ | refine Ext.alloc' ?_ _ | refine Ext.store0 ?_ _ _ | refine Ext.storek ?_ _ _ _ | refine Ext.stores0 ?_ ?_ _ _ | refine Ext.storesk ?_ ?_ _ _ _ | refine Ext.drewN' ?_ _ | refine Ext.drew' ?_ | refine Ext.trans ?_ (by assumption)))))
  have Bx_3 := Bx_2.ext (show Ext w2 w3 from (by with_reducible (repeat (first | assumption | exact Ext.refl _ | refine Ext.alloc' ?_ _ | refine Ext.store0 ?_ _ _ | refine Ext.storek ?_ _ _ _ | refine Ext.stores0 ?_ ?_ _ _ | refine Ext.storesk ?_ ?_ _ _ _ | refine Ext.drewN' ?_ _ | refine Ext.drew' ?_ | refine Ext.trans ?_ (by assumption)))))
  clear Bi_2 ci0 ci1 ci2 ci3 ci4 ci5 ci6 ci7 ci8 ci9 ci10 ci11 di0 di1 di2 di3 di4 di5 di6 di7 di8 di9 di10 di11 Bs_2 cs0 cs1 cs2 cs3 cs4 ds0 ds1 ds2 ds3 ds4 Bx_2 cx0 cx1 cx2 cx3 cx4 dx0 dx1 dx2 dx3 dx4
  obtain ⟨ci0, ci1, ci2, ci3, ci4, ci5, ci6, ci7, ci8, ci9, ci10, ci11, di0, di1, di2, di3, di4, di5, di6, di7, di8, di9, di10, di11⟩ := cells12 Bi_3
  have zi : w.heap.size < w3.heap.size := Bi_3.lt
  obtain ⟨cs0, cs1, cs2, cs3, cs4, ds0, ds1, ds2, ds3, ds4⟩ := cells5 Bs_3
  have zs : w.heap.size + 1 < w3.heap.size := Bs_3.lt
  obtain ⟨cx0, cx1, cx2, cx3, cx4, dx0, dx1, dx2, dx3, dx4⟩ := cells5 Bx_3
  have zx : w.heap.size + 1 + 1 < w3.heap.size := Bx_3.lt
  go_wp2_with (fail)
  go_at_call 81
  refine (top_ no _ s id _ ((IsSys.mk rfl hw hg hc hl : IsSys no w (.agg #[.slice aw s.M.W.length cw, .slice ag s.M.G.length cg, .bool s.M.bad, .slice ac s.C.length cc, .slice al s.L.length cl]) s).ext (by with_reducible (repeat (first | assumption | exact Ext.refl _ | refine Ext.alloc' ?_ _ | refine Ext.store0 ?_ _ _ | refine Ext.storek ?_ _ _ _ | refine Ext.stores0 ?_ ?_ _ _ | refine Ext.storesk ?_ ?_ _ _ _ | refine Ext.drewN' ?_ _ | refine Ext.drew' ?_ | refine Ext.trans ?_ (by assumption)))))).calls.mono ?_
  rintro e w4 ⟨_, rfl, hb4, u, rfl, huf⟩
  rw [H5.out]
  obtain ⟨tf, htf⟩ : ∃ tf, topF s id = tf := ⟨_, rfl⟩
  rw [htf] at huf
  clear htf
  obtain ⟨fa, fb, rfl, f8, fs⟩ := huf.opened
  have Bi_4 := Bi_3.ext (show Ext w3 w4 from (by with_reducible (repeat (first | assumption | exact Ext.refl _ | refine Ext.alloc' ?_ _ | refine Ext.store0 ?_ _ _ | refine Ext.storek ?_ _ _ _ | refine Ext.stores0 ?_ ?_ _ _ | refine Ext.storesk ?_ ?_ _ _ _ | refine Ext.drewN' ?_ _ | refine Ext.drew' ?_ | refine Ext.trans ?_ (by assumption)))))
  have Bs_4 := Bs_3.ext (show Ext w3 w4 from (by with_reducible (repeat (first | assumption | exact Ext.refl _ | refine Ext.alloc' ?_ _ | refine Ext.store0 ?_ _ _ | refine Ext.storek ?_ _ _ _ | refine Ext.stores0 ?_ ?_ _ _ | refine Ext.storesk ?_ ?_ _ _ _ | refine Ext.drewN' ?_ _ | refine Ext.drew' ?_ | refine Ext.trans ?_ (by assumption)))))
  have Bx_4 := Bx_3.ext (show Ext w3 w4 from (by with_reducible (repeat (first | assumption | exact Ext.refl _ | refine Ext.alloc' ?_ _ | refine Ext.store0 ?_ _ _ | refine Ext.storek ?_ _ _ _ | refine Ext.stores0 ?_ ?_ _ _ | refine Ext.storesk ?_ ?_ _ _ _ | refine Ext.drewN' ?_ _ | refine Ext.drew' ?_ | refine Ext.trans ?_ (by assumption)))))
  clear Bi_3 ci0 ci1 ci2 ci3 ci4 ci5 ci6 ci7 ci8 ci9 ci10 ci11 di0 di1 di2 di3 di4 di5 di6 di7 di8 di9 di10 di11 Bs_3 cs0 cs1 cs2 cs3 cs4 ds0 ds1 ds2 ds3 ds4 Bx_3 cx0 cx1 cx2 cx3 cx4 dx0 dx1 dx2 dx3 dx4
  have Bt_4 : Box w4 (w3.heap.size) #[.slice t1 s.M.W.length t2, .slice t3 s.M.G.length t4, .bool s.M.bad, .slice t5 s.C.length t6, .slice t7 s.L.length t8] 83 := (Box.new _ _ _).ext hb4
  obtain ⟨ci0, ci1, ci2, ci3, ci4, ci5, ci6, ci7, ci8, ci9, ci10, ci11, di0, di1, di2, di3, di4, di5, di6, di7, di8, di9, di10, di11⟩ := cells12 Bi_4
  have zi : w.heap.size < w4.heap.size := Bi_4.lt
  obtain ⟨cs0, cs1, cs2, cs3, cs4, ds0, ds1, ds2, ds3, ds4⟩ := cells5 Bs_4
  have zs : w.heap.size + 1 < w4.heap.size := Bs_4.lt
  obtain ⟨cx0, cx1, cx2, cx3, cx4, dx0, dx1, dx2, dx3, dx4⟩ := cells5 Bx_4
  have zx : w.heap.size + 1 + 1 < w4.heap.size := Bx_4.lt
  obtain ⟨ct0, ct1, ct2, ct3, ct4, dt0, dt1, dt2, dt3, dt4⟩ := cells5 Bt_4
  have zt : w3.heap.size < w4.heap.size := Bt_4.lt
  go_wp2_with (fail)
  obtain ⟨W, hW⟩ : ∃ W, W = w4.alloc (.cells #[.int .i64 tf.op, .int .i64 tf.pc, .int .i64 (gi tf.R 0), .int .i64 (gi tf.R 1), .int .i64 (gi tf.R 2), .int .i64 (gi tf.R 3), .int .i64 (gi tf.R 4), .int .i64 (gi tf.R 5), .int .i64 (gi tf.R 6), .int .i64 (gi tf.R 7), .slice fa tf.S.length fb] 95 (0, 0)) := ⟨_, rfl⟩
  have hEt : Ext w3 W := by rw [hW]; exact (by with_reducible (repeat (first | assumption | exact Ext.refl _ | refine Ext.alloc' ?_ _ | refine Ext.store0 ?_ _ _ | refine Ext.storek ?_ _ _ _ | refine Ext.stores0 ?_ ?_ _ _ | refine Ext.storesk ?_ ?_ _ _ _ | refine Ext.drewN' ?_ _ | refine Ext.drew' ?_ | refine Ext.trans ?_ (by assumption))))
  have hEW : Ext w W := by rw [hW]; exact (by with_reducible (repeat (first | assumption | exact Ext.refl _ | refine Ext.alloc' ?_ _ | refine Ext.store0 ?_ _ _ | refine Ext.storek ?_ _ _ _ | refine Ext.stores0 ?_ ?_ _ _ | refine Ext.storesk ?_ ?_ _ _ _ | refine Ext.drewN' ?_ _ | refine Ext.drew' ?_ | refine Ext.trans ?_ (by assumption))))
  have Ds := Bs_4.alloc (.cells #[.int .i64 tf.op, .int .i64 tf.pc, .int .i64 (gi tf.R 0), .int .i64 (gi tf.R 1), .int .i64 (gi tf.R 2), .int .i64 (gi tf.R 3), .int .i64 (gi tf.R 4), .int .i64 (gi tf.R 5), .int .i64 (gi tf.R 6), .int .i64 (gi tf.R 7), .slice fa tf.S.length fb] 95 (0, 0))
  rw [← hW] at Ds
  have Dt := Bt_4.alloc (.cells #[.int .i64 tf.op, .int .i64 tf.pc, .int .i64 (gi tf.R 0), .int .i64 (gi tf.R 1), .int .i64 (gi tf.R 2), .int .i64 (gi tf.R 3), .int .i64 (gi tf.R 4), .int .i64 (gi tf.R 5), .int .i64 (gi tf.R 6), .int .i64 (gi tf.R 7), .slice fa tf.S.length fb] 95 (0, 0))
  rw [← hW] at Dt
  rw [← hW]
  clear hW
  apply region_lit2 (T := []) (L := []) (X := []) (G := [eqv _, eqv _, eqv _, eqv _, eqv (.bool true), eqv _, eqv _, eqv _, eqv _, eqv _, eqv _, eqv _, eqv _, eqv _, isS s, eqv _, eqv (.bool true), eqv _, eqv _, eqv _, eqv _, eqv (.agg #[.int .i64 0, .int .i64 0, .int .i64 0, .int .i64 0, .int .i64 0, .int .i64 0, .int .i64 0, .int .i64 0, .int .i64 0, .int .i64 0, .slice none 0 0]), isS s, eqv _, eqv (.bool true), eqv _, eqv _, eqv _, eqv _, eqv _, isS s, eqv _, eqv (.bool true), eqv _, eqv _])
  case hm => kernel_rfl
  case hop =>
    refine ⟨?_, ?_, ?_, ?_, ?_, ?_, ?_, ?_, ?_, ?_, ?_, ?_, ?_, ?_, ?_, ?_, ?_, ?_, ?_, ?_, ?_, ?_, ?_, ?_, ?_, ?_, ?_, ?_, ?_, ?_, ?_, ?_, ?_, ?_, ?_, trivial⟩
    · intro a wa hs hf hd
      have t7 := hf.off 7 (by kernel_rfl) rfl
      exact plain_ rfl (yes_eqv (o_move rfl t7) rfl)
    · intro a wa hs hf hd
      have t50 : a.eval (.tmp 50) = _ := hd.at 0 50 (by kernel_rfl)
      exact plain_ rfl (yes_eqv (o_move rfl t50) rfl)
    · intro a wa hs hf hd
      have t51 : a.eval (.tmp 51) = _ := hd.at 1 51 (by kernel_rfl)
      have t8 := hf.off 8 (by kernel_rfl) rfl
      exact guard_on rfl rfl t51 (yes_eqv (o_load5 rfl Proofs.Try.underlying83 rfl (by kernel_rfl) t8 ((Dt.since hs rfl).cell rfl) ((Dt.since hs rfl).cell rfl) ((Dt.since hs rfl).cell rfl) ((Dt.since hs rfl).cell rfl) ((Dt.since hs rfl).cell rfl)) rfl)
    · intro a wa hs hf hd
      have t51 : a.eval (.tmp 51) = _ := hd.at 1 51 (by kernel_rfl)
      have t3 := hf.off 3 (by kernel_rfl) rfl
      exact guard_on rfl rfl t51 (yes_eqv (o_load5 rfl Proofs.Try.underlying83 rfl (by kernel_rfl) t3 ((Ds.since hs rfl).cell rfl) ((Ds.since hs rfl).cell rfl) ((Ds.since hs rfl).cell rfl) ((Ds.since hs rfl).cell rfl) ((Ds.since hs rfl).cell rfl)) rfl)
    · intro a wa hs hf hd
      have t51 : a.eval (.tmp 51) = _ := hd.at 1 51 (by kernel_rfl)
      have t52 : a.eval (.tmp 52) = _ := hd.at 2 52 (by kernel_rfl)
      have t53 : a.eval (.tmp 53) = _ := hd.at 3 53 (by kernel_rfl)
      exact guard_on rfl rfl t51 (yes_gives (sameT_ _ _ s _ ((IsSys.mk rfl tw tg tc tl : IsSys no w3 (.agg #[.slice t1 s.M.W.length t2, .slice t3 s.M.G.length t4, .bool s.M.bad, .slice t5 s.C.length t6, .slice t7 s.L.length t8]) s).ext (hEt.trans (Since.to_ext hs))) ((IsSys.mk rfl hw hg hc hl : IsSys no w (.agg #[.slice aw s.M.W.length cw, .slice ag s.M.G.length cg, .bool s.M.bad, .slice ac s.C.length cc, .slice al s.L.length cl]) s).ext (hEW.trans (Since.to_ext hs)))) rfl rfl Proofs.Try.func78 (by kernel_rfl) (by kernel_rfl) (by simp only [List.map_toArray, List.map_cons, List.map_nil, eval_const, t52, t53]) rfl)
    · intro a wa hs hf hd
      have t51 : a.eval (.tmp 51) = _ := hd.at 1 51 (by kernel_rfl)
      have t54 : a.eval (.tmp 54) = _ := hd.at 4 54 (by kernel_rfl)
      exact plain_ rfl (yes_eqv (o_pick_t rfl t51 t54) rfl)
    · intro a wa hs hf hd
      have t55 : a.eval (.tmp 55) = _ := hd.at 5 55 (by kernel_rfl)
      exact plain_ rfl (yes_eqv (o_move rfl t55) rfl)
    · intro a wa hs hf hd
      have t56 : a.eval (.tmp 56) = _ := hd.at 6 56 (by kernel_rfl)
      have t10 := hf.off 10 (by kernel_rfl) rfl
      exact guard_on rfl rfl t56 (yes_eqv (o_move rfl t10) rfl)
    · intro a wa hs hf hd
      have t56 : a.eval (.tmp 56) = _ := hd.at 6 56 (by kernel_rfl)
      have t57 : a.eval (.tmp 57) = _ := hd.at 7 57 (by kernel_rfl)
      exact guard_on rfl rfl t56 (yes_eqv (o_not rfl t57 rfl) rfl)
    · intro a wa hs hf hd
      have t56 : a.eval (.tmp 56) = _ := hd.at 6 56 (by kernel_rfl)
      have t58 : a.eval (.tmp 58) = _ := hd.at 8 58 (by kernel_rfl)
      exact plain_ rfl (yes_eqv (o_pick_t rfl t56 t58) rfl)
    · intro a wa hs hf hd
      have t59 : a.eval (.tmp 59) = _ := hd.at 9 59 (by kernel_rfl)
      exact plain_ rfl (yes_eqv (o_move rfl t59) rfl)
    · intro a wa hs hf hd
      have t60 : a.eval (.tmp 60) = _ := hd.at 10 60 (by kernel_rfl)
      have t3 := hf.off 3 (by kernel_rfl) rfl
      exact guard_on rfl rfl t60 (yes_eqv (o_load5 rfl Proofs.Try.underlying83 rfl (by kernel_rfl) t3 ((Ds.since hs rfl).cell rfl) ((Ds.since hs rfl).cell rfl) ((Ds.since hs rfl).cell rfl) ((Ds.since hs rfl).cell rfl) ((Ds.since hs rfl).cell rfl)) rfl)
    · intro a wa hs hf hd
      have t60 : a.eval (.tmp 60) = _ := hd.at 10 60 (by kernel_rfl)
      have t4 := hf.off 4 (by kernel_rfl) rfl
      exact guard_on rfl rfl t60 (yes_eqv (o_move rfl t4) rfl)
    · intro a wa hs hf hd
      have t60 : a.eval (.tmp 60) = _ := hd.at 10 60 (by kernel_rfl)
      have t6 := hf.off 6 (by kernel_rfl) rfl
      exact guard_on rfl rfl t60 (yes_eqv (o_move rfl t6) rfl)
    · intro a wa hs hf hd
      have t60 : a.eval (.tmp 60) = _ := hd.at 10 60 (by kernel_rfl)
      have t61 : a.eval (.tmp 61) = _ := hd.at 11 61 (by kernel_rfl)
      have t62 : a.eval (.tmp 62) = _ := hd.at 12 62 (by kernel_rfl)
      have t63 : a.eval (.tmp 63) = _ := hd.at 13 63 (by kernel_rfl)
      exact guard_on rfl rfl t60 (yes_gives (by have h5 := call_ no _ (.slice none 0 0) s id op [] _ ((IsSys.mk rfl hw hg hc hl : IsSys no w (.agg #[.slice aw s.M.W.length cw, .slice ag s.M.G.length cg, .bool s.M.bad, .slice ac s.C.length cc, .slice al s.L.length cl]) s).ext (hEW.trans (Since.to_ext hs))) ⟨none, 0, rfl, by simp, by omega, fun _ => rfl, fun i hi => by simp at hi⟩ no_lt (by omega) (by decide); rw [H2.out] at h5; exact h5) rfl rfl Proofs.Try.func84 (by kernel_rfl) (by kernel_rfl) (by simp only [List.map_toArray, List.map_cons, List.map_nil, eval_const, t61, t62, t63]) rfl)
    · intro a wa hs hf hd
      have t60 : a.eval (.tmp 60) = _ := hd.at 10 60 (by kernel_rfl)
      have t3 := hf.off 3 (by kernel_rfl) rfl
      exact guard_on rfl rfl t60 (yes_eqv (o_load5 rfl Proofs.Try.underlying83 rfl (by kernel_rfl) t3 ((Ds.since hs rfl).cell rfl) ((Ds.since hs rfl).cell rfl) ((Ds.since hs rfl).cell rfl) ((Ds.since hs rfl).cell rfl) ((Ds.since hs rfl).cell rfl)) rfl)
    · intro a wa hs hf hd
      have t60 : a.eval (.tmp 60) = _ := hd.at 10 60 (by kernel_rfl)
      have t64 := hd.at 14 64 (by kernel_rfl)
      have t65 : a.eval (.tmp 65) = _ := hd.at 15 65 (by kernel_rfl)
      exact guard_on rfl rfl t60 (yes_gives (sameT_ _ _ s _ t64 ((IsSys.mk rfl hw hg hc hl : IsSys no w (.agg #[.slice aw s.M.W.length cw, .slice ag s.M.G.length cg, .bool s.M.bad, .slice ac s.C.length cc, .slice al s.L.length cl]) s).ext (hEW.trans (Since.to_ext hs)))) rfl rfl Proofs.Try.func78 (by kernel_rfl) (by kernel_rfl) (by simp only [List.map_toArray, List.map_cons, List.map_nil, eval_const, t65]) rfl)
    · intro a wa hs hf hd
      have t60 : a.eval (.tmp 60) = _ := hd.at 10 60 (by kernel_rfl)
      have t66 : a.eval (.tmp 66) = _ := hd.at 16 66 (by kernel_rfl)
      exact plain_ rfl (yes_eqv (o_pick_t rfl t60 t66) rfl)
    · intro a wa hs hf hd
      have t67 : a.eval (.tmp 67) = _ := hd.at 17 67 (by kernel_rfl)
      exact plain_ rfl (yes_eqv (o_move rfl t67) rfl)
    · intro a wa hs hf hd
      have t68 : a.eval (.tmp 68) = _ := hd.at 18 68 (by kernel_rfl)
      have t3 := hf.off 3 (by kernel_rfl) rfl
      exact guard_on rfl rfl t68 (yes_eqv (o_load5 rfl Proofs.Try.underlying83 rfl (by kernel_rfl) t3 ((Ds.since hs rfl).cell rfl) ((Ds.since hs rfl).cell rfl) ((Ds.since hs rfl).cell rfl) ((Ds.since hs rfl).cell rfl) ((Ds.since hs rfl).cell rfl)) rfl)
    · intro a wa hs hf hd
      have t68 : a.eval (.tmp 68) = _ := hd.at 18 68 (by kernel_rfl)
      have t4 := hf.off 4 (by kernel_rfl) rfl
      exact guard_on rfl rfl t68 (yes_eqv (o_move rfl t4) rfl)
    · intro a wa hs hf hd
      have t68 : a.eval (.tmp 68) = _ := hd.at 18 68 (by kernel_rfl)
      exact guard_on rfl rfl t68 (yes_eqv (o_build rfl (by simp only [List.map_toArray, List.map_cons, List.map_nil, eval_const, ]; first | done | rfl) rfl) rfl)
    · intro a wa hs hf hd
      have t68 : a.eval (.tmp 68) = _ := hd.at 18 68 (by kernel_rfl)
      have t69 : a.eval (.tmp 69) = _ := hd.at 19 69 (by kernel_rfl)
      have t70 : a.eval (.tmp 70) = _ := hd.at 20 70 (by kernel_rfl)
      have t71 : a.eval (.tmp 71) = _ := hd.at 21 71 (by kernel_rfl)
      exact guard_on rfl rfl t68 (yes_gives (by have h5 := set_ no _ _ s id zeroF _ ((IsSys.mk rfl hw hg hc hl : IsSys no w (.agg #[.slice aw s.M.W.length cw, .slice ag s.M.G.length cg, .bool s.M.bad, .slice ac s.C.length cc, .slice al s.L.length cl]) s).ext (hEW.trans (Since.to_ext hs))) (zero_frame no _) no_lt (by omega) (fun i c hi => Nat.le_trans (hF i c hi) (by decide)); rw [H3.out] at h5; exact h5) rfl rfl Proofs.Try.func85 (by kernel_rfl) (by kernel_rfl) (by simp only [List.map_toArray, List.map_cons, List.map_nil, eval_const, t69, t70, t71]) rfl)
    · intro a wa hs hf hd
      have t68 : a.eval (.tmp 68) = _ := hd.at 18 68 (by kernel_rfl)
      have t3 := hf.off 3 (by kernel_rfl) rfl
      exact guard_on rfl rfl t68 (yes_eqv (o_load5 rfl Proofs.Try.underlying83 rfl (by kernel_rfl) t3 ((Ds.since hs rfl).cell rfl) ((Ds.since hs rfl).cell rfl) ((Ds.since hs rfl).cell rfl) ((Ds.since hs rfl).cell rfl) ((Ds.since hs rfl).cell rfl)) rfl)
    · intro a wa hs hf hd
      have t68 : a.eval (.tmp 68) = _ := hd.at 18 68 (by kernel_rfl)
      have t72 := hd.at 22 72 (by kernel_rfl)
      have t73 : a.eval (.tmp 73) = _ := hd.at 23 73 (by kernel_rfl)
      exact guard_on rfl rfl t68 (yes_gives (sameT_ _ _ s _ t72 ((IsSys.mk rfl hw hg hc hl : IsSys no w (.agg #[.slice aw s.M.W.length cw, .slice ag s.M.G.length cg, .bool s.M.bad, .slice ac s.C.length cc, .slice al s.L.length cl]) s).ext (hEW.trans (Since.to_ext hs)))) rfl rfl Proofs.Try.func78 (by kernel_rfl) (by kernel_rfl) (by simp only [List.map_toArray, List.map_cons, List.map_nil, eval_const, t73]) rfl)
    · intro a wa hs hf hd
      have t68 : a.eval (.tmp 68) = _ := hd.at 18 68 (by kernel_rfl)
      have t74 : a.eval (.tmp 74) = _ := hd.at 24 74 (by kernel_rfl)
      exact plain_ rfl (yes_eqv (o_pick_t rfl t68 t74) rfl)
    · intro a wa hs hf hd
      have t75 : a.eval (.tmp 75) = _ := hd.at 25 75 (by kernel_rfl)
      exact plain_ rfl (yes_eqv (o_move rfl t75) rfl)
    · intro a wa hs hf hd
      have t76 : a.eval (.tmp 76) = _ := hd.at 26 76 (by kernel_rfl)
      have t3 := hf.off 3 (by kernel_rfl) rfl
      exact guard_on rfl rfl t76 (yes_eqv (o_load5 rfl Proofs.Try.underlying83 rfl (by kernel_rfl) t3 ((Ds.since hs rfl).cell rfl) ((Ds.since hs rfl).cell rfl) ((Ds.since hs rfl).cell rfl) ((Ds.since hs rfl).cell rfl) ((Ds.since hs rfl).cell rfl)) rfl)
    · intro a wa hs hf hd
      have t76 : a.eval (.tmp 76) = _ := hd.at 26 76 (by kernel_rfl)
      have t4 := hf.off 4 (by kernel_rfl) rfl
      exact guard_on rfl rfl t76 (yes_eqv (o_move rfl t4) rfl)
    · intro a wa hs hf hd
      have t76 : a.eval (.tmp 76) = _ := hd.at 26 76 (by kernel_rfl)
      have t6 := hf.off 6 (by kernel_rfl) rfl
      exact guard_on rfl rfl t76 (yes_eqv (o_move rfl t6) rfl)
    · intro a wa hs hf hd
      have t76 : a.eval (.tmp 76) = _ := hd.at 26 76 (by kernel_rfl)
      have t77 : a.eval (.tmp 77) = _ := hd.at 27 77 (by kernel_rfl)
      have t78 : a.eval (.tmp 78) = _ := hd.at 28 78 (by kernel_rfl)
      have t79 : a.eval (.tmp 79) = _ := hd.at 29 79 (by kernel_rfl)
      exact guard_on rfl rfl t76 (yes_gives (by have h5 := back_ no _ s id op 0 _ ((IsSys.mk rfl hw hg hc hl : IsSys no w (.agg #[.slice aw s.M.W.length cw, .slice ag s.M.G.length cg, .bool s.M.bad, .slice ac s.C.length cc, .slice al s.L.length cl]) s).ext (hEW.trans (Since.to_ext hs))) no_lt (by omega); rw [H4.out] at h5; exact h5) rfl rfl Proofs.Try.func86 (by kernel_rfl) (by kernel_rfl) (by simp only [List.map_toArray, List.map_cons, List.map_nil, eval_const, t77, t78, t79]) rfl)
    · intro a wa hs hf hd
      have t76 : a.eval (.tmp 76) = _ := hd.at 26 76 (by kernel_rfl)
      have t3 := hf.off 3 (by kernel_rfl) rfl
      exact guard_on rfl rfl t76 (yes_eqv (o_load5 rfl Proofs.Try.underlying83 rfl (by kernel_rfl) t3 ((Ds.since hs rfl).cell rfl) ((Ds.since hs rfl).cell rfl) ((Ds.since hs rfl).cell rfl) ((Ds.since hs rfl).cell rfl) ((Ds.since hs rfl).cell rfl)) rfl)
    · intro a wa hs hf hd
      have t76 : a.eval (.tmp 76) = _ := hd.at 26 76 (by kernel_rfl)
      have t80 := hd.at 30 80 (by kernel_rfl)
      have t81 : a.eval (.tmp 81) = _ := hd.at 31 81 (by kernel_rfl)
      exact guard_on rfl rfl t76 (yes_gives (sameT_ _ _ s _ t80 ((IsSys.mk rfl hw hg hc hl : IsSys no w (.agg #[.slice aw s.M.W.length cw, .slice ag s.M.G.length cg, .bool s.M.bad, .slice ac s.C.length cc, .slice al s.L.length cl]) s).ext (hEW.trans (Since.to_ext hs)))) rfl rfl Proofs.Try.func78 (by kernel_rfl) (by kernel_rfl) (by simp only [List.map_toArray, List.map_cons, List.map_nil, eval_const, t81]) rfl)
    · intro a wa hs hf hd
      have t76 : a.eval (.tmp 76) = _ := hd.at 26 76 (by kernel_rfl)
      have t82 : a.eval (.tmp 82) = _ := hd.at 32 82 (by kernel_rfl)
      exact plain_ rfl (yes_eqv (o_pick_t rfl t76 t82) rfl)
    · intro a wa hs hf hd
      have t83 : a.eval (.tmp 83) = _ := hd.at 33 83 (by kernel_rfl)
      exact plain_ rfl (yes_eqv (o_assign rfl t83) rfl)
  case hG => exact ⟨stable_eqv _, stable_eqv _, stable_eqv _, stable_eqv _, stable_eqv _, stable_eqv _, stable_eqv _, stable_eqv _, stable_eqv _, stable_eqv _, stable_eqv _, stable_eqv _, stable_eqv _, stable_eqv _, stable_isS _, stable_eqv _, stable_eqv _, stable_eqv _, stable_eqv _, stable_eqv _, stable_eqv _, stable_eqv _, stable_isS _, stable_eqv _, stable_eqv _, stable_eqv _, stable_eqv _, stable_eqv _, stable_eqv _, stable_eqv _, stable_isS _, stable_eqv _, stable_eqv _, stable_eqv _, stable_eqv _, trivial⟩
  case hc => kernel_rfl
  case hfin =>
    intro v2 hs2
    rintro _ rfl _ rfl _ rfl _ rfl _ rfl _ rfl _ rfl _ rfl _ rfl _ rfl _ rfl _ rfl _ rfl _ rfl r14 hr14 _ rfl _ rfl _ rfl _ rfl _ rfl _ rfl _ rfl r22 hr22 _ rfl _ rfl _ rfl _ rfl _ rfl _ rfl _ rfl r30 hr30 _ rfl _ rfl _ rfl _ rfl
    rintro _ rfl
    simp only [Act.put, List.setIfInBounds_toArray, List.set_cons_zero, List.set_cons_succ]
    go_wp2
    go_ret
    exact ⟨_, rfl, hEW.trans (Since.to_ext hs2), rfl⟩

set_option maxHeartbeats 4000000 in
set_option maxRecDepth 100000 in
theorem coreLogs_yes (aw ag ac al : Option Addr) (cw cg cc cl : Nat) (s : SysD) (k : Nat) (x0 x1 x2 x3 x4 op : Int) (w : World) (hw : IsInts no w (.slice aw s.M.W.length cw) s.M.W) (hg : IsInts no w (.slice ag s.M.G.length cg) s.M.G) (hc : IsCores no w (.slice ac s.C.length cc) s.C) (hl : IsEvs no w (.slice al s.L.length cl) s.L)
    (hm : mayS s 60 = true) (hh : hasD s k = true)  : Gives Proofs.Try.prog 21 #[.agg #[.slice aw s.M.W.length cw, .slice ag s.M.G.length cg, .bool s.M.bad, .slice ac s.C.length cc, .slice al s.L.length cl, .int .i64 (k : Int), .int .i64 x0, .int .i64 x1, .int .i64 x2, .int .i64 x3, .int .i64 x4, .int .i64 op]] w (eqv (.bool true)) := by
  have km := fun (w' : World) (e : Ext w w') => refMay_ no _ s 60 (by omega) w' ((IsSys.mk rfl hw hg hc hl : IsSys no w (.agg #[.slice aw s.M.W.length cw, .slice ag s.M.G.length cg, .bool s.M.bad, .slice ac s.C.length cc, .slice al s.L.length cl]) s).ext e)
  rw [hm] at km
  obtain ⟨hC, hL, hC1, hF⟩ := may_small hm
  have hlog : logD s k x1 x2 x3 x4 = { s with L := s.L ++ [⟨(k : Int), x1, x2, x3, x4⟩] } := by simp [logD, hh]
  have H1 := Lib.hid hlog
  have hk : k < s.C.length := by simp [hasD] at hh; omega
  have q0 : ¬ (k : Int) < 0 := by omega
  have q1 : ¬ (s.C.length : Int) ≤ (k : Int) := by omega
  have q2 : ¬ s.C.length ≤ k := by omega
  clear hlog hm
  go_enter Proofs.Try.func21, Proofs.Try.ntmps21
  go_wp2_with (fail)
  go_at_call 73
  refine (shown3_ _).calls.mono ?_
  rintro e w1 ⟨_, rfl, hb1, rfl⟩
  have Bi_1 : Box w1 (w.heap.size) #[.slice aw s.M.W.length cw, .slice ag s.M.G.length cg, .bool s.M.bad, .slice ac s.C.length cc, .slice al s.L.length cl, .int .i64 (k : Int), .int .i64 x0, .int .i64 x1, .int .i64 x2, .int .i64 x3, .int .i64 x4, .int .i64 op] 111 := (((Box.new _ _ _).alloc _).alloc _).ext hb1
  have Bs_1 : Box w1 (w.heap.size + 1) #[.slice aw s.M.W.length cw, .slice ag s.M.G.length cg, .bool s.M.bad, .slice ac s.C.length cc, .slice al s.L.length cl] 83 := ((Box.two _ _ _ _ _).alloc _).ext hb1
  have Bx_1 : Box w1 (w.heap.size + 1 + 1) #[.int .i64 x0, .int .i64 x1, .int .i64 x2, .int .i64 x3, .int .i64 x4] 108 := (Box.three' _ _ _ _ _ _ _).ext hb1
  obtain ⟨ci0, ci1, ci2, ci3, ci4, ci5, ci6, ci7, ci8, ci9, ci10, ci11, di0, di1, di2, di3, di4, di5, di6, di7, di8, di9, di10, di11⟩ := cells12 Bi_1
  have zi : w.heap.size < w1.heap.size := Bi_1.lt
  obtain ⟨cs0, cs1, cs2, cs3, cs4, ds0, ds1, ds2, ds3, ds4⟩ := cells5 Bs_1
  have zs : w.heap.size + 1 < w1.heap.size := Bs_1.lt
  obtain ⟨cx0, cx1, cx2, cx3, cx4, dx0, dx1, dx2, dx3, dx4⟩ := cells5 Bx_1
  have zx : w.heap.size + 1 + 1 < w1.heap.size := Bx_1.lt
  go_wp2_with (fail)
  go_at_call 83
  refine (km _ (by with_reducible (repeat (first | assumption | exact Ext.refl _ | refine Ext.alloc' ?_ _ | refine Ext.store0 ?_ _ _ | refine Ext.storek ?_ _ _ _ | refine Ext.stores0 ?_ ?_ _ _ | refine Ext.storesk ?_ ?_ _ _ _ | refine Ext.drewN' ?_ _ | refine Ext.drew' ?_ | refine Ext.trans ?_ (by assumption))))).calls.mono ?_
  rintro e w2 ⟨_, rfl, hb2, rfl⟩
  have Bi_2 := Bi_1.ext (show Ext w1 w2 from (by with_reducible (repeat (first | assumption | exact Ext.refl _ | refine Ext.alloc' ?_ _ | refine Ext.store0 ?_ _ _ | refine Ext.storek ?_ _ _ _ | refine Ext.stores0 ?_ ?_ _ _ | refine Ext.storesk ?_ ?_ _ _ _ | refine Ext.drewN' ?_ _ | refine Ext.drew' ?_ | refine Ext.trans ?_ (by assumption)))))
  have Bs_2 := Bs_1.ext (show Ext w1 w2 from (by with_reducible (repeat (first | assumption | exact Ext.refl _ | refine Ext.alloc' ?_ _ | refine Ext.store0 ?_ _ _ | refine Ext.storek ?_ _ _ _ | refine Ext.stores0 ?_ ?_ _ _ | refine Ext.storesk ?_ ?_ _ _ _ | refine Ext.drewN' ?_ _ | refine Ext.drew' ?_ | refine Ext.trans ?_ (by assumption)))))
  have Bx_2 := Bx_1.ext (show Ext w1 w2 from (by with_reducible (repeat (first | assumption | exact Ext.refl _ | refine Ext.alloc' ?_ _ | refine Ext.store0 ?_ _ _ | refine Ext.storek ?_ _ _ _ | refine Ext.stores0 ?_ ?_ _ _ | refine Ext.storesk ?_ ?_ _ _ _ | refine Ext.drewN' ?_ _ | refine Ext.drew' ?_ | refine Ext.trans ?_ (by assumption)))))
  clear Bi_1 ci0 ci1 ci2 ci3 ci4 ci5 ci6 ci7 ci8 ci9 ci10 ci11 di0 di1 di2 di3 di4 di5 di6 di7 di8 di9 di10 di11 Bs_1 cs0 cs1 cs2 cs3 cs4 ds0 ds1 ds2 ds3 ds4 Bx_1 cx0 cx1 cx2 cx3 cx4 dx0 dx1 dx2 dx3 dx4
  obtain ⟨ci0, ci1, ci2, ci3, ci4, ci5, ci6, ci7, ci8, ci9, ci10, ci11, di0, di1, di2, di3, di4, di5, di6, di7, di8, di9, di10, di11⟩ := cells12 Bi_2
  have zi : w.heap.size < w2.heap.size := Bi_2.lt
  obtain ⟨cs0, cs1, cs2, cs3, cs4, ds0, ds1, ds2, ds3, ds4⟩ := cells5 Bs_2
  have zs : w.heap.size + 1 < w2.heap.size := Bs_2.lt
  obtain ⟨cx0, cx1, cx2, cx3, cx4, dx0, dx1, dx2, dx3, dx4⟩ := cells5 Bx_2
  have zx : w.heap.size + 1 + 1 < w2.heap.size := Bx_2.lt
  go_wp2_with (fail)
  go_at_call 87
  refine (log_ no _ s (k : Int) x1 x2 x3 x4 _ ((IsSys.mk rfl hw hg hc hl : IsSys no w (.agg #[.slice aw s.M.W.length cw, .slice ag s.M.G.length cg, .bool s.M.bad, .slice ac s.C.length cc, .slice al s.L.length cl]) s).ext (by with_reducible (repeat (first | assumption | exact Ext.refl _ | refine Ext.alloc' ?_ _ | refine Ext.store0 ?_ _ _ | refine Ext.storek ?_ _ _ _ | refine Ext.stores0 ?_ ?_ _ _ | refine Ext.storesk ?_ ?_ _ _ _ | refine Ext.drewN' ?_ _ | refine Ext.drew' ?_ | refine Ext.trans ?_ (by assumption))))) no_lt (by omega)).calls.mono ?_
  rintro e w3 ⟨_, rfl, hb3, hut0⟩
  rw [H1.out] at hut0
  obtain ⟨t1, t2, t3, t4, t5, t6, t7, t8, rfl, tw, tg, tc, tl⟩ := hut0.lit (a := s.M.W.length) (b := s.M.G.length) (d := s.M.bad) (n := s.C.length) (m := s.L.length + 1) rfl rfl rfl rfl (by simp)
  obtain ⟨lb, lo, rfl, _, _, l0, _, _, _, l4⟩ := IsEvs.at tl (i := s.L.length) (e := ⟨(k : Int), x1, x2, x3, x4⟩) (by simp)
  have Bi_3 := Bi_2.ext (show Ext w2 w3 from (by with_reducible (repeat (first | assumption | exact Ext.refl _ | refine Ext.alloc' ?_ _ | refine Ext.store0 ?_ _ _ | refine Ext.storek ?_ _ _ _ | refine Ext.stores0 ?_ ?_ _ _ | refine Ext.storesk ?_ ?_ _ _ _ | refine Ext.drewN' ?_ _ | refine Ext.drew' ?_ | refine Ext.trans ?_ (by assumption)))))
  have Bs_3 := Bs_2.ext (show Ext w2 w3 from (by with_reducible (repeat (first | assumption | exact Ext.refl _ | refine Ext.alloc' ?_ _ | refine Ext.store0 ?_ _ _ | refine Ext.storek ?_ _ _ _ | refine Ext.stores0 ?_ ?_ _ _ | refine Ext.storesk ?_ ?_ _ _ _ | refine Ext.drewN' ?_ _ | refine Ext.drew' ?_ | refine Ext.trans ?_ (by assumption)))))
  have Bx_3 := Bx_2.ext (show Ext w2 w3 from (by with_reducible (repeat (first | assumption | exact Ext.refl _ | refine Ext.alloc' ?_ _ | refine Ext.store0 ?_ _ _ | refine Ext.storek ?_ _ _ _ | refine Ext.stores0 ?_ ?_ _ _ | refine Ext.storesk ?_ ?_ _ _ _ | refine Ext.drewN' ?_ _ | refine Ext.drew' ?_ | refine Ext.trans ?_ (by assumption)))))
  clear Bi_2 ci0 ci1 ci2 ci3 ci4 ci5 ci6 ci7 ci8 ci9 ci10 ci11 di0 di1 di2 di3 di4 di5 di6 di7 di8 di9 di10 di11 Bs_2 cs0 cs1 cs2 cs3 cs4 ds0 ds1 ds2 ds3 ds4 Bx_2 cx0 cx1 cx2 cx3 cx4 dx0 dx1 dx2 dx3 dx4
  obtain ⟨ci0, ci1, ci2, ci3, ci4, ci5, ci6, ci7, ci8, ci9, ci10, ci11, di0, di1, di2, di3, di4, di5, di6, di7, di8, di9, di10, di11⟩ := cells12 Bi_3
  have zi : w.heap.size < w3.heap.size := Bi_3.lt
  obtain ⟨cs0, cs1, cs2, cs3, cs4, ds0, ds1, ds2, ds3, ds4⟩ := cells5 Bs_3
  have zs : w.heap.size + 1 < w3.heap.size := Bs_3.lt
  obtain ⟨cx0, cx1, cx2, cx3, cx4, dx0, dx1, dx2, dx3, dx4⟩ := cells5 Bx_3
  have zx : w.heap.size + 1 + 1 < w3.heap.size := Bx_3.lt
  go_wp2_with (fail)
  obtain ⟨W, hW⟩ : ∃ W, W = w3.alloc (.cells #[.slice t1 s.M.W.length t2, .slice t3 s.M.G.length t4, .bool s.M.bad, .slice t5 s.C.length t6, .slice (some ⟨lb, lo, none⟩) (s.L.length + 1) t8] 83 (0, 0)) := ⟨_, rfl⟩
  have hEt : Ext w3 W := by rw [hW]; exact (by with_reducible (repeat (first | assumption | exact Ext.refl _ | refine Ext.alloc' ?_ _ | refine Ext.store0 ?_ _ _ | refine Ext.storek ?_ _ _ _ | refine Ext.stores0 ?_ ?_ _ _ | refine Ext.storesk ?_ ?_ _ _ _ | refine Ext.drewN' ?_ _ | refine Ext.drew' ?_ | refine Ext.trans ?_ (by assumption))))
  have hEW : Ext w W := by rw [hW]; exact (by with_reducible (repeat (first | assumption | exact Ext.refl _ | refine Ext.alloc' ?_ _ | refine Ext.store0 ?_ _ _ | refine Ext.storek ?_ _ _ _ | refine Ext.stores0 ?_ ?_ _ _ | refine Ext.storesk ?_ ?_ _ _ _ | refine Ext.drewN' ?_ _ | refine Ext.drew' ?_ | refine Ext.trans ?_ (by assumption))))
  have Ds := Bs_3.alloc (.cells #[.slice t1 s.M.W.length t2, .slice t3 s.M.G.length t4, .bool s.M.bad, .slice t5 s.C.length t6, .slice (some ⟨lb, lo, none⟩) (s.L.length + 1) t8] 83 (0, 0))
  rw [← hW] at Ds
  have Dx := Bx_3.alloc (.cells #[.slice t1 s.M.W.length t2, .slice t3 s.M.G.length t4, .bool s.M.bad, .slice t5 s.C.length t6, .slice (some ⟨lb, lo, none⟩) (s.L.length + 1) t8] 83 (0, 0))
  rw [← hW] at Dx
  have Dt := Box.new w3 #[.slice t1 s.M.W.length t2, .slice t3 s.M.G.length t4, .bool s.M.bad, .slice t5 s.C.length t6, .slice (some ⟨lb, lo, none⟩) (s.L.length + 1) t8] 83
  rw [← hW] at Dt
  rw [← hW]
  clear hW
  have m0 : W.cell? ⟨lb, lo + (s.L.length : Int).toNat * 5 + 0, none⟩ = some (.int .i64 (k : Int)) := by simpa using cell_ext l0 hEt
  have m4 : W.cell? ⟨lb, lo + (s.L.length : Int).toNat * 5 + 4, none⟩ = some (.int .i64 x4) := by simpa using cell_ext l4 hEt
  apply region_lit2 (T := []) (L := []) (X := []) (G := [eqv _, eqv _, eqv _, eqv _, eqv _, eqv _, eqv (.int .i64 ((s.L.length : Int) + 1)), eqv (.bool false), eqv _, eqv _, eqv _, eqv _, eqv _, eqv _, eqv _, eqv _, eqv _, eqv _, eqv (.bool false), eqv _, eqv _, eqv _, eqv _, eqv _, eqv _, eqv _, eqv _, eqv _, eqv _, eqv _, eqv _, eqv (.bool false), eqv _])
  case hm => kernel_rfl
  case hop =>
    refine ⟨?_, ?_, ?_, ?_, ?_, ?_, ?_, ?_, ?_, ?_, ?_, ?_, ?_, ?_, ?_, ?_, ?_, ?_, ?_, ?_, ?_, ?_, ?_, ?_, ?_, ?_, ?_, ?_, ?_, ?_, ?_, ?_, ?_, trivial⟩
    · intro a wa hs hf hd
      have t8 := hf.off 8 (by kernel_rfl) rfl
      exact plain_ rfl (yes_eqv (o_fieldAddr rfl Proofs.Try.underlying83 rfl rfl (by kernel_rfl) t8) rfl)
    · intro a wa hs hf hd
      have t84 : a.eval (.tmp 84) = _ := hd.at 0 84 (by kernel_rfl)
      exact plain_ rfl (yes_eqv (o_load1 rfl Proofs.Try.underlying81 rfl t84 ((Dt.since hs rfl).cell rfl)) rfl)
    · intro a wa hs hf hd
      have t85 : a.eval (.tmp 85) = _ := hd.at 1 85 (by kernel_rfl)
      exact plain_ rfl (yes_eqv (o_len rfl Proofs.Try.underlying81 t85) rfl)
    · intro a wa hs hf hd
      have t3 := hf.off 3 (by kernel_rfl) rfl
      exact plain_ rfl (yes_eqv (o_fieldAddr rfl Proofs.Try.underlying83 rfl rfl (by kernel_rfl) t3) rfl)
    · intro a wa hs hf hd
      have t87 : a.eval (.tmp 87) = _ := hd.at 3 87 (by kernel_rfl)
      exact plain_ rfl (yes_eqv (o_load1 rfl Proofs.Try.underlying81 rfl t87 ((Ds.since hs rfl).cell rfl)) rfl)
    · intro a wa hs hf hd
      have t88 : a.eval (.tmp 88) = _ := hd.at 4 88 (by kernel_rfl)
      exact plain_ rfl (yes_eqv (o_len rfl Proofs.Try.underlying81 t88) rfl)
    · intro a wa hs hf hd
      have t89 : a.eval (.tmp 89) = _ := hd.at 5 89 (by kernel_rfl)
      exact plain_ rfl (yes_eqv (o_add rfl t89 rfl (by rw [IntKind.wrap_i64]; omega)) rfl)
    · intro a wa hs hf hd
      have t86 : a.eval (.tmp 86) = _ := hd.at 2 86 (by kernel_rfl)
      have t90 : a.eval (.tmp 90) = _ := hd.at 6 90 (by kernel_rfl)
      exact plain_ rfl (yes_eqv (o_neq rfl t86 t90 (by simp)) rfl)
    · intro a wa hs hf hd
      have t91 : a.eval (.tmp 91) = _ := hd.at 7 91 (by kernel_rfl)
      exact plain_ rfl (yes_eqv (o_move rfl t91) rfl)
    · intro a wa hs hf hd
      have t92 : a.eval (.tmp 92) = _ := hd.at 8 92 (by kernel_rfl)
      have t8 := hf.off 8 (by kernel_rfl) rfl
      exact guard_on rfl rfl t92 (yes_eqv (o_fieldAddr rfl Proofs.Try.underlying83 rfl rfl (by kernel_rfl) t8) rfl)
    · intro a wa hs hf hd
      have t92 : a.eval (.tmp 92) = _ := hd.at 8 92 (by kernel_rfl)
      have t93 : a.eval (.tmp 93) = _ := hd.at 9 93 (by kernel_rfl)
      exact guard_on rfl rfl t92 (yes_eqv (o_load1 rfl Proofs.Try.underlying81 rfl t93 ((Dt.since hs rfl).cell rfl)) rfl)
    · intro a wa hs hf hd
      have t92 : a.eval (.tmp 92) = _ := hd.at 8 92 (by kernel_rfl)
      have t3 := hf.off 3 (by kernel_rfl) rfl
      exact guard_on rfl rfl t92 (yes_eqv (o_fieldAddr rfl Proofs.Try.underlying83 rfl rfl (by kernel_rfl) t3) rfl)
    · intro a wa hs hf hd
      have t92 : a.eval (.tmp 92) = _ := hd.at 8 92 (by kernel_rfl)
      have t95 : a.eval (.tmp 95) = _ := hd.at 11 95 (by kernel_rfl)
      exact guard_on rfl rfl t92 (yes_eqv (o_load1 rfl Proofs.Try.underlying81 rfl t95 ((Ds.since hs rfl).cell rfl)) rfl)
    · intro a wa hs hf hd
      have t92 : a.eval (.tmp 92) = _ := hd.at 8 92 (by kernel_rfl)
      have t96 : a.eval (.tmp 96) = _ := hd.at 12 96 (by kernel_rfl)
      exact guard_on rfl rfl t92 (yes_eqv (o_len rfl Proofs.Try.underlying81 t96) rfl)
    · intro a wa hs hf hd
      have t92 : a.eval (.tmp 92) = _ := hd.at 8 92 (by kernel_rfl)
      have t94 : a.eval (.tmp 94) = _ := hd.at 10 94 (by kernel_rfl)
      have t97 : a.eval (.tmp 97) = _ := hd.at 13 97 (by kernel_rfl)
      exact guard_on rfl rfl t92 (yes_eqv (o_indexAddr (sz := 5) rfl Proofs.Try.underlying81 (by kernel_rfl) t94 t97 (by omega) (by omega)) rfl)
    · intro a wa hs hf hd
      have t92 : a.eval (.tmp 92) = _ := hd.at 8 92 (by kernel_rfl)
      have t98 : a.eval (.tmp 98) = _ := hd.at 14 98 (by kernel_rfl)
      exact guard_on rfl rfl t92 (yes_eqv (o_fieldAddr rfl Proofs.Try.underlying108 rfl rfl (by kernel_rfl) t98) rfl)
    · intro a wa hs hf hd
      have t92 : a.eval (.tmp 92) = _ := hd.at 8 92 (by kernel_rfl)
      have t99 : a.eval (.tmp 99) = _ := hd.at 15 99 (by kernel_rfl)
      exact guard_on rfl rfl t92 (yes_eqv (o_load1 rfl Proofs.Try.underlying3 rfl t99 (cell_since m0 hs rfl)) rfl)
    · intro a wa hs hf hd
      have t92 : a.eval (.tmp 92) = _ := hd.at 8 92 (by kernel_rfl)
      have t4 := hf.off 4 (by kernel_rfl) rfl
      exact guard_on rfl rfl t92 (yes_eqv (o_move rfl t4) rfl)
    · intro a wa hs hf hd
      have t92 : a.eval (.tmp 92) = _ := hd.at 8 92 (by kernel_rfl)
      have t100 : a.eval (.tmp 100) = _ := hd.at 16 100 (by kernel_rfl)
      have t101 : a.eval (.tmp 101) = _ := hd.at 17 101 (by kernel_rfl)
      exact guard_on rfl rfl t92 (yes_eqv (o_neq rfl t100 t101 (by simp)) rfl)
    · intro a wa hs hf hd
      have t92 : a.eval (.tmp 92) = _ := hd.at 8 92 (by kernel_rfl)
      have t102 : a.eval (.tmp 102) = _ := hd.at 18 102 (by kernel_rfl)
      exact plain_ rfl (yes_eqv (o_pick_f rfl t92 t102) rfl)
    · intro a wa hs hf hd
      have t103 : a.eval (.tmp 103) = _ := hd.at 19 103 (by kernel_rfl)
      exact plain_ rfl (yes_eqv (o_move rfl t103) rfl)
    · intro a wa hs hf hd
      have t104 : a.eval (.tmp 104) = _ := hd.at 20 104 (by kernel_rfl)
      have t8 := hf.off 8 (by kernel_rfl) rfl
      exact guard_on rfl rfl t104 (yes_eqv (o_fieldAddr rfl Proofs.Try.underlying83 rfl rfl (by kernel_rfl) t8) rfl)
    · intro a wa hs hf hd
      have t104 : a.eval (.tmp 104) = _ := hd.at 20 104 (by kernel_rfl)
      have t105 : a.eval (.tmp 105) = _ := hd.at 21 105 (by kernel_rfl)
      exact guard_on rfl rfl t104 (yes_eqv (o_load1 rfl Proofs.Try.underlying81 rfl t105 ((Dt.since hs rfl).cell rfl)) rfl)
    · intro a wa hs hf hd
      have t104 : a.eval (.tmp 104) = _ := hd.at 20 104 (by kernel_rfl)
      have t3 := hf.off 3 (by kernel_rfl) rfl
      exact guard_on rfl rfl t104 (yes_eqv (o_fieldAddr rfl Proofs.Try.underlying83 rfl rfl (by kernel_rfl) t3) rfl)
    · intro a wa hs hf hd
      have t104 : a.eval (.tmp 104) = _ := hd.at 20 104 (by kernel_rfl)
      have t107 : a.eval (.tmp 107) = _ := hd.at 23 107 (by kernel_rfl)
      exact guard_on rfl rfl t104 (yes_eqv (o_load1 rfl Proofs.Try.underlying81 rfl t107 ((Ds.since hs rfl).cell rfl)) rfl)
    · intro a wa hs hf hd
      have t104 : a.eval (.tmp 104) = _ := hd.at 20 104 (by kernel_rfl)
      have t108 : a.eval (.tmp 108) = _ := hd.at 24 108 (by kernel_rfl)
      exact guard_on rfl rfl t104 (yes_eqv (o_len rfl Proofs.Try.underlying81 t108) rfl)
    · intro a wa hs hf hd
      have t104 : a.eval (.tmp 104) = _ := hd.at 20 104 (by kernel_rfl)
      have t106 : a.eval (.tmp 106) = _ := hd.at 22 106 (by kernel_rfl)
      have t109 : a.eval (.tmp 109) = _ := hd.at 25 109 (by kernel_rfl)
      exact guard_on rfl rfl t104 (yes_eqv (o_indexAddr (sz := 5) rfl Proofs.Try.underlying81 (by kernel_rfl) t106 t109 (by omega) (by omega)) rfl)
    · intro a wa hs hf hd
      have t104 : a.eval (.tmp 104) = _ := hd.at 20 104 (by kernel_rfl)
      have t110 : a.eval (.tmp 110) = _ := hd.at 26 110 (by kernel_rfl)
      exact guard_on rfl rfl t104 (yes_eqv (o_fieldAddr rfl Proofs.Try.underlying108 rfl rfl (by kernel_rfl) t110) rfl)
    · intro a wa hs hf hd
      have t104 : a.eval (.tmp 104) = _ := hd.at 20 104 (by kernel_rfl)
      have t111 : a.eval (.tmp 111) = _ := hd.at 27 111 (by kernel_rfl)
      exact guard_on rfl rfl t104 (yes_eqv (o_load1 rfl Proofs.Try.underlying3 rfl t111 (cell_since m4 hs rfl)) rfl)
    · intro a wa hs hf hd
      have t104 : a.eval (.tmp 104) = _ := hd.at 20 104 (by kernel_rfl)
      have t5 := hf.off 5 (by kernel_rfl) rfl
      exact guard_on rfl rfl t104 (yes_eqv (o_fieldAddr rfl Proofs.Try.underlying108 rfl rfl (by kernel_rfl) t5) rfl)
    · intro a wa hs hf hd
      have t104 : a.eval (.tmp 104) = _ := hd.at 20 104 (by kernel_rfl)
      have t113 : a.eval (.tmp 113) = _ := hd.at 29 113 (by kernel_rfl)
      exact guard_on rfl rfl t104 (yes_eqv (o_load1 rfl Proofs.Try.underlying3 rfl t113 ((Dx.since hs rfl).cell rfl)) rfl)
    · intro a wa hs hf hd
      have t104 : a.eval (.tmp 104) = _ := hd.at 20 104 (by kernel_rfl)
      have t112 : a.eval (.tmp 112) = _ := hd.at 28 112 (by kernel_rfl)
      have t114 : a.eval (.tmp 114) = _ := hd.at 30 114 (by kernel_rfl)
      exact guard_on rfl rfl t104 (yes_eqv (o_neq rfl t112 t114 (by simp)) rfl)
    · intro a wa hs hf hd
      have t104 : a.eval (.tmp 104) = _ := hd.at 20 104 (by kernel_rfl)
      have t115 : a.eval (.tmp 115) = _ := hd.at 31 115 (by kernel_rfl)
      exact plain_ rfl (yes_eqv (o_pick_f rfl t104 t115) rfl)
  case hG => exact ⟨stable_eqv _, stable_eqv _, stable_eqv _, stable_eqv _, stable_eqv _, stable_eqv _, stable_eqv _, stable_eqv _, stable_eqv _, stable_eqv _, stable_eqv _, stable_eqv _, stable_eqv _, stable_eqv _, stable_eqv _, stable_eqv _, stable_eqv _, stable_eqv _, stable_eqv _, stable_eqv _, stable_eqv _, stable_eqv _, stable_eqv _, stable_eqv _, stable_eqv _, stable_eqv _, stable_eqv _, stable_eqv _, stable_eqv _, stable_eqv _, stable_eqv _, stable_eqv _, stable_eqv _, trivial⟩
  case hc => kernel_rfl
  case hfin =>
    intro v2 hs2
    rintro _ rfl _ rfl _ rfl _ rfl _ rfl _ rfl _ rfl _ rfl _ rfl _ rfl _ rfl _ rfl _ rfl _ rfl _ rfl _ rfl _ rfl _ rfl _ rfl _ rfl _ rfl _ rfl _ rfl _ rfl _ rfl _ rfl _ rfl _ rfl _ rfl _ rfl _ rfl _ rfl _ rfl
    rintro _ rfl
    simp only [Act.put, List.setIfInBounds_toArray, List.set_cons_zero, List.set_cons_succ]
    obtain ⟨w4, rfl, hb4⟩ := Ext.pick (Since.to_ext hs2)
    clear hs2
    have Es := Ds.ext hb4
    have Et := Dt.ext hb4
    obtain ⟨e00, e01, e02, e03, e04, f00, f01, f02, f03, f04⟩ := cells5 Es
    obtain ⟨e10, e11, e12, e13, e14, f10, f11, f12, f13, f14⟩ := cells5 Et
    have y0 := Es.lt
    have y1 := Et.lt
    have hE4 : Ext w3 w4 := hEt.trans hb4
    have hw4 : Ext w w4 := hEW.trans hb4
    have hw3 : Ext w w3 := (by with_reducible (repeat (first | assumption | exact Ext.refl _ | refine Ext.alloc' ?_ _ | refine Ext.store0 ?_ _ _ | refine Ext.storek ?_ _ _ _ | refine Ext.stores0 ?_ ?_ _ _ | refine Ext.storesk ?_ ?_ _ _ _ | refine Ext.drewN' ?_ _ | refine Ext.drew' ?_ | refine Ext.trans ?_ (by assumption))))
    have hcap : s.L.length ≤ t8 := by obtain ⟨_, _, ee, u1, u2, _⟩ := tl; simp at ee u1; omega
    have hcap2 : t8 ≤ 9223372036854775807 := by obtain ⟨_, _, ee, u1, u2, _⟩ := tl; simp at ee u1; omega
    go_wp2_with (fail)
    go_at_call 78
    have tl2 : IsEvs no w3 (.slice (some ⟨lb, lo, none⟩) s.L.length t8) s.L := by have := IsSl.take tl (m := s.L.length) (by simp); rw [List.take_left] at this; exact this
    refine (sameT_ _ _ s _ ((IsSys.mk rfl tw tg tc tl2 : IsSys no w3 _ s).ext (Ext.store0 hE4 _ _)) ((IsSys.mk rfl hw hg hc hl : IsSys no w _ s).ext (Ext.stores0 hw4 hw3 _ _))).calls.mono ?_
    rintro e w5 ⟨_, rfl, hb5, rfl⟩
    have hw5 : Ext w w5 := (Ext.stores0 hw4 hw3 _ _).trans hb5
    go_wp2
    go_ret
    exact ⟨_, rfl, hw5, rfl⟩

set_option maxHeartbeats 1000000 in
set_option maxRecDepth 100000 in
theorem coreLogs_ (v0 v1 v2 v3 v4 : Value) (s : SysD) (id x0 x1 x2 x3 x4 op : Int) (w : World) (h : IsSys no w (.agg #[v0, v1, v2, v3, v4]) s) :
    Gives Proofs.Try.prog 21 #[.agg #[v0, v1, v2, v3, v4, .int .i64 id, .int .i64 x0, .int .i64 x1, .int .i64 x2, .int .i64 x3, .int .i64 x4, .int .i64 op]] w (eqv (.bool true)) := by
  have km := fun (w' : World) (e : Ext w w') => refMay_ no _ s 60 (by omega) w' (h.ext e)
  obtain ⟨aw, cw, ag, cg, ac, cc, al, cl, e, hw, hg, hc, hl⟩ := h.opened
  obtain ⟨rfl, rfl, rfl, rfl, rfl⟩ : v0 = .slice aw s.M.W.length cw ∧ v1 = .slice ag s.M.G.length cg ∧ v2 = .bool s.M.bad ∧ v3 = .slice ac s.C.length cc ∧ v4 = .slice al s.L.length cl := by simpa using e
  clear e
  cases hm : mayS s 60
  · rw [hm] at km
    go_enter Proofs.Try.func21, Proofs.Try.ntmps21
    go_wp2_with (fail)
    go_at_call 73
    refine (shown3_ _).calls.mono ?_
    rintro e w1 ⟨_, rfl, hb1, rfl⟩
    have Bi_1 : Box w1 (w.heap.size) #[.slice aw s.M.W.length cw, .slice ag s.M.G.length cg, .bool s.M.bad, .slice ac s.C.length cc, .slice al s.L.length cl, .int .i64 id, .int .i64 x0, .int .i64 x1, .int .i64 x2, .int .i64 x3, .int .i64 x4, .int .i64 op] 111 := (((Box.new _ _ _).alloc _).alloc _).ext hb1
    have Bs_1 : Box w1 (w.heap.size + 1) #[.slice aw s.M.W.length cw, .slice ag s.M.G.length cg, .bool s.M.bad, .slice ac s.C.length cc, .slice al s.L.length cl] 83 := ((Box.two _ _ _ _ _).alloc _).ext hb1
    have Bx_1 : Box w1 (w.heap.size + 1 + 1) #[.int .i64 x0, .int .i64 x1, .int .i64 x2, .int .i64 x3, .int .i64 x4] 108 := (Box.three' _ _ _ _ _ _ _).ext hb1
    obtain ⟨ci0, ci1, ci2, ci3, ci4, ci5, ci6, ci7, ci8, ci9, ci10, ci11, di0, di1, di2, di3, di4, di5, di6, di7, di8, di9, di10, di11⟩ := cells12 Bi_1
    have zi : w.heap.size < w1.heap.size := Bi_1.lt
    obtain ⟨cs0, cs1, cs2, cs3, cs4, ds0, ds1, ds2, ds3, ds4⟩ := cells5 Bs_1
    have zs : w.heap.size + 1 < w1.heap.size := Bs_1.lt
    obtain ⟨cx0, cx1, cx2, cx3, cx4, dx0, dx1, dx2, dx3, dx4⟩ := cells5 Bx_1
    have zx : w.heap.size + 1 + 1 < w1.heap.size := Bx_1.lt
    go_wp2_with (fail)
    go_at_call 83
    refine (km _ (by with_reducible (repeat (first | assumption | exact Ext.refl _ | refine Ext.alloc' ?_ _ | refine Ext.store0 ?_ _ _ | refine Ext.storek ?_ _ _ _ | refine Ext.stores0 ?_ ?_ _ _ | refine Ext.storesk ?_ ?_ _ _ _ | refine Ext.drewN' ?_ _ | refine Ext.drew' ?_ | refine Ext.trans ?_ (by assumption))))).calls.mono ?_
    rintro e w2 ⟨_, rfl, hb2, rfl⟩
    have Bi_2 := Bi_1.ext (show Ext w1 w2 from (by with_reducible (repeat (first | assumption | exact Ext.refl _ | refine Ext.alloc' ?_ _ | refine Ext.store0 ?_ _ _ | refine Ext.storek ?_ _ _ _ | refine Ext.stores0 ?_ ?_ _ _ | refine Ext.storesk ?_ ?_ _ _ _ | refine Ext.drewN' ?_ _ | refine Ext.drew' ?_ | refine Ext.trans ?_ (by assumption)))))
    have Bs_2 := Bs_1.ext (show Ext w1 w2 from (by with_reducible (repeat (first | assumption | exact Ext.refl _ | refine Ext.alloc' ?_ _ | refine Ext.store0 ?_ _ _ | refine Ext.storek ?_ _ _ _ | refine Ext.stores0 ?_ ?_ _ _ | refine Ext.storesk ?_ ?_ _ _ _ | refine Ext.drewN' ?_ _ | refine Ext.drew' ?_ | refine Ext.trans ?_ (by assumption)))))
    have Bx_2 := Bx_1.ext (show Ext w1 w2 from (by with_reducible (repeat (first | assumption | exact Ext.refl _ | refine Ext.alloc' ?_ _ | refine Ext.store0 ?_ _ _ | refine Ext.storek ?_ _ _ _ | refine Ext.stores0 ?_ ?_ _ _ | refine Ext.storesk ?_ ?_ _ _ _ | refine Ext.drewN' ?_ _ | refine Ext.drew' ?_ | refine Ext.trans ?_ (by assumption)))))
    clear Bi_1 ci0 ci1 ci2 ci3 ci4 ci5 ci6 ci7 ci8 ci9 ci10 ci11 di0 di1 di2 di3 di4 di5 di6 di7 di8 di9 di10 di11 Bs_1 cs0 cs1 cs2 cs3 cs4 ds0 ds1 ds2 ds3 ds4 Bx_1 cx0 cx1 cx2 cx3 cx4 dx0 dx1 dx2 dx3 dx4
    obtain ⟨ci0, ci1, ci2, ci3, ci4, ci5, ci6, ci7, ci8, ci9, ci10, ci11, di0, di1, di2, di3, di4, di5, di6, di7, di8, di9, di10, di11⟩ := cells12 Bi_2
    have zi : w.heap.size < w2.heap.size := Bi_2.lt
    obtain ⟨cs0, cs1, cs2, cs3, cs4, ds0, ds1, ds2, ds3, ds4⟩ := cells5 Bs_2
    have zs : w.heap.size + 1 < w2.heap.size := Bs_2.lt
    obtain ⟨cx0, cx1, cx2, cx3, cx4, dx0, dx1, dx2, dx3, dx4⟩ := cells5 Bx_2
    have zx : w.heap.size + 1 + 1 < w2.heap.size := Bx_2.lt
    go_wp2
    go_ret
    exact ⟨_, rfl, (by with_reducible (repeat (first | assumption | exact Ext.refl _ | refine Ext.alloc' ?_ _ | refine Ext.store0 ?_ _ _ | refine Ext.storek ?_ _ _ _ | refine Ext.stores0 ?_ ?_ _ _ | refine Ext.storesk ?_ ?_ _ _ _ | refine Ext.drewN' ?_ _ | refine Ext.drew' ?_ | refine Ext.trans ?_ (by assumption)))), rfl⟩
  · cases hh : hasD s id
    · by_cases hq : id < 0
      · exact coreLogs_neg aw ag ac al cw cg cc cl s id x0 x1 x2 x3 x4 op w hw hg hc hl hm hh hq
      · exact coreLogs_big aw ag ac al cw cg cc cl s id x0 x1 x2 x3 x4 op w hw hg hc hl hm hh (by omega) (by simp [hasD] at hh; omega)
    · obtain ⟨k, rfl⟩ : ∃ k : Nat, id = k := ⟨id.toNat, by simp [hasD] at hh; omega⟩
      exact coreLogs_yes aw ag ac al cw cg cc cl s k x0 x1 x2 x3 x4 op w hw hg hc hl hm hh
end Go.Proofs.Ytcfbdfgondmkoaa
