/- Chapter 3: the document's example. -/
import Derived.Test.YtcfbdfgondmkoaaCoC
namespace Go.Proofs.Ytcfbdfgondmkoaa
open Go Go.RowKit
set_option linter.unusedSimpArgs false
set_option linter.unusedVariables false
set_option linter.unnecessarySimpa false

@[go_sem] theorem run_eqE2 (a0 a1 a2 a3 a4 b0 b1 b2 b3 b4 : Int) (w : World) : (Op.equalIn 10000 108 (.agg #[.int .i64 a0, .int .i64 a1, .int .i64 a2, .int .i64 a3, .int .i64 a4]) (.agg #[.int .i64 b0, .int .i64 b1, .int .i64 b2, .int .i64 b3, .int .i64 b4])).run Proofs.Try.prog w = .ok (sameE ⟨a0, a1, a2, a3, a4⟩ ⟨b0, b1, b2, b3, b4⟩) w :=
  run_eqE ⟨a0, a1, a2, a3, a4⟩ ⟨b0, b1, b2, b3, b4⟩ w
theorem IsSys.lit {N : Nat → Prop} {w : World} {v : Value} {s : SysD} (h : IsSys N w v s) {a b n m : Nat} {d : Bool} (h1 : s.M.W.length = a) (h2 : s.M.G.length = b) (h3 : s.M.bad = d) (h4 : s.C.length = n) (h5 : s.L.length = m) :
    ∃ aw cw ag cg ac cc al cl, v = .agg #[.slice aw a cw, .slice ag b cg, .bool d, .slice ac n cc, .slice al m cl] ∧ IsInts N w (.slice aw a cw) s.M.W ∧ IsInts N w (.slice ag b cg) s.M.G ∧ IsCores N w (.slice ac n cc) s.C ∧ IsEvs N w (.slice al m cl) s.L := by
  subst h1 h2 h3 h4 h5
  exact h.opened
def x0 : SysD := newS 2 3
def x1 : SysD := callS x0 1 3 [7]
def g4 : FrameD := ⟨4, 0, List.replicate 8 0, []⟩
def x2 : SysD := setS x1 1 g4
def x3 : SysD := backS x1 1 8 3
def x4 : SysD := logD x0 0 1 2 3 4
def y1 : FrameD := topF x1 1
def y2 : FrameD := topF x2 1
def y3 : FrameD := topF x3 1
def k31 : CoreD := (x3.C[1]?).getD core0
theorem x0W : x0.M.W.length = 140 := by kernel_rfl
theorem x0G : x0.M.G.length = 4 := by kernel_rfl
theorem x0B : x0.M.bad = false := by kernel_rfl
theorem x0C : x0.C.length = 2 := by kernel_rfl
theorem x0L : x0.L.length = 0 := by kernel_rfl
theorem x1W : x1.M.W.length = 140 := by kernel_rfl
theorem x1G : x1.M.G.length = 4 := by kernel_rfl
theorem x1B : x1.M.bad = false := by kernel_rfl
theorem x1C : x1.C.length = 2 := by kernel_rfl
theorem x1L : x1.L.length = 0 := by kernel_rfl
theorem x2W : x2.M.W.length = 140 := by kernel_rfl
theorem x2G : x2.M.G.length = 4 := by kernel_rfl
theorem x2B : x2.M.bad = false := by kernel_rfl
theorem x2C : x2.C.length = 2 := by kernel_rfl
theorem x2L : x2.L.length = 0 := by kernel_rfl
theorem x3W : x3.M.W.length = 140 := by kernel_rfl
theorem x3G : x3.M.G.length = 4 := by kernel_rfl
theorem x3B : x3.M.bad = false := by kernel_rfl
theorem x3C : x3.C.length = 2 := by kernel_rfl
theorem x3L : x3.L.length = 0 := by kernel_rfl
theorem x4W : x4.M.W.length = 140 := by kernel_rfl
theorem x4G : x4.M.G.length = 4 := by kernel_rfl
theorem x4B : x4.M.bad = false := by kernel_rfl
theorem x4C : x4.C.length = 2 := by kernel_rfl
theorem x4L : x4.L.length = 1 := by kernel_rfl
theorem x1F : ∀ (i : Nat) c, x1.C[i]? = some c → c.F.length ≤ 100000 := fun i c hi => by
  have h : (x1.C.all fun c => decide (c.F.length ≤ 100000)) = true := by kernel_rfl
  have := List.all_eq_true.1 h c (List.mem_of_getElem? hi)
  simpa using this
theorem x31 : x3.C[1]? = some k31 := by kernel_rfl
theorem k31V : k31.V = 8 := by kernel_rfl
theorem k31E : k31.E = 3 := by kernel_rfl
theorem x40 : x4.L[0]? = some ⟨0, 1, 2, 3, 4⟩ := by kernel_rfl
theorem y1op : y1.op = 3 := by kernel_rfl
theorem y1R : gi y1.R 0 = 7 := by kernel_rfl
theorem y2op : y2.op = 4 := by kernel_rfl
theorem is1 : (topD x1 1).isSome = true := by kernel_rfl
theorem is2 : (topD x2 1).isSome = true := by kernel_rfl
theorem is3 : (topD x3 1).isSome = false := by kernel_rfl
theorem ok0 : newSE 2 3 = 0 := by kernel_rfl
theorem r3 : rightS x3 = true := by kernel_rfl
theorem s03 : sameS x0 x3 = false := by kernel_rfl
theorem e44 : sameE ⟨0, 1, 2, 3, 4⟩ ⟨0, 1, 2, 3, 4⟩ = true := by kernel_rfl
theorem g4_frame (N : Nat → Prop) (w : World) : IsFrame N w (.agg #[.int .i64 4, .int .i64 0, .int .i64 0, .int .i64 0, .int .i64 0, .int .i64 0, .int .i64 0, .int .i64 0, .int .i64 0, .int .i64 0, .slice none 0 0]) g4 :=
  ⟨_, rfl, rfl, .slice none 0 0, rfl, none, 0, rfl, by simp [g4], by omega, fun _ => rfl, fun i hi => by simp [g4] at hi⟩
theorem one_int {w : World} {b : Nat} {x : Int} {t : TypeId} (h : Box w b #[.int .i64 x] t) : IsInts no w (.slice (some ⟨b, 0, none⟩) 1 1) [x] :=
  ⟨_, _, rfl, by simp, by omega, fun e => (by cases e), fun i hi => ⟨b, 0, rfl, h.lt, id, by
    obtain rfl : i = 0 := by simpa using hi
    exact h.cell rfl⟩⟩
set_option maxHeartbeats 4000000 in
set_option maxRecDepth 100000 in
theorem shown3_ (w : World) : Gives Proofs.Try.prog 73 #[] w (eqv (.bool true)) := by
  go_enter Proofs.Try.func73, Proofs.Try.ntmps73
  go_wp2_with (fail)
  go_at_call 75
  refine (sysNew_ no 2 3 _ no_lt).calls.mono ?_
  rintro e w1 ⟨_, rfl, hb1, u, rfl, hus0⟩
  rw [ok0]
  have hus : IsSys no w1 _ x0 := hus0
  obtain ⟨s1, s2, s3, s4, s5, s6, s7, s8, rfl, sw, sg, sc, sl⟩ := hus.lit x0W x0G x0B x0C x0L
  have Bi0 := Box.two w1 #[.slice s1 140 s2, .slice s3 4 s4, .bool false, .slice s5 2 s6, .slice s7 0 s8] #[.int .i64 7] 83 3
  go_wp2_with (fail)
  go_at_call 84
  refine (call_ no _ _ x0 1 3 [7] _ ((IsSys.mk x0B.symm sw sg sc sl : IsSys no w1 (.agg #[.slice s1 140 s2, .slice s3 4 s4, .bool false, .slice s5 2 s6, .slice s7 0 s8]) x0).ext (by with_reducible (repeat (first | assumption | exact Ext.refl _ | refine Ext.alloc' ?_ _ | refine Ext.store0 ?_ _ _ | refine Ext.storek ?_ _ _ _ | refine Ext.stores0 ?_ ?_ _ _ | refine Ext.storesk ?_ ?_ _ _ _ | refine Ext.drewN' ?_ _ | refine Ext.drew' ?_ | refine Ext.trans ?_ (by assumption))))) (one_int Bi0) no_lt (by rw [x0C]; decide) (by decide)).calls.mono ?_
  rintro e w2 ⟨_, rfl, hb2, huc0⟩
  have huc : IsSys no w2 _ x1 := huc0
  obtain ⟨c1, c2, c3, c4, c5, c6, c7, c8, rfl, cw, cg, cc, cl⟩ := huc.lit x1W x1G x1B x1C x1L
  have Bs_2 : Box w2 (w1.heap.size) #[.slice s1 140 s2, .slice s3 4 s4, .bool false, .slice s5 2 s6, .slice s7 0 s8] 83 := ((Box.new _ _ _).alloc _).ext hb2
  have Bi_2 : Box w2 (w1.heap.size + 1) #[.int .i64 7] 3 := (Box.two _ _ _ _ _).ext hb2
  obtain ⟨cs0, cs1, cs2, cs3, cs4, ds0, ds1, ds2, ds3, ds4⟩ := cells5 Bs_2
  have zs : w1.heap.size < w2.heap.size := Bs_2.lt
  obtain ⟨ci0, di0⟩ := cells1 Bi_2
  have zi : w1.heap.size + 1 < w2.heap.size := Bi_2.lt
  go_wp2_with (fail)
  go_at_call 81
  refine (top_ no _ x1 1 _ ((IsSys.mk x1B.symm cw cg cc cl : IsSys no w2 (.agg #[.slice c1 140 c2, .slice c3 4 c4, .bool false, .slice c5 2 c6, .slice c7 0 c8]) x1).ext (by with_reducible (repeat (first | assumption | exact Ext.refl _ | refine Ext.alloc' ?_ _ | refine Ext.store0 ?_ _ _ | refine Ext.storek ?_ _ _ _ | refine Ext.stores0 ?_ ?_ _ _ | refine Ext.storesk ?_ ?_ _ _ _ | refine Ext.drewN' ?_ _ | refine Ext.drew' ?_ | refine Ext.trans ?_ (by assumption)))))).calls.mono ?_
  rintro e w3 ⟨_, rfl, hb3, u, rfl, huf0⟩
  rw [is1]
  have huf : IsFrame no w3 u y1 := huf0
  obtain ⟨fa, fb, rfl, f8, fs⟩ := huf.opened
  rw [y1op, y1R]
  have Bs_3 := Bs_2.ext (show Ext w2 w3 from (by with_reducible (repeat (first | assumption | exact Ext.refl _ | refine Ext.alloc' ?_ _ | refine Ext.store0 ?_ _ _ | refine Ext.storek ?_ _ _ _ | refine Ext.stores0 ?_ ?_ _ _ | refine Ext.storesk ?_ ?_ _ _ _ | refine Ext.drewN' ?_ _ | refine Ext.drew' ?_ | refine Ext.trans ?_ (by assumption)))))
  have Bi_3 := Bi_2.ext (show Ext w2 w3 from (by with_reducible (repeat (first | assumption | exact Ext.refl _ | refine Ext.alloc' ?_ _ | refine Ext.store0 ?_ _ _ | refine Ext.storek ?_ _ _ _ | refine Ext.stores0 ?_ ?_ _ _ | refine Ext.storesk ?_ ?_ _ _ _ | refine Ext.drewN' ?_ _ | refine Ext.drew' ?_ | refine Ext.trans ?_ (by assumption)))))
  clear Bs_2 cs0 cs1 cs2 cs3 cs4 ds0 ds1 ds2 ds3 ds4 Bi_2 ci0 di0
  have Bc_3 : Box w3 (w2.heap.size) #[.slice c1 140 c2, .slice c3 4 c4, .bool false, .slice c5 2 c6, .slice c7 0 c8] 83 := (Box.new _ _ _).ext hb3
  obtain ⟨cs0, cs1, cs2, cs3, cs4, ds0, ds1, ds2, ds3, ds4⟩ := cells5 Bs_3
  have zs : w1.heap.size < w3.heap.size := Bs_3.lt
  obtain ⟨ci0, di0⟩ := cells1 Bi_3
  have zi : w1.heap.size + 1 < w3.heap.size := Bi_3.lt
  obtain ⟨cc0, cc1, cc2, cc3, cc4, dc0, dc1, dc2, dc3, dc4⟩ := cells5 Bc_3
  have zc : w2.heap.size < w3.heap.size := Bc_3.lt
  go_wp2_with (fail)
  go_at_call 85
  refine (set_ no _ _ x1 1 g4 _ ((IsSys.mk x1B.symm cw cg cc cl : IsSys no w2 (.agg #[.slice c1 140 c2, .slice c3 4 c4, .bool false, .slice c5 2 c6, .slice c7 0 c8]) x1).ext (by with_reducible (repeat (first | assumption | exact Ext.refl _ | refine Ext.alloc' ?_ _ | refine Ext.store0 ?_ _ _ | refine Ext.storek ?_ _ _ _ | refine Ext.stores0 ?_ ?_ _ _ | refine Ext.storesk ?_ ?_ _ _ _ | refine Ext.drewN' ?_ _ | refine Ext.drew' ?_ | refine Ext.trans ?_ (by assumption))))) (g4_frame no _) no_lt (by rw [x1C]; decide) x1F).calls.mono ?_
  rintro e w4 ⟨_, rfl, hb4, hug0⟩
  have hug : IsSys no w4 _ x2 := hug0
  obtain ⟨g1, g2, g3, g4, g5, g6, g7, g8, rfl, gw, gg, gc, gl⟩ := hug.lit x2W x2G x2B x2C x2L
  have Bs_4 := Bs_3.ext (show Ext w3 w4 from (by with_reducible (repeat (first | assumption | exact Ext.refl _ | refine Ext.alloc' ?_ _ | refine Ext.store0 ?_ _ _ | refine Ext.storek ?_ _ _ _ | refine Ext.stores0 ?_ ?_ _ _ | refine Ext.storesk ?_ ?_ _ _ _ | refine Ext.drewN' ?_ _ | refine Ext.drew' ?_ | refine Ext.trans ?_ (by assumption)))))
  have Bi_4 := Bi_3.ext (show Ext w3 w4 from (by with_reducible (repeat (first | assumption | exact Ext.refl _ | refine Ext.alloc' ?_ _ | refine Ext.store0 ?_ _ _ | refine Ext.storek ?_ _ _ _ | refine Ext.stores0 ?_ ?_ _ _ | refine Ext.storesk ?_ ?_ _ _ _ | refine Ext.drewN' ?_ _ | refine Ext.drew' ?_ | refine Ext.trans ?_ (by assumption)))))
  have Bc_4 := Bc_3.ext (show Ext w3 w4 from (by with_reducible (repeat (first | assumption | exact Ext.refl _ | refine Ext.alloc' ?_ _ | refine Ext.store0 ?_ _ _ | refine Ext.storek ?_ _ _ _ | refine Ext.stores0 ?_ ?_ _ _ | refine Ext.storesk ?_ ?_ _ _ _ | refine Ext.drewN' ?_ _ | refine Ext.drew' ?_ | refine Ext.trans ?_ (by assumption)))))
  clear Bs_3 cs0 cs1 cs2 cs3 cs4 ds0 ds1 ds2 ds3 ds4 Bi_3 ci0 di0 Bc_3 cc0 cc1 cc2 cc3 cc4 dc0 dc1 dc2 dc3 dc4
  have Bf_4 : Box w4 (w3.heap.size) #[.int .i64 3, .int .i64 y1.pc, .int .i64 7, .int .i64 (gi y1.R 1), .int .i64 (gi y1.R 2), .int .i64 (gi y1.R 3), .int .i64 (gi y1.R 4), .int .i64 (gi y1.R 5), .int .i64 (gi y1.R 6), .int .i64 (gi y1.R 7), .slice fa y1.S.length fb] 95 := (Box.new _ _ _).ext hb4
  obtain ⟨cs0, cs1, cs2, cs3, cs4, ds0, ds1, ds2, ds3, ds4⟩ := cells5 Bs_4
  have zs : w1.heap.size < w4.heap.size := Bs_4.lt
  obtain ⟨ci0, di0⟩ := cells1 Bi_4
  have zi : w1.heap.size + 1 < w4.heap.size := Bi_4.lt
  obtain ⟨cc0, cc1, cc2, cc3, cc4, dc0, dc1, dc2, dc3, dc4⟩ := cells5 Bc_4
  have zc : w2.heap.size < w4.heap.size := Bc_4.lt
  obtain ⟨⟨cf0, cf1, cf2, cf3, cf4, cf5, cf6, cf7, cf8, cf9, cf10⟩, df0, df1, df2, df3, df4, df5, df6, df7, df8, df9, df10⟩ := cells11 Bf_4
  have zf : w3.heap.size < w4.heap.size := Bf_4.lt
  go_wp2_with (fail)
  go_at_call 81
  refine (top_ no _ x2 1 _ ((IsSys.mk x2B.symm gw gg gc gl : IsSys no w4 (.agg #[.slice g1 140 g2, .slice g3 4 g4, .bool false, .slice g5 2 g6, .slice g7 0 g8]) x2).ext (by with_reducible (repeat (first | assumption | exact Ext.refl _ | refine Ext.alloc' ?_ _ | refine Ext.store0 ?_ _ _ | refine Ext.storek ?_ _ _ _ | refine Ext.stores0 ?_ ?_ _ _ | refine Ext.storesk ?_ ?_ _ _ _ | refine Ext.drewN' ?_ _ | refine Ext.drew' ?_ | refine Ext.trans ?_ (by assumption)))))).calls.mono ?_
  rintro e w5 ⟨_, rfl, hb5, u, rfl, huh0⟩
  rw [is2]
  have huh : IsFrame no w5 u y2 := huh0
  obtain ⟨ha, hb, rfl, h8, hs⟩ := huh.opened
  rw [y2op]
  have Bs_5 := Bs_4.ext (show Ext w4 w5 from (by with_reducible (repeat (first | assumption | exact Ext.refl _ | refine Ext.alloc' ?_ _ | refine Ext.store0 ?_ _ _ | refine Ext.storek ?_ _ _ _ | refine Ext.stores0 ?_ ?_ _ _ | refine Ext.storesk ?_ ?_ _ _ _ | refine Ext.drewN' ?_ _ | refine Ext.drew' ?_ | refine Ext.trans ?_ (by assumption)))))
  have Bi_5 := Bi_4.ext (show Ext w4 w5 from (by with_reducible (repeat (first | assumption | exact Ext.refl _ | refine Ext.alloc' ?_ _ | refine Ext.store0 ?_ _ _ | refine Ext.storek ?_ _ _ _ | refine Ext.stores0 ?_ ?_ _ _ | refine Ext.storesk ?_ ?_ _ _ _ | refine Ext.drewN' ?_ _ | refine Ext.drew' ?_ | refine Ext.trans ?_ (by assumption)))))
  have Bc_5 := Bc_4.ext (show Ext w4 w5 from (by with_reducible (repeat (first | assumption | exact Ext.refl _ | refine Ext.alloc' ?_ _ | refine Ext.store0 ?_ _ _ | refine Ext.storek ?_ _ _ _ | refine Ext.stores0 ?_ ?_ _ _ | refine Ext.storesk ?_ ?_ _ _ _ | refine Ext.drewN' ?_ _ | refine Ext.drew' ?_ | refine Ext.trans ?_ (by assumption)))))
  have Bf_5 := Bf_4.ext (show Ext w4 w5 from (by with_reducible (repeat (first | assumption | exact Ext.refl _ | refine Ext.alloc' ?_ _ | refine Ext.store0 ?_ _ _ | refine Ext.storek ?_ _ _ _ | refine Ext.stores0 ?_ ?_ _ _ | refine Ext.storesk ?_ ?_ _ _ _ | refine Ext.drewN' ?_ _ | refine Ext.drew' ?_ | refine Ext.trans ?_ (by assumption)))))
  clear Bs_4 cs0 cs1 cs2 cs3 cs4 ds0 ds1 ds2 ds3 ds4 Bi_4 ci0 di0 Bc_4 cc0 cc1 cc2 cc3 cc4 dc0 dc1 dc2 dc3 dc4 Bf_4 cf0 cf1 cf2 cf3 cf4 cf5 cf6 cf7 cf8 cf9 cf10 df0 df1 df2 df3 df4 df5 df6 df7 df8 df9 df10
  have Bg_5 : Box w5 (w4.heap.size) #[.slice g1 140 g2, .slice g3 4 g4, .bool false, .slice g5 2 g6, .slice g7 0 g8] 83 := (Box.new _ _ _).ext hb5
  obtain ⟨cs0, cs1, cs2, cs3, cs4, ds0, ds1, ds2, ds3, ds4⟩ := cells5 Bs_5
  have zs : w1.heap.size < w5.heap.size := Bs_5.lt
  obtain ⟨ci0, di0⟩ := cells1 Bi_5
  have zi : w1.heap.size + 1 < w5.heap.size := Bi_5.lt
  obtain ⟨cc0, cc1, cc2, cc3, cc4, dc0, dc1, dc2, dc3, dc4⟩ := cells5 Bc_5
  have zc : w2.heap.size < w5.heap.size := Bc_5.lt
  obtain ⟨⟨cf0, cf1, cf2, cf3, cf4, cf5, cf6, cf7, cf8, cf9, cf10⟩, df0, df1, df2, df3, df4, df5, df6, df7, df8, df9, df10⟩ := cells11 Bf_5
  have zf : w3.heap.size < w5.heap.size := Bf_5.lt
  obtain ⟨cg0, cg1, cg2, cg3, cg4, dg0, dg1, dg2, dg3, dg4⟩ := cells5 Bg_5
  have zg : w4.heap.size < w5.heap.size := Bg_5.lt
  go_wp2_with (fail)
  go_at_call 86
  refine (back_ no _ x1 1 8 3 _ ((IsSys.mk x1B.symm cw cg cc cl : IsSys no w2 (.agg #[.slice c1 140 c2, .slice c3 4 c4, .bool false, .slice c5 2 c6, .slice c7 0 c8]) x1).ext (by with_reducible (repeat (first | assumption | exact Ext.refl _ | refine Ext.alloc' ?_ _ | refine Ext.store0 ?_ _ _ | refine Ext.storek ?_ _ _ _ | refine Ext.stores0 ?_ ?_ _ _ | refine Ext.storesk ?_ ?_ _ _ _ | refine Ext.drewN' ?_ _ | refine Ext.drew' ?_ | refine Ext.trans ?_ (by assumption))))) no_lt (by rw [x1C]; decide)).calls.mono ?_
  rintro e w6 ⟨_, rfl, hb6, hub0⟩
  have hub : IsSys no w6 _ x3 := hub0
  obtain ⟨b1, b2, b3, b4, b5, b6, b7, b8, rfl, bw, bg, bc, bl⟩ := hub.lit x3W x3G x3B x3C x3L
  obtain ⟨bb, ob, zaf, zcf, zar, zcr, rfl, zx, zn, _, _, _, z0, z1, z2, _⟩ := IsCores.at bc (i := 1) (c := k31) x31
  rw [k31V] at z1
  rw [k31E] at z2
  have Bs_6 := Bs_5.ext (show Ext w5 w6 from (by with_reducible (repeat (first | assumption | exact Ext.refl _ | refine Ext.alloc' ?_ _ | refine Ext.store0 ?_ _ _ | refine Ext.storek ?_ _ _ _ | refine Ext.stores0 ?_ ?_ _ _ | refine Ext.storesk ?_ ?_ _ _ _ | refine Ext.drewN' ?_ _ | refine Ext.drew' ?_ | refine Ext.trans ?_ (by assumption)))))
  have Bi_6 := Bi_5.ext (show Ext w5 w6 from (by with_reducible (repeat (first | assumption | exact Ext.refl _ | refine Ext.alloc' ?_ _ | refine Ext.store0 ?_ _ _ | refine Ext.storek ?_ _ _ _ | refine Ext.stores0 ?_ ?_ _ _ | refine Ext.storesk ?_ ?_ _ _ _ | refine Ext.drewN' ?_ _ | refine Ext.drew' ?_ | refine Ext.trans ?_ (by assumption)))))
  have Bc_6 := Bc_5.ext (show Ext w5 w6 from (by with_reducible (repeat (first | assumption | exact Ext.refl _ | refine Ext.alloc' ?_ _ | refine Ext.store0 ?_ _ _ | refine Ext.storek ?_ _ _ _ | refine Ext.stores0 ?_ ?_ _ _ | refine Ext.storesk ?_ ?_ _ _ _ | refine Ext.drewN' ?_ _ | refine Ext.drew' ?_ | refine Ext.trans ?_ (by assumption)))))
  have Bf_6 := Bf_5.ext (show Ext w5 w6 from (by with_reducible (repeat (first | assumption | exact Ext.refl _ | refine Ext.alloc' ?_ _ | refine Ext.store0 ?_ _ _ | refine Ext.storek ?_ _ _ _ | refine Ext.stores0 ?_ ?_ _ _ | refine Ext.storesk ?_ ?_ _ _ _ | refine Ext.drewN' ?_ _ | refine Ext.drew' ?_ | refine Ext.trans ?_ (by assumption)))))
  have Bg_6 := Bg_5.ext (show Ext w5 w6 from (by with_reducible (repeat (first | assumption | exact Ext.refl _ | refine Ext.alloc' ?_ _ | refine Ext.store0 ?_ _ _ | refine Ext.storek ?_ _ _ _ | refine Ext.stores0 ?_ ?_ _ _ | refine Ext.storesk ?_ ?_ _ _ _ | refine Ext.drewN' ?_ _ | refine Ext.drew' ?_ | refine Ext.trans ?_ (by assumption)))))
  clear Bs_5 cs0 cs1 cs2 cs3 cs4 ds0 ds1 ds2 ds3 ds4 Bi_5 ci0 di0 Bc_5 cc0 cc1 cc2 cc3 cc4 dc0 dc1 dc2 dc3 dc4 Bf_5 cf0 cf1 cf2 cf3 cf4 cf5 cf6 cf7 cf8 cf9 cf10 df0 df1 df2 df3 df4 df5 df6 df7 df8 df9 df10 Bg_5 cg0 cg1 cg2 cg3 cg4 dg0 dg1 dg2 dg3 dg4
  have Bh_6 : Box w6 (w5.heap.size) #[.int .i64 4, .int .i64 y2.pc, .int .i64 (gi y2.R 0), .int .i64 (gi y2.R 1), .int .i64 (gi y2.R 2), .int .i64 (gi y2.R 3), .int .i64 (gi y2.R 4), .int .i64 (gi y2.R 5), .int .i64 (gi y2.R 6), .int .i64 (gi y2.R 7), .slice ha y2.S.length hb] 95 := (Box.new _ _ _).ext hb6
  obtain ⟨cs0, cs1, cs2, cs3, cs4, ds0, ds1, ds2, ds3, ds4⟩ := cells5 Bs_6
  have zs : w1.heap.size < w6.heap.size := Bs_6.lt
  obtain ⟨ci0, di0⟩ := cells1 Bi_6
  have zi : w1.heap.size + 1 < w6.heap.size := Bi_6.lt
  obtain ⟨cc0, cc1, cc2, cc3, cc4, dc0, dc1, dc2, dc3, dc4⟩ := cells5 Bc_6
  have zc : w2.heap.size < w6.heap.size := Bc_6.lt
  obtain ⟨⟨cf0, cf1, cf2, cf3, cf4, cf5, cf6, cf7, cf8, cf9, cf10⟩, df0, df1, df2, df3, df4, df5, df6, df7, df8, df9, df10⟩ := cells11 Bf_6
  have zf : w3.heap.size < w6.heap.size := Bf_6.lt
  obtain ⟨cg0, cg1, cg2, cg3, cg4, dg0, dg1, dg2, dg3, dg4⟩ := cells5 Bg_6
  have zg : w4.heap.size < w6.heap.size := Bg_6.lt
  obtain ⟨⟨ch0, ch1, ch2, ch3, ch4, ch5, ch6, ch7, ch8, ch9, ch10⟩, dh0, dh1, dh2, dh3, dh4, dh5, dh6, dh7, dh8, dh9, dh10⟩ := cells11 Bh_6
  have zh : w5.heap.size < w6.heap.size := Bh_6.lt
  go_wp2_with (fail)
  go_at_call 81
  refine (top_ no _ x3 1 _ ((IsSys.mk x3B.symm bw bg bc bl : IsSys no w6 (.agg #[.slice b1 140 b2, .slice b3 4 b4, .bool false, .slice (some ⟨bb, ob, none⟩) 2 b6, .slice b7 0 b8]) x3).ext (by with_reducible (repeat (first | assumption | exact Ext.refl _ | refine Ext.alloc' ?_ _ | refine Ext.store0 ?_ _ _ | refine Ext.storek ?_ _ _ _ | refine Ext.stores0 ?_ ?_ _ _ | refine Ext.storesk ?_ ?_ _ _ _ | refine Ext.drewN' ?_ _ | refine Ext.drew' ?_ | refine Ext.trans ?_ (by assumption)))))).calls.mono ?_
  rintro e w7 ⟨_, rfl, hb7, u, rfl, hut0⟩
  rw [is3]
  have hut : IsFrame no w7 u y3 := hut0
  obtain ⟨ta, tb, rfl, t8, ts⟩ := hut.opened
  have Bs_7 := Bs_6.ext (show Ext w6 w7 from (by with_reducible (repeat (first | assumption | exact Ext.refl _ | refine Ext.alloc' ?_ _ | refine Ext.store0 ?_ _ _ | refine Ext.storek ?_ _ _ _ | refine Ext.stores0 ?_ ?_ _ _ | refine Ext.storesk ?_ ?_ _ _ _ | refine Ext.drewN' ?_ _ | refine Ext.drew' ?_ | refine Ext.trans ?_ (by assumption)))))
  have Bi_7 := Bi_6.ext (show Ext w6 w7 from (by with_reducible (repeat (first | assumption | exact Ext.refl _ | refine Ext.alloc' ?_ _ | refine Ext.store0 ?_ _ _ | refine Ext.storek ?_ _ _ _ | refine Ext.stores0 ?_ ?_ _ _ | refine Ext.storesk ?_ ?_ _ _ _ | refine Ext.drewN' ?_ _ | refine Ext.drew' ?_ | refine Ext.trans ?_ (by assumption)))))
  have Bc_7 := Bc_6.ext (show Ext w6 w7 from (by with_reducible (repeat (first | assumption | exact Ext.refl _ | refine Ext.alloc' ?_ _ | refine Ext.store0 ?_ _ _ | refine Ext.storek ?_ _ _ _ | refine Ext.stores0 ?_ ?_ _ _ | refine Ext.storesk ?_ ?_ _ _ _ | refine Ext.drewN' ?_ _ | refine Ext.drew' ?_ | refine Ext.trans ?_ (by assumption)))))
  have Bf_7 := Bf_6.ext (show Ext w6 w7 from (by with_reducible (repeat (first | assumption | exact Ext.refl _ | refine Ext.alloc' ?_ _ | refine Ext.store0 ?_ _ _ | refine Ext.storek ?_ _ _ _ | refine Ext.stores0 ?_ ?_ _ _ | refine Ext.storesk ?_ ?_ _ _ _ | refine Ext.drewN' ?_ _ | refine Ext.drew' ?_ | refine Ext.trans ?_ (by assumption)))))
  have Bg_7 := Bg_6.ext (show Ext w6 w7 from (by with_reducible (repeat (first | assumption | exact Ext.refl _ | refine Ext.alloc' ?_ _ | refine Ext.store0 ?_ _ _ | refine Ext.storek ?_ _ _ _ | refine Ext.stores0 ?_ ?_ _ _ | refine Ext.storesk ?_ ?_ _ _ _ | refine Ext.drewN' ?_ _ | refine Ext.drew' ?_ | refine Ext.trans ?_ (by assumption)))))
  have Bh_7 := Bh_6.ext (show Ext w6 w7 from (by with_reducible (repeat (first | assumption | exact Ext.refl _ | refine Ext.alloc' ?_ _ | refine Ext.store0 ?_ _ _ | refine Ext.storek ?_ _ _ _ | refine Ext.stores0 ?_ ?_ _ _ | refine Ext.storesk ?_ ?_ _ _ _ | refine Ext.drewN' ?_ _ | refine Ext.drew' ?_ | refine Ext.trans ?_ (by assumption)))))
  clear Bs_6 cs0 cs1 cs2 cs3 cs4 ds0 ds1 ds2 ds3 ds4 Bi_6 ci0 di0 Bc_6 cc0 cc1 cc2 cc3 cc4 dc0 dc1 dc2 dc3 dc4 Bf_6 cf0 cf1 cf2 cf3 cf4 cf5 cf6 cf7 cf8 cf9 cf10 df0 df1 df2 df3 df4 df5 df6 df7 df8 df9 df10 Bg_6 cg0 cg1 cg2 cg3 cg4 dg0 dg1 dg2 dg3 dg4 Bh_6 ch0 ch1 ch2 ch3 ch4 ch5 ch6 ch7 ch8 ch9 ch10 dh0 dh1 dh2 dh3 dh4 dh5 dh6 dh7 dh8 dh9 dh10
  have Bb_7 : Box w7 (w6.heap.size) #[.slice b1 140 b2, .slice b3 4 b4, .bool false, .slice (some ⟨bb, ob, none⟩) 2 b6, .slice b7 0 b8] 83 := (Box.new _ _ _).ext hb7
  obtain ⟨cs0, cs1, cs2, cs3, cs4, ds0, ds1, ds2, ds3, ds4⟩ := cells5 Bs_7
  have zs : w1.heap.size < w7.heap.size := Bs_7.lt
  obtain ⟨ci0, di0⟩ := cells1 Bi_7
  have zi : w1.heap.size + 1 < w7.heap.size := Bi_7.lt
  obtain ⟨cc0, cc1, cc2, cc3, cc4, dc0, dc1, dc2, dc3, dc4⟩ := cells5 Bc_7
  have zc : w2.heap.size < w7.heap.size := Bc_7.lt
  obtain ⟨⟨cf0, cf1, cf2, cf3, cf4, cf5, cf6, cf7, cf8, cf9, cf10⟩, df0, df1, df2, df3, df4, df5, df6, df7, df8, df9, df10⟩ := cells11 Bf_7
  have zf : w3.heap.size < w7.heap.size := Bf_7.lt
  obtain ⟨cg0, cg1, cg2, cg3, cg4, dg0, dg1, dg2, dg3, dg4⟩ := cells5 Bg_7
  have zg : w4.heap.size < w7.heap.size := Bg_7.lt
  obtain ⟨⟨ch0, ch1, ch2, ch3, ch4, ch5, ch6, ch7, ch8, ch9, ch10⟩, dh0, dh1, dh2, dh3, dh4, dh5, dh6, dh7, dh8, dh9, dh10⟩ := cells11 Bh_7
  have zh : w5.heap.size < w7.heap.size := Bh_7.lt
  obtain ⟨cb0, cb1, cb2, cb3, cb4, db0, db1, db2, db3, db4⟩ := cells5 Bb_7
  have zb : w6.heap.size < w7.heap.size := Bb_7.lt
  go_wp2_with (fail)
  go_at_call 87
  refine (log_ no _ x0 0 1 2 3 4 _ ((IsSys.mk x0B.symm sw sg sc sl : IsSys no w1 (.agg #[.slice s1 140 s2, .slice s3 4 s4, .bool false, .slice s5 2 s6, .slice s7 0 s8]) x0).ext (by with_reducible (repeat (first | assumption | exact Ext.refl _ | refine Ext.alloc' ?_ _ | refine Ext.store0 ?_ _ _ | refine Ext.storek ?_ _ _ _ | refine Ext.stores0 ?_ ?_ _ _ | refine Ext.storesk ?_ ?_ _ _ _ | refine Ext.drewN' ?_ _ | refine Ext.drew' ?_ | refine Ext.trans ?_ (by assumption))))) no_lt (by rw [x0L]; decide)).calls.mono ?_
  rintro e w8 ⟨_, rfl, hb8, hul0⟩
  have hul : IsSys no w8 _ x4 := hul0
  obtain ⟨l1, l2, l3, l4, l5, l6, l7, l8, rfl, lw, lg, lc, ll⟩ := hul.lit x4W x4G x4B x4C x4L
  obtain ⟨lb, lo, rfl, _, _, v0, v1, v2, v3, v4⟩ := IsEvs.at ll (i := 0) x40
  have Bs_8 := Bs_7.ext (show Ext w7 w8 from (by with_reducible (repeat (first | assumption | exact Ext.refl _ | refine Ext.alloc' ?_ _ | refine Ext.store0 ?_ _ _ | refine Ext.storek ?_ _ _ _ | refine Ext.stores0 ?_ ?_ _ _ | refine Ext.storesk ?_ ?_ _ _ _ | refine Ext.drewN' ?_ _ | refine Ext.drew' ?_ | refine Ext.trans ?_ (by assumption)))))
  have Bi_8 := Bi_7.ext (show Ext w7 w8 from (by with_reducible (repeat (first | assumption | exact Ext.refl _ | refine Ext.alloc' ?_ _ | refine Ext.store0 ?_ _ _ | refine Ext.storek ?_ _ _ _ | refine Ext.stores0 ?_ ?_ _ _ | refine Ext.storesk ?_ ?_ _ _ _ | refine Ext.drewN' ?_ _ | refine Ext.drew' ?_ | refine Ext.trans ?_ (by assumption)))))
  have Bc_8 := Bc_7.ext (show Ext w7 w8 from (by with_reducible (repeat (first | assumption | exact Ext.refl _ | refine Ext.alloc' ?_ _ | refine Ext.store0 ?_ _ _ | refine Ext.storek ?_ _ _ _ | refine Ext.stores0 ?_ ?_ _ _ | refine Ext.storesk ?_ ?_ _ _ _ | refine Ext.drewN' ?_ _ | refine Ext.drew' ?_ | refine Ext.trans ?_ (by assumption)))))
  have Bf_8 := Bf_7.ext (show Ext w7 w8 from (by with_reducible (repeat (first | assumption | exact Ext.refl _ | refine Ext.alloc' ?_ _ | refine Ext.store0 ?_ _ _ | refine Ext.storek ?_ _ _ _ | refine Ext.stores0 ?_ ?_ _ _ | refine Ext.storesk ?_ ?_ _ _ _ | refine Ext.drewN' ?_ _ | refine Ext.drew' ?_ | refine Ext.trans ?_ (by assumption)))))
  have Bg_8 := Bg_7.ext (show Ext w7 w8 from (by with_reducible (repeat (first | assumption | exact Ext.refl _ | refine Ext.alloc' ?_ _ | refine Ext.store0 ?_ _ _ | refine Ext.storek ?_ _ _ _ | refine Ext.stores0 ?_ ?_ _ _ | refine Ext.storesk ?_ ?_ _ _ _ | refine Ext.drewN' ?_ _ | refine Ext.drew' ?_ | refine Ext.trans ?_ (by assumption)))))
  have Bh_8 := Bh_7.ext (show Ext w7 w8 from (by with_reducible (repeat (first | assumption | exact Ext.refl _ | refine Ext.alloc' ?_ _ | refine Ext.store0 ?_ _ _ | refine Ext.storek ?_ _ _ _ | refine Ext.stores0 ?_ ?_ _ _ | refine Ext.storesk ?_ ?_ _ _ _ | refine Ext.drewN' ?_ _ | refine Ext.drew' ?_ | refine Ext.trans ?_ (by assumption)))))
  have Bb_8 := Bb_7.ext (show Ext w7 w8 from (by with_reducible (repeat (first | assumption | exact Ext.refl _ | refine Ext.alloc' ?_ _ | refine Ext.store0 ?_ _ _ | refine Ext.storek ?_ _ _ _ | refine Ext.stores0 ?_ ?_ _ _ | refine Ext.storesk ?_ ?_ _ _ _ | refine Ext.drewN' ?_ _ | refine Ext.drew' ?_ | refine Ext.trans ?_ (by assumption)))))
  clear Bs_7 cs0 cs1 cs2 cs3 cs4 ds0 ds1 ds2 ds3 ds4 Bi_7 ci0 di0 Bc_7 cc0 cc1 cc2 cc3 cc4 dc0 dc1 dc2 dc3 dc4 Bf_7 cf0 cf1 cf2 cf3 cf4 cf5 cf6 cf7 cf8 cf9 cf10 df0 df1 df2 df3 df4 df5 df6 df7 df8 df9 df10 Bg_7 cg0 cg1 cg2 cg3 cg4 dg0 dg1 dg2 dg3 dg4 Bh_7 ch0 ch1 ch2 ch3 ch4 ch5 ch6 ch7 ch8 ch9 ch10 dh0 dh1 dh2 dh3 dh4 dh5 dh6 dh7 dh8 dh9 dh10 Bb_7 cb0 cb1 cb2 cb3 cb4 db0 db1 db2 db3 db4
  have Bt_8 : Box w8 (w7.heap.size) #[.int .i64 y3.op, .int .i64 y3.pc, .int .i64 (gi y3.R 0), .int .i64 (gi y3.R 1), .int .i64 (gi y3.R 2), .int .i64 (gi y3.R 3), .int .i64 (gi y3.R 4), .int .i64 (gi y3.R 5), .int .i64 (gi y3.R 6), .int .i64 (gi y3.R 7), .slice ta y3.S.length tb] 95 := (Box.new _ _ _).ext hb8
  obtain ⟨cs0, cs1, cs2, cs3, cs4, ds0, ds1, ds2, ds3, ds4⟩ := cells5 Bs_8
  have zs : w1.heap.size < w8.heap.size := Bs_8.lt
  obtain ⟨ci0, di0⟩ := cells1 Bi_8
  have zi : w1.heap.size + 1 < w8.heap.size := Bi_8.lt
  obtain ⟨cc0, cc1, cc2, cc3, cc4, dc0, dc1, dc2, dc3, dc4⟩ := cells5 Bc_8
  have zc : w2.heap.size < w8.heap.size := Bc_8.lt
  obtain ⟨⟨cf0, cf1, cf2, cf3, cf4, cf5, cf6, cf7, cf8, cf9, cf10⟩, df0, df1, df2, df3, df4, df5, df6, df7, df8, df9, df10⟩ := cells11 Bf_8
  have zf : w3.heap.size < w8.heap.size := Bf_8.lt
  obtain ⟨cg0, cg1, cg2, cg3, cg4, dg0, dg1, dg2, dg3, dg4⟩ := cells5 Bg_8
  have zg : w4.heap.size < w8.heap.size := Bg_8.lt
  obtain ⟨⟨ch0, ch1, ch2, ch3, ch4, ch5, ch6, ch7, ch8, ch9, ch10⟩, dh0, dh1, dh2, dh3, dh4, dh5, dh6, dh7, dh8, dh9, dh10⟩ := cells11 Bh_8
  have zh : w5.heap.size < w8.heap.size := Bh_8.lt
  obtain ⟨cb0, cb1, cb2, cb3, cb4, db0, db1, db2, db3, db4⟩ := cells5 Bb_8
  have zb : w6.heap.size < w8.heap.size := Bb_8.lt
  obtain ⟨⟨ct0, ct1, ct2, ct3, ct4, ct5, ct6, ct7, ct8, ct9, ct10⟩, dt0, dt1, dt2, dt3, dt4, dt5, dt6, dt7, dt8, dt9, dt10⟩ := cells11 Bt_8
  have zt : w7.heap.size < w8.heap.size := Bt_8.lt
  have zz : bb < w8.heap.size := World.block_lt_of_cell? _ _ (cell_ext z1 (show Ext w6 w8 from (by with_reducible (repeat (first | assumption | exact Ext.refl _ | refine Ext.alloc' ?_ _ | refine Ext.store0 ?_ _ _ | refine Ext.storek ?_ _ _ _ | refine Ext.stores0 ?_ ?_ _ _ | refine Ext.storesk ?_ ?_ _ _ _ | refine Ext.drewN' ?_ _ | refine Ext.drew' ?_ | refine Ext.trans ?_ (by assumption))))))
  have zl : lb < w8.heap.size := World.block_lt_of_cell? _ _ v0
  have z1 := cell_ext z1 (show Ext w6 w8 from (by with_reducible (repeat (first | assumption | exact Ext.refl _ | refine Ext.alloc' ?_ _ | refine Ext.store0 ?_ _ _ | refine Ext.storek ?_ _ _ _ | refine Ext.stores0 ?_ ?_ _ _ | refine Ext.storesk ?_ ?_ _ _ _ | refine Ext.drewN' ?_ _ | refine Ext.drew' ?_ | refine Ext.trans ?_ (by assumption)))))
  have z2 := cell_ext z2 (show Ext w6 w8 from (by with_reducible (repeat (first | assumption | exact Ext.refl _ | refine Ext.alloc' ?_ _ | refine Ext.store0 ?_ _ _ | refine Ext.storek ?_ _ _ _ | refine Ext.stores0 ?_ ?_ _ _ | refine Ext.storesk ?_ ?_ _ _ _ | refine Ext.drewN' ?_ _ | refine Ext.drew' ?_ | refine Ext.trans ?_ (by assumption)))))
  simp at z1 z2 v0 v1 v2 v3 v4
  go_wp2_with (fail)
  go_at_call 79
  refine (sysRight_ no _ x3 _ ((IsSys.mk x3B.symm bw bg bc bl : IsSys no w6 (.agg #[.slice b1 140 b2, .slice b3 4 b4, .bool false, .slice (some ⟨bb, ob, none⟩) 2 b6, .slice b7 0 b8]) x3).ext (by with_reducible (repeat (first | assumption | exact Ext.refl _ | refine Ext.alloc' ?_ _ | refine Ext.store0 ?_ _ _ | refine Ext.storek ?_ _ _ _ | refine Ext.stores0 ?_ ?_ _ _ | refine Ext.storesk ?_ ?_ _ _ _ | refine Ext.drewN' ?_ _ | refine Ext.drew' ?_ | refine Ext.trans ?_ (by assumption)))))).calls.mono ?_
  rintro e w9 ⟨_, rfl, hb9, rfl⟩
  rw [r3]
  have Bs_9 := Bs_8.ext (show Ext w8 w9 from (by with_reducible (repeat (first | assumption | exact Ext.refl _ | refine Ext.alloc' ?_ _ | refine Ext.store0 ?_ _ _ | refine Ext.storek ?_ _ _ _ | refine Ext.stores0 ?_ ?_ _ _ | refine Ext.storesk ?_ ?_ _ _ _ | refine Ext.drewN' ?_ _ | refine Ext.drew' ?_ | refine Ext.trans ?_ (by assumption)))))
  have Bi_9 := Bi_8.ext (show Ext w8 w9 from (by with_reducible (repeat (first | assumption | exact Ext.refl _ | refine Ext.alloc' ?_ _ | refine Ext.store0 ?_ _ _ | refine Ext.storek ?_ _ _ _ | refine Ext.stores0 ?_ ?_ _ _ | refine Ext.storesk ?_ ?_ _ _ _ | refine Ext.drewN' ?_ _ | refine Ext.drew' ?_ | refine Ext.trans ?_ (by assumption)))))
  have Bc_9 := Bc_8.ext (show Ext w8 w9 from (by with_reducible (repeat (first | assumption | exact Ext.refl _ | refine Ext.alloc' ?_ _ | refine Ext.store0 ?_ _ _ | refine Ext.storek ?_ _ _ _ | refine Ext.stores0 ?_ ?_ _ _ | refine Ext.storesk ?_ ?_ _ _ _ | refine Ext.drewN' ?_ _ | refine Ext.drew' ?_ | refine Ext.trans ?_ (by assumption)))))
  have Bf_9 := Bf_8.ext (show Ext w8 w9 from (by with_reducible (repeat (first | assumption | exact Ext.refl _ | refine Ext.alloc' ?_ _ | refine Ext.store0 ?_ _ _ | refine Ext.storek ?_ _ _ _ | refine Ext.stores0 ?_ ?_ _ _ | refine Ext.storesk ?_ ?_ _ _ _ | refine Ext.drewN' ?_ _ | refine Ext.drew' ?_ | refine Ext.trans ?_ (by assumption)))))
  have Bg_9 := Bg_8.ext (show Ext w8 w9 from (by with_reducible (repeat (first | assumption | exact Ext.refl _ | refine Ext.alloc' ?_ _ | refine Ext.store0 ?_ _ _ | refine Ext.storek ?_ _ _ _ | refine Ext.stores0 ?_ ?_ _ _ | refine Ext.storesk ?_ ?_ _ _ _ | refine Ext.drewN' ?_ _ | refine Ext.drew' ?_ | refine Ext.trans ?_ (by assumption)))))
  have Bh_9 := Bh_8.ext (show Ext w8 w9 from (by with_reducible (repeat (first | assumption | exact Ext.refl _ | refine Ext.alloc' ?_ _ | refine Ext.store0 ?_ _ _ | refine Ext.storek ?_ _ _ _ | refine Ext.stores0 ?_ ?_ _ _ | refine Ext.storesk ?_ ?_ _ _ _ | refine Ext.drewN' ?_ _ | refine Ext.drew' ?_ | refine Ext.trans ?_ (by assumption)))))
  have Bb_9 := Bb_8.ext (show Ext w8 w9 from (by with_reducible (repeat (first | assumption | exact Ext.refl _ | refine Ext.alloc' ?_ _ | refine Ext.store0 ?_ _ _ | refine Ext.storek ?_ _ _ _ | refine Ext.stores0 ?_ ?_ _ _ | refine Ext.storesk ?_ ?_ _ _ _ | refine Ext.drewN' ?_ _ | refine Ext.drew' ?_ | refine Ext.trans ?_ (by assumption)))))
  have Bt_9 := Bt_8.ext (show Ext w8 w9 from (by with_reducible (repeat (first | assumption | exact Ext.refl _ | refine Ext.alloc' ?_ _ | refine Ext.store0 ?_ _ _ | refine Ext.storek ?_ _ _ _ | refine Ext.stores0 ?_ ?_ _ _ | refine Ext.storesk ?_ ?_ _ _ _ | refine Ext.drewN' ?_ _ | refine Ext.drew' ?_ | refine Ext.trans ?_ (by assumption)))))
  clear Bs_8 cs0 cs1 cs2 cs3 cs4 ds0 ds1 ds2 ds3 ds4 Bi_8 ci0 di0 Bc_8 cc0 cc1 cc2 cc3 cc4 dc0 dc1 dc2 dc3 dc4 Bf_8 cf0 cf1 cf2 cf3 cf4 cf5 cf6 cf7 cf8 cf9 cf10 df0 df1 df2 df3 df4 df5 df6 df7 df8 df9 df10 Bg_8 cg0 cg1 cg2 cg3 cg4 dg0 dg1 dg2 dg3 dg4 Bh_8 ch0 ch1 ch2 ch3 ch4 ch5 ch6 ch7 ch8 ch9 ch10 dh0 dh1 dh2 dh3 dh4 dh5 dh6 dh7 dh8 dh9 dh10 Bb_8 cb0 cb1 cb2 cb3 cb4 db0 db1 db2 db3 db4 Bt_8 ct0 ct1 ct2 ct3 ct4 ct5 ct6 ct7 ct8 ct9 ct10 dt0 dt1 dt2 dt3 dt4 dt5 dt6 dt7 dt8 dt9 dt10
  have Bl_9 : Box w9 (w8.heap.size) #[.slice l1 140 l2, .slice l3 4 l4, .bool false, .slice l5 2 l6, .slice (some ⟨lb, lo, none⟩) 1 l8] 83 := (Box.new _ _ _).ext hb9
  obtain ⟨cs0, cs1, cs2, cs3, cs4, ds0, ds1, ds2, ds3, ds4⟩ := cells5 Bs_9
  have zs : w1.heap.size < w9.heap.size := Bs_9.lt
  obtain ⟨ci0, di0⟩ := cells1 Bi_9
  have zi : w1.heap.size + 1 < w9.heap.size := Bi_9.lt
  obtain ⟨cc0, cc1, cc2, cc3, cc4, dc0, dc1, dc2, dc3, dc4⟩ := cells5 Bc_9
  have zc : w2.heap.size < w9.heap.size := Bc_9.lt
  obtain ⟨⟨cf0, cf1, cf2, cf3, cf4, cf5, cf6, cf7, cf8, cf9, cf10⟩, df0, df1, df2, df3, df4, df5, df6, df7, df8, df9, df10⟩ := cells11 Bf_9
  have zf : w3.heap.size < w9.heap.size := Bf_9.lt
  obtain ⟨cg0, cg1, cg2, cg3, cg4, dg0, dg1, dg2, dg3, dg4⟩ := cells5 Bg_9
  have zg : w4.heap.size < w9.heap.size := Bg_9.lt
  obtain ⟨⟨ch0, ch1, ch2, ch3, ch4, ch5, ch6, ch7, ch8, ch9, ch10⟩, dh0, dh1, dh2, dh3, dh4, dh5, dh6, dh7, dh8, dh9, dh10⟩ := cells11 Bh_9
  have zh : w5.heap.size < w9.heap.size := Bh_9.lt
  obtain ⟨cb0, cb1, cb2, cb3, cb4, db0, db1, db2, db3, db4⟩ := cells5 Bb_9
  have zb : w6.heap.size < w9.heap.size := Bb_9.lt
  obtain ⟨⟨ct0, ct1, ct2, ct3, ct4, ct5, ct6, ct7, ct8, ct9, ct10⟩, dt0, dt1, dt2, dt3, dt4, dt5, dt6, dt7, dt8, dt9, dt10⟩ := cells11 Bt_9
  have zt : w7.heap.size < w9.heap.size := Bt_9.lt
  obtain ⟨cl0, cl1, cl2, cl3, cl4, dl0, dl1, dl2, dl3, dl4⟩ := cells5 Bl_9
  have zl : w8.heap.size < w9.heap.size := Bl_9.lt
  go_wp2_with (fail)
  go_at_call 80
  refine (sysSame_ no _ _ x0 x3 _ ((IsSys.mk x0B.symm sw sg sc sl : IsSys no w1 (.agg #[.slice s1 140 s2, .slice s3 4 s4, .bool false, .slice s5 2 s6, .slice s7 0 s8]) x0).ext (by with_reducible (repeat (first | assumption | exact Ext.refl _ | refine Ext.alloc' ?_ _ | refine Ext.store0 ?_ _ _ | refine Ext.storek ?_ _ _ _ | refine Ext.stores0 ?_ ?_ _ _ | refine Ext.storesk ?_ ?_ _ _ _ | refine Ext.drewN' ?_ _ | refine Ext.drew' ?_ | refine Ext.trans ?_ (by assumption))))) ((IsSys.mk x3B.symm bw bg bc bl : IsSys no w6 (.agg #[.slice b1 140 b2, .slice b3 4 b4, .bool false, .slice (some ⟨bb, ob, none⟩) 2 b6, .slice b7 0 b8]) x3).ext (by with_reducible (repeat (first | assumption | exact Ext.refl _ | refine Ext.alloc' ?_ _ | refine Ext.store0 ?_ _ _ | refine Ext.storek ?_ _ _ _ | refine Ext.stores0 ?_ ?_ _ _ | refine Ext.storesk ?_ ?_ _ _ _ | refine Ext.drewN' ?_ _ | refine Ext.drew' ?_ | refine Ext.trans ?_ (by assumption)))))).calls.mono ?_
  rintro e w10 ⟨_, rfl, hb10, rfl⟩
  rw [s03]
  have Bs_10 := Bs_9.ext (show Ext w9 w10 from (by with_reducible (repeat (first | assumption | exact Ext.refl _ | refine Ext.alloc' ?_ _ | refine Ext.store0 ?_ _ _ | refine Ext.storek ?_ _ _ _ | refine Ext.stores0 ?_ ?_ _ _ | refine Ext.storesk ?_ ?_ _ _ _ | refine Ext.drewN' ?_ _ | refine Ext.drew' ?_ | refine Ext.trans ?_ (by assumption)))))
  have Bi_10 := Bi_9.ext (show Ext w9 w10 from (by with_reducible (repeat (first | assumption | exact Ext.refl _ | refine Ext.alloc' ?_ _ | refine Ext.store0 ?_ _ _ | refine Ext.storek ?_ _ _ _ | refine Ext.stores0 ?_ ?_ _ _ | refine Ext.storesk ?_ ?_ _ _ _ | refine Ext.drewN' ?_ _ | refine Ext.drew' ?_ | refine Ext.trans ?_ (by assumption)))))
  have Bc_10 := Bc_9.ext (show Ext w9 w10 from (by with_reducible (repeat (first | assumption | exact Ext.refl _ | refine Ext.alloc' ?_ _ | refine Ext.store0 ?_ _ _ | refine Ext.storek ?_ _ _ _ | refine Ext.stores0 ?_ ?_ _ _ | refine Ext.storesk ?_ ?_ _ _ _ | refine Ext.drewN' ?_ _ | refine Ext.drew' ?_ | refine Ext.trans ?_ (by assumption)))))
  have Bf_10 := Bf_9.ext (show Ext w9 w10 from (by with_reducible (repeat (first | assumption | exact Ext.refl _ | refine Ext.alloc' ?_ _ | refine Ext.store0 ?_ _ _ | refine Ext.storek ?_ _ _ _ | refine Ext.stores0 ?_ ?_ _ _ | refine Ext.storesk ?_ ?_ _ _ _ | refine Ext.drewN' ?_ _ | refine Ext.drew' ?_ | refine Ext.trans ?_ (by assumption)))))
  have Bg_10 := Bg_9.ext (show Ext w9 w10 from (by with_reducible (repeat (first | assumption | exact Ext.refl _ | refine Ext.alloc' ?_ _ | refine Ext.store0 ?_ _ _ | refine Ext.storek ?_ _ _ _ | refine Ext.stores0 ?_ ?_ _ _ | refine Ext.storesk ?_ ?_ _ _ _ | refine Ext.drewN' ?_ _ | refine Ext.drew' ?_ | refine Ext.trans ?_ (by assumption)))))
  have Bh_10 := Bh_9.ext (show Ext w9 w10 from (by with_reducible (repeat (first | assumption | exact Ext.refl _ | refine Ext.alloc' ?_ _ | refine Ext.store0 ?_ _ _ | refine Ext.storek ?_ _ _ _ | refine Ext.stores0 ?_ ?_ _ _ | refine Ext.storesk ?_ ?_ _ _ _ | refine Ext.drewN' ?_ _ | refine Ext.drew' ?_ | refine Ext.trans ?_ (by assumption)))))
  have Bb_10 := Bb_9.ext (show Ext w9 w10 from (by with_reducible (repeat (first | assumption | exact Ext.refl _ | refine Ext.alloc' ?_ _ | refine Ext.store0 ?_ _ _ | refine Ext.storek ?_ _ _ _ | refine Ext.stores0 ?_ ?_ _ _ | refine Ext.storesk ?_ ?_ _ _ _ | refine Ext.drewN' ?_ _ | refine Ext.drew' ?_ | refine Ext.trans ?_ (by assumption)))))
  have Bt_10 := Bt_9.ext (show Ext w9 w10 from (by with_reducible (repeat (first | assumption | exact Ext.refl _ | refine Ext.alloc' ?_ _ | refine Ext.store0 ?_ _ _ | refine Ext.storek ?_ _ _ _ | refine Ext.stores0 ?_ ?_ _ _ | refine Ext.storesk ?_ ?_ _ _ _ | refine Ext.drewN' ?_ _ | refine Ext.drew' ?_ | refine Ext.trans ?_ (by assumption)))))
  have Bl_10 := Bl_9.ext (show Ext w9 w10 from (by with_reducible (repeat (first | assumption | exact Ext.refl _ | refine Ext.alloc' ?_ _ | refine Ext.store0 ?_ _ _ | refine Ext.storek ?_ _ _ _ | refine Ext.stores0 ?_ ?_ _ _ | refine Ext.storesk ?_ ?_ _ _ _ | refine Ext.drewN' ?_ _ | refine Ext.drew' ?_ | refine Ext.trans ?_ (by assumption)))))
  clear Bs_9 cs0 cs1 cs2 cs3 cs4 ds0 ds1 ds2 ds3 ds4 Bi_9 ci0 di0 Bc_9 cc0 cc1 cc2 cc3 cc4 dc0 dc1 dc2 dc3 dc4 Bf_9 cf0 cf1 cf2 cf3 cf4 cf5 cf6 cf7 cf8 cf9 cf10 df0 df1 df2 df3 df4 df5 df6 df7 df8 df9 df10 Bg_9 cg0 cg1 cg2 cg3 cg4 dg0 dg1 dg2 dg3 dg4 Bh_9 ch0 ch1 ch2 ch3 ch4 ch5 ch6 ch7 ch8 ch9 ch10 dh0 dh1 dh2 dh3 dh4 dh5 dh6 dh7 dh8 dh9 dh10 Bb_9 cb0 cb1 cb2 cb3 cb4 db0 db1 db2 db3 db4 Bt_9 ct0 ct1 ct2 ct3 ct4 ct5 ct6 ct7 ct8 ct9 ct10 dt0 dt1 dt2 dt3 dt4 dt5 dt6 dt7 dt8 dt9 dt10 Bl_9 cl0 cl1 cl2 cl3 cl4 dl0 dl1 dl2 dl3 dl4
  obtain ⟨cs0, cs1, cs2, cs3, cs4, ds0, ds1, ds2, ds3, ds4⟩ := cells5 Bs_10
  have zs : w1.heap.size < w10.heap.size := Bs_10.lt
  obtain ⟨ci0, di0⟩ := cells1 Bi_10
  have zi : w1.heap.size + 1 < w10.heap.size := Bi_10.lt
  obtain ⟨cc0, cc1, cc2, cc3, cc4, dc0, dc1, dc2, dc3, dc4⟩ := cells5 Bc_10
  have zc : w2.heap.size < w10.heap.size := Bc_10.lt
  obtain ⟨⟨cf0, cf1, cf2, cf3, cf4, cf5, cf6, cf7, cf8, cf9, cf10⟩, df0, df1, df2, df3, df4, df5, df6, df7, df8, df9, df10⟩ := cells11 Bf_10
  have zf : w3.heap.size < w10.heap.size := Bf_10.lt
  obtain ⟨cg0, cg1, cg2, cg3, cg4, dg0, dg1, dg2, dg3, dg4⟩ := cells5 Bg_10
  have zg : w4.heap.size < w10.heap.size := Bg_10.lt
  obtain ⟨⟨ch0, ch1, ch2, ch3, ch4, ch5, ch6, ch7, ch8, ch9, ch10⟩, dh0, dh1, dh2, dh3, dh4, dh5, dh6, dh7, dh8, dh9, dh10⟩ := cells11 Bh_10
  have zh : w5.heap.size < w10.heap.size := Bh_10.lt
  obtain ⟨cb0, cb1, cb2, cb3, cb4, db0, db1, db2, db3, db4⟩ := cells5 Bb_10
  have zb : w6.heap.size < w10.heap.size := Bb_10.lt
  obtain ⟨⟨ct0, ct1, ct2, ct3, ct4, ct5, ct6, ct7, ct8, ct9, ct10⟩, dt0, dt1, dt2, dt3, dt4, dt5, dt6, dt7, dt8, dt9, dt10⟩ := cells11 Bt_10
  have zt : w7.heap.size < w10.heap.size := Bt_10.lt
  obtain ⟨cl0, cl1, cl2, cl3, cl4, dl0, dl1, dl2, dl3, dl4⟩ := cells5 Bl_10
  have zl : w8.heap.size < w10.heap.size := Bl_10.lt
  go_wp2
  go_ret
  exact ⟨_, rfl, (by with_reducible (repeat (first | assumption | exact Ext.refl _ | refine Ext.alloc' ?_ _ | refine Ext.store0 ?_ _ _ | refine Ext.storek ?_ _ _ _ | refine Ext.stores0 ?_ ?_ _ _ | refine Ext.storesk ?_ ?_ _ _ _ | refine Ext.drewN' ?_ _ | refine Ext.drew' ?_ | refine Ext.trans ?_ (by assumption)))), rfl⟩
end Go.Proofs.Ytcfbdfgondmkoaa
