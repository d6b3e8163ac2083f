/- CoreSame: its walk. -/
import Derived.Test.YtcfbdfgondmkoaaLaw3l
import Derived.Test.YtcfbdfgondmkoaaCoD
namespace Go.Proofs.Ytcfbdfgondmkoaa
open Go Go.RowKit
set_option linter.unusedSimpArgs false
set_option linter.unusedVariables false
set_option linter.unnecessarySimpa false

def zeroE : EvD := ⟨0, 0, 0, 0, 0⟩
theorem IsCores.bx {N : Nat → Prop} {w w' : World} {hi : Nat} {v : Value} {l : List CoreD} (h : IsCores (Up N w) w' v l) : IsCores (Bx N w.heap.size hi) w' v l := IsCores.less h fun _ _ hn => Up.bx hn
theorem IsCoreV.x1 {N : Nat → Prop} {w : World} {f r : Value} {c : CoreD} {v : Int} (h3 : c.X.length = 3) (hf : IsFrames N w f c.F) (hr : IsInts N w r c.Ret) : IsCoreV N w (.agg #[f, .int .i64 c.V, .int .i64 c.E, .int .i64 (gi c.X 0), .int .i64 v, .int .i64 (gi c.X 2), r]) { c with X := c.X.set 1 v } := by
  have := IsCoreV.mk (c := { c with X := c.X.set 1 v }) (by simpa using h3) hf hr
  have e0 : gi (c.X.set 1 v) 0 = gi c.X 0 := by simp [gi, List.getD_eq_getElem?_getD]
  have e1 : gi (c.X.set 1 v) 1 = v := by simp [gi, List.getD_eq_getElem?_getD, h3]
  have e2 : gi (c.X.set 1 v) 2 = gi c.X 2 := by simp [gi, List.getD_eq_getElem?_getD]
  simp only [e0, e1, e2] at this
  exact this

set_option maxHeartbeats 4000000 in
set_option maxRecDepth 100000 in
theorem coreSame_0 (aw ag al af ar : Option Addr) (cw cg cc cl bc oc cf cr k : Nat) (s t : SysD) (co : CoreD) (iv wh : Int) (w : World) (hw : IsInts no w (.slice aw s.M.W.length cw) s.M.W) (hg : IsInts no w (.slice ag s.M.G.length cg) s.M.G) (hc : IsCores no w (.slice (some ⟨bc, oc, none⟩) s.C.length cc) s.C) (hl : IsEvs no w (.slice al s.L.length cl) s.L)
    (xc : bc < w.heap.size) (hx3 : co.X.length = 3) (hf : IsFrames no w (.slice af co.F.length cf) co.F) (hr : IsInts no w (.slice ar co.Ret.length cr) co.Ret)
    (e0 : w.cell? ⟨bc, oc + k * 7, none⟩ = some (.slice af co.F.length cf))
    (e1 : w.cell? ⟨bc, oc + k * 7 + 1, none⟩ = some (.int .i64 co.V))
    (e2 : w.cell? ⟨bc, oc + k * 7 + 2, none⟩ = some (.int .i64 co.E))
    (e3 : w.cell? ⟨bc, oc + k * 7 + 3, none⟩ = some (.int .i64 (gi co.X 0)))
    (e4 : w.cell? ⟨bc, oc + k * 7 + 4, none⟩ = some (.int .i64 (gi co.X 1)))
    (e5 : w.cell? ⟨bc, oc + k * 7 + 5, none⟩ = some (.int .i64 (gi co.X 2)))
    (e6 : w.cell? ⟨bc, oc + k * 7 + 6, none⟩ = some (.slice ar co.Ret.length cr))
    (km : ∀ w', Ext w w' → Gives Proofs.Try.prog 83 #[.agg #[.slice aw s.M.W.length cw, .slice ag s.M.G.length cg, .bool s.M.bad, .slice (some ⟨bc, oc, none⟩) s.C.length cc, .slice al s.L.length cl], .int .i64 60] w' (eqv (.bool true)))
    (hi0 : 0 ≤ iv) (hi1 : iv ≤ 255) (hq0 : 0 ≤ wh) (hq1 : wh ≤ 255) (hmod : iv % (s.C.length : Int) = (k : Int)) (hq : wh % 7 = 0) (hk : k < s.C.length) (hC1 : 1 ≤ s.C.length) (hC : s.C.length ≤ 100000) (hFl : co.F.length ≤ 1000) (hRl : co.Ret.length ≤ 1000) (hLl : s.L.length ≤ 1000)
    (ht : withS (s) k ({ co with V := wrap64 (co.V + 1) }) = t) (f1 : sameS s t = false) (f2 : sameS t s = false) (f3 : sameS t t = true) :
    Gives Proofs.Try.prog 23 #[.agg #[.slice aw s.M.W.length cw, .slice ag s.M.G.length cg, .bool s.M.bad, .slice (some ⟨bc, oc, none⟩) s.C.length cc, .slice al s.L.length cl], .int .u8 iv, .int .u8 wh] w (eqv (.bool true)) := by
  have hwU := hw.up
  have hgU := hg.up
  have hcU := IsCores.less hc (M := Up no w) fun x hx hn => hn.elim (fun q => q) fun k => absurd k (by omega)
  have hlU := IsEvs.less hl (M := Up no w) fun x hx hn => hn.elim (fun q => q) fun k => absurd k (by omega)
  have hfU := IsFrames.up hf
  have hrU := hr.up
  have hk1 : (k : Int) < (s.C.length : Int) := by omega
  have hC2 : ¬ (s.C.length : Int) = 0 := by omega
  have HT := Lib.hid ht; have F1 := Lib.hid f1; have F2 := Lib.hid f2; have F3 := Lib.hid f3; have HX3 := Lib.hid hx3
  clear ht f1 f2 f3 hx3
  go_enter Proofs.Try.func23, Proofs.Try.ntmps23
  go_wp2_with (fail)
  go_at_call 73
  refine (shown3_ _).calls.mono ?_
  rintro e w1 ⟨_, rfl, hb1, rfl⟩
  have B0_1 : Box w1 (w.heap.size) #[.slice aw s.M.W.length cw, .slice ag s.M.G.length cg, .bool s.M.bad, .slice (some ⟨bc, oc, none⟩) s.C.length cc, .slice al s.L.length cl] 83 := (Box.newAt _ _ _ (by first | rfl | simp)).ext hb1
  have s1 : w.heap.size + 1 ≤ w1.heap.size := (by have h := hb1.size; first | omega | (simp at h; omega))
  obtain ⟨c0_0, c0_1, c0_2, c0_3, c0_4, d0_0, d0_1, d0_2, d0_3, d0_4⟩ := cells5 B0_1
  have z0 : w.heap.size < w1.heap.size := B0_1.lt
  go_wp2_with (fail)
  go_at_call 83
  refine (km _ (by with_reducible (repeat (first | assumption | exact Ext.refl _ | refine Ext.alloc' ?_ _ | refine Ext.store0 ?_ _ _ | refine Ext.storek ?_ _ _ _ | refine Ext.stores0 ?_ ?_ _ _ | refine Ext.storesk ?_ ?_ _ _ _ | refine Ext.drewN' ?_ _ | refine Ext.drew' ?_ | refine Ext.trans ?_ (by assumption))))).calls.mono ?_
  rintro e w2 ⟨_, rfl, hb2, rfl⟩
  have hE2 : Ext w w2 := (by with_reducible (repeat (first | assumption | exact Ext.refl _ | refine Ext.alloc' ?_ _ | refine Ext.store0 ?_ _ _ | refine Ext.storek ?_ _ _ _ | refine Ext.stores0 ?_ ?_ _ _ | refine Ext.storesk ?_ ?_ _ _ _ | refine Ext.drewN' ?_ _ | refine Ext.drew' ?_ | refine Ext.trans ?_ (by assumption))))
  have xc2 : bc < w2.heap.size := Nat.lt_of_lt_of_le xc hE2.size
  have e0a := cell_ext e0 hE2
  have e1a := cell_ext e1 hE2
  have e2a := cell_ext e2 hE2
  have e3a := cell_ext e3 hE2
  have e4a := cell_ext e4 hE2
  have e5a := cell_ext e5 hE2
  have e6a := cell_ext e6 hE2
  have B0_2 : Box w2 (w.heap.size) #[.slice aw s.M.W.length cw, .slice ag s.M.G.length cg, .bool s.M.bad, .slice (some ⟨bc, oc, none⟩) s.C.length cc, .slice al s.L.length cl] 83 := B0_1.ext hb2
  clear c0_0 c0_1 c0_2 c0_3 c0_4 d0_0 d0_1 d0_2 d0_3 d0_4 z0
  have s2 : w1.heap.size ≤ w2.heap.size := (by have h := hb2.size; first | omega | (simp at h; omega))
  obtain ⟨c0_0, c0_1, c0_2, c0_3, c0_4, d0_0, d0_1, d0_2, d0_3, d0_4⟩ := cells5 B0_2
  have z0 : w.heap.size < w2.heap.size := B0_2.lt
  go_wp2_with (fail)
  go_at_call 92
  refine (with_ (Bx no w.heap.size (w2.heap.size + 2)) _ _ (s) k ({ co with V := wrap64 (co.V + 1) }) _ (IsSys.bx (IsSys.mk rfl (IsInts.keep hwU (by with_reducible (repeat (first | assumption | exact Keep.refl _ _ | refine Keep.alloc ?_ _ | refine Keep.s ?_ (by first | assumption | exact Bx.mem (by omega) (by omega) | exact Up.mem (by omega)) | refine Keep.n ?_ (by omega) | refine Keep.ext ?_ (by assumption) | refine Keep.drew ?_)))) (IsInts.keep hgU (by with_reducible (repeat (first | assumption | exact Keep.refl _ _ | refine Keep.alloc ?_ _ | refine Keep.s ?_ (by first | assumption | exact Bx.mem (by omega) (by omega) | exact Up.mem (by omega)) | refine Keep.n ?_ (by omega) | refine Keep.ext ?_ (by assumption) | refine Keep.drew ?_)))) (IsCores.keep hcU (by with_reducible (repeat (first | assumption | exact Keep.refl _ _ | refine Keep.alloc ?_ _ | refine Keep.s ?_ (by first | assumption | exact Bx.mem (by omega) (by omega) | exact Up.mem (by omega)) | refine Keep.n ?_ (by omega) | refine Keep.ext ?_ (by assumption) | refine Keep.drew ?_)))) (IsEvs.keep hlU (by with_reducible (repeat (first | assumption | exact Keep.refl _ _ | refine Keep.alloc ?_ _ | refine Keep.s ?_ (by first | assumption | exact Bx.mem (by omega) (by omega) | exact Up.mem (by omega)) | refine Keep.n ?_ (by omega) | refine Keep.ext ?_ (by assumption) | refine Keep.drew ?_)))) : IsSys (Up no w) _ _ s)) (IsCoreV.mk (c := { co with V := wrap64 (co.V + 1) }) HX3.out (IsFrames.keep (IsFrames.bx hfU) (by with_reducible (repeat (first | assumption | exact Keep.refl _ _ | refine Keep.alloc ?_ _ | refine Keep.s ?_ (by first | assumption | exact Bx.mem (by omega) (by omega) | exact Up.mem (by omega)) | refine Keep.n ?_ (by omega) | refine Keep.ext ?_ (by assumption) | refine Keep.drew ?_)))) (IsInts.keep (IsInts.bx hrU) (by with_reducible (repeat (first | assumption | exact Keep.refl _ _ | refine Keep.alloc ?_ _ | refine Keep.s ?_ (by first | assumption | exact Bx.mem (by omega) (by omega) | exact Up.mem (by omega)) | refine Keep.n ?_ (by omega) | refine Keep.ext ?_ (by assumption) | refine Keep.drew ?_))))) (fun b hb => (by have h := hb.elim False.elim (fun q => q.2); first | omega | (simp <;> omega))) hC hk).calls.mono ?_
  rintro e w3 ⟨_, rfl, hb3, hu⟩
  rw [HT.out] at hu
  obtain ⟨r1, r2, r3, r4, r5, r6, r7, r8, rfl, rW, rG, rC, rL⟩ := hu.opened
  have B0_3 : Box w3 (w.heap.size) #[.slice aw s.M.W.length cw, .slice ag s.M.G.length cg, .bool s.M.bad, .slice (some ⟨bc, oc, none⟩) s.C.length cc, .slice al s.L.length cl] 83 := ((B0_2.alloc _).alloc _).ext hb3
  have B1_3 : Box w3 (w2.heap.size) #[.slice af co.F.length cf, .int .i64 (wrap64 (co.V + 1)), .int .i64 co.E, .int .i64 (gi co.X 0), .int .i64 (gi co.X 1), .int .i64 (gi co.X 2), .slice ar co.Ret.length cr] 116 := ((Box.newAt _ _ _ (by first | rfl | simp)).alloc _).ext hb3
  have B2_3 : Box w3 (w2.heap.size + 1) #[.slice aw s.M.W.length cw, .slice ag s.M.G.length cg, .bool s.M.bad, .slice (some ⟨bc, oc, none⟩) s.C.length cc, .slice al s.L.length cl] 83 := (Box.newAt _ _ _ (by first | rfl | simp)).ext hb3
  clear c0_0 c0_1 c0_2 c0_3 c0_4 d0_0 d0_1 d0_2 d0_3 d0_4 z0
  have s3 : w2.heap.size + 2 ≤ w3.heap.size := (by have h := hb3.size; first | omega | (simp at h; omega))
  obtain ⟨c0_0, c0_1, c0_2, c0_3, c0_4, d0_0, d0_1, d0_2, d0_3, d0_4⟩ := cells5 B0_3
  have z0 : w.heap.size < w3.heap.size := B0_3.lt
  obtain ⟨c1_0, c1_1, c1_2, c1_3, c1_4, c1_5, c1_6, d1_0, d1_1, d1_2, d1_3, d1_4, d1_5, d1_6⟩ := cells7 B1_3
  have z1 : w2.heap.size < w3.heap.size := B1_3.lt
  obtain ⟨c2_0, c2_1, c2_2, c2_3, c2_4, d2_0, d2_1, d2_2, d2_3, d2_4⟩ := cells5 B2_3
  have z2 : w2.heap.size + 1 < w3.heap.size := B2_3.lt
  go_wp2_with (fail)
  go_at_call 80
  refine (sysSame_ (Bx no w.heap.size (w2.heap.size + 2)) _ _ s t _ (IsSys.bx (IsSys.mk rfl (IsInts.keep hwU (by with_reducible (repeat (first | assumption | exact Keep.refl _ _ | refine Keep.alloc ?_ _ | refine Keep.s ?_ (by first | assumption | exact Bx.mem (by omega) (by omega) | exact Up.mem (by omega)) | refine Keep.n ?_ (by omega) | refine Keep.ext ?_ (by assumption) | refine Keep.drew ?_)))) (IsInts.keep hgU (by with_reducible (repeat (first | assumption | exact Keep.refl _ _ | refine Keep.alloc ?_ _ | refine Keep.s ?_ (by first | assumption | exact Bx.mem (by omega) (by omega) | exact Up.mem (by omega)) | refine Keep.n ?_ (by omega) | refine Keep.ext ?_ (by assumption) | refine Keep.drew ?_)))) (IsCores.keep hcU (by with_reducible (repeat (first | assumption | exact Keep.refl _ _ | refine Keep.alloc ?_ _ | refine Keep.s ?_ (by first | assumption | exact Bx.mem (by omega) (by omega) | exact Up.mem (by omega)) | refine Keep.n ?_ (by omega) | refine Keep.ext ?_ (by assumption) | refine Keep.drew ?_)))) (IsEvs.keep hlU (by with_reducible (repeat (first | assumption | exact Keep.refl _ _ | refine Keep.alloc ?_ _ | refine Keep.s ?_ (by first | assumption | exact Bx.mem (by omega) (by omega) | exact Up.mem (by omega)) | refine Keep.n ?_ (by omega) | refine Keep.ext ?_ (by assumption) | refine Keep.drew ?_)))) : IsSys (Up no w) _ _ s)) (IsSys.keep hu (by with_reducible (repeat (first | assumption | exact Keep.refl _ _ | refine Keep.alloc ?_ _ | refine Keep.s ?_ (by first | assumption | exact Bx.mem (by omega) (by omega) | exact Up.mem (by omega)) | refine Keep.n ?_ (by omega) | refine Keep.ext ?_ (by assumption) | refine Keep.drew ?_))))).calls.mono ?_
  rintro e w4 ⟨_, rfl, hb4, rfl⟩
  rw [F1.out]
  have B0_4 : Box w4 (w.heap.size) #[.slice aw s.M.W.length cw, .slice ag s.M.G.length cg, .bool s.M.bad, .slice (some ⟨bc, oc, none⟩) s.C.length cc, .slice al s.L.length cl] 83 := (((((B0_3.setOther (by first | omega | (simp <;> omega)) _).setOther (by first | omega | (simp <;> omega)) _).setOther (by first | omega | (simp <;> omega)) _).setOther (by first | omega | (simp <;> omega)) _).setOther (by first | omega | (simp <;> omega)) _).ext hb4
  have B1_4 : Box w4 (w2.heap.size) #[.slice af co.F.length cf, .int .i64 (wrap64 (co.V + 1)), .int .i64 co.E, .int .i64 (gi co.X 0), .int .i64 (gi co.X 1), .int .i64 (gi co.X 2), .slice ar co.Ret.length cr] 116 := (((((B1_3.setOther (by first | omega | (simp <;> omega)) _).setOther (by first | omega | (simp <;> omega)) _).setOther (by first | omega | (simp <;> omega)) _).setOther (by first | omega | (simp <;> omega)) _).setOther (by first | omega | (simp <;> omega)) _).ext hb4
  have B2_4 : Box w4 (w2.heap.size + 1) #[.slice r1 t.M.W.length r2, .slice r3 t.M.G.length r4, .bool t.M.bad, .slice r5 t.C.length r6, .slice r7 t.L.length r8] 83 := (((((B2_3.setCell _).setCell _).setCell _).setCell _).setCell _).ext hb4
  clear c0_0 c0_1 c0_2 c0_3 c0_4 d0_0 d0_1 d0_2 d0_3 d0_4 z0 c1_0 c1_1 c1_2 c1_3 c1_4 c1_5 c1_6 d1_0 d1_1 d1_2 d1_3 d1_4 d1_5 d1_6 z1 c2_0 c2_1 c2_2 c2_3 c2_4 d2_0 d2_1 d2_2 d2_3 d2_4 z2
  have s4 : w3.heap.size ≤ w4.heap.size := (by have h := hb4.size; first | omega | (simp at h; omega))
  obtain ⟨c0_0, c0_1, c0_2, c0_3, c0_4, d0_0, d0_1, d0_2, d0_3, d0_4⟩ := cells5 B0_4
  have z0 : w.heap.size < w4.heap.size := B0_4.lt
  obtain ⟨c1_0, c1_1, c1_2, c1_3, c1_4, c1_5, c1_6, d1_0, d1_1, d1_2, d1_3, d1_4, d1_5, d1_6⟩ := cells7 B1_4
  have z1 : w2.heap.size < w4.heap.size := B1_4.lt
  obtain ⟨c2_0, c2_1, c2_2, c2_3, c2_4, d2_0, d2_1, d2_2, d2_3, d2_4⟩ := cells5 B2_4
  have z2 : w2.heap.size + 1 < w4.heap.size := B2_4.lt
  go_wp2_with (fail)
  go_at_call 80
  refine (sysSame_ (Bx no w.heap.size (w2.heap.size + 2)) _ _ t s _ (IsSys.keep hu (by with_reducible (repeat (first | assumption | exact Keep.refl _ _ | refine Keep.alloc ?_ _ | refine Keep.s ?_ (by first | assumption | exact Bx.mem (by omega) (by omega) | exact Up.mem (by omega)) | refine Keep.n ?_ (by omega) | refine Keep.ext ?_ (by assumption) | refine Keep.drew ?_)))) (IsSys.bx (IsSys.mk rfl (IsInts.keep hwU (by with_reducible (repeat (first | assumption | exact Keep.refl _ _ | refine Keep.alloc ?_ _ | refine Keep.s ?_ (by first | assumption | exact Bx.mem (by omega) (by omega) | exact Up.mem (by omega)) | refine Keep.n ?_ (by omega) | refine Keep.ext ?_ (by assumption) | refine Keep.drew ?_)))) (IsInts.keep hgU (by with_reducible (repeat (first | assumption | exact Keep.refl _ _ | refine Keep.alloc ?_ _ | refine Keep.s ?_ (by first | assumption | exact Bx.mem (by omega) (by omega) | exact Up.mem (by omega)) | refine Keep.n ?_ (by omega) | refine Keep.ext ?_ (by assumption) | refine Keep.drew ?_)))) (IsCores.keep hcU (by with_reducible (repeat (first | assumption | exact Keep.refl _ _ | refine Keep.alloc ?_ _ | refine Keep.s ?_ (by first | assumption | exact Bx.mem (by omega) (by omega) | exact Up.mem (by omega)) | refine Keep.n ?_ (by omega) | refine Keep.ext ?_ (by assumption) | refine Keep.drew ?_)))) (IsEvs.keep hlU (by with_reducible (repeat (first | assumption | exact Keep.refl _ _ | refine Keep.alloc ?_ _ | refine Keep.s ?_ (by first | assumption | exact Bx.mem (by omega) (by omega) | exact Up.mem (by omega)) | refine Keep.n ?_ (by omega) | refine Keep.ext ?_ (by assumption) | refine Keep.drew ?_)))) : IsSys (Up no w) _ _ s))).calls.mono ?_
  rintro e w5 ⟨_, rfl, hb5, rfl⟩
  rw [F2.out]
  have B0_5 : Box w5 (w.heap.size) #[.slice aw s.M.W.length cw, .slice ag s.M.G.length cg, .bool s.M.bad, .slice (some ⟨bc, oc, none⟩) s.C.length cc, .slice al s.L.length cl] 83 := B0_4.ext hb5
  have B1_5 : Box w5 (w2.heap.size) #[.slice af co.F.length cf, .int .i64 (wrap64 (co.V + 1)), .int .i64 co.E, .int .i64 (gi co.X 0), .int .i64 (gi co.X 1), .int .i64 (gi co.X 2), .slice ar co.Ret.length cr] 116 := B1_4.ext hb5
  have B2_5 : Box w5 (w2.heap.size + 1) #[.slice r1 t.M.W.length r2, .slice r3 t.M.G.length r4, .bool t.M.bad, .slice r5 t.C.length r6, .slice r7 t.L.length r8] 83 := B2_4.ext hb5
  clear c0_0 c0_1 c0_2 c0_3 c0_4 d0_0 d0_1 d0_2 d0_3 d0_4 z0 c1_0 c1_1 c1_2 c1_3 c1_4 c1_5 c1_6 d1_0 d1_1 d1_2 d1_3 d1_4 d1_5 d1_6 z1 c2_0 c2_1 c2_2 c2_3 c2_4 d2_0 d2_1 d2_2 d2_3 d2_4 z2
  have s5 : w4.heap.size ≤ w5.heap.size := (by have h := hb5.size; first | omega | (simp at h; omega))
  obtain ⟨c0_0, c0_1, c0_2, c0_3, c0_4, d0_0, d0_1, d0_2, d0_3, d0_4⟩ := cells5 B0_5
  have z0 : w.heap.size < w5.heap.size := B0_5.lt
  obtain ⟨c1_0, c1_1, c1_2, c1_3, c1_4, c1_5, c1_6, d1_0, d1_1, d1_2, d1_3, d1_4, d1_5, d1_6⟩ := cells7 B1_5
  have z1 : w2.heap.size < w5.heap.size := B1_5.lt
  obtain ⟨c2_0, c2_1, c2_2, c2_3, c2_4, d2_0, d2_1, d2_2, d2_3, d2_4⟩ := cells5 B2_5
  have z2 : w2.heap.size + 1 < w5.heap.size := B2_5.lt
  go_wp2_with (fail)
  go_at_call 80
  refine (sysSame_ (Bx no w.heap.size (w2.heap.size + 2)) _ _ t t _ (IsSys.keep hu (by with_reducible (repeat (first | assumption | exact Keep.refl _ _ | refine Keep.alloc ?_ _ | refine Keep.s ?_ (by first | assumption | exact Bx.mem (by omega) (by omega) | exact Up.mem (by omega)) | refine Keep.n ?_ (by omega) | refine Keep.ext ?_ (by assumption) | refine Keep.drew ?_)))) (IsSys.keep hu (by with_reducible (repeat (first | assumption | exact Keep.refl _ _ | refine Keep.alloc ?_ _ | refine Keep.s ?_ (by first | assumption | exact Bx.mem (by omega) (by omega) | exact Up.mem (by omega)) | refine Keep.n ?_ (by omega) | refine Keep.ext ?_ (by assumption) | refine Keep.drew ?_))))).calls.mono ?_
  rintro e w6 ⟨_, rfl, hb6, rfl⟩
  rw [F3.out]
  have B0_6 : Box w6 (w.heap.size) #[.slice aw s.M.W.length cw, .slice ag s.M.G.length cg, .bool s.M.bad, .slice (some ⟨bc, oc, none⟩) s.C.length cc, .slice al s.L.length cl] 83 := B0_5.ext hb6
  have B1_6 : Box w6 (w2.heap.size) #[.slice af co.F.length cf, .int .i64 (wrap64 (co.V + 1)), .int .i64 co.E, .int .i64 (gi co.X 0), .int .i64 (gi co.X 1), .int .i64 (gi co.X 2), .slice ar co.Ret.length cr] 116 := B1_5.ext hb6
  have B2_6 : Box w6 (w2.heap.size + 1) #[.slice r1 t.M.W.length r2, .slice r3 t.M.G.length r4, .bool t.M.bad, .slice r5 t.C.length r6, .slice r7 t.L.length r8] 83 := B2_5.ext hb6
  clear c0_0 c0_1 c0_2 c0_3 c0_4 d0_0 d0_1 d0_2 d0_3 d0_4 z0 c1_0 c1_1 c1_2 c1_3 c1_4 c1_5 c1_6 d1_0 d1_1 d1_2 d1_3 d1_4 d1_5 d1_6 z1 c2_0 c2_1 c2_2 c2_3 c2_4 d2_0 d2_1 d2_2 d2_3 d2_4 z2
  have s6 : w5.heap.size ≤ w6.heap.size := (by have h := hb6.size; first | omega | (simp at h; omega))
  obtain ⟨c0_0, c0_1, c0_2, c0_3, c0_4, d0_0, d0_1, d0_2, d0_3, d0_4⟩ := cells5 B0_6
  have z0 : w.heap.size < w6.heap.size := B0_6.lt
  obtain ⟨c1_0, c1_1, c1_2, c1_3, c1_4, c1_5, c1_6, d1_0, d1_1, d1_2, d1_3, d1_4, d1_5, d1_6⟩ := cells7 B1_6
  have z1 : w2.heap.size < w6.heap.size := B1_6.lt
  obtain ⟨c2_0, c2_1, c2_2, c2_3, c2_4, d2_0, d2_1, d2_2, d2_3, d2_4⟩ := cells5 B2_6
  have z2 : w2.heap.size + 1 < w6.heap.size := B2_6.lt
  go_wp2
  go_ret
  exact ⟨_, rfl, (by with_reducible (repeat (first | assumption | exact Ext.refl _ | refine Ext.alloc' ?_ _ | refine Ext.store0 ?_ _ _ | refine Ext.storek ?_ _ _ _ | refine Ext.storen ?_ (by omega) | refine Ext.stores0 ?_ ?_ _ _ | refine Ext.storesk ?_ ?_ _ _ _ | refine Ext.drewN' ?_ _ | refine Ext.drew' ?_ | refine Ext.trans ?_ (by assumption)))), rfl⟩

set_option maxHeartbeats 4000000 in
set_option maxRecDepth 100000 in
theorem coreSame_1 (aw ag al af ar : Option Addr) (cw cg cc cl bc oc cf cr k : Nat) (s t : SysD) (co : CoreD) (iv wh : Int) (w : World) (hw : IsInts no w (.slice aw s.M.W.length cw) s.M.W) (hg : IsInts no w (.slice ag s.M.G.length cg) s.M.G) (hc : IsCores no w (.slice (some ⟨bc, oc, none⟩) s.C.length cc) s.C) (hl : IsEvs no w (.slice al s.L.length cl) s.L)
    (xc : bc < w.heap.size) (hx3 : co.X.length = 3) (hf : IsFrames no w (.slice af co.F.length cf) co.F) (hr : IsInts no w (.slice ar co.Ret.length cr) co.Ret)
    (e0 : w.cell? ⟨bc, oc + k * 7, none⟩ = some (.slice af co.F.length cf))
    (e1 : w.cell? ⟨bc, oc + k * 7 + 1, none⟩ = some (.int .i64 co.V))
    (e2 : w.cell? ⟨bc, oc + k * 7 + 2, none⟩ = some (.int .i64 co.E))
    (e3 : w.cell? ⟨bc, oc + k * 7 + 3, none⟩ = some (.int .i64 (gi co.X 0)))
    (e4 : w.cell? ⟨bc, oc + k * 7 + 4, none⟩ = some (.int .i64 (gi co.X 1)))
    (e5 : w.cell? ⟨bc, oc + k * 7 + 5, none⟩ = some (.int .i64 (gi co.X 2)))
    (e6 : w.cell? ⟨bc, oc + k * 7 + 6, none⟩ = some (.slice ar co.Ret.length cr))
    (km : ∀ w', Ext w w' → Gives Proofs.Try.prog 83 #[.agg #[.slice aw s.M.W.length cw, .slice ag s.M.G.length cg, .bool s.M.bad, .slice (some ⟨bc, oc, none⟩) s.C.length cc, .slice al s.L.length cl], .int .i64 60] w' (eqv (.bool true)))
    (hi0 : 0 ≤ iv) (hi1 : iv ≤ 255) (hq0 : 0 ≤ wh) (hq1 : wh ≤ 255) (hmod : iv % (s.C.length : Int) = (k : Int)) (hq : wh % 7 = 1) (hk : k < s.C.length) (hC1 : 1 ≤ s.C.length) (hC : s.C.length ≤ 100000) (hFl : co.F.length ≤ 1000) (hRl : co.Ret.length ≤ 1000) (hLl : s.L.length ≤ 1000)
    (ht : withS (s) k ({ co with E := wrap64 (co.E + 1) }) = t) (f1 : sameS s t = false) (f2 : sameS t s = false) (f3 : sameS t t = true) :
    Gives Proofs.Try.prog 23 #[.agg #[.slice aw s.M.W.length cw, .slice ag s.M.G.length cg, .bool s.M.bad, .slice (some ⟨bc, oc, none⟩) s.C.length cc, .slice al s.L.length cl], .int .u8 iv, .int .u8 wh] w (eqv (.bool true)) := by
  have hwU := hw.up
  have hgU := hg.up
  have hcU := IsCores.less hc (M := Up no w) fun x hx hn => hn.elim (fun q => q) fun k => absurd k (by omega)
  have hlU := IsEvs.less hl (M := Up no w) fun x hx hn => hn.elim (fun q => q) fun k => absurd k (by omega)
  have hfU := IsFrames.up hf
  have hrU := hr.up
  have hk1 : (k : Int) < (s.C.length : Int) := by omega
  have hC2 : ¬ (s.C.length : Int) = 0 := by omega
  have HT := Lib.hid ht; have F1 := Lib.hid f1; have F2 := Lib.hid f2; have F3 := Lib.hid f3; have HX3 := Lib.hid hx3
  clear ht f1 f2 f3 hx3
  go_enter Proofs.Try.func23, Proofs.Try.ntmps23
  go_wp2_with (fail)
  go_at_call 73
  refine (shown3_ _).calls.mono ?_
  rintro e w1 ⟨_, rfl, hb1, rfl⟩
  have B0_1 : Box w1 (w.heap.size) #[.slice aw s.M.W.length cw, .slice ag s.M.G.length cg, .bool s.M.bad, .slice (some ⟨bc, oc, none⟩) s.C.length cc, .slice al s.L.length cl] 83 := (Box.newAt _ _ _ (by first | rfl | simp)).ext hb1
  have s1 : w.heap.size + 1 ≤ w1.heap.size := (by have h := hb1.size; first | omega | (simp at h; omega))
  obtain ⟨c0_0, c0_1, c0_2, c0_3, c0_4, d0_0, d0_1, d0_2, d0_3, d0_4⟩ := cells5 B0_1
  have z0 : w.heap.size < w1.heap.size := B0_1.lt
  go_wp2_with (fail)
  go_at_call 83
  refine (km _ (by with_reducible (repeat (first | assumption | exact Ext.refl _ | refine Ext.alloc' ?_ _ | refine Ext.store0 ?_ _ _ | refine Ext.storek ?_ _ _ _ | refine Ext.stores0 ?_ ?_ _ _ | refine Ext.storesk ?_ ?_ _ _ _ | refine Ext.drewN' ?_ _ | refine Ext.drew' ?_ | refine Ext.trans ?_ (by assumption))))).calls.mono ?_
  rintro e w2 ⟨_, rfl, hb2, rfl⟩
  have hE2 : Ext w w2 := (by with_reducible (repeat (first | assumption | exact Ext.refl _ | refine Ext.alloc' ?_ _ | refine Ext.store0 ?_ _ _ | refine Ext.storek ?_ _ _ _ | refine Ext.stores0 ?_ ?_ _ _ | refine Ext.storesk ?_ ?_ _ _ _ | refine Ext.drewN' ?_ _ | refine Ext.drew' ?_ | refine Ext.trans ?_ (by assumption))))
  have xc2 : bc < w2.heap.size := Nat.lt_of_lt_of_le xc hE2.size
  have e0a := cell_ext e0 hE2
  have e1a := cell_ext e1 hE2
  have e2a := cell_ext e2 hE2
  have e3a := cell_ext e3 hE2
  have e4a := cell_ext e4 hE2
  have e5a := cell_ext e5 hE2
  have e6a := cell_ext e6 hE2
  have B0_2 : Box w2 (w.heap.size) #[.slice aw s.M.W.length cw, .slice ag s.M.G.length cg, .bool s.M.bad, .slice (some ⟨bc, oc, none⟩) s.C.length cc, .slice al s.L.length cl] 83 := B0_1.ext hb2
  clear c0_0 c0_1 c0_2 c0_3 c0_4 d0_0 d0_1 d0_2 d0_3 d0_4 z0
  have s2 : w1.heap.size ≤ w2.heap.size := (by have h := hb2.size; first | omega | (simp at h; omega))
  obtain ⟨c0_0, c0_1, c0_2, c0_3, c0_4, d0_0, d0_1, d0_2, d0_3, d0_4⟩ := cells5 B0_2
  have z0 : w.heap.size < w2.heap.size := B0_2.lt
  go_wp2_with (fail)
  go_at_call 92
  refine (with_ (Bx no w.heap.size (w2.heap.size + 2)) _ _ (s) k ({ co with E := wrap64 (co.E + 1) }) _ (IsSys.bx (IsSys.mk rfl (IsInts.keep hwU (by with_reducible (repeat (first | assumption | exact Keep.refl _ _ | refine Keep.alloc ?_ _ | refine Keep.s ?_ (by first | assumption | exact Bx.mem (by omega) (by omega) | exact Up.mem (by omega)) | refine Keep.n ?_ (by omega) | refine Keep.ext ?_ (by assumption) | refine Keep.drew ?_)))) (IsInts.keep hgU (by with_reducible (repeat (first | assumption | exact Keep.refl _ _ | refine Keep.alloc ?_ _ | refine Keep.s ?_ (by first | assumption | exact Bx.mem (by omega) (by omega) | exact Up.mem (by omega)) | refine Keep.n ?_ (by omega) | refine Keep.ext ?_ (by assumption) | refine Keep.drew ?_)))) (IsCores.keep hcU (by with_reducible (repeat (first | assumption | exact Keep.refl _ _ | refine Keep.alloc ?_ _ | refine Keep.s ?_ (by first | assumption | exact Bx.mem (by omega) (by omega) | exact Up.mem (by omega)) | refine Keep.n ?_ (by omega) | refine Keep.ext ?_ (by assumption) | refine Keep.drew ?_)))) (IsEvs.keep hlU (by with_reducible (repeat (first | assumption | exact Keep.refl _ _ | refine Keep.alloc ?_ _ | refine Keep.s ?_ (by first | assumption | exact Bx.mem (by omega) (by omega) | exact Up.mem (by omega)) | refine Keep.n ?_ (by omega) | refine Keep.ext ?_ (by assumption) | refine Keep.drew ?_)))) : IsSys (Up no w) _ _ s)) (IsCoreV.mk (c := { co with E := wrap64 (co.E + 1) }) HX3.out (IsFrames.keep (IsFrames.bx hfU) (by with_reducible (repeat (first | assumption | exact Keep.refl _ _ | refine Keep.alloc ?_ _ | refine Keep.s ?_ (by first | assumption | exact Bx.mem (by omega) (by omega) | exact Up.mem (by omega)) | refine Keep.n ?_ (by omega) | refine Keep.ext ?_ (by assumption) | refine Keep.drew ?_)))) (IsInts.keep (IsInts.bx hrU) (by with_reducible (repeat (first | assumption | exact Keep.refl _ _ | refine Keep.alloc ?_ _ | refine Keep.s ?_ (by first | assumption | exact Bx.mem (by omega) (by omega) | exact Up.mem (by omega)) | refine Keep.n ?_ (by omega) | refine Keep.ext ?_ (by assumption) | refine Keep.drew ?_))))) (fun b hb => (by have h := hb.elim False.elim (fun q => q.2); first | omega | (simp <;> omega))) hC hk).calls.mono ?_
  rintro e w3 ⟨_, rfl, hb3, hu⟩
  rw [HT.out] at hu
  obtain ⟨r1, r2, r3, r4, r5, r6, r7, r8, rfl, rW, rG, rC, rL⟩ := hu.opened
  have B0_3 : Box w3 (w.heap.size) #[.slice aw s.M.W.length cw, .slice ag s.M.G.length cg, .bool s.M.bad, .slice (some ⟨bc, oc, none⟩) s.C.length cc, .slice al s.L.length cl] 83 := ((B0_2.alloc _).alloc _).ext hb3
  have B1_3 : Box w3 (w2.heap.size) #[.slice af co.F.length cf, .int .i64 co.V, .int .i64 (wrap64 (co.E + 1)), .int .i64 (gi co.X 0), .int .i64 (gi co.X 1), .int .i64 (gi co.X 2), .slice ar co.Ret.length cr] 116 := ((Box.newAt _ _ _ (by first | rfl | simp)).alloc _).ext hb3
  have B2_3 : Box w3 (w2.heap.size + 1) #[.slice aw s.M.W.length cw, .slice ag s.M.G.length cg, .bool s.M.bad, .slice (some ⟨bc, oc, none⟩) s.C.length cc, .slice al s.L.length cl] 83 := (Box.newAt _ _ _ (by first | rfl | simp)).ext hb3
  clear c0_0 c0_1 c0_2 c0_3 c0_4 d0_0 d0_1 d0_2 d0_3 d0_4 z0
  have s3 : w2.heap.size + 2 ≤ w3.heap.size := (by have h := hb3.size; first | omega | (simp at h; omega))
  obtain ⟨c0_0, c0_1, c0_2, c0_3, c0_4, d0_0, d0_1, d0_2, d0_3, d0_4⟩ := cells5 B0_3
  have z0 : w.heap.size < w3.heap.size := B0_3.lt
  obtain ⟨c1_0, c1_1, c1_2, c1_3, c1_4, c1_5, c1_6, d1_0, d1_1, d1_2, d1_3, d1_4, d1_5, d1_6⟩ := cells7 B1_3
  have z1 : w2.heap.size < w3.heap.size := B1_3.lt
  obtain ⟨c2_0, c2_1, c2_2, c2_3, c2_4, d2_0, d2_1, d2_2, d2_3, d2_4⟩ := cells5 B2_3
  have z2 : w2.heap.size + 1 < w3.heap.size := B2_3.lt
  go_wp2_with (fail)
  go_at_call 80
  refine (sysSame_ (Bx no w.heap.size (w2.heap.size + 2)) _ _ s t _ (IsSys.bx (IsSys.mk rfl (IsInts.keep hwU (by with_reducible (repeat (first | assumption | exact Keep.refl _ _ | refine Keep.alloc ?_ _ | refine Keep.s ?_ (by first | assumption | exact Bx.mem (by omega) (by omega) | exact Up.mem (by omega)) | refine Keep.n ?_ (by omega) | refine Keep.ext ?_ (by assumption) | refine Keep.drew ?_)))) (IsInts.keep hgU (by with_reducible (repeat (first | assumption | exact Keep.refl _ _ | refine Keep.alloc ?_ _ | refine Keep.s ?_ (by first | assumption | exact Bx.mem (by omega) (by omega) | exact Up.mem (by omega)) | refine Keep.n ?_ (by omega) | refine Keep.ext ?_ (by assumption) | refine Keep.drew ?_)))) (IsCores.keep hcU (by with_reducible (repeat (first | assumption | exact Keep.refl _ _ | refine Keep.alloc ?_ _ | refine Keep.s ?_ (by first | assumption | exact Bx.mem (by omega) (by omega) | exact Up.mem (by omega)) | refine Keep.n ?_ (by omega) | refine Keep.ext ?_ (by assumption) | refine Keep.drew ?_)))) (IsEvs.keep hlU (by with_reducible (repeat (first | assumption | exact Keep.refl _ _ | refine Keep.alloc ?_ _ | refine Keep.s ?_ (by first | assumption | exact Bx.mem (by omega) (by omega) | exact Up.mem (by omega)) | refine Keep.n ?_ (by omega) | refine Keep.ext ?_ (by assumption) | refine Keep.drew ?_)))) : IsSys (Up no w) _ _ s)) (IsSys.keep hu (by with_reducible (repeat (first | assumption | exact Keep.refl _ _ | refine Keep.alloc ?_ _ | refine Keep.s ?_ (by first | assumption | exact Bx.mem (by omega) (by omega) | exact Up.mem (by omega)) | refine Keep.n ?_ (by omega) | refine Keep.ext ?_ (by assumption) | refine Keep.drew ?_))))).calls.mono ?_
  rintro e w4 ⟨_, rfl, hb4, rfl⟩
  rw [F1.out]
  have B0_4 : Box w4 (w.heap.size) #[.slice aw s.M.W.length cw, .slice ag s.M.G.length cg, .bool s.M.bad, .slice (some ⟨bc, oc, none⟩) s.C.length cc, .slice al s.L.length cl] 83 := (((((B0_3.setOther (by first | omega | (simp <;> omega)) _).setOther (by first | omega | (simp <;> omega)) _).setOther (by first | omega | (simp <;> omega)) _).setOther (by first | omega | (simp <;> omega)) _).setOther (by first | omega | (simp <;> omega)) _).ext hb4
  have B1_4 : Box w4 (w2.heap.size) #[.slice af co.F.length cf, .int .i64 co.V, .int .i64 (wrap64 (co.E + 1)), .int .i64 (gi co.X 0), .int .i64 (gi co.X 1), .int .i64 (gi co.X 2), .slice ar co.Ret.length cr] 116 := (((((B1_3.setOther (by first | omega | (simp <;> omega)) _).setOther (by first | omega | (simp <;> omega)) _).setOther (by first | omega | (simp <;> omega)) _).setOther (by first | omega | (simp <;> omega)) _).setOther (by first | omega | (simp <;> omega)) _).ext hb4
  have B2_4 : Box w4 (w2.heap.size + 1) #[.slice r1 t.M.W.length r2, .slice r3 t.M.G.length r4, .bool t.M.bad, .slice r5 t.C.length r6, .slice r7 t.L.length r8] 83 := (((((B2_3.setCell _).setCell _).setCell _).setCell _).setCell _).ext hb4
  clear c0_0 c0_1 c0_2 c0_3 c0_4 d0_0 d0_1 d0_2 d0_3 d0_4 z0 c1_0 c1_1 c1_2 c1_3 c1_4 c1_5 c1_6 d1_0 d1_1 d1_2 d1_3 d1_4 d1_5 d1_6 z1 c2_0 c2_1 c2_2 c2_3 c2_4 d2_0 d2_1 d2_2 d2_3 d2_4 z2
  have s4 : w3.heap.size ≤ w4.heap.size := (by have h := hb4.size; first | omega | (simp at h; omega))
  obtain ⟨c0_0, c0_1, c0_2, c0_3, c0_4, d0_0, d0_1, d0_2, d0_3, d0_4⟩ := cells5 B0_4
  have z0 : w.heap.size < w4.heap.size := B0_4.lt
  obtain ⟨c1_0, c1_1, c1_2, c1_3, c1_4, c1_5, c1_6, d1_0, d1_1, d1_2, d1_3, d1_4, d1_5, d1_6⟩ := cells7 B1_4
  have z1 : w2.heap.size < w4.heap.size := B1_4.lt
  obtain ⟨c2_0, c2_1, c2_2, c2_3, c2_4, d2_0, d2_1, d2_2, d2_3, d2_4⟩ := cells5 B2_4
  have z2 : w2.heap.size + 1 < w4.heap.size := B2_4.lt
  go_wp2_with (fail)
  go_at_call 80
  refine (sysSame_ (Bx no w.heap.size (w2.heap.size + 2)) _ _ t s _ (IsSys.keep hu (by with_reducible (repeat (first | assumption | exact Keep.refl _ _ | refine Keep.alloc ?_ _ | refine Keep.s ?_ (by first | assumption | exact Bx.mem (by omega) (by omega) | exact Up.mem (by omega)) | refine Keep.n ?_ (by omega) | refine Keep.ext ?_ (by assumption) | refine Keep.drew ?_)))) (IsSys.bx (IsSys.mk rfl (IsInts.keep hwU (by with_reducible (repeat (first | assumption | exact Keep.refl _ _ | refine Keep.alloc ?_ _ | refine Keep.s ?_ (by first | assumption | exact Bx.mem (by omega) (by omega) | exact Up.mem (by omega)) | refine Keep.n ?_ (by omega) | refine Keep.ext ?_ (by assumption) | refine Keep.drew ?_)))) (IsInts.keep hgU (by with_reducible (repeat (first | assumption | exact Keep.refl _ _ | refine Keep.alloc ?_ _ | refine Keep.s ?_ (by first | assumption | exact Bx.mem (by omega) (by omega) | exact Up.mem (by omega)) | refine Keep.n ?_ (by omega) | refine Keep.ext ?_ (by assumption) | refine Keep.drew ?_)))) (IsCores.keep hcU (by with_reducible (repeat (first | assumption | exact Keep.refl _ _ | refine Keep.alloc ?_ _ | refine Keep.s ?_ (by first | assumption | exact Bx.mem (by omega) (by omega) | exact Up.mem (by omega)) | refine Keep.n ?_ (by omega) | refine Keep.ext ?_ (by assumption) | refine Keep.drew ?_)))) (IsEvs.keep hlU (by with_reducible (repeat (first | assumption | exact Keep.refl _ _ | refine Keep.alloc ?_ _ | refine Keep.s ?_ (by first | assumption | exact Bx.mem (by omega) (by omega) | exact Up.mem (by omega)) | refine Keep.n ?_ (by omega) | refine Keep.ext ?_ (by assumption) | refine Keep.drew ?_)))) : IsSys (Up no w) _ _ s))).calls.mono ?_
  rintro e w5 ⟨_, rfl, hb5, rfl⟩
  rw [F2.out]
  have B0_5 : Box w5 (w.heap.size) #[.slice aw s.M.W.length cw, .slice ag s.M.G.length cg, .bool s.M.bad, .slice (some ⟨bc, oc, none⟩) s.C.length cc, .slice al s.L.length cl] 83 := B0_4.ext hb5
  have B1_5 : Box w5 (w2.heap.size) #[.slice af co.F.length cf, .int .i64 co.V, .int .i64 (wrap64 (co.E + 1)), .int .i64 (gi co.X 0), .int .i64 (gi co.X 1), .int .i64 (gi co.X 2), .slice ar co.Ret.length cr] 116 := B1_4.ext hb5
  have B2_5 : Box w5 (w2.heap.size + 1) #[.slice r1 t.M.W.length r2, .slice r3 t.M.G.length r4, .bool t.M.bad, .slice r5 t.C.length r6, .slice r7 t.L.length r8] 83 := B2_4.ext hb5
  clear c0_0 c0_1 c0_2 c0_3 c0_4 d0_0 d0_1 d0_2 d0_3 d0_4 z0 c1_0 c1_1 c1_2 c1_3 c1_4 c1_5 c1_6 d1_0 d1_1 d1_2 d1_3 d1_4 d1_5 d1_6 z1 c2_0 c2_1 c2_2 c2_3 c2_4 d2_0 d2_1 d2_2 d2_3 d2_4 z2
  have s5 : w4.heap.size ≤ w5.heap.size := (by have h := hb5.size; first | omega | (simp at h; omega))
  obtain ⟨c0_0, c0_1, c0_2, c0_3, c0_4, d0_0, d0_1, d0_2, d0_3, d0_4⟩ := cells5 B0_5
  have z0 : w.heap.size < w5.heap.size := B0_5.lt
  obtain ⟨c1_0, c1_1, c1_2, c1_3, c1_4, c1_5, c1_6, d1_0, d1_1, d1_2, d1_3, d1_4, d1_5, d1_6⟩ := cells7 B1_5
  have z1 : w2.heap.size < w5.heap.size := B1_5.lt
  obtain ⟨c2_0, c2_1, c2_2, c2_3, c2_4, d2_0, d2_1, d2_2, d2_3, d2_4⟩ := cells5 B2_5
  have z2 : w2.heap.size + 1 < w5.heap.size := B2_5.lt
  go_wp2_with (fail)
  go_at_call 80
  refine (sysSame_ (Bx no w.heap.size (w2.heap.size + 2)) _ _ t t _ (IsSys.keep hu (by with_reducible (repeat (first | assumption | exact Keep.refl _ _ | refine Keep.alloc ?_ _ | refine Keep.s ?_ (by first | assumption | exact Bx.mem (by omega) (by omega) | exact Up.mem (by omega)) | refine Keep.n ?_ (by omega) | refine Keep.ext ?_ (by assumption) | refine Keep.drew ?_)))) (IsSys.keep hu (by with_reducible (repeat (first | assumption | exact Keep.refl _ _ | refine Keep.alloc ?_ _ | refine Keep.s ?_ (by first | assumption | exact Bx.mem (by omega) (by omega) | exact Up.mem (by omega)) | refine Keep.n ?_ (by omega) | refine Keep.ext ?_ (by assumption) | refine Keep.drew ?_))))).calls.mono ?_
  rintro e w6 ⟨_, rfl, hb6, rfl⟩
  rw [F3.out]
  have B0_6 : Box w6 (w.heap.size) #[.slice aw s.M.W.length cw, .slice ag s.M.G.length cg, .bool s.M.bad, .slice (some ⟨bc, oc, none⟩) s.C.length cc, .slice al s.L.length cl] 83 := B0_5.ext hb6
  have B1_6 : Box w6 (w2.heap.size) #[.slice af co.F.length cf, .int .i64 co.V, .int .i64 (wrap64 (co.E + 1)), .int .i64 (gi co.X 0), .int .i64 (gi co.X 1), .int .i64 (gi co.X 2), .slice ar co.Ret.length cr] 116 := B1_5.ext hb6
  have B2_6 : Box w6 (w2.heap.size + 1) #[.slice r1 t.M.W.length r2, .slice r3 t.M.G.length r4, .bool t.M.bad, .slice r5 t.C.length r6, .slice r7 t.L.length r8] 83 := B2_5.ext hb6
  clear c0_0 c0_1 c0_2 c0_3 c0_4 d0_0 d0_1 d0_2 d0_3 d0_4 z0 c1_0 c1_1 c1_2 c1_3 c1_4 c1_5 c1_6 d1_0 d1_1 d1_2 d1_3 d1_4 d1_5 d1_6 z1 c2_0 c2_1 c2_2 c2_3 c2_4 d2_0 d2_1 d2_2 d2_3 d2_4 z2
  have s6 : w5.heap.size ≤ w6.heap.size := (by have h := hb6.size; first | omega | (simp at h; omega))
  obtain ⟨c0_0, c0_1, c0_2, c0_3, c0_4, d0_0, d0_1, d0_2, d0_3, d0_4⟩ := cells5 B0_6
  have z0 : w.heap.size < w6.heap.size := B0_6.lt
  obtain ⟨c1_0, c1_1, c1_2, c1_3, c1_4, c1_5, c1_6, d1_0, d1_1, d1_2, d1_3, d1_4, d1_5, d1_6⟩ := cells7 B1_6
  have z1 : w2.heap.size < w6.heap.size := B1_6.lt
  obtain ⟨c2_0, c2_1, c2_2, c2_3, c2_4, d2_0, d2_1, d2_2, d2_3, d2_4⟩ := cells5 B2_6
  have z2 : w2.heap.size + 1 < w6.heap.size := B2_6.lt
  go_wp2
  go_ret
  exact ⟨_, rfl, (by with_reducible (repeat (first | assumption | exact Ext.refl _ | refine Ext.alloc' ?_ _ | refine Ext.store0 ?_ _ _ | refine Ext.storek ?_ _ _ _ | refine Ext.storen ?_ (by omega) | refine Ext.stores0 ?_ ?_ _ _ | refine Ext.storesk ?_ ?_ _ _ _ | refine Ext.drewN' ?_ _ | refine Ext.drew' ?_ | refine Ext.trans ?_ (by assumption)))), rfl⟩

set_option maxHeartbeats 4000000 in
set_option maxRecDepth 100000 in
theorem coreSame_2 (aw ag al af ar : Option Addr) (cw cg cc cl bc oc cf cr k : Nat) (s t : SysD) (co : CoreD) (iv wh : Int) (w : World) (hw : IsInts no w (.slice aw s.M.W.length cw) s.M.W) (hg : IsInts no w (.slice ag s.M.G.length cg) s.M.G) (hc : IsCores no w (.slice (some ⟨bc, oc, none⟩) s.C.length cc) s.C) (hl : IsEvs no w (.slice al s.L.length cl) s.L)
    (xc : bc < w.heap.size) (hx3 : co.X.length = 3) (hf : IsFrames no w (.slice af co.F.length cf) co.F) (hr : IsInts no w (.slice ar co.Ret.length cr) co.Ret)
    (e0 : w.cell? ⟨bc, oc + k * 7, none⟩ = some (.slice af co.F.length cf))
    (e1 : w.cell? ⟨bc, oc + k * 7 + 1, none⟩ = some (.int .i64 co.V))
    (e2 : w.cell? ⟨bc, oc + k * 7 + 2, none⟩ = some (.int .i64 co.E))
    (e3 : w.cell? ⟨bc, oc + k * 7 + 3, none⟩ = some (.int .i64 (gi co.X 0)))
    (e4 : w.cell? ⟨bc, oc + k * 7 + 4, none⟩ = some (.int .i64 (gi co.X 1)))
    (e5 : w.cell? ⟨bc, oc + k * 7 + 5, none⟩ = some (.int .i64 (gi co.X 2)))
    (e6 : w.cell? ⟨bc, oc + k * 7 + 6, none⟩ = some (.slice ar co.Ret.length cr))
    (km : ∀ w', Ext w w' → Gives Proofs.Try.prog 83 #[.agg #[.slice aw s.M.W.length cw, .slice ag s.M.G.length cg, .bool s.M.bad, .slice (some ⟨bc, oc, none⟩) s.C.length cc, .slice al s.L.length cl], .int .i64 60] w' (eqv (.bool true)))
    (hi0 : 0 ≤ iv) (hi1 : iv ≤ 255) (hq0 : 0 ≤ wh) (hq1 : wh ≤ 255) (hmod : iv % (s.C.length : Int) = (k : Int)) (hq : wh % 7 = 2) (hk : k < s.C.length) (hC1 : 1 ≤ s.C.length) (hC : s.C.length ≤ 100000) (hFl : co.F.length ≤ 1000) (hRl : co.Ret.length ≤ 1000) (hLl : s.L.length ≤ 1000)
    (ht : withS (s) k ({ co with Ret := [] ++ co.Ret ++ [1] }) = t) (f1 : sameS s t = false) (f2 : sameS t s = false) (f3 : sameS t t = true) :
    Gives Proofs.Try.prog 23 #[.agg #[.slice aw s.M.W.length cw, .slice ag s.M.G.length cg, .bool s.M.bad, .slice (some ⟨bc, oc, none⟩) s.C.length cc, .slice al s.L.length cl], .int .u8 iv, .int .u8 wh] w (eqv (.bool true)) := by
  have hwU := hw.up
  have hgU := hg.up
  have hcU := IsCores.less hc (M := Up no w) fun x hx hn => hn.elim (fun q => q) fun k => absurd k (by omega)
  have hlU := IsEvs.less hl (M := Up no w) fun x hx hn => hn.elim (fun q => q) fun k => absurd k (by omega)
  have hfU := IsFrames.up hf
  have hrU := hr.up
  have hk1 : (k : Int) < (s.C.length : Int) := by omega
  have hC2 : ¬ (s.C.length : Int) = 0 := by omega
  have HT := Lib.hid ht; have F1 := Lib.hid f1; have F2 := Lib.hid f2; have F3 := Lib.hid f3; have HX3 := Lib.hid hx3
  clear ht f1 f2 f3 hx3
  go_enter Proofs.Try.func23, Proofs.Try.ntmps23
  go_wp2_with (fail)
  go_at_call 73
  refine (shown3_ _).calls.mono ?_
  rintro e w1 ⟨_, rfl, hb1, rfl⟩
  have B0_1 : Box w1 (w.heap.size) #[.slice aw s.M.W.length cw, .slice ag s.M.G.length cg, .bool s.M.bad, .slice (some ⟨bc, oc, none⟩) s.C.length cc, .slice al s.L.length cl] 83 := (Box.newAt _ _ _ (by first | rfl | simp)).ext hb1
  have s1 : w.heap.size + 1 ≤ w1.heap.size := (by have h := hb1.size; first | omega | (simp at h; omega))
  obtain ⟨c0_0, c0_1, c0_2, c0_3, c0_4, d0_0, d0_1, d0_2, d0_3, d0_4⟩ := cells5 B0_1
  have z0 : w.heap.size < w1.heap.size := B0_1.lt
  go_wp2_with (fail)
  go_at_call 83
  refine (km _ (by with_reducible (repeat (first | assumption | exact Ext.refl _ | refine Ext.alloc' ?_ _ | refine Ext.store0 ?_ _ _ | refine Ext.storek ?_ _ _ _ | refine Ext.stores0 ?_ ?_ _ _ | refine Ext.storesk ?_ ?_ _ _ _ | refine Ext.drewN' ?_ _ | refine Ext.drew' ?_ | refine Ext.trans ?_ (by assumption))))).calls.mono ?_
  rintro e w2 ⟨_, rfl, hb2, rfl⟩
  have hE2 : Ext w w2 := (by with_reducible (repeat (first | assumption | exact Ext.refl _ | refine Ext.alloc' ?_ _ | refine Ext.store0 ?_ _ _ | refine Ext.storek ?_ _ _ _ | refine Ext.stores0 ?_ ?_ _ _ | refine Ext.storesk ?_ ?_ _ _ _ | refine Ext.drewN' ?_ _ | refine Ext.drew' ?_ | refine Ext.trans ?_ (by assumption))))
  have xc2 : bc < w2.heap.size := Nat.lt_of_lt_of_le xc hE2.size
  have e0a := cell_ext e0 hE2
  have e1a := cell_ext e1 hE2
  have e2a := cell_ext e2 hE2
  have e3a := cell_ext e3 hE2
  have e4a := cell_ext e4 hE2
  have e5a := cell_ext e5 hE2
  have e6a := cell_ext e6 hE2
  have B0_2 : Box w2 (w.heap.size) #[.slice aw s.M.W.length cw, .slice ag s.M.G.length cg, .bool s.M.bad, .slice (some ⟨bc, oc, none⟩) s.C.length cc, .slice al s.L.length cl] 83 := B0_1.ext hb2
  clear c0_0 c0_1 c0_2 c0_3 c0_4 d0_0 d0_1 d0_2 d0_3 d0_4 z0
  have s2 : w1.heap.size ≤ w2.heap.size := (by have h := hb2.size; first | omega | (simp at h; omega))
  obtain ⟨c0_0, c0_1, c0_2, c0_3, c0_4, d0_0, d0_1, d0_2, d0_3, d0_4⟩ := cells5 B0_2
  have z0 : w.heap.size < w2.heap.size := B0_2.lt
  go_wp2_with (first | (at_builtin; refine wpList_append_gen (base := w2.heap.size + 1 + 1) rowI zs1 (by decide) one_int' (fun _ _ _ _ h => h) (.tmp 44) (.tmp 46) rfl rfl rfl rfl (OwnSl.nil (Box.newAt _ _ _ (by first | rfl | simp)) (Nat.le_refl _)) (IsInts.sl (IsInts.keep hrU (by with_reducible (repeat (first | assumption | exact Keep.refl _ _ | refine Keep.alloc ?_ _ | refine Keep.s ?_ (by first | assumption | exact Bx.mem (by omega) (by omega) | exact Up.mem (by omega)) | refine Keep.n ?_ (by omega) | refine Keep.ext ?_ (by assumption) | refine Keep.drew ?_))))) (by first | omega | (simp <;> omega)) (by first | omega | (simp <;> omega)) ?_; intro fa1 fa1n fc1 w3 Hfa1 ho1 kb3 kx3 ks3; have hb3 : Ext w w3 := kx3 w (by with_reducible (repeat (first | assumption | exact Ext.refl _ | refine Ext.alloc' ?_ _ | refine Ext.store0 ?_ _ _ | refine Ext.storek ?_ _ _ _ | refine Ext.stores0 ?_ ?_ _ _ | refine Ext.storesk ?_ ?_ _ _ _ | refine Ext.drewN' ?_ _ | refine Ext.drew' ?_ | refine Ext.trans ?_ (by assumption)))) (by omega); have B0_3 : Box w3 (w.heap.size) #[.slice aw s.M.W.length cw, .slice ag s.M.G.length cg, .bool s.M.bad, .slice (some ⟨bc, oc, none⟩) s.C.length cc, .slice al s.L.length cl] 83 := kb3 _ _ _ (((B0_2.alloc _).alloc _).alloc _) (by omega); have B1_3 : Box w3 (w2.heap.size) #[.slice af co.F.length cf, .int .i64 co.V, .int .i64 co.E, .int .i64 (gi co.X 0), .int .i64 (gi co.X 1), .int .i64 (gi co.X 2), .slice ar co.Ret.length cr] 116 := kb3 _ _ _ (((Box.newAt _ _ _ (by first | rfl | simp)).alloc _).alloc _) (by omega); have B2_3 : Box w3 (w2.heap.size + 1) #[.slice aw s.M.W.length cw, .slice ag s.M.G.length cg, .bool s.M.bad, .slice (some ⟨bc, oc, none⟩) s.C.length cc, .slice al s.L.length cl] 83 := kb3 _ _ _ ((Box.newAt _ _ _ (by first | rfl | simp)).alloc _) (by omega); clear c0_0 c0_1 c0_2 c0_3 c0_4 d0_0 d0_1 d0_2 d0_3 d0_4 z0; have s3 : w2.heap.size + 3 ≤ w3.heap.size := (by have h := ks3; first | omega | (simp at h; omega)); obtain ⟨c0_0, c0_1, c0_2, c0_3, c0_4, d0_0, d0_1, d0_2, d0_3, d0_4⟩ := cells5 B0_3; have z0 : w.heap.size < w3.heap.size := B0_3.lt; obtain ⟨c1_0, c1_1, c1_2, c1_3, c1_4, c1_5, c1_6, d1_0, d1_1, d1_2, d1_3, d1_4, d1_5, d1_6⟩ := cells7 B1_3; have z1 : w2.heap.size < w3.heap.size := B1_3.lt; obtain ⟨c2_0, c2_1, c2_2, c2_3, c2_4, d2_0, d2_1, d2_2, d2_3, d2_4⟩ := cells5 B2_3; have z2 : w2.heap.size + 1 < w3.heap.size := B2_3.lt) | (at_builtin; refine wpList_append_gen (base := w2.heap.size + 1 + 1) rowI zs1 (by decide) one_int' (fun _ _ _ _ h => h) (.tmp 47) (.tmp 48) rfl rfl rfl rfl (OwnSl.extW ho1 (by with_reducible (repeat (first | assumption | exact Ext.refl _ | refine Ext.alloc' ?_ _ | refine Ext.store0 ?_ _ _ | refine Ext.storek ?_ _ _ _ | refine Ext.stores0 ?_ ?_ _ _ | refine Ext.storesk ?_ ?_ _ _ _ | refine Ext.drewN' ?_ _ | refine Ext.drew' ?_ | refine Ext.trans ?_ (by assumption))))) (IsSl.one (sz := 1) (cs := [.int .i64 1]) (Box.newAt _ _ _ (by first | rfl | simp)) rfl rfl) (by first | omega | (simp <;> omega)) (by first | omega | (simp <;> omega)) ?_; intro fa2 fa2n fc2 w4 Hfa2 ho2 kb4 kx4 ks4; have hb4 : Ext w w4 := kx4 w (by with_reducible (repeat (first | assumption | exact Ext.refl _ | refine Ext.alloc' ?_ _ | refine Ext.store0 ?_ _ _ | refine Ext.storek ?_ _ _ _ | refine Ext.stores0 ?_ ?_ _ _ | refine Ext.storesk ?_ ?_ _ _ _ | refine Ext.drewN' ?_ _ | refine Ext.drew' ?_ | refine Ext.trans ?_ (by assumption)))) (by omega); have B0_4 : Box w4 (w.heap.size) #[.slice aw s.M.W.length cw, .slice ag s.M.G.length cg, .bool s.M.bad, .slice (some ⟨bc, oc, none⟩) s.C.length cc, .slice al s.L.length cl] 83 := kb4 _ _ _ (B0_3.alloc _) (by omega); have B1_4 : Box w4 (w2.heap.size) #[.slice af co.F.length cf, .int .i64 co.V, .int .i64 co.E, .int .i64 (gi co.X 0), .int .i64 (gi co.X 1), .int .i64 (gi co.X 2), .slice ar co.Ret.length cr] 116 := kb4 _ _ _ (B1_3.alloc _) (by omega); have B2_4 : Box w4 (w2.heap.size + 1) #[.slice aw s.M.W.length cw, .slice ag s.M.G.length cg, .bool s.M.bad, .slice (some ⟨bc, oc, none⟩) s.C.length cc, .slice al s.L.length cl] 83 := kb4 _ _ _ (B2_3.alloc _) (by omega); clear c0_0 c0_1 c0_2 c0_3 c0_4 d0_0 d0_1 d0_2 d0_3 d0_4 z0 c1_0 c1_1 c1_2 c1_3 c1_4 c1_5 c1_6 d1_0 d1_1 d1_2 d1_3 d1_4 d1_5 d1_6 z1 c2_0 c2_1 c2_2 c2_3 c2_4 d2_0 d2_1 d2_2 d2_3 d2_4 z2; have s4 : w3.heap.size + 1 ≤ w4.heap.size := (by have h := ks4; first | omega | (simp at h; omega)); obtain ⟨c0_0, c0_1, c0_2, c0_3, c0_4, d0_0, d0_1, d0_2, d0_3, d0_4⟩ := cells5 B0_4; have z0 : w.heap.size < w4.heap.size := B0_4.lt; obtain ⟨c1_0, c1_1, c1_2, c1_3, c1_4, c1_5, c1_6, d1_0, d1_1, d1_2, d1_3, d1_4, d1_5, d1_6⟩ := cells7 B1_4; have z1 : w2.heap.size < w4.heap.size := B1_4.lt; obtain ⟨c2_0, c2_1, c2_2, c2_3, c2_4, d2_0, d2_1, d2_2, d2_3, d2_4⟩ := cells5 B2_4; have z2 : w2.heap.size + 1 < w4.heap.size := B2_4.lt))
  go_at_call 92
  refine (with_ (Bx no w.heap.size (w2.heap.size + 2)) _ _ (s) k ({ co with Ret := [] ++ co.Ret ++ [1] }) _ (IsSys.bx (IsSys.mk rfl (IsInts.keep hwU (by with_reducible (repeat (first | assumption | exact Keep.refl _ _ | refine Keep.alloc ?_ _ | refine Keep.s ?_ (by first | assumption | exact Bx.mem (by omega) (by omega) | exact Up.mem (by omega)) | refine Keep.n ?_ (by omega) | refine Keep.ext ?_ (by assumption) | refine Keep.drew ?_)))) (IsInts.keep hgU (by with_reducible (repeat (first | assumption | exact Keep.refl _ _ | refine Keep.alloc ?_ _ | refine Keep.s ?_ (by first | assumption | exact Bx.mem (by omega) (by omega) | exact Up.mem (by omega)) | refine Keep.n ?_ (by omega) | refine Keep.ext ?_ (by assumption) | refine Keep.drew ?_)))) (IsCores.keep hcU (by with_reducible (repeat (first | assumption | exact Keep.refl _ _ | refine Keep.alloc ?_ _ | refine Keep.s ?_ (by first | assumption | exact Bx.mem (by omega) (by omega) | exact Up.mem (by omega)) | refine Keep.n ?_ (by omega) | refine Keep.ext ?_ (by assumption) | refine Keep.drew ?_)))) (IsEvs.keep hlU (by with_reducible (repeat (first | assumption | exact Keep.refl _ _ | refine Keep.alloc ?_ _ | refine Keep.s ?_ (by first | assumption | exact Bx.mem (by omega) (by omega) | exact Up.mem (by omega)) | refine Keep.n ?_ (by omega) | refine Keep.ext ?_ (by assumption) | refine Keep.drew ?_)))) : IsSys (Up no w) _ _ s)) (IsCoreV.mk (c := { co with Ret := [] ++ co.Ret ++ [1] }) HX3.out (IsFrames.keep (IsFrames.bx hfU) (by with_reducible (repeat (first | assumption | exact Keep.refl _ _ | refine Keep.alloc ?_ _ | refine Keep.s ?_ (by first | assumption | exact Bx.mem (by omega) (by omega) | exact Up.mem (by omega)) | refine Keep.n ?_ (by omega) | refine Keep.ext ?_ (by assumption) | refine Keep.drew ?_)))) (IsInts.keep (OwnSl.ints (N := (Bx no w.heap.size (w2.heap.size + 2))) ho2 (fun b hb hn => hn.elim (fun q => q) fun q => (by have := q.2; omega))) (by with_reducible (repeat (first | assumption | exact Keep.refl _ _ | refine Keep.alloc ?_ _ | refine Keep.s ?_ (by first | assumption | exact Bx.mem (by omega) (by omega) | exact Up.mem (by omega)) | refine Keep.n ?_ (by omega) | refine Keep.ext ?_ (by assumption) | refine Keep.drew ?_))))) (fun b hb => (by have h := hb.elim False.elim (fun q => q.2); first | omega | (simp <;> omega))) hC hk).calls.mono ?_
  rintro e w5 ⟨_, rfl, hb5, hu⟩
  rw [HT.out] at hu
  obtain ⟨r1, r2, r3, r4, r5, r6, r7, r8, rfl, rW, rG, rC, rL⟩ := hu.opened
  have B0_5 : Box w5 (w.heap.size) #[.slice aw s.M.W.length cw, .slice ag s.M.G.length cg, .bool s.M.bad, .slice (some ⟨bc, oc, none⟩) s.C.length cc, .slice al s.L.length cl] 83 := (B0_4.setOther (by first | omega | (simp <;> omega)) _).ext hb5
  have B1_5 : Box w5 (w2.heap.size) #[.slice af co.F.length cf, .int .i64 co.V, .int .i64 co.E, .int .i64 (gi co.X 0), .int .i64 (gi co.X 1), .int .i64 (gi co.X 2), .slice fa2 fa2n fc2] 116 := (B1_4.setCell _).ext hb5
  have B2_5 : Box w5 (w2.heap.size + 1) #[.slice aw s.M.W.length cw, .slice ag s.M.G.length cg, .bool s.M.bad, .slice (some ⟨bc, oc, none⟩) s.C.length cc, .slice al s.L.length cl] 83 := (B2_4.setOther (by first | omega | (simp <;> omega)) _).ext hb5
  clear c0_0 c0_1 c0_2 c0_3 c0_4 d0_0 d0_1 d0_2 d0_3 d0_4 z0 c1_0 c1_1 c1_2 c1_3 c1_4 c1_5 c1_6 d1_0 d1_1 d1_2 d1_3 d1_4 d1_5 d1_6 z1 c2_0 c2_1 c2_2 c2_3 c2_4 d2_0 d2_1 d2_2 d2_3 d2_4 z2
  have s5 : w4.heap.size ≤ w5.heap.size := (by have h := hb5.size; first | omega | (simp at h; omega))
  obtain ⟨c0_0, c0_1, c0_2, c0_3, c0_4, d0_0, d0_1, d0_2, d0_3, d0_4⟩ := cells5 B0_5
  have z0 : w.heap.size < w5.heap.size := B0_5.lt
  obtain ⟨c1_0, c1_1, c1_2, c1_3, c1_4, c1_5, c1_6, d1_0, d1_1, d1_2, d1_3, d1_4, d1_5, d1_6⟩ := cells7 B1_5
  have z1 : w2.heap.size < w5.heap.size := B1_5.lt
  obtain ⟨c2_0, c2_1, c2_2, c2_3, c2_4, d2_0, d2_1, d2_2, d2_3, d2_4⟩ := cells5 B2_5
  have z2 : w2.heap.size + 1 < w5.heap.size := B2_5.lt
  go_wp2_with (fail)
  go_at_call 80
  refine (sysSame_ (Bx no w.heap.size (w2.heap.size + 2)) _ _ s t _ (IsSys.bx (IsSys.mk rfl (IsInts.keep hwU (by with_reducible (repeat (first | assumption | exact Keep.refl _ _ | refine Keep.alloc ?_ _ | refine Keep.s ?_ (by first | assumption | exact Bx.mem (by omega) (by omega) | exact Up.mem (by omega)) | refine Keep.n ?_ (by omega) | refine Keep.ext ?_ (by assumption) | refine Keep.drew ?_)))) (IsInts.keep hgU (by with_reducible (repeat (first | assumption | exact Keep.refl _ _ | refine Keep.alloc ?_ _ | refine Keep.s ?_ (by first | assumption | exact Bx.mem (by omega) (by omega) | exact Up.mem (by omega)) | refine Keep.n ?_ (by omega) | refine Keep.ext ?_ (by assumption) | refine Keep.drew ?_)))) (IsCores.keep hcU (by with_reducible (repeat (first | assumption | exact Keep.refl _ _ | refine Keep.alloc ?_ _ | refine Keep.s ?_ (by first | assumption | exact Bx.mem (by omega) (by omega) | exact Up.mem (by omega)) | refine Keep.n ?_ (by omega) | refine Keep.ext ?_ (by assumption) | refine Keep.drew ?_)))) (IsEvs.keep hlU (by with_reducible (repeat (first | assumption | exact Keep.refl _ _ | refine Keep.alloc ?_ _ | refine Keep.s ?_ (by first | assumption | exact Bx.mem (by omega) (by omega) | exact Up.mem (by omega)) | refine Keep.n ?_ (by omega) | refine Keep.ext ?_ (by assumption) | refine Keep.drew ?_)))) : IsSys (Up no w) _ _ s)) (IsSys.keep hu (by with_reducible (repeat (first | assumption | exact Keep.refl _ _ | refine Keep.alloc ?_ _ | refine Keep.s ?_ (by first | assumption | exact Bx.mem (by omega) (by omega) | exact Up.mem (by omega)) | refine Keep.n ?_ (by omega) | refine Keep.ext ?_ (by assumption) | refine Keep.drew ?_))))).calls.mono ?_
  rintro e w6 ⟨_, rfl, hb6, rfl⟩
  rw [F1.out]
  have B0_6 : Box w6 (w.heap.size) #[.slice aw s.M.W.length cw, .slice ag s.M.G.length cg, .bool s.M.bad, .slice (some ⟨bc, oc, none⟩) s.C.length cc, .slice al s.L.length cl] 83 := (((((B0_5.setOther (by first | omega | (simp <;> omega)) _).setOther (by first | omega | (simp <;> omega)) _).setOther (by first | omega | (simp <;> omega)) _).setOther (by first | omega | (simp <;> omega)) _).setOther (by first | omega | (simp <;> omega)) _).ext hb6
  have B1_6 : Box w6 (w2.heap.size) #[.slice af co.F.length cf, .int .i64 co.V, .int .i64 co.E, .int .i64 (gi co.X 0), .int .i64 (gi co.X 1), .int .i64 (gi co.X 2), .slice fa2 fa2n fc2] 116 := (((((B1_5.setOther (by first | omega | (simp <;> omega)) _).setOther (by first | omega | (simp <;> omega)) _).setOther (by first | omega | (simp <;> omega)) _).setOther (by first | omega | (simp <;> omega)) _).setOther (by first | omega | (simp <;> omega)) _).ext hb6
  have B2_6 : Box w6 (w2.heap.size + 1) #[.slice r1 t.M.W.length r2, .slice r3 t.M.G.length r4, .bool t.M.bad, .slice r5 t.C.length r6, .slice r7 t.L.length r8] 83 := (((((B2_5.setCell _).setCell _).setCell _).setCell _).setCell _).ext hb6
  clear c0_0 c0_1 c0_2 c0_3 c0_4 d0_0 d0_1 d0_2 d0_3 d0_4 z0 c1_0 c1_1 c1_2 c1_3 c1_4 c1_5 c1_6 d1_0 d1_1 d1_2 d1_3 d1_4 d1_5 d1_6 z1 c2_0 c2_1 c2_2 c2_3 c2_4 d2_0 d2_1 d2_2 d2_3 d2_4 z2
  have s6 : w5.heap.size ≤ w6.heap.size := (by have h := hb6.size; first | omega | (simp at h; omega))
  obtain ⟨c0_0, c0_1, c0_2, c0_3, c0_4, d0_0, d0_1, d0_2, d0_3, d0_4⟩ := cells5 B0_6
  have z0 : w.heap.size < w6.heap.size := B0_6.lt
  obtain ⟨c1_0, c1_1, c1_2, c1_3, c1_4, c1_5, c1_6, d1_0, d1_1, d1_2, d1_3, d1_4, d1_5, d1_6⟩ := cells7 B1_6
  have z1 : w2.heap.size < w6.heap.size := B1_6.lt
  obtain ⟨c2_0, c2_1, c2_2, c2_3, c2_4, d2_0, d2_1, d2_2, d2_3, d2_4⟩ := cells5 B2_6
  have z2 : w2.heap.size + 1 < w6.heap.size := B2_6.lt
  go_wp2_with (fail)
  go_at_call 80
  refine (sysSame_ (Bx no w.heap.size (w2.heap.size + 2)) _ _ t s _ (IsSys.keep hu (by with_reducible (repeat (first | assumption | exact Keep.refl _ _ | refine Keep.alloc ?_ _ | refine Keep.s ?_ (by first | assumption | exact Bx.mem (by omega) (by omega) | exact Up.mem (by omega)) | refine Keep.n ?_ (by omega) | refine Keep.ext ?_ (by assumption) | refine Keep.drew ?_)))) (IsSys.bx (IsSys.mk rfl (IsInts.keep hwU (by with_reducible (repeat (first | assumption | exact Keep.refl _ _ | refine Keep.alloc ?_ _ | refine Keep.s ?_ (by first | assumption | exact Bx.mem (by omega) (by omega) | exact Up.mem (by omega)) | refine Keep.n ?_ (by omega) | refine Keep.ext ?_ (by assumption) | refine Keep.drew ?_)))) (IsInts.keep hgU (by with_reducible (repeat (first | assumption | exact Keep.refl _ _ | refine Keep.alloc ?_ _ | refine Keep.s ?_ (by first | assumption | exact Bx.mem (by omega) (by omega) | exact Up.mem (by omega)) | refine Keep.n ?_ (by omega) | refine Keep.ext ?_ (by assumption) | refine Keep.drew ?_)))) (IsCores.keep hcU (by with_reducible (repeat (first | assumption | exact Keep.refl _ _ | refine Keep.alloc ?_ _ | refine Keep.s ?_ (by first | assumption | exact Bx.mem (by omega) (by omega) | exact Up.mem (by omega)) | refine Keep.n ?_ (by omega) | refine Keep.ext ?_ (by assumption) | refine Keep.drew ?_)))) (IsEvs.keep hlU (by with_reducible (repeat (first | assumption | exact Keep.refl _ _ | refine Keep.alloc ?_ _ | refine Keep.s ?_ (by first | assumption | exact Bx.mem (by omega) (by omega) | exact Up.mem (by omega)) | refine Keep.n ?_ (by omega) | refine Keep.ext ?_ (by assumption) | refine Keep.drew ?_)))) : IsSys (Up no w) _ _ s))).calls.mono ?_
  rintro e w7 ⟨_, rfl, hb7, rfl⟩
  rw [F2.out]
  have B0_7 : Box w7 (w.heap.size) #[.slice aw s.M.W.length cw, .slice ag s.M.G.length cg, .bool s.M.bad, .slice (some ⟨bc, oc, none⟩) s.C.length cc, .slice al s.L.length cl] 83 := B0_6.ext hb7
  have B1_7 : Box w7 (w2.heap.size) #[.slice af co.F.length cf, .int .i64 co.V, .int .i64 co.E, .int .i64 (gi co.X 0), .int .i64 (gi co.X 1), .int .i64 (gi co.X 2), .slice fa2 fa2n fc2] 116 := B1_6.ext hb7
  have B2_7 : Box w7 (w2.heap.size + 1) #[.slice r1 t.M.W.length r2, .slice r3 t.M.G.length r4, .bool t.M.bad, .slice r5 t.C.length r6, .slice r7 t.L.length r8] 83 := B2_6.ext hb7
  clear c0_0 c0_1 c0_2 c0_3 c0_4 d0_0 d0_1 d0_2 d0_3 d0_4 z0 c1_0 c1_1 c1_2 c1_3 c1_4 c1_5 c1_6 d1_0 d1_1 d1_2 d1_3 d1_4 d1_5 d1_6 z1 c2_0 c2_1 c2_2 c2_3 c2_4 d2_0 d2_1 d2_2 d2_3 d2_4 z2
  have s7 : w6.heap.size ≤ w7.heap.size := (by have h := hb7.size; first | omega | (simp at h; omega))
  obtain ⟨c0_0, c0_1, c0_2, c0_3, c0_4, d0_0, d0_1, d0_2, d0_3, d0_4⟩ := cells5 B0_7
  have z0 : w.heap.size < w7.heap.size := B0_7.lt
  obtain ⟨c1_0, c1_1, c1_2, c1_3, c1_4, c1_5, c1_6, d1_0, d1_1, d1_2, d1_3, d1_4, d1_5, d1_6⟩ := cells7 B1_7
  have z1 : w2.heap.size < w7.heap.size := B1_7.lt
  obtain ⟨c2_0, c2_1, c2_2, c2_3, c2_4, d2_0, d2_1, d2_2, d2_3, d2_4⟩ := cells5 B2_7
  have z2 : w2.heap.size + 1 < w7.heap.size := B2_7.lt
  go_wp2_with (fail)
  go_at_call 80
  refine (sysSame_ (Bx no w.heap.size (w2.heap.size + 2)) _ _ t t _ (IsSys.keep hu (by with_reducible (repeat (first | assumption | exact Keep.refl _ _ | refine Keep.alloc ?_ _ | refine Keep.s ?_ (by first | assumption | exact Bx.mem (by omega) (by omega) | exact Up.mem (by omega)) | refine Keep.n ?_ (by omega) | refine Keep.ext ?_ (by assumption) | refine Keep.drew ?_)))) (IsSys.keep hu (by with_reducible (repeat (first | assumption | exact Keep.refl _ _ | refine Keep.alloc ?_ _ | refine Keep.s ?_ (by first | assumption | exact Bx.mem (by omega) (by omega) | exact Up.mem (by omega)) | refine Keep.n ?_ (by omega) | refine Keep.ext ?_ (by assumption) | refine Keep.drew ?_))))).calls.mono ?_
  rintro e w8 ⟨_, rfl, hb8, rfl⟩
  rw [F3.out]
  have B0_8 : Box w8 (w.heap.size) #[.slice aw s.M.W.length cw, .slice ag s.M.G.length cg, .bool s.M.bad, .slice (some ⟨bc, oc, none⟩) s.C.length cc, .slice al s.L.length cl] 83 := B0_7.ext hb8
  have B1_8 : Box w8 (w2.heap.size) #[.slice af co.F.length cf, .int .i64 co.V, .int .i64 co.E, .int .i64 (gi co.X 0), .int .i64 (gi co.X 1), .int .i64 (gi co.X 2), .slice fa2 fa2n fc2] 116 := B1_7.ext hb8
  have B2_8 : Box w8 (w2.heap.size + 1) #[.slice r1 t.M.W.length r2, .slice r3 t.M.G.length r4, .bool t.M.bad, .slice r5 t.C.length r6, .slice r7 t.L.length r8] 83 := B2_7.ext hb8
  clear c0_0 c0_1 c0_2 c0_3 c0_4 d0_0 d0_1 d0_2 d0_3 d0_4 z0 c1_0 c1_1 c1_2 c1_3 c1_4 c1_5 c1_6 d1_0 d1_1 d1_2 d1_3 d1_4 d1_5 d1_6 z1 c2_0 c2_1 c2_2 c2_3 c2_4 d2_0 d2_1 d2_2 d2_3 d2_4 z2
  have s8 : w7.heap.size ≤ w8.heap.size := (by have h := hb8.size; first | omega | (simp at h; omega))
  obtain ⟨c0_0, c0_1, c0_2, c0_3, c0_4, d0_0, d0_1, d0_2, d0_3, d0_4⟩ := cells5 B0_8
  have z0 : w.heap.size < w8.heap.size := B0_8.lt
  obtain ⟨c1_0, c1_1, c1_2, c1_3, c1_4, c1_5, c1_6, d1_0, d1_1, d1_2, d1_3, d1_4, d1_5, d1_6⟩ := cells7 B1_8
  have z1 : w2.heap.size < w8.heap.size := B1_8.lt
  obtain ⟨c2_0, c2_1, c2_2, c2_3, c2_4, d2_0, d2_1, d2_2, d2_3, d2_4⟩ := cells5 B2_8
  have z2 : w2.heap.size + 1 < w8.heap.size := B2_8.lt
  go_wp2
  go_ret
  exact ⟨_, rfl, (by with_reducible (repeat (first | assumption | exact Ext.refl _ | refine Ext.alloc' ?_ _ | refine Ext.store0 ?_ _ _ | refine Ext.storek ?_ _ _ _ | refine Ext.storen ?_ (by omega) | refine Ext.stores0 ?_ ?_ _ _ | refine Ext.storesk ?_ ?_ _ _ _ | refine Ext.drewN' ?_ _ | refine Ext.drew' ?_ | refine Ext.trans ?_ (by assumption)))), rfl⟩

set_option maxHeartbeats 4000000 in
set_option maxRecDepth 100000 in
theorem coreSame_3 (aw ag al af ar : Option Addr) (cw cg cc cl bc oc cf cr k : Nat) (s t : SysD) (co : CoreD) (iv wh : Int) (w : World) (hw : IsInts no w (.slice aw s.M.W.length cw) s.M.W) (hg : IsInts no w (.slice ag s.M.G.length cg) s.M.G) (hc : IsCores no w (.slice (some ⟨bc, oc, none⟩) s.C.length cc) s.C) (hl : IsEvs no w (.slice al s.L.length cl) s.L)
    (xc : bc < w.heap.size) (hx3 : co.X.length = 3) (hf : IsFrames no w (.slice af co.F.length cf) co.F) (hr : IsInts no w (.slice ar co.Ret.length cr) co.Ret)
    (e0 : w.cell? ⟨bc, oc + k * 7, none⟩ = some (.slice af co.F.length cf))
    (e1 : w.cell? ⟨bc, oc + k * 7 + 1, none⟩ = some (.int .i64 co.V))
    (e2 : w.cell? ⟨bc, oc + k * 7 + 2, none⟩ = some (.int .i64 co.E))
    (e3 : w.cell? ⟨bc, oc + k * 7 + 3, none⟩ = some (.int .i64 (gi co.X 0)))
    (e4 : w.cell? ⟨bc, oc + k * 7 + 4, none⟩ = some (.int .i64 (gi co.X 1)))
    (e5 : w.cell? ⟨bc, oc + k * 7 + 5, none⟩ = some (.int .i64 (gi co.X 2)))
    (e6 : w.cell? ⟨bc, oc + k * 7 + 6, none⟩ = some (.slice ar co.Ret.length cr))
    (km : ∀ w', Ext w w' → Gives Proofs.Try.prog 83 #[.agg #[.slice aw s.M.W.length cw, .slice ag s.M.G.length cg, .bool s.M.bad, .slice (some ⟨bc, oc, none⟩) s.C.length cc, .slice al s.L.length cl], .int .i64 60] w' (eqv (.bool true)))
    (hi0 : 0 ≤ iv) (hi1 : iv ≤ 255) (hq0 : 0 ≤ wh) (hq1 : wh ≤ 255) (hmod : iv % (s.C.length : Int) = (k : Int)) (hq : wh % 7 = 3) (hk : k < s.C.length) (hC1 : 1 ≤ s.C.length) (hC : s.C.length ≤ 100000) (hFl : co.F.length ≤ 1000) (hRl : co.Ret.length ≤ 1000) (hLl : s.L.length ≤ 1000)
    (ht : withS (s) k ({ co with F := [] ++ co.F ++ [zeroF] }) = t) (f1 : sameS s t = false) (f2 : sameS t s = false) (f3 : sameS t t = true) :
    Gives Proofs.Try.prog 23 #[.agg #[.slice aw s.M.W.length cw, .slice ag s.M.G.length cg, .bool s.M.bad, .slice (some ⟨bc, oc, none⟩) s.C.length cc, .slice al s.L.length cl], .int .u8 iv, .int .u8 wh] w (eqv (.bool true)) := by
  have hwU := hw.up
  have hgU := hg.up
  have hcU := IsCores.less hc (M := Up no w) fun x hx hn => hn.elim (fun q => q) fun k => absurd k (by omega)
  have hlU := IsEvs.less hl (M := Up no w) fun x hx hn => hn.elim (fun q => q) fun k => absurd k (by omega)
  have hfU := IsFrames.up hf
  have hrU := hr.up
  have hk1 : (k : Int) < (s.C.length : Int) := by omega
  have hC2 : ¬ (s.C.length : Int) = 0 := by omega
  have HT := Lib.hid ht; have F1 := Lib.hid f1; have F2 := Lib.hid f2; have F3 := Lib.hid f3; have HX3 := Lib.hid hx3
  clear ht f1 f2 f3 hx3
  go_enter Proofs.Try.func23, Proofs.Try.ntmps23
  go_wp2_with (fail)
  go_at_call 73
  refine (shown3_ _).calls.mono ?_
  rintro e w1 ⟨_, rfl, hb1, rfl⟩
  have B0_1 : Box w1 (w.heap.size) #[.slice aw s.M.W.length cw, .slice ag s.M.G.length cg, .bool s.M.bad, .slice (some ⟨bc, oc, none⟩) s.C.length cc, .slice al s.L.length cl] 83 := (Box.newAt _ _ _ (by first | rfl | simp)).ext hb1
  have s1 : w.heap.size + 1 ≤ w1.heap.size := (by have h := hb1.size; first | omega | (simp at h; omega))
  obtain ⟨c0_0, c0_1, c0_2, c0_3, c0_4, d0_0, d0_1, d0_2, d0_3, d0_4⟩ := cells5 B0_1
  have z0 : w.heap.size < w1.heap.size := B0_1.lt
  go_wp2_with (fail)
  go_at_call 83
  refine (km _ (by with_reducible (repeat (first | assumption | exact Ext.refl _ | refine Ext.alloc' ?_ _ | refine Ext.store0 ?_ _ _ | refine Ext.storek ?_ _ _ _ | refine Ext.stores0 ?_ ?_ _ _ | refine Ext.storesk ?_ ?_ _ _ _ | refine Ext.drewN' ?_ _ | refine Ext.drew' ?_ | refine Ext.trans ?_ (by assumption))))).calls.mono ?_
  rintro e w2 ⟨_, rfl, hb2, rfl⟩
  have hE2 : Ext w w2 := (by with_reducible (repeat (first | assumption | exact Ext.refl _ | refine Ext.alloc' ?_ _ | refine Ext.store0 ?_ _ _ | refine Ext.storek ?_ _ _ _ | refine Ext.stores0 ?_ ?_ _ _ | refine Ext.storesk ?_ ?_ _ _ _ | refine Ext.drewN' ?_ _ | refine Ext.drew' ?_ | refine Ext.trans ?_ (by assumption))))
  have xc2 : bc < w2.heap.size := Nat.lt_of_lt_of_le xc hE2.size
  have e0a := cell_ext e0 hE2
  have e1a := cell_ext e1 hE2
  have e2a := cell_ext e2 hE2
  have e3a := cell_ext e3 hE2
  have e4a := cell_ext e4 hE2
  have e5a := cell_ext e5 hE2
  have e6a := cell_ext e6 hE2
  have B0_2 : Box w2 (w.heap.size) #[.slice aw s.M.W.length cw, .slice ag s.M.G.length cg, .bool s.M.bad, .slice (some ⟨bc, oc, none⟩) s.C.length cc, .slice al s.L.length cl] 83 := B0_1.ext hb2
  clear c0_0 c0_1 c0_2 c0_3 c0_4 d0_0 d0_1 d0_2 d0_3 d0_4 z0
  have s2 : w1.heap.size ≤ w2.heap.size := (by have h := hb2.size; first | omega | (simp at h; omega))
  obtain ⟨c0_0, c0_1, c0_2, c0_3, c0_4, d0_0, d0_1, d0_2, d0_3, d0_4⟩ := cells5 B0_2
  have z0 : w.heap.size < w2.heap.size := B0_2.lt
  go_wp2_with (first | (at_builtin; refine wpList_append_frames (base := w2.heap.size + 1 + 1) (.tmp 53) (.tmp 55) rfl rfl rfl rfl (OwnSl.nil (Box.newAt _ _ _ (by first | rfl | simp)) (Nat.le_refl _)) (IsFrames.keep hfU (by with_reducible (repeat (first | assumption | exact Keep.refl _ _ | refine Keep.alloc ?_ _ | refine Keep.s ?_ (by first | assumption | exact Bx.mem (by omega) (by omega) | exact Up.mem (by omega)) | refine Keep.n ?_ (by omega) | refine Keep.ext ?_ (by assumption) | refine Keep.drew ?_)))) (fun k hk => .inr (by omega)) (by first | omega | (simp <;> omega)) (by first | omega | (simp <;> omega)) ?_; intro fa1 fa1n fc1 w3 Hfa1 ho1 kb3 kx3 ks3; have hb3 : Ext w w3 := kx3 w (by with_reducible (repeat (first | assumption | exact Ext.refl _ | refine Ext.alloc' ?_ _ | refine Ext.store0 ?_ _ _ | refine Ext.storek ?_ _ _ _ | refine Ext.stores0 ?_ ?_ _ _ | refine Ext.storesk ?_ ?_ _ _ _ | refine Ext.drewN' ?_ _ | refine Ext.drew' ?_ | refine Ext.trans ?_ (by assumption)))) (by omega); have B0_3 : Box w3 (w.heap.size) #[.slice aw s.M.W.length cw, .slice ag s.M.G.length cg, .bool s.M.bad, .slice (some ⟨bc, oc, none⟩) s.C.length cc, .slice al s.L.length cl] 83 := kb3 _ _ _ (((B0_2.alloc _).alloc _).alloc _) (by omega); have B1_3 : Box w3 (w2.heap.size) #[.slice af co.F.length cf, .int .i64 co.V, .int .i64 co.E, .int .i64 (gi co.X 0), .int .i64 (gi co.X 1), .int .i64 (gi co.X 2), .slice ar co.Ret.length cr] 116 := kb3 _ _ _ (((Box.newAt _ _ _ (by first | rfl | simp)).alloc _).alloc _) (by omega); have B2_3 : Box w3 (w2.heap.size + 1) #[.slice aw s.M.W.length cw, .slice ag s.M.G.length cg, .bool s.M.bad, .slice (some ⟨bc, oc, none⟩) s.C.length cc, .slice al s.L.length cl] 83 := kb3 _ _ _ ((Box.newAt _ _ _ (by first | rfl | simp)).alloc _) (by omega); clear c0_0 c0_1 c0_2 c0_3 c0_4 d0_0 d0_1 d0_2 d0_3 d0_4 z0; have s3 : w2.heap.size + 3 ≤ w3.heap.size := (by have h := ks3; first | omega | (simp at h; omega)); obtain ⟨c0_0, c0_1, c0_2, c0_3, c0_4, d0_0, d0_1, d0_2, d0_3, d0_4⟩ := cells5 B0_3; have z0 : w.heap.size < w3.heap.size := B0_3.lt; obtain ⟨c1_0, c1_1, c1_2, c1_3, c1_4, c1_5, c1_6, d1_0, d1_1, d1_2, d1_3, d1_4, d1_5, d1_6⟩ := cells7 B1_3; have z1 : w2.heap.size < w3.heap.size := B1_3.lt; obtain ⟨c2_0, c2_1, c2_2, c2_3, c2_4, d2_0, d2_1, d2_2, d2_3, d2_4⟩ := cells5 B2_3; have z2 : w2.heap.size + 1 < w3.heap.size := B2_3.lt) | (at_builtin; refine wpList_append_frames (base := w2.heap.size + 1 + 1) (.tmp 56) (.tmp 58) rfl rfl rfl rfl (OwnSl.extF ho1 (by with_reducible (repeat (first | assumption | exact Ext.refl _ | refine Ext.alloc' ?_ _ | refine Ext.store0 ?_ _ _ | refine Ext.storek ?_ _ _ _ | refine Ext.stores0 ?_ ?_ _ _ | refine Ext.storesk ?_ ?_ _ _ _ | refine Ext.drewN' ?_ _ | refine Ext.drew' ?_ | refine Ext.trans ?_ (by assumption))))) (IsSl.one (sz := 11) (cs := (frameCells zeroF (.slice none 0 0))) (Box.newAt _ _ _ (by first | rfl | simp)) rfl ⟨rfl, _, rfl, nil_ints _ _⟩) (fun k hk => .inr (by omega)) (by first | omega | (simp <;> omega)) (by first | omega | (simp <;> omega)) ?_; intro fa2 fa2n fc2 w4 Hfa2 ho2 kb4 kx4 ks4; have hb4 : Ext w w4 := kx4 w (by with_reducible (repeat (first | assumption | exact Ext.refl _ | refine Ext.alloc' ?_ _ | refine Ext.store0 ?_ _ _ | refine Ext.storek ?_ _ _ _ | refine Ext.stores0 ?_ ?_ _ _ | refine Ext.storesk ?_ ?_ _ _ _ | refine Ext.drewN' ?_ _ | refine Ext.drew' ?_ | refine Ext.trans ?_ (by assumption)))) (by omega); have B0_4 : Box w4 (w.heap.size) #[.slice aw s.M.W.length cw, .slice ag s.M.G.length cg, .bool s.M.bad, .slice (some ⟨bc, oc, none⟩) s.C.length cc, .slice al s.L.length cl] 83 := kb4 _ _ _ (B0_3.alloc _) (by omega); have B1_4 : Box w4 (w2.heap.size) #[.slice af co.F.length cf, .int .i64 co.V, .int .i64 co.E, .int .i64 (gi co.X 0), .int .i64 (gi co.X 1), .int .i64 (gi co.X 2), .slice ar co.Ret.length cr] 116 := kb4 _ _ _ (B1_3.alloc _) (by omega); have B2_4 : Box w4 (w2.heap.size + 1) #[.slice aw s.M.W.length cw, .slice ag s.M.G.length cg, .bool s.M.bad, .slice (some ⟨bc, oc, none⟩) s.C.length cc, .slice al s.L.length cl] 83 := kb4 _ _ _ (B2_3.alloc _) (by omega); clear c0_0 c0_1 c0_2 c0_3 c0_4 d0_0 d0_1 d0_2 d0_3 d0_4 z0 c1_0 c1_1 c1_2 c1_3 c1_4 c1_5 c1_6 d1_0 d1_1 d1_2 d1_3 d1_4 d1_5 d1_6 z1 c2_0 c2_1 c2_2 c2_3 c2_4 d2_0 d2_1 d2_2 d2_3 d2_4 z2; have s4 : w3.heap.size + 1 ≤ w4.heap.size := (by have h := ks4; first | omega | (simp at h; omega)); obtain ⟨c0_0, c0_1, c0_2, c0_3, c0_4, d0_0, d0_1, d0_2, d0_3, d0_4⟩ := cells5 B0_4; have z0 : w.heap.size < w4.heap.size := B0_4.lt; obtain ⟨c1_0, c1_1, c1_2, c1_3, c1_4, c1_5, c1_6, d1_0, d1_1, d1_2, d1_3, d1_4, d1_5, d1_6⟩ := cells7 B1_4; have z1 : w2.heap.size < w4.heap.size := B1_4.lt; obtain ⟨c2_0, c2_1, c2_2, c2_3, c2_4, d2_0, d2_1, d2_2, d2_3, d2_4⟩ := cells5 B2_4; have z2 : w2.heap.size + 1 < w4.heap.size := B2_4.lt))
  go_at_call 92
  refine (with_ (Bx no w.heap.size (w2.heap.size + 2)) _ _ (s) k ({ co with F := [] ++ co.F ++ [zeroF] }) _ (IsSys.bx (IsSys.mk rfl (IsInts.keep hwU (by with_reducible (repeat (first | assumption | exact Keep.refl _ _ | refine Keep.alloc ?_ _ | refine Keep.s ?_ (by first | assumption | exact Bx.mem (by omega) (by omega) | exact Up.mem (by omega)) | refine Keep.n ?_ (by omega) | refine Keep.ext ?_ (by assumption) | refine Keep.drew ?_)))) (IsInts.keep hgU (by with_reducible (repeat (first | assumption | exact Keep.refl _ _ | refine Keep.alloc ?_ _ | refine Keep.s ?_ (by first | assumption | exact Bx.mem (by omega) (by omega) | exact Up.mem (by omega)) | refine Keep.n ?_ (by omega) | refine Keep.ext ?_ (by assumption) | refine Keep.drew ?_)))) (IsCores.keep hcU (by with_reducible (repeat (first | assumption | exact Keep.refl _ _ | refine Keep.alloc ?_ _ | refine Keep.s ?_ (by first | assumption | exact Bx.mem (by omega) (by omega) | exact Up.mem (by omega)) | refine Keep.n ?_ (by omega) | refine Keep.ext ?_ (by assumption) | refine Keep.drew ?_)))) (IsEvs.keep hlU (by with_reducible (repeat (first | assumption | exact Keep.refl _ _ | refine Keep.alloc ?_ _ | refine Keep.s ?_ (by first | assumption | exact Bx.mem (by omega) (by omega) | exact Up.mem (by omega)) | refine Keep.n ?_ (by omega) | refine Keep.ext ?_ (by assumption) | refine Keep.drew ?_)))) : IsSys (Up no w) _ _ s)) (IsCoreV.mk (c := { co with F := [] ++ co.F ++ [zeroF] }) HX3.out (OwnSl.frames (lo := w.heap.size) (hi := (w2.heap.size + 2)) ho2 (fun b hb hn => hn.elim (fun q => q) fun q => (by have := q.2; omega)) (by with_reducible (repeat (first | assumption | exact Keep.refl _ _ | refine Keep.alloc ?_ _ | refine Keep.s ?_ (by first | assumption | exact Bx.mem (by omega) (by omega) | exact Up.mem (by omega)) | refine Keep.n ?_ (by omega) | refine Keep.ext ?_ (by assumption) | refine Keep.drew ?_)))) (IsInts.keep (IsInts.bx hrU) (by with_reducible (repeat (first | assumption | exact Keep.refl _ _ | refine Keep.alloc ?_ _ | refine Keep.s ?_ (by first | assumption | exact Bx.mem (by omega) (by omega) | exact Up.mem (by omega)) | refine Keep.n ?_ (by omega) | refine Keep.ext ?_ (by assumption) | refine Keep.drew ?_))))) (fun b hb => (by have h := hb.elim False.elim (fun q => q.2); first | omega | (simp <;> omega))) hC hk).calls.mono ?_
  rintro e w5 ⟨_, rfl, hb5, hu⟩
  rw [HT.out] at hu
  obtain ⟨r1, r2, r3, r4, r5, r6, r7, r8, rfl, rW, rG, rC, rL⟩ := hu.opened
  have B0_5 : Box w5 (w.heap.size) #[.slice aw s.M.W.length cw, .slice ag s.M.G.length cg, .bool s.M.bad, .slice (some ⟨bc, oc, none⟩) s.C.length cc, .slice al s.L.length cl] 83 := (B0_4.setOther (by first | omega | (simp <;> omega)) _).ext hb5
  have B1_5 : Box w5 (w2.heap.size) #[.slice fa2 fa2n fc2, .int .i64 co.V, .int .i64 co.E, .int .i64 (gi co.X 0), .int .i64 (gi co.X 1), .int .i64 (gi co.X 2), .slice ar co.Ret.length cr] 116 := (B1_4.setCell _).ext hb5
  have B2_5 : Box w5 (w2.heap.size + 1) #[.slice aw s.M.W.length cw, .slice ag s.M.G.length cg, .bool s.M.bad, .slice (some ⟨bc, oc, none⟩) s.C.length cc, .slice al s.L.length cl] 83 := (B2_4.setOther (by first | omega | (simp <;> omega)) _).ext hb5
  clear c0_0 c0_1 c0_2 c0_3 c0_4 d0_0 d0_1 d0_2 d0_3 d0_4 z0 c1_0 c1_1 c1_2 c1_3 c1_4 c1_5 c1_6 d1_0 d1_1 d1_2 d1_3 d1_4 d1_5 d1_6 z1 c2_0 c2_1 c2_2 c2_3 c2_4 d2_0 d2_1 d2_2 d2_3 d2_4 z2
  have s5 : w4.heap.size ≤ w5.heap.size := (by have h := hb5.size; first | omega | (simp at h; omega))
  obtain ⟨c0_0, c0_1, c0_2, c0_3, c0_4, d0_0, d0_1, d0_2, d0_3, d0_4⟩ := cells5 B0_5
  have z0 : w.heap.size < w5.heap.size := B0_5.lt
  obtain ⟨c1_0, c1_1, c1_2, c1_3, c1_4, c1_5, c1_6, d1_0, d1_1, d1_2, d1_3, d1_4, d1_5, d1_6⟩ := cells7 B1_5
  have z1 : w2.heap.size < w5.heap.size := B1_5.lt
  obtain ⟨c2_0, c2_1, c2_2, c2_3, c2_4, d2_0, d2_1, d2_2, d2_3, d2_4⟩ := cells5 B2_5
  have z2 : w2.heap.size + 1 < w5.heap.size := B2_5.lt
  go_wp2_with (fail)
  go_at_call 80
  refine (sysSame_ (Bx no w.heap.size (w2.heap.size + 2)) _ _ s t _ (IsSys.bx (IsSys.mk rfl (IsInts.keep hwU (by with_reducible (repeat (first | assumption | exact Keep.refl _ _ | refine Keep.alloc ?_ _ | refine Keep.s ?_ (by first | assumption | exact Bx.mem (by omega) (by omega) | exact Up.mem (by omega)) | refine Keep.n ?_ (by omega) | refine Keep.ext ?_ (by assumption) | refine Keep.drew ?_)))) (IsInts.keep hgU (by with_reducible (repeat (first | assumption | exact Keep.refl _ _ | refine Keep.alloc ?_ _ | refine Keep.s ?_ (by first | assumption | exact Bx.mem (by omega) (by omega) | exact Up.mem (by omega)) | refine Keep.n ?_ (by omega) | refine Keep.ext ?_ (by assumption) | refine Keep.drew ?_)))) (IsCores.keep hcU (by with_reducible (repeat (first | assumption | exact Keep.refl _ _ | refine Keep.alloc ?_ _ | refine Keep.s ?_ (by first | assumption | exact Bx.mem (by omega) (by omega) | exact Up.mem (by omega)) | refine Keep.n ?_ (by omega) | refine Keep.ext ?_ (by assumption) | refine Keep.drew ?_)))) (IsEvs.keep hlU (by with_reducible (repeat (first | assumption | exact Keep.refl _ _ | refine Keep.alloc ?_ _ | refine Keep.s ?_ (by first | assumption | exact Bx.mem (by omega) (by omega) | exact Up.mem (by omega)) | refine Keep.n ?_ (by omega) | refine Keep.ext ?_ (by assumption) | refine Keep.drew ?_)))) : IsSys (Up no w) _ _ s)) (IsSys.keep hu (by with_reducible (repeat (first | assumption | exact Keep.refl _ _ | refine Keep.alloc ?_ _ | refine Keep.s ?_ (by first | assumption | exact Bx.mem (by omega) (by omega) | exact Up.mem (by omega)) | refine Keep.n ?_ (by omega) | refine Keep.ext ?_ (by assumption) | refine Keep.drew ?_))))).calls.mono ?_
  rintro e w6 ⟨_, rfl, hb6, rfl⟩
  rw [F1.out]
  have B0_6 : Box w6 (w.heap.size) #[.slice aw s.M.W.length cw, .slice ag s.M.G.length cg, .bool s.M.bad, .slice (some ⟨bc, oc, none⟩) s.C.length cc, .slice al s.L.length cl] 83 := (((((B0_5.setOther (by first | omega | (simp <;> omega)) _).setOther (by first | omega | (simp <;> omega)) _).setOther (by first | omega | (simp <;> omega)) _).setOther (by first | omega | (simp <;> omega)) _).setOther (by first | omega | (simp <;> omega)) _).ext hb6
  have B1_6 : Box w6 (w2.heap.size) #[.slice fa2 fa2n fc2, .int .i64 co.V, .int .i64 co.E, .int .i64 (gi co.X 0), .int .i64 (gi co.X 1), .int .i64 (gi co.X 2), .slice ar co.Ret.length cr] 116 := (((((B1_5.setOther (by first | omega | (simp <;> omega)) _).setOther (by first | omega | (simp <;> omega)) _).setOther (by first | omega | (simp <;> omega)) _).setOther (by first | omega | (simp <;> omega)) _).setOther (by first | omega | (simp <;> omega)) _).ext hb6
  have B2_6 : Box w6 (w2.heap.size + 1) #[.slice r1 t.M.W.length r2, .slice r3 t.M.G.length r4, .bool t.M.bad, .slice r5 t.C.length r6, .slice r7 t.L.length r8] 83 := (((((B2_5.setCell _).setCell _).setCell _).setCell _).setCell _).ext hb6
  clear c0_0 c0_1 c0_2 c0_3 c0_4 d0_0 d0_1 d0_2 d0_3 d0_4 z0 c1_0 c1_1 c1_2 c1_3 c1_4 c1_5 c1_6 d1_0 d1_1 d1_2 d1_3 d1_4 d1_5 d1_6 z1 c2_0 c2_1 c2_2 c2_3 c2_4 d2_0 d2_1 d2_2 d2_3 d2_4 z2
  have s6 : w5.heap.size ≤ w6.heap.size := (by have h := hb6.size; first | omega | (simp at h; omega))
  obtain ⟨c0_0, c0_1, c0_2, c0_3, c0_4, d0_0, d0_1, d0_2, d0_3, d0_4⟩ := cells5 B0_6
  have z0 : w.heap.size < w6.heap.size := B0_6.lt
  obtain ⟨c1_0, c1_1, c1_2, c1_3, c1_4, c1_5, c1_6, d1_0, d1_1, d1_2, d1_3, d1_4, d1_5, d1_6⟩ := cells7 B1_6
  have z1 : w2.heap.size < w6.heap.size := B1_6.lt
  obtain ⟨c2_0, c2_1, c2_2, c2_3, c2_4, d2_0, d2_1, d2_2, d2_3, d2_4⟩ := cells5 B2_6
  have z2 : w2.heap.size + 1 < w6.heap.size := B2_6.lt
  go_wp2_with (fail)
  go_at_call 80
  refine (sysSame_ (Bx no w.heap.size (w2.heap.size + 2)) _ _ t s _ (IsSys.keep hu (by with_reducible (repeat (first | assumption | exact Keep.refl _ _ | refine Keep.alloc ?_ _ | refine Keep.s ?_ (by first | assumption | exact Bx.mem (by omega) (by omega) | exact Up.mem (by omega)) | refine Keep.n ?_ (by omega) | refine Keep.ext ?_ (by assumption) | refine Keep.drew ?_)))) (IsSys.bx (IsSys.mk rfl (IsInts.keep hwU (by with_reducible (repeat (first | assumption | exact Keep.refl _ _ | refine Keep.alloc ?_ _ | refine Keep.s ?_ (by first | assumption | exact Bx.mem (by omega) (by omega) | exact Up.mem (by omega)) | refine Keep.n ?_ (by omega) | refine Keep.ext ?_ (by assumption) | refine Keep.drew ?_)))) (IsInts.keep hgU (by with_reducible (repeat (first | assumption | exact Keep.refl _ _ | refine Keep.alloc ?_ _ | refine Keep.s ?_ (by first | assumption | exact Bx.mem (by omega) (by omega) | exact Up.mem (by omega)) | refine Keep.n ?_ (by omega) | refine Keep.ext ?_ (by assumption) | refine Keep.drew ?_)))) (IsCores.keep hcU (by with_reducible (repeat (first | assumption | exact Keep.refl _ _ | refine Keep.alloc ?_ _ | refine Keep.s ?_ (by first | assumption | exact Bx.mem (by omega) (by omega) | exact Up.mem (by omega)) | refine Keep.n ?_ (by omega) | refine Keep.ext ?_ (by assumption) | refine Keep.drew ?_)))) (IsEvs.keep hlU (by with_reducible (repeat (first | assumption | exact Keep.refl _ _ | refine Keep.alloc ?_ _ | refine Keep.s ?_ (by first | assumption | exact Bx.mem (by omega) (by omega) | exact Up.mem (by omega)) | refine Keep.n ?_ (by omega) | refine Keep.ext ?_ (by assumption) | refine Keep.drew ?_)))) : IsSys (Up no w) _ _ s))).calls.mono ?_
  rintro e w7 ⟨_, rfl, hb7, rfl⟩
  rw [F2.out]
  have B0_7 : Box w7 (w.heap.size) #[.slice aw s.M.W.length cw, .slice ag s.M.G.length cg, .bool s.M.bad, .slice (some ⟨bc, oc, none⟩) s.C.length cc, .slice al s.L.length cl] 83 := B0_6.ext hb7
  have B1_7 : Box w7 (w2.heap.size) #[.slice fa2 fa2n fc2, .int .i64 co.V, .int .i64 co.E, .int .i64 (gi co.X 0), .int .i64 (gi co.X 1), .int .i64 (gi co.X 2), .slice ar co.Ret.length cr] 116 := B1_6.ext hb7
  have B2_7 : Box w7 (w2.heap.size + 1) #[.slice r1 t.M.W.length r2, .slice r3 t.M.G.length r4, .bool t.M.bad, .slice r5 t.C.length r6, .slice r7 t.L.length r8] 83 := B2_6.ext hb7
  clear c0_0 c0_1 c0_2 c0_3 c0_4 d0_0 d0_1 d0_2 d0_3 d0_4 z0 c1_0 c1_1 c1_2 c1_3 c1_4 c1_5 c1_6 d1_0 d1_1 d1_2 d1_3 d1_4 d1_5 d1_6 z1 c2_0 c2_1 c2_2 c2_3 c2_4 d2_0 d2_1 d2_2 d2_3 d2_4 z2
  have s7 : w6.heap.size ≤ w7.heap.size := (by have h := hb7.size; first | omega | (simp at h; omega))
  obtain ⟨c0_0, c0_1, c0_2, c0_3, c0_4, d0_0, d0_1, d0_2, d0_3, d0_4⟩ := cells5 B0_7
  have z0 : w.heap.size < w7.heap.size := B0_7.lt
  obtain ⟨c1_0, c1_1, c1_2, c1_3, c1_4, c1_5, c1_6, d1_0, d1_1, d1_2, d1_3, d1_4, d1_5, d1_6⟩ := cells7 B1_7
  have z1 : w2.heap.size < w7.heap.size := B1_7.lt
  obtain ⟨c2_0, c2_1, c2_2, c2_3, c2_4, d2_0, d2_1, d2_2, d2_3, d2_4⟩ := cells5 B2_7
  have z2 : w2.heap.size + 1 < w7.heap.size := B2_7.lt
  go_wp2_with (fail)
  go_at_call 80
  refine (sysSame_ (Bx no w.heap.size (w2.heap.size + 2)) _ _ t t _ (IsSys.keep hu (by with_reducible (repeat (first | assumption | exact Keep.refl _ _ | refine Keep.alloc ?_ _ | refine Keep.s ?_ (by first | assumption | exact Bx.mem (by omega) (by omega) | exact Up.mem (by omega)) | refine Keep.n ?_ (by omega) | refine Keep.ext ?_ (by assumption) | refine Keep.drew ?_)))) (IsSys.keep hu (by with_reducible (repeat (first | assumption | exact Keep.refl _ _ | refine Keep.alloc ?_ _ | refine Keep.s ?_ (by first | assumption | exact Bx.mem (by omega) (by omega) | exact Up.mem (by omega)) | refine Keep.n ?_ (by omega) | refine Keep.ext ?_ (by assumption) | refine Keep.drew ?_))))).calls.mono ?_
  rintro e w8 ⟨_, rfl, hb8, rfl⟩
  rw [F3.out]
  have B0_8 : Box w8 (w.heap.size) #[.slice aw s.M.W.length cw, .slice ag s.M.G.length cg, .bool s.M.bad, .slice (some ⟨bc, oc, none⟩) s.C.length cc, .slice al s.L.length cl] 83 := B0_7.ext hb8
  have B1_8 : Box w8 (w2.heap.size) #[.slice fa2 fa2n fc2, .int .i64 co.V, .int .i64 co.E, .int .i64 (gi co.X 0), .int .i64 (gi co.X 1), .int .i64 (gi co.X 2), .slice ar co.Ret.length cr] 116 := B1_7.ext hb8
  have B2_8 : Box w8 (w2.heap.size + 1) #[.slice r1 t.M.W.length r2, .slice r3 t.M.G.length r4, .bool t.M.bad, .slice r5 t.C.length r6, .slice r7 t.L.length r8] 83 := B2_7.ext hb8
  clear c0_0 c0_1 c0_2 c0_3 c0_4 d0_0 d0_1 d0_2 d0_3 d0_4 z0 c1_0 c1_1 c1_2 c1_3 c1_4 c1_5 c1_6 d1_0 d1_1 d1_2 d1_3 d1_4 d1_5 d1_6 z1 c2_0 c2_1 c2_2 c2_3 c2_4 d2_0 d2_1 d2_2 d2_3 d2_4 z2
  have s8 : w7.heap.size ≤ w8.heap.size := (by have h := hb8.size; first | omega | (simp at h; omega))
  obtain ⟨c0_0, c0_1, c0_2, c0_3, c0_4, d0_0, d0_1, d0_2, d0_3, d0_4⟩ := cells5 B0_8
  have z0 : w.heap.size < w8.heap.size := B0_8.lt
  obtain ⟨c1_0, c1_1, c1_2, c1_3, c1_4, c1_5, c1_6, d1_0, d1_1, d1_2, d1_3, d1_4, d1_5, d1_6⟩ := cells7 B1_8
  have z1 : w2.heap.size < w8.heap.size := B1_8.lt
  obtain ⟨c2_0, c2_1, c2_2, c2_3, c2_4, d2_0, d2_1, d2_2, d2_3, d2_4⟩ := cells5 B2_8
  have z2 : w2.heap.size + 1 < w8.heap.size := B2_8.lt
  go_wp2
  go_ret
  exact ⟨_, rfl, (by with_reducible (repeat (first | assumption | exact Ext.refl _ | refine Ext.alloc' ?_ _ | refine Ext.store0 ?_ _ _ | refine Ext.storek ?_ _ _ _ | refine Ext.storen ?_ (by omega) | refine Ext.stores0 ?_ ?_ _ _ | refine Ext.storesk ?_ ?_ _ _ _ | refine Ext.drewN' ?_ _ | refine Ext.drew' ?_ | refine Ext.trans ?_ (by assumption)))), rfl⟩

set_option maxHeartbeats 4000000 in
set_option maxRecDepth 100000 in
theorem coreSame_4 (aw ag al af ar : Option Addr) (cw cg cc cl bc oc cf cr k : Nat) (s t : SysD) (co : CoreD) (iv wh : Int) (w : World) (hw : IsInts no w (.slice aw s.M.W.length cw) s.M.W) (hg : IsInts no w (.slice ag s.M.G.length cg) s.M.G) (hc : IsCores no w (.slice (some ⟨bc, oc, none⟩) s.C.length cc) s.C) (hl : IsEvs no w (.slice al s.L.length cl) s.L)
    (xc : bc < w.heap.size) (hx3 : co.X.length = 3) (hf : IsFrames no w (.slice af co.F.length cf) co.F) (hr : IsInts no w (.slice ar co.Ret.length cr) co.Ret)
    (e0 : w.cell? ⟨bc, oc + k * 7, none⟩ = some (.slice af co.F.length cf))
    (e1 : w.cell? ⟨bc, oc + k * 7 + 1, none⟩ = some (.int .i64 co.V))
    (e2 : w.cell? ⟨bc, oc + k * 7 + 2, none⟩ = some (.int .i64 co.E))
    (e3 : w.cell? ⟨bc, oc + k * 7 + 3, none⟩ = some (.int .i64 (gi co.X 0)))
    (e4 : w.cell? ⟨bc, oc + k * 7 + 4, none⟩ = some (.int .i64 (gi co.X 1)))
    (e5 : w.cell? ⟨bc, oc + k * 7 + 5, none⟩ = some (.int .i64 (gi co.X 2)))
    (e6 : w.cell? ⟨bc, oc + k * 7 + 6, none⟩ = some (.slice ar co.Ret.length cr))
    (km : ∀ w', Ext w w' → Gives Proofs.Try.prog 83 #[.agg #[.slice aw s.M.W.length cw, .slice ag s.M.G.length cg, .bool s.M.bad, .slice (some ⟨bc, oc, none⟩) s.C.length cc, .slice al s.L.length cl], .int .i64 60] w' (eqv (.bool true)))
    (hi0 : 0 ≤ iv) (hi1 : iv ≤ 255) (hq0 : 0 ≤ wh) (hq1 : wh ≤ 255) (hmod : iv % (s.C.length : Int) = (k : Int)) (hq : wh % 7 = 4) (hk : k < s.C.length) (hC1 : 1 ≤ s.C.length) (hC : s.C.length ≤ 100000) (hFl : co.F.length ≤ 1000) (hRl : co.Ret.length ≤ 1000) (hLl : s.L.length ≤ 1000)
    (ht : withS (s) k ({ co with X := co.X.set 1 (wrap64 (gi co.X 1 + 1)) }) = t) (f1 : sameS s t = false) (f2 : sameS t s = false) (f3 : sameS t t = true) :
    Gives Proofs.Try.prog 23 #[.agg #[.slice aw s.M.W.length cw, .slice ag s.M.G.length cg, .bool s.M.bad, .slice (some ⟨bc, oc, none⟩) s.C.length cc, .slice al s.L.length cl], .int .u8 iv, .int .u8 wh] w (eqv (.bool true)) := by
  have hwU := hw.up
  have hgU := hg.up
  have hcU := IsCores.less hc (M := Up no w) fun x hx hn => hn.elim (fun q => q) fun k => absurd k (by omega)
  have hlU := IsEvs.less hl (M := Up no w) fun x hx hn => hn.elim (fun q => q) fun k => absurd k (by omega)
  have hfU := IsFrames.up hf
  have hrU := hr.up
  have hk1 : (k : Int) < (s.C.length : Int) := by omega
  have hC2 : ¬ (s.C.length : Int) = 0 := by omega
  have HT := Lib.hid ht; have F1 := Lib.hid f1; have F2 := Lib.hid f2; have F3 := Lib.hid f3; have HX3 := Lib.hid hx3
  clear ht f1 f2 f3 hx3
  go_enter Proofs.Try.func23, Proofs.Try.ntmps23
  go_wp2_with (fail)
  go_at_call 73
  refine (shown3_ _).calls.mono ?_
  rintro e w1 ⟨_, rfl, hb1, rfl⟩
  have B0_1 : Box w1 (w.heap.size) #[.slice aw s.M.W.length cw, .slice ag s.M.G.length cg, .bool s.M.bad, .slice (some ⟨bc, oc, none⟩) s.C.length cc, .slice al s.L.length cl] 83 := (Box.newAt _ _ _ (by first | rfl | simp)).ext hb1
  have s1 : w.heap.size + 1 ≤ w1.heap.size := (by have h := hb1.size; first | omega | (simp at h; omega))
  obtain ⟨c0_0, c0_1, c0_2, c0_3, c0_4, d0_0, d0_1, d0_2, d0_3, d0_4⟩ := cells5 B0_1
  have z0 : w.heap.size < w1.heap.size := B0_1.lt
  go_wp2_with (fail)
  go_at_call 83
  refine (km _ (by with_reducible (repeat (first | assumption | exact Ext.refl _ | refine Ext.alloc' ?_ _ | refine Ext.store0 ?_ _ _ | refine Ext.storek ?_ _ _ _ | refine Ext.stores0 ?_ ?_ _ _ | refine Ext.storesk ?_ ?_ _ _ _ | refine Ext.drewN' ?_ _ | refine Ext.drew' ?_ | refine Ext.trans ?_ (by assumption))))).calls.mono ?_
  rintro e w2 ⟨_, rfl, hb2, rfl⟩
  have hE2 : Ext w w2 := (by with_reducible (repeat (first | assumption | exact Ext.refl _ | refine Ext.alloc' ?_ _ | refine Ext.store0 ?_ _ _ | refine Ext.storek ?_ _ _ _ | refine Ext.stores0 ?_ ?_ _ _ | refine Ext.storesk ?_ ?_ _ _ _ | refine Ext.drewN' ?_ _ | refine Ext.drew' ?_ | refine Ext.trans ?_ (by assumption))))
  have xc2 : bc < w2.heap.size := Nat.lt_of_lt_of_le xc hE2.size
  have e0a := cell_ext e0 hE2
  have e1a := cell_ext e1 hE2
  have e2a := cell_ext e2 hE2
  have e3a := cell_ext e3 hE2
  have e4a := cell_ext e4 hE2
  have e5a := cell_ext e5 hE2
  have e6a := cell_ext e6 hE2
  have B0_2 : Box w2 (w.heap.size) #[.slice aw s.M.W.length cw, .slice ag s.M.G.length cg, .bool s.M.bad, .slice (some ⟨bc, oc, none⟩) s.C.length cc, .slice al s.L.length cl] 83 := B0_1.ext hb2
  clear c0_0 c0_1 c0_2 c0_3 c0_4 d0_0 d0_1 d0_2 d0_3 d0_4 z0
  have s2 : w1.heap.size ≤ w2.heap.size := (by have h := hb2.size; first | omega | (simp at h; omega))
  obtain ⟨c0_0, c0_1, c0_2, c0_3, c0_4, d0_0, d0_1, d0_2, d0_3, d0_4⟩ := cells5 B0_2
  have z0 : w.heap.size < w2.heap.size := B0_2.lt
  go_wp2_with (fail)
  go_at_call 92
  refine (with_ (Bx no w.heap.size (w2.heap.size + 2)) _ _ (s) k ({ co with X := co.X.set 1 (wrap64 (gi co.X 1 + 1)) }) _ (IsSys.bx (IsSys.mk rfl (IsInts.keep hwU (by with_reducible (repeat (first | assumption | exact Keep.refl _ _ | refine Keep.alloc ?_ _ | refine Keep.s ?_ (by first | assumption | exact Bx.mem (by omega) (by omega) | exact Up.mem (by omega)) | refine Keep.n ?_ (by omega) | refine Keep.ext ?_ (by assumption) | refine Keep.drew ?_)))) (IsInts.keep hgU (by with_reducible (repeat (first | assumption | exact Keep.refl _ _ | refine Keep.alloc ?_ _ | refine Keep.s ?_ (by first | assumption | exact Bx.mem (by omega) (by omega) | exact Up.mem (by omega)) | refine Keep.n ?_ (by omega) | refine Keep.ext ?_ (by assumption) | refine Keep.drew ?_)))) (IsCores.keep hcU (by with_reducible (repeat (first | assumption | exact Keep.refl _ _ | refine Keep.alloc ?_ _ | refine Keep.s ?_ (by first | assumption | exact Bx.mem (by omega) (by omega) | exact Up.mem (by omega)) | refine Keep.n ?_ (by omega) | refine Keep.ext ?_ (by assumption) | refine Keep.drew ?_)))) (IsEvs.keep hlU (by with_reducible (repeat (first | assumption | exact Keep.refl _ _ | refine Keep.alloc ?_ _ | refine Keep.s ?_ (by first | assumption | exact Bx.mem (by omega) (by omega) | exact Up.mem (by omega)) | refine Keep.n ?_ (by omega) | refine Keep.ext ?_ (by assumption) | refine Keep.drew ?_)))) : IsSys (Up no w) _ _ s)) (IsCoreV.x1 HX3.out (IsFrames.keep (IsFrames.bx hfU) (by with_reducible (repeat (first | assumption | exact Keep.refl _ _ | refine Keep.alloc ?_ _ | refine Keep.s ?_ (by first | assumption | exact Bx.mem (by omega) (by omega) | exact Up.mem (by omega)) | refine Keep.n ?_ (by omega) | refine Keep.ext ?_ (by assumption) | refine Keep.drew ?_)))) (IsInts.keep (IsInts.bx hrU) (by with_reducible (repeat (first | assumption | exact Keep.refl _ _ | refine Keep.alloc ?_ _ | refine Keep.s ?_ (by first | assumption | exact Bx.mem (by omega) (by omega) | exact Up.mem (by omega)) | refine Keep.n ?_ (by omega) | refine Keep.ext ?_ (by assumption) | refine Keep.drew ?_))))) (fun b hb => (by have h := hb.elim False.elim (fun q => q.2); first | omega | (simp <;> omega))) hC hk).calls.mono ?_
  rintro e w3 ⟨_, rfl, hb3, hu⟩
  rw [HT.out] at hu
  obtain ⟨r1, r2, r3, r4, r5, r6, r7, r8, rfl, rW, rG, rC, rL⟩ := hu.opened
  have B0_3 : Box w3 (w.heap.size) #[.slice aw s.M.W.length cw, .slice ag s.M.G.length cg, .bool s.M.bad, .slice (some ⟨bc, oc, none⟩) s.C.length cc, .slice al s.L.length cl] 83 := ((B0_2.alloc _).alloc _).ext hb3
  have B1_3 : Box w3 (w2.heap.size) #[.slice af co.F.length cf, .int .i64 co.V, .int .i64 co.E, .int .i64 (gi co.X 0), .int .i64 (wrap64 (gi co.X 1 + 1)), .int .i64 (gi co.X 2), .slice ar co.Ret.length cr] 116 := ((Box.newAt _ _ _ (by first | rfl | simp)).alloc _).ext hb3
  have B2_3 : Box w3 (w2.heap.size + 1) #[.slice aw s.M.W.length cw, .slice ag s.M.G.length cg, .bool s.M.bad, .slice (some ⟨bc, oc, none⟩) s.C.length cc, .slice al s.L.length cl] 83 := (Box.newAt _ _ _ (by first | rfl | simp)).ext hb3
  clear c0_0 c0_1 c0_2 c0_3 c0_4 d0_0 d0_1 d0_2 d0_3 d0_4 z0
  have s3 : w2.heap.size + 2 ≤ w3.heap.size := (by have h := hb3.size; first | omega | (simp at h; omega))
  obtain ⟨c0_0, c0_1, c0_2, c0_3, c0_4, d0_0, d0_1, d0_2, d0_3, d0_4⟩ := cells5 B0_3
  have z0 : w.heap.size < w3.heap.size := B0_3.lt
  obtain ⟨c1_0, c1_1, c1_2, c1_3, c1_4, c1_5, c1_6, d1_0, d1_1, d1_2, d1_3, d1_4, d1_5, d1_6⟩ := cells7 B1_3
  have z1 : w2.heap.size < w3.heap.size := B1_3.lt
  obtain ⟨c2_0, c2_1, c2_2, c2_3, c2_4, d2_0, d2_1, d2_2, d2_3, d2_4⟩ := cells5 B2_3
  have z2 : w2.heap.size + 1 < w3.heap.size := B2_3.lt
  go_wp2_with (fail)
  go_at_call 80
  refine (sysSame_ (Bx no w.heap.size (w2.heap.size + 2)) _ _ s t _ (IsSys.bx (IsSys.mk rfl (IsInts.keep hwU (by with_reducible (repeat (first | assumption | exact Keep.refl _ _ | refine Keep.alloc ?_ _ | refine Keep.s ?_ (by first | assumption | exact Bx.mem (by omega) (by omega) | exact Up.mem (by omega)) | refine Keep.n ?_ (by omega) | refine Keep.ext ?_ (by assumption) | refine Keep.drew ?_)))) (IsInts.keep hgU (by with_reducible (repeat (first | assumption | exact Keep.refl _ _ | refine Keep.alloc ?_ _ | refine Keep.s ?_ (by first | assumption | exact Bx.mem (by omega) (by omega) | exact Up.mem (by omega)) | refine Keep.n ?_ (by omega) | refine Keep.ext ?_ (by assumption) | refine Keep.drew ?_)))) (IsCores.keep hcU (by with_reducible (repeat (first | assumption | exact Keep.refl _ _ | refine Keep.alloc ?_ _ | refine Keep.s ?_ (by first | assumption | exact Bx.mem (by omega) (by omega) | exact Up.mem (by omega)) | refine Keep.n ?_ (by omega) | refine Keep.ext ?_ (by assumption) | refine Keep.drew ?_)))) (IsEvs.keep hlU (by with_reducible (repeat (first | assumption | exact Keep.refl _ _ | refine Keep.alloc ?_ _ | refine Keep.s ?_ (by first | assumption | exact Bx.mem (by omega) (by omega) | exact Up.mem (by omega)) | refine Keep.n ?_ (by omega) | refine Keep.ext ?_ (by assumption) | refine Keep.drew ?_)))) : IsSys (Up no w) _ _ s)) (IsSys.keep hu (by with_reducible (repeat (first | assumption | exact Keep.refl _ _ | refine Keep.alloc ?_ _ | refine Keep.s ?_ (by first | assumption | exact Bx.mem (by omega) (by omega) | exact Up.mem (by omega)) | refine Keep.n ?_ (by omega) | refine Keep.ext ?_ (by assumption) | refine Keep.drew ?_))))).calls.mono ?_
  rintro e w4 ⟨_, rfl, hb4, rfl⟩
  rw [F1.out]
  have B0_4 : Box w4 (w.heap.size) #[.slice aw s.M.W.length cw, .slice ag s.M.G.length cg, .bool s.M.bad, .slice (some ⟨bc, oc, none⟩) s.C.length cc, .slice al s.L.length cl] 83 := (((((B0_3.setOther (by first | omega | (simp <;> omega)) _).setOther (by first | omega | (simp <;> omega)) _).setOther (by first | omega | (simp <;> omega)) _).setOther (by first | omega | (simp <;> omega)) _).setOther (by first | omega | (simp <;> omega)) _).ext hb4
  have B1_4 : Box w4 (w2.heap.size) #[.slice af co.F.length cf, .int .i64 co.V, .int .i64 co.E, .int .i64 (gi co.X 0), .int .i64 (wrap64 (gi co.X 1 + 1)), .int .i64 (gi co.X 2), .slice ar co.Ret.length cr] 116 := (((((B1_3.setOther (by first | omega | (simp <;> omega)) _).setOther (by first | omega | (simp <;> omega)) _).setOther (by first | omega | (simp <;> omega)) _).setOther (by first | omega | (simp <;> omega)) _).setOther (by first | omega | (simp <;> omega)) _).ext hb4
  have B2_4 : Box w4 (w2.heap.size + 1) #[.slice r1 t.M.W.length r2, .slice r3 t.M.G.length r4, .bool t.M.bad, .slice r5 t.C.length r6, .slice r7 t.L.length r8] 83 := (((((B2_3.setCell _).setCell _).setCell _).setCell _).setCell _).ext hb4
  clear c0_0 c0_1 c0_2 c0_3 c0_4 d0_0 d0_1 d0_2 d0_3 d0_4 z0 c1_0 c1_1 c1_2 c1_3 c1_4 c1_5 c1_6 d1_0 d1_1 d1_2 d1_3 d1_4 d1_5 d1_6 z1 c2_0 c2_1 c2_2 c2_3 c2_4 d2_0 d2_1 d2_2 d2_3 d2_4 z2
  have s4 : w3.heap.size ≤ w4.heap.size := (by have h := hb4.size; first | omega | (simp at h; omega))
  obtain ⟨c0_0, c0_1, c0_2, c0_3, c0_4, d0_0, d0_1, d0_2, d0_3, d0_4⟩ := cells5 B0_4
  have z0 : w.heap.size < w4.heap.size := B0_4.lt
  obtain ⟨c1_0, c1_1, c1_2, c1_3, c1_4, c1_5, c1_6, d1_0, d1_1, d1_2, d1_3, d1_4, d1_5, d1_6⟩ := cells7 B1_4
  have z1 : w2.heap.size < w4.heap.size := B1_4.lt
  obtain ⟨c2_0, c2_1, c2_2, c2_3, c2_4, d2_0, d2_1, d2_2, d2_3, d2_4⟩ := cells5 B2_4
  have z2 : w2.heap.size + 1 < w4.heap.size := B2_4.lt
  go_wp2_with (fail)
  go_at_call 80
  refine (sysSame_ (Bx no w.heap.size (w2.heap.size + 2)) _ _ t s _ (IsSys.keep hu (by with_reducible (repeat (first | assumption | exact Keep.refl _ _ | refine Keep.alloc ?_ _ | refine Keep.s ?_ (by first | assumption | exact Bx.mem (by omega) (by omega) | exact Up.mem (by omega)) | refine Keep.n ?_ (by omega) | refine Keep.ext ?_ (by assumption) | refine Keep.drew ?_)))) (IsSys.bx (IsSys.mk rfl (IsInts.keep hwU (by with_reducible (repeat (first | assumption | exact Keep.refl _ _ | refine Keep.alloc ?_ _ | refine Keep.s ?_ (by first | assumption | exact Bx.mem (by omega) (by omega) | exact Up.mem (by omega)) | refine Keep.n ?_ (by omega) | refine Keep.ext ?_ (by assumption) | refine Keep.drew ?_)))) (IsInts.keep hgU (by with_reducible (repeat (first | assumption | exact Keep.refl _ _ | refine Keep.alloc ?_ _ | refine Keep.s ?_ (by first | assumption | exact Bx.mem (by omega) (by omega) | exact Up.mem (by omega)) | refine Keep.n ?_ (by omega) | refine Keep.ext ?_ (by assumption) | refine Keep.drew ?_)))) (IsCores.keep hcU (by with_reducible (repeat (first | assumption | exact Keep.refl _ _ | refine Keep.alloc ?_ _ | refine Keep.s ?_ (by first | assumption | exact Bx.mem (by omega) (by omega) | exact Up.mem (by omega)) | refine Keep.n ?_ (by omega) | refine Keep.ext ?_ (by assumption) | refine Keep.drew ?_)))) (IsEvs.keep hlU (by with_reducible (repeat (first | assumption | exact Keep.refl _ _ | refine Keep.alloc ?_ _ | refine Keep.s ?_ (by first | assumption | exact Bx.mem (by omega) (by omega) | exact Up.mem (by omega)) | refine Keep.n ?_ (by omega) | refine Keep.ext ?_ (by assumption) | refine Keep.drew ?_)))) : IsSys (Up no w) _ _ s))).calls.mono ?_
  rintro e w5 ⟨_, rfl, hb5, rfl⟩
  rw [F2.out]
  have B0_5 : Box w5 (w.heap.size) #[.slice aw s.M.W.length cw, .slice ag s.M.G.length cg, .bool s.M.bad, .slice (some ⟨bc, oc, none⟩) s.C.length cc, .slice al s.L.length cl] 83 := B0_4.ext hb5
  have B1_5 : Box w5 (w2.heap.size) #[.slice af co.F.length cf, .int .i64 co.V, .int .i64 co.E, .int .i64 (gi co.X 0), .int .i64 (wrap64 (gi co.X 1 + 1)), .int .i64 (gi co.X 2), .slice ar co.Ret.length cr] 116 := B1_4.ext hb5
  have B2_5 : Box w5 (w2.heap.size + 1) #[.slice r1 t.M.W.length r2, .slice r3 t.M.G.length r4, .bool t.M.bad, .slice r5 t.C.length r6, .slice r7 t.L.length r8] 83 := B2_4.ext hb5
  clear c0_0 c0_1 c0_2 c0_3 c0_4 d0_0 d0_1 d0_2 d0_3 d0_4 z0 c1_0 c1_1 c1_2 c1_3 c1_4 c1_5 c1_6 d1_0 d1_1 d1_2 d1_3 d1_4 d1_5 d1_6 z1 c2_0 c2_1 c2_2 c2_3 c2_4 d2_0 d2_1 d2_2 d2_3 d2_4 z2
  have s5 : w4.heap.size ≤ w5.heap.size := (by have h := hb5.size; first | omega | (simp at h; omega))
  obtain ⟨c0_0, c0_1, c0_2, c0_3, c0_4, d0_0, d0_1, d0_2, d0_3, d0_4⟩ := cells5 B0_5
  have z0 : w.heap.size < w5.heap.size := B0_5.lt
  obtain ⟨c1_0, c1_1, c1_2, c1_3, c1_4, c1_5, c1_6, d1_0, d1_1, d1_2, d1_3, d1_4, d1_5, d1_6⟩ := cells7 B1_5
  have z1 : w2.heap.size < w5.heap.size := B1_5.lt
  obtain ⟨c2_0, c2_1, c2_2, c2_3, c2_4, d2_0, d2_1, d2_2, d2_3, d2_4⟩ := cells5 B2_5
  have z2 : w2.heap.size + 1 < w5.heap.size := B2_5.lt
  go_wp2_with (fail)
  go_at_call 80
  refine (sysSame_ (Bx no w.heap.size (w2.heap.size + 2)) _ _ t t _ (IsSys.keep hu (by with_reducible (repeat (first | assumption | exact Keep.refl _ _ | refine Keep.alloc ?_ _ | refine Keep.s ?_ (by first | assumption | exact Bx.mem (by omega) (by omega) | exact Up.mem (by omega)) | refine Keep.n ?_ (by omega) | refine Keep.ext ?_ (by assumption) | refine Keep.drew ?_)))) (IsSys.keep hu (by with_reducible (repeat (first | assumption | exact Keep.refl _ _ | refine Keep.alloc ?_ _ | refine Keep.s ?_ (by first | assumption | exact Bx.mem (by omega) (by omega) | exact Up.mem (by omega)) | refine Keep.n ?_ (by omega) | refine Keep.ext ?_ (by assumption) | refine Keep.drew ?_))))).calls.mono ?_
  rintro e w6 ⟨_, rfl, hb6, rfl⟩
  rw [F3.out]
  have B0_6 : Box w6 (w.heap.size) #[.slice aw s.M.W.length cw, .slice ag s.M.G.length cg, .bool s.M.bad, .slice (some ⟨bc, oc, none⟩) s.C.length cc, .slice al s.L.length cl] 83 := B0_5.ext hb6
  have B1_6 : Box w6 (w2.heap.size) #[.slice af co.F.length cf, .int .i64 co.V, .int .i64 co.E, .int .i64 (gi co.X 0), .int .i64 (wrap64 (gi co.X 1 + 1)), .int .i64 (gi co.X 2), .slice ar co.Ret.length cr] 116 := B1_5.ext hb6
  have B2_6 : Box w6 (w2.heap.size + 1) #[.slice r1 t.M.W.length r2, .slice r3 t.M.G.length r4, .bool t.M.bad, .slice r5 t.C.length r6, .slice r7 t.L.length r8] 83 := B2_5.ext hb6
  clear c0_0 c0_1 c0_2 c0_3 c0_4 d0_0 d0_1 d0_2 d0_3 d0_4 z0 c1_0 c1_1 c1_2 c1_3 c1_4 c1_5 c1_6 d1_0 d1_1 d1_2 d1_3 d1_4 d1_5 d1_6 z1 c2_0 c2_1 c2_2 c2_3 c2_4 d2_0 d2_1 d2_2 d2_3 d2_4 z2
  have s6 : w5.heap.size ≤ w6.heap.size := (by have h := hb6.size; first | omega | (simp at h; omega))
  obtain ⟨c0_0, c0_1, c0_2, c0_3, c0_4, d0_0, d0_1, d0_2, d0_3, d0_4⟩ := cells5 B0_6
  have z0 : w.heap.size < w6.heap.size := B0_6.lt
  obtain ⟨c1_0, c1_1, c1_2, c1_3, c1_4, c1_5, c1_6, d1_0, d1_1, d1_2, d1_3, d1_4, d1_5, d1_6⟩ := cells7 B1_6
  have z1 : w2.heap.size < w6.heap.size := B1_6.lt
  obtain ⟨c2_0, c2_1, c2_2, c2_3, c2_4, d2_0, d2_1, d2_2, d2_3, d2_4⟩ := cells5 B2_6
  have z2 : w2.heap.size + 1 < w6.heap.size := B2_6.lt
  go_wp2
  go_ret
  exact ⟨_, rfl, (by with_reducible (repeat (first | assumption | exact Ext.refl _ | refine Ext.alloc' ?_ _ | refine Ext.store0 ?_ _ _ | refine Ext.storek ?_ _ _ _ | refine Ext.storen ?_ (by omega) | refine Ext.stores0 ?_ ?_ _ _ | refine Ext.storesk ?_ ?_ _ _ _ | refine Ext.drewN' ?_ _ | refine Ext.drew' ?_ | refine Ext.trans ?_ (by assumption)))), rfl⟩

set_option maxHeartbeats 4000000 in
set_option maxRecDepth 100000 in
theorem coreSame_5 (aw ag al af ar : Option Addr) (cw cg cc cl bc oc cf cr k : Nat) (s t : SysD) (co : CoreD) (iv wh : Int) (w : World) (hw : IsInts no w (.slice aw s.M.W.length cw) s.M.W) (hg : IsInts no w (.slice ag s.M.G.length cg) s.M.G) (hc : IsCores no w (.slice (some ⟨bc, oc, none⟩) s.C.length cc) s.C) (hl : IsEvs no w (.slice al s.L.length cl) s.L)
    (xc : bc < w.heap.size) (hx3 : co.X.length = 3) (hf : IsFrames no w (.slice af co.F.length cf) co.F) (hr : IsInts no w (.slice ar co.Ret.length cr) co.Ret)
    (e0 : w.cell? ⟨bc, oc + k * 7, none⟩ = some (.slice af co.F.length cf))
    (e1 : w.cell? ⟨bc, oc + k * 7 + 1, none⟩ = some (.int .i64 co.V))
    (e2 : w.cell? ⟨bc, oc + k * 7 + 2, none⟩ = some (.int .i64 co.E))
    (e3 : w.cell? ⟨bc, oc + k * 7 + 3, none⟩ = some (.int .i64 (gi co.X 0)))
    (e4 : w.cell? ⟨bc, oc + k * 7 + 4, none⟩ = some (.int .i64 (gi co.X 1)))
    (e5 : w.cell? ⟨bc, oc + k * 7 + 5, none⟩ = some (.int .i64 (gi co.X 2)))
    (e6 : w.cell? ⟨bc, oc + k * 7 + 6, none⟩ = some (.slice ar co.Ret.length cr))
    (km : ∀ w', Ext w w' → Gives Proofs.Try.prog 83 #[.agg #[.slice aw s.M.W.length cw, .slice ag s.M.G.length cg, .bool s.M.bad, .slice (some ⟨bc, oc, none⟩) s.C.length cc, .slice al s.L.length cl], .int .i64 60] w' (eqv (.bool true)))
    (hi0 : 0 ≤ iv) (hi1 : iv ≤ 255) (hq0 : 0 ≤ wh) (hq1 : wh ≤ 255) (hmod : iv % (s.C.length : Int) = (k : Int)) (hq : wh % 7 = 5) (hk : k < s.C.length) (hC1 : 1 ≤ s.C.length) (hC : s.C.length ≤ 100000) (hFl : co.F.length ≤ 1000) (hRl : co.Ret.length ≤ 1000) (hLl : s.L.length ≤ 1000)
    (ht : withS ({ s with L := [] ++ s.L ++ [zeroE] }) k (co) = t) (f1 : sameS s t = false) (f2 : sameS t s = false) (f3 : sameS t t = true) :
    Gives Proofs.Try.prog 23 #[.agg #[.slice aw s.M.W.length cw, .slice ag s.M.G.length cg, .bool s.M.bad, .slice (some ⟨bc, oc, none⟩) s.C.length cc, .slice al s.L.length cl], .int .u8 iv, .int .u8 wh] w (eqv (.bool true)) := by
  have hwU := hw.up
  have hgU := hg.up
  have hcU := IsCores.less hc (M := Up no w) fun x hx hn => hn.elim (fun q => q) fun k => absurd k (by omega)
  have hlU := IsEvs.less hl (M := Up no w) fun x hx hn => hn.elim (fun q => q) fun k => absurd k (by omega)
  have hfU := IsFrames.up hf
  have hrU := hr.up
  have hk1 : (k : Int) < (s.C.length : Int) := by omega
  have hC2 : ¬ (s.C.length : Int) = 0 := by omega
  have HT := Lib.hid ht; have F1 := Lib.hid f1; have F2 := Lib.hid f2; have F3 := Lib.hid f3; have HX3 := Lib.hid hx3
  clear ht f1 f2 f3 hx3
  go_enter Proofs.Try.func23, Proofs.Try.ntmps23
  go_wp2_with (fail)
  go_at_call 73
  refine (shown3_ _).calls.mono ?_
  rintro e w1 ⟨_, rfl, hb1, rfl⟩
  have B0_1 : Box w1 (w.heap.size) #[.slice aw s.M.W.length cw, .slice ag s.M.G.length cg, .bool s.M.bad, .slice (some ⟨bc, oc, none⟩) s.C.length cc, .slice al s.L.length cl] 83 := (Box.newAt _ _ _ (by first | rfl | simp)).ext hb1
  have s1 : w.heap.size + 1 ≤ w1.heap.size := (by have h := hb1.size; first | omega | (simp at h; omega))
  obtain ⟨c0_0, c0_1, c0_2, c0_3, c0_4, d0_0, d0_1, d0_2, d0_3, d0_4⟩ := cells5 B0_1
  have z0 : w.heap.size < w1.heap.size := B0_1.lt
  go_wp2_with (fail)
  go_at_call 83
  refine (km _ (by with_reducible (repeat (first | assumption | exact Ext.refl _ | refine Ext.alloc' ?_ _ | refine Ext.store0 ?_ _ _ | refine Ext.storek ?_ _ _ _ | refine Ext.stores0 ?_ ?_ _ _ | refine Ext.storesk ?_ ?_ _ _ _ | refine Ext.drewN' ?_ _ | refine Ext.drew' ?_ | refine Ext.trans ?_ (by assumption))))).calls.mono ?_
  rintro e w2 ⟨_, rfl, hb2, rfl⟩
  have hE2 : Ext w w2 := (by with_reducible (repeat (first | assumption | exact Ext.refl _ | refine Ext.alloc' ?_ _ | refine Ext.store0 ?_ _ _ | refine Ext.storek ?_ _ _ _ | refine Ext.stores0 ?_ ?_ _ _ | refine Ext.storesk ?_ ?_ _ _ _ | refine Ext.drewN' ?_ _ | refine Ext.drew' ?_ | refine Ext.trans ?_ (by assumption))))
  have xc2 : bc < w2.heap.size := Nat.lt_of_lt_of_le xc hE2.size
  have e0a := cell_ext e0 hE2
  have e1a := cell_ext e1 hE2
  have e2a := cell_ext e2 hE2
  have e3a := cell_ext e3 hE2
  have e4a := cell_ext e4 hE2
  have e5a := cell_ext e5 hE2
  have e6a := cell_ext e6 hE2
  have y0 : w.heap.size < w2.heap.size := (by have h1 := hb1.size; have h2 := hb2.size; simp at h1; omega)
  have y0a : w.heap.size < w2.heap.size + 1 := (by omega)
  have y0b : w.heap.size < w2.heap.size + 1 + 1 := (by omega)
  have B0_2 : Box w2 (w.heap.size) #[.slice aw s.M.W.length cw, .slice ag s.M.G.length cg, .bool s.M.bad, .slice (some ⟨bc, oc, none⟩) s.C.length cc, .slice al s.L.length cl] 83 := B0_1.ext hb2
  clear c0_0 c0_1 c0_2 c0_3 c0_4 d0_0 d0_1 d0_2 d0_3 d0_4 z0
  have s2 : w1.heap.size ≤ w2.heap.size := (by have h := hb2.size; first | omega | (simp at h; omega))
  obtain ⟨c0_0, c0_1, c0_2, c0_3, c0_4, d0_0, d0_1, d0_2, d0_3, d0_4⟩ := cells5 B0_2
  have z0 : w.heap.size < w2.heap.size := B0_2.lt
  go_wp2_with (first | (at_builtin; refine wpList_append_gen (base := w2.heap.size + 1 + 1) rowE zs5 (by decide) one_ev (fun _ _ _ _ h => h) (.tmp 71) (.tmp 73) rfl rfl rfl rfl (OwnSl.nil (Box.newAt _ _ _ (by first | rfl | simp)) (Nat.le_refl _)) (IsEvs.keep hlU (by with_reducible (repeat (first | assumption | exact Keep.refl _ _ | refine Keep.alloc ?_ _ | refine Keep.s ?_ (by first | assumption | exact Bx.mem (by omega) (by omega) | exact Up.mem (by omega)) | refine Keep.n ?_ (by omega) | refine Keep.ext ?_ (by assumption) | refine Keep.drew ?_)))) (by first | omega | (simp <;> omega)) (by first | omega | (simp <;> omega)) ?_; intro fa1 fa1n fc1 w3 Hfa1 ho1 kb3 kx3 ks3; have hb3 : Ext w w3 := kx3 w (by with_reducible (repeat (first | assumption | exact Ext.refl _ | refine Ext.alloc' ?_ _ | refine Ext.store0 ?_ _ _ | refine Ext.storek ?_ _ _ _ | refine Ext.stores0 ?_ ?_ _ _ | refine Ext.storesk ?_ ?_ _ _ _ | refine Ext.drewN' ?_ _ | refine Ext.drew' ?_ | refine Ext.trans ?_ (by assumption)))) (by omega); have B0_3 : Box w3 (w.heap.size) #[.slice aw s.M.W.length cw, .slice ag s.M.G.length cg, .bool s.M.bad, .slice (some ⟨bc, oc, none⟩) s.C.length cc, .slice al s.L.length cl] 83 := kb3 _ _ _ (((B0_2.alloc _).alloc _).alloc _) (by omega); have B1_3 : Box w3 (w2.heap.size) #[.slice af co.F.length cf, .int .i64 co.V, .int .i64 co.E, .int .i64 (gi co.X 0), .int .i64 (gi co.X 1), .int .i64 (gi co.X 2), .slice ar co.Ret.length cr] 116 := kb3 _ _ _ (((Box.newAt _ _ _ (by first | rfl | simp)).alloc _).alloc _) (by omega); have B2_3 : Box w3 (w2.heap.size + 1) #[.slice aw s.M.W.length cw, .slice ag s.M.G.length cg, .bool s.M.bad, .slice (some ⟨bc, oc, none⟩) s.C.length cc, .slice al s.L.length cl] 83 := kb3 _ _ _ ((Box.newAt _ _ _ (by first | rfl | simp)).alloc _) (by omega); clear c0_0 c0_1 c0_2 c0_3 c0_4 d0_0 d0_1 d0_2 d0_3 d0_4 z0; have s3 : w2.heap.size + 3 ≤ w3.heap.size := (by have h := ks3; first | omega | (simp at h; omega)); obtain ⟨c0_0, c0_1, c0_2, c0_3, c0_4, d0_0, d0_1, d0_2, d0_3, d0_4⟩ := cells5 B0_3; have z0 : w.heap.size < w3.heap.size := B0_3.lt; obtain ⟨c1_0, c1_1, c1_2, c1_3, c1_4, c1_5, c1_6, d1_0, d1_1, d1_2, d1_3, d1_4, d1_5, d1_6⟩ := cells7 B1_3; have z1 : w2.heap.size < w3.heap.size := B1_3.lt; obtain ⟨c2_0, c2_1, c2_2, c2_3, c2_4, d2_0, d2_1, d2_2, d2_3, d2_4⟩ := cells5 B2_3; have z2 : w2.heap.size + 1 < w3.heap.size := B2_3.lt) | (at_builtin; refine wpList_append_gen (base := w2.heap.size + 1 + 1) rowE zs5 (by decide) one_ev (fun _ _ _ _ h => h) (.tmp 74) (.tmp 76) rfl rfl rfl rfl (OwnSl.extW ho1 (by with_reducible (repeat (first | assumption | exact Ext.refl _ | refine Ext.alloc' ?_ _ | refine Ext.store0 ?_ _ _ | refine Ext.storek ?_ _ _ _ | refine Ext.stores0 ?_ ?_ _ _ | refine Ext.storesk ?_ ?_ _ _ _ | refine Ext.drewN' ?_ _ | refine Ext.drew' ?_ | refine Ext.trans ?_ (by assumption))))) (IsSl.one (sz := 5) (cs := [.int .i64 0, .int .i64 0, .int .i64 0, .int .i64 0, .int .i64 0]) (x := zeroE) (Box.newAt _ _ _ (by first | rfl | simp)) rfl rfl) (by first | omega | (simp <;> omega)) (by first | omega | (simp <;> omega)) ?_; intro fa2 fa2n fc2 w4 Hfa2 ho2 kb4 kx4 ks4; have hb4 : Ext w w4 := kx4 w (by with_reducible (repeat (first | assumption | exact Ext.refl _ | refine Ext.alloc' ?_ _ | refine Ext.store0 ?_ _ _ | refine Ext.storek ?_ _ _ _ | refine Ext.stores0 ?_ ?_ _ _ | refine Ext.storesk ?_ ?_ _ _ _ | refine Ext.drewN' ?_ _ | refine Ext.drew' ?_ | refine Ext.trans ?_ (by assumption)))) (by omega); have B0_4 : Box w4 (w.heap.size) #[.slice aw s.M.W.length cw, .slice ag s.M.G.length cg, .bool s.M.bad, .slice (some ⟨bc, oc, none⟩) s.C.length cc, .slice al s.L.length cl] 83 := kb4 _ _ _ (B0_3.alloc _) (by omega); have B1_4 : Box w4 (w2.heap.size) #[.slice af co.F.length cf, .int .i64 co.V, .int .i64 co.E, .int .i64 (gi co.X 0), .int .i64 (gi co.X 1), .int .i64 (gi co.X 2), .slice ar co.Ret.length cr] 116 := kb4 _ _ _ (B1_3.alloc _) (by omega); have B2_4 : Box w4 (w2.heap.size + 1) #[.slice aw s.M.W.length cw, .slice ag s.M.G.length cg, .bool s.M.bad, .slice (some ⟨bc, oc, none⟩) s.C.length cc, .slice al s.L.length cl] 83 := kb4 _ _ _ (B2_3.alloc _) (by omega); clear c0_0 c0_1 c0_2 c0_3 c0_4 d0_0 d0_1 d0_2 d0_3 d0_4 z0 c1_0 c1_1 c1_2 c1_3 c1_4 c1_5 c1_6 d1_0 d1_1 d1_2 d1_3 d1_4 d1_5 d1_6 z1 c2_0 c2_1 c2_2 c2_3 c2_4 d2_0 d2_1 d2_2 d2_3 d2_4 z2; have s4 : w3.heap.size + 1 ≤ w4.heap.size := (by have h := ks4; first | omega | (simp at h; omega)); obtain ⟨c0_0, c0_1, c0_2, c0_3, c0_4, d0_0, d0_1, d0_2, d0_3, d0_4⟩ := cells5 B0_4; have z0 : w.heap.size < w4.heap.size := B0_4.lt; obtain ⟨c1_0, c1_1, c1_2, c1_3, c1_4, c1_5, c1_6, d1_0, d1_1, d1_2, d1_3, d1_4, d1_5, d1_6⟩ := cells7 B1_4; have z1 : w2.heap.size < w4.heap.size := B1_4.lt; obtain ⟨c2_0, c2_1, c2_2, c2_3, c2_4, d2_0, d2_1, d2_2, d2_3, d2_4⟩ := cells5 B2_4; have z2 : w2.heap.size + 1 < w4.heap.size := B2_4.lt))
  go_at_call 92
  refine (with_ (Bx no w.heap.size (w2.heap.size + 2)) _ _ ({ s with L := [] ++ s.L ++ [zeroE] }) k (co) _ (IsSys.mk rfl (IsInts.keep (IsInts.bx hwU) (by with_reducible (repeat (first | assumption | exact Keep.refl _ _ | refine Keep.alloc ?_ _ | refine Keep.s ?_ (by first | assumption | exact Bx.mem (by omega) (by omega) | exact Up.mem (by omega)) | refine Keep.n ?_ (by omega) | refine Keep.ext ?_ (by assumption) | refine Keep.drew ?_)))) (IsInts.keep (IsInts.bx hgU) (by with_reducible (repeat (first | assumption | exact Keep.refl _ _ | refine Keep.alloc ?_ _ | refine Keep.s ?_ (by first | assumption | exact Bx.mem (by omega) (by omega) | exact Up.mem (by omega)) | refine Keep.n ?_ (by omega) | refine Keep.ext ?_ (by assumption) | refine Keep.drew ?_)))) (IsCores.keep (IsCores.bx hcU) (by with_reducible (repeat (first | assumption | exact Keep.refl _ _ | refine Keep.alloc ?_ _ | refine Keep.s ?_ (by first | assumption | exact Bx.mem (by omega) (by omega) | exact Up.mem (by omega)) | refine Keep.n ?_ (by omega) | refine Keep.ext ?_ (by assumption) | refine Keep.drew ?_)))) (IsEvs.keep (OwnSl.evs (N := (Bx no w.heap.size (w2.heap.size + 2))) ho2 (fun b hb hn => hn.elim (fun q => q) fun q => (by have := q.2; omega))) (by with_reducible (repeat (first | assumption | exact Keep.refl _ _ | refine Keep.alloc ?_ _ | refine Keep.s ?_ (by first | assumption | exact Bx.mem (by omega) (by omega) | exact Up.mem (by omega)) | refine Keep.n ?_ (by omega) | refine Keep.ext ?_ (by assumption) | refine Keep.drew ?_)))) : IsSys (Bx no w.heap.size (w2.heap.size + 2)) _ _ { s with L := [] ++ s.L ++ [zeroE] }) (IsCoreV.mk (c := co) HX3.out (IsFrames.keep (IsFrames.bx hfU) (by with_reducible (repeat (first | assumption | exact Keep.refl _ _ | refine Keep.alloc ?_ _ | refine Keep.s ?_ (by first | assumption | exact Bx.mem (by omega) (by omega) | exact Up.mem (by omega)) | refine Keep.n ?_ (by omega) | refine Keep.ext ?_ (by assumption) | refine Keep.drew ?_)))) (IsInts.keep (IsInts.bx hrU) (by with_reducible (repeat (first | assumption | exact Keep.refl _ _ | refine Keep.alloc ?_ _ | refine Keep.s ?_ (by first | assumption | exact Bx.mem (by omega) (by omega) | exact Up.mem (by omega)) | refine Keep.n ?_ (by omega) | refine Keep.ext ?_ (by assumption) | refine Keep.drew ?_))))) (fun b hb => (by have h := hb.elim False.elim (fun q => q.2); first | omega | (simp <;> omega))) hC hk).calls.mono ?_
  rintro e w5 ⟨_, rfl, hb5, hu⟩
  rw [HT.out] at hu
  obtain ⟨r1, r2, r3, r4, r5, r6, r7, r8, rfl, rW, rG, rC, rL⟩ := hu.opened
  have B0_5 : Box w5 (w.heap.size) #[.slice aw s.M.W.length cw, .slice ag s.M.G.length cg, .bool s.M.bad, .slice (some ⟨bc, oc, none⟩) s.C.length cc, .slice al s.L.length cl] 83 := (B0_4.setOther (by first | omega | (simp <;> omega)) _).ext hb5
  have B1_5 : Box w5 (w2.heap.size) #[.slice af co.F.length cf, .int .i64 co.V, .int .i64 co.E, .int .i64 (gi co.X 0), .int .i64 (gi co.X 1), .int .i64 (gi co.X 2), .slice ar co.Ret.length cr] 116 := (B1_4.setOther (by first | omega | (simp <;> omega)) _).ext hb5
  have B2_5 : Box w5 (w2.heap.size + 1) #[.slice aw s.M.W.length cw, .slice ag s.M.G.length cg, .bool s.M.bad, .slice (some ⟨bc, oc, none⟩) s.C.length cc, .slice fa2 fa2n fc2] 83 := (B2_4.setCell _).ext hb5
  clear c0_0 c0_1 c0_2 c0_3 c0_4 d0_0 d0_1 d0_2 d0_3 d0_4 z0 c1_0 c1_1 c1_2 c1_3 c1_4 c1_5 c1_6 d1_0 d1_1 d1_2 d1_3 d1_4 d1_5 d1_6 z1 c2_0 c2_1 c2_2 c2_3 c2_4 d2_0 d2_1 d2_2 d2_3 d2_4 z2
  have s5 : w4.heap.size ≤ w5.heap.size := (by have h := hb5.size; first | omega | (simp at h; omega))
  obtain ⟨c0_0, c0_1, c0_2, c0_3, c0_4, d0_0, d0_1, d0_2, d0_3, d0_4⟩ := cells5 B0_5
  have z0 : w.heap.size < w5.heap.size := B0_5.lt
  obtain ⟨c1_0, c1_1, c1_2, c1_3, c1_4, c1_5, c1_6, d1_0, d1_1, d1_2, d1_3, d1_4, d1_5, d1_6⟩ := cells7 B1_5
  have z1 : w2.heap.size < w5.heap.size := B1_5.lt
  obtain ⟨c2_0, c2_1, c2_2, c2_3, c2_4, d2_0, d2_1, d2_2, d2_3, d2_4⟩ := cells5 B2_5
  have z2 : w2.heap.size + 1 < w5.heap.size := B2_5.lt
  go_wp2_with (fail)
  go_at_call 80
  refine (sysSame_ (Bx no w.heap.size (w2.heap.size + 2)) _ _ s t _ (IsSys.bx (IsSys.mk rfl (IsInts.keep hwU (by with_reducible (repeat (first | assumption | exact Keep.refl _ _ | refine Keep.alloc ?_ _ | refine Keep.s ?_ (by first | assumption | exact Bx.mem (by omega) (by omega) | exact Up.mem (by omega)) | refine Keep.n ?_ (by omega) | refine Keep.ext ?_ (by assumption) | refine Keep.drew ?_)))) (IsInts.keep hgU (by with_reducible (repeat (first | assumption | exact Keep.refl _ _ | refine Keep.alloc ?_ _ | refine Keep.s ?_ (by first | assumption | exact Bx.mem (by omega) (by omega) | exact Up.mem (by omega)) | refine Keep.n ?_ (by omega) | refine Keep.ext ?_ (by assumption) | refine Keep.drew ?_)))) (IsCores.keep hcU (by with_reducible (repeat (first | assumption | exact Keep.refl _ _ | refine Keep.alloc ?_ _ | refine Keep.s ?_ (by first | assumption | exact Bx.mem (by omega) (by omega) | exact Up.mem (by omega)) | refine Keep.n ?_ (by omega) | refine Keep.ext ?_ (by assumption) | refine Keep.drew ?_)))) (IsEvs.keep hlU (by with_reducible (repeat (first | assumption | exact Keep.refl _ _ | refine Keep.alloc ?_ _ | refine Keep.s ?_ (by first | assumption | exact Bx.mem (by omega) (by omega) | exact Up.mem (by omega)) | refine Keep.n ?_ (by omega) | refine Keep.ext ?_ (by assumption) | refine Keep.drew ?_)))) : IsSys (Up no w) _ _ s)) (IsSys.keep hu (by with_reducible (repeat (first | assumption | exact Keep.refl _ _ | refine Keep.alloc ?_ _ | refine Keep.s ?_ (by first | assumption | exact Bx.mem (by omega) (by omega) | exact Up.mem (by omega)) | refine Keep.n ?_ (by omega) | refine Keep.ext ?_ (by assumption) | refine Keep.drew ?_))))).calls.mono ?_
  rintro e w6 ⟨_, rfl, hb6, rfl⟩
  rw [F1.out]
  have B0_6 : Box w6 (w.heap.size) #[.slice aw s.M.W.length cw, .slice ag s.M.G.length cg, .bool s.M.bad, .slice (some ⟨bc, oc, none⟩) s.C.length cc, .slice al s.L.length cl] 83 := (((((B0_5.setOther (by first | omega | (simp <;> omega)) _).setOther (by first | omega | (simp <;> omega)) _).setOther (by first | omega | (simp <;> omega)) _).setOther (by first | omega | (simp <;> omega)) _).setOther (by first | omega | (simp <;> omega)) _).ext hb6
  have B1_6 : Box w6 (w2.heap.size) #[.slice af co.F.length cf, .int .i64 co.V, .int .i64 co.E, .int .i64 (gi co.X 0), .int .i64 (gi co.X 1), .int .i64 (gi co.X 2), .slice ar co.Ret.length cr] 116 := (((((B1_5.setOther (by first | omega | (simp <;> omega)) _).setOther (by first | omega | (simp <;> omega)) _).setOther (by first | omega | (simp <;> omega)) _).setOther (by first | omega | (simp <;> omega)) _).setOther (by first | omega | (simp <;> omega)) _).ext hb6
  have B2_6 : Box w6 (w2.heap.size + 1) #[.slice r1 t.M.W.length r2, .slice r3 t.M.G.length r4, .bool t.M.bad, .slice r5 t.C.length r6, .slice r7 t.L.length r8] 83 := (((((B2_5.setCell _).setCell _).setCell _).setCell _).setCell _).ext hb6
  clear c0_0 c0_1 c0_2 c0_3 c0_4 d0_0 d0_1 d0_2 d0_3 d0_4 z0 c1_0 c1_1 c1_2 c1_3 c1_4 c1_5 c1_6 d1_0 d1_1 d1_2 d1_3 d1_4 d1_5 d1_6 z1 c2_0 c2_1 c2_2 c2_3 c2_4 d2_0 d2_1 d2_2 d2_3 d2_4 z2
  have s6 : w5.heap.size ≤ w6.heap.size := (by have h := hb6.size; first | omega | (simp at h; omega))
  obtain ⟨c0_0, c0_1, c0_2, c0_3, c0_4, d0_0, d0_1, d0_2, d0_3, d0_4⟩ := cells5 B0_6
  have z0 : w.heap.size < w6.heap.size := B0_6.lt
  obtain ⟨c1_0, c1_1, c1_2, c1_3, c1_4, c1_5, c1_6, d1_0, d1_1, d1_2, d1_3, d1_4, d1_5, d1_6⟩ := cells7 B1_6
  have z1 : w2.heap.size < w6.heap.size := B1_6.lt
  obtain ⟨c2_0, c2_1, c2_2, c2_3, c2_4, d2_0, d2_1, d2_2, d2_3, d2_4⟩ := cells5 B2_6
  have z2 : w2.heap.size + 1 < w6.heap.size := B2_6.lt
  go_wp2_with (fail)
  go_at_call 80
  refine (sysSame_ (Bx no w.heap.size (w2.heap.size + 2)) _ _ t s _ (IsSys.keep hu (by with_reducible (repeat (first | assumption | exact Keep.refl _ _ | refine Keep.alloc ?_ _ | refine Keep.s ?_ (by first | assumption | exact Bx.mem (by omega) (by omega) | exact Up.mem (by omega)) | refine Keep.n ?_ (by omega) | refine Keep.ext ?_ (by assumption) | refine Keep.drew ?_)))) (IsSys.bx (IsSys.mk rfl (IsInts.keep hwU (by with_reducible (repeat (first | assumption | exact Keep.refl _ _ | refine Keep.alloc ?_ _ | refine Keep.s ?_ (by first | assumption | exact Bx.mem (by omega) (by omega) | exact Up.mem (by omega)) | refine Keep.n ?_ (by omega) | refine Keep.ext ?_ (by assumption) | refine Keep.drew ?_)))) (IsInts.keep hgU (by with_reducible (repeat (first | assumption | exact Keep.refl _ _ | refine Keep.alloc ?_ _ | refine Keep.s ?_ (by first | assumption | exact Bx.mem (by omega) (by omega) | exact Up.mem (by omega)) | refine Keep.n ?_ (by omega) | refine Keep.ext ?_ (by assumption) | refine Keep.drew ?_)))) (IsCores.keep hcU (by with_reducible (repeat (first | assumption | exact Keep.refl _ _ | refine Keep.alloc ?_ _ | refine Keep.s ?_ (by first | assumption | exact Bx.mem (by omega) (by omega) | exact Up.mem (by omega)) | refine Keep.n ?_ (by omega) | refine Keep.ext ?_ (by assumption) | refine Keep.drew ?_)))) (IsEvs.keep hlU (by with_reducible (repeat (first | assumption | exact Keep.refl _ _ | refine Keep.alloc ?_ _ | refine Keep.s ?_ (by first | assumption | exact Bx.mem (by omega) (by omega) | exact Up.mem (by omega)) | refine Keep.n ?_ (by omega) | refine Keep.ext ?_ (by assumption) | refine Keep.drew ?_)))) : IsSys (Up no w) _ _ s))).calls.mono ?_
  rintro e w7 ⟨_, rfl, hb7, rfl⟩
  rw [F2.out]
  have B0_7 : Box w7 (w.heap.size) #[.slice aw s.M.W.length cw, .slice ag s.M.G.length cg, .bool s.M.bad, .slice (some ⟨bc, oc, none⟩) s.C.length cc, .slice al s.L.length cl] 83 := B0_6.ext hb7
  have B1_7 : Box w7 (w2.heap.size) #[.slice af co.F.length cf, .int .i64 co.V, .int .i64 co.E, .int .i64 (gi co.X 0), .int .i64 (gi co.X 1), .int .i64 (gi co.X 2), .slice ar co.Ret.length cr] 116 := B1_6.ext hb7
  have B2_7 : Box w7 (w2.heap.size + 1) #[.slice r1 t.M.W.length r2, .slice r3 t.M.G.length r4, .bool t.M.bad, .slice r5 t.C.length r6, .slice r7 t.L.length r8] 83 := B2_6.ext hb7
  clear c0_0 c0_1 c0_2 c0_3 c0_4 d0_0 d0_1 d0_2 d0_3 d0_4 z0 c1_0 c1_1 c1_2 c1_3 c1_4 c1_5 c1_6 d1_0 d1_1 d1_2 d1_3 d1_4 d1_5 d1_6 z1 c2_0 c2_1 c2_2 c2_3 c2_4 d2_0 d2_1 d2_2 d2_3 d2_4 z2
  have s7 : w6.heap.size ≤ w7.heap.size := (by have h := hb7.size; first | omega | (simp at h; omega))
  obtain ⟨c0_0, c0_1, c0_2, c0_3, c0_4, d0_0, d0_1, d0_2, d0_3, d0_4⟩ := cells5 B0_7
  have z0 : w.heap.size < w7.heap.size := B0_7.lt
  obtain ⟨c1_0, c1_1, c1_2, c1_3, c1_4, c1_5, c1_6, d1_0, d1_1, d1_2, d1_3, d1_4, d1_5, d1_6⟩ := cells7 B1_7
  have z1 : w2.heap.size < w7.heap.size := B1_7.lt
  obtain ⟨c2_0, c2_1, c2_2, c2_3, c2_4, d2_0, d2_1, d2_2, d2_3, d2_4⟩ := cells5 B2_7
  have z2 : w2.heap.size + 1 < w7.heap.size := B2_7.lt
  go_wp2_with (fail)
  go_at_call 80
  refine (sysSame_ (Bx no w.heap.size (w2.heap.size + 2)) _ _ t t _ (IsSys.keep hu (by with_reducible (repeat (first | assumption | exact Keep.refl _ _ | refine Keep.alloc ?_ _ | refine Keep.s ?_ (by first | assumption | exact Bx.mem (by omega) (by omega) | exact Up.mem (by omega)) | refine Keep.n ?_ (by omega) | refine Keep.ext ?_ (by assumption) | refine Keep.drew ?_)))) (IsSys.keep hu (by with_reducible (repeat (first | assumption | exact Keep.refl _ _ | refine Keep.alloc ?_ _ | refine Keep.s ?_ (by first | assumption | exact Bx.mem (by omega) (by omega) | exact Up.mem (by omega)) | refine Keep.n ?_ (by omega) | refine Keep.ext ?_ (by assumption) | refine Keep.drew ?_))))).calls.mono ?_
  rintro e w8 ⟨_, rfl, hb8, rfl⟩
  rw [F3.out]
  have B0_8 : Box w8 (w.heap.size) #[.slice aw s.M.W.length cw, .slice ag s.M.G.length cg, .bool s.M.bad, .slice (some ⟨bc, oc, none⟩) s.C.length cc, .slice al s.L.length cl] 83 := B0_7.ext hb8
  have B1_8 : Box w8 (w2.heap.size) #[.slice af co.F.length cf, .int .i64 co.V, .int .i64 co.E, .int .i64 (gi co.X 0), .int .i64 (gi co.X 1), .int .i64 (gi co.X 2), .slice ar co.Ret.length cr] 116 := B1_7.ext hb8
  have B2_8 : Box w8 (w2.heap.size + 1) #[.slice r1 t.M.W.length r2, .slice r3 t.M.G.length r4, .bool t.M.bad, .slice r5 t.C.length r6, .slice r7 t.L.length r8] 83 := B2_7.ext hb8
  clear c0_0 c0_1 c0_2 c0_3 c0_4 d0_0 d0_1 d0_2 d0_3 d0_4 z0 c1_0 c1_1 c1_2 c1_3 c1_4 c1_5 c1_6 d1_0 d1_1 d1_2 d1_3 d1_4 d1_5 d1_6 z1 c2_0 c2_1 c2_2 c2_3 c2_4 d2_0 d2_1 d2_2 d2_3 d2_4 z2
  have s8 : w7.heap.size ≤ w8.heap.size := (by have h := hb8.size; first | omega | (simp at h; omega))
  obtain ⟨c0_0, c0_1, c0_2, c0_3, c0_4, d0_0, d0_1, d0_2, d0_3, d0_4⟩ := cells5 B0_8
  have z0 : w.heap.size < w8.heap.size := B0_8.lt
  obtain ⟨c1_0, c1_1, c1_2, c1_3, c1_4, c1_5, c1_6, d1_0, d1_1, d1_2, d1_3, d1_4, d1_5, d1_6⟩ := cells7 B1_8
  have z1 : w2.heap.size < w8.heap.size := B1_8.lt
  obtain ⟨c2_0, c2_1, c2_2, c2_3, c2_4, d2_0, d2_1, d2_2, d2_3, d2_4⟩ := cells5 B2_8
  have z2 : w2.heap.size + 1 < w8.heap.size := B2_8.lt
  go_wp2
  go_ret
  exact ⟨_, rfl, (by with_reducible (repeat (first | assumption | exact Ext.refl _ | refine Ext.alloc' ?_ _ | refine Ext.store0 ?_ _ _ | refine Ext.storek ?_ _ _ _ | refine Ext.storen ?_ (by omega) | refine Ext.stores0 ?_ ?_ _ _ | refine Ext.storesk ?_ ?_ _ _ _ | refine Ext.drewN' ?_ _ | refine Ext.drew' ?_ | refine Ext.trans ?_ (by assumption)))), rfl⟩

set_option maxHeartbeats 4000000 in
set_option maxRecDepth 100000 in
theorem coreSame_6 (aw ag al af ar : Option Addr) (cw cg cc cl bc oc cf cr k : Nat) (s t : SysD) (co : CoreD) (iv wh : Int) (w : World) (hw : IsInts no w (.slice aw s.M.W.length cw) s.M.W) (hg : IsInts no w (.slice ag s.M.G.length cg) s.M.G) (hc : IsCores no w (.slice (some ⟨bc, oc, none⟩) s.C.length cc) s.C) (hl : IsEvs no w (.slice al s.L.length cl) s.L)
    (xc : bc < w.heap.size) (hx3 : co.X.length = 3) (hf : IsFrames no w (.slice af co.F.length cf) co.F) (hr : IsInts no w (.slice ar co.Ret.length cr) co.Ret)
    (e0 : w.cell? ⟨bc, oc + k * 7, none⟩ = some (.slice af co.F.length cf))
    (e1 : w.cell? ⟨bc, oc + k * 7 + 1, none⟩ = some (.int .i64 co.V))
    (e2 : w.cell? ⟨bc, oc + k * 7 + 2, none⟩ = some (.int .i64 co.E))
    (e3 : w.cell? ⟨bc, oc + k * 7 + 3, none⟩ = some (.int .i64 (gi co.X 0)))
    (e4 : w.cell? ⟨bc, oc + k * 7 + 4, none⟩ = some (.int .i64 (gi co.X 1)))
    (e5 : w.cell? ⟨bc, oc + k * 7 + 5, none⟩ = some (.int .i64 (gi co.X 2)))
    (e6 : w.cell? ⟨bc, oc + k * 7 + 6, none⟩ = some (.slice ar co.Ret.length cr))
    (km : ∀ w', Ext w w' → Gives Proofs.Try.prog 83 #[.agg #[.slice aw s.M.W.length cw, .slice ag s.M.G.length cg, .bool s.M.bad, .slice (some ⟨bc, oc, none⟩) s.C.length cc, .slice al s.L.length cl], .int .i64 60] w' (eqv (.bool true)))
    (hi0 : 0 ≤ iv) (hi1 : iv ≤ 255) (hq0 : 0 ≤ wh) (hq1 : wh ≤ 255) (hmod : iv % (s.C.length : Int) = (k : Int)) (hq : wh % 7 = 6) (hk : k < s.C.length) (hC1 : 1 ≤ s.C.length) (hC : s.C.length ≤ 100000) (hFl : co.F.length ≤ 1000) (hRl : co.Ret.length ≤ 1000) (hLl : s.L.length ≤ 1000)
    (ht : withS ({ s with M := { s.M with bad := !s.M.bad } }) k (co) = t) (f1 : sameS s t = false) (f2 : sameS t s = false) (f3 : sameS t t = true) :
    Gives Proofs.Try.prog 23 #[.agg #[.slice aw s.M.W.length cw, .slice ag s.M.G.length cg, .bool s.M.bad, .slice (some ⟨bc, oc, none⟩) s.C.length cc, .slice al s.L.length cl], .int .u8 iv, .int .u8 wh] w (eqv (.bool true)) := by
  have hwU := hw.up
  have hgU := hg.up
  have hcU := IsCores.less hc (M := Up no w) fun x hx hn => hn.elim (fun q => q) fun k => absurd k (by omega)
  have hlU := IsEvs.less hl (M := Up no w) fun x hx hn => hn.elim (fun q => q) fun k => absurd k (by omega)
  have hfU := IsFrames.up hf
  have hrU := hr.up
  have hk1 : (k : Int) < (s.C.length : Int) := by omega
  have hC2 : ¬ (s.C.length : Int) = 0 := by omega
  have HT := Lib.hid ht; have F1 := Lib.hid f1; have F2 := Lib.hid f2; have F3 := Lib.hid f3; have HX3 := Lib.hid hx3
  clear ht f1 f2 f3 hx3
  go_enter Proofs.Try.func23, Proofs.Try.ntmps23
  go_wp2_with (fail)
  go_at_call 73
  refine (shown3_ _).calls.mono ?_
  rintro e w1 ⟨_, rfl, hb1, rfl⟩
  have B0_1 : Box w1 (w.heap.size) #[.slice aw s.M.W.length cw, .slice ag s.M.G.length cg, .bool s.M.bad, .slice (some ⟨bc, oc, none⟩) s.C.length cc, .slice al s.L.length cl] 83 := (Box.newAt _ _ _ (by first | rfl | simp)).ext hb1
  have s1 : w.heap.size + 1 ≤ w1.heap.size := (by have h := hb1.size; first | omega | (simp at h; omega))
  obtain ⟨c0_0, c0_1, c0_2, c0_3, c0_4, d0_0, d0_1, d0_2, d0_3, d0_4⟩ := cells5 B0_1
  have z0 : w.heap.size < w1.heap.size := B0_1.lt
  go_wp2_with (fail)
  go_at_call 83
  refine (km _ (by with_reducible (repeat (first | assumption | exact Ext.refl _ | refine Ext.alloc' ?_ _ | refine Ext.store0 ?_ _ _ | refine Ext.storek ?_ _ _ _ | refine Ext.stores0 ?_ ?_ _ _ | refine Ext.storesk ?_ ?_ _ _ _ | refine Ext.drewN' ?_ _ | refine Ext.drew' ?_ | refine Ext.trans ?_ (by assumption))))).calls.mono ?_
  rintro e w2 ⟨_, rfl, hb2, rfl⟩
  have hE2 : Ext w w2 := (by with_reducible (repeat (first | assumption | exact Ext.refl _ | refine Ext.alloc' ?_ _ | refine Ext.store0 ?_ _ _ | refine Ext.storek ?_ _ _ _ | refine Ext.stores0 ?_ ?_ _ _ | refine Ext.storesk ?_ ?_ _ _ _ | refine Ext.drewN' ?_ _ | refine Ext.drew' ?_ | refine Ext.trans ?_ (by assumption))))
  have xc2 : bc < w2.heap.size := Nat.lt_of_lt_of_le xc hE2.size
  have e0a := cell_ext e0 hE2
  have e1a := cell_ext e1 hE2
  have e2a := cell_ext e2 hE2
  have e3a := cell_ext e3 hE2
  have e4a := cell_ext e4 hE2
  have e5a := cell_ext e5 hE2
  have e6a := cell_ext e6 hE2
  have B0_2 : Box w2 (w.heap.size) #[.slice aw s.M.W.length cw, .slice ag s.M.G.length cg, .bool s.M.bad, .slice (some ⟨bc, oc, none⟩) s.C.length cc, .slice al s.L.length cl] 83 := B0_1.ext hb2
  clear c0_0 c0_1 c0_2 c0_3 c0_4 d0_0 d0_1 d0_2 d0_3 d0_4 z0
  have s2 : w1.heap.size ≤ w2.heap.size := (by have h := hb2.size; first | omega | (simp at h; omega))
  obtain ⟨c0_0, c0_1, c0_2, c0_3, c0_4, d0_0, d0_1, d0_2, d0_3, d0_4⟩ := cells5 B0_2
  have z0 : w.heap.size < w2.heap.size := B0_2.lt
  go_wp2_with (fail)
  go_at_call 92
  refine (with_ (Bx no w.heap.size (w2.heap.size + 2)) _ _ ({ s with M := { s.M with bad := !s.M.bad } }) k (co) _ (IsSys.bx (IsSys.mk rfl (IsInts.keep hwU (by with_reducible (repeat (first | assumption | exact Keep.refl _ _ | refine Keep.alloc ?_ _ | refine Keep.s ?_ (by first | assumption | exact Bx.mem (by omega) (by omega) | exact Up.mem (by omega)) | refine Keep.n ?_ (by omega) | refine Keep.ext ?_ (by assumption) | refine Keep.drew ?_)))) (IsInts.keep hgU (by with_reducible (repeat (first | assumption | exact Keep.refl _ _ | refine Keep.alloc ?_ _ | refine Keep.s ?_ (by first | assumption | exact Bx.mem (by omega) (by omega) | exact Up.mem (by omega)) | refine Keep.n ?_ (by omega) | refine Keep.ext ?_ (by assumption) | refine Keep.drew ?_)))) (IsCores.keep hcU (by with_reducible (repeat (first | assumption | exact Keep.refl _ _ | refine Keep.alloc ?_ _ | refine Keep.s ?_ (by first | assumption | exact Bx.mem (by omega) (by omega) | exact Up.mem (by omega)) | refine Keep.n ?_ (by omega) | refine Keep.ext ?_ (by assumption) | refine Keep.drew ?_)))) (IsEvs.keep hlU (by with_reducible (repeat (first | assumption | exact Keep.refl _ _ | refine Keep.alloc ?_ _ | refine Keep.s ?_ (by first | assumption | exact Bx.mem (by omega) (by omega) | exact Up.mem (by omega)) | refine Keep.n ?_ (by omega) | refine Keep.ext ?_ (by assumption) | refine Keep.drew ?_)))) : IsSys (Up no w) _ _ { s with M := { s.M with bad := !s.M.bad } })) (IsCoreV.mk (c := co) HX3.out (IsFrames.keep (IsFrames.bx hfU) (by with_reducible (repeat (first | assumption | exact Keep.refl _ _ | refine Keep.alloc ?_ _ | refine Keep.s ?_ (by first | assumption | exact Bx.mem (by omega) (by omega) | exact Up.mem (by omega)) | refine Keep.n ?_ (by omega) | refine Keep.ext ?_ (by assumption) | refine Keep.drew ?_)))) (IsInts.keep (IsInts.bx hrU) (by with_reducible (repeat (first | assumption | exact Keep.refl _ _ | refine Keep.alloc ?_ _ | refine Keep.s ?_ (by first | assumption | exact Bx.mem (by omega) (by omega) | exact Up.mem (by omega)) | refine Keep.n ?_ (by omega) | refine Keep.ext ?_ (by assumption) | refine Keep.drew ?_))))) (fun b hb => (by have h := hb.elim False.elim (fun q => q.2); first | omega | (simp <;> omega))) hC hk).calls.mono ?_
  rintro e w3 ⟨_, rfl, hb3, hu⟩
  rw [HT.out] at hu
  obtain ⟨r1, r2, r3, r4, r5, r6, r7, r8, rfl, rW, rG, rC, rL⟩ := hu.opened
  have B0_3 : Box w3 (w.heap.size) #[.slice aw s.M.W.length cw, .slice ag s.M.G.length cg, .bool s.M.bad, .slice (some ⟨bc, oc, none⟩) s.C.length cc, .slice al s.L.length cl] 83 := ((B0_2.alloc _).alloc _).ext hb3
  have B1_3 : Box w3 (w2.heap.size) #[.slice af co.F.length cf, .int .i64 co.V, .int .i64 co.E, .int .i64 (gi co.X 0), .int .i64 (gi co.X 1), .int .i64 (gi co.X 2), .slice ar co.Ret.length cr] 116 := ((Box.newAt _ _ _ (by first | rfl | simp)).alloc _).ext hb3
  have B2_3 : Box w3 (w2.heap.size + 1) #[.slice aw s.M.W.length cw, .slice ag s.M.G.length cg, .bool (!s.M.bad), .slice (some ⟨bc, oc, none⟩) s.C.length cc, .slice al s.L.length cl] 83 := (Box.newAt _ _ _ (by first | rfl | simp)).ext hb3
  clear c0_0 c0_1 c0_2 c0_3 c0_4 d0_0 d0_1 d0_2 d0_3 d0_4 z0
  have s3 : w2.heap.size + 2 ≤ w3.heap.size := (by have h := hb3.size; first | omega | (simp at h; omega))
  obtain ⟨c0_0, c0_1, c0_2, c0_3, c0_4, d0_0, d0_1, d0_2, d0_3, d0_4⟩ := cells5 B0_3
  have z0 : w.heap.size < w3.heap.size := B0_3.lt
  obtain ⟨c1_0, c1_1, c1_2, c1_3, c1_4, c1_5, c1_6, d1_0, d1_1, d1_2, d1_3, d1_4, d1_5, d1_6⟩ := cells7 B1_3
  have z1 : w2.heap.size < w3.heap.size := B1_3.lt
  obtain ⟨c2_0, c2_1, c2_2, c2_3, c2_4, d2_0, d2_1, d2_2, d2_3, d2_4⟩ := cells5 B2_3
  have z2 : w2.heap.size + 1 < w3.heap.size := B2_3.lt
  go_wp2_with (fail)
  go_at_call 80
  refine (sysSame_ (Bx no w.heap.size (w2.heap.size + 2)) _ _ s t _ (IsSys.bx (IsSys.mk rfl (IsInts.keep hwU (by with_reducible (repeat (first | assumption | exact Keep.refl _ _ | refine Keep.alloc ?_ _ | refine Keep.s ?_ (by first | assumption | exact Bx.mem (by omega) (by omega) | exact Up.mem (by omega)) | refine Keep.n ?_ (by omega) | refine Keep.ext ?_ (by assumption) | refine Keep.drew ?_)))) (IsInts.keep hgU (by with_reducible (repeat (first | assumption | exact Keep.refl _ _ | refine Keep.alloc ?_ _ | refine Keep.s ?_ (by first | assumption | exact Bx.mem (by omega) (by omega) | exact Up.mem (by omega)) | refine Keep.n ?_ (by omega) | refine Keep.ext ?_ (by assumption) | refine Keep.drew ?_)))) (IsCores.keep hcU (by with_reducible (repeat (first | assumption | exact Keep.refl _ _ | refine Keep.alloc ?_ _ | refine Keep.s ?_ (by first | assumption | exact Bx.mem (by omega) (by omega) | exact Up.mem (by omega)) | refine Keep.n ?_ (by omega) | refine Keep.ext ?_ (by assumption) | refine Keep.drew ?_)))) (IsEvs.keep hlU (by with_reducible (repeat (first | assumption | exact Keep.refl _ _ | refine Keep.alloc ?_ _ | refine Keep.s ?_ (by first | assumption | exact Bx.mem (by omega) (by omega) | exact Up.mem (by omega)) | refine Keep.n ?_ (by omega) | refine Keep.ext ?_ (by assumption) | refine Keep.drew ?_)))) : IsSys (Up no w) _ _ s)) (IsSys.keep hu (by with_reducible (repeat (first | assumption | exact Keep.refl _ _ | refine Keep.alloc ?_ _ | refine Keep.s ?_ (by first | assumption | exact Bx.mem (by omega) (by omega) | exact Up.mem (by omega)) | refine Keep.n ?_ (by omega) | refine Keep.ext ?_ (by assumption) | refine Keep.drew ?_))))).calls.mono ?_
  rintro e w4 ⟨_, rfl, hb4, rfl⟩
  rw [F1.out]
  have B0_4 : Box w4 (w.heap.size) #[.slice aw s.M.W.length cw, .slice ag s.M.G.length cg, .bool s.M.bad, .slice (some ⟨bc, oc, none⟩) s.C.length cc, .slice al s.L.length cl] 83 := (((((B0_3.setOther (by first | omega | (simp <;> omega)) _).setOther (by first | omega | (simp <;> omega)) _).setOther (by first | omega | (simp <;> omega)) _).setOther (by first | omega | (simp <;> omega)) _).setOther (by first | omega | (simp <;> omega)) _).ext hb4
  have B1_4 : Box w4 (w2.heap.size) #[.slice af co.F.length cf, .int .i64 co.V, .int .i64 co.E, .int .i64 (gi co.X 0), .int .i64 (gi co.X 1), .int .i64 (gi co.X 2), .slice ar co.Ret.length cr] 116 := (((((B1_3.setOther (by first | omega | (simp <;> omega)) _).setOther (by first | omega | (simp <;> omega)) _).setOther (by first | omega | (simp <;> omega)) _).setOther (by first | omega | (simp <;> omega)) _).setOther (by first | omega | (simp <;> omega)) _).ext hb4
  have B2_4 : Box w4 (w2.heap.size + 1) #[.slice r1 t.M.W.length r2, .slice r3 t.M.G.length r4, .bool t.M.bad, .slice r5 t.C.length r6, .slice r7 t.L.length r8] 83 := (((((B2_3.setCell _).setCell _).setCell _).setCell _).setCell _).ext hb4
  clear c0_0 c0_1 c0_2 c0_3 c0_4 d0_0 d0_1 d0_2 d0_3 d0_4 z0 c1_0 c1_1 c1_2 c1_3 c1_4 c1_5 c1_6 d1_0 d1_1 d1_2 d1_3 d1_4 d1_5 d1_6 z1 c2_0 c2_1 c2_2 c2_3 c2_4 d2_0 d2_1 d2_2 d2_3 d2_4 z2
  have s4 : w3.heap.size ≤ w4.heap.size := (by have h := hb4.size; first | omega | (simp at h; omega))
  obtain ⟨c0_0, c0_1, c0_2, c0_3, c0_4, d0_0, d0_1, d0_2, d0_3, d0_4⟩ := cells5 B0_4
  have z0 : w.heap.size < w4.heap.size := B0_4.lt
  obtain ⟨c1_0, c1_1, c1_2, c1_3, c1_4, c1_5, c1_6, d1_0, d1_1, d1_2, d1_3, d1_4, d1_5, d1_6⟩ := cells7 B1_4
  have z1 : w2.heap.size < w4.heap.size := B1_4.lt
  obtain ⟨c2_0, c2_1, c2_2, c2_3, c2_4, d2_0, d2_1, d2_2, d2_3, d2_4⟩ := cells5 B2_4
  have z2 : w2.heap.size + 1 < w4.heap.size := B2_4.lt
  go_wp2_with (fail)
  go_at_call 80
  refine (sysSame_ (Bx no w.heap.size (w2.heap.size + 2)) _ _ t s _ (IsSys.keep hu (by with_reducible (repeat (first | assumption | exact Keep.refl _ _ | refine Keep.alloc ?_ _ | refine Keep.s ?_ (by first | assumption | exact Bx.mem (by omega) (by omega) | exact Up.mem (by omega)) | refine Keep.n ?_ (by omega) | refine Keep.ext ?_ (by assumption) | refine Keep.drew ?_)))) (IsSys.bx (IsSys.mk rfl (IsInts.keep hwU (by with_reducible (repeat (first | assumption | exact Keep.refl _ _ | refine Keep.alloc ?_ _ | refine Keep.s ?_ (by first | assumption | exact Bx.mem (by omega) (by omega) | exact Up.mem (by omega)) | refine Keep.n ?_ (by omega) | refine Keep.ext ?_ (by assumption) | refine Keep.drew ?_)))) (IsInts.keep hgU (by with_reducible (repeat (first | assumption | exact Keep.refl _ _ | refine Keep.alloc ?_ _ | refine Keep.s ?_ (by first | assumption | exact Bx.mem (by omega) (by omega) | exact Up.mem (by omega)) | refine Keep.n ?_ (by omega) | refine Keep.ext ?_ (by assumption) | refine Keep.drew ?_)))) (IsCores.keep hcU (by with_reducible (repeat (first | assumption | exact Keep.refl _ _ | refine Keep.alloc ?_ _ | refine Keep.s ?_ (by first | assumption | exact Bx.mem (by omega) (by omega) | exact Up.mem (by omega)) | refine Keep.n ?_ (by omega) | refine Keep.ext ?_ (by assumption) | refine Keep.drew ?_)))) (IsEvs.keep hlU (by with_reducible (repeat (first | assumption | exact Keep.refl _ _ | refine Keep.alloc ?_ _ | refine Keep.s ?_ (by first | assumption | exact Bx.mem (by omega) (by omega) | exact Up.mem (by omega)) | refine Keep.n ?_ (by omega) | refine Keep.ext ?_ (by assumption) | refine Keep.drew ?_)))) : IsSys (Up no w) _ _ s))).calls.mono ?_
  rintro e w5 ⟨_, rfl, hb5, rfl⟩
  rw [F2.out]
  have B0_5 : Box w5 (w.heap.size) #[.slice aw s.M.W.length cw, .slice ag s.M.G.length cg, .bool s.M.bad, .slice (some ⟨bc, oc, none⟩) s.C.length cc, .slice al s.L.length cl] 83 := B0_4.ext hb5
  have B1_5 : Box w5 (w2.heap.size) #[.slice af co.F.length cf, .int .i64 co.V, .int .i64 co.E, .int .i64 (gi co.X 0), .int .i64 (gi co.X 1), .int .i64 (gi co.X 2), .slice ar co.Ret.length cr] 116 := B1_4.ext hb5
  have B2_5 : Box w5 (w2.heap.size + 1) #[.slice r1 t.M.W.length r2, .slice r3 t.M.G.length r4, .bool t.M.bad, .slice r5 t.C.length r6, .slice r7 t.L.length r8] 83 := B2_4.ext hb5
  clear c0_0 c0_1 c0_2 c0_3 c0_4 d0_0 d0_1 d0_2 d0_3 d0_4 z0 c1_0 c1_1 c1_2 c1_3 c1_4 c1_5 c1_6 d1_0 d1_1 d1_2 d1_3 d1_4 d1_5 d1_6 z1 c2_0 c2_1 c2_2 c2_3 c2_4 d2_0 d2_1 d2_2 d2_3 d2_4 z2
  have s5 : w4.heap.size ≤ w5.heap.size := (by have h := hb5.size; first | omega | (simp at h; omega))
  obtain ⟨c0_0, c0_1, c0_2, c0_3, c0_4, d0_0, d0_1, d0_2, d0_3, d0_4⟩ := cells5 B0_5
  have z0 : w.heap.size < w5.heap.size := B0_5.lt
  obtain ⟨c1_0, c1_1, c1_2, c1_3, c1_4, c1_5, c1_6, d1_0, d1_1, d1_2, d1_3, d1_4, d1_5, d1_6⟩ := cells7 B1_5
  have z1 : w2.heap.size < w5.heap.size := B1_5.lt
  obtain ⟨c2_0, c2_1, c2_2, c2_3, c2_4, d2_0, d2_1, d2_2, d2_3, d2_4⟩ := cells5 B2_5
  have z2 : w2.heap.size + 1 < w5.heap.size := B2_5.lt
  go_wp2_with (fail)
  go_at_call 80
  refine (sysSame_ (Bx no w.heap.size (w2.heap.size + 2)) _ _ t t _ (IsSys.keep hu (by with_reducible (repeat (first | assumption | exact Keep.refl _ _ | refine Keep.alloc ?_ _ | refine Keep.s ?_ (by first | assumption | exact Bx.mem (by omega) (by omega) | exact Up.mem (by omega)) | refine Keep.n ?_ (by omega) | refine Keep.ext ?_ (by assumption) | refine Keep.drew ?_)))) (IsSys.keep hu (by with_reducible (repeat (first | assumption | exact Keep.refl _ _ | refine Keep.alloc ?_ _ | refine Keep.s ?_ (by first | assumption | exact Bx.mem (by omega) (by omega) | exact Up.mem (by omega)) | refine Keep.n ?_ (by omega) | refine Keep.ext ?_ (by assumption) | refine Keep.drew ?_))))).calls.mono ?_
  rintro e w6 ⟨_, rfl, hb6, rfl⟩
  rw [F3.out]
  have B0_6 : Box w6 (w.heap.size) #[.slice aw s.M.W.length cw, .slice ag s.M.G.length cg, .bool s.M.bad, .slice (some ⟨bc, oc, none⟩) s.C.length cc, .slice al s.L.length cl] 83 := B0_5.ext hb6
  have B1_6 : Box w6 (w2.heap.size) #[.slice af co.F.length cf, .int .i64 co.V, .int .i64 co.E, .int .i64 (gi co.X 0), .int .i64 (gi co.X 1), .int .i64 (gi co.X 2), .slice ar co.Ret.length cr] 116 := B1_5.ext hb6
  have B2_6 : Box w6 (w2.heap.size + 1) #[.slice r1 t.M.W.length r2, .slice r3 t.M.G.length r4, .bool t.M.bad, .slice r5 t.C.length r6, .slice r7 t.L.length r8] 83 := B2_5.ext hb6
  clear c0_0 c0_1 c0_2 c0_3 c0_4 d0_0 d0_1 d0_2 d0_3 d0_4 z0 c1_0 c1_1 c1_2 c1_3 c1_4 c1_5 c1_6 d1_0 d1_1 d1_2 d1_3 d1_4 d1_5 d1_6 z1 c2_0 c2_1 c2_2 c2_3 c2_4 d2_0 d2_1 d2_2 d2_3 d2_4 z2
  have s6 : w5.heap.size ≤ w6.heap.size := (by have h := hb6.size; first | omega | (simp at h; omega))
  obtain ⟨c0_0, c0_1, c0_2, c0_3, c0_4, d0_0, d0_1, d0_2, d0_3, d0_4⟩ := cells5 B0_6
  have z0 : w.heap.size < w6.heap.size := B0_6.lt
  obtain ⟨c1_0, c1_1, c1_2, c1_3, c1_4, c1_5, c1_6, d1_0, d1_1, d1_2, d1_3, d1_4, d1_5, d1_6⟩ := cells7 B1_6
  have z1 : w2.heap.size < w6.heap.size := B1_6.lt
  obtain ⟨c2_0, c2_1, c2_2, c2_3, c2_4, d2_0, d2_1, d2_2, d2_3, d2_4⟩ := cells5 B2_6
  have z2 : w2.heap.size + 1 < w6.heap.size := B2_6.lt
  go_wp2
  go_ret
  exact ⟨_, rfl, (by with_reducible (repeat (first | assumption | exact Ext.refl _ | refine Ext.alloc' ?_ _ | refine Ext.store0 ?_ _ _ | refine Ext.storek ?_ _ _ _ | refine Ext.storen ?_ (by omega) | refine Ext.stores0 ?_ ?_ _ _ | refine Ext.storesk ?_ ?_ _ _ _ | refine Ext.drewN' ?_ _ | refine Ext.drew' ?_ | refine Ext.trans ?_ (by assumption)))), rfl⟩
end Go.Proofs.Ytcfbdfgondmkoaa
