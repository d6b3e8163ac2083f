/- Arenas: the document's example. -/
import Derived.Test.YtcfbdfgondmkoaaAr18
namespace Go.Proofs.Ytcfbdfgondmkoaa
open Go Go.RowKit
set_option linter.unusedSimpArgs false
set_option linter.unusedVariables false
set_option linter.unnecessarySimpa false

theorem yes_runs {P : Program} {o : Oper} {a : Act} {w : World} {v : Value} {g : GP} (h : Runs P o a w v) (hg : g v w) (hd : o.dst.isSome = true) : Yes P o a w g := yes_val (runs_ok h) (Ext.refl _) hg hd
def no : Nat → Prop := fun _ => False
theorem no_lt {w : World} : ∀ b, no b → b < w.heap.size := fun _ h => h.elim
instance (m : Arena) : Decidable (Fits m) := by unfold Fits; infer_instance
/-- an arena and a word -/
def isLoad (m : Arena) (z : Int) : GP := fun v w => ∃ u, v = .tuple #[u, .int .i64 z] ∧ IsMem no w u m
theorem stable_isLoad (m : Arena) (z : Int) : Stable (isLoad m z) := fun _ _ _ ⟨u, h1, h2⟩ hx => ⟨u, h1, h2.ext hx⟩
def isM (m : Arena) : GP := fun v w => IsMem no w v m
theorem stable_isM (m : Arena) : Stable (isM m) := fun _ _ _ h hx => IsMem.ext h hx

def shM : Arena := newD 1
def shA : Arena := touchD shM 131
def shT : Arena := turnMD shM 1 1
def shS : Arena := storeD shT 131 7
def shB : Arena := touchD shS 131
def shC : Arena := casD shS 131 7 8
theorem IsMem.lit {N : Nat → Prop} {w : World} {v : Value} {m : Arena} (h : IsMem N w v m) {a b : Nat} {c : Bool} (h1 : m.W.length = a) (h2 : m.G.length = b) (h3 : m.bad = c) : ∃ aw cw ag cg, v = .agg #[.slice aw a cw, .slice ag b cg, .bool c] ∧ IsInts N w (.slice aw a cw) m.W ∧ IsInts N w (.slice ag b cg) m.G := by
  subst h1 h2 h3
  exact h.opened
theorem shMW : shM.W.length = 132 := by kernel_rfl
theorem shMG : shM.G.length = 2 := by kernel_rfl
theorem shMb : shM.bad = false := by kernel_rfl
theorem shAW : shA.W.length = 132 := by kernel_rfl
theorem shAG : shA.G.length = 2 := by kernel_rfl
theorem shAb : shA.bad = true := by kernel_rfl
theorem shTW : shT.W.length = 132 := by kernel_rfl
theorem shTG : shT.G.length = 2 := by kernel_rfl
theorem shTb : shT.bad = false := by kernel_rfl
theorem shSW : shS.W.length = 132 := by kernel_rfl
theorem shSG : shS.G.length = 2 := by kernel_rfl
theorem shSb : shS.bad = false := by kernel_rfl
theorem shBW : shB.W.length = 132 := by kernel_rfl
theorem shBG : shB.G.length = 2 := by kernel_rfl
theorem shBb : shB.bad = false := by kernel_rfl
theorem shCW : shC.W.length = 132 := by kernel_rfl
theorem shCG : shC.G.length = 2 := by kernel_rfl
theorem shCb : shC.bad = false := by kernel_rfl
theorem shMF : Fits shM := of_decide_eq_true (by kernel_rfl)
theorem shTF : Fits shT := of_decide_eq_true (by kernel_rfl)
theorem shSF : Fits shS := of_decide_eq_true (by kernel_rfl)
theorem shF6 : gi shC.W 131 = 8 := by kernel_rfl
theorem shF7 : nodeD shM.W.length 131 = 1 := by kernel_rfl
theorem shF8 : countD shT.G 1 1 = 1 := by kernel_rfl
theorem shF9 : rightD shC = true := by kernel_rfl
theorem shF10 : sameD shB shC = false := by kernel_rfl
theorem shF11 : loadD shS 131 = 7 := by kernel_rfl
theorem shF12 : casIs shS 131 7 = true := by kernel_rfl
theorem shF13 : newE 1 = 0 := by kernel_rfl
theorem shF14 : 1 ≤ shT.G.length := by rw [shTG]; decide

set_option maxHeartbeats 1000000 in
set_option maxRecDepth 100000 in
theorem shown2_ (w : World) : Gives Proofs.Try.prog 49 #[] w (eqv (.bool true)) := by
  go_enter Proofs.Try.func49, Proofs.Try.ntmps49
  go_wp2_with (fail)
  go_at_call 51
  refine (memNew_ no 1 _ no_lt).calls.mono ?_
  rintro e w1 ⟨_, rfl, hb1, u, rfl, hu⟩
  have hu : IsMem no w1 u shM := hu
  rw [shF13]
  obtain ⟨m1, m2, m3, m4, rfl, wm, gm⟩ := hu.lit shMW shMG shMb
  go_wp2_with (fail)
  obtain ⟨W, hW⟩ : ∃ W, W = w1.alloc (Obj.cells #[.slice m1 132 m2, .slice m3 2 m4, .bool false] 50) := ⟨_, rfl⟩
  have hEW : Ext w1 W := by rw [hW]; exact (by with_reducible (repeat (first | assumption | exact Ext.refl _ | refine Ext.alloc' ?_ _ | refine Ext.store0 ?_ _ _ | refine Ext.storek ?_ _ _ _ | refine Ext.stores0 ?_ ?_ _ _ | refine Ext.storesk ?_ ?_ _ _ _ | refine Ext.store ?_ _ _ (by first | omega | (dsimp only; omega)) | refine Ext.drewN' ?_ _ | refine Ext.drew' ?_ | refine Ext.trans ?_ (by assumption))))
  have Bm : Box W w1.heap.size #[.slice m1 132 m2, .slice m3 2 m4, .bool false] 50 := by rw [hW]; exact Box.new _ _ _
  rw [← hW]
  have hsz : W.heap.size = w1.heap.size + 1 := by rw [hW]; simp
  clear hW
  apply region_lit2 (T := [7]) (L := [5, 8]) (X := []) (G := [eqv _, eqv _, isLoad shA (loadD shM 131), isLoad shA (loadD shM 131), isM shA, eqv _, isNew W.heap.size #[.slice none 0 0, .slice none 0 0, .bool false] 50, anyG, eqv _])
  case hm => kernel_rfl
  case hop =>
    refine ⟨?_, ?_, ?_, ?_, ?_, ?_, ?_, ?_, ?_, trivial⟩
    · intro a wa hs hf hd
      have t1 := hf.off 1 (by kernel_rfl) rfl
      exact plain_ rfl (yes_eqv (o_load3 rfl Proofs.Try.underlying50 rfl (by kernel_rfl) t1 ((Bm.since hs rfl).cell rfl) ((Bm.since hs rfl).cell rfl) ((Bm.since hs rfl).cell rfl)) rfl)
    · intro a wa hs hf hd
      exact plain_ rfl (yes_gives (atF_ 1 3 _ (by omega) (by omega) (by omega) (by omega)) rfl rfl Proofs.Try.func57 (by kernel_rfl) (by kernel_rfl) (by simp only [List.map_toArray, List.map_cons, List.map_nil, eval_const]) rfl)
    · intro a wa hs hf hd
      have t16 : a.eval (.tmp 16) = _ := hd.at 0 16 (by kernel_rfl)
      have t17 : a.eval (.tmp 17) = _ := hd.at 1 17 (by kernel_rfl)
      exact plain_ rfl (yes_gives (memLoad_ no _ shM 131 _ ((IsMem.mk shMb.symm wm gm : IsMem no _ (.agg #[.slice m1 132 m2, .slice m3 2 m4, .bool false]) shM).ext (hEW.trans (Since.to_ext hs))) shMF no_lt (by omega) (by omega)) rfl rfl Proofs.Try.func64 (by kernel_rfl) (by kernel_rfl) (by simp only [List.map_toArray, List.map_cons, List.map_nil, t16, t17]; rfl) rfl)
    · intro a wa hs hf hd
      have t18 := hd.at 2 18 (by kernel_rfl)
      obtain ⟨u, hu, hm⟩ := t18
      exact plain_ rfl (yes_runs (o_move rfl hu) ⟨u, rfl, hm⟩ rfl)
    · intro a wa hs hf hd
      have t15 := hd.at 3 15 (by kernel_rfl)
      obtain ⟨u, hu, hm⟩ := t15
      exact plain_ rfl (yes_runs (o_extract rfl hu rfl) hm rfl)
    · intro a wb wa hs1 hs hf hd
      have t15 := hd.at 3 15 (by kernel_rfl)
      obtain ⟨u, hu, hm⟩ := t15
      exact plain_ rfl (late_eqv (o_extract rfl hu rfl) rfl)
    · intro a wa hs hf hd
      exact plain_ rfl (yes_new (z := .agg #[.slice none 0 0, .slice none 0 0, .bool false]) rfl (by kernel_rfl) rfl rfl hs.size)
    · intro a wb wa hs1 hs hf hd hrun
      have t3 := hd.at 6 3 (by kernel_rfl)
      have t19 := hd.at 4 19 (by kernel_rfl)
      subst hrun
      obtain ⟨k, hk, hn, hB⟩ := t3
      obtain ⟨a1, a2, a3, a4, hv, _, _⟩ := IsMem.lit t19 shAW shAG shAb
      exact ⟨_, o_store rfl hk hv hB (by kernel_rfl) (by simp [Value.cells, Value.oneCell']) (by simp [Value.cells]) rfl, Since.put hs (.inl (by omega))⟩
    · intro a wb wa hs1 hs hf hd
      have t20 : a.eval (.tmp 20) = _ := hd.at 5 20 (by kernel_rfl)
      exact plain_ rfl (late_eqv (o_assign rfl t20) rfl)
  case hG => exact ⟨stable_eqv _, stable_eqv _, stable_isLoad _ _, stable_isLoad _ _, stable_isM _, stable_eqv _, stable_isNew _ _ _, stable_any, stable_eqv _, trivial⟩
  case hc => kernel_rfl
  case hfin =>
    intro v2 hs2
    rintro _ rfl _ rfl _ ⟨u18, rfl, h18⟩ _ ⟨u15, rfl, h15⟩ a hA _ rfl _ ⟨b3, rfl, hn3, hB3⟩ _ rfl
    rintro v3 ⟨o, v4, ho4, hr, rfl⟩
    cases ho4
    obtain ⟨a1, a2, a3, a4, rfl, wa, ga⟩ := IsMem.lit hA shAW shAG shAb
    simp only [Act.put, List.setIfInBounds_toArray, List.set_cons_zero, List.set_cons_succ] at hr ⊢
    cases (hr.symm.trans (o_store (v := .agg #[.slice a1 132 a2, .slice a3 2 a4, .bool true]) (new := #[.slice a1 132 a2, .slice a3 2 a4, .bool true]) rfl rfl rfl hB3 (by kernel_rfl) (by simp [Value.cells, Value.oneCell']) (by simp [Value.cells]) rfl))
    have hE2 : Ext W v2 := Since.to_ext hs2
    obtain ⟨w2, hw2⟩ : ∃ w2, w2 = put v2 b3 (.cells #[.slice a1 132 a2, .slice a3 2 a4, .bool true] 50 (0, 0)) := ⟨_, rfl⟩
    have hb2 : Ext w1 w2 := by rw [hw2]; exact Since.to_ext ((Since.of_ext (hEW.trans hE2)).put (.inl (by omega)))
    have Ba_2 : Box w2 b3 #[.slice a1 132 a2, .slice a3 2 a4, .bool true] 50 := by rw [hw2]; exact hB3.put
    have Bm_2 : Box w2 w1.heap.size #[.slice m1 132 m2, .slice m3 2 m4, .bool false] 50 := by rw [hw2]; exact (Bm.ext hE2).put_other (by omega)
    rw [← hw2]
    clear hw2 hr hs2 Bm hB3
    obtain ⟨cm0, cm1, cm2, dm0, dm1, dm2⟩ := cells3 Bm_2
    have zm : w1.heap.size < w2.heap.size := Bm_2.lt
    obtain ⟨ca0, ca1, ca2, da0, da1, da2⟩ := cells3 Ba_2
    have za : b3 < w2.heap.size := Ba_2.lt
    go_wp2_with (fail)
    go_at_call 70
    refine (memTurn_ no _ shM 1 1 _ ((IsMem.mk shMb.symm wm gm : IsMem no w1 (.agg #[.slice m1 132 m2, .slice m3 2 m4, .bool false]) shM).ext (by with_reducible (repeat (first | assumption | exact Ext.refl _ | refine Ext.alloc' ?_ _ | refine Ext.store0 ?_ _ _ | refine Ext.storek ?_ _ _ _ | refine Ext.stores0 ?_ ?_ _ _ | refine Ext.storesk ?_ ?_ _ _ _ | refine Ext.store ?_ _ _ (by first | omega | (dsimp only; omega)) | refine Ext.drewN' ?_ _ | refine Ext.drew' ?_ | refine Ext.trans ?_ (by assumption))))) shMF no_lt).calls.mono ?_
    rintro e w3 ⟨_, rfl, hb3, hu3⟩
    have hu3 : IsMem no w3 _ shT := hu3
    obtain ⟨t1, t2, t3, t4, rfl, wt, gt⟩ := hu3.lit shTW shTG shTb
    have Bm_3 := Bm_2.ext (show Ext w2 w3 from (by with_reducible (repeat (first | assumption | exact Ext.refl _ | refine Ext.alloc' ?_ _ | refine Ext.store0 ?_ _ _ | refine Ext.storek ?_ _ _ _ | refine Ext.stores0 ?_ ?_ _ _ | refine Ext.storesk ?_ ?_ _ _ _ | refine Ext.store ?_ _ _ (by first | omega | (dsimp only; omega)) | refine Ext.drewN' ?_ _ | refine Ext.drew' ?_ | refine Ext.trans ?_ (by assumption)))))
    have Ba_3 := Ba_2.ext (show Ext w2 w3 from (by with_reducible (repeat (first | assumption | exact Ext.refl _ | refine Ext.alloc' ?_ _ | refine Ext.store0 ?_ _ _ | refine Ext.storek ?_ _ _ _ | refine Ext.stores0 ?_ ?_ _ _ | refine Ext.storesk ?_ ?_ _ _ _ | refine Ext.store ?_ _ _ (by first | omega | (dsimp only; omega)) | refine Ext.drewN' ?_ _ | refine Ext.drew' ?_ | refine Ext.trans ?_ (by assumption)))))
    clear Bm_2 zm cm0 cm1 cm2 dm0 dm1 dm2 Ba_2 za ca0 ca1 ca2 da0 da1 da2
    obtain ⟨cm0, cm1, cm2, dm0, dm1, dm2⟩ := cells3 Bm_3
    have zm : w1.heap.size < w3.heap.size := Bm_3.lt
    obtain ⟨ca0, ca1, ca2, da0, da1, da2⟩ := cells3 Ba_3
    have za : b3 < w3.heap.size := Ba_3.lt
    go_wp2_with (fail)
    go_at_call 68
    refine (memStore_ no _ shT 131 7 _ ((IsMem.mk shTb.symm wt gt : IsMem no w3 (.agg #[.slice t1 132 t2, .slice t3 2 t4, .bool false]) shT).ext (by with_reducible (repeat (first | assumption | exact Ext.refl _ | refine Ext.alloc' ?_ _ | refine Ext.store0 ?_ _ _ | refine Ext.storek ?_ _ _ _ | refine Ext.stores0 ?_ ?_ _ _ | refine Ext.storesk ?_ ?_ _ _ _ | refine Ext.store ?_ _ _ (by first | omega | (dsimp only; omega)) | refine Ext.drewN' ?_ _ | refine Ext.drew' ?_ | refine Ext.trans ?_ (by assumption))))) shTF no_lt (by omega) (by omega)).calls.mono ?_
    rintro e w4 ⟨_, rfl, hb4, hu4⟩
    have hu4 : IsMem no w4 _ shS := hu4
    obtain ⟨s1, s2, s3, s4, rfl, ws, gs⟩ := hu4.lit shSW shSG shSb
    have Bm_4 := Bm_3.ext (show Ext w3 w4 from (by with_reducible (repeat (first | assumption | exact Ext.refl _ | refine Ext.alloc' ?_ _ | refine Ext.store0 ?_ _ _ | refine Ext.storek ?_ _ _ _ | refine Ext.stores0 ?_ ?_ _ _ | refine Ext.storesk ?_ ?_ _ _ _ | refine Ext.store ?_ _ _ (by first | omega | (dsimp only; omega)) | refine Ext.drewN' ?_ _ | refine Ext.drew' ?_ | refine Ext.trans ?_ (by assumption)))))
    have Ba_4 := Ba_3.ext (show Ext w3 w4 from (by with_reducible (repeat (first | assumption | exact Ext.refl _ | refine Ext.alloc' ?_ _ | refine Ext.store0 ?_ _ _ | refine Ext.storek ?_ _ _ _ | refine Ext.stores0 ?_ ?_ _ _ | refine Ext.storesk ?_ ?_ _ _ _ | refine Ext.store ?_ _ _ (by first | omega | (dsimp only; omega)) | refine Ext.drewN' ?_ _ | refine Ext.drew' ?_ | refine Ext.trans ?_ (by assumption)))))
    clear Bm_3 zm cm0 cm1 cm2 dm0 dm1 dm2 Ba_3 za ca0 ca1 ca2 da0 da1 da2
    have Bt_4 : Box w4 (w3.heap.size) #[.slice t1 132 t2, .slice t3 2 t4, .bool false] 50 := (Box.new _ _ _).ext hb4
    obtain ⟨cm0, cm1, cm2, dm0, dm1, dm2⟩ := cells3 Bm_4
    have zm : w1.heap.size < w4.heap.size := Bm_4.lt
    obtain ⟨ca0, ca1, ca2, da0, da1, da2⟩ := cells3 Ba_4
    have za : b3 < w4.heap.size := Ba_4.lt
    obtain ⟨ct0, ct1, ct2, dt0, dt1, dt2⟩ := cells3 Bt_4
    have zt : w3.heap.size < w4.heap.size := Bt_4.lt
    go_wp2_with (fail)
    go_at_call 64
    refine (memLoad_ no _ shS 131 _ ((IsMem.mk shSb.symm ws gs : IsMem no w4 (.agg #[.slice s1 132 s2, .slice s3 2 s4, .bool false]) shS).ext (by with_reducible (repeat (first | assumption | exact Ext.refl _ | refine Ext.alloc' ?_ _ | refine Ext.store0 ?_ _ _ | refine Ext.storek ?_ _ _ _ | refine Ext.stores0 ?_ ?_ _ _ | refine Ext.storesk ?_ ?_ _ _ _ | refine Ext.store ?_ _ _ (by first | omega | (dsimp only; omega)) | refine Ext.drewN' ?_ _ | refine Ext.drew' ?_ | refine Ext.trans ?_ (by assumption))))) shSF no_lt (by omega) (by omega)).calls.mono ?_
    rintro e w5 ⟨_, rfl, hb5, u5, rfl, hu5⟩
    have hu5 : IsMem no w5 _ shB := hu5
    rw [shF11]
    obtain ⟨p1, p2, p3, p4, rfl, wp, gp⟩ := hu5.lit shBW shBG shBb
    have Bm_5 := Bm_4.ext (show Ext w4 w5 from (by with_reducible (repeat (first | assumption | exact Ext.refl _ | refine Ext.alloc' ?_ _ | refine Ext.store0 ?_ _ _ | refine Ext.storek ?_ _ _ _ | refine Ext.stores0 ?_ ?_ _ _ | refine Ext.storesk ?_ ?_ _ _ _ | refine Ext.store ?_ _ _ (by first | omega | (dsimp only; omega)) | refine Ext.drewN' ?_ _ | refine Ext.drew' ?_ | refine Ext.trans ?_ (by assumption)))))
    have Ba_5 := Ba_4.ext (show Ext w4 w5 from (by with_reducible (repeat (first | assumption | exact Ext.refl _ | refine Ext.alloc' ?_ _ | refine Ext.store0 ?_ _ _ | refine Ext.storek ?_ _ _ _ | refine Ext.stores0 ?_ ?_ _ _ | refine Ext.storesk ?_ ?_ _ _ _ | refine Ext.store ?_ _ _ (by first | omega | (dsimp only; omega)) | refine Ext.drewN' ?_ _ | refine Ext.drew' ?_ | refine Ext.trans ?_ (by assumption)))))
    have Bt_5 := Bt_4.ext (show Ext w4 w5 from (by with_reducible (repeat (first | assumption | exact Ext.refl _ | refine Ext.alloc' ?_ _ | refine Ext.store0 ?_ _ _ | refine Ext.storek ?_ _ _ _ | refine Ext.stores0 ?_ ?_ _ _ | refine Ext.storesk ?_ ?_ _ _ _ | refine Ext.store ?_ _ _ (by first | omega | (dsimp only; omega)) | refine Ext.drewN' ?_ _ | refine Ext.drew' ?_ | refine Ext.trans ?_ (by assumption)))))
    clear Bm_4 zm cm0 cm1 cm2 dm0 dm1 dm2 Ba_4 za ca0 ca1 ca2 da0 da1 da2 Bt_4 zt ct0 ct1 ct2 dt0 dt1 dt2
    have Bs_5 : Box w5 (w4.heap.size) #[.slice s1 132 s2, .slice s3 2 s4, .bool false] 50 := (Box.new _ _ _).ext hb5
    obtain ⟨cm0, cm1, cm2, dm0, dm1, dm2⟩ := cells3 Bm_5
    have zm : w1.heap.size < w5.heap.size := Bm_5.lt
    obtain ⟨ca0, ca1, ca2, da0, da1, da2⟩ := cells3 Ba_5
    have za : b3 < w5.heap.size := Ba_5.lt
    obtain ⟨ct0, ct1, ct2, dt0, dt1, dt2⟩ := cells3 Bt_5
    have zt : w3.heap.size < w5.heap.size := Bt_5.lt
    obtain ⟨cs0, cs1, cs2, ds0, ds1, ds2⟩ := cells3 Bs_5
    have zs : w4.heap.size < w5.heap.size := Bs_5.lt
    go_wp2_with (fail)
    go_at_call 66
    refine (memCas_ no _ shS 131 7 8 _ ((IsMem.mk shSb.symm ws gs : IsMem no w4 (.agg #[.slice s1 132 s2, .slice s3 2 s4, .bool false]) shS).ext (by with_reducible (repeat (first | assumption | exact Ext.refl _ | refine Ext.alloc' ?_ _ | refine Ext.store0 ?_ _ _ | refine Ext.storek ?_ _ _ _ | refine Ext.stores0 ?_ ?_ _ _ | refine Ext.storesk ?_ ?_ _ _ _ | refine Ext.store ?_ _ _ (by first | omega | (dsimp only; omega)) | refine Ext.drewN' ?_ _ | refine Ext.drew' ?_ | refine Ext.trans ?_ (by assumption))))) shSF no_lt (by omega) (by omega)).calls.mono ?_
    rintro e w6 ⟨_, rfl, hb6, u6, rfl, hu6⟩
    have hu6 : IsMem no w6 _ shC := hu6
    rw [shF12]
    obtain ⟨q1, q2, q3, q4, rfl, wq, gq⟩ := hu6.lit shCW shCG shCb
    have Bm_6 := Bm_5.ext (show Ext w5 w6 from (by with_reducible (repeat (first | assumption | exact Ext.refl _ | refine Ext.alloc' ?_ _ | refine Ext.store0 ?_ _ _ | refine Ext.storek ?_ _ _ _ | refine Ext.stores0 ?_ ?_ _ _ | refine Ext.storesk ?_ ?_ _ _ _ | refine Ext.store ?_ _ _ (by first | omega | (dsimp only; omega)) | refine Ext.drewN' ?_ _ | refine Ext.drew' ?_ | refine Ext.trans ?_ (by assumption)))))
    have Ba_6 := Ba_5.ext (show Ext w5 w6 from (by with_reducible (repeat (first | assumption | exact Ext.refl _ | refine Ext.alloc' ?_ _ | refine Ext.store0 ?_ _ _ | refine Ext.storek ?_ _ _ _ | refine Ext.stores0 ?_ ?_ _ _ | refine Ext.storesk ?_ ?_ _ _ _ | refine Ext.store ?_ _ _ (by first | omega | (dsimp only; omega)) | refine Ext.drewN' ?_ _ | refine Ext.drew' ?_ | refine Ext.trans ?_ (by assumption)))))
    have Bt_6 := Bt_5.ext (show Ext w5 w6 from (by with_reducible (repeat (first | assumption | exact Ext.refl _ | refine Ext.alloc' ?_ _ | refine Ext.store0 ?_ _ _ | refine Ext.storek ?_ _ _ _ | refine Ext.stores0 ?_ ?_ _ _ | refine Ext.storesk ?_ ?_ _ _ _ | refine Ext.store ?_ _ _ (by first | omega | (dsimp only; omega)) | refine Ext.drewN' ?_ _ | refine Ext.drew' ?_ | refine Ext.trans ?_ (by assumption)))))
    have Bs_6 := Bs_5.ext (show Ext w5 w6 from (by with_reducible (repeat (first | assumption | exact Ext.refl _ | refine Ext.alloc' ?_ _ | refine Ext.store0 ?_ _ _ | refine Ext.storek ?_ _ _ _ | refine Ext.stores0 ?_ ?_ _ _ | refine Ext.storesk ?_ ?_ _ _ _ | refine Ext.store ?_ _ _ (by first | omega | (dsimp only; omega)) | refine Ext.drewN' ?_ _ | refine Ext.drew' ?_ | refine Ext.trans ?_ (by assumption)))))
    clear Bm_5 zm cm0 cm1 cm2 dm0 dm1 dm2 Ba_5 za ca0 ca1 ca2 da0 da1 da2 Bt_5 zt ct0 ct1 ct2 dt0 dt1 dt2 Bs_5 zs cs0 cs1 cs2 ds0 ds1 ds2
    have Bb_6 : Box w6 (w5.heap.size) #[.slice p1 132 p2, .slice p3 2 p4, .bool false] 50 := (Box.new _ _ _).ext hb6
    obtain ⟨cm0, cm1, cm2, dm0, dm1, dm2⟩ := cells3 Bm_6
    have zm : w1.heap.size < w6.heap.size := Bm_6.lt
    obtain ⟨ca0, ca1, ca2, da0, da1, da2⟩ := cells3 Ba_6
    have za : b3 < w6.heap.size := Ba_6.lt
    obtain ⟨ct0, ct1, ct2, dt0, dt1, dt2⟩ := cells3 Bt_6
    have zt : w3.heap.size < w6.heap.size := Bt_6.lt
    obtain ⟨cs0, cs1, cs2, ds0, ds1, ds2⟩ := cells3 Bs_6
    have zs : w4.heap.size < w6.heap.size := Bs_6.lt
    obtain ⟨cb0, cb1, cb2, db0, db1, db2⟩ := cells3 Bb_6
    have zb : w5.heap.size < w6.heap.size := Bb_6.lt
    obtain ⟨_, _, ec, rc, lc, ccc⟩ := wq.opened
    cases ec
    obtain ⟨bc, oc, rfl, xc, nc, gc131⟩ := ccc 131 (by rw [shCW]; omega)
    rw [shF6] at gc131
    go_wp2_with (fail)
    go_at_call 57
    refine (atF_ 1 3 _ (by omega) (by omega) (by omega) (by omega)).calls.mono ?_
    rintro e w7 ⟨_, rfl, hb7, rfl⟩
    have gc131 := cell_ext gc131 (show Ext w6 w7 from (by with_reducible (repeat (first | assumption | exact Ext.refl _ | refine Ext.alloc' ?_ _ | refine Ext.store0 ?_ _ _ | refine Ext.storek ?_ _ _ _ | refine Ext.stores0 ?_ ?_ _ _ | refine Ext.storesk ?_ ?_ _ _ _ | refine Ext.store ?_ _ _ (by first | omega | (dsimp only; omega)) | refine Ext.drewN' ?_ _ | refine Ext.drew' ?_ | refine Ext.trans ?_ (by assumption)))))
    have Bm_7 := Bm_6.ext (show Ext w6 w7 from (by with_reducible (repeat (first | assumption | exact Ext.refl _ | refine Ext.alloc' ?_ _ | refine Ext.store0 ?_ _ _ | refine Ext.storek ?_ _ _ _ | refine Ext.stores0 ?_ ?_ _ _ | refine Ext.storesk ?_ ?_ _ _ _ | refine Ext.store ?_ _ _ (by first | omega | (dsimp only; omega)) | refine Ext.drewN' ?_ _ | refine Ext.drew' ?_ | refine Ext.trans ?_ (by assumption)))))
    have Ba_7 := Ba_6.ext (show Ext w6 w7 from (by with_reducible (repeat (first | assumption | exact Ext.refl _ | refine Ext.alloc' ?_ _ | refine Ext.store0 ?_ _ _ | refine Ext.storek ?_ _ _ _ | refine Ext.stores0 ?_ ?_ _ _ | refine Ext.storesk ?_ ?_ _ _ _ | refine Ext.store ?_ _ _ (by first | omega | (dsimp only; omega)) | refine Ext.drewN' ?_ _ | refine Ext.drew' ?_ | refine Ext.trans ?_ (by assumption)))))
    have Bt_7 := Bt_6.ext (show Ext w6 w7 from (by with_reducible (repeat (first | assumption | exact Ext.refl _ | refine Ext.alloc' ?_ _ | refine Ext.store0 ?_ _ _ | refine Ext.storek ?_ _ _ _ | refine Ext.stores0 ?_ ?_ _ _ | refine Ext.storesk ?_ ?_ _ _ _ | refine Ext.store ?_ _ _ (by first | omega | (dsimp only; omega)) | refine Ext.drewN' ?_ _ | refine Ext.drew' ?_ | refine Ext.trans ?_ (by assumption)))))
    have Bs_7 := Bs_6.ext (show Ext w6 w7 from (by with_reducible (repeat (first | assumption | exact Ext.refl _ | refine Ext.alloc' ?_ _ | refine Ext.store0 ?_ _ _ | refine Ext.storek ?_ _ _ _ | refine Ext.stores0 ?_ ?_ _ _ | refine Ext.storesk ?_ ?_ _ _ _ | refine Ext.store ?_ _ _ (by first | omega | (dsimp only; omega)) | refine Ext.drewN' ?_ _ | refine Ext.drew' ?_ | refine Ext.trans ?_ (by assumption)))))
    have Bb_7 := Bb_6.ext (show Ext w6 w7 from (by with_reducible (repeat (first | assumption | exact Ext.refl _ | refine Ext.alloc' ?_ _ | refine Ext.store0 ?_ _ _ | refine Ext.storek ?_ _ _ _ | refine Ext.stores0 ?_ ?_ _ _ | refine Ext.storesk ?_ ?_ _ _ _ | refine Ext.store ?_ _ _ (by first | omega | (dsimp only; omega)) | refine Ext.drewN' ?_ _ | refine Ext.drew' ?_ | refine Ext.trans ?_ (by assumption)))))
    clear Bm_6 zm cm0 cm1 cm2 dm0 dm1 dm2 Ba_6 za ca0 ca1 ca2 da0 da1 da2 Bt_6 zt ct0 ct1 ct2 dt0 dt1 dt2 Bs_6 zs cs0 cs1 cs2 ds0 ds1 ds2 Bb_6 zb cb0 cb1 cb2 db0 db1 db2
    have Bc_7 : Box w7 (w6.heap.size) #[.slice (some ⟨bc, oc, none⟩) 132 q2, .slice q3 2 q4, .bool false] 50 := (Box.new _ _ _).ext hb7
    obtain ⟨cm0, cm1, cm2, dm0, dm1, dm2⟩ := cells3 Bm_7
    have zm : w1.heap.size < w7.heap.size := Bm_7.lt
    obtain ⟨ca0, ca1, ca2, da0, da1, da2⟩ := cells3 Ba_7
    have za : b3 < w7.heap.size := Ba_7.lt
    obtain ⟨ct0, ct1, ct2, dt0, dt1, dt2⟩ := cells3 Bt_7
    have zt : w3.heap.size < w7.heap.size := Bt_7.lt
    obtain ⟨cs0, cs1, cs2, ds0, ds1, ds2⟩ := cells3 Bs_7
    have zs : w4.heap.size < w7.heap.size := Bs_7.lt
    obtain ⟨cb0, cb1, cb2, db0, db1, db2⟩ := cells3 Bb_7
    have zb : w5.heap.size < w7.heap.size := Bb_7.lt
    obtain ⟨cc0, cc1, cc2, dc0, dc1, dc2⟩ := cells3 Bc_7
    have zc : w6.heap.size < w7.heap.size := Bc_7.lt
    go_wp2_with (fail)
    go_at_call 59
    refine (node_ no _ shM 131 _ ((IsMem.mk shMb.symm wm gm : IsMem no w1 (.agg #[.slice m1 132 m2, .slice m3 2 m4, .bool false]) shM).ext (by with_reducible (repeat (first | assumption | exact Ext.refl _ | refine Ext.alloc' ?_ _ | refine Ext.store0 ?_ _ _ | refine Ext.storek ?_ _ _ _ | refine Ext.stores0 ?_ ?_ _ _ | refine Ext.storesk ?_ ?_ _ _ _ | refine Ext.store ?_ _ _ (by first | omega | (dsimp only; omega)) | refine Ext.drewN' ?_ _ | refine Ext.drew' ?_ | refine Ext.trans ?_ (by assumption))))) (by omega) (by omega)).calls.mono ?_
    rintro e w8 ⟨_, rfl, hb8, rfl⟩
    rw [shF7]
    have Bm_8 := Bm_7.ext (show Ext w7 w8 from (by with_reducible (repeat (first | assumption | exact Ext.refl _ | refine Ext.alloc' ?_ _ | refine Ext.store0 ?_ _ _ | refine Ext.storek ?_ _ _ _ | refine Ext.stores0 ?_ ?_ _ _ | refine Ext.storesk ?_ ?_ _ _ _ | refine Ext.store ?_ _ _ (by first | omega | (dsimp only; omega)) | refine Ext.drewN' ?_ _ | refine Ext.drew' ?_ | refine Ext.trans ?_ (by assumption)))))
    have Ba_8 := Ba_7.ext (show Ext w7 w8 from (by with_reducible (repeat (first | assumption | exact Ext.refl _ | refine Ext.alloc' ?_ _ | refine Ext.store0 ?_ _ _ | refine Ext.storek ?_ _ _ _ | refine Ext.stores0 ?_ ?_ _ _ | refine Ext.storesk ?_ ?_ _ _ _ | refine Ext.store ?_ _ _ (by first | omega | (dsimp only; omega)) | refine Ext.drewN' ?_ _ | refine Ext.drew' ?_ | refine Ext.trans ?_ (by assumption)))))
    have Bt_8 := Bt_7.ext (show Ext w7 w8 from (by with_reducible (repeat (first | assumption | exact Ext.refl _ | refine Ext.alloc' ?_ _ | refine Ext.store0 ?_ _ _ | refine Ext.storek ?_ _ _ _ | refine Ext.stores0 ?_ ?_ _ _ | refine Ext.storesk ?_ ?_ _ _ _ | refine Ext.store ?_ _ _ (by first | omega | (dsimp only; omega)) | refine Ext.drewN' ?_ _ | refine Ext.drew' ?_ | refine Ext.trans ?_ (by assumption)))))
    have Bs_8 := Bs_7.ext (show Ext w7 w8 from (by with_reducible (repeat (first | assumption | exact Ext.refl _ | refine Ext.alloc' ?_ _ | refine Ext.store0 ?_ _ _ | refine Ext.storek ?_ _ _ _ | refine Ext.stores0 ?_ ?_ _ _ | refine Ext.storesk ?_ ?_ _ _ _ | refine Ext.store ?_ _ _ (by first | omega | (dsimp only; omega)) | refine Ext.drewN' ?_ _ | refine Ext.drew' ?_ | refine Ext.trans ?_ (by assumption)))))
    have Bb_8 := Bb_7.ext (show Ext w7 w8 from (by with_reducible (repeat (first | assumption | exact Ext.refl _ | refine Ext.alloc' ?_ _ | refine Ext.store0 ?_ _ _ | refine Ext.storek ?_ _ _ _ | refine Ext.stores0 ?_ ?_ _ _ | refine Ext.storesk ?_ ?_ _ _ _ | refine Ext.store ?_ _ _ (by first | omega | (dsimp only; omega)) | refine Ext.drewN' ?_ _ | refine Ext.drew' ?_ | refine Ext.trans ?_ (by assumption)))))
    have Bc_8 := Bc_7.ext (show Ext w7 w8 from (by with_reducible (repeat (first | assumption | exact Ext.refl _ | refine Ext.alloc' ?_ _ | refine Ext.store0 ?_ _ _ | refine Ext.storek ?_ _ _ _ | refine Ext.stores0 ?_ ?_ _ _ | refine Ext.storesk ?_ ?_ _ _ _ | refine Ext.store ?_ _ _ (by first | omega | (dsimp only; omega)) | refine Ext.drewN' ?_ _ | refine Ext.drew' ?_ | refine Ext.trans ?_ (by assumption)))))
    clear Bm_7 zm cm0 cm1 cm2 dm0 dm1 dm2 Ba_7 za ca0 ca1 ca2 da0 da1 da2 Bt_7 zt ct0 ct1 ct2 dt0 dt1 dt2 Bs_7 zs cs0 cs1 cs2 ds0 ds1 ds2 Bb_7 zb cb0 cb1 cb2 db0 db1 db2 Bc_7 zc cc0 cc1 cc2 dc0 dc1 dc2
    obtain ⟨cm0, cm1, cm2, dm0, dm1, dm2⟩ := cells3 Bm_8
    have zm : w1.heap.size < w8.heap.size := Bm_8.lt
    obtain ⟨ca0, ca1, ca2, da0, da1, da2⟩ := cells3 Ba_8
    have za : b3 < w8.heap.size := Ba_8.lt
    obtain ⟨ct0, ct1, ct2, dt0, dt1, dt2⟩ := cells3 Bt_8
    have zt : w3.heap.size < w8.heap.size := Bt_8.lt
    obtain ⟨cs0, cs1, cs2, ds0, ds1, ds2⟩ := cells3 Bs_8
    have zs : w4.heap.size < w8.heap.size := Bs_8.lt
    obtain ⟨cb0, cb1, cb2, db0, db1, db2⟩ := cells3 Bb_8
    have zb : w5.heap.size < w8.heap.size := Bb_8.lt
    obtain ⟨cc0, cc1, cc2, dc0, dc1, dc2⟩ := cells3 Bc_8
    have zc : w6.heap.size < w8.heap.size := Bc_8.lt
    go_wp2_with (fail)
    go_at_call 61
    refine (count_ no _ shT 1 _ ((IsMem.mk shTb.symm wt gt : IsMem no w3 (.agg #[.slice t1 132 t2, .slice t3 2 t4, .bool false]) shT).ext (by with_reducible (repeat (first | assumption | exact Ext.refl _ | refine Ext.alloc' ?_ _ | refine Ext.store0 ?_ _ _ | refine Ext.storek ?_ _ _ _ | refine Ext.stores0 ?_ ?_ _ _ | refine Ext.storesk ?_ ?_ _ _ _ | refine Ext.store ?_ _ _ (by first | omega | (dsimp only; omega)) | refine Ext.drewN' ?_ _ | refine Ext.drew' ?_ | refine Ext.trans ?_ (by assumption))))) shF14).calls.mono ?_
    rintro e w9 ⟨_, rfl, hb9, rfl⟩
    rw [shF8]
    have Bm_9 := Bm_8.ext (show Ext w8 w9 from (by with_reducible (repeat (first | assumption | exact Ext.refl _ | refine Ext.alloc' ?_ _ | refine Ext.store0 ?_ _ _ | refine Ext.storek ?_ _ _ _ | refine Ext.stores0 ?_ ?_ _ _ | refine Ext.storesk ?_ ?_ _ _ _ | refine Ext.store ?_ _ _ (by first | omega | (dsimp only; omega)) | refine Ext.drewN' ?_ _ | refine Ext.drew' ?_ | refine Ext.trans ?_ (by assumption)))))
    have Ba_9 := Ba_8.ext (show Ext w8 w9 from (by with_reducible (repeat (first | assumption | exact Ext.refl _ | refine Ext.alloc' ?_ _ | refine Ext.store0 ?_ _ _ | refine Ext.storek ?_ _ _ _ | refine Ext.stores0 ?_ ?_ _ _ | refine Ext.storesk ?_ ?_ _ _ _ | refine Ext.store ?_ _ _ (by first | omega | (dsimp only; omega)) | refine Ext.drewN' ?_ _ | refine Ext.drew' ?_ | refine Ext.trans ?_ (by assumption)))))
    have Bt_9 := Bt_8.ext (show Ext w8 w9 from (by with_reducible (repeat (first | assumption | exact Ext.refl _ | refine Ext.alloc' ?_ _ | refine Ext.store0 ?_ _ _ | refine Ext.storek ?_ _ _ _ | refine Ext.stores0 ?_ ?_ _ _ | refine Ext.storesk ?_ ?_ _ _ _ | refine Ext.store ?_ _ _ (by first | omega | (dsimp only; omega)) | refine Ext.drewN' ?_ _ | refine Ext.drew' ?_ | refine Ext.trans ?_ (by assumption)))))
    have Bs_9 := Bs_8.ext (show Ext w8 w9 from (by with_reducible (repeat (first | assumption | exact Ext.refl _ | refine Ext.alloc' ?_ _ | refine Ext.store0 ?_ _ _ | refine Ext.storek ?_ _ _ _ | refine Ext.stores0 ?_ ?_ _ _ | refine Ext.storesk ?_ ?_ _ _ _ | refine Ext.store ?_ _ _ (by first | omega | (dsimp only; omega)) | refine Ext.drewN' ?_ _ | refine Ext.drew' ?_ | refine Ext.trans ?_ (by assumption)))))
    have Bb_9 := Bb_8.ext (show Ext w8 w9 from (by with_reducible (repeat (first | assumption | exact Ext.refl _ | refine Ext.alloc' ?_ _ | refine Ext.store0 ?_ _ _ | refine Ext.storek ?_ _ _ _ | refine Ext.stores0 ?_ ?_ _ _ | refine Ext.storesk ?_ ?_ _ _ _ | refine Ext.store ?_ _ _ (by first | omega | (dsimp only; omega)) | refine Ext.drewN' ?_ _ | refine Ext.drew' ?_ | refine Ext.trans ?_ (by assumption)))))
    have Bc_9 := Bc_8.ext (show Ext w8 w9 from (by with_reducible (repeat (first | assumption | exact Ext.refl _ | refine Ext.alloc' ?_ _ | refine Ext.store0 ?_ _ _ | refine Ext.storek ?_ _ _ _ | refine Ext.stores0 ?_ ?_ _ _ | refine Ext.storesk ?_ ?_ _ _ _ | refine Ext.store ?_ _ _ (by first | omega | (dsimp only; omega)) | refine Ext.drewN' ?_ _ | refine Ext.drew' ?_ | refine Ext.trans ?_ (by assumption)))))
    clear Bm_8 zm cm0 cm1 cm2 dm0 dm1 dm2 Ba_8 za ca0 ca1 ca2 da0 da1 da2 Bt_8 zt ct0 ct1 ct2 dt0 dt1 dt2 Bs_8 zs cs0 cs1 cs2 ds0 ds1 ds2 Bb_8 zb cb0 cb1 cb2 db0 db1 db2 Bc_8 zc cc0 cc1 cc2 dc0 dc1 dc2
    obtain ⟨cm0, cm1, cm2, dm0, dm1, dm2⟩ := cells3 Bm_9
    have zm : w1.heap.size < w9.heap.size := Bm_9.lt
    obtain ⟨ca0, ca1, ca2, da0, da1, da2⟩ := cells3 Ba_9
    have za : b3 < w9.heap.size := Ba_9.lt
    obtain ⟨ct0, ct1, ct2, dt0, dt1, dt2⟩ := cells3 Bt_9
    have zt : w3.heap.size < w9.heap.size := Bt_9.lt
    obtain ⟨cs0, cs1, cs2, ds0, ds1, ds2⟩ := cells3 Bs_9
    have zs : w4.heap.size < w9.heap.size := Bs_9.lt
    obtain ⟨cb0, cb1, cb2, db0, db1, db2⟩ := cells3 Bb_9
    have zb : w5.heap.size < w9.heap.size := Bb_9.lt
    obtain ⟨cc0, cc1, cc2, dc0, dc1, dc2⟩ := cells3 Bc_9
    have zc : w6.heap.size < w9.heap.size := Bc_9.lt
    go_wp2_with (fail)
    go_at_call 55
    refine (memRight_ no _ shC _ ((IsMem.mk shCb.symm wq gq : IsMem no w6 (.agg #[.slice (some ⟨bc, oc, none⟩) 132 q2, .slice q3 2 q4, .bool false]) shC).ext (by with_reducible (repeat (first | assumption | exact Ext.refl _ | refine Ext.alloc' ?_ _ | refine Ext.store0 ?_ _ _ | refine Ext.storek ?_ _ _ _ | refine Ext.stores0 ?_ ?_ _ _ | refine Ext.storesk ?_ ?_ _ _ _ | refine Ext.store ?_ _ _ (by first | omega | (dsimp only; omega)) | refine Ext.drewN' ?_ _ | refine Ext.drew' ?_ | refine Ext.trans ?_ (by assumption)))))).calls.mono ?_
    rintro e w10 ⟨_, rfl, hb10, rfl⟩
    rw [shF9]
    have Bm_10 := Bm_9.ext (show Ext w9 w10 from (by with_reducible (repeat (first | assumption | exact Ext.refl _ | refine Ext.alloc' ?_ _ | refine Ext.store0 ?_ _ _ | refine Ext.storek ?_ _ _ _ | refine Ext.stores0 ?_ ?_ _ _ | refine Ext.storesk ?_ ?_ _ _ _ | refine Ext.store ?_ _ _ (by first | omega | (dsimp only; omega)) | refine Ext.drewN' ?_ _ | refine Ext.drew' ?_ | refine Ext.trans ?_ (by assumption)))))
    have Ba_10 := Ba_9.ext (show Ext w9 w10 from (by with_reducible (repeat (first | assumption | exact Ext.refl _ | refine Ext.alloc' ?_ _ | refine Ext.store0 ?_ _ _ | refine Ext.storek ?_ _ _ _ | refine Ext.stores0 ?_ ?_ _ _ | refine Ext.storesk ?_ ?_ _ _ _ | refine Ext.store ?_ _ _ (by first | omega | (dsimp only; omega)) | refine Ext.drewN' ?_ _ | refine Ext.drew' ?_ | refine Ext.trans ?_ (by assumption)))))
    have Bt_10 := Bt_9.ext (show Ext w9 w10 from (by with_reducible (repeat (first | assumption | exact Ext.refl _ | refine Ext.alloc' ?_ _ | refine Ext.store0 ?_ _ _ | refine Ext.storek ?_ _ _ _ | refine Ext.stores0 ?_ ?_ _ _ | refine Ext.storesk ?_ ?_ _ _ _ | refine Ext.store ?_ _ _ (by first | omega | (dsimp only; omega)) | refine Ext.drewN' ?_ _ | refine Ext.drew' ?_ | refine Ext.trans ?_ (by assumption)))))
    have Bs_10 := Bs_9.ext (show Ext w9 w10 from (by with_reducible (repeat (first | assumption | exact Ext.refl _ | refine Ext.alloc' ?_ _ | refine Ext.store0 ?_ _ _ | refine Ext.storek ?_ _ _ _ | refine Ext.stores0 ?_ ?_ _ _ | refine Ext.storesk ?_ ?_ _ _ _ | refine Ext.store ?_ _ _ (by first | omega | (dsimp only; omega)) | refine Ext.drewN' ?_ _ | refine Ext.drew' ?_ | refine Ext.trans ?_ (by assumption)))))
    have Bb_10 := Bb_9.ext (show Ext w9 w10 from (by with_reducible (repeat (first | assumption | exact Ext.refl _ | refine Ext.alloc' ?_ _ | refine Ext.store0 ?_ _ _ | refine Ext.storek ?_ _ _ _ | refine Ext.stores0 ?_ ?_ _ _ | refine Ext.storesk ?_ ?_ _ _ _ | refine Ext.store ?_ _ _ (by first | omega | (dsimp only; omega)) | refine Ext.drewN' ?_ _ | refine Ext.drew' ?_ | refine Ext.trans ?_ (by assumption)))))
    have Bc_10 := Bc_9.ext (show Ext w9 w10 from (by with_reducible (repeat (first | assumption | exact Ext.refl _ | refine Ext.alloc' ?_ _ | refine Ext.store0 ?_ _ _ | refine Ext.storek ?_ _ _ _ | refine Ext.stores0 ?_ ?_ _ _ | refine Ext.storesk ?_ ?_ _ _ _ | refine Ext.store ?_ _ _ (by first | omega | (dsimp only; omega)) | refine Ext.drewN' ?_ _ | refine Ext.drew' ?_ | refine Ext.trans ?_ (by assumption)))))
    clear Bm_9 zm cm0 cm1 cm2 dm0 dm1 dm2 Ba_9 za ca0 ca1 ca2 da0 da1 da2 Bt_9 zt ct0 ct1 ct2 dt0 dt1 dt2 Bs_9 zs cs0 cs1 cs2 ds0 ds1 ds2 Bb_9 zb cb0 cb1 cb2 db0 db1 db2 Bc_9 zc cc0 cc1 cc2 dc0 dc1 dc2
    obtain ⟨cm0, cm1, cm2, dm0, dm1, dm2⟩ := cells3 Bm_10
    have zm : w1.heap.size < w10.heap.size := Bm_10.lt
    obtain ⟨ca0, ca1, ca2, da0, da1, da2⟩ := cells3 Ba_10
    have za : b3 < w10.heap.size := Ba_10.lt
    obtain ⟨ct0, ct1, ct2, dt0, dt1, dt2⟩ := cells3 Bt_10
    have zt : w3.heap.size < w10.heap.size := Bt_10.lt
    obtain ⟨cs0, cs1, cs2, ds0, ds1, ds2⟩ := cells3 Bs_10
    have zs : w4.heap.size < w10.heap.size := Bs_10.lt
    obtain ⟨cb0, cb1, cb2, db0, db1, db2⟩ := cells3 Bb_10
    have zb : w5.heap.size < w10.heap.size := Bb_10.lt
    obtain ⟨cc0, cc1, cc2, dc0, dc1, dc2⟩ := cells3 Bc_10
    have zc : w6.heap.size < w10.heap.size := Bc_10.lt
    go_wp2_with (fail)
    go_at_call 56
    refine (memSame_ no _ _ shB shC _ ((IsMem.mk shBb.symm wp gp : IsMem no w5 (.agg #[.slice p1 132 p2, .slice p3 2 p4, .bool false]) shB).ext (by with_reducible (repeat (first | assumption | exact Ext.refl _ | refine Ext.alloc' ?_ _ | refine Ext.store0 ?_ _ _ | refine Ext.storek ?_ _ _ _ | refine Ext.stores0 ?_ ?_ _ _ | refine Ext.storesk ?_ ?_ _ _ _ | refine Ext.store ?_ _ _ (by first | omega | (dsimp only; omega)) | refine Ext.drewN' ?_ _ | refine Ext.drew' ?_ | refine Ext.trans ?_ (by assumption))))) ((IsMem.mk shCb.symm wq gq : IsMem no w6 (.agg #[.slice (some ⟨bc, oc, none⟩) 132 q2, .slice q3 2 q4, .bool false]) shC).ext (by with_reducible (repeat (first | assumption | exact Ext.refl _ | refine Ext.alloc' ?_ _ | refine Ext.store0 ?_ _ _ | refine Ext.storek ?_ _ _ _ | refine Ext.stores0 ?_ ?_ _ _ | refine Ext.storesk ?_ ?_ _ _ _ | refine Ext.store ?_ _ _ (by first | omega | (dsimp only; omega)) | refine Ext.drewN' ?_ _ | refine Ext.drew' ?_ | refine Ext.trans ?_ (by assumption)))))).calls.mono ?_
    rintro e w11 ⟨_, rfl, hb11, rfl⟩
    rw [shF10]
    have Bm_11 := Bm_10.ext (show Ext w10 w11 from (by with_reducible (repeat (first | assumption | exact Ext.refl _ | refine Ext.alloc' ?_ _ | refine Ext.store0 ?_ _ _ | refine Ext.storek ?_ _ _ _ | refine Ext.stores0 ?_ ?_ _ _ | refine Ext.storesk ?_ ?_ _ _ _ | refine Ext.store ?_ _ _ (by first | omega | (dsimp only; omega)) | refine Ext.drewN' ?_ _ | refine Ext.drew' ?_ | refine Ext.trans ?_ (by assumption)))))
    have Ba_11 := Ba_10.ext (show Ext w10 w11 from (by with_reducible (repeat (first | assumption | exact Ext.refl _ | refine Ext.alloc' ?_ _ | refine Ext.store0 ?_ _ _ | refine Ext.storek ?_ _ _ _ | refine Ext.stores0 ?_ ?_ _ _ | refine Ext.storesk ?_ ?_ _ _ _ | refine Ext.store ?_ _ _ (by first | omega | (dsimp only; omega)) | refine Ext.drewN' ?_ _ | refine Ext.drew' ?_ | refine Ext.trans ?_ (by assumption)))))
    have Bt_11 := Bt_10.ext (show Ext w10 w11 from (by with_reducible (repeat (first | assumption | exact Ext.refl _ | refine Ext.alloc' ?_ _ | refine Ext.store0 ?_ _ _ | refine Ext.storek ?_ _ _ _ | refine Ext.stores0 ?_ ?_ _ _ | refine Ext.storesk ?_ ?_ _ _ _ | refine Ext.store ?_ _ _ (by first | omega | (dsimp only; omega)) | refine Ext.drewN' ?_ _ | refine Ext.drew' ?_ | refine Ext.trans ?_ (by assumption)))))
    have Bs_11 := Bs_10.ext (show Ext w10 w11 from (by with_reducible (repeat (first | assumption | exact Ext.refl _ | refine Ext.alloc' ?_ _ | refine Ext.store0 ?_ _ _ | refine Ext.storek ?_ _ _ _ | refine Ext.stores0 ?_ ?_ _ _ | refine Ext.storesk ?_ ?_ _ _ _ | refine Ext.store ?_ _ _ (by first | omega | (dsimp only; omega)) | refine Ext.drewN' ?_ _ | refine Ext.drew' ?_ | refine Ext.trans ?_ (by assumption)))))
    have Bb_11 := Bb_10.ext (show Ext w10 w11 from (by with_reducible (repeat (first | assumption | exact Ext.refl _ | refine Ext.alloc' ?_ _ | refine Ext.store0 ?_ _ _ | refine Ext.storek ?_ _ _ _ | refine Ext.stores0 ?_ ?_ _ _ | refine Ext.storesk ?_ ?_ _ _ _ | refine Ext.store ?_ _ _ (by first | omega | (dsimp only; omega)) | refine Ext.drewN' ?_ _ | refine Ext.drew' ?_ | refine Ext.trans ?_ (by assumption)))))
    have Bc_11 := Bc_10.ext (show Ext w10 w11 from (by with_reducible (repeat (first | assumption | exact Ext.refl _ | refine Ext.alloc' ?_ _ | refine Ext.store0 ?_ _ _ | refine Ext.storek ?_ _ _ _ | refine Ext.stores0 ?_ ?_ _ _ | refine Ext.storesk ?_ ?_ _ _ _ | refine Ext.store ?_ _ _ (by first | omega | (dsimp only; omega)) | refine Ext.drewN' ?_ _ | refine Ext.drew' ?_ | refine Ext.trans ?_ (by assumption)))))
    clear Bm_10 zm cm0 cm1 cm2 dm0 dm1 dm2 Ba_10 za ca0 ca1 ca2 da0 da1 da2 Bt_10 zt ct0 ct1 ct2 dt0 dt1 dt2 Bs_10 zs cs0 cs1 cs2 ds0 ds1 ds2 Bb_10 zb cb0 cb1 cb2 db0 db1 db2 Bc_10 zc cc0 cc1 cc2 dc0 dc1 dc2
    obtain ⟨cm0, cm1, cm2, dm0, dm1, dm2⟩ := cells3 Bm_11
    have zm : w1.heap.size < w11.heap.size := Bm_11.lt
    obtain ⟨ca0, ca1, ca2, da0, da1, da2⟩ := cells3 Ba_11
    have za : b3 < w11.heap.size := Ba_11.lt
    obtain ⟨ct0, ct1, ct2, dt0, dt1, dt2⟩ := cells3 Bt_11
    have zt : w3.heap.size < w11.heap.size := Bt_11.lt
    obtain ⟨cs0, cs1, cs2, ds0, ds1, ds2⟩ := cells3 Bs_11
    have zs : w4.heap.size < w11.heap.size := Bs_11.lt
    obtain ⟨cb0, cb1, cb2, db0, db1, db2⟩ := cells3 Bb_11
    have zb : w5.heap.size < w11.heap.size := Bb_11.lt
    obtain ⟨cc0, cc1, cc2, dc0, dc1, dc2⟩ := cells3 Bc_11
    have zc : w6.heap.size < w11.heap.size := Bc_11.lt
    go_wp2
    go_ret
    exact ⟨_, rfl, (by with_reducible (repeat (first | assumption | exact Ext.refl _ | refine Ext.alloc' ?_ _ | refine Ext.store0 ?_ _ _ | refine Ext.storek ?_ _ _ _ | refine Ext.stores0 ?_ ?_ _ _ | refine Ext.storesk ?_ ?_ _ _ _ | refine Ext.store ?_ _ _ (by first | omega | (dsimp only; omega)) | refine Ext.drewN' ?_ _ | refine Ext.drew' ?_ | refine Ext.trans ?_ (by assumption)))), rfl⟩
end Go.Proofs.Ytcfbdfgondmkoaa
