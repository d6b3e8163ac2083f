/- Chapter 4: the document's example. -/
import Derived.Test.YtcfbdfgondmkoaaStB
import Derived.Test.YtcfbdfgondmkoaaStN
import Derived.Test.YtcfbdfgondmkoaaStW
namespace Go.Proofs.Ytcfbdfgondmkoaa
open Go Go.RowKit
set_option linter.unusedSimpArgs false
set_option linter.unusedVariables false
set_option linter.unnecessarySimpa false

theorem IsSys.lit {N : Nat → Prop} {w : World} {v : Value} {s : SysD} (h : IsSys N w v s) {a b n m : Nat} {d : Bool} (h1 : s.M.W.length = a) (h2 : s.M.G.length = b) (h3 : s.M.bad = d) (h4 : s.C.length = n) (h5 : s.L.length = m) :
    ∃ aw cw ag cg ac cc al cl, v = .agg #[.slice aw a cw, .slice ag b cg, .bool d, .slice ac n cc, .slice al m cl] ∧ IsInts N w (.slice aw a cw) s.M.W ∧ IsInts N w (.slice ag b cg) s.M.G ∧ IsCores N w (.slice ac n cc) s.C ∧ IsEvs N w (.slice al m cl) s.L := by
  subst h1 h2 h3 h4 h5
  exact h.opened
def y4a : SysD := newS 1 3
def y4b : SysD := memS y4a (fillD y4a.M)
def zs4 : Nat → SysD
  | 0 => callS y4b 0 1 [0, 0, 0]
  | k + 1 => step4 (zs4 k) 0
def fitsB (m : Arena) : Bool := decide (m.W.length = 128 + 4 * (m.G.length - 1) ∧ 1 ≤ m.G.length ∧ m.G.length ≤ 201)
theorem fitsB_iff {m : Arena} (h : fitsB m = true) : Fits m := by simpa [fitsB, Fits] using h
def okS (s : SysD) : Bool := decide (s.C.length ≤ 100) && (s.C.all (fun c => decide (c.F.length ≤ 100)) && (fitsB s.M && decide (s.L.length ≤ 100)))
theorem okS_iff {s : SysD} (h : okS s = true) : s.C.length ≤ 100000 ∧ (∀ (i : Nat) c, s.C[i]? = some c → c.F.length ≤ 100000) ∧ Fits s.M ∧ s.L.length ≤ 100000 := by
  simp only [okS, Bool.and_eq_true, decide_eq_true_eq] at h
  obtain ⟨h1, h2, h3, h4⟩ := h
  refine ⟨by omega, fun i c hi => ?_, fitsB_iff h3, by omega⟩
  have := List.all_eq_true.1 h2 c (List.mem_of_getElem? hi)
  simp at this; omega
theorem zs4_ok {k : Nat} (h : k < 3) : (zs4 k).C.length ≤ 100000 ∧ (∀ (i : Nat) c, (zs4 k).C[i]? = some c → c.F.length ≤ 100000) ∧ Fits (zs4 k).M ∧ (zs4 k).L.length ≤ 100000 := by
  match k, h with
  | 0, _ => exact okS_iff (by kernel_rfl)
  | 1, _ => exact okS_iff (by kernel_rfl)
  | 2, _ => exact okS_iff (by kernel_rfl)
theorem y4fit : Fits y4a.M := fitsB_iff (by kernel_rfl)
theorem y4fitb : Fits y4b.M := fitsB_iff (by kernel_rfl)
theorem zs4fit3 : Fits (zs4 3).M := fitsB_iff (by kernel_rfl)
def k4 : CoreD := ((zs4 3).C[0]?).getD core0
theorem zs43 : (zs4 3).C[0]? = some k4 := by kernel_rfl
theorem ints_box {w : World} {b : Nat} {cs : Array Value} {t : TypeId} {l : List Int} (h : Box w b cs t) (hc : cs.toList = l.map (Value.int .i64)) (hx : l.length ≤ 1000) : IsInts no w (.slice (some ⟨b, 0, none⟩) l.length l.length) l := by
  refine ⟨_, _, rfl, Nat.le_refl _, ?_, fun e => by simp at e, fun i hi => ⟨b, 0, rfl, h.lt, id, ?_⟩⟩
  · omega
  · rw [Nat.zero_add]
    refine h.cell ?_
    rw [nth_eq, hc]
    simp [gi, List.getD_eq_getElem?_getD, hi]
def Sh4R (w wk : World) (l1 : List Int) (vl : Value) (k : Nat) (wr : World) : Prop :=
  k ≤ 3 ∧ ∃ v0 v1 v2 v3 v4, Box wr wk.heap.size #[v0, v1, v2, v3, v4] 83 ∧ IsSys (Bx no wk.heap.size (wk.heap.size + 1)) wr (.agg #[v0, v1, v2, v3, v4]) (zs4 k) ∧ IsInts (Bx no wk.heap.size (wk.heap.size + 1)) wr vl l1 ∧ Ext w wr
set_option maxHeartbeats 4000000 in
set_option maxRecDepth 100000 in
theorem shown4_ (w : World) : Gives Proofs.Try.prog 104 #[] w (eqv (.bool true)) := by
  go_enter Proofs.Try.func104, Proofs.Try.ntmps104
  go_wp2_with (fail)
  go_at_call 76
  refine (refNewS_ no 1 3 _ no_lt).calls.mono ?_
  rintro e w1 ⟨_, rfl, hb1, u, rfl, hu1⟩
  rw [show newSE 1 3 = 0 by kernel_rfl]
  rw [show newS 1 3 = y4a from rfl] at hu1
  obtain ⟨r1, r2, r3, r4, r5, r6, r7, r8, rfl, rW, rG, rC, rL⟩ := hu1.opened
  have aw := rW.bxn (hi := w1.heap.size + 1)
  have ag := rG.bxn (hi := w1.heap.size + 1)
  have ac := IsCores.bxn (hi := w1.heap.size + 1) rC
  have al := IsEvs.bxn (hi := w1.heap.size + 1) rL
  have s1 : w.heap.size ≤ w1.heap.size := (by have h := hb1.size; first | omega | (simp at h; omega))
  go_wp2_with (fail)
  obtain ⟨W2, hW⟩ : ∃ W, W = (w1.alloc (.cells #[.slice r1 y4a.M.W.length r2, .slice r3 y4a.M.G.length r4, .bool y4a.M.bad, .slice r5 y4a.C.length r6, .slice r7 y4a.L.length r8] 83 (0, 0))) := ⟨_, rfl⟩
  have hX2 : Ext w W2 := by rw [hW]; exact (by with_reducible (repeat (first | assumption | exact Ext.refl _ | refine Ext.alloc' ?_ _ | refine Ext.store0 ?_ _ _ | refine Ext.storek ?_ _ _ _ | refine Ext.storen ?_ (by omega) | refine Ext.stores0 ?_ ?_ _ _ | refine Ext.storesk ?_ ?_ _ _ _ | refine Ext.drewN' ?_ _ | refine Ext.drew' ?_ | refine Ext.trans ?_ (by assumption))))
  have hK2 : Keep (Bx no w1.heap.size (w1.heap.size + 1)) w1 W2 := by rw [hW]; exact (by with_reducible (repeat (first | assumption | exact Keep.refl _ _ | refine Keep.alloc ?_ _ | refine Keep.s ?_ (by first | assumption | exact Bx.mem (by omega) (by omega) | exact Up.mem (by omega)) | refine Keep.n ?_ (by omega) | refine Keep.ext ?_ (by assumption) | refine Keep.trans ?_ (by assumption) | refine Keep.drew ?_)))
  have D0_2 : Box (w1.alloc (.cells #[.slice r1 y4a.M.W.length r2, .slice r3 y4a.M.G.length r4, .bool y4a.M.bad, .slice r5 y4a.C.length r6, .slice r7 y4a.L.length r8] 83 (0, 0))) (w1.heap.size) #[.slice r1 y4a.M.W.length r2, .slice r3 y4a.M.G.length r4, .bool y4a.M.bad, .slice r5 y4a.C.length r6, .slice r7 y4a.L.length r8] 83 := (Box.newAt _ _ _ (by first | rfl | simp))
  rw [← hW] at D0_2
  have y2 : w1.heap.size + 1 ≤ W2.heap.size := by rw [hW]; simp
  rw [← hW]
  clear hW
  have aS : IsSys (Bx no w1.heap.size (w1.heap.size + 1)) W2 (.agg #[.slice r1 y4a.M.W.length r2, .slice r3 y4a.M.G.length r4, .bool y4a.M.bad, .slice r5 y4a.C.length r6, .slice r7 y4a.L.length r8]) y4a := (IsSys.mk rfl aw ag ac al : IsSys (Bx no w1.heap.size (w1.heap.size + 1)) w1 _ y4a).keep hK2
  have aM : IsMem (Bx no w1.heap.size (w1.heap.size + 1)) W2 (.agg #[.slice r1 y4a.M.W.length r2, .slice r3 y4a.M.G.length r4, .bool y4a.M.bad]) y4a.M := (IsMem.mk rfl aw ag : IsMem (Bx no w1.heap.size (w1.heap.size + 1)) w1 _ y4a.M).keep hK2
  apply region_lit2 (T := [5]) (L := []) (X := [w1.heap.size]) (G := [eqv _, eqv _, eqv _, isMemN (Bx no w1.heap.size (w1.heap.size + 1)) (fillD y4a.M), isSysN (Bx no w1.heap.size (w1.heap.size + 1)) y4b, anyG])
  case hm => kernel_rfl
  case hop =>
    refine ⟨?_, ?_, ?_, ?_, ?_, ?_, trivial⟩
    · intro a wa hs hf hd
      have t1 := hf.off 1 (by kernel_rfl) rfl
      exact plain_ rfl (yes_eqv (o_load5 rfl Proofs.Try.underlying83 rfl (by kernel_rfl) t1 ((D0_2.since hs rfl).cell rfl) ((D0_2.since hs rfl).cell rfl) ((D0_2.since hs rfl).cell rfl) ((D0_2.since hs rfl).cell rfl) ((D0_2.since hs rfl).cell rfl)) rfl)
    · intro a wa hs hf hd
      have t1 := hf.off 1 (by kernel_rfl) rfl
      exact plain_ rfl (yes_eqv (o_fieldAddr rfl Proofs.Try.underlying83 rfl rfl (by kernel_rfl) t1) rfl)
    · intro a wa hs hf hd
      have t14 : a.eval (.tmp 14) = _ := hd.at 1 14 (by kernel_rfl)
      exact plain_ rfl (yes_eqv (o_load3 rfl Proofs.Try.underlying50 rfl (by kernel_rfl) t14 ((D0_2.since hs rfl).cell rfl) ((D0_2.since hs rfl).cell rfl) ((D0_2.since hs rfl).cell rfl)) rfl)
    · intro a wa hs hf hd
      have t15 : a.eval (.tmp 15) = _ := hd.at 2 15 (by kernel_rfl)
      exact plain_ rfl (yes_gives (fill_ (Bx no w1.heap.size (w1.heap.size + 1)) _ y4a.M _ (aM.keep (Since.to_ext hs).keep) (fun b hb => (by have := hb.elim False.elim (fun q => q.2); have := (Since.to_ext hs).size; omega)) y4fit) rfl rfl Proofs.Try.func109 (by kernel_rfl) (by kernel_rfl) (by simp only [List.map_toArray, List.map_cons, List.map_nil, t15]) rfl)
    · intro a wa hs hf hd
      have t13 : a.eval (.tmp 13) = _ := hd.at 0 13 (by kernel_rfl)
      have t16 := hd.at 3 16 (by kernel_rfl)
      exact plain_ rfl (yes_gives (refMem_ _ _ _ y4a (fillD y4a.M) _ (aS.ext (Since.to_ext hs)) t16) rfl rfl Proofs.Try.func103 (by kernel_rfl) (by kernel_rfl) (by simp only [List.map_toArray, List.map_cons, List.map_nil, t13, t16]) rfl)
    · intro a wb wa hs1 hs hf hd hrun
      have t1 := hf.off 1 (by kernel_rfl) rfl
      have t17 := hd.at 4 17 (by kernel_rfl)
      subst hrun
      have q18 : IsSys (Bx no w1.heap.size (w1.heap.size + 1)) _ (a.eval (.tmp 17)) y4b := t17
      obtain ⟨g1, g2, g3, g4, g5, g6, g7, g8, hv, _⟩ := q18.opened
      exact ⟨_, o_store rfl t1 hv ((D0_2.since hs1 rfl)) (by kernel_rfl) (by simp [Value.cells, Value.oneCell']) (by first | (simp [Value.cells]; done) | (simp [Value.cells]; omega)) rfl, Since.put hs (.inr (by simp))⟩
  case hG => exact ⟨stable_eqv _, stable_eqv _, stable_eqv _, stable_isMemN _ _, stable_isSysN _ _, stable_any, trivial⟩
  case hc => kernel_rfl
  case hfin =>
    intro v2 hs2
    rintro _ rfl _ rfl _ rfl j3 hj3 j4 hj4
    obtain ⟨g1, g2, g3, g4, g5, g6, g7, g8, rfl, gW0, gG0, gC0, gL0⟩ := IsSys.opened hj4
    rintro v2w ⟨o1, v1, ho1, hr1, rfl⟩
    cases ho1
    simp only [Act.put, List.setIfInBounds_toArray, List.set_cons_zero, List.set_cons_succ] at hr1 ⊢
    cases (hr1.symm.trans (o_store (v := .agg #[.slice g1 y4b.M.W.length g2, .slice g3 y4b.M.G.length g4, .bool y4b.M.bad, .slice g5 y4b.C.length g6, .slice g7 y4b.L.length g8]) (new := #[.slice g1 y4b.M.W.length g2, .slice g3 y4b.M.G.length g4, .bool y4b.M.bad, .slice g5 y4b.C.length g6, .slice g7 y4b.L.length g8]) rfl rfl rfl ((D0_2.since hs2 rfl)) (by kernel_rfl) (by simp [Value.cells, Value.oneCell']) (by first | (simp [Value.cells]; done) | (simp [Value.cells]; omega)) (by first | rfl | kernel_rfl)))
    obtain ⟨w2, hw2⟩ : ∃ x, x = (put v2 w1.heap.size (.cells #[.slice g1 y4b.M.W.length g2, .slice g3 y4b.M.G.length g4, .bool y4b.M.bad, .slice g5 y4b.C.length g6, .slice g7 y4b.L.length g8] 83 (0, 0))) := ⟨_, rfl⟩
    have hW2 : Ext W2 v2 := Since.to_ext hs2
    have hb2 : Ext w w2 := by rw [hw2]; exact Since.to_ext ((Since.of_ext (hX2.trans hW2)).put (.inl (by have := hX2.size; omega)))
    have hk2 : Keep (Bx no w1.heap.size (w1.heap.size + 1)) w1 w2 := by rw [hw2]; exact ((hK2.ext hW2).put _ _ (.inr (Bx.mem (by omega) (by omega))))
    have hq2 : Keep (Bx no w1.heap.size (w1.heap.size + 1)) v2 w2 := by rw [hw2]; exact ((Keep.refl _ _).put _ _ (.inr (Bx.mem (by omega) (by omega))))
    have B0_2 : Box w2 (w1.heap.size) #[.slice g1 y4b.M.W.length g2, .slice g3 y4b.M.G.length g4, .bool y4b.M.bad, .slice g5 y4b.C.length g6, .slice g7 y4b.L.length g8] 83 := by rw [hw2]; exact (D0_2.since hs2 rfl).put
    have s2 : W2.heap.size ≤ w2.heap.size := by rw [hw2]; have := hW2.size; simpa [put] using this
    rw [← hw2]
    clear hw2
    obtain ⟨c0_0, c0_1, c0_2, c0_3, c0_4, d0_0, d0_1, d0_2, d0_3, d0_4⟩ := cells5 B0_2
    have z0 : w1.heap.size < w2.heap.size := B0_2.lt
    have hy0 : IsSys no w2 (.agg #[.slice g1 y4b.M.W.length g2, .slice g3 y4b.M.G.length g4, .bool y4b.M.bad, .slice g5 y4b.C.length g6, .slice g7 y4b.L.length g8]) y4b := (IsSys.keep (IsSys.mk rfl gW0 gG0 gC0 gL0 : IsSys (Bx no w1.heap.size (w1.heap.size + 1)) v2 _ y4b) hq2).less (fun _ _ h => h.elim)
    obtain ⟨_, _, _, _, _, _, _, _, hye, gW, gG, gC, gL⟩ := hy0.opened
    cases hye
    clear hq2
    go_wp2_with (fail)
    go_at_call 105
    refine (walk_ no _ y4b.M _ (IsMem.mk rfl (IsInts.ext gW (by with_reducible (repeat (first | assumption | exact Ext.refl _ | refine Ext.alloc' ?_ _ | refine Ext.store0 ?_ _ _ | refine Ext.storek ?_ _ _ _ | refine Ext.stores0 ?_ ?_ _ _ | refine Ext.storesk ?_ ?_ _ _ _ | refine Ext.drewN' ?_ _ | refine Ext.drew' ?_ | refine Ext.trans ?_ (by assumption))))) (IsInts.ext gG (by with_reducible (repeat (first | assumption | exact Ext.refl _ | refine Ext.alloc' ?_ _ | refine Ext.store0 ?_ _ _ | refine Ext.storek ?_ _ _ _ | refine Ext.stores0 ?_ ?_ _ _ | refine Ext.storesk ?_ ?_ _ _ _ | refine Ext.drewN' ?_ _ | refine Ext.drew' ?_ | refine Ext.trans ?_ (by assumption)))))) no_lt y4fitb).calls.mono ?_
    rintro e w3 ⟨_, rfl, hb3, u, rfl, hl1⟩
    rw [show (walkD y4b.M).2 = true by kernel_rfl]
    obtain ⟨l1, hl1e⟩ : ∃ l, (walkD y4b.M).1 = l := ⟨_, rfl⟩
    rw [hl1e] at hl1
    have HL1 := Lib.hid hl1e
    clear hl1e
    obtain ⟨la, lc, rfl, _⟩ := hl1.opened
    have B0_3 : Box w3 (w1.heap.size) #[.slice g1 y4b.M.W.length g2, .slice g3 y4b.M.G.length g4, .bool y4b.M.bad, .slice g5 y4b.C.length g6, .slice g7 y4b.L.length g8] 83 := B0_2.ext hb3
    clear c0_0 c0_1 c0_2 c0_3 c0_4 d0_0 d0_1 d0_2 d0_3 d0_4 z0
    have s3 : w2.heap.size ≤ w3.heap.size := (by have h := hb3.size; first | omega | (simp at h; omega))
    obtain ⟨c0_0, c0_1, c0_2, c0_3, c0_4, d0_0, d0_1, d0_2, d0_3, d0_4⟩ := cells5 B0_3
    have z0 : w1.heap.size < w3.heap.size := B0_3.lt
    go_wp2_with (fail)
    go_at_call 88
    refine (refCall_ no _ y4b 0 1 0 0 0 _ (IsSys.mk rfl (IsInts.ext gW (by with_reducible (repeat (first | assumption | exact Ext.refl _ | refine Ext.alloc' ?_ _ | refine Ext.store0 ?_ _ _ | refine Ext.storek ?_ _ _ _ | refine Ext.stores0 ?_ ?_ _ _ | refine Ext.storesk ?_ ?_ _ _ _ | refine Ext.drewN' ?_ _ | refine Ext.drew' ?_ | refine Ext.trans ?_ (by assumption))))) (IsInts.ext gG (by with_reducible (repeat (first | assumption | exact Ext.refl _ | refine Ext.alloc' ?_ _ | refine Ext.store0 ?_ _ _ | refine Ext.storek ?_ _ _ _ | refine Ext.stores0 ?_ ?_ _ _ | refine Ext.storesk ?_ ?_ _ _ _ | refine Ext.drewN' ?_ _ | refine Ext.drew' ?_ | refine Ext.trans ?_ (by assumption))))) (IsCores.keep gC (show Ext _ _ from (by with_reducible (repeat (first | assumption | exact Ext.refl _ | refine Ext.alloc' ?_ _ | refine Ext.store0 ?_ _ _ | refine Ext.storek ?_ _ _ _ | refine Ext.stores0 ?_ ?_ _ _ | refine Ext.storesk ?_ ?_ _ _ _ | refine Ext.drewN' ?_ _ | refine Ext.drew' ?_ | refine Ext.trans ?_ (by assumption))))).keep) (IsEvs.keep gL (show Ext _ _ from (by with_reducible (repeat (first | assumption | exact Ext.refl _ | refine Ext.alloc' ?_ _ | refine Ext.store0 ?_ _ _ | refine Ext.storek ?_ _ _ _ | refine Ext.stores0 ?_ ?_ _ _ | refine Ext.storesk ?_ ?_ _ _ _ | refine Ext.drewN' ?_ _ | refine Ext.drew' ?_ | refine Ext.trans ?_ (by assumption))))).keep)) no_lt (by rw [show y4b.C.length = 1 by kernel_rfl]; decide)).calls.mono ?_
    rintro e w4 ⟨_, rfl, hb4, ht⟩
    rw [show callS y4b 0 1 [0, 0, 0] = zs4 0 from rfl] at ht
    obtain ⟨t1, t2, t3, t4, t5, t6, t7, t8, rfl, tW, tG, tC, tL⟩ := ht.opened
    have B0_4 : Box w4 (w1.heap.size) #[.slice g1 y4b.M.W.length g2, .slice g3 y4b.M.G.length g4, .bool y4b.M.bad, .slice g5 y4b.C.length g6, .slice g7 y4b.L.length g8] 83 := B0_3.ext hb4
    clear c0_0 c0_1 c0_2 c0_3 c0_4 d0_0 d0_1 d0_2 d0_3 d0_4 z0
    have s4 : w3.heap.size ≤ w4.heap.size := (by have h := hb4.size; first | omega | (simp at h; omega))
    obtain ⟨c0_0, c0_1, c0_2, c0_3, c0_4, d0_0, d0_1, d0_2, d0_3, d0_4⟩ := cells5 B0_4
    have z0 : w1.heap.size < w4.heap.size := B0_4.lt
    go_wp2
    obtain ⟨B, hB⟩ : ∃ B, B = w4.heap.size := ⟨_, rfl⟩
    have hWk : Ext w w4 := (by with_reducible (repeat (first | assumption | exact Ext.refl _ | refine Ext.alloc' ?_ _ | refine Ext.store0 ?_ _ _ | refine Ext.storek ?_ _ _ _ | refine Ext.stores0 ?_ ?_ _ _ | refine Ext.storesk ?_ ?_ _ _ _ | refine Ext.drewN' ?_ _ | refine Ext.drew' ?_ | refine Ext.trans ?_ (by assumption))))
    go_loopw [6] (fun i wr => ∃ k : Nat, i = .int .i64 k ∧ Sh4R w w4 l1 (.slice la l1.length lc) k wr) (fun i _ => 3 - (intOf i).toNat)
    case atStart => exact ⟨0, rfl, by omega, _, _, _, _, _, (Box.newAt _ _ _ (by first | rfl | simp)), (IsSys.bxn ht).ext (by with_reducible (repeat (first | assumption | exact Ext.refl _ | refine Ext.alloc' ?_ _ | refine Ext.store0 ?_ _ _ | refine Ext.storek ?_ _ _ _ | refine Ext.stores0 ?_ ?_ _ _ | refine Ext.storesk ?_ ?_ _ _ _ | refine Ext.drewN' ?_ _ | refine Ext.drew' ?_ | refine Ext.trans ?_ (by assumption)))), ((IsInts.ext hl1 (show Ext _ w4 from (by with_reducible (repeat (first | assumption | exact Ext.refl _ | refine Ext.alloc' ?_ _ | refine Ext.store0 ?_ _ _ | refine Ext.storek ?_ _ _ _ | refine Ext.stores0 ?_ ?_ _ _ | refine Ext.storesk ?_ ?_ _ _ _ | refine Ext.drewN' ?_ _ | refine Ext.drew' ?_ | refine Ext.trans ?_ (by assumption)))))).bxn).ext (by with_reducible (repeat (first | assumption | exact Ext.refl _ | refine Ext.alloc' ?_ _ | refine Ext.store0 ?_ _ _ | refine Ext.storek ?_ _ _ _ | refine Ext.stores0 ?_ ?_ _ _ | refine Ext.storesk ?_ ?_ _ _ _ | refine Ext.drewN' ?_ _ | refine Ext.drew' ?_ | refine Ext.trans ?_ (by assumption)))), (by with_reducible (repeat (first | assumption | exact Ext.refl _ | refine Ext.alloc' ?_ _ | refine Ext.store0 ?_ _ _ | refine Ext.storek ?_ _ _ _ | refine Ext.stores0 ?_ ?_ _ _ | refine Ext.storesk ?_ ?_ _ _ _ | refine Ext.drewN' ?_ _ | refine Ext.drew' ?_ | refine Ext.trans ?_ (by assumption))))⟩
    case round =>
    obtain ⟨k, rfl, hk3, v0, v1, v2, v3, v4, hbx, hsys, hl, hWx⟩ := hrel
    obtain ⟨w9, rfl⟩ : ∃ w9 : World, w9 = wr := ⟨_, rfl⟩
    have s9 : w4.heap.size < w9.heap.size := hbx.lt
    by_cases hlt : k < 3
    · have q1 : (k : Int) < 3 := by omega
      obtain ⟨cT_0, cT_1, cT_2, cT_3, cT_4, dT_0, dT_1, dT_2, dT_3, dT_4⟩ := cells5 hbx
      have zT : w4.heap.size < w9.heap.size := hbx.lt
      go_wp2_with (fail)
      go_at_call 111
      refine (step4_ (Bx no w4.heap.size (w4.heap.size + 1)) _ (zs4 k) 0 _ (hsys.ext (by with_reducible (repeat (first | assumption | exact Ext.refl _ | refine Ext.alloc' ?_ _ | refine Ext.store0 ?_ _ _ | refine Ext.storek ?_ _ _ _ | refine Ext.stores0 ?_ ?_ _ _ | refine Ext.storesk ?_ ?_ _ _ _ | refine Ext.drewN' ?_ _ | refine Ext.drew' ?_ | refine Ext.trans ?_ (by assumption))))) (fun b hb => (by have := hb.elim False.elim (fun q => q.2); omega)) (zs4_ok hlt).1 (zs4_ok hlt).2.1 (zs4_ok hlt).2.2.1 (zs4_ok hlt).2.2.2).calls.mono ?_
      rintro e w10 ⟨_, rfl, hb10, hr10⟩
      obtain ⟨r1, r2, r3, r4, r5, r6, r7, r8, rfl, _⟩ := hr10.opened
      have BT_10 : Box w10 (w4.heap.size) #[v0, v1, v2, v3, v4] 83 := hbx.ext hb10
      clear cT_0 cT_1 cT_2 cT_3 cT_4 dT_0 dT_1 dT_2 dT_3 dT_4 zT
      have s10 : w9.heap.size ≤ w10.heap.size := (by have h := hb10.size; first | omega | (simp at h; omega))
      obtain ⟨cT_0, cT_1, cT_2, cT_3, cT_4, dT_0, dT_1, dT_2, dT_3, dT_4⟩ := cells5 BT_10
      have zT : w4.heap.size < w10.heap.size := BT_10.lt
      go_wp2
      go_roundw
      case rel => exact ⟨k + 1, by simp, by omega, _, _, _, _, _, (((((BT_10.setCell _).setCell _).setCell _).setCell _).setCell _), IsSys.keep hr10 (by with_reducible (repeat (first | assumption | exact Keep.refl _ _ | refine Keep.alloc ?_ _ | refine Keep.s ?_ (by first | assumption | exact Bx.mem (by omega) (by omega) | exact Up.mem (by omega)) | refine Keep.n ?_ (by omega) | refine Keep.ext ?_ (by assumption) | refine Keep.trans ?_ (by assumption) | refine Keep.drew ?_))), IsInts.keep hl (by with_reducible (repeat (first | assumption | exact Keep.refl _ _ | refine Keep.alloc ?_ _ | refine Keep.s ?_ (by first | assumption | exact Bx.mem (by omega) (by omega) | exact Up.mem (by omega)) | refine Keep.n ?_ (by omega) | refine Keep.ext ?_ (by assumption) | refine Keep.trans ?_ (by assumption) | refine Keep.drew ?_))), (by with_reducible (repeat (first | assumption | exact Ext.refl _ | refine Ext.alloc' ?_ _ | refine Ext.store0 ?_ _ _ | refine Ext.storek ?_ _ _ _ | refine Ext.storen ?_ (by omega) | refine Ext.stores0 ?_ ?_ _ _ | refine Ext.storesk ?_ ?_ _ _ _ | refine Ext.drewN' ?_ _ | refine Ext.drew' ?_ | refine Ext.trans ?_ (by assumption))))⟩
      case measure => simp [intOf]; omega
    · obtain rfl : k = 3 := by omega
      have q1 : ¬ ((3 : Nat) : Int) < 3 := by decide
      obtain ⟨z1, z2, z3, z4, z5, z6, z7, z8, hze, zW, zG, zC, zL⟩ := hsys.lit (a := 140) (b := 4) (d := false) (n := 1) (m := 0) (by kernel_rfl) (by kernel_rfl) (by kernel_rfl) (by kernel_rfl) (by kernel_rfl)
      obtain ⟨rfl, rfl, rfl, rfl, rfl⟩ : v0 = .slice z1 140 z2 ∧ v1 = .slice z3 4 z4 ∧ v2 = .bool false ∧ v3 = .slice z5 1 z6 ∧ v4 = .slice z7 0 z8 := by simpa using hze
      clear hze
      obtain ⟨bb, ob, af, cf, ar, cr, rfl, zx, zn, _, _, _, e0, e1, _⟩ := IsCores.at zC (i := 0) (c := k4) zs43
      rw [show k4.F.length = 0 by kernel_rfl] at e0
      rw [show k4.V = 1 by kernel_rfl] at e1
      simp at e0 e1
      obtain ⟨cT_0, cT_1, cT_2, cT_3, cT_4, dT_0, dT_1, dT_2, dT_3, dT_4⟩ := cells5 hbx
      have zT : w4.heap.size < w9.heap.size := hbx.lt
      go_wp2_with (fail)
      go_at_call 105
      refine (walk_ no _ (zs4 3).M _ (IsMem.mk (m := (zs4 3).M) (by kernel_rfl) (IsInts.ext (zW.less fun _ _ h => h.elim) (by with_reducible (repeat (first | assumption | exact Ext.refl _ | refine Ext.alloc' ?_ _ | refine Ext.store0 ?_ _ _ | refine Ext.storek ?_ _ _ _ | refine Ext.stores0 ?_ ?_ _ _ | refine Ext.storesk ?_ ?_ _ _ _ | refine Ext.drewN' ?_ _ | refine Ext.drew' ?_ | refine Ext.trans ?_ (by assumption))))) (IsInts.ext (zG.less fun _ _ h => h.elim) (by with_reducible (repeat (first | assumption | exact Ext.refl _ | refine Ext.alloc' ?_ _ | refine Ext.store0 ?_ _ _ | refine Ext.storek ?_ _ _ _ | refine Ext.stores0 ?_ ?_ _ _ | refine Ext.storesk ?_ ?_ _ _ _ | refine Ext.drewN' ?_ _ | refine Ext.drew' ?_ | refine Ext.trans ?_ (by assumption)))))) no_lt zs4fit3).calls.mono ?_
      rintro e w10 ⟨_, rfl, hb10, u, rfl, hl2⟩
      rw [show (walkD (zs4 3).M).2 = true by kernel_rfl]
      obtain ⟨l2, hl2e⟩ : ∃ l, (walkD (zs4 3).M).1 = l := ⟨_, rfl⟩
      rw [hl2e] at hl2
      have HL2 := Lib.hid hl2e
      clear hl2e
      obtain ⟨lb, ld, rfl, _⟩ := hl2.opened
      have e0_10 := cell_ext e0 (show Ext w9 w10 from (by with_reducible (repeat (first | assumption | exact Ext.refl _ | refine Ext.alloc' ?_ _ | refine Ext.store0 ?_ _ _ | refine Ext.storek ?_ _ _ _ | refine Ext.stores0 ?_ ?_ _ _ | refine Ext.storesk ?_ ?_ _ _ _ | refine Ext.drewN' ?_ _ | refine Ext.drew' ?_ | refine Ext.trans ?_ (by assumption)))))
      have e1_10 := cell_ext e1 (show Ext w9 w10 from (by with_reducible (repeat (first | assumption | exact Ext.refl _ | refine Ext.alloc' ?_ _ | refine Ext.store0 ?_ _ _ | refine Ext.storek ?_ _ _ _ | refine Ext.stores0 ?_ ?_ _ _ | refine Ext.storesk ?_ ?_ _ _ _ | refine Ext.drewN' ?_ _ | refine Ext.drew' ?_ | refine Ext.trans ?_ (by assumption)))))
      have xb10 : bb < w10.heap.size := World.block_lt_of_cell? _ _ e1_10
      have BT_10 : Box w10 (w4.heap.size) #[.slice z1 140 z2, .slice z3 4 z4, .bool false, .slice (some ⟨bb, ob, none⟩) 1 z6, .slice z7 0 z8] 83 := hbx.ext hb10
      clear cT_0 cT_1 cT_2 cT_3 cT_4 dT_0 dT_1 dT_2 dT_3 dT_4 zT
      have s10 : w9.heap.size ≤ w10.heap.size := (by have h := hb10.size; first | omega | (simp at h; omega))
      obtain ⟨cT_0, cT_1, cT_2, cT_3, cT_4, dT_0, dT_1, dT_2, dT_3, dT_4⟩ := cells5 BT_10
      have zT : w4.heap.size < w10.heap.size := BT_10.lt
      go_wp2_with (fail)
      go_at_call 72
      refine (refInts_ no _ _ l1 [1, 2, 3] _ (IsInts.ext (hl.less (fun _ _ h => h.elim)) (by with_reducible (repeat (first | assumption | exact Ext.refl _ | refine Ext.alloc' ?_ _ | refine Ext.store0 ?_ _ _ | refine Ext.storek ?_ _ _ _ | refine Ext.stores0 ?_ ?_ _ _ | refine Ext.storesk ?_ ?_ _ _ _ | refine Ext.drewN' ?_ _ | refine Ext.drew' ?_ | refine Ext.trans ?_ (by assumption))))) (ints_box (Box.newAt _ _ _ (by first | rfl | simp)) rfl (by decide))).calls.mono ?_
      rintro e w11 ⟨_, rfl, hb11, rfl⟩
      rw [show (l1 == [1, 2, 3]) = true by rw [← HL1.out]; kernel_rfl]
      have e0_11 := cell_ext e0 (show Ext w9 w11 from (by with_reducible (repeat (first | assumption | exact Ext.refl _ | refine Ext.alloc' ?_ _ | refine Ext.store0 ?_ _ _ | refine Ext.storek ?_ _ _ _ | refine Ext.stores0 ?_ ?_ _ _ | refine Ext.storesk ?_ ?_ _ _ _ | refine Ext.drewN' ?_ _ | refine Ext.drew' ?_ | refine Ext.trans ?_ (by assumption)))))
      have e1_11 := cell_ext e1 (show Ext w9 w11 from (by with_reducible (repeat (first | assumption | exact Ext.refl _ | refine Ext.alloc' ?_ _ | refine Ext.store0 ?_ _ _ | refine Ext.storek ?_ _ _ _ | refine Ext.stores0 ?_ ?_ _ _ | refine Ext.storesk ?_ ?_ _ _ _ | refine Ext.drewN' ?_ _ | refine Ext.drew' ?_ | refine Ext.trans ?_ (by assumption)))))
      have xb11 : bb < w11.heap.size := World.block_lt_of_cell? _ _ e1_11
      have BT_11 : Box w11 (w4.heap.size) #[.slice z1 140 z2, .slice z3 4 z4, .bool false, .slice (some ⟨bb, ob, none⟩) 1 z6, .slice z7 0 z8] 83 := (BT_10.alloc _).ext hb11
      clear cT_0 cT_1 cT_2 cT_3 cT_4 dT_0 dT_1 dT_2 dT_3 dT_4 zT
      have s11 : w10.heap.size + 1 ≤ w11.heap.size := (by have h := hb11.size; first | omega | (simp at h; omega))
      obtain ⟨cT_0, cT_1, cT_2, cT_3, cT_4, dT_0, dT_1, dT_2, dT_3, dT_4⟩ := cells5 BT_11
      have zT : w4.heap.size < w11.heap.size := BT_11.lt
      go_wp2_with (fail)
      go_at_call 72
      refine (refInts_ no _ _ l2 [2, 3] _ (IsInts.ext (hl2) (by with_reducible (repeat (first | assumption | exact Ext.refl _ | refine Ext.alloc' ?_ _ | refine Ext.store0 ?_ _ _ | refine Ext.storek ?_ _ _ _ | refine Ext.stores0 ?_ ?_ _ _ | refine Ext.storesk ?_ ?_ _ _ _ | refine Ext.drewN' ?_ _ | refine Ext.drew' ?_ | refine Ext.trans ?_ (by assumption))))) (ints_box (Box.newAt _ _ _ (by first | rfl | simp)) rfl (by decide))).calls.mono ?_
      rintro e w12 ⟨_, rfl, hb12, rfl⟩
      rw [show (l2 == [2, 3]) = true by rw [← HL2.out]; kernel_rfl]
      have e0_12 := cell_ext e0 (show Ext w9 w12 from (by with_reducible (repeat (first | assumption | exact Ext.refl _ | refine Ext.alloc' ?_ _ | refine Ext.store0 ?_ _ _ | refine Ext.storek ?_ _ _ _ | refine Ext.stores0 ?_ ?_ _ _ | refine Ext.storesk ?_ ?_ _ _ _ | refine Ext.drewN' ?_ _ | refine Ext.drew' ?_ | refine Ext.trans ?_ (by assumption)))))
      have e1_12 := cell_ext e1 (show Ext w9 w12 from (by with_reducible (repeat (first | assumption | exact Ext.refl _ | refine Ext.alloc' ?_ _ | refine Ext.store0 ?_ _ _ | refine Ext.storek ?_ _ _ _ | refine Ext.stores0 ?_ ?_ _ _ | refine Ext.storesk ?_ ?_ _ _ _ | refine Ext.drewN' ?_ _ | refine Ext.drew' ?_ | refine Ext.trans ?_ (by assumption)))))
      have xb12 : bb < w12.heap.size := World.block_lt_of_cell? _ _ e1_12
      have BT_12 : Box w12 (w4.heap.size) #[.slice z1 140 z2, .slice z3 4 z4, .bool false, .slice (some ⟨bb, ob, none⟩) 1 z6, .slice z7 0 z8] 83 := (BT_11.alloc _).ext hb12
      clear cT_0 cT_1 cT_2 cT_3 cT_4 dT_0 dT_1 dT_2 dT_3 dT_4 zT
      have s12 : w11.heap.size + 1 ≤ w12.heap.size := (by have h := hb12.size; first | omega | (simp at h; omega))
      obtain ⟨cT_0, cT_1, cT_2, cT_3, cT_4, dT_0, dT_1, dT_2, dT_3, dT_4⟩ := cells5 BT_12
      have zT : w4.heap.size < w12.heap.size := BT_12.lt
      go_wp2_with (fail)
      go_at_call 107
      refine (own4_ 1 _).calls.mono ?_
      rintro e w13 ⟨_, rfl, hb13, rfl⟩
      rw [show own4 1 = true by rfl]
      have e0_13 := cell_ext e0 (show Ext w9 w13 from (by with_reducible (repeat (first | assumption | exact Ext.refl _ | refine Ext.alloc' ?_ _ | refine Ext.store0 ?_ _ _ | refine Ext.storek ?_ _ _ _ | refine Ext.stores0 ?_ ?_ _ _ | refine Ext.storesk ?_ ?_ _ _ _ | refine Ext.drewN' ?_ _ | refine Ext.drew' ?_ | refine Ext.trans ?_ (by assumption)))))
      have e1_13 := cell_ext e1 (show Ext w9 w13 from (by with_reducible (repeat (first | assumption | exact Ext.refl _ | refine Ext.alloc' ?_ _ | refine Ext.store0 ?_ _ _ | refine Ext.storek ?_ _ _ _ | refine Ext.stores0 ?_ ?_ _ _ | refine Ext.storesk ?_ ?_ _ _ _ | refine Ext.drewN' ?_ _ | refine Ext.drew' ?_ | refine Ext.trans ?_ (by assumption)))))
      have xb13 : bb < w13.heap.size := World.block_lt_of_cell? _ _ e1_13
      have BT_13 : Box w13 (w4.heap.size) #[.slice z1 140 z2, .slice z3 4 z4, .bool false, .slice (some ⟨bb, ob, none⟩) 1 z6, .slice z7 0 z8] 83 := BT_12.ext hb13
      clear cT_0 cT_1 cT_2 cT_3 cT_4 dT_0 dT_1 dT_2 dT_3 dT_4 zT
      have s13 : w12.heap.size ≤ w13.heap.size := (by have h := hb13.size; first | omega | (simp at h; omega))
      obtain ⟨cT_0, cT_1, cT_2, cT_3, cT_4, dT_0, dT_1, dT_2, dT_3, dT_4⟩ := cells5 BT_13
      have zT : w4.heap.size < w13.heap.size := BT_13.lt
      go_wp2_with (fail)
      go_at_call 107
      refine (own4_ 3 _).calls.mono ?_
      rintro e w14 ⟨_, rfl, hb14, rfl⟩
      rw [show own4 3 = false by rfl]
      have e0_14 := cell_ext e0 (show Ext w9 w14 from (by with_reducible (repeat (first | assumption | exact Ext.refl _ | refine Ext.alloc' ?_ _ | refine Ext.store0 ?_ _ _ | refine Ext.storek ?_ _ _ _ | refine Ext.stores0 ?_ ?_ _ _ | refine Ext.storesk ?_ ?_ _ _ _ | refine Ext.drewN' ?_ _ | refine Ext.drew' ?_ | refine Ext.trans ?_ (by assumption)))))
      have e1_14 := cell_ext e1 (show Ext w9 w14 from (by with_reducible (repeat (first | assumption | exact Ext.refl _ | refine Ext.alloc' ?_ _ | refine Ext.store0 ?_ _ _ | refine Ext.storek ?_ _ _ _ | refine Ext.stores0 ?_ ?_ _ _ | refine Ext.storesk ?_ ?_ _ _ _ | refine Ext.drewN' ?_ _ | refine Ext.drew' ?_ | refine Ext.trans ?_ (by assumption)))))
      have xb14 : bb < w14.heap.size := World.block_lt_of_cell? _ _ e1_14
      have BT_14 : Box w14 (w4.heap.size) #[.slice z1 140 z2, .slice z3 4 z4, .bool false, .slice (some ⟨bb, ob, none⟩) 1 z6, .slice z7 0 z8] 83 := BT_13.ext hb14
      clear cT_0 cT_1 cT_2 cT_3 cT_4 dT_0 dT_1 dT_2 dT_3 dT_4 zT
      have s14 : w13.heap.size ≤ w14.heap.size := (by have h := hb14.size; first | omega | (simp at h; omega))
      obtain ⟨cT_0, cT_1, cT_2, cT_3, cT_4, dT_0, dT_1, dT_2, dT_3, dT_4⟩ := cells5 BT_14
      have zT : w4.heap.size < w14.heap.size := BT_14.lt
      go_wp2
      go_ret
      exact ⟨_, rfl, (by with_reducible (repeat (first | assumption | exact Ext.refl _ | refine Ext.alloc' ?_ _ | refine Ext.store0 ?_ _ _ | refine Ext.storek ?_ _ _ _ | refine Ext.storen ?_ (by omega) | refine Ext.stores0 ?_ ?_ _ _ | refine Ext.storesk ?_ ?_ _ _ _ | refine Ext.drewN' ?_ _ | refine Ext.drew' ?_ | refine Ext.trans ?_ (by assumption)))), rfl⟩
end Go.Proofs.Ytcfbdfgondmkoaa
