/- A new system, all nodes in the list. -/
import Derived.Test.YtcfbdfgondmkoaaStF
import Derived.Test.YtcfbdfgondmkoaaStk4
namespace Go.Proofs.Ytcfbdfgondmkoaa
open Go Go.RowKit
set_option linter.unusedSimpArgs false
set_option linter.unusedVariables false
set_option linter.unnecessarySimpa false

set_option maxHeartbeats 1000000 in
set_option maxRecDepth 100000 in
theorem refNew4_ (N : Nat → Prop) (c n : Int) (w : World) (hN : ∀ b, N b → b < w.heap.size) (hi : newIs c n = true) : Gives Proofs.Try.prog 115 #[.int .i64 c, .int .i64 n] w (fun r w' => IsSys N w' r (new4 c n)) := by
  have hE : newSE c n = 0 := by simp [newSE, hi]
  have hM : (newS c n).M = newD n := by simp [newS, hi]
  have hd : new4 c n = memS (newS c n) (fillD (newS c n).M) := by unfold new4; rw [if_pos hE, hM]
  rw [hd]
  have hfit : Fits (newS c n).M := by
    rw [hM]
    have h1 : 1 ≤ n ∧ n ≤ 200 := by simp [newIs] at hi; omega
    unfold newD Fits
    rw [if_pos h1]
    simp; omega
  have kn0 := fun (w' : World) (e : Ext w w') => refNewS_ (Bx N w.heap.size (w.heap.size + 1)) c n w'
  have kn : ∀ w' : World, w.heap.size + 1 ≤ w'.heap.size → Gives Proofs.Try.prog 76 #[.int .i64 c, .int .i64 n] w' (fun r w' => ∃ u, r = .tuple #[u, .int .i64 0] ∧ IsSys (Bx N w.heap.size (w.heap.size + 1)) w' u (newS c n)) := fun w' h => by
    have := refNewS_ (Bx N w.heap.size (w.heap.size + 1)) c n w' (Bx.le hN h)
    rw [hE] at this; exact this
  clear kn0 hE hM hd hi
  obtain ⟨s0, hs0⟩ : ∃ s, newS c n = s := ⟨_, rfl⟩
  rw [hs0] at kn hfit ⊢
  clear hs0
  go_enter Proofs.Try.func115, Proofs.Try.ntmps115
  go_wp2_with (fail)
  go_at_call 76
  refine (kn _ (by first | omega | (simp <;> omega))).calls.mono ?_
  rintro e w1 ⟨_, rfl, hb1, u, rfl, hu1⟩
  obtain ⟨r1, r2, r3, r4, r5, r6, r7, r8, rfl, rW, rG, rC, rL⟩ := hu1.opened
  have B0_1 : Box w1 (w.heap.size) #[.slice none 0 0, .slice none 0 0, .bool false, .slice none 0 0, .slice none 0 0] 83 := (Box.newAt _ _ _ (by first | rfl | simp)).ext hb1
  have s1 : w.heap.size + 1 ≤ w1.heap.size := (by have h := hb1.size; first | omega | (simp at h; omega))
  obtain ⟨c0_0, c0_1, c0_2, c0_3, c0_4, d0_0, d0_1, d0_2, d0_3, d0_4⟩ := cells5 B0_1
  have z0 : w.heap.size < w1.heap.size := B0_1.lt
  go_wp2_with (fail)
  obtain ⟨W4, hW⟩ : ∃ W, W = (w1.alloc (.cells #[.slice r1 s0.M.W.length r2, .slice r3 s0.M.G.length r4, .bool s0.M.bad, .slice r5 s0.C.length r6, .slice r7 s0.L.length r8] 83 (0, 0))) := ⟨_, rfl⟩
  have hX4 : Ext w W4 := by rw [hW]; exact (by with_reducible (repeat (first | assumption | exact Ext.refl _ | refine Ext.alloc' ?_ _ | refine Ext.store0 ?_ _ _ | refine Ext.storek ?_ _ _ _ | refine Ext.storen ?_ (by omega) | refine Ext.stores0 ?_ ?_ _ _ | refine Ext.storesk ?_ ?_ _ _ _ | refine Ext.drewN' ?_ _ | refine Ext.drew' ?_ | refine Ext.trans ?_ (by assumption))))
  have hK4 : Keep (Bx N w.heap.size (w.heap.size + 1)) w1 W4 := by rw [hW]; exact (by with_reducible (repeat (first | assumption | exact Keep.refl _ _ | refine Keep.alloc ?_ _ | refine Keep.s ?_ (by first | assumption | exact Bx.mem (by omega) (by omega) | exact Up.mem (by omega)) | refine Keep.n ?_ (by omega) | refine Keep.ext ?_ (by assumption) | refine Keep.trans ?_ (by assumption) | refine Keep.drew ?_)))
  have D0_4 : Box (w1.alloc (.cells #[.slice r1 s0.M.W.length r2, .slice r3 s0.M.G.length r4, .bool s0.M.bad, .slice r5 s0.C.length r6, .slice r7 s0.L.length r8] 83 (0, 0))) (w.heap.size) #[.slice none 0 0, .slice none 0 0, .bool false, .slice none 0 0, .slice none 0 0] 83 := (B0_1.alloc _)
  rw [← hW] at D0_4
  have D1_4 : Box (w1.alloc (.cells #[.slice r1 s0.M.W.length r2, .slice r3 s0.M.G.length r4, .bool s0.M.bad, .slice r5 s0.C.length r6, .slice r7 s0.L.length r8] 83 (0, 0))) (w1.heap.size) #[.slice r1 s0.M.W.length r2, .slice r3 s0.M.G.length r4, .bool s0.M.bad, .slice r5 s0.C.length r6, .slice r7 s0.L.length r8] 83 := (Box.newAt _ _ _ (by first | rfl | simp))
  rw [← hW] at D1_4
  have y4 : w1.heap.size + 1 ≤ W4.heap.size := by rw [hW]; simp
  rw [← hW]
  clear hW
  have aS : IsSys (Bx N w.heap.size (w.heap.size + 1)) W4 (.agg #[.slice r1 s0.M.W.length r2, .slice r3 s0.M.G.length r4, .bool s0.M.bad, .slice r5 s0.C.length r6, .slice r7 s0.L.length r8]) s0 := (IsSys.mk rfl rW rG rC rL : IsSys (Bx N w.heap.size (w.heap.size + 1)) w1 _ s0).keep hK4
  have aM : IsMem (Bx N w.heap.size (w.heap.size + 1)) W4 (.agg #[.slice r1 s0.M.W.length r2, .slice r3 s0.M.G.length r4, .bool s0.M.bad]) s0.M := (IsMem.mk rfl rW rG : IsMem (Bx N w.heap.size (w.heap.size + 1)) w1 _ s0.M).keep hK4
  clear c0_0 c0_1 c0_2 c0_3 c0_4 d0_0 d0_1 d0_2 d0_3 d0_4 z0
  apply region_lit2 (T := [5]) (L := []) (X := [w.heap.size]) (G := [eqv _, eqv _, eqv _, isMemN (Bx N w.heap.size (w.heap.size + 1)) (fillD s0.M), isSysN (Bx N w.heap.size (w.heap.size + 1)) (memS s0 (fillD s0.M)), anyG])
  case hm => kernel_rfl
  case hop =>
    refine ⟨?_, ?_, ?_, ?_, ?_, ?_, trivial⟩
    · intro a wa hs hf hd
      have t5 := hf.off 5 (by kernel_rfl) rfl
      exact plain_ rfl (yes_eqv (o_load5 rfl Proofs.Try.underlying83 rfl (by kernel_rfl) t5 ((D1_4.since hs rfl).cell rfl) ((D1_4.since hs rfl).cell rfl) ((D1_4.since hs rfl).cell rfl) ((D1_4.since hs rfl).cell rfl) ((D1_4.since hs rfl).cell rfl)) rfl)
    · intro a wa hs hf hd
      have t5 := hf.off 5 (by kernel_rfl) rfl
      exact plain_ rfl (yes_eqv (o_fieldAddr rfl Proofs.Try.underlying83 rfl rfl (by kernel_rfl) t5) rfl)
    · intro a wa hs hf hd
      have t17 : a.eval (.tmp 17) = _ := hd.at 1 17 (by kernel_rfl)
      exact plain_ rfl (yes_eqv (o_load3 rfl Proofs.Try.underlying50 rfl (by kernel_rfl) t17 ((D1_4.since hs rfl).cell rfl) ((D1_4.since hs rfl).cell rfl) ((D1_4.since hs rfl).cell rfl)) rfl)
    · intro a wa hs hf hd
      have t18 : a.eval (.tmp 18) = _ := hd.at 2 18 (by kernel_rfl)
      exact plain_ rfl (yes_gives (refFill_ (Bx N w.heap.size (w.heap.size + 1)) _ s0.M _ (aM.keep (Since.to_ext hs).keep) (Bx.le hN (by have := (Since.to_ext hs).size; have := hX4.size; omega)) hfit) rfl rfl Proofs.Try.func110 (by kernel_rfl) (by kernel_rfl) (by simp only [List.map_toArray, List.map_cons, List.map_nil, t18]) rfl)
    · intro a wa hs hf hd
      have t16 : a.eval (.tmp 16) = _ := hd.at 0 16 (by kernel_rfl)
      have t19 := hd.at 3 19 (by kernel_rfl)
      exact plain_ rfl (yes_gives (refMem_ _ _ _ s0 (fillD s0.M) _ (aS.ext (Since.to_ext hs)) t19) rfl rfl Proofs.Try.func103 (by kernel_rfl) (by kernel_rfl) (by simp only [List.map_toArray, List.map_cons, List.map_nil, t16, t19]) rfl)
    · intro a wb wa hs1 hs hf hd hrun
      have t4 := hf.off 4 (by kernel_rfl) rfl
      have t20 := hd.at 4 20 (by kernel_rfl)
      subst hrun
      have q18 : IsSys (Bx N w.heap.size (w.heap.size + 1)) _ (a.eval (.tmp 20)) (memS s0 (fillD s0.M)) := t20
      obtain ⟨g1, g2, g3, g4, g5, g6, g7, g8, hv, _⟩ := q18.opened
      exact ⟨_, o_store rfl t4 hv ((D0_4.since hs1 rfl)) (by kernel_rfl) (by simp [Value.cells, Value.oneCell']) (by first | (simp [Value.cells]; done) | (simp [Value.cells]; omega)) rfl, Since.put hs (.inr (by simp))⟩
  case hG => exact ⟨stable_eqv _, stable_eqv _, stable_eqv _, stable_isMemN _ _, stable_isSysN _ _, stable_any, trivial⟩
  case hc => kernel_rfl
  case hfin =>
    intro v4 hs4
    rintro _ rfl _ rfl _ rfl j3 hj3 j4 hj4
    obtain ⟨g1, g2, g3, g4, g5, g6, g7, g8, rfl, gW, gG, gC, gL⟩ := IsSys.opened hj4
    rintro v4w ⟨o1, v1, ho1, hr1, rfl⟩
    cases ho1
    simp only [Act.put, List.setIfInBounds_toArray, List.set_cons_zero, List.set_cons_succ] at hr1 ⊢
    cases (hr1.symm.trans (o_store (v := .agg #[.slice g1 (memS s0 (fillD s0.M)).M.W.length g2, .slice g3 (memS s0 (fillD s0.M)).M.G.length g4, .bool (memS s0 (fillD s0.M)).M.bad, .slice g5 (memS s0 (fillD s0.M)).C.length g6, .slice g7 (memS s0 (fillD s0.M)).L.length g8]) (new := #[.slice g1 (memS s0 (fillD s0.M)).M.W.length g2, .slice g3 (memS s0 (fillD s0.M)).M.G.length g4, .bool (memS s0 (fillD s0.M)).M.bad, .slice g5 (memS s0 (fillD s0.M)).C.length g6, .slice g7 (memS s0 (fillD s0.M)).L.length g8]) rfl rfl rfl ((D0_4.since hs4 rfl)) (by kernel_rfl) (by simp [Value.cells, Value.oneCell']) (by first | (simp [Value.cells]; done) | (simp [Value.cells]; omega)) (by first | rfl | kernel_rfl)))
    obtain ⟨w2, hw2⟩ : ∃ x, x = (put v4 w.heap.size (.cells #[.slice g1 (memS s0 (fillD s0.M)).M.W.length g2, .slice g3 (memS s0 (fillD s0.M)).M.G.length g4, .bool (memS s0 (fillD s0.M)).M.bad, .slice g5 (memS s0 (fillD s0.M)).C.length g6, .slice g7 (memS s0 (fillD s0.M)).L.length g8] 83 (0, 0))) := ⟨_, rfl⟩
    have hW2 : Ext W4 v4 := Since.to_ext hs4
    have hb2 : Ext w w2 := by rw [hw2]; exact Since.to_ext ((Since.of_ext (hX4.trans hW2)).put (.inl (by have := hX4.size; omega)))
    have hk2 : Keep (Bx N w.heap.size (w.heap.size + 1)) w1 w2 := by rw [hw2]; exact ((hK4.ext hW2).put _ _ (.inr (Bx.mem (by omega) (by omega))))
    have hq2 : Keep (Bx N w.heap.size (w.heap.size + 1)) v4 w2 := by rw [hw2]; exact ((Keep.refl _ _).put _ _ (.inr (Bx.mem (by omega) (by omega))))
    have B0_2 : Box w2 (w.heap.size) #[.slice g1 (memS s0 (fillD s0.M)).M.W.length g2, .slice g3 (memS s0 (fillD s0.M)).M.G.length g4, .bool (memS s0 (fillD s0.M)).M.bad, .slice g5 (memS s0 (fillD s0.M)).C.length g6, .slice g7 (memS s0 (fillD s0.M)).L.length g8] 83 := by rw [hw2]; exact (D0_4.since hs4 rfl).put
    have B1_2 : Box w2 (w1.heap.size) #[.slice r1 s0.M.W.length r2, .slice r3 s0.M.G.length r4, .bool s0.M.bad, .slice r5 s0.C.length r6, .slice r7 s0.L.length r8] 83 := by rw [hw2]; exact (box_putOther (D1_4.since hs4 rfl) (by omega))
    have s2 : W4.heap.size ≤ w2.heap.size := by rw [hw2]; have := hW2.size; simpa [put] using this
    rw [← hw2]
    clear hw2
    obtain ⟨c0_0, c0_1, c0_2, c0_3, c0_4, d0_0, d0_1, d0_2, d0_3, d0_4⟩ := cells5 B0_2
    have z0 : w.heap.size < w2.heap.size := B0_2.lt
    obtain ⟨c1_0, c1_1, c1_2, c1_3, c1_4, d1_0, d1_1, d1_2, d1_3, d1_4⟩ := cells5 B1_2
    have z1 : w1.heap.size < w2.heap.size := B1_2.lt
    have hu2 : IsSys (Bx N w.heap.size (w.heap.size + 1)) w2 (.agg #[.slice g1 (memS s0 (fillD s0.M)).M.W.length g2, .slice g3 (memS s0 (fillD s0.M)).M.G.length g4, .bool (memS s0 (fillD s0.M)).M.bad, .slice g5 (memS s0 (fillD s0.M)).C.length g6, .slice g7 (memS s0 (fillD s0.M)).L.length g8]) (memS s0 (fillD s0.M)) := IsSys.keep (IsSys.mk rfl gW gG gC gL : IsSys (Bx N w.heap.size (w.heap.size + 1)) v4 _ (memS s0 (fillD s0.M))) hq2
    clear hq2
    go_wp2
    exact bodyPost_ret (ret_cell (cs := #[.slice g1 (memS s0 (fillD s0.M)).M.W.length g2, .slice g3 (memS s0 (fillD s0.M)).M.G.length g4, .bool (memS s0 (fillD s0.M)).M.bad, .slice g5 (memS s0 (fillD s0.M)).C.length g6, .slice g7 (memS s0 (fillD s0.M)).L.length g8]) B0_2 Proofs.Try.results115 rfl Proofs.Try.underlying83 rfl (by kernel_rfl)) rfl ⟨_, rfl, (by with_reducible (repeat (first | assumption | exact Ext.refl _ | refine Ext.alloc' ?_ _ | refine Ext.store0 ?_ _ _ | refine Ext.storek ?_ _ _ _ | refine Ext.storen ?_ (by omega) | refine Ext.stores0 ?_ ?_ _ _ | refine Ext.storesk ?_ ?_ _ _ _ | refine Ext.drewN' ?_ _ | refine Ext.drew' ?_ | refine Ext.trans ?_ (by assumption)))), IsSys.less (IsSys.keep hu2 (by with_reducible (repeat (first | assumption | exact Keep.refl _ _ | refine Keep.alloc ?_ _ | refine Keep.s ?_ (by first | assumption | exact Bx.mem (by omega) (by omega) | exact Up.mem (by omega)) | refine Keep.n ?_ (by omega) | refine Keep.ext ?_ (by assumption) | refine Keep.trans ?_ (by assumption) | refine Keep.drew ?_)))) (fun _ _ hn => .inl hn)⟩
end Go.Proofs.Ytcfbdfgondmkoaa
