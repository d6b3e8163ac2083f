/- CoreNews: its walk. -/
import Derived.Test.YtcfbdfgondmkoaaShown3
namespace Go.Proofs.Ytcfbdfgondmkoaa
open Go Go.RowKit
set_option linter.unusedSimpArgs false
set_option linter.unusedVariables false
set_option linter.unnecessarySimpa false

theorem sameF_refl (f : FrameD) : sameF f f = true := by simp [sameF, eq8]
theorem sameC_refl (c : CoreD) : sameC c c = true := by simp [sameC, eq3, all2_refl sameF_refl]
theorem sameE_refl (e : EvD) : sameE e e = true := by simp [sameE]
theorem sameS_refl (s : SysD) : sameS s s = true := by simp [sameS, sameD_refl, all2_refl sameC_refl, all2_refl sameE_refl]
theorem newD_right {n : Nat} (h1 : 1 ≤ n) (h2 : n ≤ 200) : rightD (newD n) = true := by
  have hd : newD n = ⟨List.replicate (128 + 4 * n) 0, List.replicate (n + 1) 0, false⟩ := by unfold newD; rw [if_pos (by omega)]; simp
  rw [hd]
  have ho : (List.replicate (n + 1) (0 : Int)).any oddB = false := by
    rw [List.any_eq_false]
    intro x hx
    rw [(List.mem_replicate.1 hx).2]; decide
  have hg : gi (List.replicate (n + 1) (0 : Int)) 0 = 0 := by simp [gi]
  simp only [rightD, ho, hg, List.length_replicate]
  simp; omega
theorem new_right {c n : Nat} (h1 : 1 ≤ n) (h2 : n ≤ 200) (h3 : 1 ≤ c) (h4 : c ≤ 8) : rightS (newS c n) = true := by
  have hi : newIs c n = true := by simp [newIs]; omega
  have hs : newS c n = ⟨newD n, List.replicate c core0, []⟩ := by simp [newS, hi]
  have ho : (List.replicate c core0).any oddC = false := by
    rw [List.any_eq_false]
    intro x hx
    rw [(List.mem_replicate.1 hx).2]; decide
  rw [hs]
  simp only [rightS, newD_right h1 h2, ho, List.length_replicate]
  simp; omega
theorem new_top {c n : Nat} (h1 : 1 ≤ n) (h2 : n ≤ 200) (h3 : 1 ≤ c) (h4 : c ≤ 8) (i : Int) : (topD (newS c n) i).isSome = false := by
  have hi : newIs c n = true := by simp [newIs]; omega
  have hs : newS c n = ⟨newD n, List.replicate c core0, []⟩ := by simp [newS, hi]
  rw [hs]
  unfold topD
  split
  · cases hx : (List.replicate c core0)[i.toNat]? with
    | none => rfl
    | some x =>
      have := (List.mem_replicate.1 (List.mem_of_getElem? hx)).2
      subst this; rfl
  · rfl
set_option maxHeartbeats 2000000 in
set_option maxRecDepth 100000 in
theorem coreNews_ (x y : Int) (w : World) (hx0 : 0 ≤ x) (hx1 : x ≤ 255) (hy0 : 0 ≤ y) (hy1 : y ≤ 255) : Gives Proofs.Try.prog 22 #[.int .u8 x, .int .u8 y] w (eqv (.bool true)) := by
  obtain ⟨c, hc⟩ : ∃ c : Nat, 1 + x % 8 = c := ⟨(1 + x % 8).toNat, by omega⟩
  obtain ⟨n, hn⟩ : ∃ n : Nat, 1 + y % 200 = n := ⟨(1 + y % 200).toNat, by omega⟩
  have c1 : 1 ≤ c := by omega
  have c8 : c ≤ 8 := by omega
  have n1 : 1 ≤ n := by omega
  have n2 : n ≤ 200 := by omega
  have hi : newIs c n = true := by simp [newIs]; omega
  have hs : newS c n = ⟨newD n, List.replicate c core0, []⟩ := by simp [newS, hi]
  have hd : newD n = ⟨List.replicate (128 + 4 * n) 0, List.replicate (n + 1) 0, false⟩ := by unfold newD; rw [if_pos (by omega)]; simp
  have fE : newSE c n = 0 := by simp [newSE, hi]
  have fW : (newS c n).M.W.length = 128 + 4 * n := by rw [hs, hd]; simp
  have fG : (newS c n).M.G.length = n + 1 := by rw [hs, hd]; simp
  have fB : (newS c n).M.bad = false := by rw [hs, hd]
  have fC : (newS c n).C.length = c := by rw [hs]; simp
  have fL : (newS c n).L.length = 0 := by rw [hs]; rfl
  have fR := new_right n1 n2 c1 c8
  have fT := fun i => new_top n1 n2 c1 c8 i
  have fS := sameS_refl (newS c n)
  clear hi hs hd
  obtain ⟨s, hs⟩ : ∃ s, newS c n = s := ⟨_, rfl⟩
  rw [hs] at fW fG fB fC fL fR fT fS
  have HS := Lib.hid hs; have HE := Lib.hid fE; have HB := Lib.hid fB; have HR := Lib.hid fR; have HSS := Lib.hid fS; have HT := Lib.hid fT
  have HW := Lib.hid fW; have HG := Lib.hid fG; have HC := Lib.hid fC; have HL := Lib.hid fL
  clear hs fE fB fR fS fT fW fG fC fL
  go_enter Proofs.Try.func22, Proofs.Try.ntmps22
  go_wp2_with (fail)
  go_at_call 73
  refine (shown3_ _).calls.mono ?_
  rintro e w1 ⟨_, rfl, hb1, rfl⟩
  go_wp2_with (fail)
  go_at_call 75
  refine (sysNew_ no c n _ no_lt).calls.mono ?_
  rintro e w2 ⟨_, rfl, hb2, u, rfl, hu⟩
  rw [HS.out] at hu
  rw [HE.out]
  obtain ⟨s1, s2, s3, s4, s5, s6, s7, s8, rfl, sw, sg, sc, sl⟩ := hu.lit HW.out HG.out HB.out HC.out HL.out
  have hsys := fun w' (e : Ext w2 w') => (IsSys.mk HB.out.symm sw sg sc sl : IsSys no w2 (.agg #[.slice s1 (128 + 4 * n) s2, .slice s3 (n + 1) s4, .bool false, .slice s5 c s6, .slice s7 0 s8]) s).ext e
  have hE2 : Ext w w2 := (by with_reducible (repeat (first | assumption | exact Ext.refl _ | refine Ext.alloc' ?_ _ | refine Ext.store0 ?_ _ _ | refine Ext.storek ?_ _ _ _ | refine Ext.stores0 ?_ ?_ _ _ | refine Ext.storesk ?_ ?_ _ _ _ | refine Ext.drewN' ?_ _ | refine Ext.drew' ?_ | refine Ext.trans ?_ (by assumption))))
  go_wp2
  go_loopw [10] (fun kk wr => ∃ k : Nat, k ≤ c + 2 ∧ kk = .int .i64 ((k : Int) - 1) ∧ Ext w2 wr ∧ Box wr w2.heap.size #[.slice s1 (128 + 4 * n) s2, .slice s3 (n + 1) s4, .bool false, .slice s5 c s6, .slice s7 0 s8] 83) (fun kk _ => c + 2 - (intOf kk + 1).toNat)
  case atStart => exact ⟨0, by omega, rfl, (by with_reducible (repeat (first | assumption | exact Ext.refl _ | refine Ext.alloc' ?_ _ | refine Ext.store0 ?_ _ _ | refine Ext.storek ?_ _ _ _ | refine Ext.stores0 ?_ ?_ _ _ | refine Ext.storesk ?_ ?_ _ _ _ | refine Ext.drewN' ?_ _ | refine Ext.drew' ?_ | refine Ext.trans ?_ (by assumption)))), Box.new _ _ _⟩
  case round =>
    obtain ⟨k, hk, rfl, hE0, hB0⟩ := hrel
    obtain ⟨w3, rfl, hE⟩ := Ext.pick hE0
    clear hE0
    obtain ⟨p0, p1, p2, p3, p4, d0, d1, d2, d3, d4⟩ := cells5 hB0
    have z0 := hB0.lt
    have hEw : Ext w w3 := hE2.trans hE
    by_cases hlt : (k : Int) - 1 ≤ c
    · go_wp2_with (fail)
      go_at_call 81
      refine (top_ no _ s ((k : Int) - 1) _ (hsys _ hE)).calls.mono ?_
      rintro e w4 ⟨_, rfl, hb4, u, rfl, hu4⟩
      rw [HT.out]
      obtain ⟨tf, htf⟩ : ∃ tf, topF s ((k : Int) - 1) = tf := ⟨_, rfl⟩
      rw [htf] at hu4
      clear htf
      obtain ⟨fa, fc, rfl, f8, fs⟩ := hu4.opened
      have hB4 := hB0.ext hb4
      go_wp2
      go_roundw
      case rel => exact ⟨k + 1, by omega, by simp, (by with_reducible (repeat (first | assumption | exact Ext.refl _ | refine Ext.alloc' ?_ _ | refine Ext.store0 ?_ _ _ | refine Ext.storek ?_ _ _ _ | refine Ext.stores0 ?_ ?_ _ _ | refine Ext.storesk ?_ ?_ _ _ _ | refine Ext.drewN' ?_ _ | refine Ext.drew' ?_ | refine Ext.trans ?_ (by assumption)))), hB4.alloc _⟩
      case measure => simp [intOf]; omega
    · go_wp2_with (fail)
      go_at_call 77
      refine (refRightS_ no _ s _ (hsys _ hE)).calls.mono ?_
      rintro e w4 ⟨_, rfl, hb4, rfl⟩
      rw [HR.out]
      have hB4 := hB0.ext hb4
      clear p0 p1 p2 p3 p4 d0 d1 d2 d3 d4
      obtain ⟨p0, p1, p2, p3, p4, d0, d1, d2, d3, d4⟩ := cells5 hB4
      have z4 := hB4.lt
      go_wp2_with (fail)
      go_at_call 79
      refine (sysRight_ no _ s _ (hsys _ (hE.trans hb4))).calls.mono ?_
      rintro e w5 ⟨_, rfl, hb5, rfl⟩
      rw [HR.out]
      have hB5 := hB4.ext hb5
      clear p0 p1 p2 p3 p4 d0 d1 d2 d3 d4
      obtain ⟨p0, p1, p2, p3, p4, d0, d1, d2, d3, d4⟩ := cells5 hB5
      have z5 := hB5.lt
      go_wp2_with (fail)
      go_at_call 80
      refine (sysSame_ no _ _ s s _ (hsys _ ((hE.trans hb4).trans hb5)) (hsys _ ((hE.trans hb4).trans hb5))).calls.mono ?_
      rintro e w6 ⟨_, rfl, hb6, rfl⟩
      rw [HSS.out]
      have hE6 : Ext w w6 := ((hEw.trans hb4).trans hb5).trans hb6
      go_wp2
      go_ret
      exact ⟨_, rfl, hE6, rfl⟩
end Go.Proofs.Ytcfbdfgondmkoaa
