/- StackFills: its walk lifted to the given statement. -/
import Derived.Test.YtcfbdfgondmkoaaShown4
import Derived.Test.YtcfbdfgondmkoaaRows
import Derived.Test.YtcfbdfgondmkoaaRdM
import Derived.Test.YtcfbdfgondmkoaaClosed
import Derived.WalkKit
import Derived.ProofKit
import Derived.OpenShut
import Derived.ShutString
import Derived.ChangeOld
import Derived.Below
namespace Go.Proofs.Ytcfbdfgondmkoaa
open Go Go.RowKit
set_option linter.unusedSimpArgs false
set_option linter.unusedVariables false
set_option linter.unnecessarySimpa false

theorem right_all {m : Arena} (h : rightD m = true) : 2 ≤ m.G.length ∧ m.G.length ≤ 201 ∧ m.W.length = 128 + 4 * (m.G.length - 1) ∧ gi m.G 0 = 0 := by
  unfold rightD at h
  simp only [Bool.and_eq_true, decide_eq_true_eq] at h
  exact h.1
theorem may_fits {m : Arena} {n : Nat} (h : mayD m n = true) : Fits m ∧ rightD m = true ∧ m.G.length ≤ n + 1 := by
  unfold mayD smallD at h
  simp only [Bool.and_eq_true, decide_eq_true_eq] at h
  obtain ⟨h1, h2, h3, _⟩ := right_all h.2
  exact ⟨⟨by omega, by omega, by omega⟩, h.2, h.1.1⟩
set_option maxHeartbeats 4000000 in
set_option maxRecDepth 100000 in
theorem stackFills_ (v0 v1 v2 : Value) (m : Arena) (w : World) (h : IsMem no w (.agg #[v0, v1, v2]) m) : Gives Proofs.Try.prog 34 #[.agg #[v0, v1, v2]] w (eqv (.bool true)) := by
  have km := fun (w' : World) (e : Ext w w') => memMay_ no _ m 60 (by omega) w' (h.ext e)
  obtain ⟨aw, cw, ag, cg, e, hw, hg⟩ := h.opened
  obtain ⟨rfl, rfl, rfl⟩ : v0 = .slice aw m.W.length cw ∧ v1 = .slice ag m.G.length cg ∧ v2 = .bool m.bad := by simpa using e
  clear e
  cases hm : mayD m 60
  · rw [hm] at km
    clear hm
    go_enter Proofs.Try.func34, Proofs.Try.ntmps34
    go_wp2_with (fail)
    go_at_call 104
    refine (shown4_ _).calls.mono ?_
    rintro e w1 ⟨_, rfl, hb1, rfl⟩
    have B0_1 : Box w1 (w.heap.size) #[.slice aw m.W.length cw, .slice ag m.G.length cg, .bool m.bad] 50 := (Box.newAt _ _ _ (by first | rfl | simp)).ext hb1
    have s1 : w.heap.size + 1 ≤ w1.heap.size := (by have h := hb1.size; first | omega | (simp at h; omega))
    obtain ⟨c0_0, c0_1, c0_2, d0_0, d0_1, d0_2⟩ := cells3 B0_1
    have z0 : w.heap.size < w1.heap.size := B0_1.lt
    go_wp2_with (fail)
    go_at_call 63
    refine (km _ (by with_reducible (repeat (first | assumption | exact Ext.refl _ | refine Ext.alloc' ?_ _ | refine Ext.store0 ?_ _ _ | refine Ext.storek ?_ _ _ _ | refine Ext.stores0 ?_ ?_ _ _ | refine Ext.storesk ?_ ?_ _ _ _ | refine Ext.drewN' ?_ _ | refine Ext.drew' ?_ | refine Ext.trans ?_ (by assumption))))).calls.mono ?_
    rintro e w2 ⟨_, rfl, hb2, rfl⟩
    have B0_2 : Box w2 (w.heap.size) #[.slice aw m.W.length cw, .slice ag m.G.length cg, .bool m.bad] 50 := B0_1.ext hb2
    clear c0_0 c0_1 c0_2 d0_0 d0_1 d0_2 z0
    have s2 : w1.heap.size ≤ w2.heap.size := (by have h := hb2.size; first | omega | (simp at h; omega))
    obtain ⟨c0_0, c0_1, c0_2, d0_0, d0_1, d0_2⟩ := cells3 B0_2
    have z0 : w.heap.size < w2.heap.size := B0_2.lt
    go_wp2
    go_ret
    exact ⟨_, rfl, (by with_reducible (repeat (first | assumption | exact Ext.refl _ | refine Ext.alloc' ?_ _ | refine Ext.store0 ?_ _ _ | refine Ext.storek ?_ _ _ _ | refine Ext.stores0 ?_ ?_ _ _ | refine Ext.storesk ?_ ?_ _ _ _ | refine Ext.drewN' ?_ _ | refine Ext.drew' ?_ | refine Ext.trans ?_ (by assumption)))), rfl⟩
  · rw [hm] at km
    obtain ⟨fit, hr, hG60⟩ := may_fits hm
    obtain ⟨h2, h201, hWl, _⟩ := right_all hr
    obtain ⟨n, hG⟩ : ∃ n, m.G.length = n + 1 := ⟨m.G.length - 1, by omega⟩
    rw [hG] at hWl
    obtain ⟨F, hFe⟩ : ∃ F, fillD m = F := ⟨_, rfl⟩
    have FF : sameD (fillD F) F = true := by rw [← hFe, fill_twice (n := n) (by omega) hG hWl]; exact sameD_refl _
    have FW : walkD F = (upl n 1, true) := by rw [← hFe]; exact fill_walk (by omega) (by omega) hG hWl
    have FA : F.G = m.G ∧ F.bad = m.bad ∧ F.W.length = 128 + 4 * n := by
      obtain ⟨W', e1, e2, _⟩ := fill_spec (n := n) (m := m) (by omega) hG hWl
      rw [← hFe, e1]
      exact ⟨rfl, rfl, e2⟩
    obtain ⟨FG, FB, FL⟩ := FA
    have fitF : Fits F := ⟨by rw [FL, FG, hG]; omega, by rw [FG]; omega, by rw [FG]; omega⟩
    obtain ⟨l, hl, hln⟩ : ∃ l, upl n 1 = l ∧ l.length = n := ⟨_, rfl, upl_length _ _⟩
    have hlg : ∀ j, j < n → gi l j = 1 + (j : Int) := by intro j hj; rw [← hl, upl_get _ _ _ hj]; omega
    rw [hl] at FW
    clear hl hm
    have hl1a : l.length ≤ n := by omega
    have hl1b : n ≤ l.length := by omega
    have hGa : m.G.length ≤ n + 1 := by omega
    have hGb : n + 1 ≤ m.G.length := by omega
    have kG : (F.G == m.G) = true := by rw [FG]; simp
    have KB := Lib.hid FB
    have KW := Lib.hid FW
    clear FG FB FW FL hG hln hWl hr
    have kf := fun (w' : World) (e : Ext w w') => fill_ no _ m w' (h.ext e) no_lt fit
    rw [hFe] at kf
    clear hFe
    go_enter Proofs.Try.func34, Proofs.Try.ntmps34
    go_wp2_with (fail)
    go_at_call 104
    refine (shown4_ _).calls.mono ?_
    rintro e w1 ⟨_, rfl, hb1, rfl⟩
    have B0_1 : Box w1 (w.heap.size) #[.slice aw m.W.length cw, .slice ag m.G.length cg, .bool m.bad] 50 := (Box.newAt _ _ _ (by first | rfl | simp)).ext hb1
    have s1 : w.heap.size + 1 ≤ w1.heap.size := (by have h := hb1.size; first | omega | (simp at h; omega))
    obtain ⟨c0_0, c0_1, c0_2, d0_0, d0_1, d0_2⟩ := cells3 B0_1
    have z0 : w.heap.size < w1.heap.size := B0_1.lt
    go_wp2_with (fail)
    go_at_call 63
    refine (km _ (by with_reducible (repeat (first | assumption | exact Ext.refl _ | refine Ext.alloc' ?_ _ | refine Ext.store0 ?_ _ _ | refine Ext.storek ?_ _ _ _ | refine Ext.stores0 ?_ ?_ _ _ | refine Ext.storesk ?_ ?_ _ _ _ | refine Ext.drewN' ?_ _ | refine Ext.drew' ?_ | refine Ext.trans ?_ (by assumption))))).calls.mono ?_
    rintro e w2 ⟨_, rfl, hb2, rfl⟩
    have B0_2 : Box w2 (w.heap.size) #[.slice aw m.W.length cw, .slice ag m.G.length cg, .bool m.bad] 50 := B0_1.ext hb2
    clear c0_0 c0_1 c0_2 d0_0 d0_1 d0_2 z0
    have s2 : w1.heap.size ≤ w2.heap.size := (by have h := hb2.size; first | omega | (simp at h; omega))
    obtain ⟨c0_0, c0_1, c0_2, d0_0, d0_1, d0_2⟩ := cells3 B0_2
    have z0 : w.heap.size < w2.heap.size := B0_2.lt
    go_wp2_with (fail)
    go_at_call 109
    refine (kf _ (by with_reducible (repeat (first | assumption | exact Ext.refl _ | refine Ext.alloc' ?_ _ | refine Ext.store0 ?_ _ _ | refine Ext.storek ?_ _ _ _ | refine Ext.stores0 ?_ ?_ _ _ | refine Ext.storesk ?_ ?_ _ _ _ | refine Ext.drewN' ?_ _ | refine Ext.drew' ?_ | refine Ext.trans ?_ (by assumption))))).calls.mono ?_
    rintro e w3 ⟨_, rfl, hb3, hu3⟩
    obtain ⟨u1, u2, u3, u4, rfl, uW, uG⟩ := hu3.opened
    have B0_3 : Box w3 (w.heap.size) #[.slice aw m.W.length cw, .slice ag m.G.length cg, .bool m.bad] 50 := B0_2.ext hb3
    clear c0_0 c0_1 c0_2 d0_0 d0_1 d0_2 z0
    have s3 : w2.heap.size ≤ w3.heap.size := (by have h := hb3.size; first | omega | (simp at h; omega))
    obtain ⟨c0_0, c0_1, c0_2, d0_0, d0_1, d0_2⟩ := cells3 B0_3
    have z0 : w.heap.size < w3.heap.size := B0_3.lt
    go_wp2_with (fail)
    go_at_call 105
    refine (walk_ no _ F _ (IsMem.mk rfl (IsInts.ext uW (by with_reducible (repeat (first | assumption | exact Ext.refl _ | refine Ext.alloc' ?_ _ | refine Ext.store0 ?_ _ _ | refine Ext.storek ?_ _ _ _ | refine Ext.stores0 ?_ ?_ _ _ | refine Ext.storesk ?_ ?_ _ _ _ | refine Ext.drewN' ?_ _ | refine Ext.drew' ?_ | refine Ext.trans ?_ (by assumption))))) (IsInts.ext uG (by with_reducible (repeat (first | assumption | exact Ext.refl _ | refine Ext.alloc' ?_ _ | refine Ext.store0 ?_ _ _ | refine Ext.storek ?_ _ _ _ | refine Ext.stores0 ?_ ?_ _ _ | refine Ext.storesk ?_ ?_ _ _ _ | refine Ext.drewN' ?_ _ | refine Ext.drew' ?_ | refine Ext.trans ?_ (by assumption)))))) no_lt fitF).calls.mono ?_
    rintro e w4 ⟨_, rfl, hb4, u, rfl, hl1⟩
    rw [KW.out] at hl1 ⊢
    have uW4 := IsInts.ext uW (show Ext w3 w4 from (by with_reducible (repeat (first | assumption | exact Ext.refl _ | refine Ext.alloc' ?_ _ | refine Ext.store0 ?_ _ _ | refine Ext.storek ?_ _ _ _ | refine Ext.stores0 ?_ ?_ _ _ | refine Ext.storesk ?_ ?_ _ _ _ | refine Ext.drewN' ?_ _ | refine Ext.drew' ?_ | refine Ext.trans ?_ (by assumption)))))
    have uG4 := IsInts.ext uG (show Ext w3 w4 from (by with_reducible (repeat (first | assumption | exact Ext.refl _ | refine Ext.alloc' ?_ _ | refine Ext.store0 ?_ _ _ | refine Ext.storek ?_ _ _ _ | refine Ext.stores0 ?_ ?_ _ _ | refine Ext.storesk ?_ ?_ _ _ _ | refine Ext.drewN' ?_ _ | refine Ext.drew' ?_ | refine Ext.trans ?_ (by assumption)))))
    obtain ⟨la, lc, rfl, _, _, lz⟩ := hl1.opened
    have B0_4 : Box w4 (w.heap.size) #[.slice aw m.W.length cw, .slice ag m.G.length cg, .bool m.bad] 50 := (B0_3.alloc _).ext hb4
    have B1_4 : Box w4 (w3.heap.size) #[.slice u1 F.W.length u2, .slice u3 F.G.length u4, .bool F.bad] 50 := (Box.newAt _ _ _ (by first | rfl | simp)).ext hb4
    clear c0_0 c0_1 c0_2 d0_0 d0_1 d0_2 z0
    have s4 : w3.heap.size + 1 ≤ w4.heap.size := (by have h := hb4.size; first | omega | (simp at h; omega))
    obtain ⟨c0_0, c0_1, c0_2, d0_0, d0_1, d0_2⟩ := cells3 B0_4
    have z0 : w.heap.size < w4.heap.size := B0_4.lt
    obtain ⟨c1_0, c1_1, c1_2, d1_0, d1_1, d1_2⟩ := cells3 B1_4
    have z1 : w3.heap.size < w4.heap.size := B1_4.lt
    go_wp2_with (fail)
    have hX6 : Ext w w4 := (by with_reducible (repeat (first | assumption | exact Ext.refl _ | refine Ext.alloc' ?_ _ | refine Ext.store0 ?_ _ _ | refine Ext.storek ?_ _ _ _ | refine Ext.storen ?_ (by omega) | refine Ext.stores0 ?_ ?_ _ _ | refine Ext.storesk ?_ ?_ _ _ _ | refine Ext.drewN' ?_ _ | refine Ext.drew' ?_ | refine Ext.trans ?_ (by assumption))))
    have hK6 : Keep no w4 w4 := Keep.refl _ _
    have D0_6 := B0_4
    have D1_6 := B1_4
    have aM : IsMem no w4 (.agg #[.slice aw m.W.length cw, .slice ag m.G.length cg, .bool m.bad]) m := h.ext hX6
    have aF : IsMem no w4 (.agg #[.slice u1 F.W.length u2, .slice u3 F.G.length u4, .bool F.bad]) F := IsMem.mk rfl uW4 uG4
    have ki : ∀ w' : World, Ext w4 w' → Gives Proofs.Try.prog 72 #[.slice u3 F.G.length u4, .slice ag m.G.length cg] w' (eqv (.bool true)) := by intro w' e; have := refInts_ no _ _ F.G m.G w' (uG4.ext e) ((IsInts.ext hg hX6).ext e); rw [kG] at this; exact this
    have ks : ∀ (v : Value) (w' : World), Ext w4 w' → IsMem no w' v (fillD F) → Gives Proofs.Try.prog 54 #[v, .agg #[.slice u1 F.W.length u2, .slice u3 F.G.length u4, .bool F.bad]] w' (eqv (.bool true)) := by intro v w' e hv; have := refSame_ no _ _ (fillD F) F w' hv (aF.ext e); rw [FF] at this; exact this
    clear c0_0 c0_1 c0_2 d0_0 d0_1 d0_2 z0 c1_0 c1_1 c1_2 d1_0 d1_1 d1_2 z1
    apply region_lit2 (T := []) (L := []) (X := []) (G := [eqv _, eqv (.bool false), eqv (.bool false), eqv _, eqv _, eqv _, eqv _, eqv _, eqv (.int .i64 (n : Int)), eqv (.bool false), eqv (.bool false), eqv (.bool false), eqv _, eqv _, eqv _, eqv _, eqv (.bool true), eqv (.bool false), eqv (.bool false), eqv (.bool false), eqv _, eqv _, eqv _, eqv _, eqv (.bool false), eqv (.bool false), eqv (.bool false), eqv _, isMemN no (fillD F), eqv _, eqv (.bool true), eqv (.bool false), eqv (.bool false)])
    case hm => kernel_rfl
    case hop =>
      refine ⟨?_, ?_, ?_, ?_, ?_, ?_, ?_, ?_, ?_, ?_, ?_, ?_, ?_, ?_, ?_, ?_, ?_, ?_, ?_, ?_, ?_, ?_, ?_, ?_, ?_, ?_, ?_, ?_, ?_, ?_, ?_, ?_, ?_, trivial⟩
      · intro a wa hs hf hd
        have t6 := hf.off 6 (by kernel_rfl) rfl
        exact plain_ rfl (yes_eqv (o_move rfl t6) rfl)
      · intro a wa hs hf hd
        have t20 : a.eval (.tmp 20) = _ := hd.at 0 20 (by kernel_rfl)
        exact plain_ rfl (yes_eqv (o_not rfl t20 rfl) rfl)
      · intro a wa hs hf hd
        have t21 : a.eval (.tmp 21) = _ := hd.at 1 21 (by kernel_rfl)
        exact plain_ rfl (yes_eqv (o_move rfl t21) rfl)
      · intro a wa hs hf hd
        have t22 : a.eval (.tmp 22) = _ := hd.at 2 22 (by kernel_rfl)
        have t5 := hf.off 5 (by kernel_rfl) rfl
        exact guard_on rfl rfl t22 (yes_eqv (o_move rfl t5) rfl)
      · intro a wa hs hf hd
        have t22 : a.eval (.tmp 22) = _ := hd.at 2 22 (by kernel_rfl)
        have t23 : a.eval (.tmp 23) = _ := hd.at 3 23 (by kernel_rfl)
        exact guard_on rfl rfl t22 (yes_eqv (o_len rfl Proofs.Try.underlying48 t23) rfl)
      · intro a wa hs hf hd
        have t22 : a.eval (.tmp 22) = _ := hd.at 2 22 (by kernel_rfl)
        have t1 := hf.off 1 (by kernel_rfl) rfl
        exact guard_on rfl rfl t22 (yes_eqv (o_fieldAddr rfl Proofs.Try.underlying50 rfl rfl (by kernel_rfl) t1) rfl)
      · intro a wa hs hf hd
        have t22 : a.eval (.tmp 22) = _ := hd.at 2 22 (by kernel_rfl)
        have t25 : a.eval (.tmp 25) = _ := hd.at 5 25 (by kernel_rfl)
        exact guard_on rfl rfl t22 (yes_eqv (o_load1 rfl Proofs.Try.underlying48 rfl t25 ((D0_6.since hs rfl).cell rfl)) rfl)
      · intro a wa hs hf hd
        have t22 : a.eval (.tmp 22) = _ := hd.at 2 22 (by kernel_rfl)
        have t26 : a.eval (.tmp 26) = _ := hd.at 6 26 (by kernel_rfl)
        exact guard_on rfl rfl t22 (yes_eqv (o_len rfl Proofs.Try.underlying48 t26) rfl)
      · intro a wa hs hf hd
        have t22 : a.eval (.tmp 22) = _ := hd.at 2 22 (by kernel_rfl)
        have t27 : a.eval (.tmp 27) = _ := hd.at 7 27 (by kernel_rfl)
        exact guard_on rfl rfl t22 (yes_eqv (o_sub rfl t27 rfl (by rw [IntKind.wrap_i64]; omega)) rfl)
      · intro a wa hs hf hd
        have t22 : a.eval (.tmp 22) = _ := hd.at 2 22 (by kernel_rfl)
        have t24 : a.eval (.tmp 24) = _ := hd.at 4 24 (by kernel_rfl)
        have t28 : a.eval (.tmp 28) = _ := hd.at 8 28 (by kernel_rfl)
        exact guard_on rfl rfl t22 (yes_eqv (o_neq rfl t24 t28 (by simp; omega)) rfl)
      · intro a wa hs hf hd
        have t22 : a.eval (.tmp 22) = _ := hd.at 2 22 (by kernel_rfl)
        have t29 : a.eval (.tmp 29) = _ := hd.at 9 29 (by kernel_rfl)
        exact plain_ rfl (yes_eqv (o_pick_f rfl t22 t29) rfl)
      · intro a wa hs hf hd
        have t30 : a.eval (.tmp 30) = _ := hd.at 10 30 (by kernel_rfl)
        exact plain_ rfl (yes_eqv (o_move rfl t30) rfl)
      · intro a wa hs hf hd
        have t31 : a.eval (.tmp 31) = _ := hd.at 11 31 (by kernel_rfl)
        have t4 := hf.off 4 (by kernel_rfl) rfl
        exact guard_on rfl rfl t31 (yes_eqv (o_fieldAddr rfl Proofs.Try.underlying50 rfl rfl (by kernel_rfl) t4) rfl)
      · intro a wa hs hf hd
        have t31 : a.eval (.tmp 31) = _ := hd.at 11 31 (by kernel_rfl)
        have t32 : a.eval (.tmp 32) = _ := hd.at 12 32 (by kernel_rfl)
        exact guard_on rfl rfl t31 (yes_eqv (o_load1 rfl Proofs.Try.underlying48 rfl t32 ((D1_6.since hs rfl).cell rfl)) rfl)
      · intro a wa hs hf hd
        have t31 : a.eval (.tmp 31) = _ := hd.at 11 31 (by kernel_rfl)
        have t1 := hf.off 1 (by kernel_rfl) rfl
        exact guard_on rfl rfl t31 (yes_eqv (o_fieldAddr rfl Proofs.Try.underlying50 rfl rfl (by kernel_rfl) t1) rfl)
      · intro a wa hs hf hd
        have t31 : a.eval (.tmp 31) = _ := hd.at 11 31 (by kernel_rfl)
        have t34 : a.eval (.tmp 34) = _ := hd.at 14 34 (by kernel_rfl)
        exact guard_on rfl rfl t31 (yes_eqv (o_load1 rfl Proofs.Try.underlying48 rfl t34 ((D0_6.since hs rfl).cell rfl)) rfl)
      · intro a wa hs hf hd
        have t31 : a.eval (.tmp 31) = _ := hd.at 11 31 (by kernel_rfl)
        have t33 : a.eval (.tmp 33) = _ := hd.at 13 33 (by kernel_rfl)
        have t35 : a.eval (.tmp 35) = _ := hd.at 15 35 (by kernel_rfl)
        exact guard_on rfl rfl t31 (yes_gives (ki _ (Since.to_ext hs)) rfl rfl Proofs.Try.func72 (by kernel_rfl) (by kernel_rfl) (by simp only [List.map_toArray, List.map_cons, List.map_nil, t33, t35]) rfl)
      · intro a wa hs hf hd
        have t31 : a.eval (.tmp 31) = _ := hd.at 11 31 (by kernel_rfl)
        have t36 : a.eval (.tmp 36) = _ := hd.at 16 36 (by kernel_rfl)
        exact guard_on rfl rfl t31 (yes_eqv (o_not rfl t36 rfl) rfl)
      · intro a wa hs hf hd
        have t31 : a.eval (.tmp 31) = _ := hd.at 11 31 (by kernel_rfl)
        have t37 : a.eval (.tmp 37) = _ := hd.at 17 37 (by kernel_rfl)
        exact plain_ rfl (yes_eqv (o_pick_f rfl t31 t37) rfl)
      · intro a wa hs hf hd
        have t38 : a.eval (.tmp 38) = _ := hd.at 18 38 (by kernel_rfl)
        exact plain_ rfl (yes_eqv (o_move rfl t38) rfl)
      · intro a wa hs hf hd
        have t39 : a.eval (.tmp 39) = _ := hd.at 19 39 (by kernel_rfl)
        have t4 := hf.off 4 (by kernel_rfl) rfl
        exact guard_on rfl rfl t39 (yes_eqv (o_fieldAddr rfl Proofs.Try.underlying50 rfl rfl (by kernel_rfl) t4) rfl)
      · intro a wa hs hf hd
        have t39 : a.eval (.tmp 39) = _ := hd.at 19 39 (by kernel_rfl)
        have t40 : a.eval (.tmp 40) = _ := hd.at 20 40 (by kernel_rfl)
        exact guard_on rfl rfl t39 (yes_eqv (o_load1 rfl Proofs.Try.underlying4 rfl t40 ((D1_6.since hs rfl).cell rfl)) rfl)
      · intro a wa hs hf hd
        have t39 : a.eval (.tmp 39) = _ := hd.at 19 39 (by kernel_rfl)
        have t1 := hf.off 1 (by kernel_rfl) rfl
        exact guard_on rfl rfl t39 (yes_eqv (o_fieldAddr rfl Proofs.Try.underlying50 rfl rfl (by kernel_rfl) t1) rfl)
      · intro a wa hs hf hd
        have t39 : a.eval (.tmp 39) = _ := hd.at 19 39 (by kernel_rfl)
        have t42 : a.eval (.tmp 42) = _ := hd.at 22 42 (by kernel_rfl)
        exact guard_on rfl rfl t39 (yes_eqv (o_load1 rfl Proofs.Try.underlying4 rfl t42 ((D0_6.since hs rfl).cell rfl)) rfl)
      · intro a wa hs hf hd
        have t39 : a.eval (.tmp 39) = _ := hd.at 19 39 (by kernel_rfl)
        have t41 : a.eval (.tmp 41) = _ := hd.at 21 41 (by kernel_rfl)
        have t43 : a.eval (.tmp 43) = _ := hd.at 23 43 (by kernel_rfl)
        exact guard_on rfl rfl t39 (yes_eqv (o_neqb rfl Proofs.Try.underlying4 t41 t43 (by rw [KB.out]; cases m.bad <;> rfl)) rfl)
      · intro a wa hs hf hd
        have t39 : a.eval (.tmp 39) = _ := hd.at 19 39 (by kernel_rfl)
        have t44 : a.eval (.tmp 44) = _ := hd.at 24 44 (by kernel_rfl)
        exact plain_ rfl (yes_eqv (o_pick_f rfl t39 t44) rfl)
      · intro a wa hs hf hd
        have t45 : a.eval (.tmp 45) = _ := hd.at 25 45 (by kernel_rfl)
        exact plain_ rfl (yes_eqv (o_move rfl t45) rfl)
      · intro a wa hs hf hd
        have t46 : a.eval (.tmp 46) = _ := hd.at 26 46 (by kernel_rfl)
        have t4 := hf.off 4 (by kernel_rfl) rfl
        exact guard_on rfl rfl t46 (yes_eqv (o_load3 rfl Proofs.Try.underlying50 rfl (by kernel_rfl) t4 ((D1_6.since hs rfl).cell rfl) ((D1_6.since hs rfl).cell rfl) ((D1_6.since hs rfl).cell rfl)) rfl)
      · intro a wa hs hf hd
        have t46 : a.eval (.tmp 46) = _ := hd.at 26 46 (by kernel_rfl)
        have t47 : a.eval (.tmp 47) = _ := hd.at 27 47 (by kernel_rfl)
        exact guard_on rfl rfl t46 (yes_gives (fill_ no _ F _ (aF.ext (Since.to_ext hs)) no_lt fitF) rfl rfl Proofs.Try.func109 (by kernel_rfl) (by kernel_rfl) (by simp only [List.map_toArray, List.map_cons, List.map_nil, t47]) rfl)
      · intro a wa hs hf hd
        have t46 : a.eval (.tmp 46) = _ := hd.at 26 46 (by kernel_rfl)
        have t4 := hf.off 4 (by kernel_rfl) rfl
        exact guard_on rfl rfl t46 (yes_eqv (o_load3 rfl Proofs.Try.underlying50 rfl (by kernel_rfl) t4 ((D1_6.since hs rfl).cell rfl) ((D1_6.since hs rfl).cell rfl) ((D1_6.since hs rfl).cell rfl)) rfl)
      · intro a wa hs hf hd
        have t46 : a.eval (.tmp 46) = _ := hd.at 26 46 (by kernel_rfl)
        have t48 := hd.at 28 48 (by kernel_rfl)
        have t49 : a.eval (.tmp 49) = _ := hd.at 29 49 (by kernel_rfl)
        exact guard_on rfl rfl t46 (yes_gives (ks _ _ (Since.to_ext hs) t48) rfl rfl Proofs.Try.func54 (by kernel_rfl) (by kernel_rfl) (by simp only [List.map_toArray, List.map_cons, List.map_nil, t48, t49]) rfl)
      · intro a wa hs hf hd
        have t46 : a.eval (.tmp 46) = _ := hd.at 26 46 (by kernel_rfl)
        have t50 : a.eval (.tmp 50) = _ := hd.at 30 50 (by kernel_rfl)
        exact guard_on rfl rfl t46 (yes_eqv (o_not rfl t50 rfl) rfl)
      · intro a wa hs hf hd
        have t46 : a.eval (.tmp 46) = _ := hd.at 26 46 (by kernel_rfl)
        have t51 : a.eval (.tmp 51) = _ := hd.at 31 51 (by kernel_rfl)
        exact plain_ rfl (yes_eqv (o_pick_f rfl t46 t51) rfl)
    case hG => exact ⟨stable_eqv _, stable_eqv _, stable_eqv _, stable_eqv _, stable_eqv _, stable_eqv _, stable_eqv _, stable_eqv _, stable_eqv _, stable_eqv _, stable_eqv _, stable_eqv _, stable_eqv _, stable_eqv _, stable_eqv _, stable_eqv _, stable_eqv _, stable_eqv _, stable_eqv _, stable_eqv _, stable_eqv _, stable_eqv _, stable_eqv _, stable_eqv _, stable_eqv _, stable_eqv _, stable_eqv _, stable_eqv _, stable_isMemN _ _, stable_eqv _, stable_eqv _, stable_eqv _, stable_eqv _, trivial⟩
    case hc => kernel_rfl
    case hfin =>
      intro v6 hs6
      rintro _ rfl _ rfl _ rfl _ rfl _ rfl _ rfl _ rfl _ rfl _ rfl _ rfl _ rfl _ rfl _ rfl _ rfl _ rfl _ rfl _ rfl _ rfl _ rfl _ rfl _ rfl _ rfl _ rfl _ rfl _ rfl _ rfl _ rfl _ rfl j28 hj28 _ rfl _ rfl _ rfl _ rfl
      intro x hx
      rw [hx]
      clear hx x
      simp only [Act.put, List.setIfInBounds_toArray, List.set_cons_zero, List.set_cons_succ]
      obtain ⟨w5, hw5⟩ : ∃ x, x = v6 := ⟨_, rfl⟩
      have hb5 : Ext w w5 := by rw [hw5]; exact hX6.trans (Since.to_ext hs6)
      have hk5 : Keep no w4 w5 := by rw [hw5]; exact hK6.ext (Since.to_ext hs6)
      have hQ5 : Ext w4 w5 := by rw [hw5]; exact Since.to_ext hs6
      have B0_5 : Box w5 (w.heap.size) #[.slice aw m.W.length cw, .slice ag m.G.length cg, .bool m.bad] 50 := by rw [hw5]; exact (D0_6.since hs6 rfl)
      have B1_5 : Box w5 (w3.heap.size) #[.slice u1 F.W.length u2, .slice u3 F.G.length u4, .bool F.bad] 50 := by rw [hw5]; exact (D1_6.since hs6 rfl)
      have s5 : w4.heap.size ≤ w5.heap.size := by rw [hw5]; exact (Since.to_ext hs6).size
      rw [← hw5]
      clear hw5
      obtain ⟨c0_0, c0_1, c0_2, d0_0, d0_1, d0_2⟩ := cells3 B0_5
      have z0 : w.heap.size < w5.heap.size := B0_5.lt
      obtain ⟨c1_0, c1_1, c1_2, d1_0, d1_1, d1_2⟩ := cells3 B1_5
      have z1 : w3.heap.size < w5.heap.size := B1_5.lt
      go_wp2
      have hWk : Ext w w5 := (by with_reducible (repeat (first | assumption | exact Ext.refl _ | refine Ext.alloc' ?_ _ | refine Ext.store0 ?_ _ _ | refine Ext.storek ?_ _ _ _ | refine Ext.stores0 ?_ ?_ _ _ | refine Ext.storesk ?_ ?_ _ _ _ | refine Ext.drewN' ?_ _ | refine Ext.drew' ?_ | refine Ext.trans ?_ (by assumption))))
      have hl2 := IsInts.ext hl1 (show Ext _ w5 from (by with_reducible (repeat (first | assumption | exact Ext.refl _ | refine Ext.alloc' ?_ _ | refine Ext.store0 ?_ _ _ | refine Ext.storek ?_ _ _ _ | refine Ext.stores0 ?_ ?_ _ _ | refine Ext.storesk ?_ ?_ _ _ _ | refine Ext.drewN' ?_ _ | refine Ext.drew' ?_ | refine Ext.trans ?_ (by assumption)))))
      go_loopw [7] (fun i wr => ∃ k : Nat, i = .int .i64 k ∧ k ≤ n ∧ Ext w5 wr) (fun i _ => n - (intOf i).toNat)
      case atStart => exact ⟨0, rfl, by omega, (by with_reducible (repeat (first | assumption | exact Ext.refl _ | refine Ext.alloc' ?_ _ | refine Ext.store0 ?_ _ _ | refine Ext.storek ?_ _ _ _ | refine Ext.stores0 ?_ ?_ _ _ | refine Ext.storesk ?_ ?_ _ _ _ | refine Ext.drewN' ?_ _ | refine Ext.drew' ?_ | refine Ext.trans ?_ (by assumption))))⟩
      case round =>
      obtain ⟨k, rfl, hkn, hbr⟩ := hrel
      obtain ⟨w9, rfl⟩ : ∃ w9 : World, w9 = wr := ⟨_, rfl⟩
      have hb9 : Ext w w9 := hWk.trans hbr
      by_cases hlt : k < n
      · have q1 : (k : Int) < (l.length : Int) := by omega
        obtain ⟨a2, c2, he2, _, _, lz2⟩ := hl2.opened
        obtain ⟨rfl, rfl⟩ : la = a2 ∧ lc = c2 := by simpa using he2
        obtain ⟨bb, ob, rfl, zx, _, e0⟩ := lz2 k (by omega)
        have e9 := cell_ext e0 hbr
        rw [hlg k hlt] at e9
        have q2 : (1 + (k : Int)) = (k : Int) + 1 := by omega
        rw [q2] at e9
        go_wp2
        go_roundw
        case rel => exact ⟨k + 1, by first | (simp; done) | (simp; omega), by omega, (by with_reducible (repeat (first | assumption | exact Ext.refl _ | refine Ext.alloc' ?_ _ | refine Ext.store0 ?_ _ _ | refine Ext.storek ?_ _ _ _ | refine Ext.stores0 ?_ ?_ _ _ | refine Ext.storesk ?_ ?_ _ _ _ | refine Ext.drewN' ?_ _ | refine Ext.drew' ?_ | refine Ext.trans ?_ (by assumption))))⟩
        case measure => simp [intOf]; omega
      · obtain rfl : k = n := by omega
        have q1 : ¬ (k : Int) < (l.length : Int) := by omega
        go_wp2
        go_ret
        exact ⟨_, rfl, (by with_reducible (repeat (first | assumption | exact Ext.refl _ | refine Ext.alloc' ?_ _ | refine Ext.store0 ?_ _ _ | refine Ext.storek ?_ _ _ _ | refine Ext.stores0 ?_ ?_ _ _ | refine Ext.storesk ?_ ?_ _ _ _ | refine Ext.drewN' ?_ _ | refine Ext.drew' ?_ | refine Ext.trans ?_ (by assumption)))), rfl⟩
end Go.Proofs.Ytcfbdfgondmkoaa
namespace Go.Proofs.Ytcfbdfgondmkoaa.stackFills
open Go.ChangeShapes Go.WideShapes Go.ChangeAt Go.RowKit
set_option linter.unusedVariables false

set_option maxRecDepth 100000 in
theorem lifted (os : Os) (started : os.Started) (H : Type) (enc : TypeId × Value → H) :
    ReturnsInHanded {} Try.checked os 34 .any (Rows.stackFillsSpec.pre6 enc Try.prog Try.f34 Rows.stackFillsRow.domain false) (Rows.stackFillsSpec.post enc Try.prog Try.f34 false true false false) := by
  refine returnsInHanded_of_change (C := Try.checked) own started (by kernel_rfl) Try.func34
    (ChangeSpec.witness6 (enc := enc) (C := Try.checked) false ⟨#[], #[.agg #[.slice none 0 0, .slice none 0 0, .bool false]], []⟩ 8 (by kernel_rfl) (by kernel_rfl) (by kernel_rfl) (by kernel_rfl)) ?_
  intro W base args ds gs before hval0 hW hcnd _
  have hval : ∀ (j : Nat) t v, Try.f34.params[j]? = some t → args[j]? = some v → Value.okWide Try.prog W .any base t v := hval0
  have hW' := hW
  obtain ⟨p, q, hA0, hV, rfl, hfz, hnd⟩ := hW
  have hA : DataW.TrodAll enc Try.prog W 0 (fun _ => true) true Try.f34.params.toList args.toList ds p := hA0
  rw [Try.params34] at hA hval
  obtain ⟨v0, vs0, d0, ds0, p0, q0, hargs, rfl, rfl, h0, r0⟩ := trodAll_cons hA
  obtain ⟨rfl, rfl, rfl⟩ := trodAll_nil r0
  obtain rfl : args = #[v0] := by cases args; simp_all
  obtain ⟨rfl, rfl⟩ := trodVars_none hV
  have k0 := h0
  have lt0 : ∀ x ∈ p0, x.block < W.heap.size := by obtain ⟨m, hm⟩ := k0; exact DataW.trod_lt m _ _ _ hm
  obtain ⟨c0, rfl, hc0⟩ := okWide_struct Try.underlying50 (hval 0 50 v0 rfl rfl)
  have s0 := Rd.of_trod h0
  have n0 : Try.prog.cellsOf 50 = 3 := by kernel_rfl
  obtain ⟨x0_0, x0_1, x0_2, rfl⟩ := agg3 (hc0.trans n0)
  have qm0 : Rd enc Try.prog W 50 [x0_0, x0_1, x0_2] := s0
  obtain ⟨ym00, ym01, ym02, m0, em0, hm0⟩ := Rd.mem qm0
  obtain ⟨rfl, rfl, rfl⟩ : x0_0 = ym00 ∧ x0_1 = ym01 ∧ x0_2 = ym02 := by simpa using em0
  clear hA0 hval0
  refine (stackFills_ x0_0 x0_1 x0_2 m0 W hm0).calls.mono fun e W' ⟨v, he, bel, hv⟩ => ?_
  subst he; subst hv
  exact ⟨_, rfl, _, _, _, [], _, [], hW', trodAll_mk1 (shut_bool Try.underlying4 _), (trodAll_cons_mk (Below.trod laidOut (by kernel_rfl) (of_decide_eq_true (by kernel_rfl)) k0 bel lt0) trodAll_mk0), rfl, bel.frame _, fun h => by cases h⟩

theorem facts (P : Program) (hP : P = Try.prog) : joinedFacts P 34 Try.f34 Rows.stackFillsSpec Rows.stackFillsRow = true := by
  unfold joinedFacts
  rw [show P.mayEnter = true by rw [hP]; exact mayEnter_, show P.liftsFinal = false by rw [hP]; exact liftsFinal_, show P.make = some .cut by rw [hP]; exact make_]
  subst hP
  kernel_rfl

theorem over : Rows.stackFillsRow.holds Try.pinned (OpenSpec.ofChange Rows.stackFillsSpec) :=
  OpenClaim.holds_of_wide 34 Try.f34 rfl rfl rfl rfl rfl rfl rfl ⟨rfl, rfl, rfl, rfl, rfl⟩ rfl rfl rfl rfl rfl (by kernel_rfl) Try.func34 (facts _ rfl)
    (of_decide_eq_true (by kernel_rfl)) (by unfold Func.isWrapper; first | (rw [if_pos (by decide +kernel)]; kernel_rfl) | (rw [if_neg (by decide +kernel)]; exact ⟨rfl, rfl⟩))
    (fun os started H enc _ => lifted os started H enc)

theorem proved : Rows.StackFillsSaid := over
end Go.Proofs.Ytcfbdfgondmkoaa.stackFills
