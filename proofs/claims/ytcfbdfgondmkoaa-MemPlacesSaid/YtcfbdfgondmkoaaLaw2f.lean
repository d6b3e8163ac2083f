/- MemPlaces: its walk. -/
import Derived.Test.YtcfbdfgondmkoaaAr20
namespace Go.Proofs.Ytcfbdfgondmkoaa
open Go Go.RowKit
set_option linter.unusedSimpArgs false
set_option linter.unusedVariables false
set_option linter.unnecessarySimpa false

theorem nodeD_cases {m : Arena} (h : Fits m) (p : Nat) : (nodeD m.W.length p = 0 ∧ (p < 128 ∨ m.W.length ≤ p ∨ ((p : Int) - 128) % 4 = 0)) ∨ ∃ k j : Nat, nodeD m.W.length p = k ∧ 1 ≤ k ∧ k < m.G.length ∧ 1 ≤ j ∧ j ≤ 3 ∧ (p : Int) = 128 + 4 * ((k : Int) - 1) + j := by
  obtain ⟨h1, h2, h3⟩ := h
  unfold nodeD
  split
  · exact .inl ⟨rfl, by omega⟩
  · exact .inr ⟨(((p : Int) - 128) / 4 + 1).toNat, (((p : Int) - 128) % 4).toNat, by omega, by omega, by omega, by omega, by omega, by omega⟩
theorem nodeD_link {m : Arena} (k : Nat) : nodeD m.W.length (128 + 4 * ((k : Int) - 1) + 0) = 0 := by
  unfold nodeD; rw [if_pos]; right; right; omega
set_option maxHeartbeats 1000000 in
set_option maxRecDepth 100000 in
theorem memPlaces_ (v0 v1 v2 : Value) (m : Arena) (x : Int) (w : World) (h : IsMem no w (.agg #[v0, v1, v2]) m) (hx0 : 0 ≤ x) (hx1 : x ≤ 65535) :
    Gives Proofs.Try.prog 16 #[.agg #[v0, v1, v2], .int .u16 x] w (eqv (.bool true)) := by
  have km := fun (w' : World) (e : Ext w w') => memMay_ no _ m 60 (by omega) w' (h.ext e)
  obtain ⟨aw, cw, ag, cg, e, hw, hg⟩ := h.opened
  obtain ⟨rfl, rfl, rfl⟩ : v0 = .slice aw m.W.length cw ∧ v1 = .slice ag m.G.length cg ∧ v2 = .bool m.bad := by simpa using e
  clear e
  cases hm : mayD m 60 <;> rw [hm] at km
  · go_enter Proofs.Try.func16, Proofs.Try.ntmps16
    go_wp2_with (fail)
    go_at_call 49
    refine (shown2_ _).calls.mono ?_
    rintro e w1 ⟨_, rfl, hb1, rfl⟩
    have Bm_1 : Box w1 (w.heap.size) #[.slice aw m.W.length cw, .slice ag m.G.length cg, .bool m.bad] 50 := (Box.new _ _ _).ext hb1
    obtain ⟨cm0, cm1, cm2, dm0, dm1, dm2⟩ := cells3 Bm_1
    have zm : w.heap.size < w1.heap.size := Bm_1.lt
    go_wp2_with (fail)
    go_at_call 63
    refine (km _ (by with_reducible (repeat (first | assumption | exact Ext.refl _ | refine Ext.alloc' ?_ _ | refine Ext.store0 ?_ _ _ | refine Ext.storek ?_ _ _ _ | refine Ext.stores0 ?_ ?_ _ _ | refine Ext.storesk ?_ ?_ _ _ _ | refine Ext.store ?_ _ _ (by first | omega | (dsimp only; omega)) | refine Ext.drewN' ?_ _ | refine Ext.drew' ?_ | refine Ext.trans ?_ (by assumption))))).calls.mono ?_
    rintro e w2 ⟨_, rfl, hb2, rfl⟩
    have Bm_2 := Bm_1.ext (show Ext w1 w2 from (by with_reducible (repeat (first | assumption | exact Ext.refl _ | refine Ext.alloc' ?_ _ | refine Ext.store0 ?_ _ _ | refine Ext.storek ?_ _ _ _ | refine Ext.stores0 ?_ ?_ _ _ | refine Ext.storesk ?_ ?_ _ _ _ | refine Ext.store ?_ _ _ (by first | omega | (dsimp only; omega)) | refine Ext.drewN' ?_ _ | refine Ext.drew' ?_ | refine Ext.trans ?_ (by assumption)))))
    clear Bm_1 zm cm0 cm1 cm2 dm0 dm1 dm2
    obtain ⟨cm0, cm1, cm2, dm0, dm1, dm2⟩ := cells3 Bm_2
    have zm : w.heap.size < w2.heap.size := Bm_2.lt
    go_wp2
    go_ret
    exact ⟨_, rfl, (by with_reducible (repeat (first | assumption | exact Ext.refl _ | refine Ext.alloc' ?_ _ | refine Ext.store0 ?_ _ _ | refine Ext.storek ?_ _ _ _ | refine Ext.stores0 ?_ ?_ _ _ | refine Ext.storesk ?_ ?_ _ _ _ | refine Ext.store ?_ _ _ (by first | omega | (dsimp only; omega)) | refine Ext.drewN' ?_ _ | refine Ext.drew' ?_ | refine Ext.trans ?_ (by assumption)))), rfl⟩
  · have hFit := Fits.of_may hm
    have hl1 := hFit.1
    have hl2 := hFit.2.1
    have hl3 := hFit.2.2
    obtain ⟨p, hp⟩ : ∃ p : Nat, x % ((m.W.length : Int) + 4) = p := ⟨(x % ((m.W.length : Int) + 4)).toNat, by have := Int.emod_nonneg x (show (m.W.length : Int) + 4 ≠ 0 by omega); omega⟩
    have hp2 : (p : Int) < (m.W.length : Int) + 4 := by rw [← hp]; exact Int.emod_lt_of_pos x (by omega)
    have hlw : m.W.length ≤ 1000 := by omega
    have hne : ¬ m.G = [] := by intro e; rw [e] at hl2; simp at hl2
    have HL := Lib.hid hl1
    clear hl1
    rcases nodeD_cases hFit p with ⟨hn, hq⟩ | ⟨k, j, hn, hk1, hk2, hj1, hj2, hpj⟩
    · have HN := Lib.hid hn
      clear hn
      by_cases g1 : (p : Int) < 128
      · go_enter Proofs.Try.func16, Proofs.Try.ntmps16
        go_wp2_with (fail)
        go_at_call 49
        refine (shown2_ _).calls.mono ?_
        rintro e w1 ⟨_, rfl, hb1, rfl⟩
        have Bm_1 : Box w1 (w.heap.size) #[.slice aw m.W.length cw, .slice ag m.G.length cg, .bool m.bad] 50 := (Box.new _ _ _).ext hb1
        obtain ⟨cm0, cm1, cm2, dm0, dm1, dm2⟩ := cells3 Bm_1
        have zm : w.heap.size < w1.heap.size := Bm_1.lt
        go_wp2_with (fail)
        go_at_call 63
        refine (km _ (by with_reducible (repeat (first | assumption | exact Ext.refl _ | refine Ext.alloc' ?_ _ | refine Ext.store0 ?_ _ _ | refine Ext.storek ?_ _ _ _ | refine Ext.stores0 ?_ ?_ _ _ | refine Ext.storesk ?_ ?_ _ _ _ | refine Ext.store ?_ _ _ (by first | omega | (dsimp only; omega)) | refine Ext.drewN' ?_ _ | refine Ext.drew' ?_ | refine Ext.trans ?_ (by assumption))))).calls.mono ?_
        rintro e w2 ⟨_, rfl, hb2, rfl⟩
        have Bm_2 := Bm_1.ext (show Ext w1 w2 from (by with_reducible (repeat (first | assumption | exact Ext.refl _ | refine Ext.alloc' ?_ _ | refine Ext.store0 ?_ _ _ | refine Ext.storek ?_ _ _ _ | refine Ext.stores0 ?_ ?_ _ _ | refine Ext.storesk ?_ ?_ _ _ _ | refine Ext.store ?_ _ _ (by first | omega | (dsimp only; omega)) | refine Ext.drewN' ?_ _ | refine Ext.drew' ?_ | refine Ext.trans ?_ (by assumption)))))
        clear Bm_1 zm cm0 cm1 cm2 dm0 dm1 dm2
        obtain ⟨cm0, cm1, cm2, dm0, dm1, dm2⟩ := cells3 Bm_2
        have zm : w.heap.size < w2.heap.size := Bm_2.lt
        go_wp2_with (fail)
        go_at_call 59
        refine (node_ no _ m p _ ((IsMem.mk rfl hw hg : IsMem no w (.agg #[.slice aw m.W.length cw, .slice ag m.G.length cg, .bool m.bad]) m).ext (by with_reducible (repeat (first | assumption | exact Ext.refl _ | refine Ext.alloc' ?_ _ | refine Ext.store0 ?_ _ _ | refine Ext.storek ?_ _ _ _ | refine Ext.stores0 ?_ ?_ _ _ | refine Ext.storesk ?_ ?_ _ _ _ | refine Ext.store ?_ _ _ (by first | omega | (dsimp only; omega)) | refine Ext.drewN' ?_ _ | refine Ext.drew' ?_ | refine Ext.trans ?_ (by assumption))))) (by omega) (by omega)).calls.mono ?_
        rintro e w3 ⟨_, rfl, hb3, rfl⟩
        rw [HN.out]
        have Bm_3 := Bm_2.ext (show Ext w2 w3 from (by with_reducible (repeat (first | assumption | exact Ext.refl _ | refine Ext.alloc' ?_ _ | refine Ext.store0 ?_ _ _ | refine Ext.storek ?_ _ _ _ | refine Ext.stores0 ?_ ?_ _ _ | refine Ext.storesk ?_ ?_ _ _ _ | refine Ext.store ?_ _ _ (by first | omega | (dsimp only; omega)) | refine Ext.drewN' ?_ _ | refine Ext.drew' ?_ | refine Ext.trans ?_ (by assumption)))))
        clear Bm_2 zm cm0 cm1 cm2 dm0 dm1 dm2
        obtain ⟨cm0, cm1, cm2, dm0, dm1, dm2⟩ := cells3 Bm_3
        have zm : w.heap.size < w3.heap.size := Bm_3.lt
        go_wp2
        go_ret
        exact ⟨_, rfl, (by with_reducible (repeat (first | assumption | exact Ext.refl _ | refine Ext.alloc' ?_ _ | refine Ext.store0 ?_ _ _ | refine Ext.storek ?_ _ _ _ | refine Ext.stores0 ?_ ?_ _ _ | refine Ext.storesk ?_ ?_ _ _ _ | refine Ext.store ?_ _ _ (by first | omega | (dsimp only; omega)) | refine Ext.drewN' ?_ _ | refine Ext.drew' ?_ | refine Ext.trans ?_ (by assumption)))), rfl⟩
      · by_cases g2 : (m.W.length : Int) ≤ p
        · go_enter Proofs.Try.func16, Proofs.Try.ntmps16
          go_wp2_with (fail)
          go_at_call 49
          refine (shown2_ _).calls.mono ?_
          rintro e w1 ⟨_, rfl, hb1, rfl⟩
          have Bm_1 : Box w1 (w.heap.size) #[.slice aw m.W.length cw, .slice ag m.G.length cg, .bool m.bad] 50 := (Box.new _ _ _).ext hb1
          obtain ⟨cm0, cm1, cm2, dm0, dm1, dm2⟩ := cells3 Bm_1
          have zm : w.heap.size < w1.heap.size := Bm_1.lt
          go_wp2_with (fail)
          go_at_call 63
          refine (km _ (by with_reducible (repeat (first | assumption | exact Ext.refl _ | refine Ext.alloc' ?_ _ | refine Ext.store0 ?_ _ _ | refine Ext.storek ?_ _ _ _ | refine Ext.stores0 ?_ ?_ _ _ | refine Ext.storesk ?_ ?_ _ _ _ | refine Ext.store ?_ _ _ (by first | omega | (dsimp only; omega)) | refine Ext.drewN' ?_ _ | refine Ext.drew' ?_ | refine Ext.trans ?_ (by assumption))))).calls.mono ?_
          rintro e w2 ⟨_, rfl, hb2, rfl⟩
          have Bm_2 := Bm_1.ext (show Ext w1 w2 from (by with_reducible (repeat (first | assumption | exact Ext.refl _ | refine Ext.alloc' ?_ _ | refine Ext.store0 ?_ _ _ | refine Ext.storek ?_ _ _ _ | refine Ext.stores0 ?_ ?_ _ _ | refine Ext.storesk ?_ ?_ _ _ _ | refine Ext.store ?_ _ _ (by first | omega | (dsimp only; omega)) | refine Ext.drewN' ?_ _ | refine Ext.drew' ?_ | refine Ext.trans ?_ (by assumption)))))
          clear Bm_1 zm cm0 cm1 cm2 dm0 dm1 dm2
          obtain ⟨cm0, cm1, cm2, dm0, dm1, dm2⟩ := cells3 Bm_2
          have zm : w.heap.size < w2.heap.size := Bm_2.lt
          go_wp2_with (fail)
          go_at_call 59
          refine (node_ no _ m p _ ((IsMem.mk rfl hw hg : IsMem no w (.agg #[.slice aw m.W.length cw, .slice ag m.G.length cg, .bool m.bad]) m).ext (by with_reducible (repeat (first | assumption | exact Ext.refl _ | refine Ext.alloc' ?_ _ | refine Ext.store0 ?_ _ _ | refine Ext.storek ?_ _ _ _ | refine Ext.stores0 ?_ ?_ _ _ | refine Ext.storesk ?_ ?_ _ _ _ | refine Ext.store ?_ _ _ (by first | omega | (dsimp only; omega)) | refine Ext.drewN' ?_ _ | refine Ext.drew' ?_ | refine Ext.trans ?_ (by assumption))))) (by omega) (by omega)).calls.mono ?_
          rintro e w3 ⟨_, rfl, hb3, rfl⟩
          rw [HN.out]
          have Bm_3 := Bm_2.ext (show Ext w2 w3 from (by with_reducible (repeat (first | assumption | exact Ext.refl _ | refine Ext.alloc' ?_ _ | refine Ext.store0 ?_ _ _ | refine Ext.storek ?_ _ _ _ | refine Ext.stores0 ?_ ?_ _ _ | refine Ext.storesk ?_ ?_ _ _ _ | refine Ext.store ?_ _ _ (by first | omega | (dsimp only; omega)) | refine Ext.drewN' ?_ _ | refine Ext.drew' ?_ | refine Ext.trans ?_ (by assumption)))))
          clear Bm_2 zm cm0 cm1 cm2 dm0 dm1 dm2
          obtain ⟨cm0, cm1, cm2, dm0, dm1, dm2⟩ := cells3 Bm_3
          have zm : w.heap.size < w3.heap.size := Bm_3.lt
          go_wp2
          go_ret
          exact ⟨_, rfl, (by with_reducible (repeat (first | assumption | exact Ext.refl _ | refine Ext.alloc' ?_ _ | refine Ext.store0 ?_ _ _ | refine Ext.storek ?_ _ _ _ | refine Ext.stores0 ?_ ?_ _ _ | refine Ext.storesk ?_ ?_ _ _ _ | refine Ext.store ?_ _ _ (by first | omega | (dsimp only; omega)) | refine Ext.drewN' ?_ _ | refine Ext.drew' ?_ | refine Ext.trans ?_ (by assumption)))), rfl⟩
        · have g3 : ((p : Int) - 128) % 4 = 0 := by omega
          have g3e : (((p : Int) - 128) % 4 == 0) = true := by simp [g3]
          have g3t : ((p : Int) - 128).tmod 4 = ((p : Int) - 128) % 4 := Int.tmod_eq_emod_of_nonneg (by omega)
          go_enter Proofs.Try.func16, Proofs.Try.ntmps16
          go_wp2_with (fail)
          go_at_call 49
          refine (shown2_ _).calls.mono ?_
          rintro e w1 ⟨_, rfl, hb1, rfl⟩
          have Bm_1 : Box w1 (w.heap.size) #[.slice aw m.W.length cw, .slice ag m.G.length cg, .bool m.bad] 50 := (Box.new _ _ _).ext hb1
          obtain ⟨cm0, cm1, cm2, dm0, dm1, dm2⟩ := cells3 Bm_1
          have zm : w.heap.size < w1.heap.size := Bm_1.lt
          go_wp2_with (fail)
          go_at_call 63
          refine (km _ (by with_reducible (repeat (first | assumption | exact Ext.refl _ | refine Ext.alloc' ?_ _ | refine Ext.store0 ?_ _ _ | refine Ext.storek ?_ _ _ _ | refine Ext.stores0 ?_ ?_ _ _ | refine Ext.storesk ?_ ?_ _ _ _ | refine Ext.store ?_ _ _ (by first | omega | (dsimp only; omega)) | refine Ext.drewN' ?_ _ | refine Ext.drew' ?_ | refine Ext.trans ?_ (by assumption))))).calls.mono ?_
          rintro e w2 ⟨_, rfl, hb2, rfl⟩
          have Bm_2 := Bm_1.ext (show Ext w1 w2 from (by with_reducible (repeat (first | assumption | exact Ext.refl _ | refine Ext.alloc' ?_ _ | refine Ext.store0 ?_ _ _ | refine Ext.storek ?_ _ _ _ | refine Ext.stores0 ?_ ?_ _ _ | refine Ext.storesk ?_ ?_ _ _ _ | refine Ext.store ?_ _ _ (by first | omega | (dsimp only; omega)) | refine Ext.drewN' ?_ _ | refine Ext.drew' ?_ | refine Ext.trans ?_ (by assumption)))))
          clear Bm_1 zm cm0 cm1 cm2 dm0 dm1 dm2
          obtain ⟨cm0, cm1, cm2, dm0, dm1, dm2⟩ := cells3 Bm_2
          have zm : w.heap.size < w2.heap.size := Bm_2.lt
          go_wp2_with (fail)
          go_at_call 59
          refine (node_ no _ m p _ ((IsMem.mk rfl hw hg : IsMem no w (.agg #[.slice aw m.W.length cw, .slice ag m.G.length cg, .bool m.bad]) m).ext (by with_reducible (repeat (first | assumption | exact Ext.refl _ | refine Ext.alloc' ?_ _ | refine Ext.store0 ?_ _ _ | refine Ext.storek ?_ _ _ _ | refine Ext.stores0 ?_ ?_ _ _ | refine Ext.storesk ?_ ?_ _ _ _ | refine Ext.store ?_ _ _ (by first | omega | (dsimp only; omega)) | refine Ext.drewN' ?_ _ | refine Ext.drew' ?_ | refine Ext.trans ?_ (by assumption))))) (by omega) (by omega)).calls.mono ?_
          rintro e w3 ⟨_, rfl, hb3, rfl⟩
          rw [HN.out]
          have Bm_3 := Bm_2.ext (show Ext w2 w3 from (by with_reducible (repeat (first | assumption | exact Ext.refl _ | refine Ext.alloc' ?_ _ | refine Ext.store0 ?_ _ _ | refine Ext.storek ?_ _ _ _ | refine Ext.stores0 ?_ ?_ _ _ | refine Ext.storesk ?_ ?_ _ _ _ | refine Ext.store ?_ _ _ (by first | omega | (dsimp only; omega)) | refine Ext.drewN' ?_ _ | refine Ext.drew' ?_ | refine Ext.trans ?_ (by assumption)))))
          clear Bm_2 zm cm0 cm1 cm2 dm0 dm1 dm2
          obtain ⟨cm0, cm1, cm2, dm0, dm1, dm2⟩ := cells3 Bm_3
          have zm : w.heap.size < w3.heap.size := Bm_3.lt
          go_wp2
          go_ret
          exact ⟨_, rfl, (by with_reducible (repeat (first | assumption | exact Ext.refl _ | refine Ext.alloc' ?_ _ | refine Ext.store0 ?_ _ _ | refine Ext.storek ?_ _ _ _ | refine Ext.stores0 ?_ ?_ _ _ | refine Ext.storesk ?_ ?_ _ _ _ | refine Ext.store ?_ _ _ (by first | omega | (dsimp only; omega)) | refine Ext.drewN' ?_ _ | refine Ext.drew' ?_ | refine Ext.trans ?_ (by assumption)))), rfl⟩
    · have HN := Lib.hid hn
      have HP := Lib.hid hpj
      clear hn hpj
      have q0 : ¬ (k : Int) < 0 := by omega
      have q1 : ¬ (m.G.length : Int) ≤ (k : Int) := by omega
      have q2 : ((k : Int) == 0) = false := by simp; omega
      go_enter Proofs.Try.func16, Proofs.Try.ntmps16
      go_wp2_with (fail)
      go_at_call 49
      refine (shown2_ _).calls.mono ?_
      rintro e w1 ⟨_, rfl, hb1, rfl⟩
      have Bm_1 : Box w1 (w.heap.size) #[.slice aw m.W.length cw, .slice ag m.G.length cg, .bool m.bad] 50 := (Box.new _ _ _).ext hb1
      obtain ⟨cm0, cm1, cm2, dm0, dm1, dm2⟩ := cells3 Bm_1
      have zm : w.heap.size < w1.heap.size := Bm_1.lt
      go_wp2_with (fail)
      go_at_call 63
      refine (km _ (by with_reducible (repeat (first | assumption | exact Ext.refl _ | refine Ext.alloc' ?_ _ | refine Ext.store0 ?_ _ _ | refine Ext.storek ?_ _ _ _ | refine Ext.stores0 ?_ ?_ _ _ | refine Ext.storesk ?_ ?_ _ _ _ | refine Ext.store ?_ _ _ (by first | omega | (dsimp only; omega)) | refine Ext.drewN' ?_ _ | refine Ext.drew' ?_ | refine Ext.trans ?_ (by assumption))))).calls.mono ?_
      rintro e w2 ⟨_, rfl, hb2, rfl⟩
      have Bm_2 := Bm_1.ext (show Ext w1 w2 from (by with_reducible (repeat (first | assumption | exact Ext.refl _ | refine Ext.alloc' ?_ _ | refine Ext.store0 ?_ _ _ | refine Ext.storek ?_ _ _ _ | refine Ext.stores0 ?_ ?_ _ _ | refine Ext.storesk ?_ ?_ _ _ _ | refine Ext.store ?_ _ _ (by first | omega | (dsimp only; omega)) | refine Ext.drewN' ?_ _ | refine Ext.drew' ?_ | refine Ext.trans ?_ (by assumption)))))
      clear Bm_1 zm cm0 cm1 cm2 dm0 dm1 dm2
      obtain ⟨cm0, cm1, cm2, dm0, dm1, dm2⟩ := cells3 Bm_2
      have zm : w.heap.size < w2.heap.size := Bm_2.lt
      go_wp2_with (fail)
      go_at_call 59
      refine (node_ no _ m p _ ((IsMem.mk rfl hw hg : IsMem no w (.agg #[.slice aw m.W.length cw, .slice ag m.G.length cg, .bool m.bad]) m).ext (by with_reducible (repeat (first | assumption | exact Ext.refl _ | refine Ext.alloc' ?_ _ | refine Ext.store0 ?_ _ _ | refine Ext.storek ?_ _ _ _ | refine Ext.stores0 ?_ ?_ _ _ | refine Ext.storesk ?_ ?_ _ _ _ | refine Ext.store ?_ _ _ (by first | omega | (dsimp only; omega)) | refine Ext.drewN' ?_ _ | refine Ext.drew' ?_ | refine Ext.trans ?_ (by assumption))))) (by omega) (by omega)).calls.mono ?_
      rintro e w3 ⟨_, rfl, hb3, rfl⟩
      rw [HN.out]
      have Bm_3 := Bm_2.ext (show Ext w2 w3 from (by with_reducible (repeat (first | assumption | exact Ext.refl _ | refine Ext.alloc' ?_ _ | refine Ext.store0 ?_ _ _ | refine Ext.storek ?_ _ _ _ | refine Ext.stores0 ?_ ?_ _ _ | refine Ext.storesk ?_ ?_ _ _ _ | refine Ext.store ?_ _ _ (by first | omega | (dsimp only; omega)) | refine Ext.drewN' ?_ _ | refine Ext.drew' ?_ | refine Ext.trans ?_ (by assumption)))))
      clear Bm_2 zm cm0 cm1 cm2 dm0 dm1 dm2
      obtain ⟨cm0, cm1, cm2, dm0, dm1, dm2⟩ := cells3 Bm_3
      have zm : w.heap.size < w3.heap.size := Bm_3.lt
      go_wp2_with (fail)
      go_at_call 57
      refine (atF_ k 0 _ (by omega) (by omega) (by omega) (by omega)).calls.mono ?_
      rintro e w4 ⟨_, rfl, hb4, rfl⟩
      obtain ⟨f, hf⟩ : ∃ f, (128 : Int) + 4 * ((k : Int) - 1) + 0 = f := ⟨_, rfl⟩
      have HF := Lib.hid hf
      rw [hf]
      have q3 : f < (p : Int) := by have := HP.out; omega
      have q4 : (p : Int) ≤ f + 3 := by have := HP.out; omega
      have q5 : -1000000 ≤ f := by omega
      have q6 : f ≤ 1000000 := by omega
      clear hf
      have Bm_4 := Bm_3.ext (show Ext w3 w4 from (by with_reducible (repeat (first | assumption | exact Ext.refl _ | refine Ext.alloc' ?_ _ | refine Ext.store0 ?_ _ _ | refine Ext.storek ?_ _ _ _ | refine Ext.stores0 ?_ ?_ _ _ | refine Ext.storesk ?_ ?_ _ _ _ | refine Ext.store ?_ _ _ (by first | omega | (dsimp only; omega)) | refine Ext.drewN' ?_ _ | refine Ext.drew' ?_ | refine Ext.trans ?_ (by assumption)))))
      clear Bm_3 zm cm0 cm1 cm2 dm0 dm1 dm2
      obtain ⟨cm0, cm1, cm2, dm0, dm1, dm2⟩ := cells3 Bm_4
      have zm : w.heap.size < w4.heap.size := Bm_4.lt
      go_wp2_with (fail)
      go_at_call 57
      refine (atF_ k ((p : Int) - f) _ (by omega) (by omega) (by omega) (by omega)).calls.mono ?_
      rintro e w5 ⟨_, rfl, hb5, rfl⟩
      have q7 : (128 : Int) + 4 * ((k : Int) - 1) + ((p : Int) - f) = p := by have := HF.out; have := HP.out; omega
      rw [q7]
      have Bm_5 := Bm_4.ext (show Ext w4 w5 from (by with_reducible (repeat (first | assumption | exact Ext.refl _ | refine Ext.alloc' ?_ _ | refine Ext.store0 ?_ _ _ | refine Ext.storek ?_ _ _ _ | refine Ext.stores0 ?_ ?_ _ _ | refine Ext.storesk ?_ ?_ _ _ _ | refine Ext.store ?_ _ _ (by first | omega | (dsimp only; omega)) | refine Ext.drewN' ?_ _ | refine Ext.drew' ?_ | refine Ext.trans ?_ (by assumption)))))
      clear Bm_4 zm cm0 cm1 cm2 dm0 dm1 dm2
      obtain ⟨cm0, cm1, cm2, dm0, dm1, dm2⟩ := cells3 Bm_5
      have zm : w.heap.size < w5.heap.size := Bm_5.lt
      go_wp2_with (fail)
      go_at_call 59
      refine (node_ no _ m f _ ((IsMem.mk rfl hw hg : IsMem no w (.agg #[.slice aw m.W.length cw, .slice ag m.G.length cg, .bool m.bad]) m).ext (by with_reducible (repeat (first | assumption | exact Ext.refl _ | refine Ext.alloc' ?_ _ | refine Ext.store0 ?_ _ _ | refine Ext.storek ?_ _ _ _ | refine Ext.stores0 ?_ ?_ _ _ | refine Ext.storesk ?_ ?_ _ _ _ | refine Ext.store ?_ _ _ (by first | omega | (dsimp only; omega)) | refine Ext.drewN' ?_ _ | refine Ext.drew' ?_ | refine Ext.trans ?_ (by assumption))))) (by omega) (by omega)).calls.mono ?_
      rintro e w6 ⟨_, rfl, hb6, rfl⟩
      rw [show nodeD m.W.length f = 0 by rw [← HF.out]; exact nodeD_link k]
      have Bm_6 := Bm_5.ext (show Ext w5 w6 from (by with_reducible (repeat (first | assumption | exact Ext.refl _ | refine Ext.alloc' ?_ _ | refine Ext.store0 ?_ _ _ | refine Ext.storek ?_ _ _ _ | refine Ext.stores0 ?_ ?_ _ _ | refine Ext.storesk ?_ ?_ _ _ _ | refine Ext.store ?_ _ _ (by first | omega | (dsimp only; omega)) | refine Ext.drewN' ?_ _ | refine Ext.drew' ?_ | refine Ext.trans ?_ (by assumption)))))
      clear Bm_5 zm cm0 cm1 cm2 dm0 dm1 dm2
      obtain ⟨cm0, cm1, cm2, dm0, dm1, dm2⟩ := cells3 Bm_6
      have zm : w.heap.size < w6.heap.size := Bm_6.lt
      go_wp2_with (fail)
      go_at_call 57
      refine (atF_ ((k : Int) + 1) 0 _ (by omega) (by omega) (by omega) (by omega)).calls.mono ?_
      rintro e w7 ⟨_, rfl, hb7, rfl⟩
      rw [show (128 : Int) + 4 * ((k : Int) + 1 - 1) + 0 = f + 4 by have := HF.out; omega]
      have Bm_7 := Bm_6.ext (show Ext w6 w7 from (by with_reducible (repeat (first | assumption | exact Ext.refl _ | refine Ext.alloc' ?_ _ | refine Ext.store0 ?_ _ _ | refine Ext.storek ?_ _ _ _ | refine Ext.stores0 ?_ ?_ _ _ | refine Ext.storesk ?_ ?_ _ _ _ | refine Ext.store ?_ _ _ (by first | omega | (dsimp only; omega)) | refine Ext.drewN' ?_ _ | refine Ext.drew' ?_ | refine Ext.trans ?_ (by assumption)))))
      clear Bm_6 zm cm0 cm1 cm2 dm0 dm1 dm2
      obtain ⟨cm0, cm1, cm2, dm0, dm1, dm2⟩ := cells3 Bm_7
      have zm : w.heap.size < w7.heap.size := Bm_7.lt
      go_wp2
      go_ret
      exact ⟨_, rfl, (by with_reducible (repeat (first | assumption | exact Ext.refl _ | refine Ext.alloc' ?_ _ | refine Ext.store0 ?_ _ _ | refine Ext.storek ?_ _ _ _ | refine Ext.stores0 ?_ ?_ _ _ | refine Ext.storesk ?_ ?_ _ _ _ | refine Ext.store ?_ _ _ (by first | omega | (dsimp only; omega)) | refine Ext.drewN' ?_ _ | refine Ext.drew' ?_ | refine Ext.trans ?_ (by assumption)))), rfl⟩
end Go.Proofs.Ytcfbdfgondmkoaa
