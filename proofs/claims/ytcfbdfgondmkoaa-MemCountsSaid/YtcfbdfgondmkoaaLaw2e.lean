/- MemCounts: its walk. -/
import Derived.Test.YtcfbdfgondmkoaaDat3
namespace Go.Proofs.Ytcfbdfgondmkoaa
open Go Go.RowKit
set_option linter.unusedSimpArgs false
set_option linter.unusedVariables false
set_option linter.unnecessarySimpa false

theorem countD_le (G : List Int) (x : Int) : countD G 1 x ≤ G.length := by
  unfold countD; exact Nat.le_trans List.count_le_length (by simp)

set_option maxHeartbeats 1000000 in
set_option maxRecDepth 100000 in
theorem memCounts_a (aw ag : Option Addr) (cw cg : Nat) (m : Arena) (x y : Int) (i : Nat) (k : Int) (w : World) (hw : IsInts no w (.slice aw m.W.length cw) m.W) (hg : IsInts no w (.slice ag m.G.length cg) m.G) (hb : false = m.bad) (hm : mayD m 60 = true)
    (hi : 1 + x % ((m.G.length : Int) - 1) = i) (hi1 : 1 ≤ i) (hi2 : i < m.G.length) (hk : y % 3 = k) (hk0 : 0 ≤ k) (hk4 : k < 3) (hx0 : 0 ≤ x) (hx1 : x ≤ 255) (hy0 : 0 ≤ y) (hy1 : y ≤ 255) (hq : turnIs m i k = true) :
    Gives Proofs.Try.prog 18 #[.agg #[.slice aw m.W.length cw, .slice ag m.G.length cg, .bool false], .int .u8 x, .int .u8 y] w (eqv (.bool true)) := by
  have km := fun (w' : World) (e : Ext w w') => memMay_ no _ m 60 (by omega) w' ((IsMem.mk hb hw hg : IsMem no w (.agg #[.slice aw m.W.length cw, .slice ag m.G.length cg, .bool false]) m).ext e)
  rw [hm] at km
  have hFit := Fits.of_may hm
  have hR := right_of_may hm
  have hl1 : 1 ≤ m.G.length := hFit.2.1
  have hl3 := hFit.2.2
  obtain ⟨_, _, e0, rg, lg, cgc⟩ := hg.opened
  cases e0
  obtain ⟨ba, oa, rfl, xa, na, ea⟩ := cgc i hi2
  have hz : ((m.G.length : Int) - 1 == 0) = false := by simp; omega
  obtain ⟨n0, hn0⟩ : ∃ n : Int, ((countD m.G 1 0 : Nat) : Int) = n := ⟨_, rfl⟩
  obtain ⟨n1, hn1⟩ : ∃ n : Int, ((countD m.G 1 1 : Nat) : Int) = n := ⟨_, rfl⟩
  obtain ⟨n2, hn2⟩ : ∃ n : Int, ((countD m.G 1 2 : Nat) : Int) = n := ⟨_, rfl⟩
  obtain ⟨nk, hnk⟩ : ∃ n : Int, ((countD m.G 1 k : Nat) : Int) = n := ⟨_, rfl⟩
  obtain ⟨ng, hng⟩ : ∃ n : Int, ((countD m.G 1 (gi m.G i) : Nat) : Int) = n := ⟨_, rfl⟩
  have hsum : n0 + n1 + n2 = (m.G.length : Int) - 1 := by rw [← hn0, ← hn1, ← hn2]; exact count_three hR
  have b0 := countD_le m.G 0
  have b1 := countD_le m.G 1
  have b2 := countD_le m.G 2
  have bk := countD_le m.G k
  have bg := countD_le m.G (gi m.G i)
  have c0 : 0 ≤ n0 ∧ n0 ≤ 201 := by omega
  have c1 : 0 ≤ n1 ∧ n1 ≤ 201 := by omega
  have c2 : 0 ≤ n2 ∧ n2 ≤ 201 := by omega
  have ck : 0 ≤ nk ∧ nk ≤ 201 := by omega
  have cg' : 0 ≤ ng ∧ ng ≤ 201 := by omega
  have h7 : ((countD m.G 1 7 : Nat) : Int) = 0 := by rw [count_none hR]; rfl
  have hbt : (turnMD m i k).bad = false := by rw [turnMD_bad, hq, ← hb]; rfl
  have hc1 : ((countD (turnMD m i k).G 1 k : Nat) : Int) = nk + 1 := by rw [← hnk]; exact (count_turn hi1 hi2 hq).1
  have hc2 : ((countD (turnMD m i k).G 1 (gi m.G i) : Nat) : Int) = ng - 1 := by rw [← hng]; exact (count_turn hi1 hi2 hq).2
  have hg1 : 1 ≤ (turnMD m i k).G.length := by rw [(turnMD_len _ _ _).2]; exact hl1
  have HB := Lib.hid hb
  obtain ⟨mt, hmt⟩ : ∃ mt, turnMD m i k = mt := ⟨_, rfl⟩
  rw [hmt] at hbt hc1 hc2 hg1
  have HT := Lib.hid hmt
  have H := Lib.hid (And.intro hn0 (And.intro hn1 (And.intro hn2 (And.intro hnk (And.intro hng (And.intro h7 (And.intro hbt (And.intro hc1 (And.intro hc2 hsum)))))))))
  clear hb hmt hn0 hn1 hn2 hnk hng h7 hbt hc1 hc2 hsum b0 b1 b2 bk bg
  go_enter Proofs.Try.func18, Proofs.Try.ntmps18
  go_wp2_with (fail)
  go_at_call 49
  refine (shown2_ _).calls.mono ?_
  rintro e w1 ⟨_, rfl, hb1, rfl⟩
  have Bm_1 : Box w1 (w.heap.size) #[.slice aw m.W.length cw, .slice (some ⟨ba, oa, none⟩) m.G.length cg, .bool false] 50 := (Box.new _ _ _).ext hb1
  obtain ⟨cm0, cm1, cm2, dm0, dm1, dm2⟩ := cells3 Bm_1
  have zm : w.heap.size < w1.heap.size := Bm_1.lt
  go_wp2_with (fail)
  go_at_call 63
  refine (km _ (by with_reducible (repeat (first | assumption | exact Ext.refl _ | refine Ext.alloc' ?_ _ | refine Ext.store0 ?_ _ _ | refine Ext.storek ?_ _ _ _ | refine Ext.stores0 ?_ ?_ _ _ | refine Ext.storesk ?_ ?_ _ _ _ | refine Ext.drewN' ?_ _ | refine Ext.drew' ?_ | refine Ext.trans ?_ (by assumption))))).calls.mono ?_
  rintro e w2 ⟨_, rfl, hb2, rfl⟩
  have Bm_2 := Bm_1.ext (show Ext w1 w2 from (by with_reducible (repeat (first | assumption | exact Ext.refl _ | refine Ext.alloc' ?_ _ | refine Ext.store0 ?_ _ _ | refine Ext.storek ?_ _ _ _ | refine Ext.stores0 ?_ ?_ _ _ | refine Ext.storesk ?_ ?_ _ _ _ | refine Ext.drewN' ?_ _ | refine Ext.drew' ?_ | refine Ext.trans ?_ (by assumption)))))
  clear Bm_1 zm cm0 cm1 cm2 dm0 dm1 dm2
  obtain ⟨cm0, cm1, cm2, dm0, dm1, dm2⟩ := cells3 Bm_2
  have zm : w.heap.size < w2.heap.size := Bm_2.lt
  go_wp2_with (fail)
  go_at_call 61
  refine (count_ no _ m 0 _ ((IsMem.mk HB.out hw hg : IsMem no w (.agg #[.slice aw m.W.length cw, .slice (some ⟨ba, oa, none⟩) m.G.length cg, .bool false]) m).ext (by with_reducible (repeat (first | assumption | exact Ext.refl _ | refine Ext.alloc' ?_ _ | refine Ext.store0 ?_ _ _ | refine Ext.storek ?_ _ _ _ | refine Ext.stores0 ?_ ?_ _ _ | refine Ext.storesk ?_ ?_ _ _ _ | refine Ext.drewN' ?_ _ | refine Ext.drew' ?_ | refine Ext.trans ?_ (by assumption))))) hl1).calls.mono ?_
  rintro e w3 ⟨_, rfl, hb3, rfl⟩
  rw [H.out.1]
  have Bm_3 := Bm_2.ext (show Ext w2 w3 from (by with_reducible (repeat (first | assumption | exact Ext.refl _ | refine Ext.alloc' ?_ _ | refine Ext.store0 ?_ _ _ | refine Ext.storek ?_ _ _ _ | refine Ext.stores0 ?_ ?_ _ _ | refine Ext.storesk ?_ ?_ _ _ _ | refine Ext.drewN' ?_ _ | refine Ext.drew' ?_ | refine Ext.trans ?_ (by assumption)))))
  clear Bm_2 zm cm0 cm1 cm2 dm0 dm1 dm2
  obtain ⟨cm0, cm1, cm2, dm0, dm1, dm2⟩ := cells3 Bm_3
  have zm : w.heap.size < w3.heap.size := Bm_3.lt
  go_wp2_with (fail)
  go_at_call 61
  refine (count_ no _ m 1 _ ((IsMem.mk HB.out hw hg : IsMem no w (.agg #[.slice aw m.W.length cw, .slice (some ⟨ba, oa, none⟩) m.G.length cg, .bool false]) m).ext (by with_reducible (repeat (first | assumption | exact Ext.refl _ | refine Ext.alloc' ?_ _ | refine Ext.store0 ?_ _ _ | refine Ext.storek ?_ _ _ _ | refine Ext.stores0 ?_ ?_ _ _ | refine Ext.storesk ?_ ?_ _ _ _ | refine Ext.drewN' ?_ _ | refine Ext.drew' ?_ | refine Ext.trans ?_ (by assumption))))) hl1).calls.mono ?_
  rintro e w4 ⟨_, rfl, hb4, rfl⟩
  rw [H.out.2.1]
  have Bm_4 := Bm_3.ext (show Ext w3 w4 from (by with_reducible (repeat (first | assumption | exact Ext.refl _ | refine Ext.alloc' ?_ _ | refine Ext.store0 ?_ _ _ | refine Ext.storek ?_ _ _ _ | refine Ext.stores0 ?_ ?_ _ _ | refine Ext.storesk ?_ ?_ _ _ _ | refine Ext.drewN' ?_ _ | refine Ext.drew' ?_ | refine Ext.trans ?_ (by assumption)))))
  clear Bm_3 zm cm0 cm1 cm2 dm0 dm1 dm2
  obtain ⟨cm0, cm1, cm2, dm0, dm1, dm2⟩ := cells3 Bm_4
  have zm : w.heap.size < w4.heap.size := Bm_4.lt
  go_wp2_with (fail)
  go_at_call 61
  refine (count_ no _ m 2 _ ((IsMem.mk HB.out hw hg : IsMem no w (.agg #[.slice aw m.W.length cw, .slice (some ⟨ba, oa, none⟩) m.G.length cg, .bool false]) m).ext (by with_reducible (repeat (first | assumption | exact Ext.refl _ | refine Ext.alloc' ?_ _ | refine Ext.store0 ?_ _ _ | refine Ext.storek ?_ _ _ _ | refine Ext.stores0 ?_ ?_ _ _ | refine Ext.storesk ?_ ?_ _ _ _ | refine Ext.drewN' ?_ _ | refine Ext.drew' ?_ | refine Ext.trans ?_ (by assumption))))) hl1).calls.mono ?_
  rintro e w5 ⟨_, rfl, hb5, rfl⟩
  rw [H.out.2.2.1]
  have Bm_5 := Bm_4.ext (show Ext w4 w5 from (by with_reducible (repeat (first | assumption | exact Ext.refl _ | refine Ext.alloc' ?_ _ | refine Ext.store0 ?_ _ _ | refine Ext.storek ?_ _ _ _ | refine Ext.stores0 ?_ ?_ _ _ | refine Ext.storesk ?_ ?_ _ _ _ | refine Ext.drewN' ?_ _ | refine Ext.drew' ?_ | refine Ext.trans ?_ (by assumption)))))
  clear Bm_4 zm cm0 cm1 cm2 dm0 dm1 dm2
  obtain ⟨cm0, cm1, cm2, dm0, dm1, dm2⟩ := cells3 Bm_5
  have zm : w.heap.size < w5.heap.size := Bm_5.lt
  have ea2 := cell_ext ea (show Ext w w5 from (by with_reducible (repeat (first | assumption | exact Ext.refl _ | refine Ext.alloc' ?_ _ | refine Ext.store0 ?_ _ _ | refine Ext.storek ?_ _ _ _ | refine Ext.stores0 ?_ ?_ _ _ | refine Ext.storesk ?_ ?_ _ _ _ | refine Ext.drewN' ?_ _ | refine Ext.drew' ?_ | refine Ext.trans ?_ (by assumption)))))
  have zg : ba < w5.heap.size := World.block_lt_of_cell? _ _ ea2
  go_wp2_with (fail)
  go_at_call 70
  refine (memTurn_ no _ m i k _ ((IsMem.mk HB.out hw hg : IsMem no w (.agg #[.slice aw m.W.length cw, .slice (some ⟨ba, oa, none⟩) m.G.length cg, .bool false]) m).ext (by with_reducible (repeat (first | assumption | exact Ext.refl _ | refine Ext.alloc' ?_ _ | refine Ext.store0 ?_ _ _ | refine Ext.storek ?_ _ _ _ | refine Ext.stores0 ?_ ?_ _ _ | refine Ext.storesk ?_ ?_ _ _ _ | refine Ext.drewN' ?_ _ | refine Ext.drew' ?_ | refine Ext.trans ?_ (by assumption))))) hFit no_lt).calls.mono ?_
  rintro e w6 ⟨_, rfl, hb6, hut⟩
  rw [HT.out] at hut
  obtain ⟨t1, t2, t3, t4, rfl, wt, gt⟩ := hut.lit rfl rfl (show mt.bad = false from H.out.2.2.2.2.2.2.1)
  have Bm_6 := Bm_5.ext (show Ext w5 w6 from (by with_reducible (repeat (first | assumption | exact Ext.refl _ | refine Ext.alloc' ?_ _ | refine Ext.store0 ?_ _ _ | refine Ext.storek ?_ _ _ _ | refine Ext.stores0 ?_ ?_ _ _ | refine Ext.storesk ?_ ?_ _ _ _ | refine Ext.drewN' ?_ _ | refine Ext.drew' ?_ | refine Ext.trans ?_ (by assumption)))))
  clear Bm_5 zm cm0 cm1 cm2 dm0 dm1 dm2
  obtain ⟨cm0, cm1, cm2, dm0, dm1, dm2⟩ := cells3 Bm_6
  have zm : w.heap.size < w6.heap.size := Bm_6.lt
  go_wp2_with (fail)
  have hEk : Ext w w6 := (by with_reducible (repeat (first | assumption | exact Ext.refl _ | refine Ext.alloc' ?_ _ | refine Ext.store0 ?_ _ _ | refine Ext.storek ?_ _ _ _ | refine Ext.stores0 ?_ ?_ _ _ | refine Ext.storesk ?_ ?_ _ _ _ | refine Ext.drewN' ?_ _ | refine Ext.drew' ?_ | refine Ext.trans ?_ (by assumption))))
  have eak := cell_ext ea hEk
  have eak1 : w6.cell? ⟨ba, oa + (i : Int).toNat * 1, none⟩ = some (.int .i64 (gi m.G i)) := by simpa using eak
  obtain ⟨W, hW⟩ : ∃ W, W = w6.alloc (.cells #[.slice t1 mt.W.length t2, .slice t3 mt.G.length t4, .bool false] 50 (0, 0)) := ⟨_, rfl⟩
  have hEW : Ext w W := by rw [hW]; exact (by with_reducible (repeat (first | assumption | exact Ext.refl _ | refine Ext.alloc' ?_ _ | refine Ext.store0 ?_ _ _ | refine Ext.storek ?_ _ _ _ | refine Ext.stores0 ?_ ?_ _ _ | refine Ext.storesk ?_ ?_ _ _ _ | refine Ext.drewN' ?_ _ | refine Ext.drew' ?_ | refine Ext.trans ?_ (by assumption))))
  have hEt : Ext w6 W := by rw [hW]; exact (by with_reducible (repeat (first | assumption | exact Ext.refl _ | refine Ext.alloc' ?_ _ | refine Ext.store0 ?_ _ _ | refine Ext.storek ?_ _ _ _ | refine Ext.stores0 ?_ ?_ _ _ | refine Ext.storesk ?_ ?_ _ _ _ | refine Ext.drewN' ?_ _ | refine Ext.drew' ?_ | refine Ext.trans ?_ (by assumption))))
  have eaw : W.cell? ⟨ba, oa + (i : Int).toNat * 1, none⟩ = some (.int .i64 (gi m.G i)) := by rw [hW]; exact cell_ext eak1 (Ext.alloc _ _)
  have Dm := Bm_6.alloc (.cells #[.slice t1 mt.W.length t2, .slice t3 mt.G.length t4, .bool false] 50 (0, 0))
  have Dt := Box.new w6 #[.slice t1 mt.W.length t2, .slice t3 mt.G.length t4, .bool false] 50
  rw [← hW] at Dm Dt
  rw [← hW]
  clear hW
  apply region_lit2 (T := []) (L := []) (X := []) (G := [eqv _, eqv _, eqv _, eqv _, eqv _, eqv _, eqv _, eqv _, eqv _, eqv _, eqv _, eqv (.bool true), eqv _, eqv _, eqv _, eqv _, eqv (.int .i64 (nk + 1)), eqv _, eqv _, eqv (.int .i64 nk), eqv _, eqv (.bool true), eqv _, eqv _, eqv _, eqv _, eqv _, eqv _, eqv _, eqv _, eqv (.int .i64 (ng - 1)), eqv _, eqv _, eqv _, eqv _, eqv _, eqv _, eqv (.int .i64 ng), eqv _, eqv (.bool true), eqv _, eqv _, eqv _, eqv (.int .i64 0), eqv (.bool true), eqv _, eqv _])
  case hm => kernel_rfl
  case hop =>
    refine ⟨?_, ?_, ?_, ?_, ?_, ?_, ?_, ?_, ?_, ?_, ?_, ?_, ?_, ?_, ?_, ?_, ?_, ?_, ?_, ?_, ?_, ?_, ?_, ?_, ?_, ?_, ?_, ?_, ?_, ?_, ?_, ?_, ?_, ?_, ?_, ?_, ?_, ?_, ?_, ?_, ?_, ?_, ?_, ?_, ?_, ?_, ?_, trivial⟩
    · intro a wa hs hf hd
      have t7 := hf.off 7 (by kernel_rfl) rfl
      exact plain_ rfl (yes_eqv (o_move rfl t7) rfl)
    · intro a wa hs hf hd
      have t68 : a.eval (.tmp 68) = _ := hd.at 0 68 (by kernel_rfl)
      exact plain_ rfl (yes_eqv (o_move rfl t68) rfl)
    · intro a wa hs hf hd
      have t69 : a.eval (.tmp 69) = _ := hd.at 1 69 (by kernel_rfl)
      have t8 := hf.off 8 (by kernel_rfl) rfl
      exact guard_on rfl rfl t69 (yes_eqv (o_move rfl t8) rfl)
    · intro a wa hs hf hd
      have t69 : a.eval (.tmp 69) = _ := hd.at 1 69 (by kernel_rfl)
      have t9 := hf.off 9 (by kernel_rfl) rfl
      exact guard_on rfl rfl t69 (yes_eqv (o_move rfl t9) rfl)
    · intro a wa hs hf hd
      have t69 : a.eval (.tmp 69) = _ := hd.at 1 69 (by kernel_rfl)
      have t70 : a.eval (.tmp 70) = _ := hd.at 2 70 (by kernel_rfl)
      have t71 : a.eval (.tmp 71) = _ := hd.at 3 71 (by kernel_rfl)
      exact guard_on rfl rfl t69 (yes_eqv (o_add rfl t70 t71 rfl) rfl)
    · intro a wa hs hf hd
      have t69 : a.eval (.tmp 69) = _ := hd.at 1 69 (by kernel_rfl)
      have t10 := hf.off 10 (by kernel_rfl) rfl
      exact guard_on rfl rfl t69 (yes_eqv (o_move rfl t10) rfl)
    · intro a wa hs hf hd
      have t69 : a.eval (.tmp 69) = _ := hd.at 1 69 (by kernel_rfl)
      have t72 : a.eval (.tmp 72) = _ := hd.at 4 72 (by kernel_rfl)
      have t73 : a.eval (.tmp 73) = _ := hd.at 5 73 (by kernel_rfl)
      exact guard_on rfl rfl t69 (yes_eqv (o_add rfl t72 t73 rfl) rfl)
    · intro a wa hs hf hd
      have t69 : a.eval (.tmp 69) = _ := hd.at 1 69 (by kernel_rfl)
      have t3 := hf.off 3 (by kernel_rfl) rfl
      exact guard_on rfl rfl t69 (yes_eqv (o_fieldAddr rfl Proofs.Try.underlying50 rfl rfl (by kernel_rfl) t3) rfl)
    · intro a wa hs hf hd
      have t69 : a.eval (.tmp 69) = _ := hd.at 1 69 (by kernel_rfl)
      have t75 : a.eval (.tmp 75) = _ := hd.at 7 75 (by kernel_rfl)
      exact guard_on rfl rfl t69 (yes_eqv (o_load1 rfl Proofs.Try.underlying48 rfl t75 ((Dm.since hs rfl).cell rfl)) rfl)
    · intro a wa hs hf hd
      have t69 : a.eval (.tmp 69) = _ := hd.at 1 69 (by kernel_rfl)
      have t76 : a.eval (.tmp 76) = _ := hd.at 8 76 (by kernel_rfl)
      exact guard_on rfl rfl t69 (yes_eqv (o_len rfl Proofs.Try.underlying48 t76) rfl)
    · intro a wa hs hf hd
      have t69 : a.eval (.tmp 69) = _ := hd.at 1 69 (by kernel_rfl)
      have t77 : a.eval (.tmp 77) = _ := hd.at 9 77 (by kernel_rfl)
      exact guard_on rfl rfl t69 (yes_eqv (o_sub rfl t77 rfl rfl) rfl)
    · intro a wa hs hf hd
      have t69 : a.eval (.tmp 69) = _ := hd.at 1 69 (by kernel_rfl)
      have t74 : a.eval (.tmp 74) = _ := hd.at 6 74 (by kernel_rfl)
      have t78 : a.eval (.tmp 78) = _ := hd.at 10 78 (by kernel_rfl)
      exact guard_on rfl rfl t69 (yes_eqv (o_eql rfl t74 t78 (by have := H.out.2.2.2.2.2.2.2.2.2; simp only [IntKind.wrap_i64]; simp; omega)) rfl)
    · intro a wa hs hf hd
      have t69 : a.eval (.tmp 69) = _ := hd.at 1 69 (by kernel_rfl)
      have t79 : a.eval (.tmp 79) = _ := hd.at 11 79 (by kernel_rfl)
      exact plain_ rfl (yes_eqv (o_pick_t rfl t69 t79) rfl)
    · intro a wa hs hf hd
      have t80 : a.eval (.tmp 80) = _ := hd.at 12 80 (by kernel_rfl)
      exact plain_ rfl (yes_eqv (o_move rfl t80) rfl)
    · intro a wa hs hf hd
      have t81 : a.eval (.tmp 81) = _ := hd.at 13 81 (by kernel_rfl)
      have t13 := hf.off 13 (by kernel_rfl) rfl
      exact guard_on rfl rfl t81 (yes_eqv (o_load3 rfl Proofs.Try.underlying50 rfl (by kernel_rfl) t13 ((Dt.since hs rfl).cell rfl) ((Dt.since hs rfl).cell rfl) ((Dt.since hs rfl).cell rfl)) rfl)
    · intro a wa hs hf hd
      have t81 : a.eval (.tmp 81) = _ := hd.at 13 81 (by kernel_rfl)
      have t12 := hf.off 12 (by kernel_rfl) rfl
      exact guard_on rfl rfl t81 (yes_eqv (o_move rfl t12) rfl)
    · intro a wa hs hf hd
      have t81 : a.eval (.tmp 81) = _ := hd.at 13 81 (by kernel_rfl)
      have t82 : a.eval (.tmp 82) = _ := hd.at 14 82 (by kernel_rfl)
      have t83 : a.eval (.tmp 83) = _ := hd.at 15 83 (by kernel_rfl)
      exact guard_on rfl rfl t81 (yes_gives (show Gives Proofs.Try.prog 61 #[.agg #[.slice t1 mt.W.length t2, .slice t3 mt.G.length t4, .bool false], .int .i64 k] _ (eqv (.int .i64 (nk + 1))) by rw [← H.out.2.2.2.2.2.2.2.1]; exact count_ no _ mt k _ ((IsMem.mk H.out.2.2.2.2.2.2.1.symm wt gt : IsMem no w6 (.agg #[.slice t1 mt.W.length t2, .slice t3 mt.G.length t4, .bool false]) mt).ext (hEt.trans (Since.to_ext hs))) hg1) rfl rfl Proofs.Try.func61 (by kernel_rfl) (by kernel_rfl) (by simp only [List.map_toArray, List.map_cons, List.map_nil, t82, t83]) rfl)
    · intro a wa hs hf hd
      have t81 : a.eval (.tmp 81) = _ := hd.at 13 81 (by kernel_rfl)
      have t3 := hf.off 3 (by kernel_rfl) rfl
      exact guard_on rfl rfl t81 (yes_eqv (o_load3 rfl Proofs.Try.underlying50 rfl (by kernel_rfl) t3 ((Dm.since hs rfl).cell rfl) ((Dm.since hs rfl).cell rfl) ((Dm.since hs rfl).cell rfl)) rfl)
    · intro a wa hs hf hd
      have t81 : a.eval (.tmp 81) = _ := hd.at 13 81 (by kernel_rfl)
      have t12 := hf.off 12 (by kernel_rfl) rfl
      exact guard_on rfl rfl t81 (yes_eqv (o_move rfl t12) rfl)
    · intro a wa hs hf hd
      have t81 : a.eval (.tmp 81) = _ := hd.at 13 81 (by kernel_rfl)
      have t85 : a.eval (.tmp 85) = _ := hd.at 17 85 (by kernel_rfl)
      have t86 : a.eval (.tmp 86) = _ := hd.at 18 86 (by kernel_rfl)
      exact guard_on rfl rfl t81 (yes_gives (show Gives Proofs.Try.prog 61 #[.agg #[.slice aw m.W.length cw, .slice (some ⟨ba, oa, none⟩) m.G.length cg, .bool false], .int .i64 k] _ (eqv (.int .i64 nk)) by rw [← H.out.2.2.2.1]; exact count_ no _ m k _ ((IsMem.mk HB.out hw hg : IsMem no w (.agg #[.slice aw m.W.length cw, .slice (some ⟨ba, oa, none⟩) m.G.length cg, .bool false]) m).ext (hEW.trans (Since.to_ext hs))) hl1) rfl rfl Proofs.Try.func61 (by kernel_rfl) (by kernel_rfl) (by simp only [List.map_toArray, List.map_cons, List.map_nil, t85, t86]) rfl)
    · intro a wa hs hf hd
      have t81 : a.eval (.tmp 81) = _ := hd.at 13 81 (by kernel_rfl)
      have t87 : a.eval (.tmp 87) = _ := hd.at 19 87 (by kernel_rfl)
      exact guard_on rfl rfl t81 (yes_eqv (o_add rfl t87 rfl rfl) rfl)
    · intro a wa hs hf hd
      have t81 : a.eval (.tmp 81) = _ := hd.at 13 81 (by kernel_rfl)
      have t84 : a.eval (.tmp 84) = _ := hd.at 16 84 (by kernel_rfl)
      have t88 : a.eval (.tmp 88) = _ := hd.at 20 88 (by kernel_rfl)
      exact guard_on rfl rfl t81 (yes_eqv (o_eql rfl t84 t88 (by simp only [IntKind.wrap_i64]; simp; omega)) rfl)
    · intro a wa hs hf hd
      have t81 : a.eval (.tmp 81) = _ := hd.at 13 81 (by kernel_rfl)
      have t89 : a.eval (.tmp 89) = _ := hd.at 21 89 (by kernel_rfl)
      exact plain_ rfl (yes_eqv (o_pick_t rfl t81 t89) rfl)
    · intro a wa hs hf hd
      have t90 : a.eval (.tmp 90) = _ := hd.at 22 90 (by kernel_rfl)
      exact plain_ rfl (yes_eqv (o_move rfl t90) rfl)
    · intro a wa hs hf hd
      have t91 : a.eval (.tmp 91) = _ := hd.at 23 91 (by kernel_rfl)
      have t13 := hf.off 13 (by kernel_rfl) rfl
      exact guard_on rfl rfl t91 (yes_eqv (o_load3 rfl Proofs.Try.underlying50 rfl (by kernel_rfl) t13 ((Dt.since hs rfl).cell rfl) ((Dt.since hs rfl).cell rfl) ((Dt.since hs rfl).cell rfl)) rfl)
    · intro a wa hs hf hd
      have t91 : a.eval (.tmp 91) = _ := hd.at 23 91 (by kernel_rfl)
      have t3 := hf.off 3 (by kernel_rfl) rfl
      exact guard_on rfl rfl t91 (yes_eqv (o_fieldAddr rfl Proofs.Try.underlying50 rfl rfl (by kernel_rfl) t3) rfl)
    · intro a wa hs hf hd
      have t91 : a.eval (.tmp 91) = _ := hd.at 23 91 (by kernel_rfl)
      have t93 : a.eval (.tmp 93) = _ := hd.at 25 93 (by kernel_rfl)
      exact guard_on rfl rfl t91 (yes_eqv (o_load1 rfl Proofs.Try.underlying48 rfl t93 ((Dm.since hs rfl).cell rfl)) rfl)
    · intro a wa hs hf hd
      have t91 : a.eval (.tmp 91) = _ := hd.at 23 91 (by kernel_rfl)
      have t11 := hf.off 11 (by kernel_rfl) rfl
      exact guard_on rfl rfl t91 (yes_eqv (o_move rfl t11) rfl)
    · intro a wa hs hf hd
      have t91 : a.eval (.tmp 91) = _ := hd.at 23 91 (by kernel_rfl)
      have t94 : a.eval (.tmp 94) = _ := hd.at 26 94 (by kernel_rfl)
      have t95 : a.eval (.tmp 95) = _ := hd.at 27 95 (by kernel_rfl)
      exact guard_on rfl rfl t91 (yes_eqv (o_indexAddr (sz := 1) rfl Proofs.Try.underlying48 (by kernel_rfl) t94 t95 (by omega) (by omega)) rfl)
    · intro a wa hs hf hd
      have t91 : a.eval (.tmp 91) = _ := hd.at 23 91 (by kernel_rfl)
      have t96 : a.eval (.tmp 96) = _ := hd.at 28 96 (by kernel_rfl)
      exact guard_on rfl rfl t91 (yes_eqv (o_load1 rfl Proofs.Try.underlying3 rfl t96 (cell_since eaw hs rfl)) rfl)
    · intro a wa hs hf hd
      have t91 : a.eval (.tmp 91) = _ := hd.at 23 91 (by kernel_rfl)
      have t92 : a.eval (.tmp 92) = _ := hd.at 24 92 (by kernel_rfl)
      have t97 : a.eval (.tmp 97) = _ := hd.at 29 97 (by kernel_rfl)
      exact guard_on rfl rfl t91 (yes_gives (show Gives Proofs.Try.prog 61 #[.agg #[.slice t1 mt.W.length t2, .slice t3 mt.G.length t4, .bool false], .int .i64 (gi m.G i)] _ (eqv (.int .i64 (ng - 1))) by rw [← H.out.2.2.2.2.2.2.2.2.1]; exact count_ no _ mt (gi m.G i) _ ((IsMem.mk H.out.2.2.2.2.2.2.1.symm wt gt : IsMem no w6 (.agg #[.slice t1 mt.W.length t2, .slice t3 mt.G.length t4, .bool false]) mt).ext (hEt.trans (Since.to_ext hs))) hg1) rfl rfl Proofs.Try.func61 (by kernel_rfl) (by kernel_rfl) (by simp only [List.map_toArray, List.map_cons, List.map_nil, t92, t97]) rfl)
    · intro a wa hs hf hd
      have t91 : a.eval (.tmp 91) = _ := hd.at 23 91 (by kernel_rfl)
      have t3 := hf.off 3 (by kernel_rfl) rfl
      exact guard_on rfl rfl t91 (yes_eqv (o_load3 rfl Proofs.Try.underlying50 rfl (by kernel_rfl) t3 ((Dm.since hs rfl).cell rfl) ((Dm.since hs rfl).cell rfl) ((Dm.since hs rfl).cell rfl)) rfl)
    · intro a wa hs hf hd
      have t91 : a.eval (.tmp 91) = _ := hd.at 23 91 (by kernel_rfl)
      have t3 := hf.off 3 (by kernel_rfl) rfl
      exact guard_on rfl rfl t91 (yes_eqv (o_fieldAddr rfl Proofs.Try.underlying50 rfl rfl (by kernel_rfl) t3) rfl)
    · intro a wa hs hf hd
      have t91 : a.eval (.tmp 91) = _ := hd.at 23 91 (by kernel_rfl)
      have t100 : a.eval (.tmp 100) = _ := hd.at 32 100 (by kernel_rfl)
      exact guard_on rfl rfl t91 (yes_eqv (o_load1 rfl Proofs.Try.underlying48 rfl t100 ((Dm.since hs rfl).cell rfl)) rfl)
    · intro a wa hs hf hd
      have t91 : a.eval (.tmp 91) = _ := hd.at 23 91 (by kernel_rfl)
      have t11 := hf.off 11 (by kernel_rfl) rfl
      exact guard_on rfl rfl t91 (yes_eqv (o_move rfl t11) rfl)
    · intro a wa hs hf hd
      have t91 : a.eval (.tmp 91) = _ := hd.at 23 91 (by kernel_rfl)
      have t101 : a.eval (.tmp 101) = _ := hd.at 33 101 (by kernel_rfl)
      have t102 : a.eval (.tmp 102) = _ := hd.at 34 102 (by kernel_rfl)
      exact guard_on rfl rfl t91 (yes_eqv (o_indexAddr (sz := 1) rfl Proofs.Try.underlying48 (by kernel_rfl) t101 t102 (by omega) (by omega)) rfl)
    · intro a wa hs hf hd
      have t91 : a.eval (.tmp 91) = _ := hd.at 23 91 (by kernel_rfl)
      have t103 : a.eval (.tmp 103) = _ := hd.at 35 103 (by kernel_rfl)
      exact guard_on rfl rfl t91 (yes_eqv (o_load1 rfl Proofs.Try.underlying3 rfl t103 (cell_since eaw hs rfl)) rfl)
    · intro a wa hs hf hd
      have t91 : a.eval (.tmp 91) = _ := hd.at 23 91 (by kernel_rfl)
      have t99 : a.eval (.tmp 99) = _ := hd.at 31 99 (by kernel_rfl)
      have t104 : a.eval (.tmp 104) = _ := hd.at 36 104 (by kernel_rfl)
      exact guard_on rfl rfl t91 (yes_gives (show Gives Proofs.Try.prog 61 #[.agg #[.slice aw m.W.length cw, .slice (some ⟨ba, oa, none⟩) m.G.length cg, .bool false], .int .i64 (gi m.G i)] _ (eqv (.int .i64 ng)) by rw [← H.out.2.2.2.2.1]; exact count_ no _ m (gi m.G i) _ ((IsMem.mk HB.out hw hg : IsMem no w (.agg #[.slice aw m.W.length cw, .slice (some ⟨ba, oa, none⟩) m.G.length cg, .bool false]) m).ext (hEW.trans (Since.to_ext hs))) hl1) rfl rfl Proofs.Try.func61 (by kernel_rfl) (by kernel_rfl) (by simp only [List.map_toArray, List.map_cons, List.map_nil, t99, t104]) rfl)
    · intro a wa hs hf hd
      have t91 : a.eval (.tmp 91) = _ := hd.at 23 91 (by kernel_rfl)
      have t105 : a.eval (.tmp 105) = _ := hd.at 37 105 (by kernel_rfl)
      exact guard_on rfl rfl t91 (yes_eqv (o_sub rfl t105 rfl rfl) rfl)
    · intro a wa hs hf hd
      have t91 : a.eval (.tmp 91) = _ := hd.at 23 91 (by kernel_rfl)
      have t98 : a.eval (.tmp 98) = _ := hd.at 30 98 (by kernel_rfl)
      have t106 : a.eval (.tmp 106) = _ := hd.at 38 106 (by kernel_rfl)
      exact guard_on rfl rfl t91 (yes_eqv (o_eql rfl t98 t106 (by simp only [IntKind.wrap_i64]; simp; omega)) rfl)
    · intro a wa hs hf hd
      have t91 : a.eval (.tmp 91) = _ := hd.at 23 91 (by kernel_rfl)
      have t107 : a.eval (.tmp 107) = _ := hd.at 39 107 (by kernel_rfl)
      exact plain_ rfl (yes_eqv (o_pick_t rfl t91 t107) rfl)
    · intro a wa hs hf hd
      have t108 : a.eval (.tmp 108) = _ := hd.at 40 108 (by kernel_rfl)
      exact plain_ rfl (yes_eqv (o_move rfl t108) rfl)
    · intro a wa hs hf hd
      have t109 : a.eval (.tmp 109) = _ := hd.at 41 109 (by kernel_rfl)
      have t3 := hf.off 3 (by kernel_rfl) rfl
      exact guard_on rfl rfl t109 (yes_eqv (o_load3 rfl Proofs.Try.underlying50 rfl (by kernel_rfl) t3 ((Dm.since hs rfl).cell rfl) ((Dm.since hs rfl).cell rfl) ((Dm.since hs rfl).cell rfl)) rfl)
    · intro a wa hs hf hd
      have t109 : a.eval (.tmp 109) = _ := hd.at 41 109 (by kernel_rfl)
      have t110 : a.eval (.tmp 110) = _ := hd.at 42 110 (by kernel_rfl)
      exact guard_on rfl rfl t109 (yes_gives (show Gives Proofs.Try.prog 61 #[.agg #[.slice aw m.W.length cw, .slice (some ⟨ba, oa, none⟩) m.G.length cg, .bool false], .int .i64 7] _ (eqv (.int .i64 0)) by rw [← H.out.2.2.2.2.2.1]; exact count_ no _ m 7 _ ((IsMem.mk HB.out hw hg : IsMem no w (.agg #[.slice aw m.W.length cw, .slice (some ⟨ba, oa, none⟩) m.G.length cg, .bool false]) m).ext (hEW.trans (Since.to_ext hs))) hl1) rfl rfl Proofs.Try.func61 (by kernel_rfl) (by kernel_rfl) (by simp only [List.map_toArray, List.map_cons, List.map_nil, eval_const, t110]) rfl)
    · intro a wa hs hf hd
      have t109 : a.eval (.tmp 109) = _ := hd.at 41 109 (by kernel_rfl)
      have t111 : a.eval (.tmp 111) = _ := hd.at 43 111 (by kernel_rfl)
      exact guard_on rfl rfl t109 (yes_eqv (o_eql rfl t111 rfl rfl) rfl)
    · intro a wa hs hf hd
      have t109 : a.eval (.tmp 109) = _ := hd.at 41 109 (by kernel_rfl)
      have t112 : a.eval (.tmp 112) = _ := hd.at 44 112 (by kernel_rfl)
      exact plain_ rfl (yes_eqv (o_pick_t rfl t109 t112) rfl)
    · intro a wa hs hf hd
      have t113 : a.eval (.tmp 113) = _ := hd.at 45 113 (by kernel_rfl)
      exact plain_ rfl (yes_eqv (o_assign rfl t113) rfl)
  case hG => exact ⟨stable_eqv _, stable_eqv _, stable_eqv _, stable_eqv _, stable_eqv _, stable_eqv _, stable_eqv _, stable_eqv _, stable_eqv _, stable_eqv _, stable_eqv _, stable_eqv _, stable_eqv _, stable_eqv _, stable_eqv _, stable_eqv _, stable_eqv _, stable_eqv _, stable_eqv _, stable_eqv _, stable_eqv _, stable_eqv _, stable_eqv _, stable_eqv _, stable_eqv _, stable_eqv _, stable_eqv _, stable_eqv _, stable_eqv _, stable_eqv _, stable_eqv _, stable_eqv _, stable_eqv _, stable_eqv _, stable_eqv _, stable_eqv _, stable_eqv _, stable_eqv _, stable_eqv _, stable_eqv _, stable_eqv _, stable_eqv _, stable_eqv _, stable_eqv _, stable_eqv _, stable_eqv _, stable_eqv _, trivial⟩
  case hc => kernel_rfl
  case hfin =>
    intro v2 hs2
    rintro _ rfl _ rfl _ rfl _ rfl _ rfl _ rfl _ rfl _ rfl _ rfl _ rfl _ rfl _ rfl _ rfl _ rfl _ rfl _ rfl _ rfl _ rfl _ rfl _ rfl _ rfl _ rfl _ rfl _ rfl _ rfl _ rfl _ rfl _ rfl _ rfl _ rfl _ rfl _ rfl _ rfl _ rfl _ rfl _ rfl _ rfl _ rfl _ rfl _ rfl _ rfl _ rfl _ rfl _ rfl _ rfl _ rfl _ rfl
    rintro _ rfl
    simp only [Act.put, List.setIfInBounds_toArray, List.set_cons_zero, List.set_cons_succ]
    go_wp2
    go_ret
    exact ⟨_, rfl, hEW.trans (Since.to_ext hs2), rfl⟩
set_option maxHeartbeats 1000000 in
set_option maxRecDepth 100000 in
theorem memCounts_b (aw ag : Option Addr) (cw cg : Nat) (m : Arena) (x y : Int) (i : Nat) (k : Int) (w : World) (hw : IsInts no w (.slice aw m.W.length cw) m.W) (hg : IsInts no w (.slice ag m.G.length cg) m.G) (hb : false = m.bad) (hm : mayD m 60 = true)
    (hi : 1 + x % ((m.G.length : Int) - 1) = i) (hi1 : 1 ≤ i) (hi2 : i < m.G.length) (hk : y % 3 = k) (hk0 : 0 ≤ k) (hk4 : k < 3) (hx0 : 0 ≤ x) (hx1 : x ≤ 255) (hy0 : 0 ≤ y) (hy1 : y ≤ 255) (hq : turnIs m i k = false) :
    Gives Proofs.Try.prog 18 #[.agg #[.slice aw m.W.length cw, .slice ag m.G.length cg, .bool false], .int .u8 x, .int .u8 y] w (eqv (.bool true)) := by
  have km := fun (w' : World) (e : Ext w w') => memMay_ no _ m 60 (by omega) w' ((IsMem.mk hb hw hg : IsMem no w (.agg #[.slice aw m.W.length cw, .slice ag m.G.length cg, .bool false]) m).ext e)
  rw [hm] at km
  have hFit := Fits.of_may hm
  have hR := right_of_may hm
  have hl1 : 1 ≤ m.G.length := hFit.2.1
  have hl3 := hFit.2.2
  obtain ⟨_, _, e0, rg, lg, cgc⟩ := hg.opened
  cases e0
  obtain ⟨ba, oa, rfl, xa, na, ea⟩ := cgc i hi2
  have hz : ((m.G.length : Int) - 1 == 0) = false := by simp; omega
  obtain ⟨n0, hn0⟩ : ∃ n : Int, ((countD m.G 1 0 : Nat) : Int) = n := ⟨_, rfl⟩
  obtain ⟨n1, hn1⟩ : ∃ n : Int, ((countD m.G 1 1 : Nat) : Int) = n := ⟨_, rfl⟩
  obtain ⟨n2, hn2⟩ : ∃ n : Int, ((countD m.G 1 2 : Nat) : Int) = n := ⟨_, rfl⟩
  obtain ⟨nk, hnk⟩ : ∃ n : Int, ((countD m.G 1 k : Nat) : Int) = n := ⟨_, rfl⟩
  obtain ⟨ng, hng⟩ : ∃ n : Int, ((countD m.G 1 (gi m.G i) : Nat) : Int) = n := ⟨_, rfl⟩
  have hsum : n0 + n1 + n2 = (m.G.length : Int) - 1 := by rw [← hn0, ← hn1, ← hn2]; exact count_three hR
  have b0 := countD_le m.G 0
  have b1 := countD_le m.G 1
  have b2 := countD_le m.G 2
  have bk := countD_le m.G k
  have bg := countD_le m.G (gi m.G i)
  have c0 : 0 ≤ n0 ∧ n0 ≤ 201 := by omega
  have c1 : 0 ≤ n1 ∧ n1 ≤ 201 := by omega
  have c2 : 0 ≤ n2 ∧ n2 ≤ 201 := by omega
  have ck : 0 ≤ nk ∧ nk ≤ 201 := by omega
  have cg' : 0 ≤ ng ∧ ng ≤ 201 := by omega
  have h7 : ((countD m.G 1 7 : Nat) : Int) = 0 := by rw [count_none hR]; rfl
  have hbt : (turnMD m i k).bad = true := by rw [turnMD_bad, hq, ← hb]; rfl
  have hc1 : ((countD (turnMD m i k).G 1 k : Nat) : Int) = nk := by rw [turn_not hq]; exact hnk
  have hc2 : True := trivial
  have hg1 : 1 ≤ (turnMD m i k).G.length := by rw [(turnMD_len _ _ _).2]; exact hl1
  have HB := Lib.hid hb
  obtain ⟨mt, hmt⟩ : ∃ mt, turnMD m i k = mt := ⟨_, rfl⟩
  rw [hmt] at hbt hc1 hg1
  have HT := Lib.hid hmt
  have H := Lib.hid (And.intro hn0 (And.intro hn1 (And.intro hn2 (And.intro hnk (And.intro hng (And.intro h7 (And.intro hbt (And.intro hc1 (And.intro hc2 hsum)))))))))
  clear hb hmt hn0 hn1 hn2 hnk hng h7 hbt hc1 hc2 hsum b0 b1 b2 bk bg
  go_enter Proofs.Try.func18, Proofs.Try.ntmps18
  go_wp2_with (fail)
  go_at_call 49
  refine (shown2_ _).calls.mono ?_
  rintro e w1 ⟨_, rfl, hb1, rfl⟩
  have Bm_1 : Box w1 (w.heap.size) #[.slice aw m.W.length cw, .slice (some ⟨ba, oa, none⟩) m.G.length cg, .bool false] 50 := (Box.new _ _ _).ext hb1
  obtain ⟨cm0, cm1, cm2, dm0, dm1, dm2⟩ := cells3 Bm_1
  have zm : w.heap.size < w1.heap.size := Bm_1.lt
  go_wp2_with (fail)
  go_at_call 63
  refine (km _ (by with_reducible (repeat (first | assumption | exact Ext.refl _ | refine Ext.alloc' ?_ _ | refine Ext.store0 ?_ _ _ | refine Ext.storek ?_ _ _ _ | refine Ext.stores0 ?_ ?_ _ _ | refine Ext.storesk ?_ ?_ _ _ _ | refine Ext.drewN' ?_ _ | refine Ext.drew' ?_ | refine Ext.trans ?_ (by assumption))))).calls.mono ?_
  rintro e w2 ⟨_, rfl, hb2, rfl⟩
  have Bm_2 := Bm_1.ext (show Ext w1 w2 from (by with_reducible (repeat (first | assumption | exact Ext.refl _ | refine Ext.alloc' ?_ _ | refine Ext.store0 ?_ _ _ | refine Ext.storek ?_ _ _ _ | refine Ext.stores0 ?_ ?_ _ _ | refine Ext.storesk ?_ ?_ _ _ _ | refine Ext.drewN' ?_ _ | refine Ext.drew' ?_ | refine Ext.trans ?_ (by assumption)))))
  clear Bm_1 zm cm0 cm1 cm2 dm0 dm1 dm2
  obtain ⟨cm0, cm1, cm2, dm0, dm1, dm2⟩ := cells3 Bm_2
  have zm : w.heap.size < w2.heap.size := Bm_2.lt
  go_wp2_with (fail)
  go_at_call 61
  refine (count_ no _ m 0 _ ((IsMem.mk HB.out hw hg : IsMem no w (.agg #[.slice aw m.W.length cw, .slice (some ⟨ba, oa, none⟩) m.G.length cg, .bool false]) m).ext (by with_reducible (repeat (first | assumption | exact Ext.refl _ | refine Ext.alloc' ?_ _ | refine Ext.store0 ?_ _ _ | refine Ext.storek ?_ _ _ _ | refine Ext.stores0 ?_ ?_ _ _ | refine Ext.storesk ?_ ?_ _ _ _ | refine Ext.drewN' ?_ _ | refine Ext.drew' ?_ | refine Ext.trans ?_ (by assumption))))) hl1).calls.mono ?_
  rintro e w3 ⟨_, rfl, hb3, rfl⟩
  rw [H.out.1]
  have Bm_3 := Bm_2.ext (show Ext w2 w3 from (by with_reducible (repeat (first | assumption | exact Ext.refl _ | refine Ext.alloc' ?_ _ | refine Ext.store0 ?_ _ _ | refine Ext.storek ?_ _ _ _ | refine Ext.stores0 ?_ ?_ _ _ | refine Ext.storesk ?_ ?_ _ _ _ | refine Ext.drewN' ?_ _ | refine Ext.drew' ?_ | refine Ext.trans ?_ (by assumption)))))
  clear Bm_2 zm cm0 cm1 cm2 dm0 dm1 dm2
  obtain ⟨cm0, cm1, cm2, dm0, dm1, dm2⟩ := cells3 Bm_3
  have zm : w.heap.size < w3.heap.size := Bm_3.lt
  go_wp2_with (fail)
  go_at_call 61
  refine (count_ no _ m 1 _ ((IsMem.mk HB.out hw hg : IsMem no w (.agg #[.slice aw m.W.length cw, .slice (some ⟨ba, oa, none⟩) m.G.length cg, .bool false]) m).ext (by with_reducible (repeat (first | assumption | exact Ext.refl _ | refine Ext.alloc' ?_ _ | refine Ext.store0 ?_ _ _ | refine Ext.storek ?_ _ _ _ | refine Ext.stores0 ?_ ?_ _ _ | refine Ext.storesk ?_ ?_ _ _ _ | refine Ext.drewN' ?_ _ | refine Ext.drew' ?_ | refine Ext.trans ?_ (by assumption))))) hl1).calls.mono ?_
  rintro e w4 ⟨_, rfl, hb4, rfl⟩
  rw [H.out.2.1]
  have Bm_4 := Bm_3.ext (show Ext w3 w4 from (by with_reducible (repeat (first | assumption | exact Ext.refl _ | refine Ext.alloc' ?_ _ | refine Ext.store0 ?_ _ _ | refine Ext.storek ?_ _ _ _ | refine Ext.stores0 ?_ ?_ _ _ | refine Ext.storesk ?_ ?_ _ _ _ | refine Ext.drewN' ?_ _ | refine Ext.drew' ?_ | refine Ext.trans ?_ (by assumption)))))
  clear Bm_3 zm cm0 cm1 cm2 dm0 dm1 dm2
  obtain ⟨cm0, cm1, cm2, dm0, dm1, dm2⟩ := cells3 Bm_4
  have zm : w.heap.size < w4.heap.size := Bm_4.lt
  go_wp2_with (fail)
  go_at_call 61
  refine (count_ no _ m 2 _ ((IsMem.mk HB.out hw hg : IsMem no w (.agg #[.slice aw m.W.length cw, .slice (some ⟨ba, oa, none⟩) m.G.length cg, .bool false]) m).ext (by with_reducible (repeat (first | assumption | exact Ext.refl _ | refine Ext.alloc' ?_ _ | refine Ext.store0 ?_ _ _ | refine Ext.storek ?_ _ _ _ | refine Ext.stores0 ?_ ?_ _ _ | refine Ext.storesk ?_ ?_ _ _ _ | refine Ext.drewN' ?_ _ | refine Ext.drew' ?_ | refine Ext.trans ?_ (by assumption))))) hl1).calls.mono ?_
  rintro e w5 ⟨_, rfl, hb5, rfl⟩
  rw [H.out.2.2.1]
  have Bm_5 := Bm_4.ext (show Ext w4 w5 from (by with_reducible (repeat (first | assumption | exact Ext.refl _ | refine Ext.alloc' ?_ _ | refine Ext.store0 ?_ _ _ | refine Ext.storek ?_ _ _ _ | refine Ext.stores0 ?_ ?_ _ _ | refine Ext.storesk ?_ ?_ _ _ _ | refine Ext.drewN' ?_ _ | refine Ext.drew' ?_ | refine Ext.trans ?_ (by assumption)))))
  clear Bm_4 zm cm0 cm1 cm2 dm0 dm1 dm2
  obtain ⟨cm0, cm1, cm2, dm0, dm1, dm2⟩ := cells3 Bm_5
  have zm : w.heap.size < w5.heap.size := Bm_5.lt
  have ea2 := cell_ext ea (show Ext w w5 from (by with_reducible (repeat (first | assumption | exact Ext.refl _ | refine Ext.alloc' ?_ _ | refine Ext.store0 ?_ _ _ | refine Ext.storek ?_ _ _ _ | refine Ext.stores0 ?_ ?_ _ _ | refine Ext.storesk ?_ ?_ _ _ _ | refine Ext.drewN' ?_ _ | refine Ext.drew' ?_ | refine Ext.trans ?_ (by assumption)))))
  have zg : ba < w5.heap.size := World.block_lt_of_cell? _ _ ea2
  go_wp2_with (fail)
  go_at_call 70
  refine (memTurn_ no _ m i k _ ((IsMem.mk HB.out hw hg : IsMem no w (.agg #[.slice aw m.W.length cw, .slice (some ⟨ba, oa, none⟩) m.G.length cg, .bool false]) m).ext (by with_reducible (repeat (first | assumption | exact Ext.refl _ | refine Ext.alloc' ?_ _ | refine Ext.store0 ?_ _ _ | refine Ext.storek ?_ _ _ _ | refine Ext.stores0 ?_ ?_ _ _ | refine Ext.storesk ?_ ?_ _ _ _ | refine Ext.drewN' ?_ _ | refine Ext.drew' ?_ | refine Ext.trans ?_ (by assumption))))) hFit no_lt).calls.mono ?_
  rintro e w6 ⟨_, rfl, hb6, hut⟩
  rw [HT.out] at hut
  obtain ⟨t1, t2, t3, t4, rfl, wt, gt⟩ := hut.lit rfl rfl (show mt.bad = true from H.out.2.2.2.2.2.2.1)
  have Bm_6 := Bm_5.ext (show Ext w5 w6 from (by with_reducible (repeat (first | assumption | exact Ext.refl _ | refine Ext.alloc' ?_ _ | refine Ext.store0 ?_ _ _ | refine Ext.storek ?_ _ _ _ | refine Ext.stores0 ?_ ?_ _ _ | refine Ext.storesk ?_ ?_ _ _ _ | refine Ext.drewN' ?_ _ | refine Ext.drew' ?_ | refine Ext.trans ?_ (by assumption)))))
  clear Bm_5 zm cm0 cm1 cm2 dm0 dm1 dm2
  obtain ⟨cm0, cm1, cm2, dm0, dm1, dm2⟩ := cells3 Bm_6
  have zm : w.heap.size < w6.heap.size := Bm_6.lt
  go_wp2_with (fail)
  have hEk : Ext w w6 := (by with_reducible (repeat (first | assumption | exact Ext.refl _ | refine Ext.alloc' ?_ _ | refine Ext.store0 ?_ _ _ | refine Ext.storek ?_ _ _ _ | refine Ext.stores0 ?_ ?_ _ _ | refine Ext.storesk ?_ ?_ _ _ _ | refine Ext.drewN' ?_ _ | refine Ext.drew' ?_ | refine Ext.trans ?_ (by assumption))))
  have eak := cell_ext ea hEk
  have eak1 : w6.cell? ⟨ba, oa + (i : Int).toNat * 1, none⟩ = some (.int .i64 (gi m.G i)) := by simpa using eak
  obtain ⟨W, hW⟩ : ∃ W, W = w6.alloc (.cells #[.slice t1 mt.W.length t2, .slice t3 mt.G.length t4, .bool true] 50 (0, 0)) := ⟨_, rfl⟩
  have hEW : Ext w W := by rw [hW]; exact (by with_reducible (repeat (first | assumption | exact Ext.refl _ | refine Ext.alloc' ?_ _ | refine Ext.store0 ?_ _ _ | refine Ext.storek ?_ _ _ _ | refine Ext.stores0 ?_ ?_ _ _ | refine Ext.storesk ?_ ?_ _ _ _ | refine Ext.drewN' ?_ _ | refine Ext.drew' ?_ | refine Ext.trans ?_ (by assumption))))
  have hEt : Ext w6 W := by rw [hW]; exact (by with_reducible (repeat (first | assumption | exact Ext.refl _ | refine Ext.alloc' ?_ _ | refine Ext.store0 ?_ _ _ | refine Ext.storek ?_ _ _ _ | refine Ext.stores0 ?_ ?_ _ _ | refine Ext.storesk ?_ ?_ _ _ _ | refine Ext.drewN' ?_ _ | refine Ext.drew' ?_ | refine Ext.trans ?_ (by assumption))))
  have eaw : W.cell? ⟨ba, oa + (i : Int).toNat * 1, none⟩ = some (.int .i64 (gi m.G i)) := by rw [hW]; exact cell_ext eak1 (Ext.alloc _ _)
  have Dm := Bm_6.alloc (.cells #[.slice t1 mt.W.length t2, .slice t3 mt.G.length t4, .bool true] 50 (0, 0))
  have Dt := Box.new w6 #[.slice t1 mt.W.length t2, .slice t3 mt.G.length t4, .bool true] 50
  rw [← hW] at Dm Dt
  rw [← hW]
  clear hW
  apply region_lit2 (T := []) (L := []) (X := []) (G := [eqv _, eqv _, eqv _, eqv _, eqv _, eqv _, eqv _, eqv _, eqv _, eqv _, eqv _, eqv (.bool true), eqv _, eqv _, eqv _, eqv _, eqv (.int .i64 nk), eqv _, eqv _, eqv (.int .i64 nk), eqv (.bool true), eqv _, eqv _])
  case hm => kernel_rfl
  case hop =>
    refine ⟨?_, ?_, ?_, ?_, ?_, ?_, ?_, ?_, ?_, ?_, ?_, ?_, ?_, ?_, ?_, ?_, ?_, ?_, ?_, ?_, ?_, ?_, ?_, trivial⟩
    · intro a wa hs hf hd
      have t7 := hf.off 7 (by kernel_rfl) rfl
      exact plain_ rfl (yes_eqv (o_move rfl t7) rfl)
    · intro a wa hs hf hd
      have t46 : a.eval (.tmp 46) = _ := hd.at 0 46 (by kernel_rfl)
      exact plain_ rfl (yes_eqv (o_move rfl t46) rfl)
    · intro a wa hs hf hd
      have t47 : a.eval (.tmp 47) = _ := hd.at 1 47 (by kernel_rfl)
      have t8 := hf.off 8 (by kernel_rfl) rfl
      exact guard_on rfl rfl t47 (yes_eqv (o_move rfl t8) rfl)
    · intro a wa hs hf hd
      have t47 : a.eval (.tmp 47) = _ := hd.at 1 47 (by kernel_rfl)
      have t9 := hf.off 9 (by kernel_rfl) rfl
      exact guard_on rfl rfl t47 (yes_eqv (o_move rfl t9) rfl)
    · intro a wa hs hf hd
      have t47 : a.eval (.tmp 47) = _ := hd.at 1 47 (by kernel_rfl)
      have t48 : a.eval (.tmp 48) = _ := hd.at 2 48 (by kernel_rfl)
      have t49 : a.eval (.tmp 49) = _ := hd.at 3 49 (by kernel_rfl)
      exact guard_on rfl rfl t47 (yes_eqv (o_add rfl t48 t49 rfl) rfl)
    · intro a wa hs hf hd
      have t47 : a.eval (.tmp 47) = _ := hd.at 1 47 (by kernel_rfl)
      have t10 := hf.off 10 (by kernel_rfl) rfl
      exact guard_on rfl rfl t47 (yes_eqv (o_move rfl t10) rfl)
    · intro a wa hs hf hd
      have t47 : a.eval (.tmp 47) = _ := hd.at 1 47 (by kernel_rfl)
      have t50 : a.eval (.tmp 50) = _ := hd.at 4 50 (by kernel_rfl)
      have t51 : a.eval (.tmp 51) = _ := hd.at 5 51 (by kernel_rfl)
      exact guard_on rfl rfl t47 (yes_eqv (o_add rfl t50 t51 rfl) rfl)
    · intro a wa hs hf hd
      have t47 : a.eval (.tmp 47) = _ := hd.at 1 47 (by kernel_rfl)
      have t3 := hf.off 3 (by kernel_rfl) rfl
      exact guard_on rfl rfl t47 (yes_eqv (o_fieldAddr rfl Proofs.Try.underlying50 rfl rfl (by kernel_rfl) t3) rfl)
    · intro a wa hs hf hd
      have t47 : a.eval (.tmp 47) = _ := hd.at 1 47 (by kernel_rfl)
      have t53 : a.eval (.tmp 53) = _ := hd.at 7 53 (by kernel_rfl)
      exact guard_on rfl rfl t47 (yes_eqv (o_load1 rfl Proofs.Try.underlying48 rfl t53 ((Dm.since hs rfl).cell rfl)) rfl)
    · intro a wa hs hf hd
      have t47 : a.eval (.tmp 47) = _ := hd.at 1 47 (by kernel_rfl)
      have t54 : a.eval (.tmp 54) = _ := hd.at 8 54 (by kernel_rfl)
      exact guard_on rfl rfl t47 (yes_eqv (o_len rfl Proofs.Try.underlying48 t54) rfl)
    · intro a wa hs hf hd
      have t47 : a.eval (.tmp 47) = _ := hd.at 1 47 (by kernel_rfl)
      have t55 : a.eval (.tmp 55) = _ := hd.at 9 55 (by kernel_rfl)
      exact guard_on rfl rfl t47 (yes_eqv (o_sub rfl t55 rfl rfl) rfl)
    · intro a wa hs hf hd
      have t47 : a.eval (.tmp 47) = _ := hd.at 1 47 (by kernel_rfl)
      have t52 : a.eval (.tmp 52) = _ := hd.at 6 52 (by kernel_rfl)
      have t56 : a.eval (.tmp 56) = _ := hd.at 10 56 (by kernel_rfl)
      exact guard_on rfl rfl t47 (yes_eqv (o_eql rfl t52 t56 (by have := H.out.2.2.2.2.2.2.2.2.2; simp only [IntKind.wrap_i64]; simp; omega)) rfl)
    · intro a wa hs hf hd
      have t47 : a.eval (.tmp 47) = _ := hd.at 1 47 (by kernel_rfl)
      have t57 : a.eval (.tmp 57) = _ := hd.at 11 57 (by kernel_rfl)
      exact plain_ rfl (yes_eqv (o_pick_t rfl t47 t57) rfl)
    · intro a wa hs hf hd
      have t58 : a.eval (.tmp 58) = _ := hd.at 12 58 (by kernel_rfl)
      exact plain_ rfl (yes_eqv (o_move rfl t58) rfl)
    · intro a wa hs hf hd
      have t59 : a.eval (.tmp 59) = _ := hd.at 13 59 (by kernel_rfl)
      have t13 := hf.off 13 (by kernel_rfl) rfl
      exact guard_on rfl rfl t59 (yes_eqv (o_load3 rfl Proofs.Try.underlying50 rfl (by kernel_rfl) t13 ((Dt.since hs rfl).cell rfl) ((Dt.since hs rfl).cell rfl) ((Dt.since hs rfl).cell rfl)) rfl)
    · intro a wa hs hf hd
      have t59 : a.eval (.tmp 59) = _ := hd.at 13 59 (by kernel_rfl)
      have t12 := hf.off 12 (by kernel_rfl) rfl
      exact guard_on rfl rfl t59 (yes_eqv (o_move rfl t12) rfl)
    · intro a wa hs hf hd
      have t59 : a.eval (.tmp 59) = _ := hd.at 13 59 (by kernel_rfl)
      have t60 : a.eval (.tmp 60) = _ := hd.at 14 60 (by kernel_rfl)
      have t61 : a.eval (.tmp 61) = _ := hd.at 15 61 (by kernel_rfl)
      exact guard_on rfl rfl t59 (yes_gives (show Gives Proofs.Try.prog 61 #[.agg #[.slice t1 mt.W.length t2, .slice t3 mt.G.length t4, .bool true], .int .i64 k] _ (eqv (.int .i64 nk)) by rw [← H.out.2.2.2.2.2.2.2.1]; exact count_ no _ mt k _ ((IsMem.mk H.out.2.2.2.2.2.2.1.symm wt gt : IsMem no w6 (.agg #[.slice t1 mt.W.length t2, .slice t3 mt.G.length t4, .bool true]) mt).ext (hEt.trans (Since.to_ext hs))) hg1) rfl rfl Proofs.Try.func61 (by kernel_rfl) (by kernel_rfl) (by simp only [List.map_toArray, List.map_cons, List.map_nil, t60, t61]) rfl)
    · intro a wa hs hf hd
      have t59 : a.eval (.tmp 59) = _ := hd.at 13 59 (by kernel_rfl)
      have t3 := hf.off 3 (by kernel_rfl) rfl
      exact guard_on rfl rfl t59 (yes_eqv (o_load3 rfl Proofs.Try.underlying50 rfl (by kernel_rfl) t3 ((Dm.since hs rfl).cell rfl) ((Dm.since hs rfl).cell rfl) ((Dm.since hs rfl).cell rfl)) rfl)
    · intro a wa hs hf hd
      have t59 : a.eval (.tmp 59) = _ := hd.at 13 59 (by kernel_rfl)
      have t12 := hf.off 12 (by kernel_rfl) rfl
      exact guard_on rfl rfl t59 (yes_eqv (o_move rfl t12) rfl)
    · intro a wa hs hf hd
      have t59 : a.eval (.tmp 59) = _ := hd.at 13 59 (by kernel_rfl)
      have t63 : a.eval (.tmp 63) = _ := hd.at 17 63 (by kernel_rfl)
      have t64 : a.eval (.tmp 64) = _ := hd.at 18 64 (by kernel_rfl)
      exact guard_on rfl rfl t59 (yes_gives (show Gives Proofs.Try.prog 61 #[.agg #[.slice aw m.W.length cw, .slice (some ⟨ba, oa, none⟩) m.G.length cg, .bool false], .int .i64 k] _ (eqv (.int .i64 nk)) by rw [← H.out.2.2.2.1]; exact count_ no _ m k _ ((IsMem.mk HB.out hw hg : IsMem no w (.agg #[.slice aw m.W.length cw, .slice (some ⟨ba, oa, none⟩) m.G.length cg, .bool false]) m).ext (hEW.trans (Since.to_ext hs))) hl1) rfl rfl Proofs.Try.func61 (by kernel_rfl) (by kernel_rfl) (by simp only [List.map_toArray, List.map_cons, List.map_nil, t63, t64]) rfl)
    · intro a wa hs hf hd
      have t59 : a.eval (.tmp 59) = _ := hd.at 13 59 (by kernel_rfl)
      have t62 : a.eval (.tmp 62) = _ := hd.at 16 62 (by kernel_rfl)
      have t65 : a.eval (.tmp 65) = _ := hd.at 19 65 (by kernel_rfl)
      exact guard_on rfl rfl t59 (yes_eqv (o_eql rfl t62 t65 (by simp)) rfl)
    · intro a wa hs hf hd
      have t59 : a.eval (.tmp 59) = _ := hd.at 13 59 (by kernel_rfl)
      have t66 : a.eval (.tmp 66) = _ := hd.at 20 66 (by kernel_rfl)
      exact plain_ rfl (yes_eqv (o_pick_t rfl t59 t66) rfl)
    · intro a wa hs hf hd
      have t67 : a.eval (.tmp 67) = _ := hd.at 21 67 (by kernel_rfl)
      exact plain_ rfl (yes_eqv (o_assign rfl t67) rfl)
  case hG => exact ⟨stable_eqv _, stable_eqv _, stable_eqv _, stable_eqv _, stable_eqv _, stable_eqv _, stable_eqv _, stable_eqv _, stable_eqv _, stable_eqv _, stable_eqv _, stable_eqv _, stable_eqv _, stable_eqv _, stable_eqv _, stable_eqv _, stable_eqv _, stable_eqv _, stable_eqv _, stable_eqv _, stable_eqv _, stable_eqv _, stable_eqv _, trivial⟩
  case hc => kernel_rfl
  case hfin =>
    intro v2 hs2
    rintro _ rfl _ rfl _ rfl _ rfl _ rfl _ rfl _ rfl _ rfl _ rfl _ rfl _ rfl _ rfl _ rfl _ rfl _ rfl _ rfl _ rfl _ rfl _ rfl _ rfl _ rfl _ rfl _ rfl
    rintro _ rfl
    simp only [Act.put, List.setIfInBounds_toArray, List.set_cons_zero, List.set_cons_succ]
    go_wp2
    go_ret
    exact ⟨_, rfl, hEW.trans (Since.to_ext hs2), rfl⟩

set_option maxHeartbeats 1000000 in
set_option maxRecDepth 100000 in
theorem memCounts_ (v0 v1 v2 : Value) (m : Arena) (x y : Int) (w : World) (h : IsMem no w (.agg #[v0, v1, v2]) m) (hx0 : 0 ≤ x) (hx1 : x ≤ 255) (hy0 : 0 ≤ y) (hy1 : y ≤ 255) :
    Gives Proofs.Try.prog 18 #[.agg #[v0, v1, v2], .int .u8 x, .int .u8 y] w (eqv (.bool true)) := by
  have km := fun (w' : World) (e : Ext w w') => memMay_ no _ m 60 (by omega) w' (h.ext e)
  obtain ⟨aw, cw, ag, cg, e, hw, hg⟩ := h.opened
  obtain ⟨rfl, rfl, rfl⟩ : v0 = .slice aw m.W.length cw ∧ v1 = .slice ag m.G.length cg ∧ v2 = .bool m.bad := by simpa using e
  clear e
  cases hm : mayD m 60
  · rw [hm] at km
    go_enter Proofs.Try.func18, Proofs.Try.ntmps18
    go_wp2_with (fail)
    go_at_call 49
    refine (shown2_ _).calls.mono ?_
    rintro e w1 ⟨_, rfl, hb1, rfl⟩
    have Bm_1 : Box w1 (w.heap.size) #[.slice aw m.W.length cw, .slice ag m.G.length cg, .bool m.bad] 50 := (Box.new _ _ _).ext hb1
    obtain ⟨cm0, cm1, cm2, dm0, dm1, dm2⟩ := cells3 Bm_1
    have zm : w.heap.size < w1.heap.size := Bm_1.lt
    go_wp2_with (fail)
    go_at_call 63
    refine (km _ (by with_reducible (repeat (first | assumption | exact Ext.refl _ | refine Ext.alloc' ?_ _ | refine Ext.store0 ?_ _ _ | refine Ext.storek ?_ _ _ _ | refine Ext.stores0 ?_ ?_ _ _ | refine Ext.storesk ?_ ?_ _ _ _ | refine Ext.drewN' ?_ _ | refine Ext.drew' ?_ | refine Ext.trans ?_ (by assumption))))).calls.mono ?_
    rintro e w2 ⟨_, rfl, hb2, rfl⟩
    have Bm_2 := Bm_1.ext (show Ext w1 w2 from (by with_reducible (repeat (first | assumption | exact Ext.refl _ | refine Ext.alloc' ?_ _ | refine Ext.store0 ?_ _ _ | refine Ext.storek ?_ _ _ _ | refine Ext.stores0 ?_ ?_ _ _ | refine Ext.storesk ?_ ?_ _ _ _ | refine Ext.drewN' ?_ _ | refine Ext.drew' ?_ | refine Ext.trans ?_ (by assumption)))))
    clear Bm_1 zm cm0 cm1 cm2 dm0 dm1 dm2
    obtain ⟨cm0, cm1, cm2, dm0, dm1, dm2⟩ := cells3 Bm_2
    have zm : w.heap.size < w2.heap.size := Bm_2.lt
    go_wp2
    go_ret
    exact ⟨_, rfl, (by with_reducible (repeat (first | assumption | exact Ext.refl _ | refine Ext.alloc' ?_ _ | refine Ext.store0 ?_ _ _ | refine Ext.storek ?_ _ _ _ | refine Ext.stores0 ?_ ?_ _ _ | refine Ext.storesk ?_ ?_ _ _ _ | refine Ext.drewN' ?_ _ | refine Ext.drew' ?_ | refine Ext.trans ?_ (by assumption)))), rfl⟩
  · cases hb : m.bad
    · have hl : 2 ≤ m.G.length := by simp [mayD, rightD] at hm; exact hm.2.1.1
      obtain ⟨j, hj⟩ : ∃ j : Nat, x % ((m.G.length : Int) - 1) = j := ⟨(x % ((m.G.length : Int) - 1)).toNat, by have := Int.emod_nonneg x (show (m.G.length : Int) - 1 ≠ 0 by omega); omega⟩
      have hj2 : (j : Int) < (m.G.length : Int) - 1 := by rw [← hj]; exact Int.emod_lt_of_pos x (by omega)
      cases hq : turnIs m (j + 1 : Nat) (y % 3)
      · exact memCounts_b aw ag cw cg m x y (j + 1) (y % 3) w hw hg hb.symm hm (by rw [hj]; omega) (by omega) (by omega) rfl (by omega) (by omega) hx0 hx1 hy0 hy1 hq
      · exact memCounts_a aw ag cw cg m x y (j + 1) (y % 3) w hw hg hb.symm hm (by rw [hj]; omega) (by omega) (by omega) rfl (by omega) (by omega) hx0 hx1 hy0 hy1 hq
    · rw [hm] at km
      rw [hb] at km
      go_enter Proofs.Try.func18, Proofs.Try.ntmps18
      go_wp2_with (fail)
      go_at_call 49
      refine (shown2_ _).calls.mono ?_
      rintro e w1 ⟨_, rfl, hb1, rfl⟩
      have Bm_1 : Box w1 (w.heap.size) #[.slice aw m.W.length cw, .slice ag m.G.length cg, .bool true] 50 := (Box.new _ _ _).ext hb1
      obtain ⟨cm0, cm1, cm2, dm0, dm1, dm2⟩ := cells3 Bm_1
      have zm : w.heap.size < w1.heap.size := Bm_1.lt
      go_wp2_with (fail)
      go_at_call 63
      refine (km _ (by with_reducible (repeat (first | assumption | exact Ext.refl _ | refine Ext.alloc' ?_ _ | refine Ext.store0 ?_ _ _ | refine Ext.storek ?_ _ _ _ | refine Ext.stores0 ?_ ?_ _ _ | refine Ext.storesk ?_ ?_ _ _ _ | refine Ext.drewN' ?_ _ | refine Ext.drew' ?_ | refine Ext.trans ?_ (by assumption))))).calls.mono ?_
      rintro e w2 ⟨_, rfl, hb2, rfl⟩
      have Bm_2 := Bm_1.ext (show Ext w1 w2 from (by with_reducible (repeat (first | assumption | exact Ext.refl _ | refine Ext.alloc' ?_ _ | refine Ext.store0 ?_ _ _ | refine Ext.storek ?_ _ _ _ | refine Ext.stores0 ?_ ?_ _ _ | refine Ext.storesk ?_ ?_ _ _ _ | refine Ext.drewN' ?_ _ | refine Ext.drew' ?_ | refine Ext.trans ?_ (by assumption)))))
      clear Bm_1 zm cm0 cm1 cm2 dm0 dm1 dm2
      obtain ⟨cm0, cm1, cm2, dm0, dm1, dm2⟩ := cells3 Bm_2
      have zm : w.heap.size < w2.heap.size := Bm_2.lt
      go_wp2
      go_ret
      exact ⟨_, rfl, (by with_reducible (repeat (first | assumption | exact Ext.refl _ | refine Ext.alloc' ?_ _ | refine Ext.store0 ?_ _ _ | refine Ext.storek ?_ _ _ _ | refine Ext.stores0 ?_ ?_ _ _ | refine Ext.storesk ?_ ?_ _ _ _ | refine Ext.drewN' ?_ _ | refine Ext.drew' ?_ | refine Ext.trans ?_ (by assumption)))), rfl⟩
end Go.Proofs.Ytcfbdfgondmkoaa
