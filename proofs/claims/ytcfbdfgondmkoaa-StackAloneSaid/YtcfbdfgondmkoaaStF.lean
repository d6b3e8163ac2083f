/- All nodes are laid into the list. -/
import Derived.Test.YtcfbdfgondmkoaaAtW
import Derived.Test.YtcfbdfgondmkoaaStk3
namespace Go.Proofs.Ytcfbdfgondmkoaa
open Go Go.RowKit
set_option linter.unusedSimpArgs false
set_option linter.unusedVariables false
set_option linter.unnecessarySimpa false

theorem of1_ (w : World) : Gives Proofs.Try.prog 37 #[.int .i64 0, .int .i64 1, .int .i64 0] w (eqv (.tuple #[.int .i64 2, .int .i64 0])) := by
  have h := of_ 0 1 0 w
  have e : ofV 0 1 0 = .tuple #[.int .i64 2, .int .i64 0] := by kernel_rfl
  rw [e] at h; exact h
theorem nextOf_mod {n k : Nat} (h1 : 1 ≤ k) (h2 : k ≤ n) : ((k : Int) + 1).tmod ((n : Int) + 1) = nextOf n k := by
  rw [Int.tmod_eq_emod_of_nonneg (by omega)]
  unfold nextOf
  split
  · rename_i e; subst e; exact Int.emod_self
  · exact Int.emod_eq_of_lt (by omega) (by omega)
theorem fits_store {m : Arena} {x v : Int} (h : Fits m) : Fits (storeD m x v) := by
  unfold storeD Fits
  split
  · exact h
  · simpa [Fits] using h
theorem fill_step {n k : Nat} {m mk : Arena} {v : Int} (hv : nextOf n k = v) (h : fillL n (n + 1 - k) k mk = fillL n n 1 m) (hk : k ≤ n) : fillL n (n + 1 - (k + 1)) (k + 1) (storeD mk (linkAt (k : Int)) v) = fillL n n 1 m := by
  rw [← h, show n + 1 - k = (n + 1 - (k + 1)) + 1 by omega, ← hv]
  rfl
def FillR (N : Nat → Prop) (w : World) (n : Nat) (m : Arena) (k : Nat) (wr : World) : Prop :=
  1 ≤ k ∧ k ≤ n + 1 ∧ ∃ mk a1 c1 a2 c2, Box wr w.heap.size #[.slice a1 mk.W.length c1, .slice a2 mk.G.length c2, .bool mk.bad] 50 ∧ Box wr (w.heap.size + 1) #[.slice none 0 0, .slice none 0 0, .bool false] 50 ∧
    IsMem (Bx N w.heap.size (w.heap.size + 2)) wr (.agg #[.slice a1 mk.W.length c1, .slice a2 mk.G.length c2, .bool mk.bad]) mk ∧ Ext w wr ∧ Fits mk ∧ mk.G.length = n + 1 ∧ fillL n (n + 1 - k) k mk = fillL n n 1 m
set_option maxHeartbeats 2000000 in
set_option maxRecDepth 100000 in
theorem fill_ (N : Nat → Prop) (va : Value) (m : Arena) (w : World) (h : IsMem N w va m) (hN : ∀ b, N b → b < w.heap.size) (hfit : Fits m) : Gives Proofs.Try.prog 109 #[va] w (fun r w' => IsMem N w' r (fillD m)) := by
  obtain ⟨n, hG⟩ : ∃ n, m.G.length = n + 1 := ⟨m.G.length - 1, by have := hfit.2.1; omega⟩
  have hn : n ≤ 200 := by have := hfit.2.2; omega
  obtain ⟨aw, cw, ag, cg, rfl, mw, mg⟩ := h.opened
  have hm := IsMem.mk (m := m) rfl mw mg
  clear h
  rw [hG] at hm ⊢
  go_enter Proofs.Try.func109, Proofs.Try.ntmps109
  go_wp2
  go_loopw [4] (fun i wr => ∃ k : Nat, i = .int .i64 k ∧ FillR N w n m k wr) (fun i _ => n + 1 - (intOf i).toNat)
  case atStart => exact ⟨1, rfl, Nat.le_refl _, by omega, m, aw, cw, ag, cg, by rw [hG]; exact ((Box.newAt _ _ _ (by first | rfl | simp)).alloc _), (Box.newAt _ _ _ (by first | rfl | simp)), by rw [hG]; exact (IsMem.bxn hm).keep (by with_reducible (repeat (first | assumption | exact Keep.refl _ _ | refine Keep.alloc ?_ _ | refine Keep.s ?_ (by first | assumption | exact Bx.mem (by omega) (by omega) | exact Up.mem (by omega)) | refine Keep.n ?_ (by omega) | refine Keep.ext ?_ (by assumption) | refine Keep.trans ?_ (by assumption) | refine Keep.drew ?_))), (by with_reducible (repeat (first | assumption | exact Ext.refl _ | refine Ext.alloc' ?_ _ | refine Ext.store0 ?_ _ _ | refine Ext.storek ?_ _ _ _ | refine Ext.stores0 ?_ ?_ _ _ | refine Ext.storesk ?_ ?_ _ _ _ | refine Ext.drewN' ?_ _ | refine Ext.drew' ?_ | refine Ext.trans ?_ (by assumption)))), hfit, hG, rfl⟩
  case round =>
    obtain ⟨k, rfl, hk1, hkn, mk, a1, e1, a2, e2, hb0, hb1, hmk, hbx, hfk, hGk, hfl⟩ := hrel
    obtain ⟨w5, rfl⟩ : ∃ w5 : World, w5 = wr := ⟨_, rfl⟩
    have s5 : w.heap.size + 2 ≤ w5.heap.size := by have := hb1.lt; omega
    have hHF := Lib.hid hfl; have hHG := Lib.hid hGk
    clear hfl hGk
    by_cases hlt : k ≤ n
    · have q1 : (k : Int) ≤ (n : Int) := by omega
      obtain ⟨c0_0, c0_1, c0_2, d0_0, d0_1, d0_2⟩ := cells3 hb0
      have z0 : w.heap.size < w5.heap.size := hb0.lt
      obtain ⟨c1_0, c1_1, c1_2, d1_0, d1_1, d1_2⟩ := cells3 hb1
      have z1 : w.heap.size + 1 < w5.heap.size := hb1.lt
      go_wp2_with (fail)
      have hX5 : Ext w w5 := (by with_reducible (repeat (first | assumption | exact Ext.refl _ | refine Ext.alloc' ?_ _ | refine Ext.store0 ?_ _ _ | refine Ext.storek ?_ _ _ _ | refine Ext.storen ?_ (by omega) | refine Ext.stores0 ?_ ?_ _ _ | refine Ext.storesk ?_ ?_ _ _ _ | refine Ext.drewN' ?_ _ | refine Ext.drew' ?_ | refine Ext.trans ?_ (by assumption))))
      have hK5 : Keep (Bx N w.heap.size (w.heap.size + 2)) w5 w5 := Keep.refl _ _
      have D0_5 := hb0
      have D1_5 := hb1
      have aM : IsMem (Bx N w.heap.size (w.heap.size + 2)) w5 (.agg #[.slice a1 mk.W.length e1, .slice a2 mk.G.length e2, .bool mk.bad]) mk := hmk
      clear c0_0 c0_1 c0_2 d0_0 d0_1 d0_2 z0 c1_0 c1_1 c1_2 d1_0 d1_1 d1_2 z1
      apply region_lit2 (T := [9]) (L := []) (X := [w.heap.size]) (G := [eqv _, eqv _, eqv _, eqv _, eqv (.int .i64 ((k : Int) + 1)), eqv _, eqv (.int .i64 ((n : Int) + 1)), eqv (.int .i64 (nextOf n k)), isMemN (Bx N w.heap.size (w.heap.size + 2)) (storeD mk (linkAt (k : Int)) (nextOf n k)), anyG])
      case hm => kernel_rfl
      case hop =>
        refine ⟨?_, ?_, ?_, ?_, ?_, ?_, ?_, ?_, ?_, ?_, trivial⟩
        · intro a wa hs hf hd
          have t1 := hf.off 1 (by kernel_rfl) rfl
          exact plain_ rfl (yes_eqv (o_load3 rfl Proofs.Try.underlying50 rfl (by kernel_rfl) t1 ((D0_5.since hs rfl).cell rfl) ((D0_5.since hs rfl).cell rfl) ((D0_5.since hs rfl).cell rfl)) rfl)
        · intro a wa hs hf hd
          have t4 := hf.off 4 (by kernel_rfl) rfl
          exact plain_ rfl (yes_eqv (o_move rfl t4) rfl)
        · intro a wa hs hf hd
          have t17 : a.eval (.tmp 17) = _ := hd.at 1 17 (by kernel_rfl)
          exact plain_ rfl (yes_gives (atw_ (k : Int) _) rfl rfl Proofs.Try.func57 (by kernel_rfl) (by kernel_rfl) (by simp only [List.map_toArray, List.map_cons, List.map_nil, eval_const, t17]) rfl)
        · intro a wa hs hf hd
          have t4 := hf.off 4 (by kernel_rfl) rfl
          exact plain_ rfl (yes_eqv (o_move rfl t4) rfl)
        · intro a wa hs hf hd
          have t19 : a.eval (.tmp 19) = _ := hd.at 3 19 (by kernel_rfl)
          exact plain_ rfl (yes_eqv (o_add rfl t19 rfl (by rw [IntKind.wrap_i64]; omega)) rfl)
        · intro a wa hs hf hd
          have t3 := hf.off 3 (by kernel_rfl) rfl
          exact plain_ rfl (yes_eqv (o_move rfl t3) rfl)
        · intro a wa hs hf hd
          have t21 : a.eval (.tmp 21) = _ := hd.at 5 21 (by kernel_rfl)
          exact plain_ rfl (yes_eqv (o_add rfl t21 rfl (by rw [IntKind.wrap_i64]; omega)) rfl)
        · intro a wa hs hf hd
          have t20 : a.eval (.tmp 20) = _ := hd.at 4 20 (by kernel_rfl)
          have t22 : a.eval (.tmp 22) = _ := hd.at 6 22 (by kernel_rfl)
          exact plain_ rfl (yes_eqv (o_rem rfl t20 t22 (by omega) (nextOf_mod (by omega) (by omega))) rfl)
        · intro a wa hs hf hd
          have t16 : a.eval (.tmp 16) = _ := hd.at 0 16 (by kernel_rfl)
          have t18 : a.eval (.tmp 18) = _ := hd.at 2 18 (by kernel_rfl)
          have t23 : a.eval (.tmp 23) = _ := hd.at 7 23 (by kernel_rfl)
          exact plain_ rfl (yes_gives (memStore_ (Bx N w.heap.size (w.heap.size + 2)) _ mk (linkAt (k : Int)) (nextOf n k) _ (aM.keep (Since.to_ext hs).keep) hfk (Bx.le hN (by have := (Since.to_ext hs).size; omega)) (linkAt_lo _).1 (linkAt_lo _).2) rfl rfl Proofs.Try.func68 (by kernel_rfl) (by kernel_rfl) (by simp only [List.map_toArray, List.map_cons, List.map_nil, t16, t18, t23]) rfl)
        · intro a wb wa hs1 hs hf hd hrun
          have t1 := hf.off 1 (by kernel_rfl) rfl
          have t24 := hd.at 8 24 (by kernel_rfl)
          subst hrun
          have q18 : IsMem (Bx N w.heap.size (w.heap.size + 2)) _ (a.eval (.tmp 24)) (storeD mk (linkAt (k : Int)) (nextOf n k)) := t24
          obtain ⟨u1, u2, u3, u4, hv, _⟩ := q18.opened
          exact ⟨_, o_store rfl t1 hv ((D0_5.since hs1 rfl)) (by kernel_rfl) (by simp [Value.cells, Value.oneCell']) (by first | (simp [Value.cells]; done) | (simp [Value.cells]; omega)) rfl, Since.put hs (.inr (by simp))⟩
      case hG => exact ⟨stable_eqv _, stable_eqv _, stable_eqv _, stable_eqv _, stable_eqv _, stable_eqv _, stable_eqv _, stable_eqv _, stable_isMemN _ _, stable_any, trivial⟩
      case hc => kernel_rfl
      case hfin =>
        intro v5 hs5
        rintro _ rfl _ rfl _ rfl _ rfl _ rfl _ rfl _ rfl _ rfl r11 hr11
        obtain ⟨u1, u2, u3, u4, rfl, mw0, mg0⟩ := IsMem.opened hr11
        rintro v5w ⟨o1, v1, ho1, hr1, rfl⟩
        cases ho1
        simp only [Act.put, List.setIfInBounds_toArray, List.set_cons_zero, List.set_cons_succ] at hr1 ⊢
        cases (hr1.symm.trans (o_store (v := .agg #[.slice u1 (storeD mk (linkAt (k : Int)) (nextOf n k)).W.length u2, .slice u3 (storeD mk (linkAt (k : Int)) (nextOf n k)).G.length u4, .bool (storeD mk (linkAt (k : Int)) (nextOf n k)).bad]) (new := #[.slice u1 (storeD mk (linkAt (k : Int)) (nextOf n k)).W.length u2, .slice u3 (storeD mk (linkAt (k : Int)) (nextOf n k)).G.length u4, .bool (storeD mk (linkAt (k : Int)) (nextOf n k)).bad]) rfl rfl rfl ((D0_5.since hs5 rfl)) (by kernel_rfl) (by simp [Value.cells, Value.oneCell']) (by first | (simp [Value.cells]; done) | (simp [Value.cells]; omega)) (by first | rfl | kernel_rfl)))
        obtain ⟨w6, hw6⟩ : ∃ x, x = (put v5 w.heap.size (.cells #[.slice u1 (storeD mk (linkAt (k : Int)) (nextOf n k)).W.length u2, .slice u3 (storeD mk (linkAt (k : Int)) (nextOf n k)).G.length u4, .bool (storeD mk (linkAt (k : Int)) (nextOf n k)).bad] 50 (0, 0))) := ⟨_, rfl⟩
        have hW6 : Ext w5 v5 := Since.to_ext hs5
        have hb6 : Ext w w6 := by rw [hw6]; exact Since.to_ext ((Since.of_ext (hX5.trans hW6)).put (.inl (by have := hX5.size; omega)))
        have hk6 : Keep (Bx N w.heap.size (w.heap.size + 2)) w5 w6 := by rw [hw6]; exact ((hK5.ext hW6).put _ _ (.inr (Bx.mem (by omega) (by omega))))
        have hq6 : Keep (Bx N w.heap.size (w.heap.size + 2)) v5 w6 := by rw [hw6]; exact ((Keep.refl _ _).put _ _ (.inr (Bx.mem (by omega) (by omega))))
        have B0_6 : Box w6 (w.heap.size) #[.slice u1 (storeD mk (linkAt (k : Int)) (nextOf n k)).W.length u2, .slice u3 (storeD mk (linkAt (k : Int)) (nextOf n k)).G.length u4, .bool (storeD mk (linkAt (k : Int)) (nextOf n k)).bad] 50 := by rw [hw6]; exact (D0_5.since hs5 rfl).put
        have B1_6 : Box w6 (w.heap.size + 1) #[.slice none 0 0, .slice none 0 0, .bool false] 50 := by rw [hw6]; exact (box_putOther (D1_5.since hs5 rfl) (by omega))
        have s6 : w5.heap.size ≤ w6.heap.size := by rw [hw6]; have := hW6.size; simpa [put] using this
        rw [← hw6]
        clear hw6
        obtain ⟨c0_0, c0_1, c0_2, d0_0, d0_1, d0_2⟩ := cells3 B0_6
        have z0 : w.heap.size < w6.heap.size := B0_6.lt
        obtain ⟨c1_0, c1_1, c1_2, d1_0, d1_1, d1_2⟩ := cells3 B1_6
        have z1 : w.heap.size + 1 < w6.heap.size := B1_6.lt
        have mw := IsInts.keep mw0 hq6
        have mg := IsInts.keep mg0 hq6
        clear hq6
        go_wp2
        go_roundw
        case rel => exact ⟨k + 1, by first | (simp; done) | (simp; omega), by omega, by omega, storeD mk (linkAt (k : Int)) (nextOf n k), u1, u2, u3, u4, B0_6, B1_6, IsMem.mk rfl mw mg, (by with_reducible (repeat (first | assumption | exact Ext.refl _ | refine Ext.alloc' ?_ _ | refine Ext.store0 ?_ _ _ | refine Ext.storek ?_ _ _ _ | refine Ext.storen ?_ (by omega) | refine Ext.stores0 ?_ ?_ _ _ | refine Ext.storesk ?_ ?_ _ _ _ | refine Ext.drewN' ?_ _ | refine Ext.drew' ?_ | refine Ext.trans ?_ (by assumption)))), fits_store hfk, by rw [← hHG.out]; rfl, fill_step rfl hHF.out hlt⟩
        case measure => simp [intOf]; omega
    · obtain rfl : k = n + 1 := by omega
      have q1 : ¬ ((n + 1 : Nat) : Int) ≤ (n : Int) := by omega
      obtain ⟨c0_0, c0_1, c0_2, d0_0, d0_1, d0_2⟩ := cells3 hb0
      have z0 : w.heap.size < w5.heap.size := hb0.lt
      obtain ⟨c1_0, c1_1, c1_2, d1_0, d1_1, d1_2⟩ := cells3 hb1
      have z1 : w.heap.size + 1 < w5.heap.size := hb1.lt
      go_wp2_with (fail)
      go_at_call 37
      refine (of1_ _).calls.mono ?_
      rintro e w6 ⟨_, rfl, hb6, rfl⟩
      have B0_6 : Box w6 (w.heap.size) #[.slice a1 mk.W.length e1, .slice a2 mk.G.length e2, .bool mk.bad] 50 := hb0.ext hb6
      have B1_6 : Box w6 (w.heap.size + 1) #[.slice none 0 0, .slice none 0 0, .bool false] 50 := hb1.ext hb6
      clear c0_0 c0_1 c0_2 d0_0 d0_1 d0_2 z0 c1_0 c1_1 c1_2 d1_0 d1_1 d1_2 z1
      have s6 : w5.heap.size ≤ w6.heap.size := (by have h := hb6.size; first | omega | (simp at h; omega))
      obtain ⟨c0_0, c0_1, c0_2, d0_0, d0_1, d0_2⟩ := cells3 B0_6
      have z0 : w.heap.size < w6.heap.size := B0_6.lt
      obtain ⟨c1_0, c1_1, c1_2, d1_0, d1_1, d1_2⟩ := cells3 B1_6
      have z1 : w.heap.size + 1 < w6.heap.size := B1_6.lt
      go_wp2_with (fail)
      go_at_call 68
      refine (memStore_ (Bx N w.heap.size (w.heap.size + 2)) _ mk 0 2 _ (hmk.keep (by with_reducible (repeat (first | assumption | exact Keep.refl _ _ | refine Keep.alloc ?_ _ | refine Keep.s ?_ (by first | assumption | exact Bx.mem (by omega) (by omega) | exact Up.mem (by omega)) | refine Keep.n ?_ (by omega) | refine Keep.ext ?_ (by assumption) | refine Keep.trans ?_ (by assumption) | refine Keep.drew ?_)))) hfk (Bx.le hN (by first | omega | (simp <;> omega))) (by decide) (by decide)).calls.mono ?_
      rintro e w7 ⟨_, rfl, hb7, hu7⟩
      obtain ⟨u1, u2, u3, u4, rfl, uw, ug⟩ := hu7.opened
      have B0_7 : Box w7 (w.heap.size) #[.slice a1 mk.W.length e1, .slice a2 mk.G.length e2, .bool mk.bad] 50 := B0_6.ext hb7
      have B1_7 : Box w7 (w.heap.size + 1) #[.slice none 0 0, .slice none 0 0, .bool false] 50 := B1_6.ext hb7
      clear c0_0 c0_1 c0_2 d0_0 d0_1 d0_2 z0 c1_0 c1_1 c1_2 d1_0 d1_1 d1_2 z1
      have s7 : w6.heap.size ≤ w7.heap.size := (by have h := hb7.size; first | omega | (simp at h; omega))
      obtain ⟨c0_0, c0_1, c0_2, d0_0, d0_1, d0_2⟩ := cells3 B0_7
      have z0 : w.heap.size < w7.heap.size := B0_7.lt
      obtain ⟨c1_0, c1_1, c1_2, d1_0, d1_1, d1_2⟩ := cells3 B1_7
      have z1 : w.heap.size + 1 < w7.heap.size := B1_7.lt
      have hfd : fillD m = storeD mk 0 2 := (by have := hHF.out; unfold fillD; rw [hG]; show storeD (fillL n n 1 m) 0 2 = _; rw [← this, Nat.sub_self]; rfl)
      go_wp2
      exact bodyPost_ret (ret_cell (cs := #[.slice u1 (storeD mk 0 2).W.length u2, .slice u3 (storeD mk 0 2).G.length u4, .bool (storeD mk 0 2).bad]) (((B1_7.setCell _).setCell _).setCell _) Proofs.Try.results109 rfl Proofs.Try.underlying50 rfl (by kernel_rfl)) rfl ⟨_, rfl, (by with_reducible (repeat (first | assumption | exact Ext.refl _ | refine Ext.alloc' ?_ _ | refine Ext.store0 ?_ _ _ | refine Ext.storek ?_ _ _ _ | refine Ext.storen ?_ (by omega) | refine Ext.stores0 ?_ ?_ _ _ | refine Ext.storesk ?_ ?_ _ _ _ | refine Ext.drewN' ?_ _ | refine Ext.drew' ?_ | refine Ext.trans ?_ (by assumption)))), (by rw [hfd]; exact IsMem.less (IsMem.keep hu7 (by with_reducible (repeat (first | assumption | exact Keep.refl _ _ | refine Keep.alloc ?_ _ | refine Keep.s ?_ (by first | assumption | exact Bx.mem (by omega) (by omega) | exact Up.mem (by omega)) | refine Keep.n ?_ (by omega) | refine Keep.ext ?_ (by assumption) | refine Keep.trans ?_ (by assumption) | refine Keep.drew ?_)))) (fun _ _ hn => .inl hn))⟩
set_option maxHeartbeats 2000000 in
set_option maxRecDepth 100000 in
theorem refFill_ (N : Nat → Prop) (va : Value) (m : Arena) (w : World) (h : IsMem N w va m) (hN : ∀ b, N b → b < w.heap.size) (hfit : Fits m) : Gives Proofs.Try.prog 110 #[va] w (fun r w' => IsMem N w' r (fillD m)) := by
  obtain ⟨n, hG⟩ : ∃ n, m.G.length = n + 1 := ⟨m.G.length - 1, by have := hfit.2.1; omega⟩
  have hn : n ≤ 200 := by have := hfit.2.2; omega
  obtain ⟨aw, cw, ag, cg, rfl, mw, mg⟩ := h.opened
  have hm := IsMem.mk (m := m) rfl mw mg
  clear h
  rw [hG] at hm ⊢
  go_enter Proofs.Try.func110, Proofs.Try.ntmps110
  go_wp2
  go_loopw [4] (fun i wr => ∃ k : Nat, i = .int .i64 k ∧ FillR N w n m k wr) (fun i _ => n + 1 - (intOf i).toNat)
  case atStart => exact ⟨1, rfl, Nat.le_refl _, by omega, m, aw, cw, ag, cg, by rw [hG]; exact ((Box.newAt _ _ _ (by first | rfl | simp)).alloc _), (Box.newAt _ _ _ (by first | rfl | simp)), by rw [hG]; exact (IsMem.bxn hm).keep (by with_reducible (repeat (first | assumption | exact Keep.refl _ _ | refine Keep.alloc ?_ _ | refine Keep.s ?_ (by first | assumption | exact Bx.mem (by omega) (by omega) | exact Up.mem (by omega)) | refine Keep.n ?_ (by omega) | refine Keep.ext ?_ (by assumption) | refine Keep.trans ?_ (by assumption) | refine Keep.drew ?_))), (by with_reducible (repeat (first | assumption | exact Ext.refl _ | refine Ext.alloc' ?_ _ | refine Ext.store0 ?_ _ _ | refine Ext.storek ?_ _ _ _ | refine Ext.stores0 ?_ ?_ _ _ | refine Ext.storesk ?_ ?_ _ _ _ | refine Ext.drewN' ?_ _ | refine Ext.drew' ?_ | refine Ext.trans ?_ (by assumption)))), hfit, hG, rfl⟩
  case round =>
    obtain ⟨k, rfl, hk1, hkn, mk, a1, e1, a2, e2, hb0, hb1, hmk, hbx, hfk, hGk, hfl⟩ := hrel
    obtain ⟨w5, rfl⟩ : ∃ w5 : World, w5 = wr := ⟨_, rfl⟩
    have s5 : w.heap.size + 2 ≤ w5.heap.size := by have := hb1.lt; omega
    have hHF := Lib.hid hfl; have hHG := Lib.hid hGk
    clear hfl hGk
    by_cases hlt : k ≤ n
    · have q1 : (k : Int) ≤ (n : Int) := by omega
      by_cases hkn2 : k = n
      · have q2 : ((k : Int) == (n : Int)) = true := by simp; omega
        obtain ⟨c0_0, c0_1, c0_2, d0_0, d0_1, d0_2⟩ := cells3 hb0
        have z0 : w.heap.size < w5.heap.size := hb0.lt
        obtain ⟨c1_0, c1_1, c1_2, d1_0, d1_1, d1_2⟩ := cells3 hb1
        have z1 : w.heap.size + 1 < w5.heap.size := hb1.lt
        go_wp2_with (fail)
        have hX8 : Ext w w5 := (by with_reducible (repeat (first | assumption | exact Ext.refl _ | refine Ext.alloc' ?_ _ | refine Ext.store0 ?_ _ _ | refine Ext.storek ?_ _ _ _ | refine Ext.storen ?_ (by omega) | refine Ext.stores0 ?_ ?_ _ _ | refine Ext.storesk ?_ ?_ _ _ _ | refine Ext.drewN' ?_ _ | refine Ext.drew' ?_ | refine Ext.trans ?_ (by assumption))))
        have hK8 : Keep (Bx N w.heap.size (w.heap.size + 2)) w5 w5 := Keep.refl _ _
        have D0_8 := hb0
        have D1_8 := hb1
        have aM : IsMem (Bx N w.heap.size (w.heap.size + 2)) w5 (.agg #[.slice a1 mk.W.length e1, .slice a2 mk.G.length e2, .bool mk.bad]) mk := hmk
        clear c0_0 c0_1 c0_2 d0_0 d0_1 d0_2 z0 c1_0 c1_1 c1_2 d1_0 d1_1 d1_2 z1
        apply region_lit2 (T := [5]) (L := []) (X := [w.heap.size]) (G := [eqv _, eqv _, eqv _, eqv _, isMemN (Bx N w.heap.size (w.heap.size + 2)) (storeD mk (linkAt (k : Int)) 0), anyG])
        case hm => kernel_rfl
        case hop =>
          refine ⟨?_, ?_, ?_, ?_, ?_, ?_, trivial⟩
          · intro a wa hs hf hd
            have t1 := hf.off 1 (by kernel_rfl) rfl
            exact plain_ rfl (yes_eqv (o_load3 rfl Proofs.Try.underlying50 rfl (by kernel_rfl) t1 ((D0_8.since hs rfl).cell rfl) ((D0_8.since hs rfl).cell rfl) ((D0_8.since hs rfl).cell rfl)) rfl)
          · intro a wa hs hf hd
            have t4 := hf.off 4 (by kernel_rfl) rfl
            exact plain_ rfl (yes_eqv (o_move rfl t4) rfl)
          · intro a wa hs hf hd
            have t21 : a.eval (.tmp 21) = _ := hd.at 1 21 (by kernel_rfl)
            exact plain_ rfl (yes_gives (refAtw_ (k : Int) _) rfl rfl Proofs.Try.func58 (by kernel_rfl) (by kernel_rfl) (by simp only [List.map_toArray, List.map_cons, List.map_nil, eval_const, t21]) rfl)
          · intro a wa hs hf hd
            have t5 := hf.off 5 (by kernel_rfl) rfl
            exact plain_ rfl (yes_eqv (o_move rfl t5) rfl)
          · intro a wa hs hf hd
            have t20 : a.eval (.tmp 20) = _ := hd.at 0 20 (by kernel_rfl)
            have t22 : a.eval (.tmp 22) = _ := hd.at 2 22 (by kernel_rfl)
            have t23 : a.eval (.tmp 23) = _ := hd.at 3 23 (by kernel_rfl)
            exact plain_ rfl (yes_gives (refStore_ (Bx N w.heap.size (w.heap.size + 2)) _ mk (linkAt (k : Int)) 0 _ (aM.keep (Since.to_ext hs).keep) hfk (Bx.le hN (by have := (Since.to_ext hs).size; omega))) rfl rfl Proofs.Try.func69 (by kernel_rfl) (by kernel_rfl) (by simp only [List.map_toArray, List.map_cons, List.map_nil, t20, t22, t23]) rfl)
          · intro a wb wa hs1 hs hf hd hrun
            have t1 := hf.off 1 (by kernel_rfl) rfl
            have t24 := hd.at 4 24 (by kernel_rfl)
            subst hrun
            have q18 : IsMem (Bx N w.heap.size (w.heap.size + 2)) _ (a.eval (.tmp 24)) (storeD mk (linkAt (k : Int)) 0) := t24
            obtain ⟨u1, u2, u3, u4, hv, _⟩ := q18.opened
            exact ⟨_, o_store rfl t1 hv ((D0_8.since hs1 rfl)) (by kernel_rfl) (by simp [Value.cells, Value.oneCell']) (by first | (simp [Value.cells]; done) | (simp [Value.cells]; omega)) rfl, Since.put hs (.inr (by simp))⟩
        case hG => exact ⟨stable_eqv _, stable_eqv _, stable_eqv _, stable_eqv _, stable_isMemN _ _, stable_any, trivial⟩
        case hc => kernel_rfl
        case hfin =>
          intro v8 hs8
          rintro _ rfl _ rfl _ rfl _ rfl r11 hr11
          obtain ⟨u1, u2, u3, u4, rfl, mw0, mg0⟩ := IsMem.opened hr11
          rintro v8w ⟨o1, v1, ho1, hr1, rfl⟩
          cases ho1
          simp only [Act.put, List.setIfInBounds_toArray, List.set_cons_zero, List.set_cons_succ] at hr1 ⊢
          cases (hr1.symm.trans (o_store (v := .agg #[.slice u1 (storeD mk (linkAt (k : Int)) 0).W.length u2, .slice u3 (storeD mk (linkAt (k : Int)) 0).G.length u4, .bool (storeD mk (linkAt (k : Int)) 0).bad]) (new := #[.slice u1 (storeD mk (linkAt (k : Int)) 0).W.length u2, .slice u3 (storeD mk (linkAt (k : Int)) 0).G.length u4, .bool (storeD mk (linkAt (k : Int)) 0).bad]) rfl rfl rfl ((D0_8.since hs8 rfl)) (by kernel_rfl) (by simp [Value.cells, Value.oneCell']) (by first | (simp [Value.cells]; done) | (simp [Value.cells]; omega)) (by first | rfl | kernel_rfl)))
          obtain ⟨w6, hw6⟩ : ∃ x, x = (put v8 w.heap.size (.cells #[.slice u1 (storeD mk (linkAt (k : Int)) 0).W.length u2, .slice u3 (storeD mk (linkAt (k : Int)) 0).G.length u4, .bool (storeD mk (linkAt (k : Int)) 0).bad] 50 (0, 0))) := ⟨_, rfl⟩
          have hW6 : Ext w5 v8 := Since.to_ext hs8
          have hb6 : Ext w w6 := by rw [hw6]; exact Since.to_ext ((Since.of_ext (hX8.trans hW6)).put (.inl (by have := hX8.size; omega)))
          have hk6 : Keep (Bx N w.heap.size (w.heap.size + 2)) w5 w6 := by rw [hw6]; exact ((hK8.ext hW6).put _ _ (.inr (Bx.mem (by omega) (by omega))))
          have hq6 : Keep (Bx N w.heap.size (w.heap.size + 2)) v8 w6 := by rw [hw6]; exact ((Keep.refl _ _).put _ _ (.inr (Bx.mem (by omega) (by omega))))
          have B0_6 : Box w6 (w.heap.size) #[.slice u1 (storeD mk (linkAt (k : Int)) 0).W.length u2, .slice u3 (storeD mk (linkAt (k : Int)) 0).G.length u4, .bool (storeD mk (linkAt (k : Int)) 0).bad] 50 := by rw [hw6]; exact (D0_8.since hs8 rfl).put
          have B1_6 : Box w6 (w.heap.size + 1) #[.slice none 0 0, .slice none 0 0, .bool false] 50 := by rw [hw6]; exact (box_putOther (D1_8.since hs8 rfl) (by omega))
          have s6 : w5.heap.size ≤ w6.heap.size := by rw [hw6]; have := hW6.size; simpa [put] using this
          rw [← hw6]
          clear hw6
          obtain ⟨c0_0, c0_1, c0_2, d0_0, d0_1, d0_2⟩ := cells3 B0_6
          have z0 : w.heap.size < w6.heap.size := B0_6.lt
          obtain ⟨c1_0, c1_1, c1_2, d1_0, d1_1, d1_2⟩ := cells3 B1_6
          have z1 : w.heap.size + 1 < w6.heap.size := B1_6.lt
          have mw := IsInts.keep mw0 hq6
          have mg := IsInts.keep mg0 hq6
          clear hq6
          go_wp2
          go_roundw
          case rel => exact ⟨k + 1, by first | (simp; done) | (simp; omega), by omega, by omega, storeD mk (linkAt (k : Int)) 0, u1, u2, u3, u4, B0_6, B1_6, IsMem.mk rfl mw mg, (by with_reducible (repeat (first | assumption | exact Ext.refl _ | refine Ext.alloc' ?_ _ | refine Ext.store0 ?_ _ _ | refine Ext.storek ?_ _ _ _ | refine Ext.storen ?_ (by omega) | refine Ext.stores0 ?_ ?_ _ _ | refine Ext.storesk ?_ ?_ _ _ _ | refine Ext.drewN' ?_ _ | refine Ext.drew' ?_ | refine Ext.trans ?_ (by assumption)))), fits_store hfk, by rw [← hHG.out]; rfl, fill_step (by unfold nextOf; rw [if_pos hkn2]) hHF.out hlt⟩
          case measure => simp [intOf]; omega
      · have q2 : ((k : Int) == (n : Int)) = false := by simp; omega
        obtain ⟨c0_0, c0_1, c0_2, d0_0, d0_1, d0_2⟩ := cells3 hb0
        have z0 : w.heap.size < w5.heap.size := hb0.lt
        obtain ⟨c1_0, c1_1, c1_2, d1_0, d1_1, d1_2⟩ := cells3 hb1
        have z1 : w.heap.size + 1 < w5.heap.size := hb1.lt
        go_wp2_with (fail)
        have hX8 : Ext w w5 := (by with_reducible (repeat (first | assumption | exact Ext.refl _ | refine Ext.alloc' ?_ _ | refine Ext.store0 ?_ _ _ | refine Ext.storek ?_ _ _ _ | refine Ext.storen ?_ (by omega) | refine Ext.stores0 ?_ ?_ _ _ | refine Ext.storesk ?_ ?_ _ _ _ | refine Ext.drewN' ?_ _ | refine Ext.drew' ?_ | refine Ext.trans ?_ (by assumption))))
        have hK8 : Keep (Bx N w.heap.size (w.heap.size + 2)) w5 w5 := Keep.refl _ _
        have D0_8 := hb0
        have D1_8 := hb1
        have aM : IsMem (Bx N w.heap.size (w.heap.size + 2)) w5 (.agg #[.slice a1 mk.W.length e1, .slice a2 mk.G.length e2, .bool mk.bad]) mk := hmk
        clear c0_0 c0_1 c0_2 d0_0 d0_1 d0_2 z0 c1_0 c1_1 c1_2 d1_0 d1_1 d1_2 z1
        apply region_lit2 (T := [5]) (L := []) (X := [w.heap.size]) (G := [eqv _, eqv _, eqv _, eqv _, isMemN (Bx N w.heap.size (w.heap.size + 2)) (storeD mk (linkAt (k : Int)) ((k : Int) + 1)), anyG])
        case hm => kernel_rfl
        case hop =>
          refine ⟨?_, ?_, ?_, ?_, ?_, ?_, trivial⟩
          · intro a wa hs hf hd
            have t1 := hf.off 1 (by kernel_rfl) rfl
            exact plain_ rfl (yes_eqv (o_load3 rfl Proofs.Try.underlying50 rfl (by kernel_rfl) t1 ((D0_8.since hs rfl).cell rfl) ((D0_8.since hs rfl).cell rfl) ((D0_8.since hs rfl).cell rfl)) rfl)
          · intro a wa hs hf hd
            have t4 := hf.off 4 (by kernel_rfl) rfl
            exact plain_ rfl (yes_eqv (o_move rfl t4) rfl)
          · intro a wa hs hf hd
            have t21 : a.eval (.tmp 21) = _ := hd.at 1 21 (by kernel_rfl)
            exact plain_ rfl (yes_gives (refAtw_ (k : Int) _) rfl rfl Proofs.Try.func58 (by kernel_rfl) (by kernel_rfl) (by simp only [List.map_toArray, List.map_cons, List.map_nil, eval_const, t21]) rfl)
          · intro a wa hs hf hd
            have t5 := hf.off 5 (by kernel_rfl) rfl
            exact plain_ rfl (yes_eqv (o_move rfl t5) rfl)
          · intro a wa hs hf hd
            have t20 : a.eval (.tmp 20) = _ := hd.at 0 20 (by kernel_rfl)
            have t22 : a.eval (.tmp 22) = _ := hd.at 2 22 (by kernel_rfl)
            have t23 : a.eval (.tmp 23) = _ := hd.at 3 23 (by kernel_rfl)
            exact plain_ rfl (yes_gives (refStore_ (Bx N w.heap.size (w.heap.size + 2)) _ mk (linkAt (k : Int)) ((k : Int) + 1) _ (aM.keep (Since.to_ext hs).keep) hfk (Bx.le hN (by have := (Since.to_ext hs).size; omega))) rfl rfl Proofs.Try.func69 (by kernel_rfl) (by kernel_rfl) (by simp only [List.map_toArray, List.map_cons, List.map_nil, t20, t22, t23]) rfl)
          · intro a wb wa hs1 hs hf hd hrun
            have t1 := hf.off 1 (by kernel_rfl) rfl
            have t24 := hd.at 4 24 (by kernel_rfl)
            subst hrun
            have q18 : IsMem (Bx N w.heap.size (w.heap.size + 2)) _ (a.eval (.tmp 24)) (storeD mk (linkAt (k : Int)) ((k : Int) + 1)) := t24
            obtain ⟨u1, u2, u3, u4, hv, _⟩ := q18.opened
            exact ⟨_, o_store rfl t1 hv ((D0_8.since hs1 rfl)) (by kernel_rfl) (by simp [Value.cells, Value.oneCell']) (by first | (simp [Value.cells]; done) | (simp [Value.cells]; omega)) rfl, Since.put hs (.inr (by simp))⟩
        case hG => exact ⟨stable_eqv _, stable_eqv _, stable_eqv _, stable_eqv _, stable_isMemN _ _, stable_any, trivial⟩
        case hc => kernel_rfl
        case hfin =>
          intro v8 hs8
          rintro _ rfl _ rfl _ rfl _ rfl r11 hr11
          obtain ⟨u1, u2, u3, u4, rfl, mw0, mg0⟩ := IsMem.opened hr11
          rintro v8w ⟨o1, v1, ho1, hr1, rfl⟩
          cases ho1
          simp only [Act.put, List.setIfInBounds_toArray, List.set_cons_zero, List.set_cons_succ] at hr1 ⊢
          cases (hr1.symm.trans (o_store (v := .agg #[.slice u1 (storeD mk (linkAt (k : Int)) ((k : Int) + 1)).W.length u2, .slice u3 (storeD mk (linkAt (k : Int)) ((k : Int) + 1)).G.length u4, .bool (storeD mk (linkAt (k : Int)) ((k : Int) + 1)).bad]) (new := #[.slice u1 (storeD mk (linkAt (k : Int)) ((k : Int) + 1)).W.length u2, .slice u3 (storeD mk (linkAt (k : Int)) ((k : Int) + 1)).G.length u4, .bool (storeD mk (linkAt (k : Int)) ((k : Int) + 1)).bad]) rfl rfl rfl ((D0_8.since hs8 rfl)) (by kernel_rfl) (by simp [Value.cells, Value.oneCell']) (by first | (simp [Value.cells]; done) | (simp [Value.cells]; omega)) (by first | rfl | kernel_rfl)))
          obtain ⟨w6, hw6⟩ : ∃ x, x = (put v8 w.heap.size (.cells #[.slice u1 (storeD mk (linkAt (k : Int)) ((k : Int) + 1)).W.length u2, .slice u3 (storeD mk (linkAt (k : Int)) ((k : Int) + 1)).G.length u4, .bool (storeD mk (linkAt (k : Int)) ((k : Int) + 1)).bad] 50 (0, 0))) := ⟨_, rfl⟩
          have hW6 : Ext w5 v8 := Since.to_ext hs8
          have hb6 : Ext w w6 := by rw [hw6]; exact Since.to_ext ((Since.of_ext (hX8.trans hW6)).put (.inl (by have := hX8.size; omega)))
          have hk6 : Keep (Bx N w.heap.size (w.heap.size + 2)) w5 w6 := by rw [hw6]; exact ((hK8.ext hW6).put _ _ (.inr (Bx.mem (by omega) (by omega))))
          have hq6 : Keep (Bx N w.heap.size (w.heap.size + 2)) v8 w6 := by rw [hw6]; exact ((Keep.refl _ _).put _ _ (.inr (Bx.mem (by omega) (by omega))))
          have B0_6 : Box w6 (w.heap.size) #[.slice u1 (storeD mk (linkAt (k : Int)) ((k : Int) + 1)).W.length u2, .slice u3 (storeD mk (linkAt (k : Int)) ((k : Int) + 1)).G.length u4, .bool (storeD mk (linkAt (k : Int)) ((k : Int) + 1)).bad] 50 := by rw [hw6]; exact (D0_8.since hs8 rfl).put
          have B1_6 : Box w6 (w.heap.size + 1) #[.slice none 0 0, .slice none 0 0, .bool false] 50 := by rw [hw6]; exact (box_putOther (D1_8.since hs8 rfl) (by omega))
          have s6 : w5.heap.size ≤ w6.heap.size := by rw [hw6]; have := hW6.size; simpa [put] using this
          rw [← hw6]
          clear hw6
          obtain ⟨c0_0, c0_1, c0_2, d0_0, d0_1, d0_2⟩ := cells3 B0_6
          have z0 : w.heap.size < w6.heap.size := B0_6.lt
          obtain ⟨c1_0, c1_1, c1_2, d1_0, d1_1, d1_2⟩ := cells3 B1_6
          have z1 : w.heap.size + 1 < w6.heap.size := B1_6.lt
          have mw := IsInts.keep mw0 hq6
          have mg := IsInts.keep mg0 hq6
          clear hq6
          go_wp2
          go_roundw
          case rel => exact ⟨k + 1, by first | (simp; done) | (simp; omega), by omega, by omega, storeD mk (linkAt (k : Int)) ((k : Int) + 1), u1, u2, u3, u4, B0_6, B1_6, IsMem.mk rfl mw mg, (by with_reducible (repeat (first | assumption | exact Ext.refl _ | refine Ext.alloc' ?_ _ | refine Ext.store0 ?_ _ _ | refine Ext.storek ?_ _ _ _ | refine Ext.storen ?_ (by omega) | refine Ext.stores0 ?_ ?_ _ _ | refine Ext.storesk ?_ ?_ _ _ _ | refine Ext.drewN' ?_ _ | refine Ext.drew' ?_ | refine Ext.trans ?_ (by assumption)))), fits_store hfk, by rw [← hHG.out]; rfl, fill_step (by unfold nextOf; rw [if_neg hkn2]) hHF.out hlt⟩
          case measure => simp [intOf]; omega
    · obtain rfl : k = n + 1 := by omega
      have q1 : ¬ ((n + 1 : Nat) : Int) ≤ (n : Int) := by omega
      obtain ⟨c0_0, c0_1, c0_2, d0_0, d0_1, d0_2⟩ := cells3 hb0
      have z0 : w.heap.size < w5.heap.size := hb0.lt
      obtain ⟨c1_0, c1_1, c1_2, d1_0, d1_1, d1_2⟩ := cells3 hb1
      have z1 : w.heap.size + 1 < w5.heap.size := hb1.lt
      go_wp2_with (fail)
      go_at_call 69
      refine (refStore_ (Bx N w.heap.size (w.heap.size + 2)) _ mk 0 2 _ (hmk.keep (by with_reducible (repeat (first | assumption | exact Keep.refl _ _ | refine Keep.alloc ?_ _ | refine Keep.s ?_ (by first | assumption | exact Bx.mem (by omega) (by omega) | exact Up.mem (by omega)) | refine Keep.n ?_ (by omega) | refine Keep.ext ?_ (by assumption) | refine Keep.trans ?_ (by assumption) | refine Keep.drew ?_)))) hfk (Bx.le hN (by first | omega | (simp <;> omega)))).calls.mono ?_
      rintro e w6 ⟨_, rfl, hb6, hu6⟩
      obtain ⟨u1, u2, u3, u4, rfl, uw, ug⟩ := hu6.opened
      have B0_6 : Box w6 (w.heap.size) #[.slice a1 mk.W.length e1, .slice a2 mk.G.length e2, .bool mk.bad] 50 := hb0.ext hb6
      have B1_6 : Box w6 (w.heap.size + 1) #[.slice none 0 0, .slice none 0 0, .bool false] 50 := hb1.ext hb6
      clear c0_0 c0_1 c0_2 d0_0 d0_1 d0_2 z0 c1_0 c1_1 c1_2 d1_0 d1_1 d1_2 z1
      have s6 : w5.heap.size ≤ w6.heap.size := (by have h := hb6.size; first | omega | (simp at h; omega))
      obtain ⟨c0_0, c0_1, c0_2, d0_0, d0_1, d0_2⟩ := cells3 B0_6
      have z0 : w.heap.size < w6.heap.size := B0_6.lt
      obtain ⟨c1_0, c1_1, c1_2, d1_0, d1_1, d1_2⟩ := cells3 B1_6
      have z1 : w.heap.size + 1 < w6.heap.size := B1_6.lt
      have hfd : fillD m = storeD mk 0 2 := (by have := hHF.out; unfold fillD; rw [hG]; show storeD (fillL n n 1 m) 0 2 = _; rw [← this, Nat.sub_self]; rfl)
      go_wp2
      exact bodyPost_ret (ret_cell (cs := #[.slice u1 (storeD mk 0 2).W.length u2, .slice u3 (storeD mk 0 2).G.length u4, .bool (storeD mk 0 2).bad]) (((B1_6.setCell _).setCell _).setCell _) Proofs.Try.results110 rfl Proofs.Try.underlying50 rfl (by kernel_rfl)) rfl ⟨_, rfl, (by with_reducible (repeat (first | assumption | exact Ext.refl _ | refine Ext.alloc' ?_ _ | refine Ext.store0 ?_ _ _ | refine Ext.storek ?_ _ _ _ | refine Ext.storen ?_ (by omega) | refine Ext.stores0 ?_ ?_ _ _ | refine Ext.storesk ?_ ?_ _ _ _ | refine Ext.drewN' ?_ _ | refine Ext.drew' ?_ | refine Ext.trans ?_ (by assumption)))), (by rw [hfd]; exact IsMem.less (IsMem.keep hu6 (by with_reducible (repeat (first | assumption | exact Keep.refl _ _ | refine Keep.alloc ?_ _ | refine Keep.s ?_ (by first | assumption | exact Bx.mem (by omega) (by omega) | exact Up.mem (by omega)) | refine Keep.n ?_ (by omega) | refine Keep.ext ?_ (by assumption) | refine Keep.trans ?_ (by assumption) | refine Keep.drew ?_)))) (fun _ _ hn => .inl hn))⟩
end Go.Proofs.Ytcfbdfgondmkoaa
