/- Arenas: a word is loaded. -/
import Derived.Test.YtcfbdfgondmkoaaBx
import Derived.Test.YtcfbdfgondmkoaaReg2
namespace Go.Proofs.Ytcfbdfgondmkoaa
open Go Go.RowKit
set_option linter.unusedSimpArgs false
set_option linter.unusedVariables false

def loadD (m : Arena) (x : Int) : Int := if outside m x then 0 else gi m.W x.toNat
set_option maxRecDepth 100000 in
theorem memLoad_ (N : Nat → Prop) (v : Value) (m : Arena) (x : Int) (w : World) (h : IsMem N w v m) (hf : Fits m) (hN : ∀ b, N b → b < w.heap.size) (hx0 : -9223372036854775808 ≤ x) (hx1 : x ≤ 9223372036854775807) :
    Gives Proofs.Try.prog 64 #[v, .int .i64 x] w (fun r w' => ∃ u, r = .tuple #[u, .int .i64 (loadD m x)] ∧ IsMem N w' u (touchD m x)) := by
  have kn := fun (w' : World) (e : Ext w w') => touch_ _ v m x w' (h.at e) hf (Bx.lt hN e) hx0 hx1
  obtain ⟨aw, cw, ag, cg, rfl, hw, hg⟩ := h.opened
  obtain ⟨_, _, e0, rw_, lw, cwc⟩ := hw.opened
  cases e0
  go_enter Proofs.Try.func64, Proofs.Try.ntmps64
  go_wp2_with (fail)
  go_at_call 123
  refine (kn _ (by with_reducible (repeat (first | assumption | exact Ext.refl _ | refine Ext.alloc' ?_ _ | refine Ext.store0 ?_ _ _ | refine Ext.storek ?_ _ _ _ | refine Ext.stores0 ?_ ?_ _ _ | refine Ext.storesk ?_ ?_ _ _ _ | refine Ext.drewN' ?_ _ | refine Ext.drew' ?_ | refine Ext.trans ?_ (by assumption))))).calls.mono ?_
  rintro e w1 ⟨u, rfl, hb1, hu⟩
  obtain ⟨xw, yw, xg, yg, rfl, hxw, hxg⟩ := hu.opened
  have hs1 : w.heap.size + 2 ≤ w1.heap.size := by have := hb1.size; simp at this; omega
  have hz0 : w.heap.size < w1.heap.size := by omega
  have hz1 : w.heap.size + 1 < w1.heap.size := by omega
  have B0 : Box w1 w.heap.size #[.slice aw m.W.length cw, .slice ag m.G.length cg, .bool m.bad] 50 := ((Box.new _ _ _).alloc _).ext hb1
  have B1 : Box w1 (w.heap.size + 1) #[.slice none 0 0, .slice none 0 0, .bool false] 50 := (Box.two _ _ _ _ _).ext hb1
  obtain ⟨c00, c01, c02, d00, d01, d02⟩ := cells3 B0
  obtain ⟨c10, c11, c12, d10, d11, d12⟩ := cells3 B1
  by_cases h1 : x < 0
  · have hl : loadD m x = 0 := by unfold loadD; rw [if_pos (by simp [outside]; omega)]
    have BF : Box ((((w1.setCell ⟨w.heap.size + 1, 0, none⟩ (.slice xw (touchD m x).W.length yw)).setCell ⟨w.heap.size + 1, 1, none⟩ (.slice xg (touchD m x).G.length yg)).setCell ⟨w.heap.size + 1, 2, none⟩ (.bool (touchD m x).bad)).alloc (.cells #[.slice xw (touchD m x).W.length yw, .slice xg (touchD m x).G.length yg, .bool (touchD m x).bad] 50 (0, 0))) (w.heap.size + 1) #[.slice xw (touchD m x).W.length yw, .slice xg (touchD m x).G.length yg, .bool (touchD m x).bad] 50 := (((B1.setCell _).setCell _).setCell _).alloc _
    have hsz : ((w.alloc (Obj.cells #[.slice aw m.W.length cw, .slice ag m.G.length cg, .bool m.bad] 50)).alloc (Obj.cells #[.slice none 0 0, .slice none 0 0, .bool false] 50)).heap.size = w.heap.size + 2 := by simp
    rw [hsz] at hxw hxg
    go_wp2
    exact bodyPost_ret (ret_cell_tmp BF Proofs.Try.results64 rfl Proofs.Try.underlying50 rfl (by kernel_rfl)) rfl ⟨_, rfl, (by with_reducible (repeat (first | assumption | exact Ext.refl _ | refine Ext.alloc' ?_ _ | refine Ext.store0 ?_ _ _ | refine Ext.storek ?_ _ _ _ | refine Ext.stores0 ?_ ?_ _ _ | refine Ext.storesk ?_ ?_ _ _ _ | refine Ext.drewN' ?_ _ | refine Ext.drew' ?_ | refine Ext.trans ?_ (by assumption)))), _, by rw [hl]; rfl, IsMem.back ⟨_, _, rfl, hxw.keep (by with_reducible (repeat (first | assumption | exact Keep.refl _ _ | refine Keep.alloc ?_ _ | refine Keep.s ?_ (by first | assumption | exact Bx.mem (by omega) (by omega)) | refine Keep.n ?_ (by omega) | refine Keep.ext ?_ (by assumption) | refine Keep.drew ?_))), hxg.keep (by with_reducible (repeat (first | assumption | exact Keep.refl _ _ | refine Keep.alloc ?_ _ | refine Keep.s ?_ (by first | assumption | exact Bx.mem (by omega) (by omega)) | refine Keep.n ?_ (by omega) | refine Keep.ext ?_ (by assumption) | refine Keep.drew ?_)))⟩⟩
  · by_cases h2 : (m.W.length : Int) ≤ x
    · have hl : loadD m x = 0 := by unfold loadD; rw [if_pos (by simp [outside]; omega)]
      have BF : Box ((((w1.setCell ⟨w.heap.size + 1, 0, none⟩ (.slice xw (touchD m x).W.length yw)).setCell ⟨w.heap.size + 1, 1, none⟩ (.slice xg (touchD m x).G.length yg)).setCell ⟨w.heap.size + 1, 2, none⟩ (.bool (touchD m x).bad)).alloc (.cells #[.slice xw (touchD m x).W.length yw, .slice xg (touchD m x).G.length yg, .bool (touchD m x).bad] 50 (0, 0))) (w.heap.size + 1) #[.slice xw (touchD m x).W.length yw, .slice xg (touchD m x).G.length yg, .bool (touchD m x).bad] 50 := (((B1.setCell _).setCell _).setCell _).alloc _
      have hsz : ((w.alloc (Obj.cells #[.slice aw m.W.length cw, .slice ag m.G.length cg, .bool m.bad] 50)).alloc (Obj.cells #[.slice none 0 0, .slice none 0 0, .bool false] 50)).heap.size = w.heap.size + 2 := by simp
      rw [hsz] at hxw hxg
      go_wp2
      exact bodyPost_ret (ret_cell_tmp BF Proofs.Try.results64 rfl Proofs.Try.underlying50 rfl (by kernel_rfl)) rfl ⟨_, rfl, (by with_reducible (repeat (first | assumption | exact Ext.refl _ | refine Ext.alloc' ?_ _ | refine Ext.store0 ?_ _ _ | refine Ext.storek ?_ _ _ _ | refine Ext.stores0 ?_ ?_ _ _ | refine Ext.storesk ?_ ?_ _ _ _ | refine Ext.drewN' ?_ _ | refine Ext.drew' ?_ | refine Ext.trans ?_ (by assumption)))), _, by rw [hl]; rfl, IsMem.back ⟨_, _, rfl, hxw.keep (by with_reducible (repeat (first | assumption | exact Keep.refl _ _ | refine Keep.alloc ?_ _ | refine Keep.s ?_ (by first | assumption | exact Bx.mem (by omega) (by omega)) | refine Keep.n ?_ (by omega) | refine Keep.ext ?_ (by assumption) | refine Keep.drew ?_))), hxg.keep (by with_reducible (repeat (first | assumption | exact Keep.refl _ _ | refine Keep.alloc ?_ _ | refine Keep.s ?_ (by first | assumption | exact Bx.mem (by omega) (by omega)) | refine Keep.n ?_ (by omega) | refine Keep.ext ?_ (by assumption) | refine Keep.drew ?_)))⟩⟩
    · obtain ⟨k, rfl⟩ : ∃ k : Nat, x = k := ⟨x.toNat, by omega⟩
      obtain ⟨ba, oa, rfl, xa, na, ea⟩ := cwc k (by omega)
      have ea1 := cell_ext ea (show Ext w w1 from (by with_reducible (repeat (first | assumption | exact Ext.refl _ | refine Ext.alloc' ?_ _ | refine Ext.store0 ?_ _ _ | refine Ext.storek ?_ _ _ _ | refine Ext.stores0 ?_ ?_ _ _ | refine Ext.storesk ?_ ?_ _ _ _ | refine Ext.drewN' ?_ _ | refine Ext.drew' ?_ | refine Ext.trans ?_ (by assumption)))))
      go_wp2_with (fail)
      have B0' := B0.alloc (.cells #[.slice xw (touchD m k).W.length yw, .slice xg (touchD m k).G.length yg, .bool (touchD m k).bad] 50 (0, 0))
      have B1' := B1.alloc (.cells #[.slice xw (touchD m k).W.length yw, .slice xg (touchD m k).G.length yg, .bool (touchD m k).bad] 50 (0, 0))
      have ea2 := cell_ext ea1 (Ext.alloc w1 (.cells #[.slice xw (touchD m k).W.length yw, .slice xg (touchD m k).G.length yg, .bool (touchD m k).bad] 50 (0, 0)))
      have ea3 : (w1.alloc (.cells #[.slice xw (touchD m k).W.length yw, .slice xg (touchD m k).G.length yg, .bool (touchD m k).bad] 50 (0, 0))).cell? ⟨ba, oa + (k : Int).toNat * 1, none⟩ = some (.int .i64 (gi m.W k)) := by simpa using ea2
      have B6' := Box.new w1 #[.slice xw (touchD m k).W.length yw, .slice xg (touchD m k).G.length yg, .bool (touchD m k).bad] 50
      apply region_lit2 (T := [6]) (L := [1, 2, 3, 4, 5, 7]) (X := [w.heap.size + 1]) (G := [eqv _, eqv _, eqv _, eqv _, eqv _, eqv _, anyG, eqv _])
      case hm => kernel_rfl
      case hop =>
        refine ⟨?_, ?_, ?_, ?_, ?_, ?_, ?_, ?_, trivial⟩
        · intro a w hs hf hd
          have t6 := hf.off 6 (by kernel_rfl) rfl
          exact plain_ rfl (yes_eqv (o_load3 rfl Proofs.Try.underlying50 rfl (by kernel_rfl) t6 ((B6'.since hs rfl).cell rfl) ((B6'.since hs rfl).cell rfl) ((B6'.since hs rfl).cell rfl)) rfl)
        · intro a w1 w hs1 hs hf hd
          have t2 := hf.off 2 (by kernel_rfl) rfl
          exact plain_ rfl (late_eqv (o_fieldAddr rfl Proofs.Try.underlying50 rfl rfl (by kernel_rfl) t2) rfl)
        · intro a w1 w hs1 hs hf hd
          have t21 : a.eval (.tmp 21) = _ := hd.at 1 21 (by kernel_rfl)
          exact plain_ rfl (late_eqv (o_load1 rfl Proofs.Try.underlying48 rfl t21 ((B0'.since hs (by simp)).cell rfl)) rfl)
        · intro a w1 w hs1 hs hf hd
          have t1 := hf.off 1 (by kernel_rfl) rfl
          exact plain_ rfl (late_eqv (o_move rfl t1) rfl)
        · intro a w1 w hs1 hs hf hd
          have t22 : a.eval (.tmp 22) = _ := hd.at 2 22 (by kernel_rfl)
          have t23 : a.eval (.tmp 23) = _ := hd.at 3 23 (by kernel_rfl)
          exact plain_ rfl (late_eqv (o_indexAddr (sz := 1) rfl Proofs.Try.underlying48 (by kernel_rfl) t22 t23 (by omega) (by omega)) rfl)
        · intro a w1 w hs1 hs hf hd
          have t24 : a.eval (.tmp 24) = _ := hd.at 4 24 (by kernel_rfl)
          exact plain_ rfl (late_eqv (o_load1 rfl Proofs.Try.underlying3 rfl t24 (cell_since ea3 hs (by simp; omega))) rfl)
        · intro a w1 w hs1 hs hf hd hrun
          have t4 := hf.off 4 (by kernel_rfl) rfl
          have t20 : a.eval (.tmp 20) = _ := hd.at 0 20 (by kernel_rfl)
          subst hrun; exact ⟨_, o_store rfl t4 t20 (B1'.since hs1 rfl) (by kernel_rfl) (by simp [Value.cells, Value.oneCell']) (by simp [Value.cells]) rfl, Since.put hs (.inr (by simp))⟩
        · intro a w1 w hs1 hs hf hd
          have t25 : a.eval (.tmp 25) = _ := hd.at 5 25 (by kernel_rfl)
          exact plain_ rfl (late_eqv (o_assign rfl t25) rfl)
      case hG => exact ⟨stable_eqv _, stable_eqv _, stable_eqv _, stable_eqv _, stable_eqv _, stable_eqv _, stable_any, stable_eqv _, trivial⟩
      case hc => kernel_rfl
      case hfin =>
        intro w2 hs
        rintro _ rfl _ rfl _ rfl _ rfl _ rfl _ rfl _ rfl
        rintro w3 ⟨o, w4, ho, hr, rfl⟩
        cases ho
        simp only [Act.put, List.setIfInBounds_toArray, List.set_cons_zero, List.set_cons_succ] at hr ⊢
        cases (hr.symm.trans (o_store (v := .agg #[.slice xw (touchD m k).W.length yw, .slice xg (touchD m k).G.length yg, .bool (touchD m k).bad]) (new := #[.slice xw (touchD m k).W.length yw, .slice xg (touchD m k).G.length yg, .bool (touchD m k).bad]) rfl rfl rfl (B1'.since hs rfl) (by kernel_rfl) (by simp [Value.cells, Value.oneCell']) (by simp [Value.cells]) rfl))
        go_wp2
        have hE3 : Ext w w2 := (show Ext w w1 from (by with_reducible (repeat (first | assumption | exact Ext.refl _ | refine Ext.alloc' ?_ _ | refine Ext.store0 ?_ _ _ | refine Ext.storek ?_ _ _ _ | refine Ext.stores0 ?_ ?_ _ _ | refine Ext.storesk ?_ ?_ _ _ _ | refine Ext.drewN' ?_ _ | refine Ext.drew' ?_ | refine Ext.trans ?_ (by assumption))))).trans ((Ext.alloc _ _).trans (Since.to_ext hs))
        have hE4 : Ext w (put w2 (w.heap.size + 1) (.cells #[.slice xw (touchD m k).W.length yw, .slice xg (touchD m k).G.length yg, .bool (touchD m k).bad] 50 (0, 0))) := Since.to_ext ((Since.of_ext hE3).put (.inl (by omega)))
        have hK : Keep (Bx N w.heap.size (w.heap.size + 2)) w1 (put w2 (w.heap.size + 1) (.cells #[.slice xw (touchD m k).W.length yw, .slice xg (touchD m k).G.length yg, .bool (touchD m k).bad] 50 (0, 0))) := (((Keep.refl _ _).alloc _).ext (Since.to_ext hs)).put _ _ (.inr (Bx.mem (by omega) (by omega)))
        have hl : loadD m k = gi m.W k := by unfold loadD; rw [if_neg (by simp [outside]; omega)]; simp
        refine bodyPost_ret (ret_cell_tmp ((B1'.since hs rfl).put) Proofs.Try.results64 rfl Proofs.Try.underlying50 rfl (by kernel_rfl)) rfl ⟨_, rfl, hE4, _, by rw [hl]; rfl, ?_⟩
        have hsz : ((w.alloc (Obj.cells #[.slice (some ⟨ba, oa, none⟩) m.W.length cw, .slice ag m.G.length cg, .bool m.bad] 50)).alloc (Obj.cells #[.slice none 0 0, .slice none 0 0, .bool false] 50)).heap.size = w.heap.size + 2 := by simp
        rw [hsz] at hxw hxg
        exact IsMem.back ⟨_, _, rfl, hxw.keep hK, hxg.keep hK⟩

end Go.Proofs.Ytcfbdfgondmkoaa
