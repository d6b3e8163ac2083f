/- Arenas: a new one. -/
import Derived.Test.YtcfbdfgondmkoaaAr17
namespace Go.Proofs.Ytcfbdfgondmkoaa
open Go Go.RowKit
set_option linter.unusedSimpArgs false
set_option linter.unusedVariables false
set_option linter.unnecessarySimpa false

def isRow (B n : Nat) : GP := fun v w => ∃ b, v = .slice (some ⟨b, 0, none⟩) n n ∧ B ≤ b ∧ Own w v (List.replicate n 0) b
theorem stable_isRow (B n : Nat) : Stable (isRow B n) := fun _ _ _ ⟨b, h1, h2, h3⟩ hx => ⟨b, h1, h2, h3.ext hx⟩
def isFresh (B n : Nat) : GP := fun v w => ∃ b1 b2, v = .agg #[.slice (some ⟨b1, 0, none⟩) (128 + 4 * n) (128 + 4 * n), .slice (some ⟨b2, 0, none⟩) (n + 1) (n + 1), .bool false] ∧ B ≤ b1 ∧ B ≤ b2 ∧
  Own w (.slice (some ⟨b1, 0, none⟩) (128 + 4 * n) (128 + 4 * n)) (List.replicate (128 + 4 * n) 0) b1 ∧ Own w (.slice (some ⟨b2, 0, none⟩) (n + 1) (n + 1)) (List.replicate (n + 1) 0) b2
theorem stable_isFresh (B n : Nat) : Stable (isFresh B n) := fun _ _ _ ⟨b1, b2, h1, h2, h3, h4, h5⟩ hx => ⟨b1, b2, h1, h2, h3, h4.ext hx, h5.ext hx⟩
theorem yes_make {o : Oper} {a : Act} {w : World} {x y : Operand} {z : Int} {n B : Nat} (ho : o.op = .makeSlice 48 x y) (hx : a.eval x = .int .i64 z) (hy : a.eval y = .int .i64 z) (hz : z = (n : Nat)) (h : n ≤ 100000) (hd : o.dst.isSome = true) (hB : B ≤ w.heap.size) :
    Yes Proofs.Try.prog o a w (isRow B n) := by
  subst hz
  refine yes_val (v := .slice (some ⟨w.heap.size, 0, none⟩) n n) (w' := w.alloc (.cells (zeros n) 3)) ?_ (Ext.alloc _ _) ⟨_, rfl, hB, Own.made w n h⟩ hd
  have := run_mk48 n h w
  simp [execOp, ho, hx, hy, this]
theorem runs_ok {P : Program} {o : Oper} {a : Act} {w : World} {v : Value} (h : Runs P o a w v) : (execOp a.eval o).run P w = .ok (.value v) w := h
def newD (x : Int) : Arena := if 1 ≤ x ∧ x ≤ 200 then ⟨List.replicate (128 + 4 * x.toNat) 0, List.replicate (x.toNat + 1) 0, false⟩ else ⟨[], [], false⟩
def newE (x : Int) : Int := if 1 ≤ x ∧ x ≤ 200 then 0 else 1

set_option maxHeartbeats 400000 in
set_option maxRecDepth 100000 in
theorem memNew_ (N : Nat → Prop) (x : Int) (w : World) (hN : ∀ b, N b → b < w.heap.size) : Gives Proofs.Try.prog 51 #[.int .i64 x] w (fun r w' => ∃ u, r = .tuple #[u, .int .i64 (newE x)] ∧ IsMem N w' u (newD x)) := by
  by_cases h1 : x < 1
  · have hd : newD x = ⟨[], [], false⟩ := by unfold newD; rw [if_neg (by omega)]
    have he : newE x = 1 := by unfold newE; rw [if_neg (by omega)]
    rw [hd, he]
    go_enter Proofs.Try.func51, Proofs.Try.ntmps51
    go_wp2
    exact bodyPost_ret (ret_cell_tmp (Box.new _ _ _) Proofs.Try.results51 rfl Proofs.Try.underlying50 rfl (by kernel_rfl)) rfl ⟨_, rfl, (by with_reducible (repeat (first | assumption | exact Ext.refl _ | refine Ext.alloc' ?_ _ | refine Ext.store0 ?_ _ _ | refine Ext.storek ?_ _ _ _ | refine Ext.stores0 ?_ ?_ _ _ | refine Ext.storesk ?_ ?_ _ _ _ | refine Ext.store ?_ _ _ (by first | omega | (dsimp only; omega)) | refine Ext.drewN' ?_ _ | refine Ext.drew' ?_ | refine Ext.trans ?_ (by assumption)))), _, rfl, ⟨_, _, rfl, ⟨none, 0, rfl, by simp, by omega, fun _ => rfl, fun i hi => by simp at hi⟩, ⟨none, 0, rfl, by simp, by omega, fun _ => rfl, fun i hi => by simp at hi⟩⟩⟩
  · by_cases h2 : 200 < x
    · have hd : newD x = ⟨[], [], false⟩ := by unfold newD; rw [if_neg (by omega)]
      have he : newE x = 1 := by unfold newE; rw [if_neg (by omega)]
      rw [hd, he]
      go_enter Proofs.Try.func51, Proofs.Try.ntmps51
      go_wp2
      exact bodyPost_ret (ret_cell_tmp (Box.new _ _ _) Proofs.Try.results51 rfl Proofs.Try.underlying50 rfl (by kernel_rfl)) rfl ⟨_, rfl, (by with_reducible (repeat (first | assumption | exact Ext.refl _ | refine Ext.alloc' ?_ _ | refine Ext.store0 ?_ _ _ | refine Ext.storek ?_ _ _ _ | refine Ext.stores0 ?_ ?_ _ _ | refine Ext.storesk ?_ ?_ _ _ _ | refine Ext.store ?_ _ _ (by first | omega | (dsimp only; omega)) | refine Ext.drewN' ?_ _ | refine Ext.drew' ?_ | refine Ext.trans ?_ (by assumption)))), _, rfl, ⟨_, _, rfl, ⟨none, 0, rfl, by simp, by omega, fun _ => rfl, fun i hi => by simp at hi⟩, ⟨none, 0, rfl, by simp, by omega, fun _ => rfl, fun i hi => by simp at hi⟩⟩⟩
    · obtain ⟨n, rfl⟩ : ∃ n : Nat, x = n := ⟨x.toNat, by omega⟩
      have hd : newD n = ⟨List.replicate (128 + 4 * n) 0, List.replicate (n + 1) 0, false⟩ := by unfold newD; rw [if_pos (by omega)]; simp
      have he : newE n = 0 := by unfold newE; rw [if_pos (by omega)]
      rw [hd, he]
      go_enter Proofs.Try.func51, Proofs.Try.ntmps51
      go_wp2_with (fail)
      obtain ⟨W, hW⟩ : ∃ W, W = w.alloc (Obj.cells #[.slice none 0 0, .slice none 0 0, .bool false] 50) := ⟨_, rfl⟩
      have hEW : Ext w W := by rw [hW]; exact (by with_reducible (repeat (first | assumption | exact Ext.refl _ | refine Ext.alloc' ?_ _ | refine Ext.store0 ?_ _ _ | refine Ext.storek ?_ _ _ _ | refine Ext.stores0 ?_ ?_ _ _ | refine Ext.storesk ?_ ?_ _ _ _ | refine Ext.store ?_ _ _ (by first | omega | (dsimp only; omega)) | refine Ext.drewN' ?_ _ | refine Ext.drew' ?_ | refine Ext.trans ?_ (by assumption))))
      have hsz : W.heap.size = w.heap.size + 1 := by rw [hW]; simp
      have B0 : Box W w.heap.size #[.slice none 0 0, .slice none 0 0, .bool false] 50 := by rw [hW]; exact Box.new _ _ _
      rw [← hW]
      clear hW
      apply region_lit2 (T := [8]) (L := [9]) (X := [w.heap.size]) (G := [eqv _, eqv (.int .i64 (4 * (n : Int))), eqv (.int .i64 (128 + 4 * (n : Int))), isRow W.heap.size (128 + 4 * n), eqv _, eqv (.int .i64 ((n : Int) + 1)), isRow W.heap.size (n + 1), isFresh W.heap.size n, anyG, eqv _])
      case hm => kernel_rfl
      case hop =>
        refine ⟨?_, ?_, ?_, ?_, ?_, ?_, ?_, ?_, ?_, ?_, trivial⟩
        · intro a wa hs hf hd
          have t0 := hf.off 0 (by kernel_rfl) rfl
          exact plain_ rfl (yes_eqv (o_move rfl t0) rfl)
        · intro a wa hs hf hd
          have t11 : a.eval (.tmp 11) = _ := hd.at 0 11 (by kernel_rfl)
          exact plain_ rfl (yes_eqv (o_mul rfl rfl t11 (by rw [IntKind.wrap_i64]; omega)) rfl)
        · intro a wa hs hf hd
          have t12 : a.eval (.tmp 12) = _ := hd.at 1 12 (by kernel_rfl)
          exact plain_ rfl (yes_eqv (o_add rfl rfl t12 (by rw [IntKind.wrap_i64]; omega)) rfl)
        · intro a wa hs hf hd
          have t13 : a.eval (.tmp 13) = _ := hd.at 2 13 (by kernel_rfl)
          exact plain_ rfl (yes_make rfl t13 t13 (by omega) (by omega) rfl hs.size)
        · intro a wa hs hf hd
          have t0 := hf.off 0 (by kernel_rfl) rfl
          exact plain_ rfl (yes_eqv (o_move rfl t0) rfl)
        · intro a wa hs hf hd
          have t15 : a.eval (.tmp 15) = _ := hd.at 4 15 (by kernel_rfl)
          exact plain_ rfl (yes_eqv (o_add rfl t15 rfl (by rw [IntKind.wrap_i64]; omega)) rfl)
        · intro a wa hs hf hd
          have t16 : a.eval (.tmp 16) = _ := hd.at 5 16 (by kernel_rfl)
          exact plain_ rfl (yes_make rfl t16 t16 (by omega) (by omega) rfl hs.size)
        · intro a wa hs hf hd
          have t14 := hd.at 3 14 (by kernel_rfl)
          have t17 := hd.at 6 17 (by kernel_rfl)
          obtain ⟨b1, hv1, h1, o1⟩ := t14
          obtain ⟨b2, hv2, h2, o2⟩ := t17
          exact plain_ rfl (yes_val (runs_ok (o_build (cells := #[.slice (some ⟨b1, 0, none⟩) (128 + 4 * n) (128 + 4 * n), .slice (some ⟨b2, 0, none⟩) (n + 1) (n + 1), .bool false]) rfl (by simp only [List.map_toArray, List.map_cons, List.map_nil, hv1, hv2]; first | done | rfl) rfl)) (Ext.refl _) ⟨b1, b2, rfl, h1, h2, by rw [← hv1]; exact o1, by rw [← hv2]; exact o2⟩ rfl)
        · intro a wb wa hs1 hs hf hd hrun
          have t2 := hf.off 2 (by kernel_rfl) rfl
          have t18 := hd.at 7 18 (by kernel_rfl)
          subst hrun; obtain ⟨b1, b2, hv, h1, h2, o1, o2⟩ := t18; exact ⟨_, o_store rfl t2 hv (B0.since hs1 rfl) (by kernel_rfl) (by simp [Value.cells, Value.oneCell']) (by simp [Value.cells]) rfl, Since.put hs (.inr (by simp))⟩
        · intro a wb wa hs1 hs hf hd
          exact plain_ rfl (late_eqv (o_assign rfl rfl) rfl)
      case hG => exact ⟨stable_eqv _, stable_eqv _, stable_eqv _, stable_isRow _ _, stable_eqv _, stable_eqv _, stable_isRow _ _, stable_isFresh _ _, stable_any, stable_eqv _, trivial⟩
      case hc => kernel_rfl
      case hfin =>
        intro w5 hs5
        rintro _ rfl _ rfl _ rfl _ ⟨b3, rfl, hb3, ho3⟩ _ rfl _ rfl _ ⟨b4, rfl, hb4, ho4⟩ _ ⟨b1, b2, rfl, hb1, hb2, ho1, ho2⟩ _ rfl
        rintro w6 ⟨o, w7, ho7, hr, rfl⟩
        cases ho7
        simp only [Act.put, List.setIfInBounds_toArray, List.set_cons_zero, List.set_cons_succ] at hr ⊢
        cases (hr.symm.trans (o_store (v := .agg #[.slice (some ⟨b1, 0, none⟩) (128 + 4 * n) (128 + 4 * n), .slice (some ⟨b2, 0, none⟩) (n + 1) (n + 1), .bool false]) (new := #[.slice (some ⟨b1, 0, none⟩) (128 + 4 * n) (128 + 4 * n), .slice (some ⟨b2, 0, none⟩) (n + 1) (n + 1), .bool false]) rfl rfl rfl (B0.since hs5 rfl) (by kernel_rfl) (by simp [Value.cells, Value.oneCell']) (by simp [Value.cells]) rfl))
        go_wp2
        have hE6 : Ext w (put w5 w.heap.size (.cells #[.slice (some ⟨b1, 0, none⟩) (128 + 4 * n) (128 + 4 * n), .slice (some ⟨b2, 0, none⟩) (n + 1) (n + 1), .bool false] 50 (0, 0))) := Since.to_ext ((Since.of_ext (hEW.trans (Since.to_ext hs5))).put (.inl (Nat.le_refl _)))
        have hK : Keep (Lo W.heap.size) w5 (put w5 w.heap.size (.cells #[.slice (some ⟨b1, 0, none⟩) (128 + 4 * n) (128 + 4 * n), .slice (some ⟨b2, 0, none⟩) (n + 1) (n + 1), .bool false] 50 (0, 0))) := (Keep.refl _ _).put _ _ (.inr (by show _ < _; omega))
        exact bodyPost_ret (ret_cell_tmp (B0.since hs5 rfl).put Proofs.Try.results51 rfl Proofs.Try.underlying50 rfl (by kernel_rfl)) rfl ⟨_, rfl, hE6, _, rfl, ⟨_, _, rfl, Own.ints (b := b1) (ho1.keep (N := Lo W.heap.size) hK (by show ¬ _ < _; omega)) (fun hx => absurd (hN _ hx) (by omega)), Own.ints (b := b2) (ho2.keep (N := Lo W.heap.size) hK (by show ¬ _ < _; omega)) (fun hx => absurd (hN _ hx) (by omega))⟩⟩

set_option maxHeartbeats 400000 in
set_option maxRecDepth 100000 in
theorem refNew_ (N : Nat → Prop) (x : Int) (w : World) (hN : ∀ b, N b → b < w.heap.size) : Gives Proofs.Try.prog 52 #[.int .i64 x] w (fun r w' => ∃ u, r = .tuple #[u, .int .i64 (newE x)] ∧ IsMem N w' u (newD x)) := by
  by_cases h1 : x < 1
  · have hd : newD x = ⟨[], [], false⟩ := by unfold newD; rw [if_neg (by omega)]
    have he : newE x = 1 := by unfold newE; rw [if_neg (by omega)]
    rw [hd, he]
    go_enter Proofs.Try.func52, Proofs.Try.ntmps52
    go_wp2
    exact bodyPost_ret (ret_cell_tmp (Box.new _ _ _) Proofs.Try.results52 rfl Proofs.Try.underlying50 rfl (by kernel_rfl)) rfl ⟨_, rfl, (by with_reducible (repeat (first | assumption | exact Ext.refl _ | refine Ext.alloc' ?_ _ | refine Ext.store0 ?_ _ _ | refine Ext.storek ?_ _ _ _ | refine Ext.stores0 ?_ ?_ _ _ | refine Ext.storesk ?_ ?_ _ _ _ | refine Ext.store ?_ _ _ (by first | omega | (dsimp only; omega)) | refine Ext.drewN' ?_ _ | refine Ext.drew' ?_ | refine Ext.trans ?_ (by assumption)))), _, rfl, ⟨_, _, rfl, ⟨none, 0, rfl, by simp, by omega, fun _ => rfl, fun i hi => by simp at hi⟩, ⟨none, 0, rfl, by simp, by omega, fun _ => rfl, fun i hi => by simp at hi⟩⟩⟩
  · by_cases h2 : 200 < x
    · have hd : newD x = ⟨[], [], false⟩ := by unfold newD; rw [if_neg (by omega)]
      have he : newE x = 1 := by unfold newE; rw [if_neg (by omega)]
      rw [hd, he]
      go_enter Proofs.Try.func52, Proofs.Try.ntmps52
      go_wp2
      exact bodyPost_ret (ret_cell_tmp (Box.new _ _ _) Proofs.Try.results52 rfl Proofs.Try.underlying50 rfl (by kernel_rfl)) rfl ⟨_, rfl, (by with_reducible (repeat (first | assumption | exact Ext.refl _ | refine Ext.alloc' ?_ _ | refine Ext.store0 ?_ _ _ | refine Ext.storek ?_ _ _ _ | refine Ext.stores0 ?_ ?_ _ _ | refine Ext.storesk ?_ ?_ _ _ _ | refine Ext.store ?_ _ _ (by first | omega | (dsimp only; omega)) | refine Ext.drewN' ?_ _ | refine Ext.drew' ?_ | refine Ext.trans ?_ (by assumption)))), _, rfl, ⟨_, _, rfl, ⟨none, 0, rfl, by simp, by omega, fun _ => rfl, fun i hi => by simp at hi⟩, ⟨none, 0, rfl, by simp, by omega, fun _ => rfl, fun i hi => by simp at hi⟩⟩⟩
    · obtain ⟨n, rfl⟩ : ∃ n : Nat, x = n := ⟨x.toNat, by omega⟩
      have hd : newD n = ⟨List.replicate (128 + 4 * n) 0, List.replicate (n + 1) 0, false⟩ := by unfold newD; rw [if_pos (by omega)]; simp
      have he : newE n = 0 := by unfold newE; rw [if_pos (by omega)]
      rw [hd, he]
      go_enter Proofs.Try.func52, Proofs.Try.ntmps52
      go_wp2_with (fail)
      obtain ⟨W, hW⟩ : ∃ W, W = w.alloc (Obj.cells #[.slice none 0 0, .slice none 0 0, .bool false] 50) := ⟨_, rfl⟩
      have hEW : Ext w W := by rw [hW]; exact (by with_reducible (repeat (first | assumption | exact Ext.refl _ | refine Ext.alloc' ?_ _ | refine Ext.store0 ?_ _ _ | refine Ext.storek ?_ _ _ _ | refine Ext.stores0 ?_ ?_ _ _ | refine Ext.storesk ?_ ?_ _ _ _ | refine Ext.store ?_ _ _ (by first | omega | (dsimp only; omega)) | refine Ext.drewN' ?_ _ | refine Ext.drew' ?_ | refine Ext.trans ?_ (by assumption))))
      have hsz : W.heap.size = w.heap.size + 1 := by rw [hW]; simp
      have B0 : Box W w.heap.size #[.slice none 0 0, .slice none 0 0, .bool false] 50 := by rw [hW]; exact Box.new _ _ _
      rw [← hW]
      clear hW
      apply region_lit2 (T := [8]) (L := [9]) (X := [w.heap.size]) (G := [eqv _, eqv (.int .i64 (4 * (n : Int))), eqv (.int .i64 (128 + 4 * (n : Int))), isRow W.heap.size (128 + 4 * n), eqv _, eqv (.int .i64 ((n : Int) + 1)), isRow W.heap.size (n + 1), isFresh W.heap.size n, anyG, eqv _])
      case hm => kernel_rfl
      case hop =>
        refine ⟨?_, ?_, ?_, ?_, ?_, ?_, ?_, ?_, ?_, ?_, trivial⟩
        · intro a wa hs hf hd
          have t0 := hf.off 0 (by kernel_rfl) rfl
          exact plain_ rfl (yes_eqv (o_move rfl t0) rfl)
        · intro a wa hs hf hd
          have t11 : a.eval (.tmp 11) = _ := hd.at 0 11 (by kernel_rfl)
          exact plain_ rfl (yes_eqv (o_mul rfl rfl t11 (by rw [IntKind.wrap_i64]; omega)) rfl)
        · intro a wa hs hf hd
          have t12 : a.eval (.tmp 12) = _ := hd.at 1 12 (by kernel_rfl)
          exact plain_ rfl (yes_eqv (o_add rfl rfl t12 (by rw [IntKind.wrap_i64]; omega)) rfl)
        · intro a wa hs hf hd
          have t13 : a.eval (.tmp 13) = _ := hd.at 2 13 (by kernel_rfl)
          exact plain_ rfl (yes_make rfl t13 t13 (by omega) (by omega) rfl hs.size)
        · intro a wa hs hf hd
          have t0 := hf.off 0 (by kernel_rfl) rfl
          exact plain_ rfl (yes_eqv (o_move rfl t0) rfl)
        · intro a wa hs hf hd
          have t15 : a.eval (.tmp 15) = _ := hd.at 4 15 (by kernel_rfl)
          exact plain_ rfl (yes_eqv (o_add rfl t15 rfl (by rw [IntKind.wrap_i64]; omega)) rfl)
        · intro a wa hs hf hd
          have t16 : a.eval (.tmp 16) = _ := hd.at 5 16 (by kernel_rfl)
          exact plain_ rfl (yes_make rfl t16 t16 (by omega) (by omega) rfl hs.size)
        · intro a wa hs hf hd
          have t14 := hd.at 3 14 (by kernel_rfl)
          have t17 := hd.at 6 17 (by kernel_rfl)
          obtain ⟨b1, hv1, h1, o1⟩ := t14
          obtain ⟨b2, hv2, h2, o2⟩ := t17
          exact plain_ rfl (yes_val (runs_ok (o_build (cells := #[.slice (some ⟨b1, 0, none⟩) (128 + 4 * n) (128 + 4 * n), .slice (some ⟨b2, 0, none⟩) (n + 1) (n + 1), .bool false]) rfl (by simp only [List.map_toArray, List.map_cons, List.map_nil, hv1, hv2]; first | done | rfl) rfl)) (Ext.refl _) ⟨b1, b2, rfl, h1, h2, by rw [← hv1]; exact o1, by rw [← hv2]; exact o2⟩ rfl)
        · intro a wb wa hs1 hs hf hd hrun
          have t2 := hf.off 2 (by kernel_rfl) rfl
          have t18 := hd.at 7 18 (by kernel_rfl)
          subst hrun; obtain ⟨b1, b2, hv, h1, h2, o1, o2⟩ := t18; exact ⟨_, o_store rfl t2 hv (B0.since hs1 rfl) (by kernel_rfl) (by simp [Value.cells, Value.oneCell']) (by simp [Value.cells]) rfl, Since.put hs (.inr (by simp))⟩
        · intro a wb wa hs1 hs hf hd
          exact plain_ rfl (late_eqv (o_assign rfl rfl) rfl)
      case hG => exact ⟨stable_eqv _, stable_eqv _, stable_eqv _, stable_isRow _ _, stable_eqv _, stable_eqv _, stable_isRow _ _, stable_isFresh _ _, stable_any, stable_eqv _, trivial⟩
      case hc => kernel_rfl
      case hfin =>
        intro w5 hs5
        rintro _ rfl _ rfl _ rfl _ ⟨b3, rfl, hb3, ho3⟩ _ rfl _ rfl _ ⟨b4, rfl, hb4, ho4⟩ _ ⟨b1, b2, rfl, hb1, hb2, ho1, ho2⟩ _ rfl
        rintro w6 ⟨o, w7, ho7, hr, rfl⟩
        cases ho7
        simp only [Act.put, List.setIfInBounds_toArray, List.set_cons_zero, List.set_cons_succ] at hr ⊢
        cases (hr.symm.trans (o_store (v := .agg #[.slice (some ⟨b1, 0, none⟩) (128 + 4 * n) (128 + 4 * n), .slice (some ⟨b2, 0, none⟩) (n + 1) (n + 1), .bool false]) (new := #[.slice (some ⟨b1, 0, none⟩) (128 + 4 * n) (128 + 4 * n), .slice (some ⟨b2, 0, none⟩) (n + 1) (n + 1), .bool false]) rfl rfl rfl (B0.since hs5 rfl) (by kernel_rfl) (by simp [Value.cells, Value.oneCell']) (by simp [Value.cells]) rfl))
        go_wp2
        have hE6 : Ext w (put w5 w.heap.size (.cells #[.slice (some ⟨b1, 0, none⟩) (128 + 4 * n) (128 + 4 * n), .slice (some ⟨b2, 0, none⟩) (n + 1) (n + 1), .bool false] 50 (0, 0))) := Since.to_ext ((Since.of_ext (hEW.trans (Since.to_ext hs5))).put (.inl (Nat.le_refl _)))
        have hK : Keep (Lo W.heap.size) w5 (put w5 w.heap.size (.cells #[.slice (some ⟨b1, 0, none⟩) (128 + 4 * n) (128 + 4 * n), .slice (some ⟨b2, 0, none⟩) (n + 1) (n + 1), .bool false] 50 (0, 0))) := (Keep.refl _ _).put _ _ (.inr (by show _ < _; omega))
        exact bodyPost_ret (ret_cell_tmp (B0.since hs5 rfl).put Proofs.Try.results52 rfl Proofs.Try.underlying50 rfl (by kernel_rfl)) rfl ⟨_, rfl, hE6, _, rfl, ⟨_, _, rfl, Own.ints (b := b1) (ho1.keep (N := Lo W.heap.size) hK (by show ¬ _ < _; omega)) (fun hx => absurd (hN _ hx) (by omega)), Own.ints (b := b2) (ho2.keep (N := Lo W.heap.size) hK (by show ¬ _ < _; omega)) (fun hx => absurd (hN _ hx) (by omega))⟩⟩
end Go.Proofs.Ytcfbdfgondmkoaa
