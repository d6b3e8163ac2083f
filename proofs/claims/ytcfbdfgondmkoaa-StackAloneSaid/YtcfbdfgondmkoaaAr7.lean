/- Arenas: whose a place is, by the document; counts, by the document. -/
import Derived.Test.YtcfbdfgondmkoaaAr6
namespace Go.Proofs.Ytcfbdfgondmkoaa
open Go Go.RowKit
set_option linter.unusedSimpArgs false
set_option linter.unusedVariables false

theorem nodeD_none {m : Arena} (h : Fits m) {x : Int} (hn : ∀ i k : Nat, 1 ≤ i → i < m.G.length → 1 ≤ k → k < 4 → x ≠ 128 + 4 * ((i : Int) - 1) + k) : nodeD m.W.length x = 0 := by
  obtain ⟨h1, h2, h3⟩ := h
  unfold nodeD
  split
  · rfl
  · rename_i hc
    exact absurd (show x = 128 + 4 * ((((x - 128) / 4 + 1).toNat : Int) - 1) + (((x - 128) % 4).toNat : Int) by omega) (hn _ _ (by omega) (by omega) (by omega) (by omega))
theorem nodeD_some {m : Arena} (h : Fits m) {i k : Nat} (h1 : 1 ≤ i) (h2 : i < m.G.length) (h3 : 1 ≤ k) (h4 : k < 4) : nodeD m.W.length (128 + 4 * ((i : Int) - 1) + k) = i := by
  obtain ⟨e1, e2, e3⟩ := h
  unfold nodeD
  split <;> omega
theorem refNode_ (N : Nat → Prop) (v : Value) (m : Arena) (x : Int) (w : World) (h : IsMem N w v m) (hf : Fits m) : Gives Proofs.Try.prog 60 #[v, .int .i64 x] w (eqv (.int .i64 (nodeD m.W.length x))) := by
  obtain ⟨vw, vg, rfl, hw, hg⟩ := h
  obtain ⟨ag, cg, rfl, rg, lg, cgc⟩ := hg.opened
  have hlen := hf.2.2
  go_enter Proofs.Try.func60, Proofs.Try.ntmps60
  go_wp2
  go_loopw [5] (fun ii wr => ∃ i : Nat, 1 ≤ i ∧ i ≤ m.G.length ∧ ii = .int .i64 i ∧ (∀ i' k : Nat, 1 ≤ i' → i' < i → 1 ≤ k → k < 4 → x ≠ 128 + 4 * ((i' : Int) - 1) + k) ∧ Ext w wr ∧ Box wr w.heap.size #[vw, .slice ag m.G.length cg, .bool m.bad] 50) (fun ii _ => m.G.length - (intOf ii).toNat)
  case atStart => exact ⟨1, Nat.le_refl _, hf.2.1, rfl, fun i' k _ _ => by omega, (by with_reducible (repeat (first | assumption | exact Ext.refl _ | refine Ext.alloc' ?_ _ | refine Ext.store0 ?_ _ _ | refine Ext.storek ?_ _ _ _ | refine Ext.stores0 ?_ ?_ _ _ | refine Ext.storesk ?_ ?_ _ _ _ | refine Ext.drewN' ?_ _ | refine Ext.drew' ?_ | refine Ext.trans ?_ (by assumption)))), Box.new _ _ _⟩
  case round =>
    obtain ⟨i, hi, hi2, rfl, hall, hE, hB⟩ := hrel
    rename World => wo
    obtain ⟨c0, c1, c2, d0, d1, d2⟩ := cells3 hB
    by_cases hlt : i < m.G.length
    · have hlt1 : (i : Int) < (m.G.length : Int) := by omega
      go_wp2
      go_loopw [6] (fun kk wr' => ∃ k : Nat, 1 ≤ k ∧ k ≤ 4 ∧ kk = .int .i64 k ∧ (∀ k' : Nat, 1 ≤ k' → k' < k → x ≠ 128 + 4 * ((i : Int) - 1) + k') ∧ Ext wo wr') (fun kk _ => 4 - (intOf kk).toNat)
      case atStart => exact ⟨1, Nat.le_refl _, by omega, rfl, fun k' _ _ => by omega, Ext.refl _⟩
      case round =>
        obtain ⟨k, hk, hk2, rfl, hall2, hE2⟩ := hrel
        have hEw : Ext w wo := hE
        by_cases hlt2 : k < 4
        · have hlt2' : (k : Int) < 4 := by omega
          have ca := refAt_ i k
          by_cases heq : 128 + 4 * ((i : Int) - 1) + k = x
          · go_wp2_with (fail)
            go_at_call 58
            refine (refAt_ i k _ (by omega) (by omega) (by omega) (by omega)).calls.mono ?_
            rintro e w1 ⟨_, rfl, hb1, rfl⟩
            rw [heq]
            go_wp2
            go_ret
            exact ⟨_, rfl, (by with_reducible (repeat (first | assumption | exact Ext.refl _ | refine Ext.alloc' ?_ _ | refine Ext.store0 ?_ _ _ | refine Ext.storek ?_ _ _ _ | refine Ext.stores0 ?_ ?_ _ _ | refine Ext.storesk ?_ ?_ _ _ _ | refine Ext.drewN' ?_ _ | refine Ext.drew' ?_ | refine Ext.trans ?_ (by assumption)))), by rw [← heq, nodeD_some hf hi hlt hk hlt2]; rfl⟩
          · have heq1 : (128 + 4 * ((i : Int) - 1) + k == x) = false := by simp [heq]
            go_wp2_with (fail)
            go_at_call 58
            refine (refAt_ i k _ (by omega) (by omega) (by omega) (by omega)).calls.mono ?_
            rintro e w1 ⟨_, rfl, hb1, rfl⟩
            go_wp2
            go_roundw
            case rel => exact ⟨k + 1, by omega, by omega, by simp, fun k' h1 h2 => (Nat.lt_succ_iff_lt_or_eq.1 h2).elim (hall2 k' h1) (fun h => by subst h; exact fun e => heq e.symm), (by with_reducible (repeat (first | assumption | exact Ext.refl _ | refine Ext.alloc' ?_ _ | refine Ext.store0 ?_ _ _ | refine Ext.storek ?_ _ _ _ | refine Ext.stores0 ?_ ?_ _ _ | refine Ext.storesk ?_ ?_ _ _ _ | refine Ext.drewN' ?_ _ | refine Ext.drew' ?_ | refine Ext.trans ?_ (by assumption))))⟩
            case measure => simp [intOf]; omega
        · have hlt2' : ¬ (k : Int) < 4 := by omega
          go_wp2
          go_roundw
          case rel => exact ⟨i + 1, by omega, by omega, by simp, fun i' k' h1 h2 h3 h4 => (Nat.lt_succ_iff_lt_or_eq.1 h2).elim (fun h => hall i' k' h1 h h3 h4) (fun h => by subst h; exact hall2 k' h3 (by omega)), (by with_reducible (repeat (first | assumption | exact Ext.refl _ | refine Ext.alloc' ?_ _ | refine Ext.store0 ?_ _ _ | refine Ext.storek ?_ _ _ _ | refine Ext.stores0 ?_ ?_ _ _ | refine Ext.storesk ?_ ?_ _ _ _ | refine Ext.drewN' ?_ _ | refine Ext.drew' ?_ | refine Ext.trans ?_ (by assumption)))), hB.ext hE2⟩
          case measure => simp [intOf]; omega
    · have hlt1 : ¬ (i : Int) < (m.G.length : Int) := by omega
      go_wp2
      go_ret
      exact ⟨_, rfl, (by with_reducible (repeat (first | assumption | exact Ext.refl _ | refine Ext.alloc' ?_ _ | refine Ext.store0 ?_ _ _ | refine Ext.storek ?_ _ _ _ | refine Ext.stores0 ?_ ?_ _ _ | refine Ext.storesk ?_ ?_ _ _ _ | refine Ext.drewN' ?_ _ | refine Ext.drew' ?_ | refine Ext.trans ?_ (by assumption)))), by rw [nodeD_none hf fun i' k h1 h2 h3 h4 => hall i' k h1 (by omega) h3 h4]; rfl⟩
theorem refCount_ (N : Nat → Prop) (v : Value) (m : Arena) (x : Int) (w : World) (h : IsMem N w v m) (hG : 1 ≤ m.G.length) : Gives Proofs.Try.prog 62 #[v, .int .i64 x] w (eqv (.int .i64 (countD m.G 1 x))) := by
  obtain ⟨vw, vg, rfl, hw, hg⟩ := h
  obtain ⟨ag, cg, rfl, rg, lg, cgc⟩ := hg.opened
  go_enter Proofs.Try.func62, Proofs.Try.ntmps62
  go_wp2
  go_loopw [5, 6] (fun nn kk wr => ∃ k n : Nat, 1 ≤ k ∧ k ≤ m.G.length ∧ kk = .int .i64 k ∧ nn = .int .i64 n ∧ n + countD m.G k x = countD m.G 1 x ∧ n ≤ k ∧ Ext w wr ∧ Box wr w.heap.size #[vw, .slice ag m.G.length cg, .bool m.bad] 50) (fun _ kk _ => m.G.length - (intOf kk).toNat)
  case atStart => exact ⟨1, 0, Nat.le_refl _, hG, rfl, rfl, Nat.zero_add _, by omega, (by with_reducible (repeat (first | assumption | exact Ext.refl _ | refine Ext.alloc' ?_ _ | refine Ext.store0 ?_ _ _ | refine Ext.storek ?_ _ _ _ | refine Ext.stores0 ?_ ?_ _ _ | refine Ext.storesk ?_ ?_ _ _ _ | refine Ext.drewN' ?_ _ | refine Ext.drew' ?_ | refine Ext.trans ?_ (by assumption)))), Box.new _ _ _⟩
  case round =>
    obtain ⟨k, n, hk1, hk, rfl, rfl, hn, hnk, hE, hB⟩ := hrel
    obtain ⟨c0, c1, c2, d0, d1, d2⟩ := cells3 hB
    by_cases hlt : k < m.G.length
    · have hlt1 : (k : Int) < (m.G.length : Int) := by omega
      obtain ⟨ba, oa, rfl, xb, nb, eb⟩ := cgc k hlt
      have eb' := cell_ext eb hE
      have hc := count_at (G := m.G) (k := k) (by omega) x
      by_cases heq : gi m.G k = x
      · rw [if_pos heq] at hc
        have heq1 : (gi m.G k == x) = true := by simp [heq]
        go_wp2
        go_roundw
        case rel => exact ⟨k + 1, n + 1, by omega, by omega, by simp, by simp, by omega, by omega, (by with_reducible (repeat (first | assumption | exact Ext.refl _ | refine Ext.alloc' ?_ _ | refine Ext.store0 ?_ _ _ | refine Ext.storek ?_ _ _ _ | refine Ext.stores0 ?_ ?_ _ _ | refine Ext.storesk ?_ ?_ _ _ _ | refine Ext.drewN' ?_ _ | refine Ext.drew' ?_ | refine Ext.trans ?_ (by assumption)))), hB⟩
        case measure => simp [intOf]; omega
      · rw [if_neg heq] at hc
        have heq1 : (gi m.G k == x) = false := by simp [heq]
        go_wp2
        go_roundw
        case rel => exact ⟨k + 1, n, by omega, by omega, by simp, by simp, by omega, by omega, (by with_reducible (repeat (first | assumption | exact Ext.refl _ | refine Ext.alloc' ?_ _ | refine Ext.store0 ?_ _ _ | refine Ext.storek ?_ _ _ _ | refine Ext.stores0 ?_ ?_ _ _ | refine Ext.storesk ?_ ?_ _ _ _ | refine Ext.drewN' ?_ _ | refine Ext.drew' ?_ | refine Ext.trans ?_ (by assumption)))), hB⟩
        case measure => simp [intOf]; omega
    · have hlt1 : ¬ (k : Int) < (m.G.length : Int) := by omega
      rw [count_end (show m.G.length ≤ k by omega)] at hn
      have hn' : countD m.G 1 x = n := by omega
      go_wp2
      go_ret
      exact ⟨_, rfl, (by with_reducible (repeat (first | assumption | exact Ext.refl _ | refine Ext.alloc' ?_ _ | refine Ext.store0 ?_ _ _ | refine Ext.storek ?_ _ _ _ | refine Ext.stores0 ?_ ?_ _ _ | refine Ext.storesk ?_ ?_ _ _ _ | refine Ext.drewN' ?_ _ | refine Ext.drew' ?_ | refine Ext.trans ?_ (by assumption)))), by first | rfl | (rw [hn']; rfl)⟩
end Go.Proofs.Ytcfbdfgondmkoaa
