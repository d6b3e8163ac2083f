/- Arenas: places, counts, what may be turned. -/
import Derived.Test.YtcfbdfgondmkoaaArena
import Derived.Test.YtcfbdfgondmkoaaEqA
namespace Go.Proofs.Ytcfbdfgondmkoaa
open Go Go.RowKit
set_option linter.unusedSimpArgs false
set_option linter.unusedVariables false

theorem atF_ (n k : Int) (w : World) (h0 : -1000000000000 ≤ n) (h1 : n ≤ 1000000000000) (h2 : -1000000000000 ≤ k) (h3 : k ≤ 1000000000000) : Gives Proofs.Try.prog 57 #[.int .i64 n, .int .i64 k] w (eqv (.int .i64 (128 + 4 * (n - 1) + k))) := by
  go_enter Proofs.Try.func57, Proofs.Try.ntmps57
  go_wp2
  go_ret
  exact ⟨_, rfl, (by repeat (first | assumption | exact Ext.refl _ | refine Ext.trans ?_ (Ext.alloc _ _) | refine Ext.trans ?_ (Ext.drewN _ _) | refine Ext.trans ?_ (Ext.drew _) | refine Ext.trans ?_ (by assumption))), rfl⟩
theorem refAt_ (n k : Int) (w : World) (h0 : -1000000000000 ≤ n) (h1 : n ≤ 1000000000000) (h2 : -1000000000000 ≤ k) (h3 : k ≤ 1000000000000) : Gives Proofs.Try.prog 58 #[.int .i64 n, .int .i64 k] w (eqv (.int .i64 (128 + 4 * (n - 1) + k))) := by
  go_enter Proofs.Try.func58, Proofs.Try.ntmps58
  go_wp2
  go_ret
  exact ⟨_, rfl, (by repeat (first | assumption | exact Ext.refl _ | refine Ext.trans ?_ (Ext.alloc _ _) | refine Ext.trans ?_ (Ext.drewN _ _) | refine Ext.trans ?_ (Ext.drew _) | refine Ext.trans ?_ (by assumption))), rfl⟩

/-- are two pairs the same? -/
def pairEq (a b c d : Int) : Bool := decide (a = c ∧ b = d)
@[go_sem] theorem run_pair (a b c d : Int) (w : World) : (Op.equalIn 10000 75 (.agg #[.int .i64 a, .int .i64 b]) (.agg #[.int .i64 c, .int .i64 d])).run Proofs.Try.prog w = .ok (pairEq a b c d) w := by
  have := run_equalIn_ints (P := Proofs.Try.prog) w Proofs.Try.underlying3 9998 [a, b] [c, d] rfl Proofs.Try.underlying75 (by kernel_rfl)
  simpa [ints, pairEq] using this
/-- may a node be made something else? -/
def turnD (f t : Int) : Bool := pairEq f t 0 1 || pairEq f t 1 2 || pairEq f t 1 0 || pairEq f t 2 0
set_option maxRecDepth 100000 in
theorem turns_ (f t : Int) (w : World) : Gives Proofs.Try.prog 126 #[.int .i64 f, .int .i64 t] w (eqv (.bool (turnD f t))) := by
  cases h1 : pairEq f t 0 1
  · cases h2 : pairEq f t 1 2
    · cases h3 : pairEq f t 1 0
      · cases h4 : pairEq f t 2 0
        · go_enter Proofs.Try.func126, Proofs.Try.ntmps126
          go_wp2
          go_ret
          exact ⟨_, rfl, (by repeat (first | assumption | exact Ext.refl _ | refine Ext.trans ?_ (Ext.alloc _ _) | refine Ext.trans ?_ (Ext.drewN _ _) | refine Ext.trans ?_ (Ext.drew _) | refine Ext.trans ?_ (by assumption))), by simp [turnD, h1, h2, h3, h4, eqv]⟩
        · go_enter Proofs.Try.func126, Proofs.Try.ntmps126
          go_wp2
          go_ret
          exact ⟨_, rfl, (by repeat (first | assumption | exact Ext.refl _ | refine Ext.trans ?_ (Ext.alloc _ _) | refine Ext.trans ?_ (Ext.drewN _ _) | refine Ext.trans ?_ (Ext.drew _) | refine Ext.trans ?_ (by assumption))), by simp [turnD, h1, h2, h3, h4, eqv]⟩
      · go_enter Proofs.Try.func126, Proofs.Try.ntmps126
        go_wp2
        go_ret
        exact ⟨_, rfl, (by repeat (first | assumption | exact Ext.refl _ | refine Ext.trans ?_ (Ext.alloc _ _) | refine Ext.trans ?_ (Ext.drewN _ _) | refine Ext.trans ?_ (Ext.drew _) | refine Ext.trans ?_ (by assumption))), by simp [turnD, h1, h2, h3, eqv]⟩
    · go_enter Proofs.Try.func126, Proofs.Try.ntmps126
      go_wp2
      go_ret
      exact ⟨_, rfl, (by repeat (first | assumption | exact Ext.refl _ | refine Ext.trans ?_ (Ext.alloc _ _) | refine Ext.trans ?_ (Ext.drewN _ _) | refine Ext.trans ?_ (Ext.drew _) | refine Ext.trans ?_ (by assumption))), by simp [turnD, h1, h2, eqv]⟩
  · go_enter Proofs.Try.func126, Proofs.Try.ntmps126
    go_wp2
    go_ret
    exact ⟨_, rfl, (by repeat (first | assumption | exact Ext.refl _ | refine Ext.trans ?_ (Ext.alloc _ _) | refine Ext.trans ?_ (Ext.drewN _ _) | refine Ext.trans ?_ (Ext.drew _) | refine Ext.trans ?_ (by assumption))), by simp [turnD, h1, eqv]⟩
/-- how many from k on are x -/
def countD (G : List Int) (k : Nat) (x : Int) : Nat := (G.drop k).count x
theorem count_end {G : List Int} {k : Nat} (h : G.length ≤ k) (x : Int) : countD G k x = 0 := by unfold countD; rw [List.drop_eq_nil_of_le h]; simp
theorem count_at {G : List Int} {k : Nat} (h : k < G.length) (x : Int) : countD G k x = (if gi G k = x then 1 else 0) + countD G (k + 1) x := by
  unfold countD
  rw [List.drop_eq_getElem_cons h, gi_eq _ _ h, List.count_cons]
  by_cases e : gi G k = x <;> simp [e]
  omega
theorem count_ (N : Nat → Prop) (v : Value) (m : Arena) (x : Int) (w : World) (h : IsMem N w v m) (hG : 1 ≤ m.G.length) : Gives Proofs.Try.prog 61 #[v, .int .i64 x] w (eqv (.int .i64 (countD m.G 1 x : Nat))) := by
  obtain ⟨vw, vg, rfl, hw, hg⟩ := h
  obtain ⟨aw, cw, rfl, rw_, lw, cwc⟩ := hg.opened
  by_cases h1 : m.G.length = 1
  · have e : countD m.G 1 x = 0 := count_end (by omega) x
    go_enter Proofs.Try.func61, Proofs.Try.ntmps61
    go_wp2
    all_goals
      refine wp_loop_rounds 1 ?_
      rw [rounds_succ]
      go_wp2
      go_ret
      exact ⟨_, rfl, (by repeat (first | assumption | exact Ext.refl _ | refine Ext.trans ?_ (Ext.alloc _ _) | refine Ext.trans ?_ (Ext.drewN _ _) | refine Ext.trans ?_ (Ext.drew _) | refine Ext.trans ?_ (by assumption))), by first | rfl | (rw [e]; rfl)⟩
  · have h2 : ¬ cw = 1 := by omega
    obtain ⟨ba, oa, rfl, xa, na, _⟩ := cwc 1 (by omega)
    obtain ⟨g, hg'⟩ : ∃ g, g + 1 = m.G.length := ⟨m.G.length - 1, by omega⟩
    have hs : m.G.length - 1 = g := by omega
    go_enter Proofs.Try.func61, Proofs.Try.ntmps61
    go_wp2
    go_loopw [5, 12] (fun nn kk wr => ∃ k n : Nat, k ≤ g ∧ kk = .int .i64 k ∧ nn = .int .i64 n ∧ n + countD m.G (k + 1) x = countD m.G 1 x ∧ n ≤ k ∧ Ext w wr) (fun _ kk _ => g - (intOf kk).toNat)
    case atStart => exact ⟨0, 0, Nat.zero_le _, rfl, rfl, Nat.zero_add _, Nat.le_refl _, (by repeat (first | assumption | exact Ext.refl _ | refine Ext.trans ?_ (Ext.alloc _ _) | refine Ext.trans ?_ (Ext.drewN _ _) | refine Ext.trans ?_ (Ext.drew _) | refine Ext.trans ?_ (by assumption)))⟩
    case round =>
      obtain ⟨k, n, hk, rfl, rfl, hn, hnk, hE⟩ := hrel
      by_cases hlt : k < g
      · have hlt1 : (k : Int) < (g : Int) := by omega
        obtain ⟨b', o', e0, xb, nb, eb⟩ := cwc (k + 1) (by omega)
        simp only [Option.some.injEq, Addr.mk.injEq, and_true] at e0
        obtain ⟨rfl, rfl⟩ := e0
        have eb' : wr.cell? ⟨ba, oa + 1 + k, none⟩ = some (.int .i64 (gi m.G (k + 1))) := by
          rw [show oa + 1 + k = oa + (k + 1) by omega]; exact cell_ext eb hE
        have hc := count_at (G := m.G) (k := k + 1) (by omega) x
        by_cases heq : gi m.G (k + 1) = x
        · rw [if_pos heq] at hc
          have heq1 : (gi m.G (k + 1) == x) = true := by simp [heq]
          go_wp2
          go_roundw
          case rel => exact ⟨k + 1, n + 1, by omega, by simp, by simp, by omega, by omega, (by repeat (first | assumption | exact Ext.refl _ | refine Ext.trans ?_ (Ext.alloc _ _) | refine Ext.trans ?_ (Ext.drewN _ _) | refine Ext.trans ?_ (Ext.drew _) | refine Ext.trans ?_ (by assumption)))⟩
          case measure => simp [intOf]; omega
        · rw [if_neg heq] at hc
          have heq1 : (gi m.G (k + 1) == x) = false := by simp [heq]
          go_wp2
          go_roundw
          case rel => exact ⟨k + 1, n, by omega, by simp, by simp, by omega, by omega, (by repeat (first | assumption | exact Ext.refl _ | refine Ext.trans ?_ (Ext.alloc _ _) | refine Ext.trans ?_ (Ext.drewN _ _) | refine Ext.trans ?_ (Ext.drew _) | refine Ext.trans ?_ (by assumption)))⟩
          case measure => simp [intOf]; omega
      · have hlt1 : ¬ (k : Int) < (g : Int) := by omega
        rw [count_end (show m.G.length ≤ k + 1 by omega)] at hn
        have hn' : countD m.G 1 x = n := by omega
        go_wp2
        go_ret
        exact ⟨_, rfl, (by repeat (first | assumption | exact Ext.refl _ | refine Ext.trans ?_ (Ext.alloc _ _) | refine Ext.trans ?_ (Ext.drewN _ _) | refine Ext.trans ?_ (Ext.drew _) | refine Ext.trans ?_ (by assumption))), by first | rfl | (rw [hn']; rfl)⟩
end Go.Proofs.Ytcfbdfgondmkoaa
