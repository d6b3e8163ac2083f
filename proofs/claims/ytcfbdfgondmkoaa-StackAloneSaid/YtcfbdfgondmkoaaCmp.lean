/- Rows of integers compared, searched, counted. -/
import Derived.Test.YtcfbdfgondmkoaaInts
namespace Go.Proofs.Ytcfbdfgondmkoaa
open Go Go.RowKit
set_option linter.unusedSimpArgs false
set_option linter.unusedVariables false
theorem equal_ (N : Nat → Prop) (va vb : Value) (a b : List Int) (w : World) (ha : IsInts N w va a) (hb : IsInts N w vb b) : Gives Proofs.Try.prog 122 #[va, vb] w (eqv (.bool (a == b))) := by
  obtain ⟨pa, ca, rfl, ra, la, ca0⟩ := ha.opened
  obtain ⟨pb, cb, rfl, rb, lb, cb0⟩ := hb.opened
  by_cases hl : a.length = b.length
  · have hl1 : ((a.length : Int) != (b.length : Int)) = false := by simp [hl]
    go_enter Proofs.Try.func122, Proofs.Try.ntmps122
    go_wp2
    go_loopw [13] (fun kk wr => ∃ k : Nat, k ≤ a.length ∧ kk = .int .i64 k ∧ (∀ i, i < k → gi a i = gi b i) ∧ Ext w wr) (fun kk _ => a.length - (intOf kk).toNat)
    case atStart => exact ⟨0, Nat.zero_le _, rfl, fun i hi => by omega, Ext.refl _⟩
    case round =>
      obtain ⟨k, hk, rfl, hall, hE⟩ := hrel
      by_cases hlt : k < a.length
      · have hlt1 : (k : Int) < (b.length : Int) := by omega
        obtain ⟨ba, oa, rfl, xa, na, ea⟩ := ca0 k hlt
        obtain ⟨bb, ob, rfl, xb, nb, eb⟩ := cb0 k (by omega)
        have ea' := cell_ext ea hE
        have eb' := cell_ext eb hE
        by_cases heq : gi a k = gi b k
        · have heq1 : (gi a k != gi b k) = false := by simp [heq]
          go_wp2
          go_quiet (fail)
          go_wp2
          go_roundw
          case rel => exact ⟨k + 1, by omega, by simp, fun i hi => (Nat.lt_succ_iff_lt_or_eq.1 hi).elim (hall i) (fun h => h ▸ heq), (by repeat (first | assumption | exact Ext.refl _ | refine Ext.trans ?_ (Ext.alloc _ _) | refine Ext.trans ?_ (Ext.drewN _ _) | refine Ext.trans ?_ (Ext.drew _) | refine Ext.trans ?_ (by assumption)))⟩
          case measure => simp [intOf]; omega
        · have heq1 : (gi a k != gi b k) = true := by simpa using heq
          go_wp2
          go_quiet (fail)
          go_wp2
          go_ret
          exact ⟨_, rfl, (by repeat (first | assumption | exact Ext.refl _ | refine Ext.trans ?_ (Ext.alloc _ _) | refine Ext.trans ?_ (Ext.drewN _ _) | refine Ext.trans ?_ (Ext.drew _) | refine Ext.trans ?_ (by assumption))), by rw [gi_ne heq]; rfl⟩
      · have hlt1 : ¬ (k : Int) < (b.length : Int) := by omega
        have hab : a = b := gi_ext hl fun i hi => hall i (by omega)
        go_wp2
        go_ret
        exact ⟨_, rfl, hE, by simp [hab, eqv]⟩
  · have hl1 : ((a.length : Int) != (b.length : Int)) = true := by simp; omega
    have hne : (a == b) = false := by simp; intro h; exact hl (by rw [h])
    go_enter Proofs.Try.func122, Proofs.Try.ntmps122
    go_wp2
    go_ret
    exact ⟨_, rfl, Ext.refl _, by rw [hne]; rfl⟩
theorem refInts_ (N : Nat → Prop) (va vb : Value) (a b : List Int) (w : World) (ha : IsInts N w va a) (hb : IsInts N w vb b) : Gives Proofs.Try.prog 72 #[va, vb] w (eqv (.bool (a == b))) := by
  obtain ⟨pa, ca, rfl, ra, la, ca0⟩ := ha.opened
  obtain ⟨pb, cb, rfl, rb, lb, cb0⟩ := hb.opened
  by_cases hl : a.length = b.length
  · have hl1 : ((a.length : Int) != (b.length : Int)) = false := by simp [hl]
    go_enter Proofs.Try.func72, Proofs.Try.ntmps72
    go_wp2
    go_loopw [5] (fun kk wr => ∃ k : Nat, k ≤ a.length ∧ kk = .int .i64 k ∧ (∀ i, i < k → gi a i = gi b i) ∧ Ext w wr) (fun kk _ => a.length - (intOf kk).toNat)
    case atStart => exact ⟨0, Nat.zero_le _, rfl, fun i hi => by omega, Ext.refl _⟩
    case round =>
      obtain ⟨k, hk, rfl, hall, hE⟩ := hrel
      by_cases hlt : k < a.length
      · have hlt1 : (k : Int) < (b.length : Int) := by omega
        obtain ⟨ba, oa, rfl, xa, na, ea⟩ := ca0 k hlt
        obtain ⟨bb, ob, rfl, xb, nb, eb⟩ := cb0 k (by omega)
        have ea' := cell_ext ea hE
        have eb' := cell_ext eb hE
        by_cases heq : gi a k = gi b k
        · have heq1 : (gi a k != gi b k) = false := by simp [heq]
          go_wp2
          go_quiet (fail)
          go_wp2
          go_roundw
          case rel => exact ⟨k + 1, by omega, by simp, fun i hi => (Nat.lt_succ_iff_lt_or_eq.1 hi).elim (hall i) (fun h => h ▸ heq), (by repeat (first | assumption | exact Ext.refl _ | refine Ext.trans ?_ (Ext.alloc _ _) | refine Ext.trans ?_ (Ext.drewN _ _) | refine Ext.trans ?_ (Ext.drew _) | refine Ext.trans ?_ (by assumption)))⟩
          case measure => simp [intOf]; omega
        · have heq1 : (gi a k != gi b k) = true := by simpa using heq
          go_wp2
          go_quiet (fail)
          go_wp2
          go_ret
          exact ⟨_, rfl, (by repeat (first | assumption | exact Ext.refl _ | refine Ext.trans ?_ (Ext.alloc _ _) | refine Ext.trans ?_ (Ext.drewN _ _) | refine Ext.trans ?_ (Ext.drew _) | refine Ext.trans ?_ (by assumption))), by rw [gi_ne heq]; rfl⟩
      · have hlt1 : ¬ (k : Int) < (b.length : Int) := by omega
        have hab : a = b := gi_ext hl fun i hi => hall i (by omega)
        go_wp2
        go_ret
        exact ⟨_, rfl, hE, by simp [hab, eqv]⟩
  · have hl1 : ((a.length : Int) != (b.length : Int)) = true := by simp; omega
    have hne : (a == b) = false := by simp; intro h; exact hl (by rw [h])
    go_enter Proofs.Try.func72, Proofs.Try.ntmps72
    go_wp2
    go_ret
    exact ⟨_, rfl, Ext.refl _, by rw [hne]; rfl⟩

end Go.Proofs.Ytcfbdfgondmkoaa
