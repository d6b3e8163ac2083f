/- Arenas: is one right; has one few nodes. -/
import Derived.Test.YtcfbdfgondmkoaaAr3
namespace Go.Proofs.Ytcfbdfgondmkoaa
open Go Go.RowKit
set_option linter.unusedSimpArgs false
set_option linter.unusedVariables false

def oddB (g : Int) : Bool := decide (g < 0) || decide (2 < g)
theorem odd_ (g : Int) (w : World) : Gives Proofs.Try.prog 120 #[.int .i64 g] w (eqv (.bool (oddB g))) := by
  by_cases h1 : g < 0
  · go_enter Proofs.Try.func120, Proofs.Try.ntmps120
    go_wp2
    go_ret
    exact ⟨_, rfl, (by repeat (first | assumption | exact Ext.refl _ | refine Ext.trans ?_ (Ext.alloc _ _) | refine Ext.trans ?_ (Ext.drewN _ _) | refine Ext.trans ?_ (Ext.drew _) | refine Ext.trans ?_ (by assumption))), by simp [oddB, h1, eqv]⟩
  · by_cases h2 : 2 < g
    · go_enter Proofs.Try.func120, Proofs.Try.ntmps120
      go_wp2
      go_ret
      exact ⟨_, rfl, (by repeat (first | assumption | exact Ext.refl _ | refine Ext.trans ?_ (Ext.alloc _ _) | refine Ext.trans ?_ (Ext.drewN _ _) | refine Ext.trans ?_ (Ext.drew _) | refine Ext.trans ?_ (by assumption))), by simp [oddB, h1, h2, eqv]⟩
    · go_enter Proofs.Try.func120, Proofs.Try.ntmps120
      go_wp2
      go_ret
      exact ⟨_, rfl, (by repeat (first | assumption | exact Ext.refl _ | refine Ext.trans ?_ (Ext.alloc _ _) | refine Ext.trans ?_ (Ext.drewN _ _) | refine Ext.trans ?_ (Ext.drew _) | refine Ext.trans ?_ (by assumption))), by simp [oddB, h1, h2, eqv]⟩
/-- the first odd one's place -/
theorem indexOdd_ (N : Nat → Prop) (v : Value) (l : List Int) (w : World) (h : IsInts N w v l) : Gives Proofs.Try.prog 157 #[v, .func (.func 120) #[] #[]] w (fun r _ => ∃ z : Int, r = .int .i64 z ∧ decide (0 ≤ z) = l.any oddB) := by
  obtain ⟨pa, ca, rfl, ra, la, ca0⟩ := h.opened
  go_enter Proofs.Try.func157, Proofs.Try.ntmps157
  go_wp2
  go_loopw [8] (fun kk wr => ∃ k : Nat, k ≤ l.length ∧ kk = .int .i64 k ∧ (∀ i, i < k → oddB (gi l i) = false) ∧ Ext w wr) (fun kk _ => l.length - (intOf kk).toNat)
  case atStart => exact ⟨0, Nat.zero_le _, rfl, fun i hi => by omega, (by repeat (first | assumption | exact Ext.refl _ | refine Ext.trans ?_ (Ext.alloc _ _) | refine Ext.trans ?_ (Ext.drewN _ _) | refine Ext.trans ?_ (Ext.drew _) | refine Ext.trans ?_ (by assumption)))⟩
  case round =>
    obtain ⟨k, hk, rfl, hall, hE⟩ := hrel
    by_cases hlt : k < l.length
    · have hlt1 : (k : Int) < (l.length : Int) := by omega
      obtain ⟨ba, oa, rfl, xa, na, ea⟩ := ca0 k hlt
      have ea' := cell_ext ea hE
      cases ho : oddB (gi l k)
      · go_wp2_with (fail)
        have hc := odd_ (gi l k) wr
        rw [ho] at hc
        go_at_call 120; refine (hc).calls.mono ?_; rintro e w1 ⟨_, rfl, hb1, rfl⟩; obtain ⟨q1, f1⟩ := bcell hb1
        go_wp2
        go_roundw
        case rel => exact ⟨k + 1, by omega, by simp, fun i hi => (Nat.lt_succ_iff_lt_or_eq.1 hi).elim (hall i) (fun h => h ▸ ho), (by repeat (first | assumption | exact Ext.refl _ | refine Ext.trans ?_ (Ext.alloc _ _) | refine Ext.trans ?_ (Ext.drewN _ _) | refine Ext.trans ?_ (Ext.drew _) | refine Ext.trans ?_ (by assumption)))⟩
        case measure => simp [intOf]; omega
      · go_wp2_with (fail)
        have hc := odd_ (gi l k) wr
        rw [ho] at hc
        go_at_call 120; refine (hc).calls.mono ?_; rintro e w1 ⟨_, rfl, hb1, rfl⟩; obtain ⟨q1, f1⟩ := bcell hb1
        go_wp2
        go_ret
        refine ⟨_, rfl, (by repeat (first | assumption | exact Ext.refl _ | refine Ext.trans ?_ (Ext.alloc _ _) | refine Ext.trans ?_ (Ext.drewN _ _) | refine Ext.trans ?_ (Ext.drew _) | refine Ext.trans ?_ (by assumption))), k, rfl, ?_⟩
        have : l.any oddB = true := List.any_eq_true.2 ⟨l[k], List.getElem_mem hlt, by rw [gi_eq]; exact ho⟩
        rw [this]
        simp
    · have hlt1 : ¬ (k : Int) < (l.length : Int) := by omega
      go_wp2
      go_ret
      refine ⟨_, rfl, (by repeat (first | assumption | exact Ext.refl _ | refine Ext.trans ?_ (Ext.alloc _ _) | refine Ext.trans ?_ (Ext.drewN _ _) | refine Ext.trans ?_ (Ext.drew _) | refine Ext.trans ?_ (by assumption))), -1, rfl, ?_⟩
      have : l.any oddB = false := by
        rw [List.any_eq_false]
        intro x hx
        obtain ⟨i, hi, rfl⟩ := List.getElem_of_mem hx
        rw [gi_eq, hall i (by omega)]
        simp
      rw [this]
      rfl
theorem containsOdd_ (N : Nat → Prop) (v : Value) (l : List Int) (w : World) (h : IsInts N w v l) : Gives Proofs.Try.prog 121 #[v, .func (.func 120) #[] #[]] w (eqv (.bool (l.any oddB))) := by
  go_enter Proofs.Try.func121, Proofs.Try.ntmps121
  go_wp2_with (fail)
  go_at_call 157
  refine (indexOdd_ N v l _ h).calls.mono ?_
  rintro e w1 ⟨_, rfl, hb1, z, rfl, hz⟩
  by_cases h0 : 0 ≤ z
  · go_wp2
    go_ret
    exact ⟨_, rfl, hb1, by rw [← hz]; simp [h0, eqv]⟩
  · go_wp2
    go_ret
    exact ⟨_, rfl, hb1, by rw [← hz]; simp [h0, eqv]⟩

/-- is an arena right? -/
def rightD (m : Arena) : Bool := decide (2 ≤ m.G.length ∧ m.G.length ≤ 201 ∧ m.W.length = 128 + 4 * (m.G.length - 1) ∧ gi m.G 0 = 0) && !m.G.any oddB
theorem memRight_ (N : Nat → Prop) (v : Value) (m : Arena) (w : World) (h : IsMem N w v m) : Gives Proofs.Try.prog 55 #[v] w (eqv (.bool (rightD m))) := by
  obtain ⟨vw, vg, rfl, hw, hg⟩ := h
  obtain ⟨aw, cw, rfl, rw_, lw, cwc⟩ := hw.opened
  obtain ⟨ag, cg, rfl, rg, lg, cgc⟩ := hg.opened
  by_cases h1 : 2 ≤ m.G.length
  · have h1' : ¬ (m.G.length : Int) - 1 < 1 := by omega
    obtain ⟨bg, og, rfl, xg, ng, eg⟩ := cgc 0 (by omega)
    rw [Nat.add_zero] at eg
    by_cases h2 : m.G.length ≤ 201
    · by_cases h3 : m.W.length = 128 + 4 * (m.G.length - 1)
      · have h3' : ((m.W.length : Int) == 128 + 4 * ((m.G.length : Int) - 1)) = true := by simp; omega
        by_cases h4 : gi m.G 0 = 0
        · have h4' : (gi m.G 0 == 0) = true := by simp [h4]
          go_enter Proofs.Try.func55, Proofs.Try.ntmps55
          go_wp2_with (fail)
          go_at_call 121
          refine (containsOdd_ N _ _ _ (hg.ext (by repeat (first | assumption | exact Ext.refl _ | refine Ext.trans ?_ (Ext.alloc _ _) | refine Ext.trans ?_ (Ext.drewN _ _) | refine Ext.trans ?_ (Ext.drew _) | refine Ext.trans ?_ (by assumption))))).calls.mono ?_
          rintro e w1 ⟨_, rfl, hb1, rfl⟩
          go_wp2
          go_ret
          exact ⟨_, rfl, (by repeat (first | assumption | exact Ext.refl _ | refine Ext.trans ?_ (Ext.alloc _ _) | refine Ext.trans ?_ (Ext.drewN _ _) | refine Ext.trans ?_ (Ext.drew _) | refine Ext.trans ?_ (by assumption))), by simp [rightD, h1, h2, h3, h4, eqv]; try omega⟩
        · have h4' : (gi m.G 0 == 0) = false := by simp [h4]
          go_enter Proofs.Try.func55, Proofs.Try.ntmps55
          go_wp2
          go_ret
          exact ⟨_, rfl, (by repeat (first | assumption | exact Ext.refl _ | refine Ext.trans ?_ (Ext.alloc _ _) | refine Ext.trans ?_ (Ext.drewN _ _) | refine Ext.trans ?_ (Ext.drew _) | refine Ext.trans ?_ (by assumption))), by simp [rightD, h4, eqv]⟩
      · have h3' : ((m.W.length : Int) == 128 + 4 * ((m.G.length : Int) - 1)) = false := by simp; omega
        go_enter Proofs.Try.func55, Proofs.Try.ntmps55
        go_wp2
        go_ret
        exact ⟨_, rfl, (by repeat (first | assumption | exact Ext.refl _ | refine Ext.trans ?_ (Ext.alloc _ _) | refine Ext.trans ?_ (Ext.drewN _ _) | refine Ext.trans ?_ (Ext.drew _) | refine Ext.trans ?_ (by assumption))), by simp [rightD, h3, eqv]⟩
    · have h2' : ¬ (m.G.length : Int) - 1 ≤ 200 := by omega
      go_enter Proofs.Try.func55, Proofs.Try.ntmps55
      go_wp2
      go_ret
      exact ⟨_, rfl, (by repeat (first | assumption | exact Ext.refl _ | refine Ext.trans ?_ (Ext.alloc _ _) | refine Ext.trans ?_ (Ext.drewN _ _) | refine Ext.trans ?_ (Ext.drew _) | refine Ext.trans ?_ (by assumption))), by simp [rightD, h2, eqv]⟩
  · have h1' : (m.G.length : Int) - 1 < 1 := by omega
    go_enter Proofs.Try.func55, Proofs.Try.ntmps55
    go_wp2
    go_ret
    exact ⟨_, rfl, (by repeat (first | assumption | exact Ext.refl _ | refine Ext.trans ?_ (Ext.alloc _ _) | refine Ext.trans ?_ (Ext.drewN _ _) | refine Ext.trans ?_ (Ext.drew _) | refine Ext.trans ?_ (by assumption))), by simp [rightD, h1, eqv]⟩
end Go.Proofs.Ytcfbdfgondmkoaa
