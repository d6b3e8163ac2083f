/- Arenas: is one right, by the document; has one few nodes. -/
import Derived.Test.YtcfbdfgondmkoaaAr4
namespace Go.Proofs.Ytcfbdfgondmkoaa
open Go Go.RowKit
set_option linter.unusedSimpArgs false
set_option linter.unusedVariables false

theorem refMemRight_ (N : Nat → Prop) (v : Value) (m : Arena) (w : World) (h : IsMem N w v m) : Gives Proofs.Try.prog 53 #[v] w (eqv (.bool (rightD m))) := by
  obtain ⟨vw, vg, rfl, hw, hg⟩ := h
  obtain ⟨aw, cw, rfl, rw_, lw, cwc⟩ := hw.opened
  obtain ⟨ag, cg, rfl, rg, lg, cgc⟩ := hg.opened
  by_cases h1 : 2 ≤ m.G.length
  · have h1' : ¬ (m.G.length : Int) - 1 < 1 := by omega
    obtain ⟨bg, og, rfl, xg, ng, eg⟩ := cgc 0 (by omega)
    rw [Nat.add_zero] at eg
    by_cases h2 : m.G.length ≤ 201
    · have h2' : ¬ 200 < (m.G.length : Int) - 1 := by omega
      by_cases h3 : m.W.length = 128 + 4 * (m.G.length - 1)
      · have h3' : ((m.W.length : Int) != 128 + 4 * ((m.G.length : Int) - 1)) = false := by simp; omega
        have H3 := Lib.hid h3
        clear h3
        by_cases h4 : gi m.G 0 = 0
        · have h4' : (gi m.G 0 != 0) = false := by simp [h4]
          go_enter Proofs.Try.func53, Proofs.Try.ntmps53
          go_wp2
          go_loopw [4] (fun kk wr => ∃ k : Nat, k ≤ m.G.length ∧ kk = .int .i64 k ∧ (∀ i, i < k → oddB (gi m.G i) = false) ∧ Ext w wr ∧ Box wr w.heap.size #[.slice aw m.W.length cw, .slice (some ⟨bg, og, none⟩) m.G.length cg, .bool m.bad] 50) (fun kk _ => m.G.length - (intOf kk).toNat)
          case atStart => exact ⟨0, Nat.zero_le _, rfl, fun i hi => by omega, (by repeat (first | assumption | exact Ext.refl _ | refine Ext.trans ?_ (Ext.alloc _ _) | refine Ext.trans ?_ (Ext.drewN _ _) | refine Ext.trans ?_ (Ext.drew _) | refine Ext.trans ?_ (by assumption))), Box.new _ _ _⟩
          case round =>
            obtain ⟨k, hk, rfl, hall, hE, hB⟩ := hrel
            have c1 : wr.cell? ⟨w.heap.size, 1, none⟩ = some (.slice (some ⟨bg, og, none⟩) m.G.length cg) := hB.cell rfl
            by_cases hlt : k < m.G.length
            · have hlt1 : (k : Int) ≤ (m.G.length : Int) - 1 := by omega
              obtain ⟨b', o', e0, xb, nb, ea⟩ := cgc k hlt
              simp only [Option.some.injEq, Addr.mk.injEq, and_true] at e0
              obtain ⟨rfl, rfl⟩ := e0
              have ea' := cell_ext ea hE
              by_cases ho1 : gi m.G k < 0
              · go_wp2
                go_ret
                have : m.G.any oddB = true := List.any_eq_true.2 ⟨m.G[k], List.getElem_mem hlt, by rw [gi_eq]; simp [oddB, ho1]⟩
                exact ⟨_, rfl, (by repeat (first | assumption | exact Ext.refl _ | refine Ext.trans ?_ (Ext.alloc _ _) | refine Ext.trans ?_ (Ext.drewN _ _) | refine Ext.trans ?_ (Ext.drew _) | refine Ext.trans ?_ (by assumption))), by simp [rightD, this, eqv]⟩
              · by_cases ho2 : 2 < gi m.G k
                · go_wp2
                  go_ret
                  have : m.G.any oddB = true := List.any_eq_true.2 ⟨m.G[k], List.getElem_mem hlt, by rw [gi_eq]; simp [oddB, ho2]⟩
                  exact ⟨_, rfl, (by repeat (first | assumption | exact Ext.refl _ | refine Ext.trans ?_ (Ext.alloc _ _) | refine Ext.trans ?_ (Ext.drewN _ _) | refine Ext.trans ?_ (Ext.drew _) | refine Ext.trans ?_ (by assumption))), by simp [rightD, this, eqv]⟩
                · have ho : oddB (gi m.G k) = false := by simp [oddB]; omega
                  go_wp2
                  go_roundw
                  case rel => exact ⟨k + 1, by omega, by simp, fun i hi => (Nat.lt_succ_iff_lt_or_eq.1 hi).elim (hall i) (fun h => h ▸ ho), (by repeat (first | assumption | exact Ext.refl _ | refine Ext.trans ?_ (Ext.alloc _ _) | refine Ext.trans ?_ (Ext.drewN _ _) | refine Ext.trans ?_ (Ext.drew _) | refine Ext.trans ?_ (by assumption))), hB⟩
                  case measure => simp [intOf]; omega
            · have hlt1 : ¬ (k : Int) ≤ (m.G.length : Int) - 1 := by omega
              go_wp2
              go_ret
              have : m.G.any oddB = false := by
                rw [List.any_eq_false]
                intro x hx
                obtain ⟨i, hi, rfl⟩ := List.getElem_of_mem hx
                rw [gi_eq, hall i (by omega)]
                simp
              exact ⟨_, rfl, (by repeat (first | assumption | exact Ext.refl _ | refine Ext.trans ?_ (Ext.alloc _ _) | refine Ext.trans ?_ (Ext.drewN _ _) | refine Ext.trans ?_ (Ext.drew _) | refine Ext.trans ?_ (by assumption))), by have h3 := H3.out; simp [rightD, this, h1, h2, h3, h4, eqv]; try omega⟩
        · have h4' : (gi m.G 0 != 0) = true := by simp [h4]
          go_enter Proofs.Try.func53, Proofs.Try.ntmps53
          go_wp2
          go_ret
          exact ⟨_, rfl, (by repeat (first | assumption | exact Ext.refl _ | refine Ext.trans ?_ (Ext.alloc _ _) | refine Ext.trans ?_ (Ext.drewN _ _) | refine Ext.trans ?_ (Ext.drew _) | refine Ext.trans ?_ (by assumption))), by simp [rightD, h4, eqv]⟩
      · have h3' : ((m.W.length : Int) != 128 + 4 * ((m.G.length : Int) - 1)) = true := by simp; omega
        go_enter Proofs.Try.func53, Proofs.Try.ntmps53
        go_wp2
        go_ret
        exact ⟨_, rfl, (by repeat (first | assumption | exact Ext.refl _ | refine Ext.trans ?_ (Ext.alloc _ _) | refine Ext.trans ?_ (Ext.drewN _ _) | refine Ext.trans ?_ (Ext.drew _) | refine Ext.trans ?_ (by assumption))), by simp [rightD, h3, eqv]⟩
    · have h2' : 200 < (m.G.length : Int) - 1 := by omega
      go_enter Proofs.Try.func53, Proofs.Try.ntmps53
      go_wp2
      go_ret
      exact ⟨_, rfl, (by repeat (first | assumption | exact Ext.refl _ | refine Ext.trans ?_ (Ext.alloc _ _) | refine Ext.trans ?_ (Ext.drewN _ _) | refine Ext.trans ?_ (Ext.drew _) | refine Ext.trans ?_ (by assumption))), by simp [rightD, h2, eqv]⟩
  · have h1' : (m.G.length : Int) - 1 < 1 := by omega
    go_enter Proofs.Try.func53, Proofs.Try.ntmps53
    go_wp2
    go_ret
    exact ⟨_, rfl, (by repeat (first | assumption | exact Ext.refl _ | refine Ext.trans ?_ (Ext.alloc _ _) | refine Ext.trans ?_ (Ext.drewN _ _) | refine Ext.trans ?_ (Ext.drew _) | refine Ext.trans ?_ (by assumption))), by simp [rightD, h1, eqv]⟩

def smallD (m : Arena) (n : Nat) : Bool := decide (m.G.length ≤ n + 1 ∧ m.W.length ≤ 128 + 4 * n)
theorem memSmall_ (N : Nat → Prop) (v : Value) (m : Arena) (n : Nat) (hn : n ≤ 1000000) (w : World) (h : IsMem N w v m) : Gives Proofs.Try.prog 50 #[v, .int .i64 n] w (eqv (.bool (smallD m n))) := by
  obtain ⟨vw, vg, rfl, hw, hg⟩ := h
  obtain ⟨aw, cw, rfl, rw_, lw, cwc⟩ := hw.opened
  obtain ⟨ag, cg, rfl, rg, lg, cgc⟩ := hg.opened
  by_cases h1 : m.G.length ≤ n + 1
  · have h1' : (m.G.length : Int) ≤ (n : Int) + 1 := by omega
    by_cases h2 : m.W.length ≤ 128 + 4 * n
    · have h2' : (m.W.length : Int) ≤ 128 + 4 * (n : Int) := by omega
      go_enter Proofs.Try.func50, Proofs.Try.ntmps50
      go_wp2
      go_ret
      exact ⟨_, rfl, (by repeat (first | assumption | exact Ext.refl _ | refine Ext.trans ?_ (Ext.alloc _ _) | refine Ext.trans ?_ (Ext.drewN _ _) | refine Ext.trans ?_ (Ext.drew _) | refine Ext.trans ?_ (by assumption))), by simp [smallD, h1, h2, eqv]⟩
    · have h2' : ¬ (m.W.length : Int) ≤ 128 + 4 * (n : Int) := by omega
      go_enter Proofs.Try.func50, Proofs.Try.ntmps50
      go_wp2
      go_ret
      exact ⟨_, rfl, (by repeat (first | assumption | exact Ext.refl _ | refine Ext.trans ?_ (Ext.alloc _ _) | refine Ext.trans ?_ (Ext.drewN _ _) | refine Ext.trans ?_ (Ext.drew _) | refine Ext.trans ?_ (by assumption))), by simp [smallD, h2, eqv]⟩
  · have h1' : ¬ (m.G.length : Int) ≤ (n : Int) + 1 := by omega
    go_enter Proofs.Try.func50, Proofs.Try.ntmps50
    go_wp2
    go_ret
    exact ⟨_, rfl, (by repeat (first | assumption | exact Ext.refl _ | refine Ext.trans ?_ (Ext.alloc _ _) | refine Ext.trans ?_ (Ext.drewN _ _) | refine Ext.trans ?_ (Ext.drew _) | refine Ext.trans ?_ (by assumption))), by simp [smallD, h1, eqv]⟩
def mayD (m : Arena) (n : Nat) : Bool := smallD m n && rightD m
theorem memMay_ (N : Nat → Prop) (v : Value) (m : Arena) (n : Nat) (hn : n ≤ 1000000) (w : World) (h : IsMem N w v m) : Gives Proofs.Try.prog 63 #[v, .int .i64 n] w (eqv (.bool (mayD m n))) := by
  have ks := fun (w' : World) (e : Ext w w') => memSmall_ N v m n hn w' (h.ext e)
  have kr := fun (w' : World) (e : Ext w w') => refMemRight_ N v m w' (h.ext e)
  obtain ⟨vw, vg, rfl, hw, hg⟩ := h
  cases h1 : smallD m n
  · rw [h1] at ks
    go_enter Proofs.Try.func63, Proofs.Try.ntmps63
    go_wp2_with (fail)
    go_at_call 50; refine (ks _ (by repeat (first | assumption | exact Ext.refl _ | refine Ext.trans ?_ (Ext.alloc _ _) | refine Ext.trans ?_ (Ext.drewN _ _) | refine Ext.trans ?_ (Ext.drew _) | refine Ext.trans ?_ (by assumption)))).calls.mono ?_; rintro e w1 ⟨_, rfl, hb1, rfl⟩; obtain ⟨q1, f1⟩ := bcell hb1; have z1_0 : w.heap.size < w1.heap.size := (by have := hb1.size; first | omega | (simp at this; omega))
    go_wp2
    go_ret
    exact ⟨_, rfl, (by repeat (first | assumption | exact Ext.refl _ | refine Ext.trans ?_ (Ext.alloc _ _) | refine Ext.trans ?_ (Ext.drewN _ _) | refine Ext.trans ?_ (Ext.drew _) | refine Ext.trans ?_ (by assumption))), by simp [mayD, h1, eqv]⟩
  · rw [h1] at ks
    go_enter Proofs.Try.func63, Proofs.Try.ntmps63
    go_wp2_with (fail)
    go_at_call 50; refine (ks _ (by repeat (first | assumption | exact Ext.refl _ | refine Ext.trans ?_ (Ext.alloc _ _) | refine Ext.trans ?_ (Ext.drewN _ _) | refine Ext.trans ?_ (Ext.drew _) | refine Ext.trans ?_ (by assumption)))).calls.mono ?_; rintro e w1 ⟨_, rfl, hb1, rfl⟩; obtain ⟨q1, f1⟩ := bcell hb1; have z1_0 : w.heap.size < w1.heap.size := (by have := hb1.size; first | omega | (simp at this; omega))
    go_wp2_with (fail)
    go_at_call 53; refine (kr _ (by repeat (first | assumption | exact Ext.refl _ | refine Ext.trans ?_ (Ext.alloc _ _) | refine Ext.trans ?_ (Ext.drewN _ _) | refine Ext.trans ?_ (Ext.drew _) | refine Ext.trans ?_ (by assumption)))).calls.mono ?_; rintro e w2 ⟨_, rfl, hb2, rfl⟩; obtain ⟨q2, f2⟩ := bcell hb2; have z2_0 : w.heap.size < w2.heap.size := (by have := hb2.size; first | omega | (simp at this; omega))
    go_wp2
    go_ret
    exact ⟨_, rfl, (by repeat (first | assumption | exact Ext.refl _ | refine Ext.trans ?_ (Ext.alloc _ _) | refine Ext.trans ?_ (Ext.drewN _ _) | refine Ext.trans ?_ (Ext.drew _) | refine Ext.trans ?_ (by assumption))), by simp [mayD, h1, eqv]⟩
end Go.Proofs.Ytcfbdfgondmkoaa
