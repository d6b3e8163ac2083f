/- Sets of numbers in a map of the call's own; the list that is walked. -/
import Derived.Test.YtcfbdfgondmkoaaAtW
import Derived.Test.YtcfbdfgondmkoaaStk3
import Derived.Maps.OwnOps
import Derived.Maps.Views
namespace Go.Proofs.Ytcfbdfgondmkoaa
open Go Go.RowKit Go.Maps
set_option linter.unusedSimpArgs false
set_option linter.unusedVariables false
set_option linter.unnecessarySimpa false

theorem keyed3 : Keyed Proofs.Try.prog 3 := int_keyed Proofs.Try.underlying3
theorem und175 : Proofs.Try.prog.underlying 175 = some (.map 3 4) := by kernel_rfl
theorem lit_wf {p : Int} (h : -9223372036854775808 ≤ p) (h' : p ≤ 9223372036854775807) : (Lit.int .i64 p).wf = true := by
  have := wrap64_wf p
  rw [wrapI_in h h'] at this; exact this
theorem key3 {p : Int} (h : -9223372036854775808 ≤ p) (h' : p ≤ 9223372036854775807) : keyOf Proofs.Try.prog 3 (.int .i64 p) = some (.int .i64 p) := keyOf_int_mk Proofs.Try.underlying3 (lit_wf h h')
theorem isKey3 {p : Int} (h : -9223372036854775808 ≤ p) (h' : p ≤ 9223372036854775807) : WideAt.IsKeyLit (.int .i64 p) := keyed3.key (key3 h h')
def litI (p : Int) : Lit := .int .i64 p
/-- the set of these numbers, as a datum -/
def setD (out : List Int) : DataW Unit := setOf (.lit (.bool true)) (out.map litI)
theorem setD_snoc (out : List Int) (p : Int) : setD (out ++ [p]) = (setD out).put (litI p) (.lit (.bool true)) := by
  unfold setD
  rw [List.map_append, List.map_cons, List.map_nil, setOf_snoc]
theorem fold_at (u : DataW Unit) (p : Int) (z : DataW Unit) (hp : WideAt.IsKeyLit (litI p)) : ∀ (acc : List Int) (m : DataW Unit), IsMap m → ((acc.map litI).foldl (fun m x => m.put x u) m).atKey (litI p) z = if p ∈ acc then u else m.atKey (litI p) z
  | [], m, _ => by simp
  | a :: l, m, hm => by
    rw [List.map_cons, List.foldl_cons, fold_at u p z hp l _ (hm.put _ _)]
    by_cases h1 : p ∈ l
    · rw [if_pos h1, if_pos (by simp [h1])]
    · rw [if_neg h1]
      by_cases h2 : p = a
      · subst h2
        rw [if_pos (by simp), atKey_put_same hm hp]
      · rw [if_neg (by simp [h1, h2]), atKey_put_other (fun e => h2 (by unfold litI at e; injection e))]
theorem setD_at (out : List Int) (p : Int) (h : -9223372036854775808 ≤ p) (h' : p ≤ 9223372036854775807) : (setD out).atKey (litI p) (.lit (.bool false)) = .lit (.bool (decide (p ∈ out))) := by
  have := fold_at (.lit (.bool true)) p (.lit (.bool false)) (isKey3 h h') out (.map []) isMap_empty
  unfold setD setOf
  rw [this]
  by_cases hp : p ∈ out
  · rw [if_pos hp]; simp [hp]
  · rw [if_neg hp]
    simp [hp, DataW.atKey]
theorem plainElem_bool_inv {P : Program} {e : TypeId} (he : P.underlying e = some .bool) {v : Value} {z : DataW Unit × List MemPlace} (h : plainElem P e v = some z) : ∃ b, v = .bool b ∧ z = (.lit (.bool b), []) := by
  unfold plainElem at h
  rw [he] at h
  cases v <;> simp at h
  exact ⟨_, rfl, h.symm⟩
/-- block b is the map of the set of these numbers -/
def OwnSet (w : World) (b : Nat) (out : List Int) : Prop := w.ownsMap Proofs.Try.prog 3 (plainElem (H := Unit) Proofs.Try.prog 4) b out.length (setD out)
theorem OwnSet.keep {w w' : World} {b : Nat} {out : List Int} {M : Nat → Prop} (h : OwnSet w b out) (k : Keep M w w') (hn : ¬ M b) : OwnSet w' b out := by
  obtain ⟨es, clock, hb, h2⟩ := h
  exact ⟨es, clock, (k.2 b (Array.getElem?_eq_some_iff.1 hb).1 hn).trans hb, h2⟩
theorem OwnSet.look {w : World} {b : Nat} {out : List Int} (h : OwnSet w b out) {p : Int} (h1 : -9223372036854775808 ≤ p) (h2 : p ≤ 9223372036854775807) : (Instr.lookup 175 (.map (some b)) (.int .i64 p) false).run Proofs.Try.prog w = .ok (.bool (decide (p ∈ out))) w := by
  obtain ⟨v, ps, hrun, hv⟩ := World.ownsMap.lookup h keyed3 und175 (z := .bool false) (by simp [go_sem]; first | done | kernel_rfl) (plainElem_bool Proofs.Try.underlying4 false) (key3 h1 h2)
  obtain ⟨c, rfl, hc⟩ := plainElem_bool_inv Proofs.Try.underlying4 hv
  have h3 := setD_at out p h1 h2
  unfold litI at h3
  rw [h3] at hc
  simp at hc
  rw [hrun, ← hc.1]
end Go.Proofs.Ytcfbdfgondmkoaa
