/- HazNames: its walk lifted to the given statement. -/
import Derived.Test.YtcfbdfgondmkoaaM10
import Derived.Test.YtcfbdfgondmkoaaRows
import Derived.Test.YtcfbdfgondmkoaaLaw5n
import Derived.WalkKit
import Derived.ProofKit
import Derived.OpenShut
import Derived.ShutString
import Derived.ChangeOld
import Derived.Below
namespace Go.Proofs.Ytcfbdfgondmkoaa.hazNames
open Go.ChangeShapes Go.WideShapes Go.ChangeAt Go.RowKit
set_option linter.unusedVariables false

set_option maxRecDepth 100000 in
theorem lifted (os : Os) (started : os.Started) (H : Type) (enc : TypeId × Value → H) :
    ReturnsInHanded {} Try.checked os 26 .any (Rows.hazNamesSpec.pre6 enc Try.prog Try.f26 Rows.hazNamesRow.domain false) (Rows.hazNamesSpec.post enc Try.prog Try.f26 false true false false) := by
  refine returnsInHanded_of_change (C := Try.checked) own started (by kernel_rfl) Try.func26
    (ChangeSpec.witness6 (enc := enc) (C := Try.checked) false ⟨#[], #[.agg #[.slice none 0 0, .slice none 0 0, .bool false, .slice none 0 0, .slice none 0 0]], []⟩ 8 (by kernel_rfl) (by kernel_rfl) (by kernel_rfl) (by kernel_rfl)) ?_
  intro W base args ds gs before hval0 hW hcnd _
  have hval : ∀ (j : Nat) t v, Try.f26.params[j]? = some t → args[j]? = some v → Value.okWide Try.prog W .any base t v := hval0
  have hW' := hW
  obtain ⟨p, q, hA0, hV, rfl, hfz, hnd⟩ := hW
  have hA : DataW.TrodAll enc Try.prog W 0 (fun _ => true) true Try.f26.params.toList args.toList ds p := hA0
  rw [Try.params26] at hA hval
  obtain ⟨v0, vs0, d0, ds0, p0, q0, hargs, rfl, rfl, h0, r0⟩ := trodAll_cons hA
  obtain ⟨rfl, rfl, rfl⟩ := trodAll_nil r0
  obtain rfl : args = #[v0] := by cases args; simp_all
  obtain ⟨rfl, rfl⟩ := trodVars_none hV
  have k0 := h0
  have lt0 : ∀ x ∈ p0, x.block < W.heap.size := by obtain ⟨m, hm⟩ := k0; exact DataW.trod_lt m _ _ _ hm
  obtain ⟨c0, rfl, hc0⟩ := okWide_struct Try.underlying83 (hval 0 83 v0 rfl rfl)
  have s0 := Rd.of_trod h0
  have n0 : Try.prog.cellsOf 83 = 5 := by kernel_rfl
  obtain ⟨x0_0, x0_1, x0_2, x0_3, x0_4, rfl⟩ := agg5 (hc0.trans n0)
  have qsys0 : Rd enc Try.prog W 83 [x0_0, x0_1, x0_2, x0_3, x0_4] := s0
  obtain ⟨ysys00, ysys01, ysys02, ysys03, ysys04, sys0, esys0, hsys0⟩ := Rd.sys qsys0
  obtain ⟨rfl, rfl, rfl, rfl, rfl⟩ : x0_0 = ysys00 ∧ x0_1 = ysys01 ∧ x0_2 = ysys02 ∧ x0_3 = ysys03 ∧ x0_4 = ysys04 := by simpa using esys0
  clear hA0 hval0
  refine (hazNames_ x0_0 x0_1 x0_2 x0_3 x0_4 sys0 W hsys0).calls.mono fun e W' ⟨v, he, bel, hv⟩ => ?_
  subst he; subst hv
  exact ⟨_, rfl, _, _, _, [], _, [], hW', trodAll_mk1 (shut_bool Try.underlying4 _), (trodAll_cons_mk (Below.trod laidOut (by kernel_rfl) (of_decide_eq_true (by kernel_rfl)) k0 bel lt0) trodAll_mk0), rfl, bel.frame _, fun h => by cases h⟩

theorem facts (P : Program) (hP : P = Try.prog) : joinedFacts P 26 Try.f26 Rows.hazNamesSpec Rows.hazNamesRow = true := by
  unfold joinedFacts
  rw [show P.mayEnter = true by rw [hP]; exact mayEnter_, show P.liftsFinal = false by rw [hP]; exact liftsFinal_, show P.make = some .cut by rw [hP]; exact make_]
  subst hP
  kernel_rfl

theorem over : Rows.hazNamesRow.holds Try.pinned (OpenSpec.ofChange Rows.hazNamesSpec) :=
  OpenClaim.holds_of_wide 26 Try.f26 rfl rfl rfl rfl rfl rfl rfl ⟨rfl, rfl, rfl, rfl, rfl⟩ rfl rfl rfl rfl rfl (by kernel_rfl) Try.func26 (facts _ rfl)
    (of_decide_eq_true (by kernel_rfl)) (by unfold Func.isWrapper; first | (rw [if_pos (by decide +kernel)]; kernel_rfl) | (rw [if_neg (by decide +kernel)]; exact ⟨rfl, rfl⟩))
    (fun os started H enc _ => lifted os started H enc)

theorem proved : Rows.HazNamesSaid := over
end Go.Proofs.Ytcfbdfgondmkoaa.hazNames
