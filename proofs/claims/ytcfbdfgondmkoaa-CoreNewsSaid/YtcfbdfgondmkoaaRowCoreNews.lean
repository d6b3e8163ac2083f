/- CoreNews: its walk lifted to the given statement. -/
import Derived.Test.YtcfbdfgondmkoaaRows
import Derived.Test.YtcfbdfgondmkoaaLaw3n
import Derived.Test.YtcfbdfgondmkoaaRdM
import Derived.Test.YtcfbdfgondmkoaaClosed
import Derived.WalkKit
import Derived.ProofKit
import Derived.OpenShut
import Derived.ShutString
import Derived.ChangeOld
import Derived.Below
namespace Go.Proofs.Ytcfbdfgondmkoaa.coreNews
open Go.ChangeShapes Go.WideShapes Go.ChangeAt Go.RowKit
set_option linter.unusedVariables false

set_option maxRecDepth 100000 in
theorem lifted (os : Os) (started : os.Started) (H : Type) (enc : TypeId × Value → H) :
    ReturnsInHanded {} Try.checked os 22 .any (Rows.coreNewsSpec.pre6 enc Try.prog Try.f22 Rows.coreNewsRow.domain false) (Rows.coreNewsSpec.post enc Try.prog Try.f22 false true false false) := by
  refine returnsInHanded_of_change (C := Try.checked) own started (by kernel_rfl) Try.func22
    (ChangeSpec.witness6 (enc := enc) (C := Try.checked) false ⟨#[], #[.int .u8 0, .int .u8 0], []⟩ 8 (by kernel_rfl) (by kernel_rfl) (by kernel_rfl) (by kernel_rfl)) ?_
  intro W base args ds gs before hval0 hW hcnd _
  have hval : ∀ (j : Nat) t v, Try.f22.params[j]? = some t → args[j]? = some v → Value.okWide Try.prog W .any base t v := hval0
  have hW' := hW
  obtain ⟨p, q, hA0, hV, rfl, hfz, hnd⟩ := hW
  have hA : DataW.TrodAll enc Try.prog W 0 (fun _ => true) true Try.f22.params.toList args.toList ds p := hA0
  rw [Try.params22] at hA hval
  obtain ⟨v0, vs0, d0, ds0, p0, q0, hargs, rfl, rfl, h0, r0⟩ := trodAll_cons hA
  obtain ⟨v1, vs1, d1, ds1, p1, q1, rfl, rfl, rfl, h1, r1⟩ := trodAll_cons r0
  obtain ⟨rfl, rfl, rfl⟩ := trodAll_nil r1
  obtain rfl : args = #[v0, v1] := by cases args; simp_all
  obtain ⟨rfl, rfl⟩ := trodVars_none hV
  obtain ⟨z0, rfl, rfl, rfl, wz0⟩ := open_int (k := .u8) Try.underlying5 (hval 0 5 v0 rfl rfl) h0
  obtain ⟨z1, rfl, rfl, rfl, wz1⟩ := open_int (k := .u8) Try.underlying5 (hval 1 5 v1 rfl rfl) h1
  obtain ⟨loz0, hiz0⟩ := wf_u8 wz0
  obtain ⟨loz1, hiz1⟩ := wf_u8 wz1
  clear hA0 hval0
  refine (coreNews_ z0 z1 W loz0 hiz0 loz1 hiz1).calls.mono fun e W' ⟨v, he, bel, hv⟩ => ?_
  subst he; subst hv
  exact ⟨_, rfl, _, _, _, [], _, [], hW', trodAll_mk1 (shut_bool Try.underlying4 _), (trodAll_cons_mk (shut_int Try.underlying5 wz0) (trodAll_cons_mk (shut_int Try.underlying5 wz1) trodAll_mk0)), rfl, bel.frame _, fun h => by cases h⟩

theorem facts (P : Program) (hP : P = Try.prog) : joinedFacts P 22 Try.f22 Rows.coreNewsSpec Rows.coreNewsRow = true := by
  unfold joinedFacts
  rw [show P.mayEnter = true by rw [hP]; exact mayEnter_, show P.liftsFinal = false by rw [hP]; exact liftsFinal_, show P.make = some .cut by rw [hP]; exact make_]
  subst hP
  kernel_rfl

theorem over : Rows.coreNewsRow.holds Try.pinned (OpenSpec.ofChange Rows.coreNewsSpec) :=
  OpenClaim.holds_of_wide 22 Try.f22 rfl rfl rfl rfl rfl rfl rfl ⟨rfl, rfl, rfl, rfl, rfl⟩ rfl rfl rfl rfl rfl (by kernel_rfl) Try.func22 (facts _ rfl)
    (of_decide_eq_true (by kernel_rfl)) (by unfold Func.isWrapper; first | (rw [if_pos (by decide +kernel)]; kernel_rfl) | (rw [if_neg (by decide +kernel)]; exact ⟨rfl, rfl⟩))
    (fun os started H enc _ => lifted os started H enc)

theorem proved : Rows.CoreNewsSaid := over
end Go.Proofs.Ytcfbdfgondmkoaa.coreNews
