/- StackTells: its walk lifted to the given statement. -/
import Derived.Test.YtcfbdfgondmkoaaM15
import Derived.Test.YtcfbdfgondmkoaaRows
import Derived.Test.YtcfbdfgondmkoaaLaw4t
import Derived.WalkKit
import Derived.ProofKit
import Derived.OpenShut
import Derived.ShutString
import Derived.ChangeOld
import Derived.Below
namespace Go.Proofs.Ytcfbdfgondmkoaa.stackTells
open Go.ChangeShapes Go.WideShapes Go.ChangeAt Go.RowKit
set_option linter.unusedVariables false

set_option maxRecDepth 100000 in
theorem lifted (os : Os) (started : os.Started) (H : Type) (enc : TypeId × Value → H) :
    ReturnsInHanded {} Try.checked os 29 .any (Rows.stackTellsSpec.pre6 enc Try.prog Try.f29 Rows.stackTellsRow.domain false) (Rows.stackTellsSpec.post enc Try.prog Try.f29 false true false false) := by
  refine returnsInHanded_of_change (C := Try.checked) own started (by kernel_rfl) Try.func29
    (ChangeSpec.witness6 (enc := enc) (C := Try.checked) false ⟨#[], #[.agg #[.slice none 0 0, .slice none 0 0, .bool false, .slice none 0 0, .slice none 0 0], .int .i64 0, .int .i64 0], []⟩ 8 (by kernel_rfl) (by kernel_rfl) (by kernel_rfl) (by kernel_rfl)) ?_
  intro W base args ds gs before hval0 hW hcnd _
  have hval : ∀ (j : Nat) t v, Try.f29.params[j]? = some t → args[j]? = some v → Value.okWide Try.prog W .any base t v := hval0
  have hW' := hW
  obtain ⟨p, q, hA0, hV, rfl, hfz, hnd⟩ := hW
  have hA : DataW.TrodAll enc Try.prog W 0 (fun _ => true) true Try.f29.params.toList args.toList ds p := hA0
  rw [Try.params29] at hA hval
  obtain ⟨v0, vs0, d0, ds0, p0, q0, hargs, rfl, rfl, h0, r0⟩ := trodAll_cons hA
  obtain ⟨v1, vs1, d1, ds1, p1, q1, rfl, rfl, rfl, h1, r1⟩ := trodAll_cons r0
  obtain ⟨v2, vs2, d2, ds2, p2, q2, rfl, rfl, rfl, h2, r2⟩ := trodAll_cons r1
  obtain ⟨rfl, rfl, rfl⟩ := trodAll_nil r2
  obtain rfl : args = #[v0, v1, v2] := by cases args; simp_all
  obtain ⟨rfl, rfl⟩ := trodVars_none hV
  have k0 := h0
  have lt0 : ∀ x ∈ p0, x.block < W.heap.size := by obtain ⟨m, hm⟩ := k0; exact DataW.trod_lt m _ _ _ hm
  obtain ⟨c0, rfl, hc0⟩ := okWide_struct Try.underlying83 (hval 0 83 v0 rfl rfl)
  have s0 := Rd.of_trod h0
  have n0 : Try.prog.cellsOf 83 = 5 := by kernel_rfl
  obtain ⟨x0_0, x0_1, x0_2, x0_3, x0_4, rfl⟩ := agg5 (hc0.trans n0)
  have qsys0 : Rd enc Try.prog W 83 [x0_0, x0_1, x0_2, x0_3, x0_4] := s0
  obtain ⟨ysys00, ysys01, ysys02, ysys03, ysys04, sys0, esys0, hsys0⟩ := Rd.sys qsys0
  obtain ⟨rfl, rfl, rfl, rfl, rfl⟩ : x0_0 = ysys00 ∧ x0_1 = ysys01 ∧ x0_2 = ysys02 ∧ x0_3 = ysys03 ∧ x0_4 = ysys04 := by simpa using esys0
  obtain ⟨z0, rfl, rfl, rfl, wz0⟩ := open_int (k := .i64) Try.underlying3 (hval 1 3 v1 rfl rfl) h1
  obtain ⟨z1, rfl, rfl, rfl, wz1⟩ := open_int (k := .i64) Try.underlying3 (hval 2 3 v2 rfl rfl) h2
  clear hA0 hval0
  refine (stackTells_ x0_0 x0_1 x0_2 x0_3 x0_4 sys0 z0 z1 W hsys0).calls.mono fun e W' ⟨v, he, bel, hv⟩ => ?_
  subst he; subst hv
  exact ⟨_, rfl, _, _, _, [], _, [], hW', trodAll_mk1 (shut_bool Try.underlying4 _), (trodAll_cons_mk (Below.trod laidOut (by kernel_rfl) (of_decide_eq_true (by kernel_rfl)) k0 bel lt0) (trodAll_cons_mk (shut_int Try.underlying3 wz0) (trodAll_cons_mk (shut_int Try.underlying3 wz1) trodAll_mk0))), rfl, bel.frame _, fun h => by cases h⟩

theorem facts (P : Program) (hP : P = Try.prog) : joinedFacts P 29 Try.f29 Rows.stackTellsSpec Rows.stackTellsRow = true := by
  unfold joinedFacts
  rw [show P.mayEnter = true by rw [hP]; exact mayEnter_, show P.liftsFinal = false by rw [hP]; exact liftsFinal_, show P.make = some .cut by rw [hP]; exact make_]
  subst hP
  kernel_rfl

theorem over : Rows.stackTellsRow.holds Try.pinned (OpenSpec.ofChange Rows.stackTellsSpec) :=
  OpenClaim.holds_of_wide 29 Try.f29 rfl rfl rfl rfl rfl rfl rfl ⟨rfl, rfl, rfl, rfl, rfl⟩ rfl rfl rfl rfl rfl (by kernel_rfl) Try.func29 (facts _ rfl)
    (of_decide_eq_true (by kernel_rfl)) (by unfold Func.isWrapper; first | (rw [if_pos (by decide +kernel)]; kernel_rfl) | (rw [if_neg (by decide +kernel)]; exact ⟨rfl, rfl⟩))
    (fun os started H enc _ => lifted os started H enc)

theorem proved : Rows.StackTellsSaid := over
end Go.Proofs.Ytcfbdfgondmkoaa.stackTells
