/- CoreDoes: its walk lifted to the given statement. -/
import Derived.Test.YtcfbdfgondmkoaaM7
import Derived.Test.YtcfbdfgondmkoaaM8
import Derived.Test.YtcfbdfgondmkoaaRows
import Derived.Test.YtcfbdfgondmkoaaLaw3d
import Derived.WalkKit
import Derived.ProofKit
import Derived.OpenShut
import Derived.ShutString
import Derived.ChangeOld
import Derived.Below
namespace Go.Proofs.Ytcfbdfgondmkoaa.coreDoes
open Go.ChangeShapes Go.WideShapes Go.ChangeAt Go.RowKit
set_option linter.unusedVariables false

set_option maxRecDepth 100000 in
theorem lifted (os : Os) (started : os.Started) (H : Type) (enc : TypeId × Value → H) :
    ReturnsInHanded {} Try.checked os 20 .any (Rows.coreDoesSpec.pre6 enc Try.prog Try.f20 Rows.coreDoesRow.domain false) (Rows.coreDoesSpec.post enc Try.prog Try.f20 false true false false) := by
  refine returnsInHanded_of_change (C := Try.checked) own started (by kernel_rfl) Try.func20
    (ChangeSpec.witness6 (enc := enc) (C := Try.checked) false ⟨#[], #[.agg #[.slice none 0 0, .slice none 0 0, .bool false, .slice none 0 0, .slice none 0 0, .int .i64 0, .int .i64 0, .int .i64 0, .int .i64 0, .int .i64 0, .int .i64 0, .int .i64 0, .int .i64 0, .int .i64 0, .int .i64 0, .int .i64 0, .slice none 0 0, .int .i64 0, .int .u8 0]], []⟩ 8 (by kernel_rfl) (by kernel_rfl) (by kernel_rfl) (by kernel_rfl)) ?_
  intro W base args ds gs before hval0 hW hcnd _
  have hval : ∀ (j : Nat) t v, Try.f20.params[j]? = some t → args[j]? = some v → Value.okWide Try.prog W .any base t v := hval0
  have hW' := hW
  obtain ⟨p, q, hA0, hV, rfl, hfz, hnd⟩ := hW
  have hA : DataW.TrodAll enc Try.prog W 0 (fun _ => true) true Try.f20.params.toList args.toList ds p := hA0
  rw [Try.params20] at hA hval
  obtain ⟨v0, vs0, d0, ds0, p0, q0, hargs, rfl, rfl, h0, r0⟩ := trodAll_cons hA
  obtain ⟨rfl, rfl, rfl⟩ := trodAll_nil r0
  obtain rfl : args = #[v0] := by cases args; simp_all
  obtain ⟨rfl, rfl⟩ := trodVars_none hV
  have k0 := h0
  have lt0 : ∀ x ∈ p0, x.block < W.heap.size := by obtain ⟨m, hm⟩ := k0; exact DataW.trod_lt m _ _ _ hm
  obtain ⟨c0, rfl, hc0⟩ := okWide_struct Try.underlying100 (hval 0 100 v0 rfl rfl)
  have s0 := Rd.of_trod h0
  have n0 : Try.prog.cellsOf 100 = 19 := by kernel_rfl
  obtain ⟨x0_0, x0_1, x0_2, x0_3, x0_4, x0_5, x0_6, x0_7, x0_8, x0_9, x0_10, x0_11, x0_12, x0_13, x0_14, x0_15, x0_16, x0_17, x0_18, rfl⟩ := agg19 (hc0.trans n0)
  have qsys0 : Rd enc Try.prog W 83 [x0_0, x0_1, x0_2, x0_3, x0_4] := by have q := Rd.field s0 Try.underlying100 0 (n := 5) rfl (by kernel_rfl); exact q
  obtain ⟨ysys00, ysys01, ysys02, ysys03, ysys04, sys0, esys0, hsys0⟩ := Rd.sys qsys0
  obtain ⟨rfl, rfl, rfl, rfl, rfl⟩ : x0_0 = ysys00 ∧ x0_1 = ysys01 ∧ x0_2 = ysys02 ∧ x0_3 = ysys03 ∧ x0_4 = ysys04 := by simpa using esys0
  obtain ⟨z0, ez0, wz0⟩ := Rd.int (k := .i64) (show Rd enc Try.prog W 3 [x0_5] by have q := Rd.field s0 Try.underlying100 1 (n := 1) rfl (by kernel_rfl); exact q) Try.underlying3
  obtain rfl : x0_5 = .int .i64 z0 := by simpa using ez0
  have qfr1 : Rd enc Try.prog W 95 [x0_6, x0_7, x0_8, x0_9, x0_10, x0_11, x0_12, x0_13, x0_14, x0_15, x0_16] := by have q := Rd.field s0 Try.underlying100 2 (n := 11) rfl (by kernel_rfl); exact q
  obtain ⟨_, fr1, hfr1⟩ := Rd.frame qfr1
  obtain ⟨z1, ez1, wz1⟩ := Rd.int (k := .i64) (show Rd enc Try.prog W 3 [x0_17] by have q := Rd.field s0 Try.underlying100 3 (n := 1) rfl (by kernel_rfl); exact q) Try.underlying3
  obtain rfl : x0_17 = .int .i64 z1 := by simpa using ez1
  obtain ⟨z2, ez2, wz2⟩ := Rd.int (k := .u8) (show Rd enc Try.prog W 5 [x0_18] by have q := Rd.field s0 Try.underlying100 4 (n := 1) rfl (by kernel_rfl); exact q) Try.underlying5
  obtain rfl : x0_18 = .int .u8 z2 := by simpa using ez2
  obtain ⟨loz2, hiz2⟩ := wf_u8 wz2
  clear hA0 hval0
  refine (coreDoes_ x0_0 x0_1 x0_2 x0_3 x0_4 sys0 z0 x0_6 x0_7 x0_8 x0_9 x0_10 x0_11 x0_12 x0_13 x0_14 x0_15 x0_16 fr1 z1 z2 W hsys0 ⟨_, rfl, hfr1⟩ loz2 hiz2).calls.mono fun e W' ⟨v, he, bel, hv⟩ => ?_
  subst he; subst hv
  exact ⟨_, rfl, _, _, _, [], _, [], hW', trodAll_mk1 (shut_bool Try.underlying4 _), (trodAll_cons_mk (Below.trod laidOut (by kernel_rfl) (of_decide_eq_true (by kernel_rfl)) k0 bel lt0) trodAll_mk0), rfl, bel.frame _, fun h => by cases h⟩

theorem facts (P : Program) (hP : P = Try.prog) : joinedFacts P 20 Try.f20 Rows.coreDoesSpec Rows.coreDoesRow = true := by
  unfold joinedFacts
  rw [show P.mayEnter = true by rw [hP]; exact mayEnter_, show P.liftsFinal = false by rw [hP]; exact liftsFinal_, show P.make = some .cut by rw [hP]; exact make_]
  subst hP
  kernel_rfl

theorem over : Rows.coreDoesRow.holds Try.pinned (OpenSpec.ofChange Rows.coreDoesSpec) :=
  OpenClaim.holds_of_wide 20 Try.f20 rfl rfl rfl rfl rfl rfl rfl ⟨rfl, rfl, rfl, rfl, rfl⟩ rfl rfl rfl rfl rfl (by kernel_rfl) Try.func20 (facts _ rfl)
    (of_decide_eq_true (by kernel_rfl)) (by unfold Func.isWrapper; first | (rw [if_pos (by decide +kernel)]; kernel_rfl) | (rw [if_neg (by decide +kernel)]; exact ⟨rfl, rfl⟩))
    (fun os started H enc _ => lifted os started H enc)

theorem proved : Rows.CoreDoesSaid := over
end Go.Proofs.Ytcfbdfgondmkoaa.coreDoes
