/- PackApart: its walk lifted to the given statement. -/
import Derived.Test.YtcfbdfgondmkoaaRows
import Derived.Test.YtcfbdfgondmkoaaLaw1g
import Derived.Test.YtcfbdfgondmkoaaRd
import Derived.Test.YtcfbdfgondmkoaaClosed
import Derived.WalkKit
import Derived.ProofKit
import Derived.OpenShut
import Derived.ShutString
import Derived.ChangeOld
import Derived.Below
namespace Go.Proofs.Ytcfbdfgondmkoaa.packApart
open Go.ChangeShapes Go.WideShapes Go.ChangeAt Go.RowKit
set_option linter.unusedVariables false

set_option maxRecDepth 100000 in
theorem lifted (os : Os) (started : os.Started) (H : Type) (enc : TypeId × Value → H) :
    ReturnsInHanded {} Try.checked os 6 .any (Rows.packApartSpec.pre6 enc Try.prog Try.f6 Rows.packApartRow.domain false) (Rows.packApartSpec.post enc Try.prog Try.f6 false true false false) := by
  refine returnsInHanded_of_change (C := Try.checked) own started (by kernel_rfl) Try.func6
    (ChangeSpec.witness6 (enc := enc) (C := Try.checked) false ⟨#[], #[.agg #[.int .i64 0, .int .i64 0, .int .i64 0], .agg #[.int .i64 0, .int .i64 0, .int .i64 0]], []⟩ 8 (by kernel_rfl) (by kernel_rfl) (by kernel_rfl) (by kernel_rfl)) ?_
  intro W base args ds gs before hval0 hW hcnd _
  have hval : ∀ (j : Nat) t v, Try.f6.params[j]? = some t → args[j]? = some v → Value.okWide Try.prog W .any base t v := hval0
  have hW' := hW
  obtain ⟨p, q, hA0, hV, rfl, hfz, hnd⟩ := hW
  have hA : DataW.TrodAll enc Try.prog W 0 (fun _ => true) true Try.f6.params.toList args.toList ds p := hA0
  rw [Try.params6] at hA hval
  obtain ⟨v0, vs0, d0, ds0, p0, q0, hargs, rfl, rfl, h0, r0⟩ := trodAll_cons hA
  obtain ⟨v1, vs1, d1, ds1, p1, q1, rfl, rfl, rfl, h1, r1⟩ := trodAll_cons r0
  obtain ⟨rfl, rfl, rfl⟩ := trodAll_nil r1
  obtain rfl : args = #[v0, v1] := by cases args; simp_all
  obtain ⟨rfl, rfl⟩ := trodVars_none hV
  have k0 := h0
  have lt0 : ∀ x ∈ p0, x.block < W.heap.size := by obtain ⟨m, hm⟩ := k0; exact DataW.trod_lt m _ _ _ hm
  obtain ⟨c0, rfl, hc0⟩ := okWide_array Try.underlying41 (hval 0 41 v0 rfl rfl)
  have s0 := Rd.of_trod h0
  have n0 : Try.prog.cellsOf 41 = 3 := by kernel_rfl
  obtain ⟨x0_0, x0_1, x0_2, rfl⟩ := agg3 (hc0.trans n0)
  obtain ⟨z0, ez0, wz0⟩ := Rd.int (k := .i64) (show Rd enc Try.prog W 3 [x0_0] by have q := Rd.elem s0 Try.underlying41 0 (m := 1) (by decide) (by kernel_rfl); exact q) Try.underlying3
  obtain rfl : x0_0 = .int .i64 z0 := by simpa using ez0
  obtain ⟨z1, ez1, wz1⟩ := Rd.int (k := .i64) (show Rd enc Try.prog W 3 [x0_1] by have q := Rd.elem s0 Try.underlying41 1 (m := 1) (by decide) (by kernel_rfl); exact q) Try.underlying3
  obtain rfl : x0_1 = .int .i64 z1 := by simpa using ez1
  obtain ⟨z2, ez2, wz2⟩ := Rd.int (k := .i64) (show Rd enc Try.prog W 3 [x0_2] by have q := Rd.elem s0 Try.underlying41 2 (m := 1) (by decide) (by kernel_rfl); exact q) Try.underlying3
  obtain rfl : x0_2 = .int .i64 z2 := by simpa using ez2
  have k1 := h1
  have lt1 : ∀ x ∈ p1, x.block < W.heap.size := by obtain ⟨m, hm⟩ := k1; exact DataW.trod_lt m _ _ _ hm
  obtain ⟨c1, rfl, hc1⟩ := okWide_array Try.underlying41 (hval 1 41 v1 rfl rfl)
  have s1 := Rd.of_trod h1
  have n1 : Try.prog.cellsOf 41 = 3 := by kernel_rfl
  obtain ⟨x1_0, x1_1, x1_2, rfl⟩ := agg3 (hc1.trans n1)
  obtain ⟨z3, ez3, wz3⟩ := Rd.int (k := .i64) (show Rd enc Try.prog W 3 [x1_0] by have q := Rd.elem s1 Try.underlying41 0 (m := 1) (by decide) (by kernel_rfl); exact q) Try.underlying3
  obtain rfl : x1_0 = .int .i64 z3 := by simpa using ez3
  obtain ⟨z4, ez4, wz4⟩ := Rd.int (k := .i64) (show Rd enc Try.prog W 3 [x1_1] by have q := Rd.elem s1 Try.underlying41 1 (m := 1) (by decide) (by kernel_rfl); exact q) Try.underlying3
  obtain rfl : x1_1 = .int .i64 z4 := by simpa using ez4
  obtain ⟨z5, ez5, wz5⟩ := Rd.int (k := .i64) (show Rd enc Try.prog W 3 [x1_2] by have q := Rd.elem s1 Try.underlying41 2 (m := 1) (by decide) (by kernel_rfl); exact q) Try.underlying3
  obtain rfl : x1_2 = .int .i64 z5 := by simpa using ez5
  clear hA0 hval0
  refine (packApart_ z0 z1 z2 z3 z4 z5 W).calls.mono fun e W' ⟨v, he, bel, hv⟩ => ?_
  subst he; subst hv
  exact ⟨_, rfl, _, _, _, [], _, [], hW', trodAll_mk1 (shut_bool Try.underlying4 _), (trodAll_cons_mk (Below.trod laidOut (by kernel_rfl) (of_decide_eq_true (by kernel_rfl)) k0 bel lt0) (trodAll_cons_mk (Below.trod laidOut (by kernel_rfl) (of_decide_eq_true (by kernel_rfl)) k1 bel lt1) trodAll_mk0)), rfl, bel.frame _, fun h => by cases h⟩

theorem facts (P : Program) (hP : P = Try.prog) : joinedFacts P 6 Try.f6 Rows.packApartSpec Rows.packApartRow = true := by
  unfold joinedFacts
  rw [show P.mayEnter = true by rw [hP]; exact mayEnter_, show P.liftsFinal = false by rw [hP]; exact liftsFinal_, show P.make = some .cut by rw [hP]; exact make_]
  subst hP
  kernel_rfl

theorem over : Rows.packApartRow.holds Try.pinned (OpenSpec.ofChange Rows.packApartSpec) :=
  OpenClaim.holds_of_wide 6 Try.f6 rfl rfl rfl rfl rfl rfl rfl ⟨rfl, rfl, rfl, rfl, rfl⟩ rfl rfl rfl rfl rfl (by kernel_rfl) Try.func6 (facts _ rfl)
    (of_decide_eq_true (by kernel_rfl)) (by unfold Func.isWrapper; first | (rw [if_pos (by decide +kernel)]; kernel_rfl) | (rw [if_neg (by decide +kernel)]; exact ⟨rfl, rfl⟩))
    (fun os started H enc _ => lifted os started H enc)

theorem proved : Rows.PackApartSaid := over
end Go.Proofs.Ytcfbdfgondmkoaa.packApart
