/- MemTwice: its walk lifted to the given statement. -/
import Derived.Test.YtcfbdfgondmkoaaRows
import Derived.Test.YtcfbdfgondmkoaaLaw2g
import Derived.Test.YtcfbdfgondmkoaaRdM
import Derived.Test.YtcfbdfgondmkoaaClosed
import Derived.WalkKit
import Derived.ProofKit
import Derived.OpenShut
import Derived.ShutString
import Derived.ChangeOld
import Derived.Below
namespace Go.Proofs.Ytcfbdfgondmkoaa.memTwice
open Go.ChangeShapes Go.WideShapes Go.ChangeAt Go.RowKit
set_option linter.unusedVariables false

set_option maxRecDepth 100000 in
theorem lifted (os : Os) (started : os.Started) (H : Type) (enc : TypeId × Value → H) :
    ReturnsInHanded {} Try.checked os 15 .any (Rows.memTwiceSpec.pre6 enc Try.prog Try.f15 Rows.memTwiceRow.domain false) (Rows.memTwiceSpec.post enc Try.prog Try.f15 false true false false) := by
  refine returnsInHanded_of_change (C := Try.checked) own started (by kernel_rfl) Try.func15
    (ChangeSpec.witness6 (enc := enc) (C := Try.checked) false ⟨#[], #[.agg #[.slice none 0 0, .slice none 0 0, .bool false], .agg #[.int .i64 0, .int .i64 0], .agg #[.int .i64 0, .int .i64 0]], []⟩ 8 (by kernel_rfl) (by kernel_rfl) (by kernel_rfl) (by kernel_rfl)) ?_
  intro W base args ds gs before hval0 hW hcnd _
  have hval : ∀ (j : Nat) t v, Try.f15.params[j]? = some t → args[j]? = some v → Value.okWide Try.prog W .any base t v := hval0
  have hW' := hW
  obtain ⟨p, q, hA0, hV, rfl, hfz, hnd⟩ := hW
  have hA : DataW.TrodAll enc Try.prog W 0 (fun _ => true) true Try.f15.params.toList args.toList ds p := hA0
  rw [Try.params15] at hA hval
  obtain ⟨v0, vs0, d0, ds0, p0, q0, hargs, rfl, rfl, h0, r0⟩ := trodAll_cons hA
  obtain ⟨v1, vs1, d1, ds1, p1, q1, rfl, rfl, rfl, h1, r1⟩ := trodAll_cons r0
  obtain ⟨v2, vs2, d2, ds2, p2, q2, rfl, rfl, rfl, h2, r2⟩ := trodAll_cons r1
  obtain ⟨rfl, rfl, rfl⟩ := trodAll_nil r2
  obtain rfl : args = #[v0, v1, v2] := by cases args; simp_all
  obtain ⟨rfl, rfl⟩ := trodVars_none hV
  have k0 := h0
  have lt0 : ∀ x ∈ p0, x.block < W.heap.size := by obtain ⟨m, hm⟩ := k0; exact DataW.trod_lt m _ _ _ hm
  obtain ⟨c0, rfl, hc0⟩ := okWide_struct Try.underlying50 (hval 0 50 v0 rfl rfl)
  have s0 := Rd.of_trod h0
  have n0 : Try.prog.cellsOf 50 = 3 := by kernel_rfl
  obtain ⟨x0_0, x0_1, x0_2, rfl⟩ := agg3 (hc0.trans n0)
  have qm0 : Rd enc Try.prog W 50 [x0_0, x0_1, x0_2] := s0
  obtain ⟨ym00, ym01, ym02, m0, em0, hm0⟩ := Rd.mem qm0
  obtain ⟨rfl, rfl, rfl⟩ : x0_0 = ym00 ∧ x0_1 = ym01 ∧ x0_2 = ym02 := by simpa using em0
  have k1 := h1
  have lt1 : ∀ x ∈ p1, x.block < W.heap.size := by obtain ⟨m, hm⟩ := k1; exact DataW.trod_lt m _ _ _ hm
  obtain ⟨c1, rfl, hc1⟩ := okWide_array Try.underlying75 (hval 1 75 v1 rfl rfl)
  have s1 := Rd.of_trod h1
  have n1 : Try.prog.cellsOf 75 = 2 := by kernel_rfl
  obtain ⟨x1_0, x1_1, rfl⟩ := agg2 (hc1.trans n1)
  obtain ⟨z0, ez0, wz0⟩ := Rd.int (k := .i64) (show Rd enc Try.prog W 3 [x1_0] by have q := Rd.elem s1 Try.underlying75 0 (m := 1) (by decide) (by kernel_rfl); exact q) Try.underlying3
  obtain rfl : x1_0 = .int .i64 z0 := by simpa using ez0
  obtain ⟨z1, ez1, wz1⟩ := Rd.int (k := .i64) (show Rd enc Try.prog W 3 [x1_1] by have q := Rd.elem s1 Try.underlying75 1 (m := 1) (by decide) (by kernel_rfl); exact q) Try.underlying3
  obtain rfl : x1_1 = .int .i64 z1 := by simpa using ez1
  have k2 := h2
  have lt2 : ∀ x ∈ p2, x.block < W.heap.size := by obtain ⟨m, hm⟩ := k2; exact DataW.trod_lt m _ _ _ hm
  obtain ⟨c2, rfl, hc2⟩ := okWide_array Try.underlying75 (hval 2 75 v2 rfl rfl)
  have s2 := Rd.of_trod h2
  have n2 : Try.prog.cellsOf 75 = 2 := by kernel_rfl
  obtain ⟨x2_0, x2_1, rfl⟩ := agg2 (hc2.trans n2)
  obtain ⟨z2, ez2, wz2⟩ := Rd.int (k := .i64) (show Rd enc Try.prog W 3 [x2_0] by have q := Rd.elem s2 Try.underlying75 0 (m := 1) (by decide) (by kernel_rfl); exact q) Try.underlying3
  obtain rfl : x2_0 = .int .i64 z2 := by simpa using ez2
  obtain ⟨z3, ez3, wz3⟩ := Rd.int (k := .i64) (show Rd enc Try.prog W 3 [x2_1] by have q := Rd.elem s2 Try.underlying75 1 (m := 1) (by decide) (by kernel_rfl); exact q) Try.underlying3
  obtain rfl : x2_1 = .int .i64 z3 := by simpa using ez3
  obtain ⟨loz0, hiz0⟩ := wf_i64 wz0
  obtain ⟨loz1, hiz1⟩ := wf_i64 wz1
  clear hA0 hval0
  refine (memTwice_ x0_0 x0_1 x0_2 m0 z0 z1 z2 z3 W hm0 loz0 hiz0 loz1 hiz1).calls.mono fun e W' ⟨v, he, bel, hv⟩ => ?_
  subst he; subst hv
  exact ⟨_, rfl, _, _, _, [], _, [], hW', trodAll_mk1 (shut_bool Try.underlying4 _), (trodAll_cons_mk (Below.trod laidOut (by kernel_rfl) (of_decide_eq_true (by kernel_rfl)) k0 bel lt0) (trodAll_cons_mk (Below.trod laidOut (by kernel_rfl) (of_decide_eq_true (by kernel_rfl)) k1 bel lt1) (trodAll_cons_mk (Below.trod laidOut (by kernel_rfl) (of_decide_eq_true (by kernel_rfl)) k2 bel lt2) trodAll_mk0))), rfl, bel.frame _, fun h => by cases h⟩

theorem facts (P : Program) (hP : P = Try.prog) : joinedFacts P 15 Try.f15 Rows.memTwiceSpec Rows.memTwiceRow = true := by
  unfold joinedFacts
  rw [show P.mayEnter = true by rw [hP]; exact mayEnter_, show P.liftsFinal = false by rw [hP]; exact liftsFinal_, show P.make = some .cut by rw [hP]; exact make_]
  subst hP
  kernel_rfl

theorem over : Rows.memTwiceRow.holds Try.pinned (OpenSpec.ofChange Rows.memTwiceSpec) :=
  OpenClaim.holds_of_wide 15 Try.f15 rfl rfl rfl rfl rfl rfl rfl ⟨rfl, rfl, rfl, rfl, rfl⟩ rfl rfl rfl rfl rfl (by kernel_rfl) Try.func15 (facts _ rfl)
    (of_decide_eq_true (by kernel_rfl)) (by unfold Func.isWrapper; first | (rw [if_pos (by decide +kernel)]; kernel_rfl) | (rw [if_neg (by decide +kernel)]; exact ⟨rfl, rfl⟩))
    (fun os started H enc _ => lifted os started H enc)

theorem proved : Rows.MemTwiceSaid := over
end Go.Proofs.Ytcfbdfgondmkoaa.memTwice
