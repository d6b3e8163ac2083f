/- HazPlaces: its walk lifted to the given statement. -/
import Derived.Test.YtcfbdfgondmkoaaM3
import Derived.Test.YtcfbdfgondmkoaaM10
import Derived.Test.YtcfbdfgondmkoaaRows
import Derived.Test.YtcfbdfgondmkoaaLaw5p
import Derived.WalkKit
import Derived.ProofKit
import Derived.OpenShut
import Derived.ShutString
import Derived.ChangeOld
import Derived.Below
namespace Go.Proofs.Ytcfbdfgondmkoaa.hazPlaces
open Go.ChangeShapes Go.WideShapes Go.ChangeAt Go.RowKit
set_option linter.unusedVariables false

set_option maxRecDepth 100000 in
theorem lifted (os : Os) (started : os.Started) (H : Type) (enc : TypeId × Value → H) :
    ReturnsInHanded {} Try.checked os 27 .any (Rows.hazPlacesSpec.pre6 enc Try.prog Try.f27 Rows.hazPlacesRow.domain false) (Rows.hazPlacesSpec.post enc Try.prog Try.f27 false true false false) := by
  refine returnsInHanded_of_change (C := Try.checked) own started (by kernel_rfl) Try.func27
    (ChangeSpec.witness6 (enc := enc) (C := Try.checked) false ⟨#[], #[.agg #[.int .u8 0, .int .u8 0, .int .u8 0, .int .u8 0]], []⟩ 8 (by kernel_rfl) (by kernel_rfl) (by kernel_rfl) (by kernel_rfl)) ?_
  intro W base args ds gs before hval0 hW hcnd _
  have hval : ∀ (j : Nat) t v, Try.f27.params[j]? = some t → args[j]? = some v → Value.okWide Try.prog W .any base t v := hval0
  have hW' := hW
  obtain ⟨p, q, hA0, hV, rfl, hfz, hnd⟩ := hW
  have hA : DataW.TrodAll enc Try.prog W 0 (fun _ => true) true Try.f27.params.toList args.toList ds p := hA0
  rw [Try.params27] at hA hval
  obtain ⟨v0, vs0, d0, ds0, p0, q0, hargs, rfl, rfl, h0, r0⟩ := trodAll_cons hA
  obtain ⟨rfl, rfl, rfl⟩ := trodAll_nil r0
  obtain rfl : args = #[v0] := by cases args; simp_all
  obtain ⟨rfl, rfl⟩ := trodVars_none hV
  have k0 := h0
  have lt0 : ∀ x ∈ p0, x.block < W.heap.size := by obtain ⟨m, hm⟩ := k0; exact DataW.trod_lt m _ _ _ hm
  obtain ⟨c0, rfl, hc0⟩ := okWide_struct Try.underlying128 (hval 0 128 v0 rfl rfl)
  have s0 := Rd.of_trod h0
  have n0 : Try.prog.cellsOf 128 = 4 := by kernel_rfl
  obtain ⟨x0_0, x0_1, x0_2, x0_3, rfl⟩ := agg4 (hc0.trans n0)
  obtain ⟨z0, ez0, wz0⟩ := Rd.int (k := .u8) (show Rd enc Try.prog W 5 [x0_0] by have q := Rd.field s0 Try.underlying128 0 (n := 1) rfl (by kernel_rfl); exact q) Try.underlying5
  obtain rfl : x0_0 = .int .u8 z0 := by simpa using ez0
  obtain ⟨z1, ez1, wz1⟩ := Rd.int (k := .u8) (show Rd enc Try.prog W 5 [x0_1] by have q := Rd.field s0 Try.underlying128 1 (n := 1) rfl (by kernel_rfl); exact q) Try.underlying5
  obtain rfl : x0_1 = .int .u8 z1 := by simpa using ez1
  obtain ⟨z2, ez2, wz2⟩ := Rd.int (k := .u8) (show Rd enc Try.prog W 5 [x0_2] by have q := Rd.field s0 Try.underlying128 2 (n := 1) rfl (by kernel_rfl); exact q) Try.underlying5
  obtain rfl : x0_2 = .int .u8 z2 := by simpa using ez2
  obtain ⟨z3, ez3, wz3⟩ := Rd.int (k := .u8) (show Rd enc Try.prog W 5 [x0_3] by have q := Rd.field s0 Try.underlying128 3 (n := 1) rfl (by kernel_rfl); exact q) Try.underlying5
  obtain rfl : x0_3 = .int .u8 z3 := by simpa using ez3
  obtain ⟨loz0, hiz0⟩ := wf_u8 wz0
  obtain ⟨loz1, hiz1⟩ := wf_u8 wz1
  obtain ⟨loz2, hiz2⟩ := wf_u8 wz2
  obtain ⟨loz3, hiz3⟩ := wf_u8 wz3
  clear hA0 hval0
  refine (hazPlaces_ z0 z1 z2 z3 W loz0 hiz0 loz1 hiz1 loz2 hiz2 loz3 hiz3).calls.mono fun e W' ⟨v, he, bel, hv⟩ => ?_
  subst he; subst hv
  exact ⟨_, rfl, _, _, _, [], _, [], hW', trodAll_mk1 (shut_bool Try.underlying4 _), (trodAll_cons_mk (Below.trod laidOut (by kernel_rfl) (of_decide_eq_true (by kernel_rfl)) k0 bel lt0) trodAll_mk0), rfl, bel.frame _, fun h => by cases h⟩

theorem facts (P : Program) (hP : P = Try.prog) : joinedFacts P 27 Try.f27 Rows.hazPlacesSpec Rows.hazPlacesRow = true := by
  unfold joinedFacts
  rw [show P.mayEnter = true by rw [hP]; exact mayEnter_, show P.liftsFinal = false by rw [hP]; exact liftsFinal_, show P.make = some .cut by rw [hP]; exact make_]
  subst hP
  kernel_rfl

theorem over : Rows.hazPlacesRow.holds Try.pinned (OpenSpec.ofChange Rows.hazPlacesSpec) :=
  OpenClaim.holds_of_wide 27 Try.f27 rfl rfl rfl rfl rfl rfl rfl ⟨rfl, rfl, rfl, rfl, rfl⟩ rfl rfl rfl rfl rfl (by kernel_rfl) Try.func27 (facts _ rfl)
    (of_decide_eq_true (by kernel_rfl)) (by unfold Func.isWrapper; first | (rw [if_pos (by decide +kernel)]; kernel_rfl) | (rw [if_neg (by decide +kernel)]; exact ⟨rfl, rfl⟩))
    (fun os started H enc _ => lifted os started H enc)

theorem proved : Rows.HazPlacesSaid := over
end Go.Proofs.Ytcfbdfgondmkoaa.hazPlaces
