/- StackTells: its walk. -/
import Derived.Test.YtcfbdfgondmkoaaM16
import Derived.Test.YtcfbdfgondmkoaaM14
import Derived.Test.YtcfbdfgondmkoaaM15
namespace Go.Proofs.Ytcfbdfgondmkoaa
open Go Go.RowKit
set_option linter.unusedSimpArgs false
set_option linter.unusedVariables false
set_option linter.unnecessarySimpa false

theorem sameF_refl (f : FrameD) : sameF f f = true := by simp [sameF, eq8]
theorem sameC_refl (c : CoreD) : sameC c c = true := by simp [sameC, eq3, all2_refl sameF_refl]
theorem sameE_refl (e : EvD) : sameE e e = true := by simp [sameE]
theorem sameS_refl (s : SysD) : sameS s s = true := by simp [sameS, sameD_refl, all2_refl sameC_refl, all2_refl sameE_refl]
theorem may4 {s : SysD} {n : Nat} (h : mayS s n = true) : s.C.length ≤ 100000 ∧ (∀ (i : Nat) c, s.C[i]? = some c → c.F.length ≤ 100000) ∧ Fits s.M ∧ s.L.length ≤ 99999 := by
  simp only [mayS, smallS, rightS, Bool.and_eq_true, decide_eq_true_eq, Bool.not_eq_true'] at h
  obtain ⟨⟨_, h1, h2, _⟩, h5, h3, h6, h4⟩ := h
  rw [List.any_eq_false] at h4
  unfold rightD at h5
  simp only [Bool.and_eq_true, decide_eq_true_eq] at h5
  obtain ⟨r2, r201, rW, _⟩ := h5.1
  refine ⟨by omega, fun i c hi => ?_, ⟨by omega, by omega, by omega⟩, by omega⟩
  have := h4 c (List.mem_of_getElem? hi)
  simp [oddC] at this
  omega
set_option maxHeartbeats 8000000 in
set_option maxRecDepth 100000 in
theorem stackTells_ (v0 v1 v2 v3 v4 : Value) (s : SysD) (id op : Int) (w : World) (h : IsSys no w (.agg #[v0, v1, v2, v3, v4]) s) :
    Gives Proofs.Try.prog 29 #[.agg #[v0, v1, v2, v3, v4], .int .i64 id, .int .i64 op] w (eqv (.bool true)) := by
  have km := fun (w' : World) (e : Ext w w') => refMay_ no _ s 60 (by omega) w' (h.ext e)
  obtain ⟨aw, cw, ag, cg, ac, cc, al, cl, e, hw, hg, hc, hl⟩ := h.opened
  obtain ⟨rfl, rfl, rfl, rfl, rfl⟩ : v0 = .slice aw s.M.W.length cw ∧ v1 = .slice ag s.M.G.length cg ∧ v2 = .bool s.M.bad ∧ v3 = .slice ac s.C.length cc ∧ v4 = .slice al s.L.length cl := by simpa using e
  clear e
  cases hm : mayS s 60
  · rw [hm] at km
    clear hm
    go_enter Proofs.Try.func29, Proofs.Try.ntmps29
    go_wp2_with (fail)
    go_at_call 104
    refine (shown4_ _).calls.mono ?_
    rintro e w1 ⟨_, rfl, hb1, rfl⟩
    have B0_1 : Box w1 (w.heap.size) #[.slice aw s.M.W.length cw, .slice ag s.M.G.length cg, .bool s.M.bad, .slice ac s.C.length cc, .slice al s.L.length cl] 83 := (Box.newAt _ _ _ (by first | rfl | simp)).ext hb1
    have s1 : w.heap.size + 1 ≤ w1.heap.size := (by have h := hb1.size; first | omega | (simp at h; omega))
    obtain ⟨c0_0, c0_1, c0_2, c0_3, c0_4, d0_0, d0_1, d0_2, d0_3, d0_4⟩ := cells5 B0_1
    have z0 : w.heap.size < w1.heap.size := B0_1.lt
    go_wp2_with (fail)
    go_at_call 83
    refine (km _ exq).calls.mono ?_
    rintro e w2 ⟨_, rfl, hb2, rfl⟩
    have B0_2 : Box w2 (w.heap.size) #[.slice aw s.M.W.length cw, .slice ag s.M.G.length cg, .bool s.M.bad, .slice ac s.C.length cc, .slice al s.L.length cl] 83 := B0_1.ext hb2
    clear c0_0 c0_1 c0_2 c0_3 c0_4 d0_0 d0_1 d0_2 d0_3 d0_4 z0
    have s2 : w1.heap.size ≤ w2.heap.size := (by have h := hb2.size; first | omega | (simp at h; omega))
    obtain ⟨c0_0, c0_1, c0_2, c0_3, c0_4, d0_0, d0_1, d0_2, d0_3, d0_4⟩ := cells5 B0_2
    have z0 : w.heap.size < w2.heap.size := B0_2.lt
    go_wp2
    go_ret
    exact ⟨_, rfl, exn, rfl⟩
  · rw [hm] at km
    obtain ⟨hC5, hF5, hfit, hL5⟩ := may4 hm
    clear hm
    have hL6 : s.L.length ≤ 100000 := by omega
    have HFIT := Lib.hid hfit
    have H5 := Lib.hid hF5
    obtain ⟨⟨l, b⟩, hwd⟩ : ∃ x, walkD s.M = x := ⟨_, rfl⟩
    have KW := Lib.hid hwd
    obtain ⟨F, hF⟩ : ∃ F, fillD s.M = F := ⟨_, rfl⟩
    have KF := Lib.hid hF
    obtain ⟨T, hT⟩ : ∃ T, step4 s id = T := ⟨_, rfl⟩
    have KT := Lib.hid hT
    obtain ⟨o, ho⟩ : ∃ o, own4 op = o := ⟨_, rfl⟩
    have KO := Lib.hid ho
    have q9 : (o != o) = false := by cases o <;> rfl
    have q8 : (b != b) = false := by cases b <;> rfl
    clear hfit hF5 hwd hF hT ho
    go_enter Proofs.Try.func29, Proofs.Try.ntmps29
    go_wp2_with (fail)
    go_at_call 104
    refine (shown4_ _).calls.mono ?_
    rintro e w1 ⟨_, rfl, hb1, rfl⟩
    have B0_1 : Box w1 (w.heap.size) #[.slice aw s.M.W.length cw, .slice ag s.M.G.length cg, .bool s.M.bad, .slice ac s.C.length cc, .slice al s.L.length cl] 83 := (Box.newAt _ _ _ (by first | rfl | simp)).ext hb1
    have s1 : w.heap.size + 1 ≤ w1.heap.size := (by have h := hb1.size; first | omega | (simp at h; omega))
    obtain ⟨c0_0, c0_1, c0_2, c0_3, c0_4, d0_0, d0_1, d0_2, d0_3, d0_4⟩ := cells5 B0_1
    have z0 : w.heap.size < w1.heap.size := B0_1.lt
    go_wp2_with (fail)
    go_at_call 83
    refine (km _ exq).calls.mono ?_
    rintro e w2 ⟨_, rfl, hb2, rfl⟩
    have B0_2 : Box w2 (w.heap.size) #[.slice aw s.M.W.length cw, .slice ag s.M.G.length cg, .bool s.M.bad, .slice ac s.C.length cc, .slice al s.L.length cl] 83 := B0_1.ext hb2
    clear c0_0 c0_1 c0_2 c0_3 c0_4 d0_0 d0_1 d0_2 d0_3 d0_4 z0
    have s2 : w1.heap.size ≤ w2.heap.size := (by have h := hb2.size; first | omega | (simp at h; omega))
    obtain ⟨c0_0, c0_1, c0_2, c0_3, c0_4, d0_0, d0_1, d0_2, d0_3, d0_4⟩ := cells5 B0_2
    have z0 : w.heap.size < w2.heap.size := B0_2.lt
    go_wp2_with (fail)
    go_at_call 105
    refine (walk_ no _ s.M _ (IsMem.mk (m := s.M) rfl (IsInts.ext hw exq) (IsInts.ext hg exq)) no_lt HFIT.out).calls.mono ?_
    rintro e w3 ⟨_, rfl, hb3, u, rfl, hl1⟩
    rw [KW.out] at hl1 ⊢
    obtain ⟨la, lc, rfl, _⟩ := hl1.opened
    have B0_3 : Box w3 (w.heap.size) #[.slice aw s.M.W.length cw, .slice ag s.M.G.length cg, .bool s.M.bad, .slice ac s.C.length cc, .slice al s.L.length cl] 83 := B0_2.ext hb3
    clear c0_0 c0_1 c0_2 c0_3 c0_4 d0_0 d0_1 d0_2 d0_3 d0_4 z0
    have s3 : w2.heap.size ≤ w3.heap.size := (by have h := hb3.size; first | omega | (simp at h; omega))
    obtain ⟨c0_0, c0_1, c0_2, c0_3, c0_4, d0_0, d0_1, d0_2, d0_3, d0_4⟩ := cells5 B0_3
    have z0 : w.heap.size < w3.heap.size := B0_3.lt
    go_wp2_with (fail)
    go_at_call 106
    refine (refWalk_ no _ s.M _ (IsMem.mk (m := s.M) rfl (IsInts.ext hw exq) (IsInts.ext hg exq)) no_lt HFIT.out).calls.mono ?_
    rintro e w4 ⟨_, rfl, hb4, u, rfl, hl2⟩
    rw [KW.out] at hl2 ⊢
    obtain ⟨ma, mc, rfl, _⟩ := hl2.opened
    have B0_4 : Box w4 (w.heap.size) #[.slice aw s.M.W.length cw, .slice ag s.M.G.length cg, .bool s.M.bad, .slice ac s.C.length cc, .slice al s.L.length cl] 83 := B0_3.ext hb4
    clear c0_0 c0_1 c0_2 c0_3 c0_4 d0_0 d0_1 d0_2 d0_3 d0_4 z0
    have s4 : w3.heap.size ≤ w4.heap.size := (by have h := hb4.size; first | omega | (simp at h; omega))
    obtain ⟨c0_0, c0_1, c0_2, c0_3, c0_4, d0_0, d0_1, d0_2, d0_3, d0_4⟩ := cells5 B0_4
    have z0 : w.heap.size < w4.heap.size := B0_4.lt
    go_wp2_with (fail)
    go_at_call 72
    refine (refInts_ no _ _ l l _ (IsInts.ext hl1 exq) (IsInts.ext hl2 exq)).calls.mono ?_
    rintro e w5 ⟨_, rfl, hb5, rfl⟩
    rw [show (l == l) = true by simp]
    have B0_5 : Box w5 (w.heap.size) #[.slice aw s.M.W.length cw, .slice ag s.M.G.length cg, .bool s.M.bad, .slice ac s.C.length cc, .slice al s.L.length cl] 83 := B0_4.ext hb5
    clear c0_0 c0_1 c0_2 c0_3 c0_4 d0_0 d0_1 d0_2 d0_3 d0_4 z0
    have s5 : w4.heap.size ≤ w5.heap.size := (by have h := hb5.size; first | omega | (simp at h; omega))
    obtain ⟨c0_0, c0_1, c0_2, c0_3, c0_4, d0_0, d0_1, d0_2, d0_3, d0_4⟩ := cells5 B0_5
    have z0 : w.heap.size < w5.heap.size := B0_5.lt
    go_wp2_with (fail)
    go_at_call 107
    refine (own4_ op _).calls.mono ?_
    rintro e w6 ⟨_, rfl, hb6, rfl⟩
    rw [KO.out]
    have B0_6 : Box w6 (w.heap.size) #[.slice aw s.M.W.length cw, .slice ag s.M.G.length cg, .bool s.M.bad, .slice ac s.C.length cc, .slice al s.L.length cl] 83 := B0_5.ext hb6
    clear c0_0 c0_1 c0_2 c0_3 c0_4 d0_0 d0_1 d0_2 d0_3 d0_4 z0
    have s6 : w5.heap.size ≤ w6.heap.size := (by have h := hb6.size; first | omega | (simp at h; omega))
    obtain ⟨c0_0, c0_1, c0_2, c0_3, c0_4, d0_0, d0_1, d0_2, d0_3, d0_4⟩ := cells5 B0_6
    have z0 : w.heap.size < w6.heap.size := B0_6.lt
    go_wp2_with (fail)
    go_at_call 108
    refine (refOwn4_ op _).calls.mono ?_
    rintro e w7 ⟨_, rfl, hb7, rfl⟩
    rw [KO.out]
    have B0_7 : Box w7 (w.heap.size) #[.slice aw s.M.W.length cw, .slice ag s.M.G.length cg, .bool s.M.bad, .slice ac s.C.length cc, .slice al s.L.length cl] 83 := B0_6.ext hb7
    clear c0_0 c0_1 c0_2 c0_3 c0_4 d0_0 d0_1 d0_2 d0_3 d0_4 z0
    have s7 : w6.heap.size ≤ w7.heap.size := (by have h := hb7.size; first | omega | (simp at h; omega))
    obtain ⟨c0_0, c0_1, c0_2, c0_3, c0_4, d0_0, d0_1, d0_2, d0_3, d0_4⟩ := cells5 B0_7
    have z0 : w.heap.size < w7.heap.size := B0_7.lt
    go_wp2_with (fail)
    have hX8 : Ext w w7 := exn
    have hK8 : Keep no w7 w7 := Keep.refl _ _
    have D0_8 := B0_7
    have aS : IsSys no w7 (.agg #[.slice aw s.M.W.length cw, .slice ag s.M.G.length cg, .bool s.M.bad, .slice ac s.C.length cc, .slice al s.L.length cl]) s := (IsSys.mk rfl hw hg hc hl : IsSys no w _ s).ext hX8
    have aM : IsMem no w7 (.agg #[.slice aw s.M.W.length cw, .slice ag s.M.G.length cg, .bool s.M.bad]) s.M := IsMem.mk rfl (IsInts.ext hw hX8) (IsInts.ext hg hX8)
    have k1 : ∀ w' : World, Ext w7 w' → Gives Proofs.Try.prog 109 #[.agg #[.slice aw s.M.W.length cw, .slice ag s.M.G.length cg, .bool s.M.bad]] w' (fun r w' => IsMem no w' r F) := fun w' e => by have hq := fill_ no _ s.M w' (aM.ext e) no_lt HFIT.out; rw [KF.out] at hq; exact hq
    have k2 : ∀ w' : World, Ext w7 w' → Gives Proofs.Try.prog 110 #[.agg #[.slice aw s.M.W.length cw, .slice ag s.M.G.length cg, .bool s.M.bad]] w' (fun r w' => IsMem no w' r F) := fun w' e => by have hq := refFill_ no _ s.M w' (aM.ext e) no_lt HFIT.out; rw [KF.out] at hq; exact hq
    have k3 : ∀ (u1 u2 : Value) (w' : World), IsMem no w' u1 F → IsMem no w' u2 F → Gives Proofs.Try.prog 54 #[u1, u2] w' (eqv (.bool true)) := fun u1 u2 w' h1 h2 => by have hq := refSame_ no _ _ F F w' h1 h2; rwa [sameD_refl] at hq
    have k4 : ∀ w' : World, Ext w7 w' → Gives Proofs.Try.prog 111 #[.agg #[.slice aw s.M.W.length cw, .slice ag s.M.G.length cg, .bool s.M.bad, .slice ac s.C.length cc, .slice al s.L.length cl], .int .i64 id] w' (fun r w' => IsSys no w' r T) := fun w' e => by have hq := step4_ no _ s id w' (aS.ext e) no_lt hC5 H5.out HFIT.out hL6; rw [KT.out] at hq; exact hq
    have k5 : ∀ w' : World, Ext w7 w' → Gives Proofs.Try.prog 112 #[.agg #[.slice aw s.M.W.length cw, .slice ag s.M.G.length cg, .bool s.M.bad, .slice ac s.C.length cc, .slice al s.L.length cl], .int .i64 id] w' (fun r w' => IsSys no w' r T) := fun w' e => by have hq := refStep4_ no _ s id w' (aS.ext e) no_lt hC5 H5.out HFIT.out hL5; rw [KT.out] at hq; exact hq
    have k6 : ∀ (u1 u2 : Value) (w' : World), IsSys no w' u1 T → IsSys no w' u2 T → Gives Proofs.Try.prog 78 #[u1, u2] w' (eqv (.bool true)) := fun u1 u2 w' h1 h2 => by have hq := refSys_ no _ _ T T w' h1 h2; rwa [sameS_refl] at hq
    clear c0_0 c0_1 c0_2 c0_3 c0_4 d0_0 d0_1 d0_2 d0_3 d0_4 z0
    apply region_lit2 (T := []) (L := []) (X := []) (G := [eqv _, eqv _, eqv _, eqv _, isMemN no F, eqv _, eqv _, isMemN no F, eqv (.bool true), eqv (.bool true), eqv _, eqv _, eqv _, isSysN no T, eqv _, eqv _, isSysN no T, eqv (.bool true), eqv (.bool true), eqv _])
    case hm => kernel_rfl
    case hop =>
      refine ⟨?_, ?_, ?_, ?_, ?_, ?_, ?_, ?_, ?_, ?_, ?_, ?_, ?_, ?_, ?_, ?_, ?_, ?_, ?_, ?_, trivial⟩
      · intro a wa hs hf hd
        have t7 := hf.off 7 (by kernel_rfl) rfl
        exact plain_ rfl (yes_eqv (o_move rfl t7) rfl)
      · intro a wa hs hf hd
        have t45 : a.eval (.tmp 45) = _ := hd.at 0 45 (by kernel_rfl)
        exact plain_ rfl (yes_eqv (o_move rfl t45) rfl)
      · intro a wa hs hf hd
        have t46 : a.eval (.tmp 46) = _ := hd.at 1 46 (by kernel_rfl)
        have t3 := hf.off 3 (by kernel_rfl) rfl
        exact guard_on rfl rfl t46 (yes_eqv (o_fieldAddr rfl Proofs.Try.underlying83 rfl rfl (by kernel_rfl) t3) rfl)
      · intro a wa hs hf hd
        have t46 : a.eval (.tmp 46) = _ := hd.at 1 46 (by kernel_rfl)
        have t47 : a.eval (.tmp 47) = _ := hd.at 2 47 (by kernel_rfl)
        exact guard_on rfl rfl t46 (yes_eqv (o_load3 rfl Proofs.Try.underlying50 rfl (by kernel_rfl) t47 ((D0_8.since hs rfl).cell rfl) ((D0_8.since hs rfl).cell rfl) ((D0_8.since hs rfl).cell rfl)) rfl)
      · intro a wa hs hf hd
        have t46 : a.eval (.tmp 46) = _ := hd.at 1 46 (by kernel_rfl)
        have t48 : a.eval (.tmp 48) = _ := hd.at 3 48 (by kernel_rfl)
        exact guard_on rfl rfl t46 (yes_gives (k1 _ (Since.to_ext hs)) rfl rfl Proofs.Try.func109 (by kernel_rfl) (by kernel_rfl) (by simp only [List.map_toArray, List.map_cons, List.map_nil, t48]) rfl)
      · intro a wa hs hf hd
        have t46 : a.eval (.tmp 46) = _ := hd.at 1 46 (by kernel_rfl)
        have t3 := hf.off 3 (by kernel_rfl) rfl
        exact guard_on rfl rfl t46 (yes_eqv (o_fieldAddr rfl Proofs.Try.underlying83 rfl rfl (by kernel_rfl) t3) rfl)
      · intro a wa hs hf hd
        have t46 : a.eval (.tmp 46) = _ := hd.at 1 46 (by kernel_rfl)
        have t50 : a.eval (.tmp 50) = _ := hd.at 5 50 (by kernel_rfl)
        exact guard_on rfl rfl t46 (yes_eqv (o_load3 rfl Proofs.Try.underlying50 rfl (by kernel_rfl) t50 ((D0_8.since hs rfl).cell rfl) ((D0_8.since hs rfl).cell rfl) ((D0_8.since hs rfl).cell rfl)) rfl)
      · intro a wa hs hf hd
        have t46 : a.eval (.tmp 46) = _ := hd.at 1 46 (by kernel_rfl)
        have t51 : a.eval (.tmp 51) = _ := hd.at 6 51 (by kernel_rfl)
        exact guard_on rfl rfl t46 (yes_gives (k2 _ (Since.to_ext hs)) rfl rfl Proofs.Try.func110 (by kernel_rfl) (by kernel_rfl) (by simp only [List.map_toArray, List.map_cons, List.map_nil, t51]) rfl)
      · intro a wa hs hf hd
        have t46 : a.eval (.tmp 46) = _ := hd.at 1 46 (by kernel_rfl)
        have t49 := hd.at 4 49 (by kernel_rfl)
        have t52 := hd.at 7 52 (by kernel_rfl)
        exact guard_on rfl rfl t46 (yes_gives (k3 _ _ _ t49 t52) rfl rfl Proofs.Try.func54 (by kernel_rfl) (by kernel_rfl) (by simp only [List.map_toArray, List.map_cons, List.map_nil, t49, t52]) rfl)
      · intro a wa hs hf hd
        have t46 : a.eval (.tmp 46) = _ := hd.at 1 46 (by kernel_rfl)
        have t53 : a.eval (.tmp 53) = _ := hd.at 8 53 (by kernel_rfl)
        exact plain_ rfl (yes_eqv (o_pick_t rfl t46 t53) rfl)
      · intro a wa hs hf hd
        have t54 : a.eval (.tmp 54) = _ := hd.at 9 54 (by kernel_rfl)
        exact plain_ rfl (yes_eqv (o_move rfl t54) rfl)
      · intro a wa hs hf hd
        have t55 : a.eval (.tmp 55) = _ := hd.at 10 55 (by kernel_rfl)
        have t3 := hf.off 3 (by kernel_rfl) rfl
        exact guard_on rfl rfl t55 (yes_eqv (o_load5 rfl Proofs.Try.underlying83 rfl (by kernel_rfl) t3 ((D0_8.since hs rfl).cell rfl) ((D0_8.since hs rfl).cell rfl) ((D0_8.since hs rfl).cell rfl) ((D0_8.since hs rfl).cell rfl) ((D0_8.since hs rfl).cell rfl)) rfl)
      · intro a wa hs hf hd
        have t55 : a.eval (.tmp 55) = _ := hd.at 10 55 (by kernel_rfl)
        have t1 := hf.off 1 (by kernel_rfl) rfl
        exact guard_on rfl rfl t55 (yes_eqv (o_move rfl t1) rfl)
      · intro a wa hs hf hd
        have t55 : a.eval (.tmp 55) = _ := hd.at 10 55 (by kernel_rfl)
        have t56 : a.eval (.tmp 56) = _ := hd.at 11 56 (by kernel_rfl)
        have t57 : a.eval (.tmp 57) = _ := hd.at 12 57 (by kernel_rfl)
        exact guard_on rfl rfl t55 (yes_gives (k4 _ (Since.to_ext hs)) rfl rfl Proofs.Try.func111 (by kernel_rfl) (by kernel_rfl) (by simp only [List.map_toArray, List.map_cons, List.map_nil, t56, t57]) rfl)
      · intro a wa hs hf hd
        have t55 : a.eval (.tmp 55) = _ := hd.at 10 55 (by kernel_rfl)
        have t3 := hf.off 3 (by kernel_rfl) rfl
        exact guard_on rfl rfl t55 (yes_eqv (o_load5 rfl Proofs.Try.underlying83 rfl (by kernel_rfl) t3 ((D0_8.since hs rfl).cell rfl) ((D0_8.since hs rfl).cell rfl) ((D0_8.since hs rfl).cell rfl) ((D0_8.since hs rfl).cell rfl) ((D0_8.since hs rfl).cell rfl)) rfl)
      · intro a wa hs hf hd
        have t55 : a.eval (.tmp 55) = _ := hd.at 10 55 (by kernel_rfl)
        have t1 := hf.off 1 (by kernel_rfl) rfl
        exact guard_on rfl rfl t55 (yes_eqv (o_move rfl t1) rfl)
      · intro a wa hs hf hd
        have t55 : a.eval (.tmp 55) = _ := hd.at 10 55 (by kernel_rfl)
        have t59 : a.eval (.tmp 59) = _ := hd.at 14 59 (by kernel_rfl)
        have t60 : a.eval (.tmp 60) = _ := hd.at 15 60 (by kernel_rfl)
        exact guard_on rfl rfl t55 (yes_gives (k5 _ (Since.to_ext hs)) rfl rfl Proofs.Try.func112 (by kernel_rfl) (by kernel_rfl) (by simp only [List.map_toArray, List.map_cons, List.map_nil, t59, t60]) rfl)
      · intro a wa hs hf hd
        have t55 : a.eval (.tmp 55) = _ := hd.at 10 55 (by kernel_rfl)
        have t58 := hd.at 13 58 (by kernel_rfl)
        have t61 := hd.at 16 61 (by kernel_rfl)
        exact guard_on rfl rfl t55 (yes_gives (k6 _ _ _ t58 t61) rfl rfl Proofs.Try.func78 (by kernel_rfl) (by kernel_rfl) (by simp only [List.map_toArray, List.map_cons, List.map_nil, t58, t61]) rfl)
      · intro a wa hs hf hd
        have t55 : a.eval (.tmp 55) = _ := hd.at 10 55 (by kernel_rfl)
        have t62 : a.eval (.tmp 62) = _ := hd.at 17 62 (by kernel_rfl)
        exact plain_ rfl (yes_eqv (o_pick_t rfl t55 t62) rfl)
      · intro a wa hs hf hd
        have t63 : a.eval (.tmp 63) = _ := hd.at 18 63 (by kernel_rfl)
        exact plain_ rfl (yes_eqv (o_assign rfl t63) rfl)
    case hG => exact ⟨stable_eqv _, stable_eqv _, stable_eqv _, stable_eqv _, stable_isMemN _ _, stable_eqv _, stable_eqv _, stable_isMemN _ _, stable_eqv _, stable_eqv _, stable_eqv _, stable_eqv _, stable_eqv _, stable_isSysN _ _, stable_eqv _, stable_eqv _, stable_isSysN _ _, stable_eqv _, stable_eqv _, stable_eqv _, trivial⟩
    case hc => kernel_rfl
    case hfin =>
      intro v8 hs8
      rintro _ rfl _ rfl _ rfl _ rfl j4 hj4 _ rfl _ rfl j7 hj7 _ rfl _ rfl _ rfl _ rfl _ rfl j13 hj13 _ rfl _ rfl j16 hj16 _ rfl _ rfl _ rfl
      intro x hx
      rw [hx]
      clear hx x
      simp only [Act.put, List.setIfInBounds_toArray, List.set_cons_zero, List.set_cons_succ]
      obtain ⟨w8, hw8⟩ : ∃ x, x = v8 := ⟨_, rfl⟩
      have hb8 : Ext w w8 := by rw [hw8]; exact hX8.trans (Since.to_ext hs8)
      have hk8 : Keep no w7 w8 := by rw [hw8]; exact hK8.ext (Since.to_ext hs8)
      have hQ8 : Ext w7 w8 := by rw [hw8]; exact Since.to_ext hs8
      have B0_8 : Box w8 (w.heap.size) #[.slice aw s.M.W.length cw, .slice ag s.M.G.length cg, .bool s.M.bad, .slice ac s.C.length cc, .slice al s.L.length cl] 83 := by rw [hw8]; exact (D0_8.since hs8 rfl)
      have s8 : w7.heap.size ≤ w8.heap.size := by rw [hw8]; exact (Since.to_ext hs8).size
      rw [← hw8]
      clear hw8
      obtain ⟨c0_0, c0_1, c0_2, c0_3, c0_4, d0_0, d0_1, d0_2, d0_3, d0_4⟩ := cells5 B0_8
      have z0 : w.heap.size < w8.heap.size := B0_8.lt
      go_wp2
      go_ret
      exact ⟨_, rfl, exn, rfl⟩
end Go.Proofs.Ytcfbdfgondmkoaa
