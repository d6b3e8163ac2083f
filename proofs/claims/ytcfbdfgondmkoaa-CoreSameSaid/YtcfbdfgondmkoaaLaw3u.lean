/- CoreSame: systems that differ aren't the same. -/
import Derived.Test.YtcfbdfgondmkoaaLaw3s
namespace Go.Proofs.Ytcfbdfgondmkoaa
open Go Go.RowKit
set_option linter.unusedSimpArgs false
set_option linter.unusedVariables false
set_option linter.unnecessarySimpa false

theorem wrap64_ne (x : Int) : wrap64 (x + 1) ≠ x := by unfold wrap64; omega
theorem other_core {s : SysD} {k : Nat} {co c : CoreD} (hk : s.C[k]? = some co) (h1 : sameC co c = false) (h2 : sameC c co = false) : sameS s (withS s k c) = false ∧ sameS (withS s k c) s = false := by
  have e1 := all2_set (p := sameC) hk h1
  have e2 := all2_set' (p := sameC) hk h2
  simp [sameS, withS, e1, e2]
theorem may_small2 {s : SysD} {n : Nat} (h : mayS s n = true) : ∀ (i : Nat) c, s.C[i]? = some c → c.F.length ≤ 1000 ∧ c.Ret.length ≤ 1000 := by
  simp only [mayS, smallS, rightS, Bool.and_eq_true, decide_eq_true_eq, Bool.not_eq_true'] at h
  obtain ⟨_, _, _, _, h4⟩ := h
  intro i c hi
  rw [List.any_eq_false] at h4
  have := h4 c (List.mem_of_getElem? hi)
  simp [oddC] at this
  omega
theorem append_ne {α : Type} (l : List α) (x : α) : l ++ [x] ≠ l := fun h => by have := congrArg List.length h; simp at this
theorem sameC_V (co : CoreD) {v : Int} (h : v ≠ co.V) : sameC co { co with V := v } = false ∧ sameC { co with V := v } co = false := by
  have h1 : (co.V == v) = false := by simpa using Ne.symm h
  have h2 : (v == co.V) = false := by simpa using h
  simp [sameC, h1, h2]
theorem sameC_E (co : CoreD) {v : Int} (h : v ≠ co.E) : sameC co { co with E := v } = false ∧ sameC { co with E := v } co = false := by
  have h1 : (co.E == v) = false := by simpa using Ne.symm h
  have h2 : (v == co.E) = false := by simpa using h
  simp [sameC, h1, h2]
theorem sameC_R (co : CoreD) {l : List Int} (h : l ≠ co.Ret) : sameC co { co with Ret := l } = false ∧ sameC { co with Ret := l } co = false := by
  have h1 : (co.Ret == l) = false := by simpa using Ne.symm h
  have h2 : (l == co.Ret) = false := by simpa using h
  simp [sameC, h1, h2]
theorem sameC_F (co : CoreD) {l : List FrameD} (h : l.length ≠ co.F.length) : sameC co { co with F := l } = false ∧ sameC { co with F := l } co = false := by
  have h1 : all2 sameF co.F l = false := all2_len (Ne.symm h)
  have h2 : all2 sameF l co.F = false := all2_len h
  simp [sameC, h1, h2]
theorem sameC_X (co : CoreD) (h3 : co.X.length = 3) {v : Int} (h : v ≠ gi co.X 1) : sameC co { co with X := co.X.set 1 v } = false ∧ sameC { co with X := co.X.set 1 v } co = false := by
  have e1 : gi (co.X.set 1 v) 1 = v := by simp [gi, List.getD_eq_getElem?_getD, h3]
  have h1 : eq3 co.X (co.X.set 1 v) = false := by
    unfold eq3
    rw [e1]
    simp
    intro _ h2; exact absurd h2.symm h
  have h2 : eq3 (co.X.set 1 v) co.X = false := by
    unfold eq3
    rw [e1]
    simp
    intro _ h2; exact absurd h2 h
  simp [sameC, h1, h2]
set_option maxHeartbeats 1000000 in
set_option maxRecDepth 100000 in
theorem coreSame_ (v0 v1 v2 v3 v4 : Value) (s : SysD) (iv wh : Int) (w : World) (h : IsSys no w (.agg #[v0, v1, v2, v3, v4]) s) (hi0 : 0 ≤ iv) (hi1 : iv ≤ 255) (hq0 : 0 ≤ wh) (hq1 : wh ≤ 255) :
    Gives Proofs.Try.prog 23 #[.agg #[v0, v1, v2, v3, v4], .int .u8 iv, .int .u8 wh] w (eqv (.bool true)) := by
  have km := fun (w' : World) (e : Ext w w') => refMay_ no _ s 60 (by omega) w' (h.ext e)
  obtain ⟨aw, cw, ag, cg, ac, cc, al, cl, e, hw, hg, hc, hl⟩ := h.opened
  obtain ⟨rfl, rfl, rfl, rfl, rfl⟩ : v0 = .slice aw s.M.W.length cw ∧ v1 = .slice ag s.M.G.length cg ∧ v2 = .bool s.M.bad ∧ v3 = .slice ac s.C.length cc ∧ v4 = .slice al s.L.length cl := by simpa using e
  clear e
  cases hm : mayS s 60
  · rw [hm] at km
    clear hm
    go_enter Proofs.Try.func23, Proofs.Try.ntmps23
    go_wp2_with (fail)
    go_at_call 73
    refine (shown3_ _).calls.mono ?_
    rintro e w1 ⟨_, rfl, hb1, rfl⟩
    have Bs_1 : Box w1 (w.heap.size) #[.slice aw s.M.W.length cw, .slice ag s.M.G.length cg, .bool s.M.bad, .slice ac s.C.length cc, .slice al s.L.length cl] 83 := (Box.new _ _ _).ext hb1
    obtain ⟨cs0, cs1, cs2, cs3, cs4, ds0, ds1, ds2, ds3, ds4⟩ := cells5 Bs_1
    have zs : w.heap.size < w1.heap.size := Bs_1.lt
    go_wp2_with (fail)
    go_at_call 83
    refine (km _ (by with_reducible (repeat (first | assumption | exact Ext.refl _ | refine Ext.alloc' ?_ _ | refine Ext.store0 ?_ _ _ | refine Ext.storek ?_ _ _ _ | refine Ext.stores0 ?_ ?_ _ _ | refine Ext.storesk ?_ ?_ _ _ _ | refine Ext.drewN' ?_ _ | refine Ext.drew' ?_ | refine Ext.trans ?_ (by assumption))))).calls.mono ?_
    rintro e w2 ⟨_, rfl, hb2, rfl⟩
    have Bs_2 := Bs_1.ext (show Ext w1 w2 from (by with_reducible (repeat (first | assumption | exact Ext.refl _ | refine Ext.alloc' ?_ _ | refine Ext.store0 ?_ _ _ | refine Ext.storek ?_ _ _ _ | refine Ext.stores0 ?_ ?_ _ _ | refine Ext.storesk ?_ ?_ _ _ _ | refine Ext.drewN' ?_ _ | refine Ext.drew' ?_ | refine Ext.trans ?_ (by assumption)))))
    clear Bs_1 cs0 cs1 cs2 cs3 cs4 ds0 ds1 ds2 ds3 ds4
    obtain ⟨cs0, cs1, cs2, cs3, cs4, ds0, ds1, ds2, ds3, ds4⟩ := cells5 Bs_2
    have zs : w.heap.size < w2.heap.size := Bs_2.lt
    go_wp2
    go_ret
    exact ⟨_, rfl, (by with_reducible (repeat (first | assumption | exact Ext.refl _ | refine Ext.alloc' ?_ _ | refine Ext.store0 ?_ _ _ | refine Ext.storek ?_ _ _ _ | refine Ext.stores0 ?_ ?_ _ _ | refine Ext.storesk ?_ ?_ _ _ _ | refine Ext.drewN' ?_ _ | refine Ext.drew' ?_ | refine Ext.trans ?_ (by assumption)))), rfl⟩
  · rw [hm] at km
    obtain ⟨hC, hL, hC1, hF⟩ := may_small hm
    have hFR := may_small2 hm
    clear hm
    obtain ⟨k, hk⟩ : ∃ k : Nat, iv % (s.C.length : Int) = k := ⟨(iv % (s.C.length : Int)).toNat, by have := Int.emod_nonneg iv (show (s.C.length : Int) ≠ 0 by omega); omega⟩
    have hkl : k < s.C.length := by have := Int.emod_lt_of_pos iv (show (0 : Int) < s.C.length by omega); omega
    obtain ⟨co, hco⟩ := getSome hkl
    obtain ⟨bc, oc, af, cf, ar, cr, rfl, xc, nc, hx3, hf, hr, e0, e1, e2, e3, e4, e5, e6⟩ := IsCores.at hc hco
    obtain ⟨hFl, hRl⟩ := hFR k co hco
    have hself : withS s k co = s := by
      unfold withS
      have : s.C.set k co = s.C := by
        apply List.ext_getElem?
        intro i
        rw [List.getElem?_set]
        by_cases hi : k = i
        · subst hi; rw [if_pos rfl, if_pos hkl, hco]
        · rw [if_neg hi]
      rw [this]
    have hj : wh % 7 = 0 ∨ wh % 7 = 1 ∨ wh % 7 = 2 ∨ wh % 7 = 3 ∨ wh % 7 = 4 ∨ wh % 7 = 5 ∨ wh % 7 = 6 := by omega
    rcases hj with hj | hj | hj | hj | hj | hj | hj
    · have hs := other_core hco (sameC_V co (wrap64_ne _)).1 (sameC_V co (wrap64_ne _)).2
      exact coreSame_0 aw ag al af ar cw cg cc cl bc oc cf cr k s _ co iv wh w hw hg hc hl xc hx3 hf hr e0 e1 e2 e3 e4 e5 e6 km hi0 hi1 hq0 hq1 hk hj hkl hC1 (by omega) hFl hRl (by omega) rfl hs.1 hs.2 (sameS_refl _)
    · have hs := other_core hco (sameC_E co (wrap64_ne _)).1 (sameC_E co (wrap64_ne _)).2
      exact coreSame_1 aw ag al af ar cw cg cc cl bc oc cf cr k s _ co iv wh w hw hg hc hl xc hx3 hf hr e0 e1 e2 e3 e4 e5 e6 km hi0 hi1 hq0 hq1 hk hj hkl hC1 (by omega) hFl hRl (by omega) rfl hs.1 hs.2 (sameS_refl _)
    · have hs := other_core hco (sameC_R co (append_ne _ 1)).1 (sameC_R co (append_ne _ 1)).2
      exact coreSame_2 aw ag al af ar cw cg cc cl bc oc cf cr k s _ co iv wh w hw hg hc hl xc hx3 hf hr e0 e1 e2 e3 e4 e5 e6 km hi0 hi1 hq0 hq1 hk hj hkl hC1 (by omega) hFl hRl (by omega) rfl hs.1 hs.2 (sameS_refl _)
    · have hs := other_core hco (sameC_F co (l := co.F ++ [zeroF]) (by simp)).1 (sameC_F co (l := co.F ++ [zeroF]) (by simp)).2
      exact coreSame_3 aw ag al af ar cw cg cc cl bc oc cf cr k s _ co iv wh w hw hg hc hl xc hx3 hf hr e0 e1 e2 e3 e4 e5 e6 km hi0 hi1 hq0 hq1 hk hj hkl hC1 (by omega) hFl hRl (by omega) rfl hs.1 hs.2 (sameS_refl _)
    · have hs := other_core hco (sameC_X co hx3 (wrap64_ne _)).1 (sameC_X co hx3 (wrap64_ne _)).2
      exact coreSame_4 aw ag al af ar cw cg cc cl bc oc cf cr k s _ co iv wh w hw hg hc hl xc hx3 hf hr e0 e1 e2 e3 e4 e5 e6 km hi0 hi1 hq0 hq1 hk hj hkl hC1 (by omega) hFl hRl (by omega) rfl hs.1 hs.2 (sameS_refl _)
    · have hs : sameS s (withS { s with L := [] ++ s.L ++ [zeroE] } k co) = false ∧ sameS (withS { s with L := [] ++ s.L ++ [zeroE] } k co) s = false := by
        have h1 : all2 sameE s.L (s.L ++ [zeroE]) = false := all2_len (by simp)
        have h2 : all2 sameE (s.L ++ [zeroE]) s.L = false := all2_len (by simp)
        simp [sameS, withS, h1, h2]
      exact coreSame_5 aw ag al af ar cw cg cc cl bc oc cf cr k s _ co iv wh w hw hg hc hl xc hx3 hf hr e0 e1 e2 e3 e4 e5 e6 km hi0 hi1 hq0 hq1 hk hj hkl hC1 (by omega) hFl hRl (by omega) rfl hs.1 hs.2 (sameS_refl _)
    · have hs : sameS s (withS { s with M := { s.M with bad := !s.M.bad } } k co) = false ∧ sameS (withS { s with M := { s.M with bad := !s.M.bad } } k co) s = false := by
        simp [sameS, withS, sameD]
      exact coreSame_6 aw ag al af ar cw cg cc cl bc oc cf cr k s _ co iv wh w hw hg hc hl xc hx3 hf hr e0 e1 e2 e3 e4 e5 e6 km hi0 hi1 hq0 hq1 hk hj hkl hC1 (by omega) hFl hRl (by omega) rfl hs.1 hs.2 (sameS_refl _)
end Go.Proofs.Ytcfbdfgondmkoaa
