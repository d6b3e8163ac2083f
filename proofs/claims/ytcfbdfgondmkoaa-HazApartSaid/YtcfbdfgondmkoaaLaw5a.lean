/- HazApart: its walk. -/
import Derived.Test.YtcfbdfgondmkoaaM11
import Derived.Test.YtcfbdfgondmkoaaM10
import Derived.Deep.CutRange
namespace Go.Proofs.Ytcfbdfgondmkoaa
open Go Go.RowKit
set_option linter.unusedSimpArgs false
set_option linter.unusedVariables false
set_option linter.unnecessarySimpa false

theorem sameF_refl (f : FrameD) : sameF f f = true := by simp [sameF, eq8]
theorem sameC_refl (c : CoreD) : sameC c c = true := by simp [sameC, eq3, all2_refl sameF_refl]
theorem sameE_refl (e : EvD) : sameE e e = true := by simp [sameE]
theorem sameS_refl (s : SysD) : sameS s s = true := by simp [sameS, sameD_refl, all2_refl sameC_refl, all2_refl sameE_refl]
set_option maxHeartbeats 8000000 in
set_option maxRecDepth 100000 in
theorem hazApart_ (v0 v1 v2 v3 v4 : Value) (s : SysD) (y : Int) (w : World) (h : IsSys no w (.agg #[v0, v1, v2, v3, v4]) s) (lo : 0 ≤ y) (hi : y ≤ 255) :
    Gives Proofs.Try.prog 28 #[.agg #[v0, v1, v2, v3, v4], .int .u8 y] w (eqv (.bool true)) := by
  have km := fun (w' : World) (e : Ext w w') => refMay_ no _ s 60 (by omega) w' (h.ext e)
  obtain ⟨aw, cw, ag, cg, ac, cc, al, cl, e, hw, hg, hc, hl⟩ := h.opened
  obtain ⟨rfl, rfl, rfl, rfl, rfl⟩ : v0 = .slice aw s.M.W.length cw ∧ v1 = .slice ag s.M.G.length cg ∧ v2 = .bool s.M.bad ∧ v3 = .slice ac s.C.length cc ∧ v4 = .slice al s.L.length cl := by simpa using e
  clear e
  cases hm : mayS s 60
  · rw [hm] at km
    clear hm
    go_enter Proofs.Try.func28, Proofs.Try.ntmps28
    go_wp2_with (fail)
    go_at_call 93
    refine (shown5_ _).calls.mono ?_
    rintro e w1 ⟨_, rfl, hb1, rfl⟩
    have B0_1 : Box w1 (w.heap.size) #[.slice aw s.M.W.length cw, .slice ag s.M.G.length cg, .bool s.M.bad, .slice ac s.C.length cc, .slice al s.L.length cl] 83 := (Box.newAt _ _ _ (by first | rfl | simp)).ext hb1
    have s1 : w.heap.size + 1 ≤ w1.heap.size := (by have h := hb1.size; first | omega | (simp at h; omega))
    obtain ⟨c0_0, c0_1, c0_2, c0_3, c0_4, d0_0, d0_1, d0_2, d0_3, d0_4⟩ := cells5 B0_1
    have z0 : w.heap.size < w1.heap.size := B0_1.lt
    go_wp2_with (fail)
    go_at_call 83
    refine (km _ exq).calls.mono ?_
    rintro e w2 ⟨_, rfl, hb2, rfl⟩
    have B0_2 : Box w2 (w.heap.size) #[.slice aw s.M.W.length cw, .slice ag s.M.G.length cg, .bool s.M.bad, .slice ac s.C.length cc, .slice al s.L.length cl] 83 := B0_1.ext hb2
    clear c0_0 c0_1 c0_2 c0_3 c0_4 d0_0 d0_1 d0_2 d0_3 d0_4 z0
    have s2 : w1.heap.size ≤ w2.heap.size := (by have h := hb2.size; first | omega | (simp at h; omega))
    obtain ⟨c0_0, c0_1, c0_2, c0_3, c0_4, d0_0, d0_1, d0_2, d0_3, d0_4⟩ := cells5 B0_2
    have z0 : w.heap.size < w2.heap.size := B0_2.lt
    go_wp2
    go_ret
    exact ⟨_, rfl, exn, rfl⟩
  · rw [hm] at km
    have M5 := may5 hm
    clear hm
    obtain ⟨k, hk⟩ : ∃ k : Nat, (k : Int) = y % (s.C.length : Int) := ⟨(y % (s.C.length : Int)).toNat, by have := Int.emod_nonneg y (show (s.C.length : Int) ≠ 0 by have := M5.c1; omega); omega⟩
    have hkc : k < s.C.length := by have := Int.emod_lt_of_pos y (show (0 : Int) < s.C.length by have := M5.c1; omega); omega
    have ek : y % (s.C.length : Int) = (k : Int) := hk.symm
    have hk8 : k < 8 := by have := M5.c8; omega
    have hC0 : ¬ (s.C.length : Int) = 0 := by have := M5.c1; omega
    have hkC : (k : Int) < (s.C.length : Int) := by omega
    have hC5 : s.C.length ≤ 100000 := by have := M5.c8; omega
    have hF5 : ∀ (i : Nat) c, s.C[i]? = some c → c.F.length ≤ 100000 := fun i c hi => by have := M5.f40 i c hi; omega
    have hr5 : ∀ f, topD s k = some f → f.op = 3 → -9223372036854775808 ≤ gi f.R 0 ∧ gi f.R 0 ≤ 9223372036854775807 := fun f hf _ => by have := M5.reg k f hf 0; omega
    have hW128 : 128 ≤ s.M.W.length := by have := M5.w; omega
    have hWup : s.M.W.length ≤ 100000 := by have := M5.w; have := M5.g201; omega
    have hC100 : s.C.length ≤ 100 := by have := M5.c8; omega
    have hfit := Lib.hid M5.fit
    obtain ⟨kc, hkc'⟩ := getSome' hkc
    have HKC := Lib.hid hkc'
    have HR5 := Lib.hid hr5
    clear hk M5 hkc' hr5
    by_cases hskip : (topD s k).isSome = true ∧ (topF s k).op = 3 ∧ (gi (topF s k).R 1 < 0 ∨ 2 < gi (topF s k).R 1)
    · obtain ⟨h1, h2, h3⟩ := hskip
      obtain ⟨f, hf⟩ : ∃ f, topF s k = f := ⟨_, rfl⟩
      rw [hf] at h2 h3
      have HF := Lib.hid hf
      clear hf
      have q1 : (f.op == 3) = true := by rw [h2]; rfl
      have H1 := Lib.hid h1
      clear h1 h2
      by_cases hn : gi f.R 1 < 0
      · clear h3
        go_enter Proofs.Try.func28, Proofs.Try.ntmps28
        go_wp2_with (fail)
        go_at_call 93
        refine (shown5_ _).calls.mono ?_
        rintro e w1 ⟨_, rfl, hb1, rfl⟩
        have B0_1 : Box w1 (w.heap.size) #[.slice aw s.M.W.length cw, .slice ag s.M.G.length cg, .bool s.M.bad, .slice ac s.C.length cc, .slice al s.L.length cl] 83 := (Box.newAt _ _ _ (by first | rfl | simp)).ext hb1
        have s1 : w.heap.size + 1 ≤ w1.heap.size := (by have h := hb1.size; first | omega | (simp at h; omega))
        obtain ⟨c0_0, c0_1, c0_2, c0_3, c0_4, d0_0, d0_1, d0_2, d0_3, d0_4⟩ := cells5 B0_1
        have z0 : w.heap.size < w1.heap.size := B0_1.lt
        go_wp2_with (fail)
        go_at_call 83
        refine (km _ exq).calls.mono ?_
        rintro e w2 ⟨_, rfl, hb2, rfl⟩
        have B0_2 : Box w2 (w.heap.size) #[.slice aw s.M.W.length cw, .slice ag s.M.G.length cg, .bool s.M.bad, .slice ac s.C.length cc, .slice al s.L.length cl] 83 := B0_1.ext hb2
        clear c0_0 c0_1 c0_2 c0_3 c0_4 d0_0 d0_1 d0_2 d0_3 d0_4 z0
        have s2 : w1.heap.size ≤ w2.heap.size := (by have h := hb2.size; first | omega | (simp at h; omega))
        obtain ⟨c0_0, c0_1, c0_2, c0_3, c0_4, d0_0, d0_1, d0_2, d0_3, d0_4⟩ := cells5 B0_2
        have z0 : w.heap.size < w2.heap.size := B0_2.lt
        go_wp2_with (fail)
        go_at_call 82
        refine (refTop_ no _ s k _ ((IsSys.mk rfl hw hg hc hl : IsSys no w _ s).ext exq)).calls.mono ?_
        rintro e w3 ⟨_, rfl, hb3, u, rfl, hu3⟩
        rw [HF.out] at hu3
        obtain ⟨fa, fc, rfl, f8, fs⟩ := hu3.opened
        rw [H1.out]
        have B0_3 : Box w3 (w.heap.size) #[.slice aw s.M.W.length cw, .slice ag s.M.G.length cg, .bool s.M.bad, .slice ac s.C.length cc, .slice al s.L.length cl] 83 := B0_2.ext hb3
        clear c0_0 c0_1 c0_2 c0_3 c0_4 d0_0 d0_1 d0_2 d0_3 d0_4 z0
        have s3 : w2.heap.size ≤ w3.heap.size := (by have h := hb3.size; first | omega | (simp at h; omega))
        obtain ⟨c0_0, c0_1, c0_2, c0_3, c0_4, d0_0, d0_1, d0_2, d0_3, d0_4⟩ := cells5 B0_3
        have z0 : w.heap.size < w3.heap.size := B0_3.lt
        go_wp2
        go_ret
        exact ⟨_, rfl, exn, rfl⟩
      · have q2 : 2 < gi f.R 1 := by omega
        clear h3
        go_enter Proofs.Try.func28, Proofs.Try.ntmps28
        go_wp2_with (fail)
        go_at_call 93
        refine (shown5_ _).calls.mono ?_
        rintro e w1 ⟨_, rfl, hb1, rfl⟩
        have B0_1 : Box w1 (w.heap.size) #[.slice aw s.M.W.length cw, .slice ag s.M.G.length cg, .bool s.M.bad, .slice ac s.C.length cc, .slice al s.L.length cl] 83 := (Box.newAt _ _ _ (by first | rfl | simp)).ext hb1
        have s1 : w.heap.size + 1 ≤ w1.heap.size := (by have h := hb1.size; first | omega | (simp at h; omega))
        obtain ⟨c0_0, c0_1, c0_2, c0_3, c0_4, d0_0, d0_1, d0_2, d0_3, d0_4⟩ := cells5 B0_1
        have z0 : w.heap.size < w1.heap.size := B0_1.lt
        go_wp2_with (fail)
        go_at_call 83
        refine (km _ exq).calls.mono ?_
        rintro e w2 ⟨_, rfl, hb2, rfl⟩
        have B0_2 : Box w2 (w.heap.size) #[.slice aw s.M.W.length cw, .slice ag s.M.G.length cg, .bool s.M.bad, .slice ac s.C.length cc, .slice al s.L.length cl] 83 := B0_1.ext hb2
        clear c0_0 c0_1 c0_2 c0_3 c0_4 d0_0 d0_1 d0_2 d0_3 d0_4 z0
        have s2 : w1.heap.size ≤ w2.heap.size := (by have h := hb2.size; first | omega | (simp at h; omega))
        obtain ⟨c0_0, c0_1, c0_2, c0_3, c0_4, d0_0, d0_1, d0_2, d0_3, d0_4⟩ := cells5 B0_2
        have z0 : w.heap.size < w2.heap.size := B0_2.lt
        go_wp2_with (fail)
        go_at_call 82
        refine (refTop_ no _ s k _ ((IsSys.mk rfl hw hg hc hl : IsSys no w _ s).ext exq)).calls.mono ?_
        rintro e w3 ⟨_, rfl, hb3, u, rfl, hu3⟩
        rw [HF.out] at hu3
        obtain ⟨fa, fc, rfl, f8, fs⟩ := hu3.opened
        rw [H1.out]
        have B0_3 : Box w3 (w.heap.size) #[.slice aw s.M.W.length cw, .slice ag s.M.G.length cg, .bool s.M.bad, .slice ac s.C.length cc, .slice al s.L.length cl] 83 := B0_2.ext hb3
        clear c0_0 c0_1 c0_2 c0_3 c0_4 d0_0 d0_1 d0_2 d0_3 d0_4 z0
        have s3 : w2.heap.size ≤ w3.heap.size := (by have h := hb3.size; first | omega | (simp at h; omega))
        obtain ⟨c0_0, c0_1, c0_2, c0_3, c0_4, d0_0, d0_1, d0_2, d0_3, d0_4⟩ := cells5 B0_3
        have z0 : w.heap.size < w3.heap.size := B0_3.lt
        go_wp2
        go_ret
        exact ⟨_, rfl, exn, rfl⟩
    · have hsl : ∀ f, topD s k = some f → f.op = 3 → 0 ≤ gi f.R 1 ∧ gi f.R 1 ≤ 2 := fun f hf hop => by
        have htf : topF s k = f := by unfold topF; rw [hf]; rfl
        rw [htf, hf] at hskip
        by_cases h1 : gi f.R 1 < 0
        · exact absurd ⟨rfl, hop, .inl h1⟩ hskip
        · by_cases h2 : 2 < gi f.R 1
          · exact absurd ⟨rfl, hop, .inr h2⟩ hskip
          · omega
      obtain ⟨c', t1, t2, t3, t4, t5⟩ := step5_apart hkc hk8 (by omega) hsl
      obtain ⟨S, hS⟩ : ∃ S, step5 s k = S := ⟨_, rfl⟩
      rw [hS] at t1 t2 t3 t4 t5
      have KS := Lib.hid hS
      have KlC := Lib.hid (show S.C.length = s.C.length by rw [t1]; simp)
      have KlG := Lib.hid (show S.M.G.length = s.M.G.length by rw [t2])
      have KG := Lib.hid (show (S.M.G == s.M.G) = true by rw [t2]; simp)
      have KlL := Lib.hid (show S.L.length = s.L.length by rw [t3])
      have KlW := Lib.hid t4
      have KA := Lib.hid (apart_same (t := S) HKC.out t1 t3)
      have KW := Lib.hid t5
      clear hS t1 t2 t3 t4 t5 hsl
      obtain ⟨f, hf⟩ : ∃ f, topF s k = f := ⟨_, rfl⟩
      rw [hf] at hskip
      have HF := Lib.hid hf
      clear hf
      obtain ⟨b, hb⟩ : ∃ b, (topD s k).isSome = b := ⟨_, rfl⟩
      rw [hb] at hskip
      have HB := Lib.hid hb
      clear hb
      have hcut : b = false ∨ b = true ∧ (f.op == 3) = false ∨ b = true ∧ (f.op == 3) = true ∧ ¬ gi f.R 1 < 0 ∧ ¬ 2 < gi f.R 1 := by
        cases b
        · exact .inl rfl
        · by_cases hop : f.op = 3
          · refine .inr (.inr ⟨rfl, by simpa using hop, fun h => hskip ⟨rfl, hop, .inl h⟩, fun h => hskip ⟨rfl, hop, .inr h⟩⟩)
          · exact .inr (.inl ⟨rfl, by simpa using hop⟩)
      clear hskip
      have HCUT := Lib.hid hcut
      clear hcut
      obtain ⟨bc, oc, af, cf, ar, cr, rfl, xc, nc, hX3, hff, hrr, e0, e1, e2, e3, e4, e5, e6⟩ := IsCores.at hc HKC.out
      go_enter Proofs.Try.func28, Proofs.Try.ntmps28
      go_wp2_with (fail)
      go_at_call 93
      refine (shown5_ _).calls.mono ?_
      rintro e w1 ⟨_, rfl, hb1, rfl⟩
      have B0_1 : Box w1 (w.heap.size) #[.slice aw s.M.W.length cw, .slice ag s.M.G.length cg, .bool s.M.bad, .slice (some ⟨bc, oc, none⟩) s.C.length cc, .slice al s.L.length cl] 83 := (Box.newAt _ _ _ (by first | rfl | simp)).ext hb1
      have s1 : w.heap.size + 1 ≤ w1.heap.size := (by have h := hb1.size; first | omega | (simp at h; omega))
      obtain ⟨c0_0, c0_1, c0_2, c0_3, c0_4, d0_0, d0_1, d0_2, d0_3, d0_4⟩ := cells5 B0_1
      have z0 : w.heap.size < w1.heap.size := B0_1.lt
      go_wp2_with (fail)
      go_at_call 83
      refine (km _ exq).calls.mono ?_
      rintro e w2 ⟨_, rfl, hb2, rfl⟩
      have B0_2 : Box w2 (w.heap.size) #[.slice aw s.M.W.length cw, .slice ag s.M.G.length cg, .bool s.M.bad, .slice (some ⟨bc, oc, none⟩) s.C.length cc, .slice al s.L.length cl] 83 := B0_1.ext hb2
      clear c0_0 c0_1 c0_2 c0_3 c0_4 d0_0 d0_1 d0_2 d0_3 d0_4 z0
      have s2 : w1.heap.size ≤ w2.heap.size := (by have h := hb2.size; first | omega | (simp at h; omega))
      obtain ⟨c0_0, c0_1, c0_2, c0_3, c0_4, d0_0, d0_1, d0_2, d0_3, d0_4⟩ := cells5 B0_2
      have z0 : w.heap.size < w2.heap.size := B0_2.lt
      go_wp2_with (fail)
      go_at_call 82
      refine (refTop_ no _ s k _ ((IsSys.mk rfl hw hg hc hl : IsSys no w _ s).ext exq)).calls.mono ?_
      rintro e w3 ⟨_, rfl, hb3, u, rfl, hu3⟩
      rw [HF.out] at hu3
      obtain ⟨fa, fc, rfl, f8, fs⟩ := hu3.opened
      rw [HB.out]
      have B0_3 : Box w3 (w.heap.size) #[.slice aw s.M.W.length cw, .slice ag s.M.G.length cg, .bool s.M.bad, .slice (some ⟨bc, oc, none⟩) s.C.length cc, .slice al s.L.length cl] 83 := B0_2.ext hb3
      clear c0_0 c0_1 c0_2 c0_3 c0_4 d0_0 d0_1 d0_2 d0_3 d0_4 z0
      have s3 : w2.heap.size ≤ w3.heap.size := (by have h := hb3.size; first | omega | (simp at h; omega))
      obtain ⟨c0_0, c0_1, c0_2, c0_3, c0_4, d0_0, d0_1, d0_2, d0_3, d0_4⟩ := cells5 B0_3
      have z0 : w.heap.size < w3.heap.size := B0_3.lt
      go_upto_region 6 with (fail)
      go_cut [46] from 29 to 46 (fun s46 wc => s46 = .bool false ∧ wc = (w3.alloc (.cells #[.int .i64 f.op, .int .i64 f.pc, .int .i64 (gi f.R 0), .int .i64 (gi f.R 1), .int .i64 (gi f.R 2), .int .i64 (gi f.R 3), .int .i64 (gi f.R 4), .int .i64 (gi f.R 5), .int .i64 (gi f.R 6), .int .i64 (gi f.R 7), .slice fa f.S.length fc] 95 (0, 0))))
      case first =>
        rcases HCUT.out with rfl | ⟨rfl, q1⟩ | ⟨rfl, q1, q2, q3⟩
        · go_wp2_with (fail)
          go_meet
          case rel => exact ⟨by first | rfl | (simp; omega), rfl⟩
        · go_wp2_with (fail)
          go_meet
          case rel => exact ⟨by first | rfl | (simp; omega), rfl⟩
        · go_wp2_with (fail)
          go_meet
          case rel => exact ⟨by first | rfl | (simp; omega), rfl⟩
      case rest =>
        obtain ⟨rfl, rfl⟩ := hcut
        go_wp2_with (fail)
        go_at_call 101
        refine (step5_ no _ s k _ ((IsSys.mk rfl hw hg hc hl : IsSys no w _ s).ext exq) no_lt hC100 hF5 hfit.out HR5.out).calls.mono ?_
        rintro e w4 ⟨_, rfl, hb4, hr4⟩
        rw [KS.out] at hr4
        obtain ⟨r1, r2, r3, r4, r5, r6, r7, r8, rfl, rW, rG, rC, rL⟩ := hr4.lit5 KlW.out KlG.out rfl KlC.out KlL.out
        have B0_4 : Box w4 (w.heap.size) #[.slice aw s.M.W.length cw, .slice ag s.M.G.length cg, .bool s.M.bad, .slice (some ⟨bc, oc, none⟩) s.C.length cc, .slice al s.L.length cl] 83 := (B0_3.alloc _).ext hb4
        have B1_4 : Box w4 (w3.heap.size) #[.int .i64 f.op, .int .i64 f.pc, .int .i64 (gi f.R 0), .int .i64 (gi f.R 1), .int .i64 (gi f.R 2), .int .i64 (gi f.R 3), .int .i64 (gi f.R 4), .int .i64 (gi f.R 5), .int .i64 (gi f.R 6), .int .i64 (gi f.R 7), .slice fa f.S.length fc] 95 := (Box.newAt _ _ _ (by first | rfl | simp)).ext hb4
        clear c0_0 c0_1 c0_2 c0_3 c0_4 d0_0 d0_1 d0_2 d0_3 d0_4 z0
        have s4 : w3.heap.size + 1 ≤ w4.heap.size := (by have h := hb4.size; first | omega | (simp at h; omega))
        obtain ⟨c0_0, c0_1, c0_2, c0_3, c0_4, d0_0, d0_1, d0_2, d0_3, d0_4⟩ := cells5 B0_4
        have z0 : w.heap.size < w4.heap.size := B0_4.lt
        obtain ⟨⟨c1_0, c1_1, c1_2, c1_3, c1_4, c1_5, c1_6, c1_7, c1_8, c1_9, c1_10⟩, d1_0, d1_1, d1_2, d1_3, d1_4, d1_5, d1_6, d1_7, d1_8, d1_9, d1_10⟩ := cells11 B1_4
        have z1 : w3.heap.size < w4.heap.size := B1_4.lt
        go_wp2_with (fail)
        go_at_call 72
        refine (refInts_ no _ _ S.M.G s.M.G _ (IsInts.ext rG exq) (IsInts.ext hg exq)).calls.mono ?_
        rintro e w5 ⟨_, rfl, hb5, rfl⟩
        rw [KG.out]
        have B0_5 : Box w5 (w.heap.size) #[.slice aw s.M.W.length cw, .slice ag s.M.G.length cg, .bool s.M.bad, .slice (some ⟨bc, oc, none⟩) s.C.length cc, .slice al s.L.length cl] 83 := (B0_4.alloc _).ext hb5
        have B1_5 : Box w5 (w3.heap.size) #[.int .i64 f.op, .int .i64 f.pc, .int .i64 (gi f.R 0), .int .i64 (gi f.R 1), .int .i64 (gi f.R 2), .int .i64 (gi f.R 3), .int .i64 (gi f.R 4), .int .i64 (gi f.R 5), .int .i64 (gi f.R 6), .int .i64 (gi f.R 7), .slice fa f.S.length fc] 95 := (B1_4.alloc _).ext hb5
        have B2_5 : Box w5 (w4.heap.size) #[.slice r1 s.M.W.length r2, .slice r3 s.M.G.length r4, .bool S.M.bad, .slice r5 s.C.length r6, .slice r7 s.L.length r8] 83 := (Box.newAt _ _ _ (by first | rfl | simp)).ext hb5
        clear c0_0 c0_1 c0_2 c0_3 c0_4 d0_0 d0_1 d0_2 d0_3 d0_4 z0 c1_0 c1_1 c1_2 c1_3 c1_4 c1_5 c1_6 c1_7 c1_8 c1_9 c1_10 d1_0 d1_1 d1_2 d1_3 d1_4 d1_5 d1_6 d1_7 d1_8 d1_9 d1_10 z1
        have s5 : w4.heap.size + 1 ≤ w5.heap.size := (by have h := hb5.size; first | omega | (simp at h; omega))
        obtain ⟨c0_0, c0_1, c0_2, c0_3, c0_4, d0_0, d0_1, d0_2, d0_3, d0_4⟩ := cells5 B0_5
        have z0 : w.heap.size < w5.heap.size := B0_5.lt
        obtain ⟨⟨c1_0, c1_1, c1_2, c1_3, c1_4, c1_5, c1_6, c1_7, c1_8, c1_9, c1_10⟩, d1_0, d1_1, d1_2, d1_3, d1_4, d1_5, d1_6, d1_7, d1_8, d1_9, d1_10⟩ := cells11 B1_5
        have z1 : w3.heap.size < w5.heap.size := B1_5.lt
        obtain ⟨c2_0, c2_1, c2_2, c2_3, c2_4, d2_0, d2_1, d2_2, d2_3, d2_4⟩ := cells5 B2_5
        have z2 : w4.heap.size < w5.heap.size := B2_5.lt
        go_wp2
        have hEE : Ext w4 w5 := exq
        have hWk : Ext w w5 := exq
        have bS : Box w5 (w.heap.size) #[.slice aw s.M.W.length cw, .slice ag s.M.G.length cg, .bool s.M.bad, .slice (some ⟨bc, oc, none⟩) s.C.length cc, .slice al s.L.length cl] 83 := B0_5
        have bT : Box w5 (w4.heap.size) #[.slice r1 s.M.W.length r2, .slice r3 s.M.G.length r4, .bool S.M.bad, .slice r5 s.C.length r6, .slice r7 s.L.length r8] 83 := B2_5
        have hrk := IsSys.ext hr4 hEE
        obtain ⟨ba, oa, rfl, xa, _, ea⟩ := (IsInts.ext hw hWk).row (by omega)
        obtain ⟨bz, oz, rfl, xz, _, ez⟩ := (IsInts.ext rW hEE).row (by rw [KlW.out]; omega)
        have kp0 : ∀ w', Gives Proofs.Try.prog 95 #[.int .i64 (k : Int), .int .i64 0] w' (eqv (.int .i64 (8 + 3 * (k : Int)))) := fun w' => by have := refPlace_ (k : Int) 0 w' (by omega) (by omega); rwa [placeD_in (by omega) (by omega) (by omega) (by omega), show 8 + 3 * (k : Int) + 0 = 8 + 3 * (k : Int) by omega] at this
        have kp2 : ∀ w', Gives Proofs.Try.prog 95 #[.int .i64 (k : Int), .int .i64 2] w' (eqv (.int .i64 (8 + 3 * (k : Int) + 2))) := fun w' => by have := refPlace_ (k : Int) 2 w' (by omega) (by omega); rwa [placeD_in (by omega) (by omega) (by omega) (by omega)] at this
        go_loopw [10] (fun i wr => ∃ j : Nat, i = .int .i64 (j : Int) ∧ j ≤ s.M.W.length ∧ Ext w5 wr) (fun i _ => s.M.W.length - (intOf i).toNat)
        case atStart => exact ⟨0, rfl, by omega, exq⟩
        case round =>
          obtain ⟨j, rfl, hj, hX⟩ := hrel
          obtain ⟨w9, rfl⟩ : ∃ w9 : World, w9 = wr := ⟨_, rfl⟩
          have s9 : w5.heap.size ≤ w9.heap.size := hX.size
          have bS9 := bS.ext hX
          have bT9 := bT.ext hX
          by_cases hjl : j < s.M.W.length
          · have q5 : (j : Int) < (s.M.W.length : Int) := by omega
            have ea9 := cell_ext (ea j hjl) hX
            have ez9 := cell_ext (ez j (by rw [KlW.out]; exact hjl)) hX
            have xa9 : ba < w9.heap.size := World.block_lt_of_cell? _ _ ea9
            have xz9 : bz < w9.heap.size := World.block_lt_of_cell? _ _ ez9
            by_cases hlow : 8 + 3 * k ≤ j
            · have q6 : 8 + 3 * (k : Int) ≤ (j : Int) := by omega
              by_cases hhi : j ≤ 8 + 3 * k + 2
              · have q7 : (j : Int) ≤ 8 + 3 * (k : Int) + 2 := by omega
                obtain ⟨cP_0, cP_1, cP_2, cP_3, cP_4, dP_0, dP_1, dP_2, dP_3, dP_4⟩ := cells5 bS9
                have zP : w.heap.size < w9.heap.size := bS9.lt
                obtain ⟨cT_0, cT_1, cT_2, cT_3, cT_4, dT_0, dT_1, dT_2, dT_3, dT_4⟩ := cells5 bT9
                have zT : w4.heap.size < w9.heap.size := bT9.lt
                go_wp2_with (fail)
                go_at_call 95
                refine (kp0 _).calls.mono ?_
                rintro e w10 ⟨_, rfl, hb10, rfl⟩
                have ea9 := cell_ext ea9 (show Ext _ w10 from exq)
                have ez9 := cell_ext ez9 (show Ext _ w10 from exq)
                have xa9 : ba < w10.heap.size := World.block_lt_of_cell? _ _ ea9
                have xz9 : bz < w10.heap.size := World.block_lt_of_cell? _ _ ez9
                have BP_10 : Box w10 (w.heap.size) #[.slice (some ⟨ba, oa, none⟩) s.M.W.length cw, .slice ag s.M.G.length cg, .bool s.M.bad, .slice (some ⟨bc, oc, none⟩) s.C.length cc, .slice al s.L.length cl] 83 := bS9.ext hb10
                have BT_10 : Box w10 (w4.heap.size) #[.slice (some ⟨bz, oz, none⟩) s.M.W.length r2, .slice r3 s.M.G.length r4, .bool S.M.bad, .slice r5 s.C.length r6, .slice r7 s.L.length r8] 83 := bT9.ext hb10
                clear cP_0 cP_1 cP_2 cP_3 cP_4 dP_0 dP_1 dP_2 dP_3 dP_4 zP cT_0 cT_1 cT_2 cT_3 cT_4 dT_0 dT_1 dT_2 dT_3 dT_4 zT
                have s10 : w9.heap.size ≤ w10.heap.size := (by have h := hb10.size; first | omega | (simp at h; omega))
                obtain ⟨cP_0, cP_1, cP_2, cP_3, cP_4, dP_0, dP_1, dP_2, dP_3, dP_4⟩ := cells5 BP_10
                have zP : w.heap.size < w10.heap.size := BP_10.lt
                obtain ⟨cT_0, cT_1, cT_2, cT_3, cT_4, dT_0, dT_1, dT_2, dT_3, dT_4⟩ := cells5 BT_10
                have zT : w4.heap.size < w10.heap.size := BT_10.lt
                go_wp2_with (fail)
                go_at_call 95
                refine (kp2 _).calls.mono ?_
                rintro e w11 ⟨_, rfl, hb11, rfl⟩
                have ea9 := cell_ext ea9 (show Ext _ w11 from exq)
                have ez9 := cell_ext ez9 (show Ext _ w11 from exq)
                have xa9 : ba < w11.heap.size := World.block_lt_of_cell? _ _ ea9
                have xz9 : bz < w11.heap.size := World.block_lt_of_cell? _ _ ez9
                have BP_11 : Box w11 (w.heap.size) #[.slice (some ⟨ba, oa, none⟩) s.M.W.length cw, .slice ag s.M.G.length cg, .bool s.M.bad, .slice (some ⟨bc, oc, none⟩) s.C.length cc, .slice al s.L.length cl] 83 := BP_10.ext hb11
                have BT_11 : Box w11 (w4.heap.size) #[.slice (some ⟨bz, oz, none⟩) s.M.W.length r2, .slice r3 s.M.G.length r4, .bool S.M.bad, .slice r5 s.C.length r6, .slice r7 s.L.length r8] 83 := BT_10.ext hb11
                clear cP_0 cP_1 cP_2 cP_3 cP_4 dP_0 dP_1 dP_2 dP_3 dP_4 zP cT_0 cT_1 cT_2 cT_3 cT_4 dT_0 dT_1 dT_2 dT_3 dT_4 zT
                have s11 : w10.heap.size ≤ w11.heap.size := (by have h := hb11.size; first | omega | (simp at h; omega))
                obtain ⟨cP_0, cP_1, cP_2, cP_3, cP_4, dP_0, dP_1, dP_2, dP_3, dP_4⟩ := cells5 BP_11
                have zP : w.heap.size < w11.heap.size := BP_11.lt
                obtain ⟨cT_0, cT_1, cT_2, cT_3, cT_4, dT_0, dT_1, dT_2, dT_3, dT_4⟩ := cells5 BT_11
                have zT : w4.heap.size < w11.heap.size := BT_11.lt
                go_wp2_with (fail)
                go_quiet (fail)
                go_wp2
                go_roundw
                case rel => exact ⟨j + 1, by simp, by omega, exq⟩
                case measure => simp [intOf]; omega
              · have q7 : ¬ (j : Int) ≤ 8 + 3 * (k : Int) + 2 := by omega
                have hsame := KW.out j (by omega)
                obtain ⟨z, hz⟩ : ∃ z, gi s.M.W j = z := ⟨_, rfl⟩
                rw [hz] at hsame ea9
                rw [hsame] at ez9
                clear hz hsame
                obtain ⟨cP_0, cP_1, cP_2, cP_3, cP_4, dP_0, dP_1, dP_2, dP_3, dP_4⟩ := cells5 bS9
                have zP : w.heap.size < w9.heap.size := bS9.lt
                obtain ⟨cT_0, cT_1, cT_2, cT_3, cT_4, dT_0, dT_1, dT_2, dT_3, dT_4⟩ := cells5 bT9
                have zT : w4.heap.size < w9.heap.size := bT9.lt
                go_wp2_with (fail)
                go_at_call 95
                refine (kp0 _).calls.mono ?_
                rintro e w10 ⟨_, rfl, hb10, rfl⟩
                have ea9 := cell_ext ea9 (show Ext _ w10 from exq)
                have ez9 := cell_ext ez9 (show Ext _ w10 from exq)
                have xa9 : ba < w10.heap.size := World.block_lt_of_cell? _ _ ea9
                have xz9 : bz < w10.heap.size := World.block_lt_of_cell? _ _ ez9
                have BP_10 : Box w10 (w.heap.size) #[.slice (some ⟨ba, oa, none⟩) s.M.W.length cw, .slice ag s.M.G.length cg, .bool s.M.bad, .slice (some ⟨bc, oc, none⟩) s.C.length cc, .slice al s.L.length cl] 83 := bS9.ext hb10
                have BT_10 : Box w10 (w4.heap.size) #[.slice (some ⟨bz, oz, none⟩) s.M.W.length r2, .slice r3 s.M.G.length r4, .bool S.M.bad, .slice r5 s.C.length r6, .slice r7 s.L.length r8] 83 := bT9.ext hb10
                clear cP_0 cP_1 cP_2 cP_3 cP_4 dP_0 dP_1 dP_2 dP_3 dP_4 zP cT_0 cT_1 cT_2 cT_3 cT_4 dT_0 dT_1 dT_2 dT_3 dT_4 zT
                have s10 : w9.heap.size ≤ w10.heap.size := (by have h := hb10.size; first | omega | (simp at h; omega))
                obtain ⟨cP_0, cP_1, cP_2, cP_3, cP_4, dP_0, dP_1, dP_2, dP_3, dP_4⟩ := cells5 BP_10
                have zP : w.heap.size < w10.heap.size := BP_10.lt
                obtain ⟨cT_0, cT_1, cT_2, cT_3, cT_4, dT_0, dT_1, dT_2, dT_3, dT_4⟩ := cells5 BT_10
                have zT : w4.heap.size < w10.heap.size := BT_10.lt
                go_wp2_with (fail)
                go_at_call 95
                refine (kp2 _).calls.mono ?_
                rintro e w11 ⟨_, rfl, hb11, rfl⟩
                have ea9 := cell_ext ea9 (show Ext _ w11 from exq)
                have ez9 := cell_ext ez9 (show Ext _ w11 from exq)
                have xa9 : ba < w11.heap.size := World.block_lt_of_cell? _ _ ea9
                have xz9 : bz < w11.heap.size := World.block_lt_of_cell? _ _ ez9
                have BP_11 : Box w11 (w.heap.size) #[.slice (some ⟨ba, oa, none⟩) s.M.W.length cw, .slice ag s.M.G.length cg, .bool s.M.bad, .slice (some ⟨bc, oc, none⟩) s.C.length cc, .slice al s.L.length cl] 83 := BP_10.ext hb11
                have BT_11 : Box w11 (w4.heap.size) #[.slice (some ⟨bz, oz, none⟩) s.M.W.length r2, .slice r3 s.M.G.length r4, .bool S.M.bad, .slice r5 s.C.length r6, .slice r7 s.L.length r8] 83 := BT_10.ext hb11
                clear cP_0 cP_1 cP_2 cP_3 cP_4 dP_0 dP_1 dP_2 dP_3 dP_4 zP cT_0 cT_1 cT_2 cT_3 cT_4 dT_0 dT_1 dT_2 dT_3 dT_4 zT
                have s11 : w10.heap.size ≤ w11.heap.size := (by have h := hb11.size; first | omega | (simp at h; omega))
                obtain ⟨cP_0, cP_1, cP_2, cP_3, cP_4, dP_0, dP_1, dP_2, dP_3, dP_4⟩ := cells5 BP_11
                have zP : w.heap.size < w11.heap.size := BP_11.lt
                obtain ⟨cT_0, cT_1, cT_2, cT_3, cT_4, dT_0, dT_1, dT_2, dT_3, dT_4⟩ := cells5 BT_11
                have zT : w4.heap.size < w11.heap.size := BT_11.lt
                go_wp2_with (fail)
                go_quiet (fail)
                go_wp2
                go_roundw
                case rel => exact ⟨j + 1, by simp, by omega, exq⟩
                case measure => simp [intOf]; omega
            · have q6 : ¬ 8 + 3 * (k : Int) ≤ (j : Int) := by omega
              have hsame := KW.out j (by omega)
              obtain ⟨z, hz⟩ : ∃ z, gi s.M.W j = z := ⟨_, rfl⟩
              rw [hz] at hsame ea9
              rw [hsame] at ez9
              clear hz hsame
              obtain ⟨cP_0, cP_1, cP_2, cP_3, cP_4, dP_0, dP_1, dP_2, dP_3, dP_4⟩ := cells5 bS9
              have zP : w.heap.size < w9.heap.size := bS9.lt
              obtain ⟨cT_0, cT_1, cT_2, cT_3, cT_4, dT_0, dT_1, dT_2, dT_3, dT_4⟩ := cells5 bT9
              have zT : w4.heap.size < w9.heap.size := bT9.lt
              go_wp2_with (fail)
              go_at_call 95
              refine (kp0 _).calls.mono ?_
              rintro e w10 ⟨_, rfl, hb10, rfl⟩
              have ea9 := cell_ext ea9 (show Ext _ w10 from exq)
              have ez9 := cell_ext ez9 (show Ext _ w10 from exq)
              have xa9 : ba < w10.heap.size := World.block_lt_of_cell? _ _ ea9
              have xz9 : bz < w10.heap.size := World.block_lt_of_cell? _ _ ez9
              have BP_10 : Box w10 (w.heap.size) #[.slice (some ⟨ba, oa, none⟩) s.M.W.length cw, .slice ag s.M.G.length cg, .bool s.M.bad, .slice (some ⟨bc, oc, none⟩) s.C.length cc, .slice al s.L.length cl] 83 := bS9.ext hb10
              have BT_10 : Box w10 (w4.heap.size) #[.slice (some ⟨bz, oz, none⟩) s.M.W.length r2, .slice r3 s.M.G.length r4, .bool S.M.bad, .slice r5 s.C.length r6, .slice r7 s.L.length r8] 83 := bT9.ext hb10
              clear cP_0 cP_1 cP_2 cP_3 cP_4 dP_0 dP_1 dP_2 dP_3 dP_4 zP cT_0 cT_1 cT_2 cT_3 cT_4 dT_0 dT_1 dT_2 dT_3 dT_4 zT
              have s10 : w9.heap.size ≤ w10.heap.size := (by have h := hb10.size; first | omega | (simp at h; omega))
              obtain ⟨cP_0, cP_1, cP_2, cP_3, cP_4, dP_0, dP_1, dP_2, dP_3, dP_4⟩ := cells5 BP_10
              have zP : w.heap.size < w10.heap.size := BP_10.lt
              obtain ⟨cT_0, cT_1, cT_2, cT_3, cT_4, dT_0, dT_1, dT_2, dT_3, dT_4⟩ := cells5 BT_10
              have zT : w4.heap.size < w10.heap.size := BT_10.lt
              go_wp2_with (fail)
              go_quiet (fail)
              go_wp2
              go_roundw
              case rel => exact ⟨j + 1, by simp, by omega, exq⟩
              case measure => simp [intOf]; omega
          · have hje : j = s.M.W.length := by omega
            have q5 : ¬ (j : Int) < (s.M.W.length : Int) := by omega
            obtain ⟨cP_0, cP_1, cP_2, cP_3, cP_4, dP_0, dP_1, dP_2, dP_3, dP_4⟩ := cells5 bS9
            have zP : w.heap.size < w9.heap.size := bS9.lt
            obtain ⟨cT_0, cT_1, cT_2, cT_3, cT_4, dT_0, dT_1, dT_2, dT_3, dT_4⟩ := cells5 bT9
            have zT : w4.heap.size < w9.heap.size := bT9.lt
            go_wp2_with (fail)
            have hX17 : Ext w w9 := exn
            have hK17 : Keep no w9 w9 := Keep.refl _ _
            have DP_17 := bS9
            have DT_17 := bT9
            have aS : IsSys no w9 (.agg #[.slice (some ⟨ba, oa, none⟩) s.M.W.length cw, .slice ag s.M.G.length cg, .bool s.M.bad, .slice (some ⟨bc, oc, none⟩) s.C.length cc, .slice al s.L.length cl]) s := (IsSys.mk rfl hw hg hc hl : IsSys no w _ s).ext hX17
            have aT : IsSys no w9 (.agg #[.slice (some ⟨bz, oz, none⟩) s.M.W.length r2, .slice r3 s.M.G.length r4, .bool S.M.bad, .slice r5 s.C.length r6, .slice r7 s.L.length r8]) S := (hrk.ext hX).ext (by with_reducible exact Ext.refl _)
            have aM : IsMem no w9 (.agg #[.slice (some ⟨ba, oa, none⟩) s.M.W.length cw, .slice ag s.M.G.length cg, .bool s.M.bad]) s.M := IsMem.mk rfl (hw.ext hX17) (hg.ext hX17)
            have g0 := cell_ext e0 hX17; have g1 := cell_ext e1 hX17; have g2 := cell_ext e2 hX17; have g3 := cell_ext e3 hX17; have g4 := cell_ext e4 hX17; have g5 := cell_ext e5 hX17; have g6 := cell_ext e6 hX17
            have aC : IsCoreV no w9 (.agg #[.slice af kc.F.length cf, .int .i64 kc.V, .int .i64 kc.E, .int .i64 (gi kc.X 0), .int .i64 (gi kc.X 1), .int .i64 (gi kc.X 2), .slice ar kc.Ret.length cr]) kc := IsCoreV.ext (IsCoreV.mk hX3 hff hrr) hX17
            have kw92 : ∀ (v : Value) (w' : World), Ext w9 w' → IsSys no w' v (memS S s.M) → Gives Proofs.Try.prog 92 #[v, .int .i64 (k : Int), .agg #[.slice af kc.F.length cf, .int .i64 kc.V, .int .i64 kc.E, .int .i64 (gi kc.X 0), .int .i64 (gi kc.X 1), .int .i64 (gi kc.X 2), .slice ar kc.Ret.length cr]] w' (fun r w' => IsSys no w' r s) := by intro v w' e hv; have hq := with_ no _ _ (memS S s.M) k kc w' hv (IsCoreV.ext aC e) no_lt (by rw [show (memS S s.M).C.length = S.C.length from rfl, KlC.out]; exact hC5) (by rw [show (memS S s.M).C.length = S.C.length from rfl, KlC.out]; exact hkc); rwa [KA.out] at hq
            have kw78 : ∀ (v : Value) (w' : World), Ext w9 w' → IsSys no w' v s → Gives Proofs.Try.prog 78 #[v, .agg #[.slice (some ⟨ba, oa, none⟩) s.M.W.length cw, .slice ag s.M.G.length cg, .bool s.M.bad, .slice (some ⟨bc, oc, none⟩) s.C.length cc, .slice al s.L.length cl]] w' (eqv (.bool true)) := by intro v w' e hv; have hq := refSys_ no _ _ s s w' hv (aS.ext e); rwa [sameS_refl] at hq
            clear cP_0 cP_1 cP_2 cP_3 cP_4 dP_0 dP_1 dP_2 dP_3 dP_4 zP cT_0 cT_1 cT_2 cT_3 cT_4 dT_0 dT_1 dT_2 dT_3 dT_4 zT
            apply region_lit2 (T := []) (L := []) (X := []) (G := [eqv _, eqv _, eqv _, eqv _, eqv _, isSysN no (memS S s.M), eqv _, eqv _, eqv _, eqv _, eqv _, eqv _, isSysN no s, eqv _, eqv (.bool true), eqv (.bool true), eqv _])
            case hm => kernel_rfl
            case hop =>
              refine ⟨?_, ?_, ?_, ?_, ?_, ?_, ?_, ?_, ?_, ?_, ?_, ?_, ?_, ?_, ?_, ?_, ?_, trivial⟩
              · intro a wa hs hf hd
                have t5 := hf.off 5 (by kernel_rfl) rfl
                exact plain_ rfl (yes_eqv (o_move rfl t5) rfl)
              · intro a wa hs hf hd
                have t123 : a.eval (.tmp 123) = _ := hd.at 0 123 (by kernel_rfl)
                exact plain_ rfl (yes_eqv (o_move rfl t123) rfl)
              · intro a wa hs hf hd
                have t124 : a.eval (.tmp 124) = _ := hd.at 1 124 (by kernel_rfl)
                have t9 := hf.off 9 (by kernel_rfl) rfl
                exact guard_on rfl rfl t124 (yes_eqv (o_load5 rfl Proofs.Try.underlying83 rfl (by kernel_rfl) t9 ((DT_17.since hs rfl).cell rfl) ((DT_17.since hs rfl).cell rfl) ((DT_17.since hs rfl).cell rfl) ((DT_17.since hs rfl).cell rfl) ((DT_17.since hs rfl).cell rfl)) rfl)
              · intro a wa hs hf hd
                have t124 : a.eval (.tmp 124) = _ := hd.at 1 124 (by kernel_rfl)
                have t2 := hf.off 2 (by kernel_rfl) rfl
                exact guard_on rfl rfl t124 (yes_eqv (o_fieldAddr rfl Proofs.Try.underlying83 rfl rfl (by kernel_rfl) t2) rfl)
              · intro a wa hs hf hd
                have t124 : a.eval (.tmp 124) = _ := hd.at 1 124 (by kernel_rfl)
                have t126 : a.eval (.tmp 126) = _ := hd.at 3 126 (by kernel_rfl)
                exact guard_on rfl rfl t124 (yes_eqv (o_load3 rfl Proofs.Try.underlying50 rfl (by kernel_rfl) t126 ((DP_17.since hs rfl).cell rfl) ((DP_17.since hs rfl).cell rfl) ((DP_17.since hs rfl).cell rfl)) rfl)
              · intro a wa hs hf hd
                have t124 : a.eval (.tmp 124) = _ := hd.at 1 124 (by kernel_rfl)
                have t125 : a.eval (.tmp 125) = _ := hd.at 2 125 (by kernel_rfl)
                have t127 : a.eval (.tmp 127) = _ := hd.at 4 127 (by kernel_rfl)
                exact guard_on rfl rfl t124 (yes_gives (refMem_ no _ _ S s.M _ (aT.ext (Since.to_ext hs)) (aM.ext (Since.to_ext hs))) rfl rfl Proofs.Try.func103 (by kernel_rfl) (by kernel_rfl) (by simp only [List.map_toArray, List.map_cons, List.map_nil, t125, t127]) rfl)
              · intro a wa hs hf hd
                have t124 : a.eval (.tmp 124) = _ := hd.at 1 124 (by kernel_rfl)
                have t6 := hf.off 6 (by kernel_rfl) rfl
                exact guard_on rfl rfl t124 (yes_eqv (o_move rfl t6) rfl)
              · intro a wa hs hf hd
                have t124 : a.eval (.tmp 124) = _ := hd.at 1 124 (by kernel_rfl)
                have t2 := hf.off 2 (by kernel_rfl) rfl
                exact guard_on rfl rfl t124 (yes_eqv (o_fieldAddr rfl Proofs.Try.underlying83 rfl rfl (by kernel_rfl) t2) rfl)
              · intro a wa hs hf hd
                have t124 : a.eval (.tmp 124) = _ := hd.at 1 124 (by kernel_rfl)
                have t130 : a.eval (.tmp 130) = _ := hd.at 7 130 (by kernel_rfl)
                exact guard_on rfl rfl t124 (yes_eqv (o_load1 rfl Proofs.Try.underlying80 rfl t130 ((DP_17.since hs rfl).cell rfl)) rfl)
              · intro a wa hs hf hd
                have t124 : a.eval (.tmp 124) = _ := hd.at 1 124 (by kernel_rfl)
                have t6 := hf.off 6 (by kernel_rfl) rfl
                exact guard_on rfl rfl t124 (yes_eqv (o_move rfl t6) rfl)
              · intro a wa hs hf hd
                have t124 : a.eval (.tmp 124) = _ := hd.at 1 124 (by kernel_rfl)
                have t131 : a.eval (.tmp 131) = _ := hd.at 8 131 (by kernel_rfl)
                have t132 : a.eval (.tmp 132) = _ := hd.at 9 132 (by kernel_rfl)
                exact guard_on rfl rfl t124 (yes_eqv (o_indexAddr (sz := 7) rfl Proofs.Try.underlying80 (by kernel_rfl) t131 t132 (by omega) (by omega)) rfl)
              · intro a wa hs hf hd
                have t124 : a.eval (.tmp 124) = _ := hd.at 1 124 (by kernel_rfl)
                have t133 : a.eval (.tmp 133) = _ := hd.at 10 133 (by kernel_rfl)
                have t124 : a.eval (.tmp 124) = _ := hd.at 1 124 (by kernel_rfl)
                have t133 : a.eval (.tmp 133) = _ := hd.at 10 133 (by kernel_rfl)
                exact guard_on rfl rfl t124 (yes_eqv (o_load7 rfl Proofs.Try.underlying116 rfl (by kernel_rfl) t133 (cell_ext g0 (Since.to_ext hs)) (cell_ext g1 (Since.to_ext hs)) (cell_ext g2 (Since.to_ext hs)) (cell_ext g3 (Since.to_ext hs)) (cell_ext g4 (Since.to_ext hs)) (cell_ext g5 (Since.to_ext hs)) (cell_ext g6 (Since.to_ext hs))) rfl)
              · intro a wa hs hf hd
                have t124 : a.eval (.tmp 124) = _ := hd.at 1 124 (by kernel_rfl)
                have t128 := hd.at 5 128 (by kernel_rfl)
                have t129 : a.eval (.tmp 129) = _ := hd.at 6 129 (by kernel_rfl)
                have t134 : a.eval (.tmp 134) = _ := hd.at 11 134 (by kernel_rfl)
                exact guard_on rfl rfl t124 (yes_gives (kw92 _ _ (Since.to_ext hs) t128) rfl rfl Proofs.Try.func92 (by kernel_rfl) (by kernel_rfl) (by simp only [List.map_toArray, List.map_cons, List.map_nil, t128, t129, t134]) rfl)
              · intro a wa hs hf hd
                have t124 : a.eval (.tmp 124) = _ := hd.at 1 124 (by kernel_rfl)
                have t2 := hf.off 2 (by kernel_rfl) rfl
                exact guard_on rfl rfl t124 (yes_eqv (o_load5 rfl Proofs.Try.underlying83 rfl (by kernel_rfl) t2 ((DP_17.since hs rfl).cell rfl) ((DP_17.since hs rfl).cell rfl) ((DP_17.since hs rfl).cell rfl) ((DP_17.since hs rfl).cell rfl) ((DP_17.since hs rfl).cell rfl)) rfl)
              · intro a wa hs hf hd
                have t124 : a.eval (.tmp 124) = _ := hd.at 1 124 (by kernel_rfl)
                have t135 := hd.at 12 135 (by kernel_rfl)
                have t136 : a.eval (.tmp 136) = _ := hd.at 13 136 (by kernel_rfl)
                exact guard_on rfl rfl t124 (yes_gives (kw78 _ _ (Since.to_ext hs) t135) rfl rfl Proofs.Try.func78 (by kernel_rfl) (by kernel_rfl) (by simp only [List.map_toArray, List.map_cons, List.map_nil, t135, t136]) rfl)
              · intro a wa hs hf hd
                have t124 : a.eval (.tmp 124) = _ := hd.at 1 124 (by kernel_rfl)
                have t137 : a.eval (.tmp 137) = _ := hd.at 14 137 (by kernel_rfl)
                exact plain_ rfl (yes_eqv (o_pick_t rfl t124 t137) rfl)
              · intro a wa hs hf hd
                have t138 : a.eval (.tmp 138) = _ := hd.at 15 138 (by kernel_rfl)
                exact plain_ rfl (yes_eqv (o_assign rfl t138) rfl)
            case hG => exact ⟨stable_eqv _, stable_eqv _, stable_eqv _, stable_eqv _, stable_eqv _, stable_isSysN _ _, stable_eqv _, stable_eqv _, stable_eqv _, stable_eqv _, stable_eqv _, stable_eqv _, stable_isSysN _ _, stable_eqv _, stable_eqv _, stable_eqv _, stable_eqv _, trivial⟩
            case hc => kernel_rfl
            case hfin =>
              intro v17 hs17
              rintro _ rfl _ rfl _ rfl _ rfl _ rfl j5 hj5 _ rfl _ rfl _ rfl _ rfl _ rfl _ rfl j12 hj12 _ rfl _ rfl _ rfl _ rfl
              intro x hx
              rw [hx]
              clear hx x
              simp only [Act.put, List.setIfInBounds_toArray, List.set_cons_zero, List.set_cons_succ]
              obtain ⟨w10, hw10⟩ : ∃ x, x = v17 := ⟨_, rfl⟩
              have hb10 : Ext w w10 := by rw [hw10]; exact hX17.trans (Since.to_ext hs17)
              have hk10 : Keep no w9 w10 := by rw [hw10]; exact hK17.ext (Since.to_ext hs17)
              have hQ10 : Ext w9 w10 := by rw [hw10]; exact Since.to_ext hs17
              have BP_10 : Box w10 (w.heap.size) #[.slice (some ⟨ba, oa, none⟩) s.M.W.length cw, .slice ag s.M.G.length cg, .bool s.M.bad, .slice (some ⟨bc, oc, none⟩) s.C.length cc, .slice al s.L.length cl] 83 := by rw [hw10]; exact (DP_17.since hs17 rfl)
              have BT_10 : Box w10 (w4.heap.size) #[.slice (some ⟨bz, oz, none⟩) s.M.W.length r2, .slice r3 s.M.G.length r4, .bool S.M.bad, .slice r5 s.C.length r6, .slice r7 s.L.length r8] 83 := by rw [hw10]; exact (DT_17.since hs17 rfl)
              have s10 : w9.heap.size ≤ w10.heap.size := by rw [hw10]; exact (Since.to_ext hs17).size
              rw [← hw10]
              clear hw10
              obtain ⟨cP_0, cP_1, cP_2, cP_3, cP_4, dP_0, dP_1, dP_2, dP_3, dP_4⟩ := cells5 BP_10
              have zP : w.heap.size < w10.heap.size := BP_10.lt
              obtain ⟨cT_0, cT_1, cT_2, cT_3, cT_4, dT_0, dT_1, dT_2, dT_3, dT_4⟩ := cells5 BT_10
              have zT : w4.heap.size < w10.heap.size := BT_10.lt
              go_wp2
              go_ret
              exact ⟨_, rfl, exn, rfl⟩
end Go.Proofs.Ytcfbdfgondmkoaa
