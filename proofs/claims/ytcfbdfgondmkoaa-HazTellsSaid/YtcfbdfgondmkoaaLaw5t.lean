/- HazTells: its walk. -/
import Derived.Test.YtcfbdfgondmkoaaM11
import Derived.Test.YtcfbdfgondmkoaaM12
import Derived.Test.YtcfbdfgondmkoaaM10
import Derived.Deep.CutRange
namespace Go.Proofs.Ytcfbdfgondmkoaa
open Go Go.RowKit
set_option linter.unusedSimpArgs false
set_option linter.unusedVariables false
set_option linter.unnecessarySimpa false

theorem sameF_refl (f : FrameD) : sameF f f = true := by simp [sameF, eq8]
theorem sameC_refl (c : CoreD) : sameC c c = true := by simp [sameC, eq3, all2_refl sameF_refl]
theorem sameE_refl (e : EvD) : sameE e e = true := by simp [sameE]
theorem sameS_refl (s : SysD) : sameS s s = true := by simp [sameS, sameD_refl, all2_refl sameC_refl, all2_refl sameE_refl]
theorem cells8 {w : World} {b : Nat} {c0 c1 c2 c3 c4 c5 c6 c7 : Value} {t : TypeId} (h : Box w b #[c0, c1, c2, c3, c4, c5, c6, c7] t) :
    w.cell? ⟨b, 0, none⟩ = some c0 ∧ w.cell? ⟨b, 1, none⟩ = some c1 ∧ w.cell? ⟨b, 2, none⟩ = some c2 ∧ w.cell? ⟨b, 3, none⟩ = some c3 ∧ w.cell? ⟨b, 4, none⟩ = some c4 ∧ w.cell? ⟨b, 5, none⟩ = some c5 ∧ w.cell? ⟨b, 6, none⟩ = some c6 ∧ w.cell? ⟨b, 7, none⟩ = some c7 ∧ w.frozen? ⟨b, 0, none⟩ = false ∧ w.frozen? ⟨b, 1, none⟩ = false ∧ w.frozen? ⟨b, 2, none⟩ = false ∧ w.frozen? ⟨b, 3, none⟩ = false ∧ w.frozen? ⟨b, 4, none⟩ = false ∧ w.frozen? ⟨b, 5, none⟩ = false ∧ w.frozen? ⟨b, 6, none⟩ = false ∧ w.frozen? ⟨b, 7, none⟩ = false :=
  ⟨h.cell rfl, h.cell rfl, h.cell rfl, h.cell rfl, h.cell rfl, h.cell rfl, h.cell rfl, h.cell rfl, h.frozen, h.frozen, h.frozen, h.frozen, h.frozen, h.frozen, h.frozen, h.frozen⟩
def isFl (g : Nat) (vals : List Int) : GP := fun v w => ∃ b, v = .slice (some ⟨b, 0, none⟩) g g ∧ Box w b (flA g vals) 4
theorem stable_isFl (g : Nat) (vals : List Int) : Stable (isFl g vals) := fun _ _ _ h hx => by obtain ⟨b, h1, h2⟩ := h; exact ⟨b, h1, h2.ext hx⟩
set_option maxHeartbeats 8000000 in
set_option maxRecDepth 100000 in
theorem hazTells_ (v0 v1 v2 v3 v4 : Value) (s : SysD) (id y op : Int) (w : World) (h : IsSys no w (.agg #[v0, v1, v2, v3, v4]) s) (lo : 0 ≤ y) (hi : y ≤ 255) :
    Gives Proofs.Try.prog 24 #[.agg #[v0, v1, v2, v3, v4, .int .i64 id, .int .u8 y, .int .i64 op]] w (eqv (.bool true)) := by
  have km := fun (w' : World) (e : Ext w w') => refMay_ no _ s 60 (by omega) w' (h.ext e)
  obtain ⟨aw, cw, ag, cg, ac, cc, al, cl, e, hw, hg, hc, hl⟩ := h.opened
  obtain ⟨rfl, rfl, rfl, rfl, rfl⟩ : v0 = .slice aw s.M.W.length cw ∧ v1 = .slice ag s.M.G.length cg ∧ v2 = .bool s.M.bad ∧ v3 = .slice ac s.C.length cc ∧ v4 = .slice al s.L.length cl := by simpa using e
  clear e
  cases hm : mayS s 60
  · rw [hm] at km
    clear hm
    go_enter Proofs.Try.func24, Proofs.Try.ntmps24
    go_wp2_with (fail)
    go_at_call 93
    refine (shown5_ _).calls.mono ?_
    rintro e w1 ⟨_, rfl, hb1, rfl⟩
    have B0_1 : Box w1 (w.heap.size) #[.slice aw s.M.W.length cw, .slice ag s.M.G.length cg, .bool s.M.bad, .slice ac s.C.length cc, .slice al s.L.length cl, .int .i64 id, .int .u8 y, .int .i64 op] 120 := ((Box.newAt _ _ _ (by first | rfl | simp)).alloc _).ext hb1
    have B1_1 : Box w1 (w.heap.size + 1) #[.slice aw s.M.W.length cw, .slice ag s.M.G.length cg, .bool s.M.bad, .slice ac s.C.length cc, .slice al s.L.length cl] 83 := (Box.newAt _ _ _ (by first | rfl | simp)).ext hb1
    have s1 : w.heap.size + 2 ≤ w1.heap.size := (by have h := hb1.size; first | omega | (simp at h; omega))
    obtain ⟨c0_0, c0_1, c0_2, c0_3, c0_4, c0_5, c0_6, c0_7, d0_0, d0_1, d0_2, d0_3, d0_4, d0_5, d0_6, d0_7⟩ := cells8 B0_1
    have z0 : w.heap.size < w1.heap.size := B0_1.lt
    obtain ⟨c1_0, c1_1, c1_2, c1_3, c1_4, d1_0, d1_1, d1_2, d1_3, d1_4⟩ := cells5 B1_1
    have z1 : w.heap.size + 1 < w1.heap.size := B1_1.lt
    go_wp2_with (fail)
    go_at_call 83
    refine (km _ exq).calls.mono ?_
    rintro e w2 ⟨_, rfl, hb2, rfl⟩
    have B0_2 : Box w2 (w.heap.size) #[.slice aw s.M.W.length cw, .slice ag s.M.G.length cg, .bool s.M.bad, .slice ac s.C.length cc, .slice al s.L.length cl, .int .i64 id, .int .u8 y, .int .i64 op] 120 := B0_1.ext hb2
    have B1_2 : Box w2 (w.heap.size + 1) #[.slice aw s.M.W.length cw, .slice ag s.M.G.length cg, .bool s.M.bad, .slice ac s.C.length cc, .slice al s.L.length cl] 83 := B1_1.ext hb2
    clear c0_0 c0_1 c0_2 c0_3 c0_4 c0_5 c0_6 c0_7 d0_0 d0_1 d0_2 d0_3 d0_4 d0_5 d0_6 d0_7 z0 c1_0 c1_1 c1_2 c1_3 c1_4 d1_0 d1_1 d1_2 d1_3 d1_4 z1
    have s2 : w1.heap.size ≤ w2.heap.size := (by have h := hb2.size; first | omega | (simp at h; omega))
    obtain ⟨c0_0, c0_1, c0_2, c0_3, c0_4, c0_5, c0_6, c0_7, d0_0, d0_1, d0_2, d0_3, d0_4, d0_5, d0_6, d0_7⟩ := cells8 B0_2
    have z0 : w.heap.size < w2.heap.size := B0_2.lt
    obtain ⟨c1_0, c1_1, c1_2, c1_3, c1_4, d1_0, d1_1, d1_2, d1_3, d1_4⟩ := cells5 B1_2
    have z1 : w.heap.size + 1 < w2.heap.size := B1_2.lt
    go_wp2
    go_ret
    exact ⟨_, rfl, exn, rfl⟩
  · rw [hm] at km
    have M5 := may5 hm
    clear hm
    obtain ⟨k, ek, k0, k1⟩ : ∃ k, y % 3 = k ∧ 0 ≤ k ∧ k < 3 := ⟨_, rfl, by omega, by omega⟩
    have HM5 := Lib.hid M5
    have hF5 : ∀ (i : Nat) c, s.C[i]? = some c → c.F.length ≤ 100000 := fun i c hi => by have := HM5.out.f40 i c hi; omega
    have hr5 : ∀ f, topD s id = some f → f.op = 3 → -9223372036854775808 ≤ gi f.R 0 ∧ gi f.R 0 ≤ 9223372036854775807 := fun f hf _ => by have := HM5.out.reg id f hf 0; omega
    have H5 := Lib.hid hF5; have HR5 := Lib.hid hr5
    have hG5 : s.M.G.length ≤ 100000 := by have := M5.g201; omega
    have hC5 : s.C.length ≤ 100 := by have := M5.c8; omega
    have hC9 : s.C.length ≤ 9 := by have := M5.c8; omega
    have hL5 : 8 + 3 * s.C.length ≤ s.M.W.length := by have := M5.c8; have := M5.w; omega
    obtain ⟨vals, hvals⟩ : ∃ l, (s.M.W.drop 8).take (3 * s.C.length) = l := ⟨_, rfl⟩
    have KV := Lib.hid hvals
    obtain ⟨T, hT⟩ : ∃ T, step5 s id = T := ⟨_, rfl⟩
    have KT := Lib.hid hT
    obtain ⟨o, ho⟩ : ∃ o, own5 op = o := ⟨_, rfl⟩
    have KO := Lib.hid ho
    have q9 : (o != o) = false := by cases o <;> rfl
    clear M5 hF5 hr5 hvals hT ho
    obtain ⟨p, hp⟩ : ∃ p, placeD id k = p := ⟨_, rfl⟩
    have KP := Lib.hid hp
    clear hp
    go_enter Proofs.Try.func24, Proofs.Try.ntmps24
    go_wp2_with (fail)
    go_at_call 93
    refine (shown5_ _).calls.mono ?_
    rintro e w1 ⟨_, rfl, hb1, rfl⟩
    have B0_1 : Box w1 (w.heap.size) #[.slice aw s.M.W.length cw, .slice ag s.M.G.length cg, .bool s.M.bad, .slice ac s.C.length cc, .slice al s.L.length cl, .int .i64 id, .int .u8 y, .int .i64 op] 120 := ((Box.newAt _ _ _ (by first | rfl | simp)).alloc _).ext hb1
    have B1_1 : Box w1 (w.heap.size + 1) #[.slice aw s.M.W.length cw, .slice ag s.M.G.length cg, .bool s.M.bad, .slice ac s.C.length cc, .slice al s.L.length cl] 83 := (Box.newAt _ _ _ (by first | rfl | simp)).ext hb1
    have s1 : w.heap.size + 2 ≤ w1.heap.size := (by have h := hb1.size; first | omega | (simp at h; omega))
    obtain ⟨c0_0, c0_1, c0_2, c0_3, c0_4, c0_5, c0_6, c0_7, d0_0, d0_1, d0_2, d0_3, d0_4, d0_5, d0_6, d0_7⟩ := cells8 B0_1
    have z0 : w.heap.size < w1.heap.size := B0_1.lt
    obtain ⟨c1_0, c1_1, c1_2, c1_3, c1_4, d1_0, d1_1, d1_2, d1_3, d1_4⟩ := cells5 B1_1
    have z1 : w.heap.size + 1 < w1.heap.size := B1_1.lt
    go_wp2_with (fail)
    go_at_call 83
    refine (km _ exq).calls.mono ?_
    rintro e w2 ⟨_, rfl, hb2, rfl⟩
    have B0_2 : Box w2 (w.heap.size) #[.slice aw s.M.W.length cw, .slice ag s.M.G.length cg, .bool s.M.bad, .slice ac s.C.length cc, .slice al s.L.length cl, .int .i64 id, .int .u8 y, .int .i64 op] 120 := B0_1.ext hb2
    have B1_2 : Box w2 (w.heap.size + 1) #[.slice aw s.M.W.length cw, .slice ag s.M.G.length cg, .bool s.M.bad, .slice ac s.C.length cc, .slice al s.L.length cl] 83 := B1_1.ext hb2
    clear c0_0 c0_1 c0_2 c0_3 c0_4 c0_5 c0_6 c0_7 d0_0 d0_1 d0_2 d0_3 d0_4 d0_5 d0_6 d0_7 z0 c1_0 c1_1 c1_2 c1_3 c1_4 d1_0 d1_1 d1_2 d1_3 d1_4 z1
    have s2 : w1.heap.size ≤ w2.heap.size := (by have h := hb2.size; first | omega | (simp at h; omega))
    obtain ⟨c0_0, c0_1, c0_2, c0_3, c0_4, c0_5, c0_6, c0_7, d0_0, d0_1, d0_2, d0_3, d0_4, d0_5, d0_6, d0_7⟩ := cells8 B0_2
    have z0 : w.heap.size < w2.heap.size := B0_2.lt
    obtain ⟨c1_0, c1_1, c1_2, c1_3, c1_4, d1_0, d1_1, d1_2, d1_3, d1_4⟩ := cells5 B1_2
    have z1 : w.heap.size + 1 < w2.heap.size := B1_2.lt
    go_upto_region 9 with (fail)
    obtain ⟨w9, hw9⟩ : ∃ x, x = w2 := ⟨_, rfl⟩
    have bA : Box w9 (w.heap.size) #[.slice aw s.M.W.length cw, .slice ag s.M.G.length cg, .bool s.M.bad, .slice ac s.C.length cc, .slice al s.L.length cl, .int .i64 id, .int .u8 y, .int .i64 op] 120 := by rw [hw9]; exact B0_2
    have bS : Box w9 (w.heap.size + 1) #[.slice aw s.M.W.length cw, .slice ag s.M.G.length cg, .bool s.M.bad, .slice ac s.C.length cc, .slice al s.L.length cl] 83 := by rw [hw9]; exact B1_2
    have X9 : Ext w w9 := by rw [hw9]; exact exq
    rw [← hw9]
    clear hw9 c0_0 c0_1 c0_2 c0_3 c0_4 c0_5 c0_6 c0_7 d0_0 d0_1 d0_2 d0_3 d0_4 d0_5 d0_6 d0_7 z0 c1_0 c1_1 c1_2 c1_3 c1_4 d1_0 d1_1 d1_2 d1_3 d1_4 z1
    go_cut [8, 46] from 9 to 46 (fun s8 s46 wc => s8 = .int .i64 k ∧ s46 = .bool false ∧ Ext w wc ∧ Box wc (w.heap.size) #[.slice aw s.M.W.length cw, .slice ag s.M.G.length cg, .bool s.M.bad, .slice ac s.C.length cc, .slice al s.L.length cl, .int .i64 id, .int .u8 y, .int .i64 op] 120 ∧ Box wc (w.heap.size + 1) #[.slice aw s.M.W.length cw, .slice ag s.M.G.length cg, .bool s.M.bad, .slice ac s.C.length cc, .slice al s.L.length cl] 83)
    case first =>
      by_cases i0 : id < 0
      · skip
        obtain ⟨cA_0, cA_1, cA_2, cA_3, cA_4, cA_5, cA_6, cA_7, dA_0, dA_1, dA_2, dA_3, dA_4, dA_5, dA_6, dA_7⟩ := cells8 bA
        have zA : w.heap.size < w9.heap.size := bA.lt
        obtain ⟨cS_0, cS_1, cS_2, cS_3, cS_4, dS_0, dS_1, dS_2, dS_3, dS_4⟩ := cells5 bS
        have zS : w.heap.size + 1 < w9.heap.size := bS.lt
        go_wp2_with (fail)
        go_at_call 96
        refine (own5_ op _).calls.mono ?_
        rintro e w10 ⟨_, rfl, hb10, rfl⟩
        rw [KO.out]
        have BA_10 : Box w10 (w.heap.size) #[.slice aw s.M.W.length cw, .slice ag s.M.G.length cg, .bool s.M.bad, .slice ac s.C.length cc, .slice al s.L.length cl, .int .i64 id, .int .u8 y, .int .i64 op] 120 := bA.ext hb10
        have BS_10 : Box w10 (w.heap.size + 1) #[.slice aw s.M.W.length cw, .slice ag s.M.G.length cg, .bool s.M.bad, .slice ac s.C.length cc, .slice al s.L.length cl] 83 := bS.ext hb10
        clear cA_0 cA_1 cA_2 cA_3 cA_4 cA_5 cA_6 cA_7 dA_0 dA_1 dA_2 dA_3 dA_4 dA_5 dA_6 dA_7 zA cS_0 cS_1 cS_2 cS_3 cS_4 dS_0 dS_1 dS_2 dS_3 dS_4 zS
        have s10 : w9.heap.size ≤ w10.heap.size := (by have h := hb10.size; first | omega | (simp at h; omega))
        obtain ⟨cA_0, cA_1, cA_2, cA_3, cA_4, cA_5, cA_6, cA_7, dA_0, dA_1, dA_2, dA_3, dA_4, dA_5, dA_6, dA_7⟩ := cells8 BA_10
        have zA : w.heap.size < w10.heap.size := BA_10.lt
        obtain ⟨cS_0, cS_1, cS_2, cS_3, cS_4, dS_0, dS_1, dS_2, dS_3, dS_4⟩ := cells5 BS_10
        have zS : w.heap.size + 1 < w10.heap.size := BS_10.lt
        go_wp2_with (fail)
        go_at_call 97
        refine (refOwn5_ op _).calls.mono ?_
        rintro e w11 ⟨_, rfl, hb11, rfl⟩
        rw [KO.out]
        have BA_11 : Box w11 (w.heap.size) #[.slice aw s.M.W.length cw, .slice ag s.M.G.length cg, .bool s.M.bad, .slice ac s.C.length cc, .slice al s.L.length cl, .int .i64 id, .int .u8 y, .int .i64 op] 120 := BA_10.ext hb11
        have BS_11 : Box w11 (w.heap.size + 1) #[.slice aw s.M.W.length cw, .slice ag s.M.G.length cg, .bool s.M.bad, .slice ac s.C.length cc, .slice al s.L.length cl] 83 := BS_10.ext hb11
        clear cA_0 cA_1 cA_2 cA_3 cA_4 cA_5 cA_6 cA_7 dA_0 dA_1 dA_2 dA_3 dA_4 dA_5 dA_6 dA_7 zA cS_0 cS_1 cS_2 cS_3 cS_4 dS_0 dS_1 dS_2 dS_3 dS_4 zS
        have s11 : w10.heap.size ≤ w11.heap.size := (by have h := hb11.size; first | omega | (simp at h; omega))
        obtain ⟨cA_0, cA_1, cA_2, cA_3, cA_4, cA_5, cA_6, cA_7, dA_0, dA_1, dA_2, dA_3, dA_4, dA_5, dA_6, dA_7⟩ := cells8 BA_11
        have zA : w.heap.size < w11.heap.size := BA_11.lt
        obtain ⟨cS_0, cS_1, cS_2, cS_3, cS_4, dS_0, dS_1, dS_2, dS_3, dS_4⟩ := cells5 BS_11
        have zS : w.heap.size + 1 < w11.heap.size := BS_11.lt
        go_wp2_with (fail)
        go_meet
        case rel => exact ⟨rfl, rfl, exq, BA_11, BS_11⟩
      · by_cases i8 : 8 ≤ id
        · skip
          obtain ⟨cA_0, cA_1, cA_2, cA_3, cA_4, cA_5, cA_6, cA_7, dA_0, dA_1, dA_2, dA_3, dA_4, dA_5, dA_6, dA_7⟩ := cells8 bA
          have zA : w.heap.size < w9.heap.size := bA.lt
          obtain ⟨cS_0, cS_1, cS_2, cS_3, cS_4, dS_0, dS_1, dS_2, dS_3, dS_4⟩ := cells5 bS
          have zS : w.heap.size + 1 < w9.heap.size := bS.lt
          go_wp2_with (fail)
          go_at_call 96
          refine (own5_ op _).calls.mono ?_
          rintro e w10 ⟨_, rfl, hb10, rfl⟩
          rw [KO.out]
          have BA_10 : Box w10 (w.heap.size) #[.slice aw s.M.W.length cw, .slice ag s.M.G.length cg, .bool s.M.bad, .slice ac s.C.length cc, .slice al s.L.length cl, .int .i64 id, .int .u8 y, .int .i64 op] 120 := bA.ext hb10
          have BS_10 : Box w10 (w.heap.size + 1) #[.slice aw s.M.W.length cw, .slice ag s.M.G.length cg, .bool s.M.bad, .slice ac s.C.length cc, .slice al s.L.length cl] 83 := bS.ext hb10
          clear cA_0 cA_1 cA_2 cA_3 cA_4 cA_5 cA_6 cA_7 dA_0 dA_1 dA_2 dA_3 dA_4 dA_5 dA_6 dA_7 zA cS_0 cS_1 cS_2 cS_3 cS_4 dS_0 dS_1 dS_2 dS_3 dS_4 zS
          have s10 : w9.heap.size ≤ w10.heap.size := (by have h := hb10.size; first | omega | (simp at h; omega))
          obtain ⟨cA_0, cA_1, cA_2, cA_3, cA_4, cA_5, cA_6, cA_7, dA_0, dA_1, dA_2, dA_3, dA_4, dA_5, dA_6, dA_7⟩ := cells8 BA_10
          have zA : w.heap.size < w10.heap.size := BA_10.lt
          obtain ⟨cS_0, cS_1, cS_2, cS_3, cS_4, dS_0, dS_1, dS_2, dS_3, dS_4⟩ := cells5 BS_10
          have zS : w.heap.size + 1 < w10.heap.size := BS_10.lt
          go_wp2_with (fail)
          go_at_call 97
          refine (refOwn5_ op _).calls.mono ?_
          rintro e w11 ⟨_, rfl, hb11, rfl⟩
          rw [KO.out]
          have BA_11 : Box w11 (w.heap.size) #[.slice aw s.M.W.length cw, .slice ag s.M.G.length cg, .bool s.M.bad, .slice ac s.C.length cc, .slice al s.L.length cl, .int .i64 id, .int .u8 y, .int .i64 op] 120 := BA_10.ext hb11
          have BS_11 : Box w11 (w.heap.size + 1) #[.slice aw s.M.W.length cw, .slice ag s.M.G.length cg, .bool s.M.bad, .slice ac s.C.length cc, .slice al s.L.length cl] 83 := BS_10.ext hb11
          clear cA_0 cA_1 cA_2 cA_3 cA_4 cA_5 cA_6 cA_7 dA_0 dA_1 dA_2 dA_3 dA_4 dA_5 dA_6 dA_7 zA cS_0 cS_1 cS_2 cS_3 cS_4 dS_0 dS_1 dS_2 dS_3 dS_4 zS
          have s11 : w10.heap.size ≤ w11.heap.size := (by have h := hb11.size; first | omega | (simp at h; omega))
          obtain ⟨cA_0, cA_1, cA_2, cA_3, cA_4, cA_5, cA_6, cA_7, dA_0, dA_1, dA_2, dA_3, dA_4, dA_5, dA_6, dA_7⟩ := cells8 BA_11
          have zA : w.heap.size < w11.heap.size := BA_11.lt
          obtain ⟨cS_0, cS_1, cS_2, cS_3, cS_4, dS_0, dS_1, dS_2, dS_3, dS_4⟩ := cells5 BS_11
          have zS : w.heap.size + 1 < w11.heap.size := BS_11.lt
          go_wp2_with (fail)
          go_meet
          case rel => exact ⟨rfl, rfl, exq, BA_11, BS_11⟩
        · skip
          obtain ⟨cA_0, cA_1, cA_2, cA_3, cA_4, cA_5, cA_6, cA_7, dA_0, dA_1, dA_2, dA_3, dA_4, dA_5, dA_6, dA_7⟩ := cells8 bA
          have zA : w.heap.size < w9.heap.size := bA.lt
          obtain ⟨cS_0, cS_1, cS_2, cS_3, cS_4, dS_0, dS_1, dS_2, dS_3, dS_4⟩ := cells5 bS
          have zS : w.heap.size + 1 < w9.heap.size := bS.lt
          go_wp2_with (fail)
          go_at_call 94
          refine (place_ id k _ (by omega) (by omega)).calls.mono ?_
          rintro e w10 ⟨_, rfl, hb10, rfl⟩
          rw [KP.out]
          have BA_10 : Box w10 (w.heap.size) #[.slice aw s.M.W.length cw, .slice ag s.M.G.length cg, .bool s.M.bad, .slice ac s.C.length cc, .slice al s.L.length cl, .int .i64 id, .int .u8 y, .int .i64 op] 120 := bA.ext hb10
          have BS_10 : Box w10 (w.heap.size + 1) #[.slice aw s.M.W.length cw, .slice ag s.M.G.length cg, .bool s.M.bad, .slice ac s.C.length cc, .slice al s.L.length cl] 83 := bS.ext hb10
          clear cA_0 cA_1 cA_2 cA_3 cA_4 cA_5 cA_6 cA_7 dA_0 dA_1 dA_2 dA_3 dA_4 dA_5 dA_6 dA_7 zA cS_0 cS_1 cS_2 cS_3 cS_4 dS_0 dS_1 dS_2 dS_3 dS_4 zS
          have s10 : w9.heap.size ≤ w10.heap.size := (by have h := hb10.size; first | omega | (simp at h; omega))
          obtain ⟨cA_0, cA_1, cA_2, cA_3, cA_4, cA_5, cA_6, cA_7, dA_0, dA_1, dA_2, dA_3, dA_4, dA_5, dA_6, dA_7⟩ := cells8 BA_10
          have zA : w.heap.size < w10.heap.size := BA_10.lt
          obtain ⟨cS_0, cS_1, cS_2, cS_3, cS_4, dS_0, dS_1, dS_2, dS_3, dS_4⟩ := cells5 BS_10
          have zS : w.heap.size + 1 < w10.heap.size := BS_10.lt
          go_wp2_with (fail)
          go_at_call 95
          refine (refPlace_ id k _ (by omega) (by omega)).calls.mono ?_
          rintro e w11 ⟨_, rfl, hb11, rfl⟩
          rw [KP.out]
          have BA_11 : Box w11 (w.heap.size) #[.slice aw s.M.W.length cw, .slice ag s.M.G.length cg, .bool s.M.bad, .slice ac s.C.length cc, .slice al s.L.length cl, .int .i64 id, .int .u8 y, .int .i64 op] 120 := BA_10.ext hb11
          have BS_11 : Box w11 (w.heap.size + 1) #[.slice aw s.M.W.length cw, .slice ag s.M.G.length cg, .bool s.M.bad, .slice ac s.C.length cc, .slice al s.L.length cl] 83 := BS_10.ext hb11
          clear cA_0 cA_1 cA_2 cA_3 cA_4 cA_5 cA_6 cA_7 dA_0 dA_1 dA_2 dA_3 dA_4 dA_5 dA_6 dA_7 zA cS_0 cS_1 cS_2 cS_3 cS_4 dS_0 dS_1 dS_2 dS_3 dS_4 zS
          have s11 : w10.heap.size ≤ w11.heap.size := (by have h := hb11.size; first | omega | (simp at h; omega))
          obtain ⟨cA_0, cA_1, cA_2, cA_3, cA_4, cA_5, cA_6, cA_7, dA_0, dA_1, dA_2, dA_3, dA_4, dA_5, dA_6, dA_7⟩ := cells8 BA_11
          have zA : w.heap.size < w11.heap.size := BA_11.lt
          obtain ⟨cS_0, cS_1, cS_2, cS_3, cS_4, dS_0, dS_1, dS_2, dS_3, dS_4⟩ := cells5 BS_11
          have zS : w.heap.size + 1 < w11.heap.size := BS_11.lt
          go_wp2_with (fail)
          go_at_call 96
          refine (own5_ op _).calls.mono ?_
          rintro e w12 ⟨_, rfl, hb12, rfl⟩
          rw [KO.out]
          have BA_12 : Box w12 (w.heap.size) #[.slice aw s.M.W.length cw, .slice ag s.M.G.length cg, .bool s.M.bad, .slice ac s.C.length cc, .slice al s.L.length cl, .int .i64 id, .int .u8 y, .int .i64 op] 120 := BA_11.ext hb12
          have BS_12 : Box w12 (w.heap.size + 1) #[.slice aw s.M.W.length cw, .slice ag s.M.G.length cg, .bool s.M.bad, .slice ac s.C.length cc, .slice al s.L.length cl] 83 := BS_11.ext hb12
          clear cA_0 cA_1 cA_2 cA_3 cA_4 cA_5 cA_6 cA_7 dA_0 dA_1 dA_2 dA_3 dA_4 dA_5 dA_6 dA_7 zA cS_0 cS_1 cS_2 cS_3 cS_4 dS_0 dS_1 dS_2 dS_3 dS_4 zS
          have s12 : w11.heap.size ≤ w12.heap.size := (by have h := hb12.size; first | omega | (simp at h; omega))
          obtain ⟨cA_0, cA_1, cA_2, cA_3, cA_4, cA_5, cA_6, cA_7, dA_0, dA_1, dA_2, dA_3, dA_4, dA_5, dA_6, dA_7⟩ := cells8 BA_12
          have zA : w.heap.size < w12.heap.size := BA_12.lt
          obtain ⟨cS_0, cS_1, cS_2, cS_3, cS_4, dS_0, dS_1, dS_2, dS_3, dS_4⟩ := cells5 BS_12
          have zS : w.heap.size + 1 < w12.heap.size := BS_12.lt
          go_wp2_with (fail)
          go_at_call 97
          refine (refOwn5_ op _).calls.mono ?_
          rintro e w13 ⟨_, rfl, hb13, rfl⟩
          rw [KO.out]
          have BA_13 : Box w13 (w.heap.size) #[.slice aw s.M.W.length cw, .slice ag s.M.G.length cg, .bool s.M.bad, .slice ac s.C.length cc, .slice al s.L.length cl, .int .i64 id, .int .u8 y, .int .i64 op] 120 := BA_12.ext hb13
          have BS_13 : Box w13 (w.heap.size + 1) #[.slice aw s.M.W.length cw, .slice ag s.M.G.length cg, .bool s.M.bad, .slice ac s.C.length cc, .slice al s.L.length cl] 83 := BS_12.ext hb13
          clear cA_0 cA_1 cA_2 cA_3 cA_4 cA_5 cA_6 cA_7 dA_0 dA_1 dA_2 dA_3 dA_4 dA_5 dA_6 dA_7 zA cS_0 cS_1 cS_2 cS_3 cS_4 dS_0 dS_1 dS_2 dS_3 dS_4 zS
          have s13 : w12.heap.size ≤ w13.heap.size := (by have h := hb13.size; first | omega | (simp at h; omega))
          obtain ⟨cA_0, cA_1, cA_2, cA_3, cA_4, cA_5, cA_6, cA_7, dA_0, dA_1, dA_2, dA_3, dA_4, dA_5, dA_6, dA_7⟩ := cells8 BA_13
          have zA : w.heap.size < w13.heap.size := BA_13.lt
          obtain ⟨cS_0, cS_1, cS_2, cS_3, cS_4, dS_0, dS_1, dS_2, dS_3, dS_4⟩ := cells5 BS_13
          have zS : w.heap.size + 1 < w13.heap.size := BS_13.lt
          go_wp2_with (fail)
          go_meet
          case rel => exact ⟨rfl, rfl, exq, BA_13, BS_13⟩
    case rest =>
      obtain ⟨rfl, rfl, Xc, bAc, bSc⟩ := hcut
      obtain ⟨w10, rfl⟩ : ∃ w10 : World, w10 = wc := ⟨_, rfl⟩
      clear bA bS X9
      obtain ⟨cA_0, cA_1, cA_2, cA_3, cA_4, cA_5, cA_6, cA_7, dA_0, dA_1, dA_2, dA_3, dA_4, dA_5, dA_6, dA_7⟩ := cells8 bAc
      have zA : w.heap.size < w10.heap.size := bAc.lt
      obtain ⟨cS_0, cS_1, cS_2, cS_3, cS_4, dS_0, dS_1, dS_2, dS_3, dS_4⟩ := cells5 bSc
      have zS : w.heap.size + 1 < w10.heap.size := bSc.lt
      go_wp2_with (fail)
      have hX11 : Ext w w10 := exn
      have hK11 : Keep no w10 w10 := Keep.refl _ _
      have DA_11 := bAc
      have DS_11 := bSc
      have aS : IsSys no w10 (.agg #[.slice aw s.M.W.length cw, .slice ag s.M.G.length cg, .bool s.M.bad, .slice ac s.C.length cc, .slice al s.L.length cl]) s := (IsSys.mk rfl hw hg hc hl : IsSys no w _ s).ext hX11
      have kn : ∀ w' : World, Ext w10 w' → Gives Proofs.Try.prog 99 #[.agg #[.slice aw s.M.W.length cw, .slice ag s.M.G.length cg, .bool s.M.bad, .slice ac s.C.length cc, .slice al s.L.length cl]] w' (isFl s.M.G.length vals) := fun w' e => by have hq := named_ _ s w' (aS.ext e) hG5 hL5 hC9; rw [KV.out] at hq; exact hq
      have kr : ∀ w' : World, Ext w10 w' → Gives Proofs.Try.prog 100 #[.agg #[.slice aw s.M.W.length cw, .slice ag s.M.G.length cg, .bool s.M.bad, .slice ac s.C.length cc, .slice al s.L.length cl]] w' (isFl s.M.G.length vals) := fun w' e => by have hq := refNamed_ _ s w' (aS.ext e) hG5 hL5 hC9; rw [KV.out] at hq; exact hq
      have kf : ∀ (u1 u2 : Value) (w' : World), isFl s.M.G.length vals u1 w' → isFl s.M.G.length vals u2 w' → Gives Proofs.Try.prog 98 #[u1, u2] w' (eqv (.bool true)) := fun u1 u2 w' h1 h2 => by obtain ⟨b1, rfl, h1⟩ := h1; obtain ⟨b2, rfl, h2⟩ := h2; exact flags_ _ b1 b2 vals w' hG5 h1 h2
      have ks : ∀ w' : World, Ext w10 w' → Gives Proofs.Try.prog 101 #[.agg #[.slice aw s.M.W.length cw, .slice ag s.M.G.length cg, .bool s.M.bad, .slice ac s.C.length cc, .slice al s.L.length cl], .int .i64 id] w' (fun r w' => IsSys no w' r T) := fun w' e => by have hq := step5_ no _ s id w' (aS.ext e) no_lt hC5 H5.out HM5.out.fit HR5.out; rw [KT.out] at hq; exact hq
      have kt : ∀ w' : World, Ext w10 w' → Gives Proofs.Try.prog 102 #[.agg #[.slice aw s.M.W.length cw, .slice ag s.M.G.length cg, .bool s.M.bad, .slice ac s.C.length cc, .slice al s.L.length cl], .int .i64 id] w' (fun r w' => IsSys no w' r T) := fun w' e => by have hq := refStep5_ no _ s id w' (aS.ext e) no_lt hC5 H5.out HM5.out.fit HR5.out; rw [KT.out] at hq; exact hq
      have kq : ∀ (u1 u2 : Value) (w' : World), IsSys no w' u1 T → IsSys no w' u2 T → Gives Proofs.Try.prog 78 #[u1, u2] w' (eqv (.bool true)) := fun u1 u2 w' h1 h2 => by have hq := refSys_ no _ _ T T w' h1 h2; rwa [sameS_refl] at hq
      clear cA_0 cA_1 cA_2 cA_3 cA_4 cA_5 cA_6 cA_7 dA_0 dA_1 dA_2 dA_3 dA_4 dA_5 dA_6 dA_7 zA cS_0 cS_1 cS_2 cS_3 cS_4 dS_0 dS_1 dS_2 dS_3 dS_4 zS
      apply region_lit2 (T := []) (L := []) (X := []) (G := [eqv _, eqv _, eqv _, isFl s.M.G.length vals, eqv _, isFl s.M.G.length vals, eqv (.bool true), eqv (.bool true), eqv _, eqv _, eqv _, isSysN no T, eqv _, eqv _, isSysN no T, eqv (.bool true), eqv (.bool true), eqv _])
      case hm => kernel_rfl
      case hop =>
        refine ⟨?_, ?_, ?_, ?_, ?_, ?_, ?_, ?_, ?_, ?_, ?_, ?_, ?_, ?_, ?_, ?_, ?_, ?_, trivial⟩
        · intro a wa hs hf hd
          have t7 := hf.off 7 (by kernel_rfl) rfl
          exact plain_ rfl (yes_eqv (o_move rfl t7) rfl)
        · intro a wa hs hf hd
          have t47 : a.eval (.tmp 47) = _ := hd.at 0 47 (by kernel_rfl)
          exact plain_ rfl (yes_eqv (o_move rfl t47) rfl)
        · intro a wa hs hf hd
          have t48 : a.eval (.tmp 48) = _ := hd.at 1 48 (by kernel_rfl)
          have t3 := hf.off 3 (by kernel_rfl) rfl
          exact guard_on rfl rfl t48 (yes_eqv (o_load5 rfl Proofs.Try.underlying83 rfl (by kernel_rfl) t3 ((DS_11.since hs rfl).cell rfl) ((DS_11.since hs rfl).cell rfl) ((DS_11.since hs rfl).cell rfl) ((DS_11.since hs rfl).cell rfl) ((DS_11.since hs rfl).cell rfl)) rfl)
        · intro a wa hs hf hd
          have t48 : a.eval (.tmp 48) = _ := hd.at 1 48 (by kernel_rfl)
          have t49 : a.eval (.tmp 49) = _ := hd.at 2 49 (by kernel_rfl)
          exact guard_on rfl rfl t48 (yes_gives (kn _ (Since.to_ext hs)) rfl rfl Proofs.Try.func99 (by kernel_rfl) (by kernel_rfl) (by simp only [List.map_toArray, List.map_cons, List.map_nil, t49]) rfl)
        · intro a wa hs hf hd
          have t48 : a.eval (.tmp 48) = _ := hd.at 1 48 (by kernel_rfl)
          have t3 := hf.off 3 (by kernel_rfl) rfl
          exact guard_on rfl rfl t48 (yes_eqv (o_load5 rfl Proofs.Try.underlying83 rfl (by kernel_rfl) t3 ((DS_11.since hs rfl).cell rfl) ((DS_11.since hs rfl).cell rfl) ((DS_11.since hs rfl).cell rfl) ((DS_11.since hs rfl).cell rfl) ((DS_11.since hs rfl).cell rfl)) rfl)
        · intro a wa hs hf hd
          have t48 : a.eval (.tmp 48) = _ := hd.at 1 48 (by kernel_rfl)
          have t51 : a.eval (.tmp 51) = _ := hd.at 4 51 (by kernel_rfl)
          exact guard_on rfl rfl t48 (yes_gives (kr _ (Since.to_ext hs)) rfl rfl Proofs.Try.func100 (by kernel_rfl) (by kernel_rfl) (by simp only [List.map_toArray, List.map_cons, List.map_nil, t51]) rfl)
        · intro a wa hs hf hd
          have t48 : a.eval (.tmp 48) = _ := hd.at 1 48 (by kernel_rfl)
          have t50 := hd.at 3 50 (by kernel_rfl)
          have t52 := hd.at 5 52 (by kernel_rfl)
          exact guard_on rfl rfl t48 (yes_gives (kf _ _ _ t50 t52) rfl rfl Proofs.Try.func98 (by kernel_rfl) (by kernel_rfl) (by simp only [List.map_toArray, List.map_cons, List.map_nil, t50, t52]) rfl)
        · intro a wa hs hf hd
          have t48 : a.eval (.tmp 48) = _ := hd.at 1 48 (by kernel_rfl)
          have t53 : a.eval (.tmp 53) = _ := hd.at 6 53 (by kernel_rfl)
          exact plain_ rfl (yes_eqv (o_pick_t rfl t48 t53) rfl)
        · intro a wa hs hf hd
          have t54 : a.eval (.tmp 54) = _ := hd.at 7 54 (by kernel_rfl)
          exact plain_ rfl (yes_eqv (o_move rfl t54) rfl)
        · intro a wa hs hf hd
          have t55 : a.eval (.tmp 55) = _ := hd.at 8 55 (by kernel_rfl)
          have t3 := hf.off 3 (by kernel_rfl) rfl
          exact guard_on rfl rfl t55 (yes_eqv (o_load5 rfl Proofs.Try.underlying83 rfl (by kernel_rfl) t3 ((DS_11.since hs rfl).cell rfl) ((DS_11.since hs rfl).cell rfl) ((DS_11.since hs rfl).cell rfl) ((DS_11.since hs rfl).cell rfl) ((DS_11.since hs rfl).cell rfl)) rfl)
        · intro a wa hs hf hd
          have t55 : a.eval (.tmp 55) = _ := hd.at 8 55 (by kernel_rfl)
          have t4 := hf.off 4 (by kernel_rfl) rfl
          exact guard_on rfl rfl t55 (yes_eqv (o_move rfl t4) rfl)
        · intro a wa hs hf hd
          have t55 : a.eval (.tmp 55) = _ := hd.at 8 55 (by kernel_rfl)
          have t56 : a.eval (.tmp 56) = _ := hd.at 9 56 (by kernel_rfl)
          have t57 : a.eval (.tmp 57) = _ := hd.at 10 57 (by kernel_rfl)
          exact guard_on rfl rfl t55 (yes_gives (ks _ (Since.to_ext hs)) rfl rfl Proofs.Try.func101 (by kernel_rfl) (by kernel_rfl) (by simp only [List.map_toArray, List.map_cons, List.map_nil, t56, t57]) rfl)
        · intro a wa hs hf hd
          have t55 : a.eval (.tmp 55) = _ := hd.at 8 55 (by kernel_rfl)
          have t3 := hf.off 3 (by kernel_rfl) rfl
          exact guard_on rfl rfl t55 (yes_eqv (o_load5 rfl Proofs.Try.underlying83 rfl (by kernel_rfl) t3 ((DS_11.since hs rfl).cell rfl) ((DS_11.since hs rfl).cell rfl) ((DS_11.since hs rfl).cell rfl) ((DS_11.since hs rfl).cell rfl) ((DS_11.since hs rfl).cell rfl)) rfl)
        · intro a wa hs hf hd
          have t55 : a.eval (.tmp 55) = _ := hd.at 8 55 (by kernel_rfl)
          have t4 := hf.off 4 (by kernel_rfl) rfl
          exact guard_on rfl rfl t55 (yes_eqv (o_move rfl t4) rfl)
        · intro a wa hs hf hd
          have t55 : a.eval (.tmp 55) = _ := hd.at 8 55 (by kernel_rfl)
          have t59 : a.eval (.tmp 59) = _ := hd.at 12 59 (by kernel_rfl)
          have t60 : a.eval (.tmp 60) = _ := hd.at 13 60 (by kernel_rfl)
          exact guard_on rfl rfl t55 (yes_gives (kt _ (Since.to_ext hs)) rfl rfl Proofs.Try.func102 (by kernel_rfl) (by kernel_rfl) (by simp only [List.map_toArray, List.map_cons, List.map_nil, t59, t60]) rfl)
        · intro a wa hs hf hd
          have t55 : a.eval (.tmp 55) = _ := hd.at 8 55 (by kernel_rfl)
          have t58 := hd.at 11 58 (by kernel_rfl)
          have t61 := hd.at 14 61 (by kernel_rfl)
          exact guard_on rfl rfl t55 (yes_gives (kq _ _ _ t58 t61) rfl rfl Proofs.Try.func78 (by kernel_rfl) (by kernel_rfl) (by simp only [List.map_toArray, List.map_cons, List.map_nil, t58, t61]) rfl)
        · intro a wa hs hf hd
          have t55 : a.eval (.tmp 55) = _ := hd.at 8 55 (by kernel_rfl)
          have t62 : a.eval (.tmp 62) = _ := hd.at 15 62 (by kernel_rfl)
          exact plain_ rfl (yes_eqv (o_pick_t rfl t55 t62) rfl)
        · intro a wa hs hf hd
          have t63 : a.eval (.tmp 63) = _ := hd.at 16 63 (by kernel_rfl)
          exact plain_ rfl (yes_eqv (o_assign rfl t63) rfl)
      case hG => exact ⟨stable_eqv _, stable_eqv _, stable_eqv _, stable_isFl _ _, stable_eqv _, stable_isFl _ _, stable_eqv _, stable_eqv _, stable_eqv _, stable_eqv _, stable_eqv _, stable_isSysN _ _, stable_eqv _, stable_eqv _, stable_isSysN _ _, stable_eqv _, stable_eqv _, stable_eqv _, trivial⟩
      case hc => kernel_rfl
      case hfin =>
        intro v11 hs11
        rintro _ rfl _ rfl _ rfl j3 hj3 _ rfl j5 hj5 _ rfl _ rfl _ rfl _ rfl _ rfl j11 hj11 _ rfl _ rfl j14 hj14 _ rfl _ rfl _ rfl
        intro x hx
        rw [hx]
        clear hx x
        simp only [Act.put, List.setIfInBounds_toArray, List.set_cons_zero, List.set_cons_succ]
        obtain ⟨w11, hw11⟩ : ∃ x, x = v11 := ⟨_, rfl⟩
        have hb11 : Ext w w11 := by rw [hw11]; exact hX11.trans (Since.to_ext hs11)
        have hk11 : Keep no w10 w11 := by rw [hw11]; exact hK11.ext (Since.to_ext hs11)
        have hQ11 : Ext w10 w11 := by rw [hw11]; exact Since.to_ext hs11
        have BA_11 : Box w11 (w.heap.size) #[.slice aw s.M.W.length cw, .slice ag s.M.G.length cg, .bool s.M.bad, .slice ac s.C.length cc, .slice al s.L.length cl, .int .i64 id, .int .u8 y, .int .i64 op] 120 := by rw [hw11]; exact (DA_11.since hs11 rfl)
        have BS_11 : Box w11 (w.heap.size + 1) #[.slice aw s.M.W.length cw, .slice ag s.M.G.length cg, .bool s.M.bad, .slice ac s.C.length cc, .slice al s.L.length cl] 83 := by rw [hw11]; exact (DS_11.since hs11 rfl)
        have s11 : w10.heap.size ≤ w11.heap.size := by rw [hw11]; exact (Since.to_ext hs11).size
        rw [← hw11]
        clear hw11
        obtain ⟨cA_0, cA_1, cA_2, cA_3, cA_4, cA_5, cA_6, cA_7, dA_0, dA_1, dA_2, dA_3, dA_4, dA_5, dA_6, dA_7⟩ := cells8 BA_11
        have zA : w.heap.size < w11.heap.size := BA_11.lt
        obtain ⟨cS_0, cS_1, cS_2, cS_3, cS_4, dS_0, dS_1, dS_2, dS_3, dS_4⟩ := cells5 BS_11
        have zS : w.heap.size + 1 < w11.heap.size := BS_11.lt
        go_wp2
        go_ret
        exact ⟨_, rfl, exn, rfl⟩
end Go.Proofs.Ytcfbdfgondmkoaa
