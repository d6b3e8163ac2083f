/- CoreDoes: its walk. -/
import Derived.Test.YtcfbdfgondmkoaaM8
namespace Go.Proofs.Ytcfbdfgondmkoaa
open Go Go.RowKit
set_option linter.unusedSimpArgs false
set_option linter.unusedVariables false
set_option linter.unnecessarySimpa false

theorem cells19 {w : World} {b : Nat} {c0 c1 c2 c3 c4 c5 c6 c7 c8 c9 c10 c11 c12 c13 c14 c15 c16 c17 c18 : Value} {t : TypeId} (h : Box w b #[c0, c1, c2, c3, c4, c5, c6, c7, c8, c9, c10, c11, c12, c13, c14, c15, c16, c17, c18] t) :
    w.cell? ⟨b, 0, none⟩ = some c0 ∧ w.cell? ⟨b, 1, none⟩ = some c1 ∧ w.cell? ⟨b, 2, none⟩ = some c2 ∧ w.cell? ⟨b, 3, none⟩ = some c3 ∧ w.cell? ⟨b, 4, none⟩ = some c4 ∧ w.cell? ⟨b, 5, none⟩ = some c5 ∧ w.cell? ⟨b, 6, none⟩ = some c6 ∧ w.cell? ⟨b, 7, none⟩ = some c7 ∧ w.cell? ⟨b, 8, none⟩ = some c8 ∧ w.cell? ⟨b, 9, none⟩ = some c9 ∧ w.cell? ⟨b, 10, none⟩ = some c10 ∧ w.cell? ⟨b, 11, none⟩ = some c11 ∧ w.cell? ⟨b, 12, none⟩ = some c12 ∧ w.cell? ⟨b, 13, none⟩ = some c13 ∧ w.cell? ⟨b, 14, none⟩ = some c14 ∧ w.cell? ⟨b, 15, none⟩ = some c15 ∧ w.cell? ⟨b, 16, none⟩ = some c16 ∧ w.cell? ⟨b, 17, none⟩ = some c17 ∧ w.cell? ⟨b, 18, none⟩ = some c18 ∧ w.frozen? ⟨b, 0, none⟩ = false ∧ w.frozen? ⟨b, 1, none⟩ = false ∧ w.frozen? ⟨b, 2, none⟩ = false ∧ w.frozen? ⟨b, 3, none⟩ = false ∧ w.frozen? ⟨b, 4, none⟩ = false ∧ w.frozen? ⟨b, 5, none⟩ = false ∧ w.frozen? ⟨b, 6, none⟩ = false ∧ w.frozen? ⟨b, 7, none⟩ = false ∧ w.frozen? ⟨b, 8, none⟩ = false ∧ w.frozen? ⟨b, 9, none⟩ = false ∧ w.frozen? ⟨b, 10, none⟩ = false ∧ w.frozen? ⟨b, 11, none⟩ = false ∧ w.frozen? ⟨b, 12, none⟩ = false ∧ w.frozen? ⟨b, 13, none⟩ = false ∧ w.frozen? ⟨b, 14, none⟩ = false ∧ w.frozen? ⟨b, 15, none⟩ = false ∧ w.frozen? ⟨b, 16, none⟩ = false ∧ w.frozen? ⟨b, 17, none⟩ = false ∧ w.frozen? ⟨b, 18, none⟩ = false :=
  ⟨h.cell rfl, h.cell rfl, h.cell rfl, h.cell rfl, h.cell rfl, h.cell rfl, h.cell rfl, h.cell rfl, h.cell rfl, h.cell rfl, h.cell rfl, h.cell rfl, h.cell rfl, h.cell rfl, h.cell rfl, h.cell rfl, h.cell rfl, h.cell rfl, h.cell rfl, h.frozen, h.frozen, h.frozen, h.frozen, h.frozen, h.frozen, h.frozen, h.frozen, h.frozen, h.frozen, h.frozen, h.frozen, h.frozen, h.frozen, h.frozen, h.frozen, h.frozen, h.frozen, h.frozen⟩
theorem ints_box3 {w : World} {b : Nat} {t : TypeId} {x y z : Int} (h : Box w b #[.int .i64 x, .int .i64 y, .int .i64 z] t) : IsInts no w (.slice (some ⟨b, 0, none⟩) 3 3) [x, y, z] := by
  refine ⟨_, _, rfl, Nat.le_refl _, by decide, fun e => by simp at e, fun i hi => ⟨b, 0, rfl, h.lt, id, ?_⟩⟩
  rw [Nat.zero_add]
  have hi : i < 3 := hi
  obtain rfl | rfl | rfl : i = 0 ∨ i = 1 ∨ i = 2 := by omega
  · exact h.cell rfl
  · exact h.cell rfl
  · exact h.cell rfl
theorem sameF_refl (f : FrameD) : sameF f f = true := by simp [sameF, eq8]
theorem sameC_refl (c : CoreD) : sameC c c = true := by simp [sameC, eq3, all2_refl sameF_refl]
theorem sameE_refl (e : EvD) : sameE e e = true := by simp [sameE]
theorem sameS_refl (s : SysD) : sameS s s = true := by simp [sameS, sameD_refl, all2_refl sameC_refl, all2_refl sameE_refl]
theorem may_small {s : SysD} {n : Nat} (h : mayS s n = true) : s.C.length ≤ 9 ∧ s.L.length ≤ 200 ∧ 1 ≤ s.C.length ∧ ∀ (i : Nat) c, s.C[i]? = some c → c.F.length ≤ 40 := by
  simp only [mayS, smallS, rightS, Bool.and_eq_true, decide_eq_true_eq, Bool.not_eq_true'] at h
  obtain ⟨⟨_, h1, h2, _⟩, _, h3, _, h4⟩ := h
  refine ⟨h1, h2, h3, fun i c hi => ?_⟩
  rw [List.any_eq_false] at h4
  have := h4 c (List.mem_of_getElem? hi)
  simp [oddC] at this
  omega
set_option maxHeartbeats 8000000 in
set_option maxRecDepth 100000 in
theorem coreDoes_ (x0 x1 x2 x3 x4 : Value) (s : SysD) (id : Int) (f0 f1 f2 f3 f4 f5 f6 f7 f8 f9 f10 : Value) (g : FrameD) (v z : Int) (w : World) (h : IsSys no w (.agg #[x0, x1, x2, x3, x4]) s) (hf : IsFrame no w (.agg #[f0, f1, f2, f3, f4, f5, f6, f7, f8, f9, f10]) g) (lo : 0 ≤ z) (hi : z ≤ 255) :
    Gives Proofs.Try.prog 20 #[.agg #[x0, x1, x2, x3, x4, .int .i64 id, f0, f1, f2, f3, f4, f5, f6, f7, f8, f9, f10, .int .i64 v, .int .u8 z]] w (eqv (.bool true)) := by
  obtain ⟨aw, cw, ag, cg, ac, cc, al, cl, e, hw, hg, hc, hl⟩ := h.opened
  obtain ⟨rfl, rfl, rfl, rfl, rfl⟩ : x0 = .slice aw s.M.W.length cw ∧ x1 = .slice ag s.M.G.length cg ∧ x2 = .bool s.M.bad ∧ x3 = .slice ac s.C.length cc ∧ x4 = .slice al s.L.length cl := by simpa using e
  clear e
  have hfr := hf
  obtain ⟨fa, fc, e, hf8, fs⟩ := hf.opened
  obtain ⟨rfl, rfl, rfl, rfl, rfl, rfl, rfl, rfl, rfl, rfl, rfl⟩ : f0 = .int .i64 g.op ∧ f1 = .int .i64 g.pc ∧ f2 = .int .i64 (gi g.R 0) ∧ f3 = .int .i64 (gi g.R 1) ∧ f4 = .int .i64 (gi g.R 2) ∧ f5 = .int .i64 (gi g.R 3) ∧ f6 = .int .i64 (gi g.R 4) ∧ f7 = .int .i64 (gi g.R 5) ∧ f8 = .int .i64 (gi g.R 6) ∧ f9 = .int .i64 (gi g.R 7) ∧ f10 = .slice fa g.S.length fc := by simpa using e
  clear e hf
  have km := fun (w' : World) (e : Ext w w') => refMay_ no _ s 60 (by omega) w' ((IsSys.mk rfl hw hg hc hl : IsSys no w _ s).ext e)
  cases hm : mayS s 60
  · rw [hm] at km
    clear hm
    go_enter Proofs.Try.func20, Proofs.Try.ntmps20
    go_wp2_with (fail)
    go_at_call 73
    refine (shown3_ _).calls.mono ?_
    rintro e w1 ⟨_, rfl, hb1, rfl⟩
    have B0_1 : Box w1 (w.heap.size) #[.slice aw s.M.W.length cw, .slice ag s.M.G.length cg, .bool s.M.bad, .slice ac s.C.length cc, .slice al s.L.length cl, .int .i64 id, .int .i64 g.op, .int .i64 g.pc, .int .i64 (gi g.R 0), .int .i64 (gi g.R 1), .int .i64 (gi g.R 2), .int .i64 (gi g.R 3), .int .i64 (gi g.R 4), .int .i64 (gi g.R 5), .int .i64 (gi g.R 6), .int .i64 (gi g.R 7), .slice fa g.S.length fc, .int .i64 v, .int .u8 z] 100 := (((Box.newAt _ _ _ (by first | rfl | simp)).alloc _).alloc _).ext hb1
    have B1_1 : Box w1 (w.heap.size + 1) #[.slice aw s.M.W.length cw, .slice ag s.M.G.length cg, .bool s.M.bad, .slice ac s.C.length cc, .slice al s.L.length cl] 83 := ((Box.newAt _ _ _ (by first | rfl | simp)).alloc _).ext hb1
    have B2_1 : Box w1 (w.heap.size + 1 + 1) #[.int .i64 g.op, .int .i64 g.pc, .int .i64 (gi g.R 0), .int .i64 (gi g.R 1), .int .i64 (gi g.R 2), .int .i64 (gi g.R 3), .int .i64 (gi g.R 4), .int .i64 (gi g.R 5), .int .i64 (gi g.R 6), .int .i64 (gi g.R 7), .slice fa g.S.length fc] 95 := (Box.newAt _ _ _ (by first | rfl | simp)).ext hb1
    have s1 : w.heap.size + 3 ≤ w1.heap.size := (by have h := hb1.size; first | omega | (simp at h; omega))
    obtain ⟨c0_0, c0_1, c0_2, c0_3, c0_4, c0_5, c0_6, c0_7, c0_8, c0_9, c0_10, c0_11, c0_12, c0_13, c0_14, c0_15, c0_16, c0_17, c0_18, d0_0, d0_1, d0_2, d0_3, d0_4, d0_5, d0_6, d0_7, d0_8, d0_9, d0_10, d0_11, d0_12, d0_13, d0_14, d0_15, d0_16, d0_17, d0_18⟩ := cells19 B0_1
    have z0 : w.heap.size < w1.heap.size := B0_1.lt
    obtain ⟨c1_0, c1_1, c1_2, c1_3, c1_4, d1_0, d1_1, d1_2, d1_3, d1_4⟩ := cells5 B1_1
    have z1 : w.heap.size + 1 < w1.heap.size := B1_1.lt
    obtain ⟨⟨c2_0, c2_1, c2_2, c2_3, c2_4, c2_5, c2_6, c2_7, c2_8, c2_9, c2_10⟩, d2_0, d2_1, d2_2, d2_3, d2_4, d2_5, d2_6, d2_7, d2_8, d2_9, d2_10⟩ := cells11 B2_1
    have z2 : w.heap.size + 1 + 1 < w1.heap.size := B2_1.lt
    go_wp2_with (fail)
    go_at_call 83
    refine (km _ exq).calls.mono ?_
    rintro e w2 ⟨_, rfl, hb2, rfl⟩
    have B0_2 : Box w2 (w.heap.size) #[.slice aw s.M.W.length cw, .slice ag s.M.G.length cg, .bool s.M.bad, .slice ac s.C.length cc, .slice al s.L.length cl, .int .i64 id, .int .i64 g.op, .int .i64 g.pc, .int .i64 (gi g.R 0), .int .i64 (gi g.R 1), .int .i64 (gi g.R 2), .int .i64 (gi g.R 3), .int .i64 (gi g.R 4), .int .i64 (gi g.R 5), .int .i64 (gi g.R 6), .int .i64 (gi g.R 7), .slice fa g.S.length fc, .int .i64 v, .int .u8 z] 100 := B0_1.ext hb2
    have B1_2 : Box w2 (w.heap.size + 1) #[.slice aw s.M.W.length cw, .slice ag s.M.G.length cg, .bool s.M.bad, .slice ac s.C.length cc, .slice al s.L.length cl] 83 := B1_1.ext hb2
    have B2_2 : Box w2 (w.heap.size + 1 + 1) #[.int .i64 g.op, .int .i64 g.pc, .int .i64 (gi g.R 0), .int .i64 (gi g.R 1), .int .i64 (gi g.R 2), .int .i64 (gi g.R 3), .int .i64 (gi g.R 4), .int .i64 (gi g.R 5), .int .i64 (gi g.R 6), .int .i64 (gi g.R 7), .slice fa g.S.length fc] 95 := B2_1.ext hb2
    clear c0_0 c0_1 c0_2 c0_3 c0_4 c0_5 c0_6 c0_7 c0_8 c0_9 c0_10 c0_11 c0_12 c0_13 c0_14 c0_15 c0_16 c0_17 c0_18 d0_0 d0_1 d0_2 d0_3 d0_4 d0_5 d0_6 d0_7 d0_8 d0_9 d0_10 d0_11 d0_12 d0_13 d0_14 d0_15 d0_16 d0_17 d0_18 z0 c1_0 c1_1 c1_2 c1_3 c1_4 d1_0 d1_1 d1_2 d1_3 d1_4 z1 c2_0 c2_1 c2_2 c2_3 c2_4 c2_5 c2_6 c2_7 c2_8 c2_9 c2_10 d2_0 d2_1 d2_2 d2_3 d2_4 d2_5 d2_6 d2_7 d2_8 d2_9 d2_10 z2
    have s2 : w1.heap.size ≤ w2.heap.size := (by have h := hb2.size; first | omega | (simp at h; omega))
    obtain ⟨c0_0, c0_1, c0_2, c0_3, c0_4, c0_5, c0_6, c0_7, c0_8, c0_9, c0_10, c0_11, c0_12, c0_13, c0_14, c0_15, c0_16, c0_17, c0_18, d0_0, d0_1, d0_2, d0_3, d0_4, d0_5, d0_6, d0_7, d0_8, d0_9, d0_10, d0_11, d0_12, d0_13, d0_14, d0_15, d0_16, d0_17, d0_18⟩ := cells19 B0_2
    have z0 : w.heap.size < w2.heap.size := B0_2.lt
    obtain ⟨c1_0, c1_1, c1_2, c1_3, c1_4, d1_0, d1_1, d1_2, d1_3, d1_4⟩ := cells5 B1_2
    have z1 : w.heap.size + 1 < w2.heap.size := B1_2.lt
    obtain ⟨⟨c2_0, c2_1, c2_2, c2_3, c2_4, c2_5, c2_6, c2_7, c2_8, c2_9, c2_10⟩, d2_0, d2_1, d2_2, d2_3, d2_4, d2_5, d2_6, d2_7, d2_8, d2_9, d2_10⟩ := cells11 B2_2
    have z2 : w.heap.size + 1 + 1 < w2.heap.size := B2_2.lt
    go_wp2
    go_ret
    exact ⟨_, rfl, exn, rfl⟩
  · rw [hm] at km
    obtain ⟨hC, hL, hC1, hF⟩ := may_small hm
    clear hm
    by_cases h24 : g.S.length ≤ 24
    · have q0 : ¬ (24 : Int) < (g.S.length : Int) := by omega
      have hC5 : s.C.length ≤ 100000 := by omega
      have hF5 : ∀ (i : Nat) c, s.C[i]? = some c → c.F.length ≤ 100000 := fun i c hi => by have := hF i c hi; omega
      have hL5 : s.L.length ≤ 99999 := by omega
      obtain ⟨DA, hDA⟩ : ∃ D, callS s id g.op [gi g.R 0, gi g.R 1, gi g.R 2] = D := ⟨_, rfl⟩
      obtain ⟨DB, hDB⟩ : ∃ D, setS s id g = D := ⟨_, rfl⟩
      obtain ⟨DC, hDC⟩ : ∃ D, backS s id v z = D := ⟨_, rfl⟩
      obtain ⟨DD, hDD⟩ : ∃ D, logD s id g.op (gi g.R 0) (gi g.R 1) v = D := ⟨_, rfl⟩
      have KA := Lib.hid hDA; have KB := Lib.hid hDB; have KC := Lib.hid hDC; have KD := Lib.hid hDD
      clear hDA hDB hDC hDD hC hL hC1 hF
      go_enter Proofs.Try.func20, Proofs.Try.ntmps20
      go_wp2_with (fail)
      go_at_call 73
      refine (shown3_ _).calls.mono ?_
      rintro e w1 ⟨_, rfl, hb1, rfl⟩
      have B0_1 : Box w1 (w.heap.size) #[.slice aw s.M.W.length cw, .slice ag s.M.G.length cg, .bool s.M.bad, .slice ac s.C.length cc, .slice al s.L.length cl, .int .i64 id, .int .i64 g.op, .int .i64 g.pc, .int .i64 (gi g.R 0), .int .i64 (gi g.R 1), .int .i64 (gi g.R 2), .int .i64 (gi g.R 3), .int .i64 (gi g.R 4), .int .i64 (gi g.R 5), .int .i64 (gi g.R 6), .int .i64 (gi g.R 7), .slice fa g.S.length fc, .int .i64 v, .int .u8 z] 100 := (((Box.newAt _ _ _ (by first | rfl | simp)).alloc _).alloc _).ext hb1
      have B1_1 : Box w1 (w.heap.size + 1) #[.slice aw s.M.W.length cw, .slice ag s.M.G.length cg, .bool s.M.bad, .slice ac s.C.length cc, .slice al s.L.length cl] 83 := ((Box.newAt _ _ _ (by first | rfl | simp)).alloc _).ext hb1
      have B2_1 : Box w1 (w.heap.size + 1 + 1) #[.int .i64 g.op, .int .i64 g.pc, .int .i64 (gi g.R 0), .int .i64 (gi g.R 1), .int .i64 (gi g.R 2), .int .i64 (gi g.R 3), .int .i64 (gi g.R 4), .int .i64 (gi g.R 5), .int .i64 (gi g.R 6), .int .i64 (gi g.R 7), .slice fa g.S.length fc] 95 := (Box.newAt _ _ _ (by first | rfl | simp)).ext hb1
      have s1 : w.heap.size + 3 ≤ w1.heap.size := (by have h := hb1.size; first | omega | (simp at h; omega))
      obtain ⟨c0_0, c0_1, c0_2, c0_3, c0_4, c0_5, c0_6, c0_7, c0_8, c0_9, c0_10, c0_11, c0_12, c0_13, c0_14, c0_15, c0_16, c0_17, c0_18, d0_0, d0_1, d0_2, d0_3, d0_4, d0_5, d0_6, d0_7, d0_8, d0_9, d0_10, d0_11, d0_12, d0_13, d0_14, d0_15, d0_16, d0_17, d0_18⟩ := cells19 B0_1
      have z0 : w.heap.size < w1.heap.size := B0_1.lt
      obtain ⟨c1_0, c1_1, c1_2, c1_3, c1_4, d1_0, d1_1, d1_2, d1_3, d1_4⟩ := cells5 B1_1
      have z1 : w.heap.size + 1 < w1.heap.size := B1_1.lt
      obtain ⟨⟨c2_0, c2_1, c2_2, c2_3, c2_4, c2_5, c2_6, c2_7, c2_8, c2_9, c2_10⟩, d2_0, d2_1, d2_2, d2_3, d2_4, d2_5, d2_6, d2_7, d2_8, d2_9, d2_10⟩ := cells11 B2_1
      have z2 : w.heap.size + 1 + 1 < w1.heap.size := B2_1.lt
      go_wp2_with (fail)
      go_at_call 83
      refine (km _ exq).calls.mono ?_
      rintro e w2 ⟨_, rfl, hb2, rfl⟩
      have B0_2 : Box w2 (w.heap.size) #[.slice aw s.M.W.length cw, .slice ag s.M.G.length cg, .bool s.M.bad, .slice ac s.C.length cc, .slice al s.L.length cl, .int .i64 id, .int .i64 g.op, .int .i64 g.pc, .int .i64 (gi g.R 0), .int .i64 (gi g.R 1), .int .i64 (gi g.R 2), .int .i64 (gi g.R 3), .int .i64 (gi g.R 4), .int .i64 (gi g.R 5), .int .i64 (gi g.R 6), .int .i64 (gi g.R 7), .slice fa g.S.length fc, .int .i64 v, .int .u8 z] 100 := B0_1.ext hb2
      have B1_2 : Box w2 (w.heap.size + 1) #[.slice aw s.M.W.length cw, .slice ag s.M.G.length cg, .bool s.M.bad, .slice ac s.C.length cc, .slice al s.L.length cl] 83 := B1_1.ext hb2
      have B2_2 : Box w2 (w.heap.size + 1 + 1) #[.int .i64 g.op, .int .i64 g.pc, .int .i64 (gi g.R 0), .int .i64 (gi g.R 1), .int .i64 (gi g.R 2), .int .i64 (gi g.R 3), .int .i64 (gi g.R 4), .int .i64 (gi g.R 5), .int .i64 (gi g.R 6), .int .i64 (gi g.R 7), .slice fa g.S.length fc] 95 := B2_1.ext hb2
      clear c0_0 c0_1 c0_2 c0_3 c0_4 c0_5 c0_6 c0_7 c0_8 c0_9 c0_10 c0_11 c0_12 c0_13 c0_14 c0_15 c0_16 c0_17 c0_18 d0_0 d0_1 d0_2 d0_3 d0_4 d0_5 d0_6 d0_7 d0_8 d0_9 d0_10 d0_11 d0_12 d0_13 d0_14 d0_15 d0_16 d0_17 d0_18 z0 c1_0 c1_1 c1_2 c1_3 c1_4 d1_0 d1_1 d1_2 d1_3 d1_4 z1 c2_0 c2_1 c2_2 c2_3 c2_4 c2_5 c2_6 c2_7 c2_8 c2_9 c2_10 d2_0 d2_1 d2_2 d2_3 d2_4 d2_5 d2_6 d2_7 d2_8 d2_9 d2_10 z2
      have s2 : w1.heap.size ≤ w2.heap.size := (by have h := hb2.size; first | omega | (simp at h; omega))
      obtain ⟨c0_0, c0_1, c0_2, c0_3, c0_4, c0_5, c0_6, c0_7, c0_8, c0_9, c0_10, c0_11, c0_12, c0_13, c0_14, c0_15, c0_16, c0_17, c0_18, d0_0, d0_1, d0_2, d0_3, d0_4, d0_5, d0_6, d0_7, d0_8, d0_9, d0_10, d0_11, d0_12, d0_13, d0_14, d0_15, d0_16, d0_17, d0_18⟩ := cells19 B0_2
      have z0 : w.heap.size < w2.heap.size := B0_2.lt
      obtain ⟨c1_0, c1_1, c1_2, c1_3, c1_4, d1_0, d1_1, d1_2, d1_3, d1_4⟩ := cells5 B1_2
      have z1 : w.heap.size + 1 < w2.heap.size := B1_2.lt
      obtain ⟨⟨c2_0, c2_1, c2_2, c2_3, c2_4, c2_5, c2_6, c2_7, c2_8, c2_9, c2_10⟩, d2_0, d2_1, d2_2, d2_3, d2_4, d2_5, d2_6, d2_7, d2_8, d2_9, d2_10⟩ := cells11 B2_2
      have z2 : w.heap.size + 1 + 1 < w2.heap.size := B2_2.lt
      go_wp2_with (fail)
      go_at_call 84
      refine (call_ no _ _ s id g.op [gi g.R 0, gi g.R 1, gi g.R 2] _ ((IsSys.mk rfl hw hg hc hl : IsSys no w _ s).ext exq) (ints_box3 (Box.newAt _ _ _ (by first | rfl | simp))) no_lt hC5 (Nat.le_refl 3)).calls.mono ?_
      rintro e w3 ⟨_, rfl, hb3, ht3⟩
      rw [KA.out] at ht3
      obtain ⟨a1, a2, a3, a4, a5, a6, a7, a8, rfl, _⟩ := ht3.opened
      have B0_3 : Box w3 (w.heap.size) #[.slice aw s.M.W.length cw, .slice ag s.M.G.length cg, .bool s.M.bad, .slice ac s.C.length cc, .slice al s.L.length cl, .int .i64 id, .int .i64 g.op, .int .i64 g.pc, .int .i64 (gi g.R 0), .int .i64 (gi g.R 1), .int .i64 (gi g.R 2), .int .i64 (gi g.R 3), .int .i64 (gi g.R 4), .int .i64 (gi g.R 5), .int .i64 (gi g.R 6), .int .i64 (gi g.R 7), .slice fa g.S.length fc, .int .i64 v, .int .u8 z] 100 := (B0_2.alloc _).ext hb3
      have B1_3 : Box w3 (w.heap.size + 1) #[.slice aw s.M.W.length cw, .slice ag s.M.G.length cg, .bool s.M.bad, .slice ac s.C.length cc, .slice al s.L.length cl] 83 := (B1_2.alloc _).ext hb3
      have B2_3 : Box w3 (w.heap.size + 1 + 1) #[.int .i64 g.op, .int .i64 g.pc, .int .i64 (gi g.R 0), .int .i64 (gi g.R 1), .int .i64 (gi g.R 2), .int .i64 (gi g.R 3), .int .i64 (gi g.R 4), .int .i64 (gi g.R 5), .int .i64 (gi g.R 6), .int .i64 (gi g.R 7), .slice fa g.S.length fc] 95 := (B2_2.alloc _).ext hb3
      clear c0_0 c0_1 c0_2 c0_3 c0_4 c0_5 c0_6 c0_7 c0_8 c0_9 c0_10 c0_11 c0_12 c0_13 c0_14 c0_15 c0_16 c0_17 c0_18 d0_0 d0_1 d0_2 d0_3 d0_4 d0_5 d0_6 d0_7 d0_8 d0_9 d0_10 d0_11 d0_12 d0_13 d0_14 d0_15 d0_16 d0_17 d0_18 z0 c1_0 c1_1 c1_2 c1_3 c1_4 d1_0 d1_1 d1_2 d1_3 d1_4 z1 c2_0 c2_1 c2_2 c2_3 c2_4 c2_5 c2_6 c2_7 c2_8 c2_9 c2_10 d2_0 d2_1 d2_2 d2_3 d2_4 d2_5 d2_6 d2_7 d2_8 d2_9 d2_10 z2
      have s3 : w2.heap.size + 1 ≤ w3.heap.size := (by have h := hb3.size; first | omega | (simp at h; omega))
      obtain ⟨c0_0, c0_1, c0_2, c0_3, c0_4, c0_5, c0_6, c0_7, c0_8, c0_9, c0_10, c0_11, c0_12, c0_13, c0_14, c0_15, c0_16, c0_17, c0_18, d0_0, d0_1, d0_2, d0_3, d0_4, d0_5, d0_6, d0_7, d0_8, d0_9, d0_10, d0_11, d0_12, d0_13, d0_14, d0_15, d0_16, d0_17, d0_18⟩ := cells19 B0_3
      have z0 : w.heap.size < w3.heap.size := B0_3.lt
      obtain ⟨c1_0, c1_1, c1_2, c1_3, c1_4, d1_0, d1_1, d1_2, d1_3, d1_4⟩ := cells5 B1_3
      have z1 : w.heap.size + 1 < w3.heap.size := B1_3.lt
      obtain ⟨⟨c2_0, c2_1, c2_2, c2_3, c2_4, c2_5, c2_6, c2_7, c2_8, c2_9, c2_10⟩, d2_0, d2_1, d2_2, d2_3, d2_4, d2_5, d2_6, d2_7, d2_8, d2_9, d2_10⟩ := cells11 B2_3
      have z2 : w.heap.size + 1 + 1 < w3.heap.size := B2_3.lt
      go_wp2_with (fail)
      go_at_call 85
      refine (set_ no _ _ s id g _ ((IsSys.mk rfl hw hg hc hl : IsSys no w _ s).ext exq) (IsFrame.ext hfr exq) no_lt hC5 hF5).calls.mono ?_
      rintro e w4 ⟨_, rfl, hb4, ht4⟩
      rw [KB.out] at ht4
      obtain ⟨b1, b2, b3, b4, b5, b6, b7, b8, rfl, _⟩ := ht4.opened
      have B0_4 : Box w4 (w.heap.size) #[.slice aw s.M.W.length cw, .slice ag s.M.G.length cg, .bool s.M.bad, .slice ac s.C.length cc, .slice al s.L.length cl, .int .i64 id, .int .i64 g.op, .int .i64 g.pc, .int .i64 (gi g.R 0), .int .i64 (gi g.R 1), .int .i64 (gi g.R 2), .int .i64 (gi g.R 3), .int .i64 (gi g.R 4), .int .i64 (gi g.R 5), .int .i64 (gi g.R 6), .int .i64 (gi g.R 7), .slice fa g.S.length fc, .int .i64 v, .int .u8 z] 100 := (B0_3.alloc _).ext hb4
      have B1_4 : Box w4 (w.heap.size + 1) #[.slice aw s.M.W.length cw, .slice ag s.M.G.length cg, .bool s.M.bad, .slice ac s.C.length cc, .slice al s.L.length cl] 83 := (B1_3.alloc _).ext hb4
      have B2_4 : Box w4 (w.heap.size + 1 + 1) #[.int .i64 g.op, .int .i64 g.pc, .int .i64 (gi g.R 0), .int .i64 (gi g.R 1), .int .i64 (gi g.R 2), .int .i64 (gi g.R 3), .int .i64 (gi g.R 4), .int .i64 (gi g.R 5), .int .i64 (gi g.R 6), .int .i64 (gi g.R 7), .slice fa g.S.length fc] 95 := (B2_3.alloc _).ext hb4
      have B4_4 : Box w4 (w3.heap.size) #[.slice a1 DA.M.W.length a2, .slice a3 DA.M.G.length a4, .bool DA.M.bad, .slice a5 DA.C.length a6, .slice a7 DA.L.length a8] 83 := (Box.newAt _ _ _ (by first | rfl | simp)).ext hb4
      clear c0_0 c0_1 c0_2 c0_3 c0_4 c0_5 c0_6 c0_7 c0_8 c0_9 c0_10 c0_11 c0_12 c0_13 c0_14 c0_15 c0_16 c0_17 c0_18 d0_0 d0_1 d0_2 d0_3 d0_4 d0_5 d0_6 d0_7 d0_8 d0_9 d0_10 d0_11 d0_12 d0_13 d0_14 d0_15 d0_16 d0_17 d0_18 z0 c1_0 c1_1 c1_2 c1_3 c1_4 d1_0 d1_1 d1_2 d1_3 d1_4 z1 c2_0 c2_1 c2_2 c2_3 c2_4 c2_5 c2_6 c2_7 c2_8 c2_9 c2_10 d2_0 d2_1 d2_2 d2_3 d2_4 d2_5 d2_6 d2_7 d2_8 d2_9 d2_10 z2
      have s4 : w3.heap.size + 1 ≤ w4.heap.size := (by have h := hb4.size; first | omega | (simp at h; omega))
      obtain ⟨c0_0, c0_1, c0_2, c0_3, c0_4, c0_5, c0_6, c0_7, c0_8, c0_9, c0_10, c0_11, c0_12, c0_13, c0_14, c0_15, c0_16, c0_17, c0_18, d0_0, d0_1, d0_2, d0_3, d0_4, d0_5, d0_6, d0_7, d0_8, d0_9, d0_10, d0_11, d0_12, d0_13, d0_14, d0_15, d0_16, d0_17, d0_18⟩ := cells19 B0_4
      have z0 : w.heap.size < w4.heap.size := B0_4.lt
      obtain ⟨c1_0, c1_1, c1_2, c1_3, c1_4, d1_0, d1_1, d1_2, d1_3, d1_4⟩ := cells5 B1_4
      have z1 : w.heap.size + 1 < w4.heap.size := B1_4.lt
      obtain ⟨⟨c2_0, c2_1, c2_2, c2_3, c2_4, c2_5, c2_6, c2_7, c2_8, c2_9, c2_10⟩, d2_0, d2_1, d2_2, d2_3, d2_4, d2_5, d2_6, d2_7, d2_8, d2_9, d2_10⟩ := cells11 B2_4
      have z2 : w.heap.size + 1 + 1 < w4.heap.size := B2_4.lt
      obtain ⟨c4_0, c4_1, c4_2, c4_3, c4_4, d4_0, d4_1, d4_2, d4_3, d4_4⟩ := cells5 B4_4
      have z4 : w3.heap.size < w4.heap.size := B4_4.lt
      go_wp2_with (fail)
      go_at_call 86
      refine (back_ no _ s id v z _ ((IsSys.mk rfl hw hg hc hl : IsSys no w _ s).ext exq) no_lt hC5).calls.mono ?_
      rintro e w5 ⟨_, rfl, hb5, ht5⟩
      rw [KC.out] at ht5
      obtain ⟨c1, c2, c3, c4, c5, c6, c7, c8, rfl, _⟩ := ht5.opened
      have B0_5 : Box w5 (w.heap.size) #[.slice aw s.M.W.length cw, .slice ag s.M.G.length cg, .bool s.M.bad, .slice ac s.C.length cc, .slice al s.L.length cl, .int .i64 id, .int .i64 g.op, .int .i64 g.pc, .int .i64 (gi g.R 0), .int .i64 (gi g.R 1), .int .i64 (gi g.R 2), .int .i64 (gi g.R 3), .int .i64 (gi g.R 4), .int .i64 (gi g.R 5), .int .i64 (gi g.R 6), .int .i64 (gi g.R 7), .slice fa g.S.length fc, .int .i64 v, .int .u8 z] 100 := (B0_4.alloc _).ext hb5
      have B1_5 : Box w5 (w.heap.size + 1) #[.slice aw s.M.W.length cw, .slice ag s.M.G.length cg, .bool s.M.bad, .slice ac s.C.length cc, .slice al s.L.length cl] 83 := (B1_4.alloc _).ext hb5
      have B2_5 : Box w5 (w.heap.size + 1 + 1) #[.int .i64 g.op, .int .i64 g.pc, .int .i64 (gi g.R 0), .int .i64 (gi g.R 1), .int .i64 (gi g.R 2), .int .i64 (gi g.R 3), .int .i64 (gi g.R 4), .int .i64 (gi g.R 5), .int .i64 (gi g.R 6), .int .i64 (gi g.R 7), .slice fa g.S.length fc] 95 := (B2_4.alloc _).ext hb5
      have B4_5 : Box w5 (w3.heap.size) #[.slice a1 DA.M.W.length a2, .slice a3 DA.M.G.length a4, .bool DA.M.bad, .slice a5 DA.C.length a6, .slice a7 DA.L.length a8] 83 := (B4_4.alloc _).ext hb5
      have B5_5 : Box w5 (w4.heap.size) #[.slice b1 DB.M.W.length b2, .slice b3 DB.M.G.length b4, .bool DB.M.bad, .slice b5 DB.C.length b6, .slice b7 DB.L.length b8] 83 := (Box.newAt _ _ _ (by first | rfl | simp)).ext hb5
      clear c0_0 c0_1 c0_2 c0_3 c0_4 c0_5 c0_6 c0_7 c0_8 c0_9 c0_10 c0_11 c0_12 c0_13 c0_14 c0_15 c0_16 c0_17 c0_18 d0_0 d0_1 d0_2 d0_3 d0_4 d0_5 d0_6 d0_7 d0_8 d0_9 d0_10 d0_11 d0_12 d0_13 d0_14 d0_15 d0_16 d0_17 d0_18 z0 c1_0 c1_1 c1_2 c1_3 c1_4 d1_0 d1_1 d1_2 d1_3 d1_4 z1 c2_0 c2_1 c2_2 c2_3 c2_4 c2_5 c2_6 c2_7 c2_8 c2_9 c2_10 d2_0 d2_1 d2_2 d2_3 d2_4 d2_5 d2_6 d2_7 d2_8 d2_9 d2_10 z2 c4_0 c4_1 c4_2 c4_3 c4_4 d4_0 d4_1 d4_2 d4_3 d4_4 z4
      have s5 : w4.heap.size + 1 ≤ w5.heap.size := (by have h := hb5.size; first | omega | (simp at h; omega))
      obtain ⟨c0_0, c0_1, c0_2, c0_3, c0_4, c0_5, c0_6, c0_7, c0_8, c0_9, c0_10, c0_11, c0_12, c0_13, c0_14, c0_15, c0_16, c0_17, c0_18, d0_0, d0_1, d0_2, d0_3, d0_4, d0_5, d0_6, d0_7, d0_8, d0_9, d0_10, d0_11, d0_12, d0_13, d0_14, d0_15, d0_16, d0_17, d0_18⟩ := cells19 B0_5
      have z0 : w.heap.size < w5.heap.size := B0_5.lt
      obtain ⟨c1_0, c1_1, c1_2, c1_3, c1_4, d1_0, d1_1, d1_2, d1_3, d1_4⟩ := cells5 B1_5
      have z1 : w.heap.size + 1 < w5.heap.size := B1_5.lt
      obtain ⟨⟨c2_0, c2_1, c2_2, c2_3, c2_4, c2_5, c2_6, c2_7, c2_8, c2_9, c2_10⟩, d2_0, d2_1, d2_2, d2_3, d2_4, d2_5, d2_6, d2_7, d2_8, d2_9, d2_10⟩ := cells11 B2_5
      have z2 : w.heap.size + 1 + 1 < w5.heap.size := B2_5.lt
      obtain ⟨c4_0, c4_1, c4_2, c4_3, c4_4, d4_0, d4_1, d4_2, d4_3, d4_4⟩ := cells5 B4_5
      have z4 : w3.heap.size < w5.heap.size := B4_5.lt
      obtain ⟨c5_0, c5_1, c5_2, c5_3, c5_4, d5_0, d5_1, d5_2, d5_3, d5_4⟩ := cells5 B5_5
      have z5 : w4.heap.size < w5.heap.size := B5_5.lt
      go_wp2_with (fail)
      go_at_call 87
      refine (log_ no _ s id g.op (gi g.R 0) (gi g.R 1) v _ ((IsSys.mk rfl hw hg hc hl : IsSys no w _ s).ext exq) no_lt (by omega)).calls.mono ?_
      rintro e w6 ⟨_, rfl, hb6, ht6⟩
      rw [KD.out] at ht6
      obtain ⟨d1, d2, d3, d4, d5, d6, d7, d8, rfl, _⟩ := ht6.opened
      have B0_6 : Box w6 (w.heap.size) #[.slice aw s.M.W.length cw, .slice ag s.M.G.length cg, .bool s.M.bad, .slice ac s.C.length cc, .slice al s.L.length cl, .int .i64 id, .int .i64 g.op, .int .i64 g.pc, .int .i64 (gi g.R 0), .int .i64 (gi g.R 1), .int .i64 (gi g.R 2), .int .i64 (gi g.R 3), .int .i64 (gi g.R 4), .int .i64 (gi g.R 5), .int .i64 (gi g.R 6), .int .i64 (gi g.R 7), .slice fa g.S.length fc, .int .i64 v, .int .u8 z] 100 := (B0_5.alloc _).ext hb6
      have B1_6 : Box w6 (w.heap.size + 1) #[.slice aw s.M.W.length cw, .slice ag s.M.G.length cg, .bool s.M.bad, .slice ac s.C.length cc, .slice al s.L.length cl] 83 := (B1_5.alloc _).ext hb6
      have B2_6 : Box w6 (w.heap.size + 1 + 1) #[.int .i64 g.op, .int .i64 g.pc, .int .i64 (gi g.R 0), .int .i64 (gi g.R 1), .int .i64 (gi g.R 2), .int .i64 (gi g.R 3), .int .i64 (gi g.R 4), .int .i64 (gi g.R 5), .int .i64 (gi g.R 6), .int .i64 (gi g.R 7), .slice fa g.S.length fc] 95 := (B2_5.alloc _).ext hb6
      have B4_6 : Box w6 (w3.heap.size) #[.slice a1 DA.M.W.length a2, .slice a3 DA.M.G.length a4, .bool DA.M.bad, .slice a5 DA.C.length a6, .slice a7 DA.L.length a8] 83 := (B4_5.alloc _).ext hb6
      have B5_6 : Box w6 (w4.heap.size) #[.slice b1 DB.M.W.length b2, .slice b3 DB.M.G.length b4, .bool DB.M.bad, .slice b5 DB.C.length b6, .slice b7 DB.L.length b8] 83 := (B5_5.alloc _).ext hb6
      have B6_6 : Box w6 (w5.heap.size) #[.slice c1 DC.M.W.length c2, .slice c3 DC.M.G.length c4, .bool DC.M.bad, .slice c5 DC.C.length c6, .slice c7 DC.L.length c8] 83 := (Box.newAt _ _ _ (by first | rfl | simp)).ext hb6
      clear c0_0 c0_1 c0_2 c0_3 c0_4 c0_5 c0_6 c0_7 c0_8 c0_9 c0_10 c0_11 c0_12 c0_13 c0_14 c0_15 c0_16 c0_17 c0_18 d0_0 d0_1 d0_2 d0_3 d0_4 d0_5 d0_6 d0_7 d0_8 d0_9 d0_10 d0_11 d0_12 d0_13 d0_14 d0_15 d0_16 d0_17 d0_18 z0 c1_0 c1_1 c1_2 c1_3 c1_4 d1_0 d1_1 d1_2 d1_3 d1_4 z1 c2_0 c2_1 c2_2 c2_3 c2_4 c2_5 c2_6 c2_7 c2_8 c2_9 c2_10 d2_0 d2_1 d2_2 d2_3 d2_4 d2_5 d2_6 d2_7 d2_8 d2_9 d2_10 z2 c4_0 c4_1 c4_2 c4_3 c4_4 d4_0 d4_1 d4_2 d4_3 d4_4 z4 c5_0 c5_1 c5_2 c5_3 c5_4 d5_0 d5_1 d5_2 d5_3 d5_4 z5
      have s6 : w5.heap.size + 1 ≤ w6.heap.size := (by have h := hb6.size; first | omega | (simp at h; omega))
      obtain ⟨c0_0, c0_1, c0_2, c0_3, c0_4, c0_5, c0_6, c0_7, c0_8, c0_9, c0_10, c0_11, c0_12, c0_13, c0_14, c0_15, c0_16, c0_17, c0_18, d0_0, d0_1, d0_2, d0_3, d0_4, d0_5, d0_6, d0_7, d0_8, d0_9, d0_10, d0_11, d0_12, d0_13, d0_14, d0_15, d0_16, d0_17, d0_18⟩ := cells19 B0_6
      have z0 : w.heap.size < w6.heap.size := B0_6.lt
      obtain ⟨c1_0, c1_1, c1_2, c1_3, c1_4, d1_0, d1_1, d1_2, d1_3, d1_4⟩ := cells5 B1_6
      have z1 : w.heap.size + 1 < w6.heap.size := B1_6.lt
      obtain ⟨⟨c2_0, c2_1, c2_2, c2_3, c2_4, c2_5, c2_6, c2_7, c2_8, c2_9, c2_10⟩, d2_0, d2_1, d2_2, d2_3, d2_4, d2_5, d2_6, d2_7, d2_8, d2_9, d2_10⟩ := cells11 B2_6
      have z2 : w.heap.size + 1 + 1 < w6.heap.size := B2_6.lt
      obtain ⟨c4_0, c4_1, c4_2, c4_3, c4_4, d4_0, d4_1, d4_2, d4_3, d4_4⟩ := cells5 B4_6
      have z4 : w3.heap.size < w6.heap.size := B4_6.lt
      obtain ⟨c5_0, c5_1, c5_2, c5_3, c5_4, d5_0, d5_1, d5_2, d5_3, d5_4⟩ := cells5 B5_6
      have z5 : w4.heap.size < w6.heap.size := B5_6.lt
      obtain ⟨c6_0, c6_1, c6_2, c6_3, c6_4, d6_0, d6_1, d6_2, d6_3, d6_4⟩ := cells5 B6_6
      have z6 : w5.heap.size < w6.heap.size := B6_6.lt
      go_wp2_with (fail)
      go_at_call 88
      refine (refCall_ no _ s id g.op (gi g.R 0) (gi g.R 1) (gi g.R 2) _ ((IsSys.mk rfl hw hg hc hl : IsSys no w _ s).ext exq) no_lt hC5).calls.mono ?_
      rintro e w7 ⟨_, rfl, hb7, ht7⟩
      rw [KA.out] at ht7
      obtain ⟨m1, m2, m3, m4, m5, m6, m7, m8, rfl, _⟩ := ht7.opened
      have B0_7 : Box w7 (w.heap.size) #[.slice aw s.M.W.length cw, .slice ag s.M.G.length cg, .bool s.M.bad, .slice ac s.C.length cc, .slice al s.L.length cl, .int .i64 id, .int .i64 g.op, .int .i64 g.pc, .int .i64 (gi g.R 0), .int .i64 (gi g.R 1), .int .i64 (gi g.R 2), .int .i64 (gi g.R 3), .int .i64 (gi g.R 4), .int .i64 (gi g.R 5), .int .i64 (gi g.R 6), .int .i64 (gi g.R 7), .slice fa g.S.length fc, .int .i64 v, .int .u8 z] 100 := (B0_6.alloc _).ext hb7
      have B1_7 : Box w7 (w.heap.size + 1) #[.slice aw s.M.W.length cw, .slice ag s.M.G.length cg, .bool s.M.bad, .slice ac s.C.length cc, .slice al s.L.length cl] 83 := (B1_6.alloc _).ext hb7
      have B2_7 : Box w7 (w.heap.size + 1 + 1) #[.int .i64 g.op, .int .i64 g.pc, .int .i64 (gi g.R 0), .int .i64 (gi g.R 1), .int .i64 (gi g.R 2), .int .i64 (gi g.R 3), .int .i64 (gi g.R 4), .int .i64 (gi g.R 5), .int .i64 (gi g.R 6), .int .i64 (gi g.R 7), .slice fa g.S.length fc] 95 := (B2_6.alloc _).ext hb7
      have B4_7 : Box w7 (w3.heap.size) #[.slice a1 DA.M.W.length a2, .slice a3 DA.M.G.length a4, .bool DA.M.bad, .slice a5 DA.C.length a6, .slice a7 DA.L.length a8] 83 := (B4_6.alloc _).ext hb7
      have B5_7 : Box w7 (w4.heap.size) #[.slice b1 DB.M.W.length b2, .slice b3 DB.M.G.length b4, .bool DB.M.bad, .slice b5 DB.C.length b6, .slice b7 DB.L.length b8] 83 := (B5_6.alloc _).ext hb7
      have B6_7 : Box w7 (w5.heap.size) #[.slice c1 DC.M.W.length c2, .slice c3 DC.M.G.length c4, .bool DC.M.bad, .slice c5 DC.C.length c6, .slice c7 DC.L.length c8] 83 := (B6_6.alloc _).ext hb7
      have B7_7 : Box w7 (w6.heap.size) #[.slice d1 DD.M.W.length d2, .slice d3 DD.M.G.length d4, .bool DD.M.bad, .slice d5 DD.C.length d6, .slice d7 DD.L.length d8] 83 := (Box.newAt _ _ _ (by first | rfl | simp)).ext hb7
      clear c0_0 c0_1 c0_2 c0_3 c0_4 c0_5 c0_6 c0_7 c0_8 c0_9 c0_10 c0_11 c0_12 c0_13 c0_14 c0_15 c0_16 c0_17 c0_18 d0_0 d0_1 d0_2 d0_3 d0_4 d0_5 d0_6 d0_7 d0_8 d0_9 d0_10 d0_11 d0_12 d0_13 d0_14 d0_15 d0_16 d0_17 d0_18 z0 c1_0 c1_1 c1_2 c1_3 c1_4 d1_0 d1_1 d1_2 d1_3 d1_4 z1 c2_0 c2_1 c2_2 c2_3 c2_4 c2_5 c2_6 c2_7 c2_8 c2_9 c2_10 d2_0 d2_1 d2_2 d2_3 d2_4 d2_5 d2_6 d2_7 d2_8 d2_9 d2_10 z2 c4_0 c4_1 c4_2 c4_3 c4_4 d4_0 d4_1 d4_2 d4_3 d4_4 z4 c5_0 c5_1 c5_2 c5_3 c5_4 d5_0 d5_1 d5_2 d5_3 d5_4 z5 c6_0 c6_1 c6_2 c6_3 c6_4 d6_0 d6_1 d6_2 d6_3 d6_4 z6
      have s7 : w6.heap.size + 1 ≤ w7.heap.size := (by have h := hb7.size; first | omega | (simp at h; omega))
      obtain ⟨c0_0, c0_1, c0_2, c0_3, c0_4, c0_5, c0_6, c0_7, c0_8, c0_9, c0_10, c0_11, c0_12, c0_13, c0_14, c0_15, c0_16, c0_17, c0_18, d0_0, d0_1, d0_2, d0_3, d0_4, d0_5, d0_6, d0_7, d0_8, d0_9, d0_10, d0_11, d0_12, d0_13, d0_14, d0_15, d0_16, d0_17, d0_18⟩ := cells19 B0_7
      have z0 : w.heap.size < w7.heap.size := B0_7.lt
      obtain ⟨c1_0, c1_1, c1_2, c1_3, c1_4, d1_0, d1_1, d1_2, d1_3, d1_4⟩ := cells5 B1_7
      have z1 : w.heap.size + 1 < w7.heap.size := B1_7.lt
      obtain ⟨⟨c2_0, c2_1, c2_2, c2_3, c2_4, c2_5, c2_6, c2_7, c2_8, c2_9, c2_10⟩, d2_0, d2_1, d2_2, d2_3, d2_4, d2_5, d2_6, d2_7, d2_8, d2_9, d2_10⟩ := cells11 B2_7
      have z2 : w.heap.size + 1 + 1 < w7.heap.size := B2_7.lt
      obtain ⟨c4_0, c4_1, c4_2, c4_3, c4_4, d4_0, d4_1, d4_2, d4_3, d4_4⟩ := cells5 B4_7
      have z4 : w3.heap.size < w7.heap.size := B4_7.lt
      obtain ⟨c5_0, c5_1, c5_2, c5_3, c5_4, d5_0, d5_1, d5_2, d5_3, d5_4⟩ := cells5 B5_7
      have z5 : w4.heap.size < w7.heap.size := B5_7.lt
      obtain ⟨c6_0, c6_1, c6_2, c6_3, c6_4, d6_0, d6_1, d6_2, d6_3, d6_4⟩ := cells5 B6_7
      have z6 : w5.heap.size < w7.heap.size := B6_7.lt
      obtain ⟨c7_0, c7_1, c7_2, c7_3, c7_4, d7_0, d7_1, d7_2, d7_3, d7_4⟩ := cells5 B7_7
      have z7 : w6.heap.size < w7.heap.size := B7_7.lt
      go_wp2_with (fail)
      go_at_call 89
      refine (refSet_ no _ _ s id g _ ((IsSys.mk rfl hw hg hc hl : IsSys no w _ s).ext exq) (IsFrame.ext hfr exq) no_lt hC5 hF5).calls.mono ?_
      rintro e w8 ⟨_, rfl, hb8, ht8⟩
      rw [KB.out] at ht8
      obtain ⟨n1, n2, n3, n4, n5, n6, n7, n8, rfl, _⟩ := ht8.opened
      have B0_8 : Box w8 (w.heap.size) #[.slice aw s.M.W.length cw, .slice ag s.M.G.length cg, .bool s.M.bad, .slice ac s.C.length cc, .slice al s.L.length cl, .int .i64 id, .int .i64 g.op, .int .i64 g.pc, .int .i64 (gi g.R 0), .int .i64 (gi g.R 1), .int .i64 (gi g.R 2), .int .i64 (gi g.R 3), .int .i64 (gi g.R 4), .int .i64 (gi g.R 5), .int .i64 (gi g.R 6), .int .i64 (gi g.R 7), .slice fa g.S.length fc, .int .i64 v, .int .u8 z] 100 := (B0_7.alloc _).ext hb8
      have B1_8 : Box w8 (w.heap.size + 1) #[.slice aw s.M.W.length cw, .slice ag s.M.G.length cg, .bool s.M.bad, .slice ac s.C.length cc, .slice al s.L.length cl] 83 := (B1_7.alloc _).ext hb8
      have B2_8 : Box w8 (w.heap.size + 1 + 1) #[.int .i64 g.op, .int .i64 g.pc, .int .i64 (gi g.R 0), .int .i64 (gi g.R 1), .int .i64 (gi g.R 2), .int .i64 (gi g.R 3), .int .i64 (gi g.R 4), .int .i64 (gi g.R 5), .int .i64 (gi g.R 6), .int .i64 (gi g.R 7), .slice fa g.S.length fc] 95 := (B2_7.alloc _).ext hb8
      have B4_8 : Box w8 (w3.heap.size) #[.slice a1 DA.M.W.length a2, .slice a3 DA.M.G.length a4, .bool DA.M.bad, .slice a5 DA.C.length a6, .slice a7 DA.L.length a8] 83 := (B4_7.alloc _).ext hb8
      have B5_8 : Box w8 (w4.heap.size) #[.slice b1 DB.M.W.length b2, .slice b3 DB.M.G.length b4, .bool DB.M.bad, .slice b5 DB.C.length b6, .slice b7 DB.L.length b8] 83 := (B5_7.alloc _).ext hb8
      have B6_8 : Box w8 (w5.heap.size) #[.slice c1 DC.M.W.length c2, .slice c3 DC.M.G.length c4, .bool DC.M.bad, .slice c5 DC.C.length c6, .slice c7 DC.L.length c8] 83 := (B6_7.alloc _).ext hb8
      have B7_8 : Box w8 (w6.heap.size) #[.slice d1 DD.M.W.length d2, .slice d3 DD.M.G.length d4, .bool DD.M.bad, .slice d5 DD.C.length d6, .slice d7 DD.L.length d8] 83 := (B7_7.alloc _).ext hb8
      have B8_8 : Box w8 (w7.heap.size) #[.slice m1 DA.M.W.length m2, .slice m3 DA.M.G.length m4, .bool DA.M.bad, .slice m5 DA.C.length m6, .slice m7 DA.L.length m8] 83 := (Box.newAt _ _ _ (by first | rfl | simp)).ext hb8
      clear c0_0 c0_1 c0_2 c0_3 c0_4 c0_5 c0_6 c0_7 c0_8 c0_9 c0_10 c0_11 c0_12 c0_13 c0_14 c0_15 c0_16 c0_17 c0_18 d0_0 d0_1 d0_2 d0_3 d0_4 d0_5 d0_6 d0_7 d0_8 d0_9 d0_10 d0_11 d0_12 d0_13 d0_14 d0_15 d0_16 d0_17 d0_18 z0 c1_0 c1_1 c1_2 c1_3 c1_4 d1_0 d1_1 d1_2 d1_3 d1_4 z1 c2_0 c2_1 c2_2 c2_3 c2_4 c2_5 c2_6 c2_7 c2_8 c2_9 c2_10 d2_0 d2_1 d2_2 d2_3 d2_4 d2_5 d2_6 d2_7 d2_8 d2_9 d2_10 z2 c4_0 c4_1 c4_2 c4_3 c4_4 d4_0 d4_1 d4_2 d4_3 d4_4 z4 c5_0 c5_1 c5_2 c5_3 c5_4 d5_0 d5_1 d5_2 d5_3 d5_4 z5 c6_0 c6_1 c6_2 c6_3 c6_4 d6_0 d6_1 d6_2 d6_3 d6_4 z6 c7_0 c7_1 c7_2 c7_3 c7_4 d7_0 d7_1 d7_2 d7_3 d7_4 z7
      have s8 : w7.heap.size + 1 ≤ w8.heap.size := (by have h := hb8.size; first | omega | (simp at h; omega))
      obtain ⟨c0_0, c0_1, c0_2, c0_3, c0_4, c0_5, c0_6, c0_7, c0_8, c0_9, c0_10, c0_11, c0_12, c0_13, c0_14, c0_15, c0_16, c0_17, c0_18, d0_0, d0_1, d0_2, d0_3, d0_4, d0_5, d0_6, d0_7, d0_8, d0_9, d0_10, d0_11, d0_12, d0_13, d0_14, d0_15, d0_16, d0_17, d0_18⟩ := cells19 B0_8
      have z0 : w.heap.size < w8.heap.size := B0_8.lt
      obtain ⟨c1_0, c1_1, c1_2, c1_3, c1_4, d1_0, d1_1, d1_2, d1_3, d1_4⟩ := cells5 B1_8
      have z1 : w.heap.size + 1 < w8.heap.size := B1_8.lt
      obtain ⟨⟨c2_0, c2_1, c2_2, c2_3, c2_4, c2_5, c2_6, c2_7, c2_8, c2_9, c2_10⟩, d2_0, d2_1, d2_2, d2_3, d2_4, d2_5, d2_6, d2_7, d2_8, d2_9, d2_10⟩ := cells11 B2_8
      have z2 : w.heap.size + 1 + 1 < w8.heap.size := B2_8.lt
      obtain ⟨c4_0, c4_1, c4_2, c4_3, c4_4, d4_0, d4_1, d4_2, d4_3, d4_4⟩ := cells5 B4_8
      have z4 : w3.heap.size < w8.heap.size := B4_8.lt
      obtain ⟨c5_0, c5_1, c5_2, c5_3, c5_4, d5_0, d5_1, d5_2, d5_3, d5_4⟩ := cells5 B5_8
      have z5 : w4.heap.size < w8.heap.size := B5_8.lt
      obtain ⟨c6_0, c6_1, c6_2, c6_3, c6_4, d6_0, d6_1, d6_2, d6_3, d6_4⟩ := cells5 B6_8
      have z6 : w5.heap.size < w8.heap.size := B6_8.lt
      obtain ⟨c7_0, c7_1, c7_2, c7_3, c7_4, d7_0, d7_1, d7_2, d7_3, d7_4⟩ := cells5 B7_8
      have z7 : w6.heap.size < w8.heap.size := B7_8.lt
      obtain ⟨c8_0, c8_1, c8_2, c8_3, c8_4, d8_0, d8_1, d8_2, d8_3, d8_4⟩ := cells5 B8_8
      have z8 : w7.heap.size < w8.heap.size := B8_8.lt
      go_wp2_with (fail)
      go_at_call 90
      refine (refBack_ no _ s id v z _ ((IsSys.mk rfl hw hg hc hl : IsSys no w _ s).ext exq) no_lt hC5).calls.mono ?_
      rintro e w9 ⟨_, rfl, hb9, ht9⟩
      rw [KC.out] at ht9
      obtain ⟨o1, o2, o3, o4, o5, o6, o7, o8, rfl, _⟩ := ht9.opened
      have B0_9 : Box w9 (w.heap.size) #[.slice aw s.M.W.length cw, .slice ag s.M.G.length cg, .bool s.M.bad, .slice ac s.C.length cc, .slice al s.L.length cl, .int .i64 id, .int .i64 g.op, .int .i64 g.pc, .int .i64 (gi g.R 0), .int .i64 (gi g.R 1), .int .i64 (gi g.R 2), .int .i64 (gi g.R 3), .int .i64 (gi g.R 4), .int .i64 (gi g.R 5), .int .i64 (gi g.R 6), .int .i64 (gi g.R 7), .slice fa g.S.length fc, .int .i64 v, .int .u8 z] 100 := (B0_8.alloc _).ext hb9
      have B1_9 : Box w9 (w.heap.size + 1) #[.slice aw s.M.W.length cw, .slice ag s.M.G.length cg, .bool s.M.bad, .slice ac s.C.length cc, .slice al s.L.length cl] 83 := (B1_8.alloc _).ext hb9
      have B2_9 : Box w9 (w.heap.size + 1 + 1) #[.int .i64 g.op, .int .i64 g.pc, .int .i64 (gi g.R 0), .int .i64 (gi g.R 1), .int .i64 (gi g.R 2), .int .i64 (gi g.R 3), .int .i64 (gi g.R 4), .int .i64 (gi g.R 5), .int .i64 (gi g.R 6), .int .i64 (gi g.R 7), .slice fa g.S.length fc] 95 := (B2_8.alloc _).ext hb9
      have B4_9 : Box w9 (w3.heap.size) #[.slice a1 DA.M.W.length a2, .slice a3 DA.M.G.length a4, .bool DA.M.bad, .slice a5 DA.C.length a6, .slice a7 DA.L.length a8] 83 := (B4_8.alloc _).ext hb9
      have B5_9 : Box w9 (w4.heap.size) #[.slice b1 DB.M.W.length b2, .slice b3 DB.M.G.length b4, .bool DB.M.bad, .slice b5 DB.C.length b6, .slice b7 DB.L.length b8] 83 := (B5_8.alloc _).ext hb9
      have B6_9 : Box w9 (w5.heap.size) #[.slice c1 DC.M.W.length c2, .slice c3 DC.M.G.length c4, .bool DC.M.bad, .slice c5 DC.C.length c6, .slice c7 DC.L.length c8] 83 := (B6_8.alloc _).ext hb9
      have B7_9 : Box w9 (w6.heap.size) #[.slice d1 DD.M.W.length d2, .slice d3 DD.M.G.length d4, .bool DD.M.bad, .slice d5 DD.C.length d6, .slice d7 DD.L.length d8] 83 := (B7_8.alloc _).ext hb9
      have B8_9 : Box w9 (w7.heap.size) #[.slice m1 DA.M.W.length m2, .slice m3 DA.M.G.length m4, .bool DA.M.bad, .slice m5 DA.C.length m6, .slice m7 DA.L.length m8] 83 := (B8_8.alloc _).ext hb9
      have B9_9 : Box w9 (w8.heap.size) #[.slice n1 DB.M.W.length n2, .slice n3 DB.M.G.length n4, .bool DB.M.bad, .slice n5 DB.C.length n6, .slice n7 DB.L.length n8] 83 := (Box.newAt _ _ _ (by first | rfl | simp)).ext hb9
      clear c0_0 c0_1 c0_2 c0_3 c0_4 c0_5 c0_6 c0_7 c0_8 c0_9 c0_10 c0_11 c0_12 c0_13 c0_14 c0_15 c0_16 c0_17 c0_18 d0_0 d0_1 d0_2 d0_3 d0_4 d0_5 d0_6 d0_7 d0_8 d0_9 d0_10 d0_11 d0_12 d0_13 d0_14 d0_15 d0_16 d0_17 d0_18 z0 c1_0 c1_1 c1_2 c1_3 c1_4 d1_0 d1_1 d1_2 d1_3 d1_4 z1 c2_0 c2_1 c2_2 c2_3 c2_4 c2_5 c2_6 c2_7 c2_8 c2_9 c2_10 d2_0 d2_1 d2_2 d2_3 d2_4 d2_5 d2_6 d2_7 d2_8 d2_9 d2_10 z2 c4_0 c4_1 c4_2 c4_3 c4_4 d4_0 d4_1 d4_2 d4_3 d4_4 z4 c5_0 c5_1 c5_2 c5_3 c5_4 d5_0 d5_1 d5_2 d5_3 d5_4 z5 c6_0 c6_1 c6_2 c6_3 c6_4 d6_0 d6_1 d6_2 d6_3 d6_4 z6 c7_0 c7_1 c7_2 c7_3 c7_4 d7_0 d7_1 d7_2 d7_3 d7_4 z7 c8_0 c8_1 c8_2 c8_3 c8_4 d8_0 d8_1 d8_2 d8_3 d8_4 z8
      have s9 : w8.heap.size + 1 ≤ w9.heap.size := (by have h := hb9.size; first | omega | (simp at h; omega))
      obtain ⟨c0_0, c0_1, c0_2, c0_3, c0_4, c0_5, c0_6, c0_7, c0_8, c0_9, c0_10, c0_11, c0_12, c0_13, c0_14, c0_15, c0_16, c0_17, c0_18, d0_0, d0_1, d0_2, d0_3, d0_4, d0_5, d0_6, d0_7, d0_8, d0_9, d0_10, d0_11, d0_12, d0_13, d0_14, d0_15, d0_16, d0_17, d0_18⟩ := cells19 B0_9
      have z0 : w.heap.size < w9.heap.size := B0_9.lt
      obtain ⟨c1_0, c1_1, c1_2, c1_3, c1_4, d1_0, d1_1, d1_2, d1_3, d1_4⟩ := cells5 B1_9
      have z1 : w.heap.size + 1 < w9.heap.size := B1_9.lt
      obtain ⟨⟨c2_0, c2_1, c2_2, c2_3, c2_4, c2_5, c2_6, c2_7, c2_8, c2_9, c2_10⟩, d2_0, d2_1, d2_2, d2_3, d2_4, d2_5, d2_6, d2_7, d2_8, d2_9, d2_10⟩ := cells11 B2_9
      have z2 : w.heap.size + 1 + 1 < w9.heap.size := B2_9.lt
      obtain ⟨c4_0, c4_1, c4_2, c4_3, c4_4, d4_0, d4_1, d4_2, d4_3, d4_4⟩ := cells5 B4_9
      have z4 : w3.heap.size < w9.heap.size := B4_9.lt
      obtain ⟨c5_0, c5_1, c5_2, c5_3, c5_4, d5_0, d5_1, d5_2, d5_3, d5_4⟩ := cells5 B5_9
      have z5 : w4.heap.size < w9.heap.size := B5_9.lt
      obtain ⟨c6_0, c6_1, c6_2, c6_3, c6_4, d6_0, d6_1, d6_2, d6_3, d6_4⟩ := cells5 B6_9
      have z6 : w5.heap.size < w9.heap.size := B6_9.lt
      obtain ⟨c7_0, c7_1, c7_2, c7_3, c7_4, d7_0, d7_1, d7_2, d7_3, d7_4⟩ := cells5 B7_9
      have z7 : w6.heap.size < w9.heap.size := B7_9.lt
      obtain ⟨c8_0, c8_1, c8_2, c8_3, c8_4, d8_0, d8_1, d8_2, d8_3, d8_4⟩ := cells5 B8_9
      have z8 : w7.heap.size < w9.heap.size := B8_9.lt
      obtain ⟨c9_0, c9_1, c9_2, c9_3, c9_4, d9_0, d9_1, d9_2, d9_3, d9_4⟩ := cells5 B9_9
      have z9 : w8.heap.size < w9.heap.size := B9_9.lt
      go_wp2_with (fail)
      go_at_call 91
      refine (refLog_ no _ s id g.op (gi g.R 0) (gi g.R 1) v 0 _ ((IsSys.mk rfl hw hg hc hl : IsSys no w _ s).ext exq) no_lt hL5).calls.mono ?_
      rintro e w10 ⟨_, rfl, hb10, ht10⟩
      rw [KD.out] at ht10
      obtain ⟨p1, p2, p3, p4, p5, p6, p7, p8, rfl, _⟩ := ht10.opened
      have B0_10 : Box w10 (w.heap.size) #[.slice aw s.M.W.length cw, .slice ag s.M.G.length cg, .bool s.M.bad, .slice ac s.C.length cc, .slice al s.L.length cl, .int .i64 id, .int .i64 g.op, .int .i64 g.pc, .int .i64 (gi g.R 0), .int .i64 (gi g.R 1), .int .i64 (gi g.R 2), .int .i64 (gi g.R 3), .int .i64 (gi g.R 4), .int .i64 (gi g.R 5), .int .i64 (gi g.R 6), .int .i64 (gi g.R 7), .slice fa g.S.length fc, .int .i64 v, .int .u8 z] 100 := (B0_9.alloc _).ext hb10
      have B1_10 : Box w10 (w.heap.size + 1) #[.slice aw s.M.W.length cw, .slice ag s.M.G.length cg, .bool s.M.bad, .slice ac s.C.length cc, .slice al s.L.length cl] 83 := (B1_9.alloc _).ext hb10
      have B2_10 : Box w10 (w.heap.size + 1 + 1) #[.int .i64 g.op, .int .i64 g.pc, .int .i64 (gi g.R 0), .int .i64 (gi g.R 1), .int .i64 (gi g.R 2), .int .i64 (gi g.R 3), .int .i64 (gi g.R 4), .int .i64 (gi g.R 5), .int .i64 (gi g.R 6), .int .i64 (gi g.R 7), .slice fa g.S.length fc] 95 := (B2_9.alloc _).ext hb10
      have B4_10 : Box w10 (w3.heap.size) #[.slice a1 DA.M.W.length a2, .slice a3 DA.M.G.length a4, .bool DA.M.bad, .slice a5 DA.C.length a6, .slice a7 DA.L.length a8] 83 := (B4_9.alloc _).ext hb10
      have B5_10 : Box w10 (w4.heap.size) #[.slice b1 DB.M.W.length b2, .slice b3 DB.M.G.length b4, .bool DB.M.bad, .slice b5 DB.C.length b6, .slice b7 DB.L.length b8] 83 := (B5_9.alloc _).ext hb10
      have B6_10 : Box w10 (w5.heap.size) #[.slice c1 DC.M.W.length c2, .slice c3 DC.M.G.length c4, .bool DC.M.bad, .slice c5 DC.C.length c6, .slice c7 DC.L.length c8] 83 := (B6_9.alloc _).ext hb10
      have B7_10 : Box w10 (w6.heap.size) #[.slice d1 DD.M.W.length d2, .slice d3 DD.M.G.length d4, .bool DD.M.bad, .slice d5 DD.C.length d6, .slice d7 DD.L.length d8] 83 := (B7_9.alloc _).ext hb10
      have B8_10 : Box w10 (w7.heap.size) #[.slice m1 DA.M.W.length m2, .slice m3 DA.M.G.length m4, .bool DA.M.bad, .slice m5 DA.C.length m6, .slice m7 DA.L.length m8] 83 := (B8_9.alloc _).ext hb10
      have B9_10 : Box w10 (w8.heap.size) #[.slice n1 DB.M.W.length n2, .slice n3 DB.M.G.length n4, .bool DB.M.bad, .slice n5 DB.C.length n6, .slice n7 DB.L.length n8] 83 := (B9_9.alloc _).ext hb10
      have B10_10 : Box w10 (w9.heap.size) #[.slice o1 DC.M.W.length o2, .slice o3 DC.M.G.length o4, .bool DC.M.bad, .slice o5 DC.C.length o6, .slice o7 DC.L.length o8] 83 := (Box.newAt _ _ _ (by first | rfl | simp)).ext hb10
      clear c0_0 c0_1 c0_2 c0_3 c0_4 c0_5 c0_6 c0_7 c0_8 c0_9 c0_10 c0_11 c0_12 c0_13 c0_14 c0_15 c0_16 c0_17 c0_18 d0_0 d0_1 d0_2 d0_3 d0_4 d0_5 d0_6 d0_7 d0_8 d0_9 d0_10 d0_11 d0_12 d0_13 d0_14 d0_15 d0_16 d0_17 d0_18 z0 c1_0 c1_1 c1_2 c1_3 c1_4 d1_0 d1_1 d1_2 d1_3 d1_4 z1 c2_0 c2_1 c2_2 c2_3 c2_4 c2_5 c2_6 c2_7 c2_8 c2_9 c2_10 d2_0 d2_1 d2_2 d2_3 d2_4 d2_5 d2_6 d2_7 d2_8 d2_9 d2_10 z2 c4_0 c4_1 c4_2 c4_3 c4_4 d4_0 d4_1 d4_2 d4_3 d4_4 z4 c5_0 c5_1 c5_2 c5_3 c5_4 d5_0 d5_1 d5_2 d5_3 d5_4 z5 c6_0 c6_1 c6_2 c6_3 c6_4 d6_0 d6_1 d6_2 d6_3 d6_4 z6 c7_0 c7_1 c7_2 c7_3 c7_4 d7_0 d7_1 d7_2 d7_3 d7_4 z7 c8_0 c8_1 c8_2 c8_3 c8_4 d8_0 d8_1 d8_2 d8_3 d8_4 z8 c9_0 c9_1 c9_2 c9_3 c9_4 d9_0 d9_1 d9_2 d9_3 d9_4 z9
      have s10 : w9.heap.size + 1 ≤ w10.heap.size := (by have h := hb10.size; first | omega | (simp at h; omega))
      obtain ⟨c0_0, c0_1, c0_2, c0_3, c0_4, c0_5, c0_6, c0_7, c0_8, c0_9, c0_10, c0_11, c0_12, c0_13, c0_14, c0_15, c0_16, c0_17, c0_18, d0_0, d0_1, d0_2, d0_3, d0_4, d0_5, d0_6, d0_7, d0_8, d0_9, d0_10, d0_11, d0_12, d0_13, d0_14, d0_15, d0_16, d0_17, d0_18⟩ := cells19 B0_10
      have z0 : w.heap.size < w10.heap.size := B0_10.lt
      obtain ⟨c1_0, c1_1, c1_2, c1_3, c1_4, d1_0, d1_1, d1_2, d1_3, d1_4⟩ := cells5 B1_10
      have z1 : w.heap.size + 1 < w10.heap.size := B1_10.lt
      obtain ⟨⟨c2_0, c2_1, c2_2, c2_3, c2_4, c2_5, c2_6, c2_7, c2_8, c2_9, c2_10⟩, d2_0, d2_1, d2_2, d2_3, d2_4, d2_5, d2_6, d2_7, d2_8, d2_9, d2_10⟩ := cells11 B2_10
      have z2 : w.heap.size + 1 + 1 < w10.heap.size := B2_10.lt
      obtain ⟨c4_0, c4_1, c4_2, c4_3, c4_4, d4_0, d4_1, d4_2, d4_3, d4_4⟩ := cells5 B4_10
      have z4 : w3.heap.size < w10.heap.size := B4_10.lt
      obtain ⟨c5_0, c5_1, c5_2, c5_3, c5_4, d5_0, d5_1, d5_2, d5_3, d5_4⟩ := cells5 B5_10
      have z5 : w4.heap.size < w10.heap.size := B5_10.lt
      obtain ⟨c6_0, c6_1, c6_2, c6_3, c6_4, d6_0, d6_1, d6_2, d6_3, d6_4⟩ := cells5 B6_10
      have z6 : w5.heap.size < w10.heap.size := B6_10.lt
      obtain ⟨c7_0, c7_1, c7_2, c7_3, c7_4, d7_0, d7_1, d7_2, d7_3, d7_4⟩ := cells5 B7_10
      have z7 : w6.heap.size < w10.heap.size := B7_10.lt
      obtain ⟨c8_0, c8_1, c8_2, c8_3, c8_4, d8_0, d8_1, d8_2, d8_3, d8_4⟩ := cells5 B8_10
      have z8 : w7.heap.size < w10.heap.size := B8_10.lt
      obtain ⟨c9_0, c9_1, c9_2, c9_3, c9_4, d9_0, d9_1, d9_2, d9_3, d9_4⟩ := cells5 B9_10
      have z9 : w8.heap.size < w10.heap.size := B9_10.lt
      obtain ⟨c10_0, c10_1, c10_2, c10_3, c10_4, d10_0, d10_1, d10_2, d10_3, d10_4⟩ := cells5 B10_10
      have z10 : w9.heap.size < w10.heap.size := B10_10.lt
      go_wp2_with (fail)
      go_at_call 78
      refine (refSys_ no _ _ DA DA _ (ht3.ext exq) (ht7.ext exq)).calls.mono ?_
      rintro e w11 ⟨_, rfl, hb11, rfl⟩
      rw [sameS_refl]
      have B0_11 : Box w11 (w.heap.size) #[.slice aw s.M.W.length cw, .slice ag s.M.G.length cg, .bool s.M.bad, .slice ac s.C.length cc, .slice al s.L.length cl, .int .i64 id, .int .i64 g.op, .int .i64 g.pc, .int .i64 (gi g.R 0), .int .i64 (gi g.R 1), .int .i64 (gi g.R 2), .int .i64 (gi g.R 3), .int .i64 (gi g.R 4), .int .i64 (gi g.R 5), .int .i64 (gi g.R 6), .int .i64 (gi g.R 7), .slice fa g.S.length fc, .int .i64 v, .int .u8 z] 100 := (B0_10.alloc _).ext hb11
      have B1_11 : Box w11 (w.heap.size + 1) #[.slice aw s.M.W.length cw, .slice ag s.M.G.length cg, .bool s.M.bad, .slice ac s.C.length cc, .slice al s.L.length cl] 83 := (B1_10.alloc _).ext hb11
      have B2_11 : Box w11 (w.heap.size + 1 + 1) #[.int .i64 g.op, .int .i64 g.pc, .int .i64 (gi g.R 0), .int .i64 (gi g.R 1), .int .i64 (gi g.R 2), .int .i64 (gi g.R 3), .int .i64 (gi g.R 4), .int .i64 (gi g.R 5), .int .i64 (gi g.R 6), .int .i64 (gi g.R 7), .slice fa g.S.length fc] 95 := (B2_10.alloc _).ext hb11
      have B4_11 : Box w11 (w3.heap.size) #[.slice a1 DA.M.W.length a2, .slice a3 DA.M.G.length a4, .bool DA.M.bad, .slice a5 DA.C.length a6, .slice a7 DA.L.length a8] 83 := (B4_10.alloc _).ext hb11
      have B5_11 : Box w11 (w4.heap.size) #[.slice b1 DB.M.W.length b2, .slice b3 DB.M.G.length b4, .bool DB.M.bad, .slice b5 DB.C.length b6, .slice b7 DB.L.length b8] 83 := (B5_10.alloc _).ext hb11
      have B6_11 : Box w11 (w5.heap.size) #[.slice c1 DC.M.W.length c2, .slice c3 DC.M.G.length c4, .bool DC.M.bad, .slice c5 DC.C.length c6, .slice c7 DC.L.length c8] 83 := (B6_10.alloc _).ext hb11
      have B7_11 : Box w11 (w6.heap.size) #[.slice d1 DD.M.W.length d2, .slice d3 DD.M.G.length d4, .bool DD.M.bad, .slice d5 DD.C.length d6, .slice d7 DD.L.length d8] 83 := (B7_10.alloc _).ext hb11
      have B8_11 : Box w11 (w7.heap.size) #[.slice m1 DA.M.W.length m2, .slice m3 DA.M.G.length m4, .bool DA.M.bad, .slice m5 DA.C.length m6, .slice m7 DA.L.length m8] 83 := (B8_10.alloc _).ext hb11
      have B9_11 : Box w11 (w8.heap.size) #[.slice n1 DB.M.W.length n2, .slice n3 DB.M.G.length n4, .bool DB.M.bad, .slice n5 DB.C.length n6, .slice n7 DB.L.length n8] 83 := (B9_10.alloc _).ext hb11
      have B10_11 : Box w11 (w9.heap.size) #[.slice o1 DC.M.W.length o2, .slice o3 DC.M.G.length o4, .bool DC.M.bad, .slice o5 DC.C.length o6, .slice o7 DC.L.length o8] 83 := (B10_10.alloc _).ext hb11
      have B11_11 : Box w11 (w10.heap.size) #[.slice p1 DD.M.W.length p2, .slice p3 DD.M.G.length p4, .bool DD.M.bad, .slice p5 DD.C.length p6, .slice p7 DD.L.length p8] 83 := (Box.newAt _ _ _ (by first | rfl | simp)).ext hb11
      clear c0_0 c0_1 c0_2 c0_3 c0_4 c0_5 c0_6 c0_7 c0_8 c0_9 c0_10 c0_11 c0_12 c0_13 c0_14 c0_15 c0_16 c0_17 c0_18 d0_0 d0_1 d0_2 d0_3 d0_4 d0_5 d0_6 d0_7 d0_8 d0_9 d0_10 d0_11 d0_12 d0_13 d0_14 d0_15 d0_16 d0_17 d0_18 z0 c1_0 c1_1 c1_2 c1_3 c1_4 d1_0 d1_1 d1_2 d1_3 d1_4 z1 c2_0 c2_1 c2_2 c2_3 c2_4 c2_5 c2_6 c2_7 c2_8 c2_9 c2_10 d2_0 d2_1 d2_2 d2_3 d2_4 d2_5 d2_6 d2_7 d2_8 d2_9 d2_10 z2 c4_0 c4_1 c4_2 c4_3 c4_4 d4_0 d4_1 d4_2 d4_3 d4_4 z4 c5_0 c5_1 c5_2 c5_3 c5_4 d5_0 d5_1 d5_2 d5_3 d5_4 z5 c6_0 c6_1 c6_2 c6_3 c6_4 d6_0 d6_1 d6_2 d6_3 d6_4 z6 c7_0 c7_1 c7_2 c7_3 c7_4 d7_0 d7_1 d7_2 d7_3 d7_4 z7 c8_0 c8_1 c8_2 c8_3 c8_4 d8_0 d8_1 d8_2 d8_3 d8_4 z8 c9_0 c9_1 c9_2 c9_3 c9_4 d9_0 d9_1 d9_2 d9_3 d9_4 z9 c10_0 c10_1 c10_2 c10_3 c10_4 d10_0 d10_1 d10_2 d10_3 d10_4 z10
      have s11 : w10.heap.size + 1 ≤ w11.heap.size := (by have h := hb11.size; first | omega | (simp at h; omega))
      obtain ⟨c0_0, c0_1, c0_2, c0_3, c0_4, c0_5, c0_6, c0_7, c0_8, c0_9, c0_10, c0_11, c0_12, c0_13, c0_14, c0_15, c0_16, c0_17, c0_18, d0_0, d0_1, d0_2, d0_3, d0_4, d0_5, d0_6, d0_7, d0_8, d0_9, d0_10, d0_11, d0_12, d0_13, d0_14, d0_15, d0_16, d0_17, d0_18⟩ := cells19 B0_11
      have z0 : w.heap.size < w11.heap.size := B0_11.lt
      obtain ⟨c1_0, c1_1, c1_2, c1_3, c1_4, d1_0, d1_1, d1_2, d1_3, d1_4⟩ := cells5 B1_11
      have z1 : w.heap.size + 1 < w11.heap.size := B1_11.lt
      obtain ⟨⟨c2_0, c2_1, c2_2, c2_3, c2_4, c2_5, c2_6, c2_7, c2_8, c2_9, c2_10⟩, d2_0, d2_1, d2_2, d2_3, d2_4, d2_5, d2_6, d2_7, d2_8, d2_9, d2_10⟩ := cells11 B2_11
      have z2 : w.heap.size + 1 + 1 < w11.heap.size := B2_11.lt
      obtain ⟨c4_0, c4_1, c4_2, c4_3, c4_4, d4_0, d4_1, d4_2, d4_3, d4_4⟩ := cells5 B4_11
      have z4 : w3.heap.size < w11.heap.size := B4_11.lt
      obtain ⟨c5_0, c5_1, c5_2, c5_3, c5_4, d5_0, d5_1, d5_2, d5_3, d5_4⟩ := cells5 B5_11
      have z5 : w4.heap.size < w11.heap.size := B5_11.lt
      obtain ⟨c6_0, c6_1, c6_2, c6_3, c6_4, d6_0, d6_1, d6_2, d6_3, d6_4⟩ := cells5 B6_11
      have z6 : w5.heap.size < w11.heap.size := B6_11.lt
      obtain ⟨c7_0, c7_1, c7_2, c7_3, c7_4, d7_0, d7_1, d7_2, d7_3, d7_4⟩ := cells5 B7_11
      have z7 : w6.heap.size < w11.heap.size := B7_11.lt
      obtain ⟨c8_0, c8_1, c8_2, c8_3, c8_4, d8_0, d8_1, d8_2, d8_3, d8_4⟩ := cells5 B8_11
      have z8 : w7.heap.size < w11.heap.size := B8_11.lt
      obtain ⟨c9_0, c9_1, c9_2, c9_3, c9_4, d9_0, d9_1, d9_2, d9_3, d9_4⟩ := cells5 B9_11
      have z9 : w8.heap.size < w11.heap.size := B9_11.lt
      obtain ⟨c10_0, c10_1, c10_2, c10_3, c10_4, d10_0, d10_1, d10_2, d10_3, d10_4⟩ := cells5 B10_11
      have z10 : w9.heap.size < w11.heap.size := B10_11.lt
      obtain ⟨c11_0, c11_1, c11_2, c11_3, c11_4, d11_0, d11_1, d11_2, d11_3, d11_4⟩ := cells5 B11_11
      have z11 : w10.heap.size < w11.heap.size := B11_11.lt
      go_wp2_with (fail)
      go_at_call 78
      refine (refSys_ no _ _ DB DB _ (ht4.ext exq) (ht8.ext exq)).calls.mono ?_
      rintro e w12 ⟨_, rfl, hb12, rfl⟩
      rw [sameS_refl]
      have B0_12 : Box w12 (w.heap.size) #[.slice aw s.M.W.length cw, .slice ag s.M.G.length cg, .bool s.M.bad, .slice ac s.C.length cc, .slice al s.L.length cl, .int .i64 id, .int .i64 g.op, .int .i64 g.pc, .int .i64 (gi g.R 0), .int .i64 (gi g.R 1), .int .i64 (gi g.R 2), .int .i64 (gi g.R 3), .int .i64 (gi g.R 4), .int .i64 (gi g.R 5), .int .i64 (gi g.R 6), .int .i64 (gi g.R 7), .slice fa g.S.length fc, .int .i64 v, .int .u8 z] 100 := B0_11.ext hb12
      have B1_12 : Box w12 (w.heap.size + 1) #[.slice aw s.M.W.length cw, .slice ag s.M.G.length cg, .bool s.M.bad, .slice ac s.C.length cc, .slice al s.L.length cl] 83 := B1_11.ext hb12
      have B2_12 : Box w12 (w.heap.size + 1 + 1) #[.int .i64 g.op, .int .i64 g.pc, .int .i64 (gi g.R 0), .int .i64 (gi g.R 1), .int .i64 (gi g.R 2), .int .i64 (gi g.R 3), .int .i64 (gi g.R 4), .int .i64 (gi g.R 5), .int .i64 (gi g.R 6), .int .i64 (gi g.R 7), .slice fa g.S.length fc] 95 := B2_11.ext hb12
      have B4_12 : Box w12 (w3.heap.size) #[.slice a1 DA.M.W.length a2, .slice a3 DA.M.G.length a4, .bool DA.M.bad, .slice a5 DA.C.length a6, .slice a7 DA.L.length a8] 83 := B4_11.ext hb12
      have B5_12 : Box w12 (w4.heap.size) #[.slice b1 DB.M.W.length b2, .slice b3 DB.M.G.length b4, .bool DB.M.bad, .slice b5 DB.C.length b6, .slice b7 DB.L.length b8] 83 := B5_11.ext hb12
      have B6_12 : Box w12 (w5.heap.size) #[.slice c1 DC.M.W.length c2, .slice c3 DC.M.G.length c4, .bool DC.M.bad, .slice c5 DC.C.length c6, .slice c7 DC.L.length c8] 83 := B6_11.ext hb12
      have B7_12 : Box w12 (w6.heap.size) #[.slice d1 DD.M.W.length d2, .slice d3 DD.M.G.length d4, .bool DD.M.bad, .slice d5 DD.C.length d6, .slice d7 DD.L.length d8] 83 := B7_11.ext hb12
      have B8_12 : Box w12 (w7.heap.size) #[.slice m1 DA.M.W.length m2, .slice m3 DA.M.G.length m4, .bool DA.M.bad, .slice m5 DA.C.length m6, .slice m7 DA.L.length m8] 83 := B8_11.ext hb12
      have B9_12 : Box w12 (w8.heap.size) #[.slice n1 DB.M.W.length n2, .slice n3 DB.M.G.length n4, .bool DB.M.bad, .slice n5 DB.C.length n6, .slice n7 DB.L.length n8] 83 := B9_11.ext hb12
      have B10_12 : Box w12 (w9.heap.size) #[.slice o1 DC.M.W.length o2, .slice o3 DC.M.G.length o4, .bool DC.M.bad, .slice o5 DC.C.length o6, .slice o7 DC.L.length o8] 83 := B10_11.ext hb12
      have B11_12 : Box w12 (w10.heap.size) #[.slice p1 DD.M.W.length p2, .slice p3 DD.M.G.length p4, .bool DD.M.bad, .slice p5 DD.C.length p6, .slice p7 DD.L.length p8] 83 := B11_11.ext hb12
      clear c0_0 c0_1 c0_2 c0_3 c0_4 c0_5 c0_6 c0_7 c0_8 c0_9 c0_10 c0_11 c0_12 c0_13 c0_14 c0_15 c0_16 c0_17 c0_18 d0_0 d0_1 d0_2 d0_3 d0_4 d0_5 d0_6 d0_7 d0_8 d0_9 d0_10 d0_11 d0_12 d0_13 d0_14 d0_15 d0_16 d0_17 d0_18 z0 c1_0 c1_1 c1_2 c1_3 c1_4 d1_0 d1_1 d1_2 d1_3 d1_4 z1 c2_0 c2_1 c2_2 c2_3 c2_4 c2_5 c2_6 c2_7 c2_8 c2_9 c2_10 d2_0 d2_1 d2_2 d2_3 d2_4 d2_5 d2_6 d2_7 d2_8 d2_9 d2_10 z2 c4_0 c4_1 c4_2 c4_3 c4_4 d4_0 d4_1 d4_2 d4_3 d4_4 z4 c5_0 c5_1 c5_2 c5_3 c5_4 d5_0 d5_1 d5_2 d5_3 d5_4 z5 c6_0 c6_1 c6_2 c6_3 c6_4 d6_0 d6_1 d6_2 d6_3 d6_4 z6 c7_0 c7_1 c7_2 c7_3 c7_4 d7_0 d7_1 d7_2 d7_3 d7_4 z7 c8_0 c8_1 c8_2 c8_3 c8_4 d8_0 d8_1 d8_2 d8_3 d8_4 z8 c9_0 c9_1 c9_2 c9_3 c9_4 d9_0 d9_1 d9_2 d9_3 d9_4 z9 c10_0 c10_1 c10_2 c10_3 c10_4 d10_0 d10_1 d10_2 d10_3 d10_4 z10 c11_0 c11_1 c11_2 c11_3 c11_4 d11_0 d11_1 d11_2 d11_3 d11_4 z11
      have s12 : w11.heap.size ≤ w12.heap.size := (by have h := hb12.size; first | omega | (simp at h; omega))
      obtain ⟨c0_0, c0_1, c0_2, c0_3, c0_4, c0_5, c0_6, c0_7, c0_8, c0_9, c0_10, c0_11, c0_12, c0_13, c0_14, c0_15, c0_16, c0_17, c0_18, d0_0, d0_1, d0_2, d0_3, d0_4, d0_5, d0_6, d0_7, d0_8, d0_9, d0_10, d0_11, d0_12, d0_13, d0_14, d0_15, d0_16, d0_17, d0_18⟩ := cells19 B0_12
      have z0 : w.heap.size < w12.heap.size := B0_12.lt
      obtain ⟨c1_0, c1_1, c1_2, c1_3, c1_4, d1_0, d1_1, d1_2, d1_3, d1_4⟩ := cells5 B1_12
      have z1 : w.heap.size + 1 < w12.heap.size := B1_12.lt
      obtain ⟨⟨c2_0, c2_1, c2_2, c2_3, c2_4, c2_5, c2_6, c2_7, c2_8, c2_9, c2_10⟩, d2_0, d2_1, d2_2, d2_3, d2_4, d2_5, d2_6, d2_7, d2_8, d2_9, d2_10⟩ := cells11 B2_12
      have z2 : w.heap.size + 1 + 1 < w12.heap.size := B2_12.lt
      obtain ⟨c4_0, c4_1, c4_2, c4_3, c4_4, d4_0, d4_1, d4_2, d4_3, d4_4⟩ := cells5 B4_12
      have z4 : w3.heap.size < w12.heap.size := B4_12.lt
      obtain ⟨c5_0, c5_1, c5_2, c5_3, c5_4, d5_0, d5_1, d5_2, d5_3, d5_4⟩ := cells5 B5_12
      have z5 : w4.heap.size < w12.heap.size := B5_12.lt
      obtain ⟨c6_0, c6_1, c6_2, c6_3, c6_4, d6_0, d6_1, d6_2, d6_3, d6_4⟩ := cells5 B6_12
      have z6 : w5.heap.size < w12.heap.size := B6_12.lt
      obtain ⟨c7_0, c7_1, c7_2, c7_3, c7_4, d7_0, d7_1, d7_2, d7_3, d7_4⟩ := cells5 B7_12
      have z7 : w6.heap.size < w12.heap.size := B7_12.lt
      obtain ⟨c8_0, c8_1, c8_2, c8_3, c8_4, d8_0, d8_1, d8_2, d8_3, d8_4⟩ := cells5 B8_12
      have z8 : w7.heap.size < w12.heap.size := B8_12.lt
      obtain ⟨c9_0, c9_1, c9_2, c9_3, c9_4, d9_0, d9_1, d9_2, d9_3, d9_4⟩ := cells5 B9_12
      have z9 : w8.heap.size < w12.heap.size := B9_12.lt
      obtain ⟨c10_0, c10_1, c10_2, c10_3, c10_4, d10_0, d10_1, d10_2, d10_3, d10_4⟩ := cells5 B10_12
      have z10 : w9.heap.size < w12.heap.size := B10_12.lt
      obtain ⟨c11_0, c11_1, c11_2, c11_3, c11_4, d11_0, d11_1, d11_2, d11_3, d11_4⟩ := cells5 B11_12
      have z11 : w10.heap.size < w12.heap.size := B11_12.lt
      go_wp2_with (fail)
      go_at_call 78
      refine (refSys_ no _ _ DC DC _ (ht5.ext exq) (ht9.ext exq)).calls.mono ?_
      rintro e w13 ⟨_, rfl, hb13, rfl⟩
      rw [sameS_refl]
      have B0_13 : Box w13 (w.heap.size) #[.slice aw s.M.W.length cw, .slice ag s.M.G.length cg, .bool s.M.bad, .slice ac s.C.length cc, .slice al s.L.length cl, .int .i64 id, .int .i64 g.op, .int .i64 g.pc, .int .i64 (gi g.R 0), .int .i64 (gi g.R 1), .int .i64 (gi g.R 2), .int .i64 (gi g.R 3), .int .i64 (gi g.R 4), .int .i64 (gi g.R 5), .int .i64 (gi g.R 6), .int .i64 (gi g.R 7), .slice fa g.S.length fc, .int .i64 v, .int .u8 z] 100 := B0_12.ext hb13
      have B1_13 : Box w13 (w.heap.size + 1) #[.slice aw s.M.W.length cw, .slice ag s.M.G.length cg, .bool s.M.bad, .slice ac s.C.length cc, .slice al s.L.length cl] 83 := B1_12.ext hb13
      have B2_13 : Box w13 (w.heap.size + 1 + 1) #[.int .i64 g.op, .int .i64 g.pc, .int .i64 (gi g.R 0), .int .i64 (gi g.R 1), .int .i64 (gi g.R 2), .int .i64 (gi g.R 3), .int .i64 (gi g.R 4), .int .i64 (gi g.R 5), .int .i64 (gi g.R 6), .int .i64 (gi g.R 7), .slice fa g.S.length fc] 95 := B2_12.ext hb13
      have B4_13 : Box w13 (w3.heap.size) #[.slice a1 DA.M.W.length a2, .slice a3 DA.M.G.length a4, .bool DA.M.bad, .slice a5 DA.C.length a6, .slice a7 DA.L.length a8] 83 := B4_12.ext hb13
      have B5_13 : Box w13 (w4.heap.size) #[.slice b1 DB.M.W.length b2, .slice b3 DB.M.G.length b4, .bool DB.M.bad, .slice b5 DB.C.length b6, .slice b7 DB.L.length b8] 83 := B5_12.ext hb13
      have B6_13 : Box w13 (w5.heap.size) #[.slice c1 DC.M.W.length c2, .slice c3 DC.M.G.length c4, .bool DC.M.bad, .slice c5 DC.C.length c6, .slice c7 DC.L.length c8] 83 := B6_12.ext hb13
      have B7_13 : Box w13 (w6.heap.size) #[.slice d1 DD.M.W.length d2, .slice d3 DD.M.G.length d4, .bool DD.M.bad, .slice d5 DD.C.length d6, .slice d7 DD.L.length d8] 83 := B7_12.ext hb13
      have B8_13 : Box w13 (w7.heap.size) #[.slice m1 DA.M.W.length m2, .slice m3 DA.M.G.length m4, .bool DA.M.bad, .slice m5 DA.C.length m6, .slice m7 DA.L.length m8] 83 := B8_12.ext hb13
      have B9_13 : Box w13 (w8.heap.size) #[.slice n1 DB.M.W.length n2, .slice n3 DB.M.G.length n4, .bool DB.M.bad, .slice n5 DB.C.length n6, .slice n7 DB.L.length n8] 83 := B9_12.ext hb13
      have B10_13 : Box w13 (w9.heap.size) #[.slice o1 DC.M.W.length o2, .slice o3 DC.M.G.length o4, .bool DC.M.bad, .slice o5 DC.C.length o6, .slice o7 DC.L.length o8] 83 := B10_12.ext hb13
      have B11_13 : Box w13 (w10.heap.size) #[.slice p1 DD.M.W.length p2, .slice p3 DD.M.G.length p4, .bool DD.M.bad, .slice p5 DD.C.length p6, .slice p7 DD.L.length p8] 83 := B11_12.ext hb13
      clear c0_0 c0_1 c0_2 c0_3 c0_4 c0_5 c0_6 c0_7 c0_8 c0_9 c0_10 c0_11 c0_12 c0_13 c0_14 c0_15 c0_16 c0_17 c0_18 d0_0 d0_1 d0_2 d0_3 d0_4 d0_5 d0_6 d0_7 d0_8 d0_9 d0_10 d0_11 d0_12 d0_13 d0_14 d0_15 d0_16 d0_17 d0_18 z0 c1_0 c1_1 c1_2 c1_3 c1_4 d1_0 d1_1 d1_2 d1_3 d1_4 z1 c2_0 c2_1 c2_2 c2_3 c2_4 c2_5 c2_6 c2_7 c2_8 c2_9 c2_10 d2_0 d2_1 d2_2 d2_3 d2_4 d2_5 d2_6 d2_7 d2_8 d2_9 d2_10 z2 c4_0 c4_1 c4_2 c4_3 c4_4 d4_0 d4_1 d4_2 d4_3 d4_4 z4 c5_0 c5_1 c5_2 c5_3 c5_4 d5_0 d5_1 d5_2 d5_3 d5_4 z5 c6_0 c6_1 c6_2 c6_3 c6_4 d6_0 d6_1 d6_2 d6_3 d6_4 z6 c7_0 c7_1 c7_2 c7_3 c7_4 d7_0 d7_1 d7_2 d7_3 d7_4 z7 c8_0 c8_1 c8_2 c8_3 c8_4 d8_0 d8_1 d8_2 d8_3 d8_4 z8 c9_0 c9_1 c9_2 c9_3 c9_4 d9_0 d9_1 d9_2 d9_3 d9_4 z9 c10_0 c10_1 c10_2 c10_3 c10_4 d10_0 d10_1 d10_2 d10_3 d10_4 z10 c11_0 c11_1 c11_2 c11_3 c11_4 d11_0 d11_1 d11_2 d11_3 d11_4 z11
      have s13 : w12.heap.size ≤ w13.heap.size := (by have h := hb13.size; first | omega | (simp at h; omega))
      obtain ⟨c0_0, c0_1, c0_2, c0_3, c0_4, c0_5, c0_6, c0_7, c0_8, c0_9, c0_10, c0_11, c0_12, c0_13, c0_14, c0_15, c0_16, c0_17, c0_18, d0_0, d0_1, d0_2, d0_3, d0_4, d0_5, d0_6, d0_7, d0_8, d0_9, d0_10, d0_11, d0_12, d0_13, d0_14, d0_15, d0_16, d0_17, d0_18⟩ := cells19 B0_13
      have z0 : w.heap.size < w13.heap.size := B0_13.lt
      obtain ⟨c1_0, c1_1, c1_2, c1_3, c1_4, d1_0, d1_1, d1_2, d1_3, d1_4⟩ := cells5 B1_13
      have z1 : w.heap.size + 1 < w13.heap.size := B1_13.lt
      obtain ⟨⟨c2_0, c2_1, c2_2, c2_3, c2_4, c2_5, c2_6, c2_7, c2_8, c2_9, c2_10⟩, d2_0, d2_1, d2_2, d2_3, d2_4, d2_5, d2_6, d2_7, d2_8, d2_9, d2_10⟩ := cells11 B2_13
      have z2 : w.heap.size + 1 + 1 < w13.heap.size := B2_13.lt
      obtain ⟨c4_0, c4_1, c4_2, c4_3, c4_4, d4_0, d4_1, d4_2, d4_3, d4_4⟩ := cells5 B4_13
      have z4 : w3.heap.size < w13.heap.size := B4_13.lt
      obtain ⟨c5_0, c5_1, c5_2, c5_3, c5_4, d5_0, d5_1, d5_2, d5_3, d5_4⟩ := cells5 B5_13
      have z5 : w4.heap.size < w13.heap.size := B5_13.lt
      obtain ⟨c6_0, c6_1, c6_2, c6_3, c6_4, d6_0, d6_1, d6_2, d6_3, d6_4⟩ := cells5 B6_13
      have z6 : w5.heap.size < w13.heap.size := B6_13.lt
      obtain ⟨c7_0, c7_1, c7_2, c7_3, c7_4, d7_0, d7_1, d7_2, d7_3, d7_4⟩ := cells5 B7_13
      have z7 : w6.heap.size < w13.heap.size := B7_13.lt
      obtain ⟨c8_0, c8_1, c8_2, c8_3, c8_4, d8_0, d8_1, d8_2, d8_3, d8_4⟩ := cells5 B8_13
      have z8 : w7.heap.size < w13.heap.size := B8_13.lt
      obtain ⟨c9_0, c9_1, c9_2, c9_3, c9_4, d9_0, d9_1, d9_2, d9_3, d9_4⟩ := cells5 B9_13
      have z9 : w8.heap.size < w13.heap.size := B9_13.lt
      obtain ⟨c10_0, c10_1, c10_2, c10_3, c10_4, d10_0, d10_1, d10_2, d10_3, d10_4⟩ := cells5 B10_13
      have z10 : w9.heap.size < w13.heap.size := B10_13.lt
      obtain ⟨c11_0, c11_1, c11_2, c11_3, c11_4, d11_0, d11_1, d11_2, d11_3, d11_4⟩ := cells5 B11_13
      have z11 : w10.heap.size < w13.heap.size := B11_13.lt
      go_wp2_with (fail)
      go_at_call 78
      refine (refSys_ no _ _ DD DD _ (ht6.ext exq) (ht10.ext exq)).calls.mono ?_
      rintro e w14 ⟨_, rfl, hb14, rfl⟩
      rw [sameS_refl]
      have B0_14 : Box w14 (w.heap.size) #[.slice aw s.M.W.length cw, .slice ag s.M.G.length cg, .bool s.M.bad, .slice ac s.C.length cc, .slice al s.L.length cl, .int .i64 id, .int .i64 g.op, .int .i64 g.pc, .int .i64 (gi g.R 0), .int .i64 (gi g.R 1), .int .i64 (gi g.R 2), .int .i64 (gi g.R 3), .int .i64 (gi g.R 4), .int .i64 (gi g.R 5), .int .i64 (gi g.R 6), .int .i64 (gi g.R 7), .slice fa g.S.length fc, .int .i64 v, .int .u8 z] 100 := B0_13.ext hb14
      have B1_14 : Box w14 (w.heap.size + 1) #[.slice aw s.M.W.length cw, .slice ag s.M.G.length cg, .bool s.M.bad, .slice ac s.C.length cc, .slice al s.L.length cl] 83 := B1_13.ext hb14
      have B2_14 : Box w14 (w.heap.size + 1 + 1) #[.int .i64 g.op, .int .i64 g.pc, .int .i64 (gi g.R 0), .int .i64 (gi g.R 1), .int .i64 (gi g.R 2), .int .i64 (gi g.R 3), .int .i64 (gi g.R 4), .int .i64 (gi g.R 5), .int .i64 (gi g.R 6), .int .i64 (gi g.R 7), .slice fa g.S.length fc] 95 := B2_13.ext hb14
      have B4_14 : Box w14 (w3.heap.size) #[.slice a1 DA.M.W.length a2, .slice a3 DA.M.G.length a4, .bool DA.M.bad, .slice a5 DA.C.length a6, .slice a7 DA.L.length a8] 83 := B4_13.ext hb14
      have B5_14 : Box w14 (w4.heap.size) #[.slice b1 DB.M.W.length b2, .slice b3 DB.M.G.length b4, .bool DB.M.bad, .slice b5 DB.C.length b6, .slice b7 DB.L.length b8] 83 := B5_13.ext hb14
      have B6_14 : Box w14 (w5.heap.size) #[.slice c1 DC.M.W.length c2, .slice c3 DC.M.G.length c4, .bool DC.M.bad, .slice c5 DC.C.length c6, .slice c7 DC.L.length c8] 83 := B6_13.ext hb14
      have B7_14 : Box w14 (w6.heap.size) #[.slice d1 DD.M.W.length d2, .slice d3 DD.M.G.length d4, .bool DD.M.bad, .slice d5 DD.C.length d6, .slice d7 DD.L.length d8] 83 := B7_13.ext hb14
      have B8_14 : Box w14 (w7.heap.size) #[.slice m1 DA.M.W.length m2, .slice m3 DA.M.G.length m4, .bool DA.M.bad, .slice m5 DA.C.length m6, .slice m7 DA.L.length m8] 83 := B8_13.ext hb14
      have B9_14 : Box w14 (w8.heap.size) #[.slice n1 DB.M.W.length n2, .slice n3 DB.M.G.length n4, .bool DB.M.bad, .slice n5 DB.C.length n6, .slice n7 DB.L.length n8] 83 := B9_13.ext hb14
      have B10_14 : Box w14 (w9.heap.size) #[.slice o1 DC.M.W.length o2, .slice o3 DC.M.G.length o4, .bool DC.M.bad, .slice o5 DC.C.length o6, .slice o7 DC.L.length o8] 83 := B10_13.ext hb14
      have B11_14 : Box w14 (w10.heap.size) #[.slice p1 DD.M.W.length p2, .slice p3 DD.M.G.length p4, .bool DD.M.bad, .slice p5 DD.C.length p6, .slice p7 DD.L.length p8] 83 := B11_13.ext hb14
      clear c0_0 c0_1 c0_2 c0_3 c0_4 c0_5 c0_6 c0_7 c0_8 c0_9 c0_10 c0_11 c0_12 c0_13 c0_14 c0_15 c0_16 c0_17 c0_18 d0_0 d0_1 d0_2 d0_3 d0_4 d0_5 d0_6 d0_7 d0_8 d0_9 d0_10 d0_11 d0_12 d0_13 d0_14 d0_15 d0_16 d0_17 d0_18 z0 c1_0 c1_1 c1_2 c1_3 c1_4 d1_0 d1_1 d1_2 d1_3 d1_4 z1 c2_0 c2_1 c2_2 c2_3 c2_4 c2_5 c2_6 c2_7 c2_8 c2_9 c2_10 d2_0 d2_1 d2_2 d2_3 d2_4 d2_5 d2_6 d2_7 d2_8 d2_9 d2_10 z2 c4_0 c4_1 c4_2 c4_3 c4_4 d4_0 d4_1 d4_2 d4_3 d4_4 z4 c5_0 c5_1 c5_2 c5_3 c5_4 d5_0 d5_1 d5_2 d5_3 d5_4 z5 c6_0 c6_1 c6_2 c6_3 c6_4 d6_0 d6_1 d6_2 d6_3 d6_4 z6 c7_0 c7_1 c7_2 c7_3 c7_4 d7_0 d7_1 d7_2 d7_3 d7_4 z7 c8_0 c8_1 c8_2 c8_3 c8_4 d8_0 d8_1 d8_2 d8_3 d8_4 z8 c9_0 c9_1 c9_2 c9_3 c9_4 d9_0 d9_1 d9_2 d9_3 d9_4 z9 c10_0 c10_1 c10_2 c10_3 c10_4 d10_0 d10_1 d10_2 d10_3 d10_4 z10 c11_0 c11_1 c11_2 c11_3 c11_4 d11_0 d11_1 d11_2 d11_3 d11_4 z11
      have s14 : w13.heap.size ≤ w14.heap.size := (by have h := hb14.size; first | omega | (simp at h; omega))
      obtain ⟨c0_0, c0_1, c0_2, c0_3, c0_4, c0_5, c0_6, c0_7, c0_8, c0_9, c0_10, c0_11, c0_12, c0_13, c0_14, c0_15, c0_16, c0_17, c0_18, d0_0, d0_1, d0_2, d0_3, d0_4, d0_5, d0_6, d0_7, d0_8, d0_9, d0_10, d0_11, d0_12, d0_13, d0_14, d0_15, d0_16, d0_17, d0_18⟩ := cells19 B0_14
      have z0 : w.heap.size < w14.heap.size := B0_14.lt
      obtain ⟨c1_0, c1_1, c1_2, c1_3, c1_4, d1_0, d1_1, d1_2, d1_3, d1_4⟩ := cells5 B1_14
      have z1 : w.heap.size + 1 < w14.heap.size := B1_14.lt
      obtain ⟨⟨c2_0, c2_1, c2_2, c2_3, c2_4, c2_5, c2_6, c2_7, c2_8, c2_9, c2_10⟩, d2_0, d2_1, d2_2, d2_3, d2_4, d2_5, d2_6, d2_7, d2_8, d2_9, d2_10⟩ := cells11 B2_14
      have z2 : w.heap.size + 1 + 1 < w14.heap.size := B2_14.lt
      obtain ⟨c4_0, c4_1, c4_2, c4_3, c4_4, d4_0, d4_1, d4_2, d4_3, d4_4⟩ := cells5 B4_14
      have z4 : w3.heap.size < w14.heap.size := B4_14.lt
      obtain ⟨c5_0, c5_1, c5_2, c5_3, c5_4, d5_0, d5_1, d5_2, d5_3, d5_4⟩ := cells5 B5_14
      have z5 : w4.heap.size < w14.heap.size := B5_14.lt
      obtain ⟨c6_0, c6_1, c6_2, c6_3, c6_4, d6_0, d6_1, d6_2, d6_3, d6_4⟩ := cells5 B6_14
      have z6 : w5.heap.size < w14.heap.size := B6_14.lt
      obtain ⟨c7_0, c7_1, c7_2, c7_3, c7_4, d7_0, d7_1, d7_2, d7_3, d7_4⟩ := cells5 B7_14
      have z7 : w6.heap.size < w14.heap.size := B7_14.lt
      obtain ⟨c8_0, c8_1, c8_2, c8_3, c8_4, d8_0, d8_1, d8_2, d8_3, d8_4⟩ := cells5 B8_14
      have z8 : w7.heap.size < w14.heap.size := B8_14.lt
      obtain ⟨c9_0, c9_1, c9_2, c9_3, c9_4, d9_0, d9_1, d9_2, d9_3, d9_4⟩ := cells5 B9_14
      have z9 : w8.heap.size < w14.heap.size := B9_14.lt
      obtain ⟨c10_0, c10_1, c10_2, c10_3, c10_4, d10_0, d10_1, d10_2, d10_3, d10_4⟩ := cells5 B10_14
      have z10 : w9.heap.size < w14.heap.size := B10_14.lt
      obtain ⟨c11_0, c11_1, c11_2, c11_3, c11_4, d11_0, d11_1, d11_2, d11_3, d11_4⟩ := cells5 B11_14
      have z11 : w10.heap.size < w14.heap.size := B11_14.lt
      go_wp2
      go_ret
      exact ⟨_, rfl, exn, rfl⟩
    · have q0 : (24 : Int) < (g.S.length : Int) := by omega
      go_enter Proofs.Try.func20, Proofs.Try.ntmps20
      go_wp2_with (fail)
      go_at_call 73
      refine (shown3_ _).calls.mono ?_
      rintro e w1 ⟨_, rfl, hb1, rfl⟩
      have B0_1 : Box w1 (w.heap.size) #[.slice aw s.M.W.length cw, .slice ag s.M.G.length cg, .bool s.M.bad, .slice ac s.C.length cc, .slice al s.L.length cl, .int .i64 id, .int .i64 g.op, .int .i64 g.pc, .int .i64 (gi g.R 0), .int .i64 (gi g.R 1), .int .i64 (gi g.R 2), .int .i64 (gi g.R 3), .int .i64 (gi g.R 4), .int .i64 (gi g.R 5), .int .i64 (gi g.R 6), .int .i64 (gi g.R 7), .slice fa g.S.length fc, .int .i64 v, .int .u8 z] 100 := (((Box.newAt _ _ _ (by first | rfl | simp)).alloc _).alloc _).ext hb1
      have B1_1 : Box w1 (w.heap.size + 1) #[.slice aw s.M.W.length cw, .slice ag s.M.G.length cg, .bool s.M.bad, .slice ac s.C.length cc, .slice al s.L.length cl] 83 := ((Box.newAt _ _ _ (by first | rfl | simp)).alloc _).ext hb1
      have B2_1 : Box w1 (w.heap.size + 1 + 1) #[.int .i64 g.op, .int .i64 g.pc, .int .i64 (gi g.R 0), .int .i64 (gi g.R 1), .int .i64 (gi g.R 2), .int .i64 (gi g.R 3), .int .i64 (gi g.R 4), .int .i64 (gi g.R 5), .int .i64 (gi g.R 6), .int .i64 (gi g.R 7), .slice fa g.S.length fc] 95 := (Box.newAt _ _ _ (by first | rfl | simp)).ext hb1
      have s1 : w.heap.size + 3 ≤ w1.heap.size := (by have h := hb1.size; first | omega | (simp at h; omega))
      obtain ⟨c0_0, c0_1, c0_2, c0_3, c0_4, c0_5, c0_6, c0_7, c0_8, c0_9, c0_10, c0_11, c0_12, c0_13, c0_14, c0_15, c0_16, c0_17, c0_18, d0_0, d0_1, d0_2, d0_3, d0_4, d0_5, d0_6, d0_7, d0_8, d0_9, d0_10, d0_11, d0_12, d0_13, d0_14, d0_15, d0_16, d0_17, d0_18⟩ := cells19 B0_1
      have z0 : w.heap.size < w1.heap.size := B0_1.lt
      obtain ⟨c1_0, c1_1, c1_2, c1_3, c1_4, d1_0, d1_1, d1_2, d1_3, d1_4⟩ := cells5 B1_1
      have z1 : w.heap.size + 1 < w1.heap.size := B1_1.lt
      obtain ⟨⟨c2_0, c2_1, c2_2, c2_3, c2_4, c2_5, c2_6, c2_7, c2_8, c2_9, c2_10⟩, d2_0, d2_1, d2_2, d2_3, d2_4, d2_5, d2_6, d2_7, d2_8, d2_9, d2_10⟩ := cells11 B2_1
      have z2 : w.heap.size + 1 + 1 < w1.heap.size := B2_1.lt
      go_wp2_with (fail)
      go_at_call 83
      refine (km _ exq).calls.mono ?_
      rintro e w2 ⟨_, rfl, hb2, rfl⟩
      have B0_2 : Box w2 (w.heap.size) #[.slice aw s.M.W.length cw, .slice ag s.M.G.length cg, .bool s.M.bad, .slice ac s.C.length cc, .slice al s.L.length cl, .int .i64 id, .int .i64 g.op, .int .i64 g.pc, .int .i64 (gi g.R 0), .int .i64 (gi g.R 1), .int .i64 (gi g.R 2), .int .i64 (gi g.R 3), .int .i64 (gi g.R 4), .int .i64 (gi g.R 5), .int .i64 (gi g.R 6), .int .i64 (gi g.R 7), .slice fa g.S.length fc, .int .i64 v, .int .u8 z] 100 := B0_1.ext hb2
      have B1_2 : Box w2 (w.heap.size + 1) #[.slice aw s.M.W.length cw, .slice ag s.M.G.length cg, .bool s.M.bad, .slice ac s.C.length cc, .slice al s.L.length cl] 83 := B1_1.ext hb2
      have B2_2 : Box w2 (w.heap.size + 1 + 1) #[.int .i64 g.op, .int .i64 g.pc, .int .i64 (gi g.R 0), .int .i64 (gi g.R 1), .int .i64 (gi g.R 2), .int .i64 (gi g.R 3), .int .i64 (gi g.R 4), .int .i64 (gi g.R 5), .int .i64 (gi g.R 6), .int .i64 (gi g.R 7), .slice fa g.S.length fc] 95 := B2_1.ext hb2
      clear c0_0 c0_1 c0_2 c0_3 c0_4 c0_5 c0_6 c0_7 c0_8 c0_9 c0_10 c0_11 c0_12 c0_13 c0_14 c0_15 c0_16 c0_17 c0_18 d0_0 d0_1 d0_2 d0_3 d0_4 d0_5 d0_6 d0_7 d0_8 d0_9 d0_10 d0_11 d0_12 d0_13 d0_14 d0_15 d0_16 d0_17 d0_18 z0 c1_0 c1_1 c1_2 c1_3 c1_4 d1_0 d1_1 d1_2 d1_3 d1_4 z1 c2_0 c2_1 c2_2 c2_3 c2_4 c2_5 c2_6 c2_7 c2_8 c2_9 c2_10 d2_0 d2_1 d2_2 d2_3 d2_4 d2_5 d2_6 d2_7 d2_8 d2_9 d2_10 z2
      have s2 : w1.heap.size ≤ w2.heap.size := (by have h := hb2.size; first | omega | (simp at h; omega))
      obtain ⟨c0_0, c0_1, c0_2, c0_3, c0_4, c0_5, c0_6, c0_7, c0_8, c0_9, c0_10, c0_11, c0_12, c0_13, c0_14, c0_15, c0_16, c0_17, c0_18, d0_0, d0_1, d0_2, d0_3, d0_4, d0_5, d0_6, d0_7, d0_8, d0_9, d0_10, d0_11, d0_12, d0_13, d0_14, d0_15, d0_16, d0_17, d0_18⟩ := cells19 B0_2
      have z0 : w.heap.size < w2.heap.size := B0_2.lt
      obtain ⟨c1_0, c1_1, c1_2, c1_3, c1_4, d1_0, d1_1, d1_2, d1_3, d1_4⟩ := cells5 B1_2
      have z1 : w.heap.size + 1 < w2.heap.size := B1_2.lt
      obtain ⟨⟨c2_0, c2_1, c2_2, c2_3, c2_4, c2_5, c2_6, c2_7, c2_8, c2_9, c2_10⟩, d2_0, d2_1, d2_2, d2_3, d2_4, d2_5, d2_6, d2_7, d2_8, d2_9, d2_10⟩ := cells11 B2_2
      have z2 : w.heap.size + 1 + 1 < w2.heap.size := B2_2.lt
      go_wp2
      go_ret
      exact ⟨_, rfl, exn, rfl⟩
end Go.Proofs.Ytcfbdfgondmkoaa
