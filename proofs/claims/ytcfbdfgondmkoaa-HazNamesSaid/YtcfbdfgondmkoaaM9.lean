/- Texts of this work, put together: HzB, HzC. -/
import Derived.Test.YtcfbdfgondmkoaaM5
/- A step of a core: its slots. -/
namespace Go.Proofs.Ytcfbdfgondmkoaa
open Go Go.RowKit
set_option linter.unusedSimpArgs false
set_option linter.unusedVariables false
set_option linter.unnecessarySimpa false

set_option maxHeartbeats 1000000 in
set_option maxRecDepth 100000 in
theorem prot_z0 (N : Nat → Prop) (s : SysD) (id op q0 q1 q2 q3 q4 q5 q6 q7 : Int) (fS : List Int) (aw ag ac al ga : Option Addr) (cw cg cc cl gc : Nat) (w : World) (hw : IsInts N w (.slice aw s.M.W.length cw) s.M.W) (hg : IsInts N w (.slice ag s.M.G.length cg) s.M.G) (hc : IsCores N w (.slice ac s.C.length cc) s.C) (hl : IsEvs N w (.slice al s.L.length cl) s.L) (fs : IsInts N w (.slice ga fS.length gc) fS)
    (hN : ∀ b, N b → b < w.heap.size) (hC : s.C.length ≤ 100000) (hFm : ∀ (i : Nat) c, s.C[i]? = some c → c.F.length ≤ 100000) (hfit : Fits s.M) (hid0 : 0 ≤ id) (hid1 : id ≤ 100) (hlo : -9223372036854775808 ≤ q0) (hhi : q0 ≤ 9223372036854775807) (hi : (idx (loadD s.M q0) == 0) = true) :
    Gives Proofs.Try.prog 148 #[.agg #[.slice aw s.M.W.length cw, .slice ag s.M.G.length cg, .bool s.M.bad, .slice ac s.C.length cc, .slice al s.L.length cl], .int .i64 id, .agg #[.int .i64 op, .int .i64 0, .int .i64 q0, .int .i64 q1, .int .i64 q2, .int .i64 q3, .int .i64 q4, .int .i64 q5, .int .i64 q6, .int .i64 q7, .slice ga fS.length gc]] w (fun r w' => IsSys N w' r (backS (memS s (touchD s.M q0)) id (loadD s.M q0) 0)) := by
  have hwB := hw.bxn (hi := w.heap.size + 3)
  have hgB := hg.bxn (hi := w.heap.size + 3)
  have hcB := hc.bxn (hi := w.heap.size + 3)
  have hlB := hl.bxn (hi := w.heap.size + 3)
  have fsB := fs.bxn (hi := w.heap.size + 3)
  obtain ⟨m1, hm1⟩ : ∃ m, touchD s.M q0 = m := ⟨_, rfl⟩
  obtain ⟨v, hv⟩ : ∃ x, loadD s.M q0 = x := ⟨_, rfl⟩
  have kl : ∀ (w' : World) (va : Value), IsMem (Bx N w.heap.size (w.heap.size + 3)) w' va s.M → w.heap.size + 3 ≤ w'.heap.size → Gives Proofs.Try.prog 64 #[va, .int .i64 (q0)] w' (fun r w' => ∃ u, r = .tuple #[u, .int .i64 v] ∧ IsMem (Bx N w.heap.size (w.heap.size + 3)) w' u m1) := fun w' va hm hsz => by
    have := memLoad_ (Bx N w.heap.size (w.heap.size + 3)) va s.M (q0) w' hm hfit (Bx.le hN hsz) hlo hhi
    rw [hm1, hv] at this; exact this
  rw [hm1]
  try rw [hv]
  rw [hv] at hi
  clear hm1 hv
  go_enter Proofs.Try.func148, Proofs.Try.ntmps148
  go_wp2_with (fail)
  go_at_call 64
  refine (kl _ _ (IsMem.mk rfl (IsInts.keep hwB keq) (IsInts.keep hgB keq)) (by first | omega | (simp <;> omega))).calls.mono ?_
  rintro e w1 ⟨_, rfl, hb1, u, rfl, hu1⟩
  obtain ⟨u1, u2, u3, u4, rfl, mw, mg⟩ := hu1.opened
  have B0_1 : Box w1 (w.heap.size) #[.slice aw s.M.W.length cw, .slice ag s.M.G.length cg, .bool s.M.bad, .slice ac s.C.length cc, .slice al s.L.length cl] 83 := (((Box.newAt _ _ _ (by first | rfl | simp)).alloc _).alloc _).ext hb1
  have B1_1 : Box w1 (w.heap.size + 1) #[.int .i64 op, .int .i64 0, .int .i64 q0, .int .i64 q1, .int .i64 q2, .int .i64 q3, .int .i64 q4, .int .i64 q5, .int .i64 q6, .int .i64 q7, .slice ga fS.length gc] 95 := ((Box.newAt _ _ _ (by first | rfl | simp)).alloc _).ext hb1
  have B2_1 : Box w1 (w.heap.size + 1 + 1) #[.slice none 0 0, .slice none 0 0, .bool false, .slice none 0 0, .slice none 0 0] 83 := (Box.newAt _ _ _ (by first | rfl | simp)).ext hb1
  have s1 : w.heap.size + 3 ≤ w1.heap.size := (by have h := hb1.size; first | omega | (simp at h; omega))
  obtain ⟨c0_0, c0_1, c0_2, c0_3, c0_4, d0_0, d0_1, d0_2, d0_3, d0_4⟩ := cells5 B0_1
  have z0 : w.heap.size < w1.heap.size := B0_1.lt
  obtain ⟨⟨c1_0, c1_1, c1_2, c1_3, c1_4, c1_5, c1_6, c1_7, c1_8, c1_9, c1_10⟩, d1_0, d1_1, d1_2, d1_3, d1_4, d1_5, d1_6, d1_7, d1_8, d1_9, d1_10⟩ := cells11 B1_1
  have z1 : w.heap.size + 1 < w1.heap.size := B1_1.lt
  obtain ⟨c2_0, c2_1, c2_2, c2_3, c2_4, d2_0, d2_1, d2_2, d2_3, d2_4⟩ := cells5 B2_1
  have z2 : w.heap.size + 1 + 1 < w1.heap.size := B2_1.lt
  go_wp2_with (fail)
  go_at_call 41
  refine (idx_ v _).calls.mono ?_
  rintro e w2 ⟨_, rfl, hb2, rfl⟩
  have B0_2 : Box w2 (w.heap.size) #[.slice u1 m1.W.length u2, .slice u3 m1.G.length u4, .bool m1.bad, .slice ac s.C.length cc, .slice al s.L.length cl] 83 := ((((B0_1.setCell _).setCell _).setCell _).setOther (by first | omega | (simp <;> omega)) _).ext hb2
  have B1_2 : Box w2 (w.heap.size + 1) #[.int .i64 op, .int .i64 0, .int .i64 q0, .int .i64 q1, .int .i64 v, .int .i64 q3, .int .i64 q4, .int .i64 q5, .int .i64 q6, .int .i64 q7, .slice ga fS.length gc] 95 := ((((B1_1.setOther (by first | omega | (simp <;> omega)) _).setOther (by first | omega | (simp <;> omega)) _).setOther (by first | omega | (simp <;> omega)) _).setCell _).ext hb2
  have B2_2 : Box w2 (w.heap.size + 1 + 1) #[.slice none 0 0, .slice none 0 0, .bool false, .slice none 0 0, .slice none 0 0] 83 := ((((B2_1.setOther (by first | omega | (simp <;> omega)) _).setOther (by first | omega | (simp <;> omega)) _).setOther (by first | omega | (simp <;> omega)) _).setOther (by first | omega | (simp <;> omega)) _).ext hb2
  clear c0_0 c0_1 c0_2 c0_3 c0_4 d0_0 d0_1 d0_2 d0_3 d0_4 z0 c1_0 c1_1 c1_2 c1_3 c1_4 c1_5 c1_6 c1_7 c1_8 c1_9 c1_10 d1_0 d1_1 d1_2 d1_3 d1_4 d1_5 d1_6 d1_7 d1_8 d1_9 d1_10 z1 c2_0 c2_1 c2_2 c2_3 c2_4 d2_0 d2_1 d2_2 d2_3 d2_4 z2
  have s2 : w1.heap.size ≤ w2.heap.size := (by have h := hb2.size; first | omega | (simp at h; omega))
  obtain ⟨c0_0, c0_1, c0_2, c0_3, c0_4, d0_0, d0_1, d0_2, d0_3, d0_4⟩ := cells5 B0_2
  have z0 : w.heap.size < w2.heap.size := B0_2.lt
  obtain ⟨⟨c1_0, c1_1, c1_2, c1_3, c1_4, c1_5, c1_6, c1_7, c1_8, c1_9, c1_10⟩, d1_0, d1_1, d1_2, d1_3, d1_4, d1_5, d1_6, d1_7, d1_8, d1_9, d1_10⟩ := cells11 B1_2
  have z1 : w.heap.size + 1 < w2.heap.size := B1_2.lt
  obtain ⟨c2_0, c2_1, c2_2, c2_3, c2_4, d2_0, d2_1, d2_2, d2_3, d2_4⟩ := cells5 B2_2
  have z2 : w.heap.size + 1 + 1 < w2.heap.size := B2_2.lt
  go_wp2_with (fail)
  go_at_call 86
  refine (back_ (Bx N w.heap.size (w.heap.size + 3)) _ (memS s m1) id v 0 _ (IsSys.mk rfl (IsInts.keep mw keq) (IsInts.keep mg keq) (IsCores.keep hcB keq) (IsEvs.keep hlB keq) : IsSys (Bx N w.heap.size (w.heap.size + 3)) _ _ (memS s m1)) (Bx.le hN (by first | omega | (simp <;> omega))) hC).calls.mono ?_
  rintro e w3 ⟨_, rfl, hb3, hu3⟩
  obtain ⟨r1, r2, r3, r4, r5, r6, r7, r8, rfl, rW, rG, rC, rL⟩ := hu3.opened
  have B0_3 : Box w3 (w.heap.size) #[.slice u1 m1.W.length u2, .slice u3 m1.G.length u4, .bool m1.bad, .slice ac s.C.length cc, .slice al s.L.length cl] 83 := B0_2.ext hb3
  have B1_3 : Box w3 (w.heap.size + 1) #[.int .i64 op, .int .i64 0, .int .i64 q0, .int .i64 q1, .int .i64 v, .int .i64 q3, .int .i64 q4, .int .i64 q5, .int .i64 q6, .int .i64 q7, .slice ga fS.length gc] 95 := B1_2.ext hb3
  have B2_3 : Box w3 (w.heap.size + 1 + 1) #[.slice none 0 0, .slice none 0 0, .bool false, .slice none 0 0, .slice none 0 0] 83 := B2_2.ext hb3
  clear c0_0 c0_1 c0_2 c0_3 c0_4 d0_0 d0_1 d0_2 d0_3 d0_4 z0 c1_0 c1_1 c1_2 c1_3 c1_4 c1_5 c1_6 c1_7 c1_8 c1_9 c1_10 d1_0 d1_1 d1_2 d1_3 d1_4 d1_5 d1_6 d1_7 d1_8 d1_9 d1_10 z1 c2_0 c2_1 c2_2 c2_3 c2_4 d2_0 d2_1 d2_2 d2_3 d2_4 z2
  have s3 : w2.heap.size ≤ w3.heap.size := (by have h := hb3.size; first | omega | (simp at h; omega))
  obtain ⟨c0_0, c0_1, c0_2, c0_3, c0_4, d0_0, d0_1, d0_2, d0_3, d0_4⟩ := cells5 B0_3
  have z0 : w.heap.size < w3.heap.size := B0_3.lt
  obtain ⟨⟨c1_0, c1_1, c1_2, c1_3, c1_4, c1_5, c1_6, c1_7, c1_8, c1_9, c1_10⟩, d1_0, d1_1, d1_2, d1_3, d1_4, d1_5, d1_6, d1_7, d1_8, d1_9, d1_10⟩ := cells11 B1_3
  have z1 : w.heap.size + 1 < w3.heap.size := B1_3.lt
  obtain ⟨c2_0, c2_1, c2_2, c2_3, c2_4, d2_0, d2_1, d2_2, d2_3, d2_4⟩ := cells5 B2_3
  have z2 : w.heap.size + 1 + 1 < w3.heap.size := B2_3.lt
  go_wp2
  exact bodyPost_ret (ret_cell (cs := #[.slice r1 (backS (memS s m1) id v 0).M.W.length r2, .slice r3 (backS (memS s m1) id v 0).M.G.length r4, .bool (backS (memS s m1) id v 0).M.bad, .slice r5 (backS (memS s m1) id v 0).C.length r6, .slice r7 (backS (memS s m1) id v 0).L.length r8]) (((((B2_3.setCell _).setCell _).setCell _).setCell _).setCell _) Proofs.Try.results148 rfl Proofs.Try.underlying83 rfl (by kernel_rfl)) rfl ⟨_, rfl, exn, IsSys.less (IsSys.keep hu3 keq) (fun _ _ hn => .inl hn)⟩
set_option maxHeartbeats 1000000 in
set_option maxRecDepth 100000 in
theorem prot_n0 (N : Nat → Prop) (s : SysD) (id op q0 q1 q2 q3 q4 q5 q6 q7 : Int) (fS : List Int) (aw ag ac al ga : Option Addr) (cw cg cc cl gc : Nat) (w : World) (hw : IsInts N w (.slice aw s.M.W.length cw) s.M.W) (hg : IsInts N w (.slice ag s.M.G.length cg) s.M.G) (hc : IsCores N w (.slice ac s.C.length cc) s.C) (hl : IsEvs N w (.slice al s.L.length cl) s.L) (fs : IsInts N w (.slice ga fS.length gc) fS)
    (hN : ∀ b, N b → b < w.heap.size) (hC : s.C.length ≤ 100000) (hFm : ∀ (i : Nat) c, s.C[i]? = some c → c.F.length ≤ 100000) (hfit : Fits s.M) (hid0 : 0 ≤ id) (hid1 : id ≤ 100) (hlo : -9223372036854775808 ≤ q0) (hhi : q0 ≤ 9223372036854775807) (hi : (idx (loadD s.M q0) == 0) = false) :
    Gives Proofs.Try.prog 148 #[.agg #[.slice aw s.M.W.length cw, .slice ag s.M.G.length cg, .bool s.M.bad, .slice ac s.C.length cc, .slice al s.L.length cl], .int .i64 id, .agg #[.int .i64 op, .int .i64 0, .int .i64 q0, .int .i64 q1, .int .i64 q2, .int .i64 q3, .int .i64 q4, .int .i64 q5, .int .i64 q6, .int .i64 q7, .slice ga fS.length gc]] w (fun r w' => IsSys N w' r (onS s id (touchD s.M q0) ⟨op, 0, [q0, q1, loadD s.M q0, q3, q4, q5, q6, q7], fS⟩ 1)) := by
  have hwB := hw.bxn (hi := w.heap.size + 3)
  have hgB := hg.bxn (hi := w.heap.size + 3)
  have hcB := hc.bxn (hi := w.heap.size + 3)
  have hlB := hl.bxn (hi := w.heap.size + 3)
  have fsB := fs.bxn (hi := w.heap.size + 3)
  obtain ⟨m1, hm1⟩ : ∃ m, touchD s.M q0 = m := ⟨_, rfl⟩
  obtain ⟨v, hv⟩ : ∃ x, loadD s.M q0 = x := ⟨_, rfl⟩
  have kl : ∀ (w' : World) (va : Value), IsMem (Bx N w.heap.size (w.heap.size + 3)) w' va s.M → w.heap.size + 3 ≤ w'.heap.size → Gives Proofs.Try.prog 64 #[va, .int .i64 (q0)] w' (fun r w' => ∃ u, r = .tuple #[u, .int .i64 v] ∧ IsMem (Bx N w.heap.size (w.heap.size + 3)) w' u m1) := fun w' va hm hsz => by
    have := memLoad_ (Bx N w.heap.size (w.heap.size + 3)) va s.M (q0) w' hm hfit (Bx.le hN hsz) hlo hhi
    rw [hm1, hv] at this; exact this
  rw [hm1]
  try rw [hv]
  rw [hv] at hi
  clear hm1 hv
  go_enter Proofs.Try.func148, Proofs.Try.ntmps148
  go_wp2_with (fail)
  go_at_call 64
  refine (kl _ _ (IsMem.mk rfl (IsInts.keep hwB keq) (IsInts.keep hgB keq)) (by first | omega | (simp <;> omega))).calls.mono ?_
  rintro e w1 ⟨_, rfl, hb1, u, rfl, hu1⟩
  obtain ⟨u1, u2, u3, u4, rfl, mw, mg⟩ := hu1.opened
  have B0_1 : Box w1 (w.heap.size) #[.slice aw s.M.W.length cw, .slice ag s.M.G.length cg, .bool s.M.bad, .slice ac s.C.length cc, .slice al s.L.length cl] 83 := (((Box.newAt _ _ _ (by first | rfl | simp)).alloc _).alloc _).ext hb1
  have B1_1 : Box w1 (w.heap.size + 1) #[.int .i64 op, .int .i64 0, .int .i64 q0, .int .i64 q1, .int .i64 q2, .int .i64 q3, .int .i64 q4, .int .i64 q5, .int .i64 q6, .int .i64 q7, .slice ga fS.length gc] 95 := ((Box.newAt _ _ _ (by first | rfl | simp)).alloc _).ext hb1
  have B2_1 : Box w1 (w.heap.size + 1 + 1) #[.slice none 0 0, .slice none 0 0, .bool false, .slice none 0 0, .slice none 0 0] 83 := (Box.newAt _ _ _ (by first | rfl | simp)).ext hb1
  have s1 : w.heap.size + 3 ≤ w1.heap.size := (by have h := hb1.size; first | omega | (simp at h; omega))
  obtain ⟨c0_0, c0_1, c0_2, c0_3, c0_4, d0_0, d0_1, d0_2, d0_3, d0_4⟩ := cells5 B0_1
  have z0 : w.heap.size < w1.heap.size := B0_1.lt
  obtain ⟨⟨c1_0, c1_1, c1_2, c1_3, c1_4, c1_5, c1_6, c1_7, c1_8, c1_9, c1_10⟩, d1_0, d1_1, d1_2, d1_3, d1_4, d1_5, d1_6, d1_7, d1_8, d1_9, d1_10⟩ := cells11 B1_1
  have z1 : w.heap.size + 1 < w1.heap.size := B1_1.lt
  obtain ⟨c2_0, c2_1, c2_2, c2_3, c2_4, d2_0, d2_1, d2_2, d2_3, d2_4⟩ := cells5 B2_1
  have z2 : w.heap.size + 1 + 1 < w1.heap.size := B2_1.lt
  go_wp2_with (fail)
  go_at_call 41
  refine (idx_ v _).calls.mono ?_
  rintro e w2 ⟨_, rfl, hb2, rfl⟩
  have B0_2 : Box w2 (w.heap.size) #[.slice u1 m1.W.length u2, .slice u3 m1.G.length u4, .bool m1.bad, .slice ac s.C.length cc, .slice al s.L.length cl] 83 := ((((B0_1.setCell _).setCell _).setCell _).setOther (by first | omega | (simp <;> omega)) _).ext hb2
  have B1_2 : Box w2 (w.heap.size + 1) #[.int .i64 op, .int .i64 0, .int .i64 q0, .int .i64 q1, .int .i64 v, .int .i64 q3, .int .i64 q4, .int .i64 q5, .int .i64 q6, .int .i64 q7, .slice ga fS.length gc] 95 := ((((B1_1.setOther (by first | omega | (simp <;> omega)) _).setOther (by first | omega | (simp <;> omega)) _).setOther (by first | omega | (simp <;> omega)) _).setCell _).ext hb2
  have B2_2 : Box w2 (w.heap.size + 1 + 1) #[.slice none 0 0, .slice none 0 0, .bool false, .slice none 0 0, .slice none 0 0] 83 := ((((B2_1.setOther (by first | omega | (simp <;> omega)) _).setOther (by first | omega | (simp <;> omega)) _).setOther (by first | omega | (simp <;> omega)) _).setOther (by first | omega | (simp <;> omega)) _).ext hb2
  clear c0_0 c0_1 c0_2 c0_3 c0_4 d0_0 d0_1 d0_2 d0_3 d0_4 z0 c1_0 c1_1 c1_2 c1_3 c1_4 c1_5 c1_6 c1_7 c1_8 c1_9 c1_10 d1_0 d1_1 d1_2 d1_3 d1_4 d1_5 d1_6 d1_7 d1_8 d1_9 d1_10 z1 c2_0 c2_1 c2_2 c2_3 c2_4 d2_0 d2_1 d2_2 d2_3 d2_4 z2
  have s2 : w1.heap.size ≤ w2.heap.size := (by have h := hb2.size; first | omega | (simp at h; omega))
  obtain ⟨c0_0, c0_1, c0_2, c0_3, c0_4, d0_0, d0_1, d0_2, d0_3, d0_4⟩ := cells5 B0_2
  have z0 : w.heap.size < w2.heap.size := B0_2.lt
  obtain ⟨⟨c1_0, c1_1, c1_2, c1_3, c1_4, c1_5, c1_6, c1_7, c1_8, c1_9, c1_10⟩, d1_0, d1_1, d1_2, d1_3, d1_4, d1_5, d1_6, d1_7, d1_8, d1_9, d1_10⟩ := cells11 B1_2
  have z1 : w.heap.size + 1 < w2.heap.size := B1_2.lt
  obtain ⟨c2_0, c2_1, c2_2, c2_3, c2_4, d2_0, d2_1, d2_2, d2_3, d2_4⟩ := cells5 B2_2
  have z2 : w.heap.size + 1 + 1 < w2.heap.size := B2_2.lt
  go_wp2_with (fail)
  go_at_call 149
  refine (on_ (Bx N w.heap.size (w.heap.size + 3)) _ _ (memS s m1) id 1 ⟨op, 0, [q0, q1, v, q3, q4, q5, q6, q7], fS⟩ _ (IsSys.mk rfl (IsInts.keep mw keq) (IsInts.keep mg keq) (IsCores.keep hcB keq) (IsEvs.keep hlB keq) : IsSys (Bx N w.heap.size (w.heap.size + 3)) _ _ (memS s m1)) (IsFrame.ofLit (IsInts.keep fsB keq) : IsFrame _ _ _ ⟨op, 0, [q0, q1, v, q3, q4, q5, q6, q7], fS⟩) (Bx.le hN (by first | omega | (simp <;> omega))) hC hFm).calls.mono ?_
  rintro e w3 ⟨_, rfl, hb3, hu3⟩
  obtain ⟨r1, r2, r3, r4, r5, r6, r7, r8, rfl, rW, rG, rC, rL⟩ := hu3.opened
  have B0_3 : Box w3 (w.heap.size) #[.slice u1 m1.W.length u2, .slice u3 m1.G.length u4, .bool m1.bad, .slice ac s.C.length cc, .slice al s.L.length cl] 83 := B0_2.ext hb3
  have B1_3 : Box w3 (w.heap.size + 1) #[.int .i64 op, .int .i64 0, .int .i64 q0, .int .i64 q1, .int .i64 v, .int .i64 q3, .int .i64 q4, .int .i64 q5, .int .i64 q6, .int .i64 q7, .slice ga fS.length gc] 95 := B1_2.ext hb3
  have B2_3 : Box w3 (w.heap.size + 1 + 1) #[.slice none 0 0, .slice none 0 0, .bool false, .slice none 0 0, .slice none 0 0] 83 := B2_2.ext hb3
  clear c0_0 c0_1 c0_2 c0_3 c0_4 d0_0 d0_1 d0_2 d0_3 d0_4 z0 c1_0 c1_1 c1_2 c1_3 c1_4 c1_5 c1_6 c1_7 c1_8 c1_9 c1_10 d1_0 d1_1 d1_2 d1_3 d1_4 d1_5 d1_6 d1_7 d1_8 d1_9 d1_10 z1 c2_0 c2_1 c2_2 c2_3 c2_4 d2_0 d2_1 d2_2 d2_3 d2_4 z2
  have s3 : w2.heap.size ≤ w3.heap.size := (by have h := hb3.size; first | omega | (simp at h; omega))
  obtain ⟨c0_0, c0_1, c0_2, c0_3, c0_4, d0_0, d0_1, d0_2, d0_3, d0_4⟩ := cells5 B0_3
  have z0 : w.heap.size < w3.heap.size := B0_3.lt
  obtain ⟨⟨c1_0, c1_1, c1_2, c1_3, c1_4, c1_5, c1_6, c1_7, c1_8, c1_9, c1_10⟩, d1_0, d1_1, d1_2, d1_3, d1_4, d1_5, d1_6, d1_7, d1_8, d1_9, d1_10⟩ := cells11 B1_3
  have z1 : w.heap.size + 1 < w3.heap.size := B1_3.lt
  obtain ⟨c2_0, c2_1, c2_2, c2_3, c2_4, d2_0, d2_1, d2_2, d2_3, d2_4⟩ := cells5 B2_3
  have z2 : w.heap.size + 1 + 1 < w3.heap.size := B2_3.lt
  go_wp2
  exact bodyPost_ret (ret_cell (cs := #[.slice r1 (setS (memS s m1) id (pcF ⟨op, 0, [q0, q1, v, q3, q4, q5, q6, q7], fS⟩ 1)).M.W.length r2, .slice r3 (setS (memS s m1) id (pcF ⟨op, 0, [q0, q1, v, q3, q4, q5, q6, q7], fS⟩ 1)).M.G.length r4, .bool (setS (memS s m1) id (pcF ⟨op, 0, [q0, q1, v, q3, q4, q5, q6, q7], fS⟩ 1)).M.bad, .slice r5 (setS (memS s m1) id (pcF ⟨op, 0, [q0, q1, v, q3, q4, q5, q6, q7], fS⟩ 1)).C.length r6, .slice r7 (setS (memS s m1) id (pcF ⟨op, 0, [q0, q1, v, q3, q4, q5, q6, q7], fS⟩ 1)).L.length r8]) (((((B2_3.setCell _).setCell _).setCell _).setCell _).setCell _) Proofs.Try.results148 rfl Proofs.Try.underlying83 rfl (by kernel_rfl)) rfl ⟨_, rfl, exn, IsSys.less (IsSys.keep hu3 keq) (fun _ _ hn => .inl hn)⟩
set_option maxHeartbeats 1000000 in
set_option maxRecDepth 100000 in
theorem prot_1 (N : Nat → Prop) (s : SysD) (id op q0 q1 q2 q3 q4 q5 q6 q7 : Int) (fS : List Int) (aw ag ac al ga : Option Addr) (cw cg cc cl gc : Nat) (w : World) (hw : IsInts N w (.slice aw s.M.W.length cw) s.M.W) (hg : IsInts N w (.slice ag s.M.G.length cg) s.M.G) (hc : IsCores N w (.slice ac s.C.length cc) s.C) (hl : IsEvs N w (.slice al s.L.length cl) s.L) (fs : IsInts N w (.slice ga fS.length gc) fS)
    (hN : ∀ b, N b → b < w.heap.size) (hC : s.C.length ≤ 100000) (hFm : ∀ (i : Nat) c, s.C[i]? = some c → c.F.length ≤ 100000) (hfit : Fits s.M) (hid0 : 0 ≤ id) (hid1 : id ≤ 100)  :
    Gives Proofs.Try.prog 148 #[.agg #[.slice aw s.M.W.length cw, .slice ag s.M.G.length cg, .bool s.M.bad, .slice ac s.C.length cc, .slice al s.L.length cl], .int .i64 id, .agg #[.int .i64 op, .int .i64 1, .int .i64 q0, .int .i64 q1, .int .i64 q2, .int .i64 q3, .int .i64 q4, .int .i64 q5, .int .i64 q6, .int .i64 q7, .slice ga fS.length gc]] w (fun r w' => IsSys N w' r (onS s id (storeD s.M (placeD id q1) (idx q2)) ⟨op, 1, [q0, q1, q2, q3, q4, q5, q6, q7], fS⟩ 2)) := by
  have hwB := hw.bxn (hi := w.heap.size + 3)
  have hgB := hg.bxn (hi := w.heap.size + 3)
  have hcB := hc.bxn (hi := w.heap.size + 3)
  have hlB := hl.bxn (hi := w.heap.size + 3)
  have fsB := fs.bxn (hi := w.heap.size + 3)
  obtain ⟨m1, hm1⟩ : ∃ m, storeD s.M (placeD id q1) (idx q2) = m := ⟨_, rfl⟩
  have ks : ∀ (w' : World) (va : Value), IsMem (Bx N w.heap.size (w.heap.size + 3)) w' va s.M → w.heap.size + 3 ≤ w'.heap.size → Gives Proofs.Try.prog 68 #[va, .int .i64 (placeD id q1), .int .i64 (idx q2)] w' (fun r w' => IsMem (Bx N w.heap.size (w.heap.size + 3)) w' r m1) := fun w' va hm hsz => by
    have := memStore_ (Bx N w.heap.size (w.heap.size + 3)) va s.M (placeD id q1) (idx q2) w' hm hfit (Bx.le hN hsz) (by unfold placeD wrap64; omega) (by unfold placeD wrap64; omega)
    rw [hm1] at this; exact this
  rw [hm1]
  clear hm1
  go_enter Proofs.Try.func148, Proofs.Try.ntmps148
  go_wp2_with (fail)
  obtain ⟨W8, hW⟩ : ∃ W, W = (((w.alloc (.cells #[.slice aw s.M.W.length cw, .slice ag s.M.G.length cg, .bool s.M.bad, .slice ac s.C.length cc, .slice al s.L.length cl] 83 (0, 0))).alloc (.cells #[.int .i64 op, .int .i64 1, .int .i64 q0, .int .i64 q1, .int .i64 q2, .int .i64 q3, .int .i64 q4, .int .i64 q5, .int .i64 q6, .int .i64 q7, .slice ga fS.length gc] 95 (0, 0))).alloc (.cells #[.slice none 0 0, .slice none 0 0, .bool false, .slice none 0 0, .slice none 0 0] 83 (0, 0))) := ⟨_, rfl⟩
  have hX8 : Ext w W8 := by rw [hW]; exact exn
  have hK8 : Keep (Bx N w.heap.size (w.heap.size + 3)) w W8 := by rw [hW]; exact keq
  have D0_8 : Box (((w.alloc (.cells #[.slice aw s.M.W.length cw, .slice ag s.M.G.length cg, .bool s.M.bad, .slice ac s.C.length cc, .slice al s.L.length cl] 83 (0, 0))).alloc (.cells #[.int .i64 op, .int .i64 1, .int .i64 q0, .int .i64 q1, .int .i64 q2, .int .i64 q3, .int .i64 q4, .int .i64 q5, .int .i64 q6, .int .i64 q7, .slice ga fS.length gc] 95 (0, 0))).alloc (.cells #[.slice none 0 0, .slice none 0 0, .bool false, .slice none 0 0, .slice none 0 0] 83 (0, 0))) (w.heap.size) #[.slice aw s.M.W.length cw, .slice ag s.M.G.length cg, .bool s.M.bad, .slice ac s.C.length cc, .slice al s.L.length cl] 83 := (((Box.newAt _ _ _ (by first | rfl | simp)).alloc _).alloc _)
  rw [← hW] at D0_8
  have D1_8 : Box (((w.alloc (.cells #[.slice aw s.M.W.length cw, .slice ag s.M.G.length cg, .bool s.M.bad, .slice ac s.C.length cc, .slice al s.L.length cl] 83 (0, 0))).alloc (.cells #[.int .i64 op, .int .i64 1, .int .i64 q0, .int .i64 q1, .int .i64 q2, .int .i64 q3, .int .i64 q4, .int .i64 q5, .int .i64 q6, .int .i64 q7, .slice ga fS.length gc] 95 (0, 0))).alloc (.cells #[.slice none 0 0, .slice none 0 0, .bool false, .slice none 0 0, .slice none 0 0] 83 (0, 0))) (w.heap.size + 1) #[.int .i64 op, .int .i64 1, .int .i64 q0, .int .i64 q1, .int .i64 q2, .int .i64 q3, .int .i64 q4, .int .i64 q5, .int .i64 q6, .int .i64 q7, .slice ga fS.length gc] 95 := ((Box.newAt _ _ _ (by first | rfl | simp)).alloc _)
  rw [← hW] at D1_8
  have D2_8 : Box (((w.alloc (.cells #[.slice aw s.M.W.length cw, .slice ag s.M.G.length cg, .bool s.M.bad, .slice ac s.C.length cc, .slice al s.L.length cl] 83 (0, 0))).alloc (.cells #[.int .i64 op, .int .i64 1, .int .i64 q0, .int .i64 q1, .int .i64 q2, .int .i64 q3, .int .i64 q4, .int .i64 q5, .int .i64 q6, .int .i64 q7, .slice ga fS.length gc] 95 (0, 0))).alloc (.cells #[.slice none 0 0, .slice none 0 0, .bool false, .slice none 0 0, .slice none 0 0] 83 (0, 0))) (w.heap.size + 1 + 1) #[.slice none 0 0, .slice none 0 0, .bool false, .slice none 0 0, .slice none 0 0] 83 := (Box.newAt _ _ _ (by first | rfl | simp))
  rw [← hW] at D2_8
  have y8 : w.heap.size + 3 ≤ W8.heap.size := by rw [hW]; simp
  rw [← hW]
  clear hW
  have aM : IsMem (Bx N w.heap.size (w.heap.size + 3)) W8 (.agg #[.slice aw s.M.W.length cw, .slice ag s.M.G.length cg, .bool s.M.bad]) s.M := (IsMem.mk rfl hwB hgB : IsMem (Bx N w.heap.size (w.heap.size + 3)) w _ s.M).keep hK8
  apply region_lit2 (T := [13]) (L := []) (X := [w.heap.size]) (G := [eqv _, eqv _, eqv _, eqv _, eqv _, eqv _, eqv _, eqv _, eqv _, eqv _, eqv _, isMemN (Bx N w.heap.size (w.heap.size + 3)) m1, eqv _, anyG])
  case hm => kernel_rfl
  case hop =>
    refine ⟨?_, ?_, ?_, ?_, ?_, ?_, ?_, ?_, ?_, ?_, ?_, ?_, ?_, ?_, trivial⟩
    · intro a wa hs hf hd
      have t3 := hf.off 3 (by kernel_rfl) rfl
      exact plain_ rfl (yes_eqv (o_fieldAddr rfl Proofs.Try.underlying83 rfl rfl (by kernel_rfl) t3) rfl)
    · intro a wa hs hf hd
      have t40 : a.eval (.tmp 40) = _ := hd.at 0 40 (by kernel_rfl)
      exact plain_ rfl (yes_eqv (o_load3 rfl Proofs.Try.underlying50 rfl (by kernel_rfl) t40 ((D0_8.since hs rfl).cell rfl) ((D0_8.since hs rfl).cell rfl) ((D0_8.since hs rfl).cell rfl)) rfl)
    · intro a wa hs hf hd
      have t1 := hf.off 1 (by kernel_rfl) rfl
      exact plain_ rfl (yes_eqv (o_move rfl t1) rfl)
    · intro a wa hs hf hd
      have t5 := hf.off 5 (by kernel_rfl) rfl
      exact plain_ rfl (yes_eqv (o_fieldAddr rfl Proofs.Try.underlying95 rfl rfl (by kernel_rfl) t5) rfl)
    · intro a wa hs hf hd
      have t43 : a.eval (.tmp 43) = _ := hd.at 3 43 (by kernel_rfl)
      exact plain_ rfl (yes_eqv (o_indexAddrA (sz := 1) rfl Proofs.Try.underlying93 (by kernel_rfl) t43 rfl (by decide) (by decide)) rfl)
    · intro a wa hs hf hd
      have t44 : a.eval (.tmp 44) = _ := hd.at 4 44 (by kernel_rfl)
      exact plain_ rfl (yes_eqv (o_load1 rfl Proofs.Try.underlying3 rfl t44 ((D1_8.since hs rfl).cell rfl)) rfl)
    · intro a wa hs hf hd
      have t42 : a.eval (.tmp 42) = _ := hd.at 2 42 (by kernel_rfl)
      have t45 : a.eval (.tmp 45) = _ := hd.at 5 45 (by kernel_rfl)
      exact plain_ rfl (yes_gives (place_ id q1 _ hid0 hid1) rfl rfl Proofs.Try.func94 (by kernel_rfl) (by kernel_rfl) (by simp only [List.map_toArray, List.map_cons, List.map_nil, t42, t45]) rfl)
    · intro a wa hs hf hd
      have t5 := hf.off 5 (by kernel_rfl) rfl
      exact plain_ rfl (yes_eqv (o_fieldAddr rfl Proofs.Try.underlying95 rfl rfl (by kernel_rfl) t5) rfl)
    · intro a wa hs hf hd
      have t47 : a.eval (.tmp 47) = _ := hd.at 7 47 (by kernel_rfl)
      exact plain_ rfl (yes_eqv (o_indexAddrA (sz := 1) rfl Proofs.Try.underlying93 (by kernel_rfl) t47 rfl (by decide) (by decide)) rfl)
    · intro a wa hs hf hd
      have t48 : a.eval (.tmp 48) = _ := hd.at 8 48 (by kernel_rfl)
      exact plain_ rfl (yes_eqv (o_load1 rfl Proofs.Try.underlying3 rfl t48 ((D1_8.since hs rfl).cell rfl)) rfl)
    · intro a wa hs hf hd
      have t49 : a.eval (.tmp 49) = _ := hd.at 9 49 (by kernel_rfl)
      exact plain_ rfl (yes_gives (idx_ q2 _) rfl rfl Proofs.Try.func41 (by kernel_rfl) (by kernel_rfl) (by simp only [List.map_toArray, List.map_cons, List.map_nil, t49]) rfl)
    · intro a wa hs hf hd
      have t41 : a.eval (.tmp 41) = _ := hd.at 1 41 (by kernel_rfl)
      have t46 : a.eval (.tmp 46) = _ := hd.at 6 46 (by kernel_rfl)
      have t50 : a.eval (.tmp 50) = _ := hd.at 10 50 (by kernel_rfl)
      exact plain_ rfl (yes_gives (ks _ _ (aM.keep (Since.to_ext hs).keep) (by have := (Since.to_ext hs).size; omega)) rfl rfl Proofs.Try.func68 (by kernel_rfl) (by kernel_rfl) (by simp only [List.map_toArray, List.map_cons, List.map_nil, t41, t46, t50]) rfl)
    · intro a wa hs hf hd
      have t3 := hf.off 3 (by kernel_rfl) rfl
      exact plain_ rfl (yes_eqv (o_fieldAddr rfl Proofs.Try.underlying83 rfl rfl (by kernel_rfl) t3) rfl)
    · intro a wb wa hs1 hs hf hd hrun
      have t52 : a.eval (.tmp 52) = _ := hd.at 12 52 (by kernel_rfl)
      have t51 := hd.at 11 51 (by kernel_rfl)
      subst hrun
      have q18 : IsMem (Bx N w.heap.size (w.heap.size + 3)) _ (a.eval (.tmp 51)) m1 := t51
      obtain ⟨u1, u2, u3, u4, hv, _⟩ := q18.opened
      exact ⟨_, o_store rfl t52 hv ((D0_8.since hs1 rfl)) (by kernel_rfl) (by simp [Value.cells, Value.oneCell']) (by first | (simp [Value.cells]; done) | (simp [Value.cells]; omega)) rfl, Since.put hs (.inr (by simp))⟩
  case hG => exact ⟨stable_eqv _, stable_eqv _, stable_eqv _, stable_eqv _, stable_eqv _, stable_eqv _, stable_eqv _, stable_eqv _, stable_eqv _, stable_eqv _, stable_eqv _, stable_isMemN _ _, stable_eqv _, stable_any, trivial⟩
  case hc => kernel_rfl
  case hfin =>
    intro v8 hs8
    rintro _ rfl _ rfl _ rfl _ rfl _ rfl _ rfl _ rfl _ rfl _ rfl _ rfl _ rfl r11 hr11 _ rfl
    obtain ⟨u1, u2, u3, u4, rfl, mw0, mg0⟩ := IsMem.opened hr11
    rintro v8w ⟨o1, v1, ho1, hr1, rfl⟩
    cases ho1
    simp only [Act.put, List.setIfInBounds_toArray, List.set_cons_zero, List.set_cons_succ] at hr1 ⊢
    cases (hr1.symm.trans (o_store (v := .agg #[.slice u1 m1.W.length u2, .slice u3 m1.G.length u4, .bool m1.bad]) (new := #[.slice u1 m1.W.length u2, .slice u3 m1.G.length u4, .bool m1.bad, .slice ac s.C.length cc, .slice al s.L.length cl]) rfl rfl rfl ((D0_8.since hs8 rfl)) (by kernel_rfl) (by simp [Value.cells, Value.oneCell']) (by first | (simp [Value.cells]; done) | (simp [Value.cells]; omega)) (by first | rfl | kernel_rfl)))
    obtain ⟨w1, hw1⟩ : ∃ x, x = (put v8 w.heap.size (.cells #[.slice u1 m1.W.length u2, .slice u3 m1.G.length u4, .bool m1.bad, .slice ac s.C.length cc, .slice al s.L.length cl] 83 (0, 0))) := ⟨_, rfl⟩
    have hW1 : Ext W8 v8 := Since.to_ext hs8
    have hb1 : Ext w w1 := by rw [hw1]; exact Since.to_ext ((Since.of_ext (hX8.trans hW1)).put (.inl (by have := hX8.size; omega)))
    have hk1 : Keep (Bx N w.heap.size (w.heap.size + 3)) w w1 := by rw [hw1]; exact ((hK8.ext hW1).put _ _ (.inr (Bx.mem (by omega) (by omega))))
    have hq1 : Keep (Bx N w.heap.size (w.heap.size + 3)) v8 w1 := by rw [hw1]; exact ((Keep.refl _ _).put _ _ (.inr (Bx.mem (by omega) (by omega))))
    have B0_1 : Box w1 (w.heap.size) #[.slice u1 m1.W.length u2, .slice u3 m1.G.length u4, .bool m1.bad, .slice ac s.C.length cc, .slice al s.L.length cl] 83 := by rw [hw1]; exact (D0_8.since hs8 rfl).put
    have B1_1 : Box w1 (w.heap.size + 1) #[.int .i64 op, .int .i64 1, .int .i64 q0, .int .i64 q1, .int .i64 q2, .int .i64 q3, .int .i64 q4, .int .i64 q5, .int .i64 q6, .int .i64 q7, .slice ga fS.length gc] 95 := by rw [hw1]; exact (box_putOther (D1_8.since hs8 rfl) (by omega))
    have B2_1 : Box w1 (w.heap.size + 1 + 1) #[.slice none 0 0, .slice none 0 0, .bool false, .slice none 0 0, .slice none 0 0] 83 := by rw [hw1]; exact (box_putOther (D2_8.since hs8 rfl) (by omega))
    have s1 : W8.heap.size ≤ w1.heap.size := by rw [hw1]; have := hW1.size; simpa [put] using this
    rw [← hw1]
    clear hw1
    obtain ⟨c0_0, c0_1, c0_2, c0_3, c0_4, d0_0, d0_1, d0_2, d0_3, d0_4⟩ := cells5 B0_1
    have z0 : w.heap.size < w1.heap.size := B0_1.lt
    obtain ⟨⟨c1_0, c1_1, c1_2, c1_3, c1_4, c1_5, c1_6, c1_7, c1_8, c1_9, c1_10⟩, d1_0, d1_1, d1_2, d1_3, d1_4, d1_5, d1_6, d1_7, d1_8, d1_9, d1_10⟩ := cells11 B1_1
    have z1 : w.heap.size + 1 < w1.heap.size := B1_1.lt
    obtain ⟨c2_0, c2_1, c2_2, c2_3, c2_4, d2_0, d2_1, d2_2, d2_3, d2_4⟩ := cells5 B2_1
    have z2 : w.heap.size + 1 + 1 < w1.heap.size := B2_1.lt
    have mw := IsInts.keep mw0 hq1
    have mg := IsInts.keep mg0 hq1
    clear hq1
    go_wp2_with (fail)
    go_at_call 149
    refine (on_ (Bx N w.heap.size (w.heap.size + 3)) _ _ (memS s m1) id 2 ⟨op, 1, [q0, q1, q2, q3, q4, q5, q6, q7], fS⟩ _ (IsSys.mk rfl (IsInts.keep mw keq) (IsInts.keep mg keq) (IsCores.keep hcB keq) (IsEvs.keep hlB keq) : IsSys (Bx N w.heap.size (w.heap.size + 3)) _ _ (memS s m1)) (IsFrame.ofLit (IsInts.keep fsB keq) : IsFrame _ _ _ ⟨op, 1, [q0, q1, q2, q3, q4, q5, q6, q7], fS⟩) (Bx.le hN (by first | omega | (simp <;> omega))) hC hFm).calls.mono ?_
    rintro e w2 ⟨_, rfl, hb2, hu2⟩
    obtain ⟨r1, r2, r3, r4, r5, r6, r7, r8, rfl, rW, rG, rC, rL⟩ := hu2.opened
    have B0_2 : Box w2 (w.heap.size) #[.slice u1 m1.W.length u2, .slice u3 m1.G.length u4, .bool m1.bad, .slice ac s.C.length cc, .slice al s.L.length cl] 83 := B0_1.ext hb2
    have B1_2 : Box w2 (w.heap.size + 1) #[.int .i64 op, .int .i64 1, .int .i64 q0, .int .i64 q1, .int .i64 q2, .int .i64 q3, .int .i64 q4, .int .i64 q5, .int .i64 q6, .int .i64 q7, .slice ga fS.length gc] 95 := B1_1.ext hb2
    have B2_2 : Box w2 (w.heap.size + 1 + 1) #[.slice none 0 0, .slice none 0 0, .bool false, .slice none 0 0, .slice none 0 0] 83 := B2_1.ext hb2
    clear c0_0 c0_1 c0_2 c0_3 c0_4 d0_0 d0_1 d0_2 d0_3 d0_4 z0 c1_0 c1_1 c1_2 c1_3 c1_4 c1_5 c1_6 c1_7 c1_8 c1_9 c1_10 d1_0 d1_1 d1_2 d1_3 d1_4 d1_5 d1_6 d1_7 d1_8 d1_9 d1_10 z1 c2_0 c2_1 c2_2 c2_3 c2_4 d2_0 d2_1 d2_2 d2_3 d2_4 z2
    have s2 : w1.heap.size ≤ w2.heap.size := (by have h := hb2.size; first | omega | (simp at h; omega))
    obtain ⟨c0_0, c0_1, c0_2, c0_3, c0_4, d0_0, d0_1, d0_2, d0_3, d0_4⟩ := cells5 B0_2
    have z0 : w.heap.size < w2.heap.size := B0_2.lt
    obtain ⟨⟨c1_0, c1_1, c1_2, c1_3, c1_4, c1_5, c1_6, c1_7, c1_8, c1_9, c1_10⟩, d1_0, d1_1, d1_2, d1_3, d1_4, d1_5, d1_6, d1_7, d1_8, d1_9, d1_10⟩ := cells11 B1_2
    have z1 : w.heap.size + 1 < w2.heap.size := B1_2.lt
    obtain ⟨c2_0, c2_1, c2_2, c2_3, c2_4, d2_0, d2_1, d2_2, d2_3, d2_4⟩ := cells5 B2_2
    have z2 : w.heap.size + 1 + 1 < w2.heap.size := B2_2.lt
    go_wp2
    exact bodyPost_ret (ret_cell (cs := #[.slice r1 (setS (memS s m1) id (pcF ⟨op, 1, [q0, q1, q2, q3, q4, q5, q6, q7], fS⟩ 2)).M.W.length r2, .slice r3 (setS (memS s m1) id (pcF ⟨op, 1, [q0, q1, q2, q3, q4, q5, q6, q7], fS⟩ 2)).M.G.length r4, .bool (setS (memS s m1) id (pcF ⟨op, 1, [q0, q1, q2, q3, q4, q5, q6, q7], fS⟩ 2)).M.bad, .slice r5 (setS (memS s m1) id (pcF ⟨op, 1, [q0, q1, q2, q3, q4, q5, q6, q7], fS⟩ 2)).C.length r6, .slice r7 (setS (memS s m1) id (pcF ⟨op, 1, [q0, q1, q2, q3, q4, q5, q6, q7], fS⟩ 2)).L.length r8]) (((((B2_2.setCell _).setCell _).setCell _).setCell _).setCell _) Proofs.Try.results148 rfl Proofs.Try.underlying83 rfl (by kernel_rfl)) rfl ⟨_, rfl, exn, IsSys.less (IsSys.keep hu2 keq) (fun _ _ hn => .inl hn)⟩
set_option maxHeartbeats 1000000 in
set_option maxRecDepth 100000 in
theorem prot_e2 (N : Nat → Prop) (s : SysD) (id op q0 q1 q2 q3 q4 q5 q6 q7 : Int) (fS : List Int) (aw ag ac al ga : Option Addr) (cw cg cc cl gc : Nat) (w : World) (hw : IsInts N w (.slice aw s.M.W.length cw) s.M.W) (hg : IsInts N w (.slice ag s.M.G.length cg) s.M.G) (hc : IsCores N w (.slice ac s.C.length cc) s.C) (hl : IsEvs N w (.slice al s.L.length cl) s.L) (fs : IsInts N w (.slice ga fS.length gc) fS)
    (hN : ∀ b, N b → b < w.heap.size) (hC : s.C.length ≤ 100000) (hFm : ∀ (i : Nat) c, s.C[i]? = some c → c.F.length ≤ 100000) (hfit : Fits s.M) (hid0 : 0 ≤ id) (hid1 : id ≤ 100) (hlo : -9223372036854775808 ≤ q0) (hhi : q0 ≤ 9223372036854775807) (he : (loadD s.M q0 == q2) = true) :
    Gives Proofs.Try.prog 148 #[.agg #[.slice aw s.M.W.length cw, .slice ag s.M.G.length cg, .bool s.M.bad, .slice ac s.C.length cc, .slice al s.L.length cl], .int .i64 id, .agg #[.int .i64 op, .int .i64 2, .int .i64 q0, .int .i64 q1, .int .i64 q2, .int .i64 q3, .int .i64 q4, .int .i64 q5, .int .i64 q6, .int .i64 q7, .slice ga fS.length gc]] w (fun r w' => IsSys N w' r (backS (memS s (touchD s.M q0)) id (loadD s.M q0) 0)) := by
  have hwB := hw.bxn (hi := w.heap.size + 3)
  have hgB := hg.bxn (hi := w.heap.size + 3)
  have hcB := hc.bxn (hi := w.heap.size + 3)
  have hlB := hl.bxn (hi := w.heap.size + 3)
  have fsB := fs.bxn (hi := w.heap.size + 3)
  obtain ⟨m1, hm1⟩ : ∃ m, touchD s.M q0 = m := ⟨_, rfl⟩
  obtain ⟨v, hv⟩ : ∃ x, loadD s.M q0 = x := ⟨_, rfl⟩
  have kl : ∀ (w' : World) (va : Value), IsMem (Bx N w.heap.size (w.heap.size + 3)) w' va s.M → w.heap.size + 3 ≤ w'.heap.size → Gives Proofs.Try.prog 64 #[va, .int .i64 (q0)] w' (fun r w' => ∃ u, r = .tuple #[u, .int .i64 v] ∧ IsMem (Bx N w.heap.size (w.heap.size + 3)) w' u m1) := fun w' va hm hsz => by
    have := memLoad_ (Bx N w.heap.size (w.heap.size + 3)) va s.M (q0) w' hm hfit (Bx.le hN hsz) hlo hhi
    rw [hm1, hv] at this; exact this
  rw [hm1]
  try rw [hv]
  rw [hv] at he
  clear hm1 hv
  go_enter Proofs.Try.func148, Proofs.Try.ntmps148
  go_wp2_with (fail)
  go_at_call 64
  refine (kl _ _ (IsMem.mk rfl (IsInts.keep hwB keq) (IsInts.keep hgB keq)) (by first | omega | (simp <;> omega))).calls.mono ?_
  rintro e w1 ⟨_, rfl, hb1, u, rfl, hu1⟩
  obtain ⟨u1, u2, u3, u4, rfl, mw, mg⟩ := hu1.opened
  have B0_1 : Box w1 (w.heap.size) #[.slice aw s.M.W.length cw, .slice ag s.M.G.length cg, .bool s.M.bad, .slice ac s.C.length cc, .slice al s.L.length cl] 83 := (((Box.newAt _ _ _ (by first | rfl | simp)).alloc _).alloc _).ext hb1
  have B1_1 : Box w1 (w.heap.size + 1) #[.int .i64 op, .int .i64 2, .int .i64 q0, .int .i64 q1, .int .i64 q2, .int .i64 q3, .int .i64 q4, .int .i64 q5, .int .i64 q6, .int .i64 q7, .slice ga fS.length gc] 95 := ((Box.newAt _ _ _ (by first | rfl | simp)).alloc _).ext hb1
  have B2_1 : Box w1 (w.heap.size + 1 + 1) #[.slice none 0 0, .slice none 0 0, .bool false, .slice none 0 0, .slice none 0 0] 83 := (Box.newAt _ _ _ (by first | rfl | simp)).ext hb1
  have s1 : w.heap.size + 3 ≤ w1.heap.size := (by have h := hb1.size; first | omega | (simp at h; omega))
  obtain ⟨c0_0, c0_1, c0_2, c0_3, c0_4, d0_0, d0_1, d0_2, d0_3, d0_4⟩ := cells5 B0_1
  have z0 : w.heap.size < w1.heap.size := B0_1.lt
  obtain ⟨⟨c1_0, c1_1, c1_2, c1_3, c1_4, c1_5, c1_6, c1_7, c1_8, c1_9, c1_10⟩, d1_0, d1_1, d1_2, d1_3, d1_4, d1_5, d1_6, d1_7, d1_8, d1_9, d1_10⟩ := cells11 B1_1
  have z1 : w.heap.size + 1 < w1.heap.size := B1_1.lt
  obtain ⟨c2_0, c2_1, c2_2, c2_3, c2_4, d2_0, d2_1, d2_2, d2_3, d2_4⟩ := cells5 B2_1
  have z2 : w.heap.size + 1 + 1 < w1.heap.size := B2_1.lt
  go_wp2_with (fail)
  go_at_call 86
  refine (back_ (Bx N w.heap.size (w.heap.size + 3)) _ (memS s m1) id v 0 _ (IsSys.mk rfl (IsInts.keep mw keq) (IsInts.keep mg keq) (IsCores.keep hcB keq) (IsEvs.keep hlB keq) : IsSys (Bx N w.heap.size (w.heap.size + 3)) _ _ (memS s m1)) (Bx.le hN (by first | omega | (simp <;> omega))) hC).calls.mono ?_
  rintro e w2 ⟨_, rfl, hb2, hu2⟩
  obtain ⟨r1, r2, r3, r4, r5, r6, r7, r8, rfl, rW, rG, rC, rL⟩ := hu2.opened
  have B0_2 : Box w2 (w.heap.size) #[.slice u1 m1.W.length u2, .slice u3 m1.G.length u4, .bool m1.bad, .slice ac s.C.length cc, .slice al s.L.length cl] 83 := ((((B0_1.setCell _).setCell _).setCell _).setOther (by first | omega | (simp <;> omega)) _).ext hb2
  have B1_2 : Box w2 (w.heap.size + 1) #[.int .i64 op, .int .i64 2, .int .i64 q0, .int .i64 q1, .int .i64 q2, .int .i64 v, .int .i64 q4, .int .i64 q5, .int .i64 q6, .int .i64 q7, .slice ga fS.length gc] 95 := ((((B1_1.setOther (by first | omega | (simp <;> omega)) _).setOther (by first | omega | (simp <;> omega)) _).setOther (by first | omega | (simp <;> omega)) _).setCell _).ext hb2
  have B2_2 : Box w2 (w.heap.size + 1 + 1) #[.slice none 0 0, .slice none 0 0, .bool false, .slice none 0 0, .slice none 0 0] 83 := ((((B2_1.setOther (by first | omega | (simp <;> omega)) _).setOther (by first | omega | (simp <;> omega)) _).setOther (by first | omega | (simp <;> omega)) _).setOther (by first | omega | (simp <;> omega)) _).ext hb2
  clear c0_0 c0_1 c0_2 c0_3 c0_4 d0_0 d0_1 d0_2 d0_3 d0_4 z0 c1_0 c1_1 c1_2 c1_3 c1_4 c1_5 c1_6 c1_7 c1_8 c1_9 c1_10 d1_0 d1_1 d1_2 d1_3 d1_4 d1_5 d1_6 d1_7 d1_8 d1_9 d1_10 z1 c2_0 c2_1 c2_2 c2_3 c2_4 d2_0 d2_1 d2_2 d2_3 d2_4 z2
  have s2 : w1.heap.size ≤ w2.heap.size := (by have h := hb2.size; first | omega | (simp at h; omega))
  obtain ⟨c0_0, c0_1, c0_2, c0_3, c0_4, d0_0, d0_1, d0_2, d0_3, d0_4⟩ := cells5 B0_2
  have z0 : w.heap.size < w2.heap.size := B0_2.lt
  obtain ⟨⟨c1_0, c1_1, c1_2, c1_3, c1_4, c1_5, c1_6, c1_7, c1_8, c1_9, c1_10⟩, d1_0, d1_1, d1_2, d1_3, d1_4, d1_5, d1_6, d1_7, d1_8, d1_9, d1_10⟩ := cells11 B1_2
  have z1 : w.heap.size + 1 < w2.heap.size := B1_2.lt
  obtain ⟨c2_0, c2_1, c2_2, c2_3, c2_4, d2_0, d2_1, d2_2, d2_3, d2_4⟩ := cells5 B2_2
  have z2 : w.heap.size + 1 + 1 < w2.heap.size := B2_2.lt
  go_wp2
  exact bodyPost_ret (ret_cell (cs := #[.slice r1 (backS (memS s m1) id v 0).M.W.length r2, .slice r3 (backS (memS s m1) id v 0).M.G.length r4, .bool (backS (memS s m1) id v 0).M.bad, .slice r5 (backS (memS s m1) id v 0).C.length r6, .slice r7 (backS (memS s m1) id v 0).L.length r8]) (((((B2_2.setCell _).setCell _).setCell _).setCell _).setCell _) Proofs.Try.results148 rfl Proofs.Try.underlying83 rfl (by kernel_rfl)) rfl ⟨_, rfl, exn, IsSys.less (IsSys.keep hu2 keq) (fun _ _ hn => .inl hn)⟩
set_option maxHeartbeats 1000000 in
set_option maxRecDepth 100000 in
theorem prot_z2 (N : Nat → Prop) (s : SysD) (id op q0 q1 q2 q3 q4 q5 q6 q7 : Int) (fS : List Int) (aw ag ac al ga : Option Addr) (cw cg cc cl gc : Nat) (w : World) (hw : IsInts N w (.slice aw s.M.W.length cw) s.M.W) (hg : IsInts N w (.slice ag s.M.G.length cg) s.M.G) (hc : IsCores N w (.slice ac s.C.length cc) s.C) (hl : IsEvs N w (.slice al s.L.length cl) s.L) (fs : IsInts N w (.slice ga fS.length gc) fS)
    (hN : ∀ b, N b → b < w.heap.size) (hC : s.C.length ≤ 100000) (hFm : ∀ (i : Nat) c, s.C[i]? = some c → c.F.length ≤ 100000) (hfit : Fits s.M) (hid0 : 0 ≤ id) (hid1 : id ≤ 100) (hlo : -9223372036854775808 ≤ q0) (hhi : q0 ≤ 9223372036854775807) (he : (loadD s.M q0 == q2) = false) (hi : (idx (loadD s.M q0) == 0) = true) :
    Gives Proofs.Try.prog 148 #[.agg #[.slice aw s.M.W.length cw, .slice ag s.M.G.length cg, .bool s.M.bad, .slice ac s.C.length cc, .slice al s.L.length cl], .int .i64 id, .agg #[.int .i64 op, .int .i64 2, .int .i64 q0, .int .i64 q1, .int .i64 q2, .int .i64 q3, .int .i64 q4, .int .i64 q5, .int .i64 q6, .int .i64 q7, .slice ga fS.length gc]] w (fun r w' => IsSys N w' r (backS (memS s (touchD s.M q0)) id (loadD s.M q0) 0)) := by
  have hwB := hw.bxn (hi := w.heap.size + 3)
  have hgB := hg.bxn (hi := w.heap.size + 3)
  have hcB := hc.bxn (hi := w.heap.size + 3)
  have hlB := hl.bxn (hi := w.heap.size + 3)
  have fsB := fs.bxn (hi := w.heap.size + 3)
  obtain ⟨m1, hm1⟩ : ∃ m, touchD s.M q0 = m := ⟨_, rfl⟩
  obtain ⟨v, hv⟩ : ∃ x, loadD s.M q0 = x := ⟨_, rfl⟩
  have kl : ∀ (w' : World) (va : Value), IsMem (Bx N w.heap.size (w.heap.size + 3)) w' va s.M → w.heap.size + 3 ≤ w'.heap.size → Gives Proofs.Try.prog 64 #[va, .int .i64 (q0)] w' (fun r w' => ∃ u, r = .tuple #[u, .int .i64 v] ∧ IsMem (Bx N w.heap.size (w.heap.size + 3)) w' u m1) := fun w' va hm hsz => by
    have := memLoad_ (Bx N w.heap.size (w.heap.size + 3)) va s.M (q0) w' hm hfit (Bx.le hN hsz) hlo hhi
    rw [hm1, hv] at this; exact this
  rw [hm1]
  try rw [hv]
  rw [hv] at hi
  rw [hv] at he
  clear hm1 hv
  go_enter Proofs.Try.func148, Proofs.Try.ntmps148
  go_wp2_with (fail)
  go_at_call 64
  refine (kl _ _ (IsMem.mk rfl (IsInts.keep hwB keq) (IsInts.keep hgB keq)) (by first | omega | (simp <;> omega))).calls.mono ?_
  rintro e w1 ⟨_, rfl, hb1, u, rfl, hu1⟩
  obtain ⟨u1, u2, u3, u4, rfl, mw, mg⟩ := hu1.opened
  have B0_1 : Box w1 (w.heap.size) #[.slice aw s.M.W.length cw, .slice ag s.M.G.length cg, .bool s.M.bad, .slice ac s.C.length cc, .slice al s.L.length cl] 83 := (((Box.newAt _ _ _ (by first | rfl | simp)).alloc _).alloc _).ext hb1
  have B1_1 : Box w1 (w.heap.size + 1) #[.int .i64 op, .int .i64 2, .int .i64 q0, .int .i64 q1, .int .i64 q2, .int .i64 q3, .int .i64 q4, .int .i64 q5, .int .i64 q6, .int .i64 q7, .slice ga fS.length gc] 95 := ((Box.newAt _ _ _ (by first | rfl | simp)).alloc _).ext hb1
  have B2_1 : Box w1 (w.heap.size + 1 + 1) #[.slice none 0 0, .slice none 0 0, .bool false, .slice none 0 0, .slice none 0 0] 83 := (Box.newAt _ _ _ (by first | rfl | simp)).ext hb1
  have s1 : w.heap.size + 3 ≤ w1.heap.size := (by have h := hb1.size; first | omega | (simp at h; omega))
  obtain ⟨c0_0, c0_1, c0_2, c0_3, c0_4, d0_0, d0_1, d0_2, d0_3, d0_4⟩ := cells5 B0_1
  have z0 : w.heap.size < w1.heap.size := B0_1.lt
  obtain ⟨⟨c1_0, c1_1, c1_2, c1_3, c1_4, c1_5, c1_6, c1_7, c1_8, c1_9, c1_10⟩, d1_0, d1_1, d1_2, d1_3, d1_4, d1_5, d1_6, d1_7, d1_8, d1_9, d1_10⟩ := cells11 B1_1
  have z1 : w.heap.size + 1 < w1.heap.size := B1_1.lt
  obtain ⟨c2_0, c2_1, c2_2, c2_3, c2_4, d2_0, d2_1, d2_2, d2_3, d2_4⟩ := cells5 B2_1
  have z2 : w.heap.size + 1 + 1 < w1.heap.size := B2_1.lt
  go_wp2_with (fail)
  go_at_call 41
  refine (idx_ v _).calls.mono ?_
  rintro e w2 ⟨_, rfl, hb2, rfl⟩
  have B0_2 : Box w2 (w.heap.size) #[.slice u1 m1.W.length u2, .slice u3 m1.G.length u4, .bool m1.bad, .slice ac s.C.length cc, .slice al s.L.length cl] 83 := ((((B0_1.setCell _).setCell _).setCell _).setOther (by first | omega | (simp <;> omega)) _).ext hb2
  have B1_2 : Box w2 (w.heap.size + 1) #[.int .i64 op, .int .i64 2, .int .i64 q0, .int .i64 q1, .int .i64 q2, .int .i64 v, .int .i64 q4, .int .i64 q5, .int .i64 q6, .int .i64 q7, .slice ga fS.length gc] 95 := ((((B1_1.setOther (by first | omega | (simp <;> omega)) _).setOther (by first | omega | (simp <;> omega)) _).setOther (by first | omega | (simp <;> omega)) _).setCell _).ext hb2
  have B2_2 : Box w2 (w.heap.size + 1 + 1) #[.slice none 0 0, .slice none 0 0, .bool false, .slice none 0 0, .slice none 0 0] 83 := ((((B2_1.setOther (by first | omega | (simp <;> omega)) _).setOther (by first | omega | (simp <;> omega)) _).setOther (by first | omega | (simp <;> omega)) _).setOther (by first | omega | (simp <;> omega)) _).ext hb2
  clear c0_0 c0_1 c0_2 c0_3 c0_4 d0_0 d0_1 d0_2 d0_3 d0_4 z0 c1_0 c1_1 c1_2 c1_3 c1_4 c1_5 c1_6 c1_7 c1_8 c1_9 c1_10 d1_0 d1_1 d1_2 d1_3 d1_4 d1_5 d1_6 d1_7 d1_8 d1_9 d1_10 z1 c2_0 c2_1 c2_2 c2_3 c2_4 d2_0 d2_1 d2_2 d2_3 d2_4 z2
  have s2 : w1.heap.size ≤ w2.heap.size := (by have h := hb2.size; first | omega | (simp at h; omega))
  obtain ⟨c0_0, c0_1, c0_2, c0_3, c0_4, d0_0, d0_1, d0_2, d0_3, d0_4⟩ := cells5 B0_2
  have z0 : w.heap.size < w2.heap.size := B0_2.lt
  obtain ⟨⟨c1_0, c1_1, c1_2, c1_3, c1_4, c1_5, c1_6, c1_7, c1_8, c1_9, c1_10⟩, d1_0, d1_1, d1_2, d1_3, d1_4, d1_5, d1_6, d1_7, d1_8, d1_9, d1_10⟩ := cells11 B1_2
  have z1 : w.heap.size + 1 < w2.heap.size := B1_2.lt
  obtain ⟨c2_0, c2_1, c2_2, c2_3, c2_4, d2_0, d2_1, d2_2, d2_3, d2_4⟩ := cells5 B2_2
  have z2 : w.heap.size + 1 + 1 < w2.heap.size := B2_2.lt
  go_wp2_with (fail)
  go_at_call 86
  refine (back_ (Bx N w.heap.size (w.heap.size + 3)) _ (memS s m1) id v 0 _ (IsSys.mk rfl (IsInts.keep mw keq) (IsInts.keep mg keq) (IsCores.keep hcB keq) (IsEvs.keep hlB keq) : IsSys (Bx N w.heap.size (w.heap.size + 3)) _ _ (memS s m1)) (Bx.le hN (by first | omega | (simp <;> omega))) hC).calls.mono ?_
  rintro e w3 ⟨_, rfl, hb3, hu3⟩
  obtain ⟨r1, r2, r3, r4, r5, r6, r7, r8, rfl, rW, rG, rC, rL⟩ := hu3.opened
  have B0_3 : Box w3 (w.heap.size) #[.slice u1 m1.W.length u2, .slice u3 m1.G.length u4, .bool m1.bad, .slice ac s.C.length cc, .slice al s.L.length cl] 83 := B0_2.ext hb3
  have B1_3 : Box w3 (w.heap.size + 1) #[.int .i64 op, .int .i64 2, .int .i64 q0, .int .i64 q1, .int .i64 q2, .int .i64 v, .int .i64 q4, .int .i64 q5, .int .i64 q6, .int .i64 q7, .slice ga fS.length gc] 95 := B1_2.ext hb3
  have B2_3 : Box w3 (w.heap.size + 1 + 1) #[.slice none 0 0, .slice none 0 0, .bool false, .slice none 0 0, .slice none 0 0] 83 := B2_2.ext hb3
  clear c0_0 c0_1 c0_2 c0_3 c0_4 d0_0 d0_1 d0_2 d0_3 d0_4 z0 c1_0 c1_1 c1_2 c1_3 c1_4 c1_5 c1_6 c1_7 c1_8 c1_9 c1_10 d1_0 d1_1 d1_2 d1_3 d1_4 d1_5 d1_6 d1_7 d1_8 d1_9 d1_10 z1 c2_0 c2_1 c2_2 c2_3 c2_4 d2_0 d2_1 d2_2 d2_3 d2_4 z2
  have s3 : w2.heap.size ≤ w3.heap.size := (by have h := hb3.size; first | omega | (simp at h; omega))
  obtain ⟨c0_0, c0_1, c0_2, c0_3, c0_4, d0_0, d0_1, d0_2, d0_3, d0_4⟩ := cells5 B0_3
  have z0 : w.heap.size < w3.heap.size := B0_3.lt
  obtain ⟨⟨c1_0, c1_1, c1_2, c1_3, c1_4, c1_5, c1_6, c1_7, c1_8, c1_9, c1_10⟩, d1_0, d1_1, d1_2, d1_3, d1_4, d1_5, d1_6, d1_7, d1_8, d1_9, d1_10⟩ := cells11 B1_3
  have z1 : w.heap.size + 1 < w3.heap.size := B1_3.lt
  obtain ⟨c2_0, c2_1, c2_2, c2_3, c2_4, d2_0, d2_1, d2_2, d2_3, d2_4⟩ := cells5 B2_3
  have z2 : w.heap.size + 1 + 1 < w3.heap.size := B2_3.lt
  go_wp2
  exact bodyPost_ret (ret_cell (cs := #[.slice r1 (backS (memS s m1) id v 0).M.W.length r2, .slice r3 (backS (memS s m1) id v 0).M.G.length r4, .bool (backS (memS s m1) id v 0).M.bad, .slice r5 (backS (memS s m1) id v 0).C.length r6, .slice r7 (backS (memS s m1) id v 0).L.length r8]) (((((B2_3.setCell _).setCell _).setCell _).setCell _).setCell _) Proofs.Try.results148 rfl Proofs.Try.underlying83 rfl (by kernel_rfl)) rfl ⟨_, rfl, exn, IsSys.less (IsSys.keep hu3 keq) (fun _ _ hn => .inl hn)⟩
set_option maxHeartbeats 1000000 in
set_option maxRecDepth 100000 in
theorem prot_n2 (N : Nat → Prop) (s : SysD) (id op q0 q1 q2 q3 q4 q5 q6 q7 : Int) (fS : List Int) (aw ag ac al ga : Option Addr) (cw cg cc cl gc : Nat) (w : World) (hw : IsInts N w (.slice aw s.M.W.length cw) s.M.W) (hg : IsInts N w (.slice ag s.M.G.length cg) s.M.G) (hc : IsCores N w (.slice ac s.C.length cc) s.C) (hl : IsEvs N w (.slice al s.L.length cl) s.L) (fs : IsInts N w (.slice ga fS.length gc) fS)
    (hN : ∀ b, N b → b < w.heap.size) (hC : s.C.length ≤ 100000) (hFm : ∀ (i : Nat) c, s.C[i]? = some c → c.F.length ≤ 100000) (hfit : Fits s.M) (hid0 : 0 ≤ id) (hid1 : id ≤ 100) (hlo : -9223372036854775808 ≤ q0) (hhi : q0 ≤ 9223372036854775807) (he : (loadD s.M q0 == q2) = false) (hi : (idx (loadD s.M q0) == 0) = false) :
    Gives Proofs.Try.prog 148 #[.agg #[.slice aw s.M.W.length cw, .slice ag s.M.G.length cg, .bool s.M.bad, .slice ac s.C.length cc, .slice al s.L.length cl], .int .i64 id, .agg #[.int .i64 op, .int .i64 2, .int .i64 q0, .int .i64 q1, .int .i64 q2, .int .i64 q3, .int .i64 q4, .int .i64 q5, .int .i64 q6, .int .i64 q7, .slice ga fS.length gc]] w (fun r w' => IsSys N w' r (onS s id (touchD s.M q0) ⟨op, 2, [q0, q1, loadD s.M q0, loadD s.M q0, q4, q5, q6, q7], fS⟩ 1)) := by
  have hwB := hw.bxn (hi := w.heap.size + 3)
  have hgB := hg.bxn (hi := w.heap.size + 3)
  have hcB := hc.bxn (hi := w.heap.size + 3)
  have hlB := hl.bxn (hi := w.heap.size + 3)
  have fsB := fs.bxn (hi := w.heap.size + 3)
  obtain ⟨m1, hm1⟩ : ∃ m, touchD s.M q0 = m := ⟨_, rfl⟩
  obtain ⟨v, hv⟩ : ∃ x, loadD s.M q0 = x := ⟨_, rfl⟩
  have kl : ∀ (w' : World) (va : Value), IsMem (Bx N w.heap.size (w.heap.size + 3)) w' va s.M → w.heap.size + 3 ≤ w'.heap.size → Gives Proofs.Try.prog 64 #[va, .int .i64 (q0)] w' (fun r w' => ∃ u, r = .tuple #[u, .int .i64 v] ∧ IsMem (Bx N w.heap.size (w.heap.size + 3)) w' u m1) := fun w' va hm hsz => by
    have := memLoad_ (Bx N w.heap.size (w.heap.size + 3)) va s.M (q0) w' hm hfit (Bx.le hN hsz) hlo hhi
    rw [hm1, hv] at this; exact this
  rw [hm1]
  try rw [hv]
  rw [hv] at hi
  rw [hv] at he
  clear hm1 hv
  go_enter Proofs.Try.func148, Proofs.Try.ntmps148
  go_wp2_with (fail)
  go_at_call 64
  refine (kl _ _ (IsMem.mk rfl (IsInts.keep hwB keq) (IsInts.keep hgB keq)) (by first | omega | (simp <;> omega))).calls.mono ?_
  rintro e w1 ⟨_, rfl, hb1, u, rfl, hu1⟩
  obtain ⟨u1, u2, u3, u4, rfl, mw, mg⟩ := hu1.opened
  have B0_1 : Box w1 (w.heap.size) #[.slice aw s.M.W.length cw, .slice ag s.M.G.length cg, .bool s.M.bad, .slice ac s.C.length cc, .slice al s.L.length cl] 83 := (((Box.newAt _ _ _ (by first | rfl | simp)).alloc _).alloc _).ext hb1
  have B1_1 : Box w1 (w.heap.size + 1) #[.int .i64 op, .int .i64 2, .int .i64 q0, .int .i64 q1, .int .i64 q2, .int .i64 q3, .int .i64 q4, .int .i64 q5, .int .i64 q6, .int .i64 q7, .slice ga fS.length gc] 95 := ((Box.newAt _ _ _ (by first | rfl | simp)).alloc _).ext hb1
  have B2_1 : Box w1 (w.heap.size + 1 + 1) #[.slice none 0 0, .slice none 0 0, .bool false, .slice none 0 0, .slice none 0 0] 83 := (Box.newAt _ _ _ (by first | rfl | simp)).ext hb1
  have s1 : w.heap.size + 3 ≤ w1.heap.size := (by have h := hb1.size; first | omega | (simp at h; omega))
  obtain ⟨c0_0, c0_1, c0_2, c0_3, c0_4, d0_0, d0_1, d0_2, d0_3, d0_4⟩ := cells5 B0_1
  have z0 : w.heap.size < w1.heap.size := B0_1.lt
  obtain ⟨⟨c1_0, c1_1, c1_2, c1_3, c1_4, c1_5, c1_6, c1_7, c1_8, c1_9, c1_10⟩, d1_0, d1_1, d1_2, d1_3, d1_4, d1_5, d1_6, d1_7, d1_8, d1_9, d1_10⟩ := cells11 B1_1
  have z1 : w.heap.size + 1 < w1.heap.size := B1_1.lt
  obtain ⟨c2_0, c2_1, c2_2, c2_3, c2_4, d2_0, d2_1, d2_2, d2_3, d2_4⟩ := cells5 B2_1
  have z2 : w.heap.size + 1 + 1 < w1.heap.size := B2_1.lt
  go_wp2_with (fail)
  go_at_call 41
  refine (idx_ v _).calls.mono ?_
  rintro e w2 ⟨_, rfl, hb2, rfl⟩
  have B0_2 : Box w2 (w.heap.size) #[.slice u1 m1.W.length u2, .slice u3 m1.G.length u4, .bool m1.bad, .slice ac s.C.length cc, .slice al s.L.length cl] 83 := ((((B0_1.setCell _).setCell _).setCell _).setOther (by first | omega | (simp <;> omega)) _).ext hb2
  have B1_2 : Box w2 (w.heap.size + 1) #[.int .i64 op, .int .i64 2, .int .i64 q0, .int .i64 q1, .int .i64 q2, .int .i64 v, .int .i64 q4, .int .i64 q5, .int .i64 q6, .int .i64 q7, .slice ga fS.length gc] 95 := ((((B1_1.setOther (by first | omega | (simp <;> omega)) _).setOther (by first | omega | (simp <;> omega)) _).setOther (by first | omega | (simp <;> omega)) _).setCell _).ext hb2
  have B2_2 : Box w2 (w.heap.size + 1 + 1) #[.slice none 0 0, .slice none 0 0, .bool false, .slice none 0 0, .slice none 0 0] 83 := ((((B2_1.setOther (by first | omega | (simp <;> omega)) _).setOther (by first | omega | (simp <;> omega)) _).setOther (by first | omega | (simp <;> omega)) _).setOther (by first | omega | (simp <;> omega)) _).ext hb2
  clear c0_0 c0_1 c0_2 c0_3 c0_4 d0_0 d0_1 d0_2 d0_3 d0_4 z0 c1_0 c1_1 c1_2 c1_3 c1_4 c1_5 c1_6 c1_7 c1_8 c1_9 c1_10 d1_0 d1_1 d1_2 d1_3 d1_4 d1_5 d1_6 d1_7 d1_8 d1_9 d1_10 z1 c2_0 c2_1 c2_2 c2_3 c2_4 d2_0 d2_1 d2_2 d2_3 d2_4 z2
  have s2 : w1.heap.size ≤ w2.heap.size := (by have h := hb2.size; first | omega | (simp at h; omega))
  obtain ⟨c0_0, c0_1, c0_2, c0_3, c0_4, d0_0, d0_1, d0_2, d0_3, d0_4⟩ := cells5 B0_2
  have z0 : w.heap.size < w2.heap.size := B0_2.lt
  obtain ⟨⟨c1_0, c1_1, c1_2, c1_3, c1_4, c1_5, c1_6, c1_7, c1_8, c1_9, c1_10⟩, d1_0, d1_1, d1_2, d1_3, d1_4, d1_5, d1_6, d1_7, d1_8, d1_9, d1_10⟩ := cells11 B1_2
  have z1 : w.heap.size + 1 < w2.heap.size := B1_2.lt
  obtain ⟨c2_0, c2_1, c2_2, c2_3, c2_4, d2_0, d2_1, d2_2, d2_3, d2_4⟩ := cells5 B2_2
  have z2 : w.heap.size + 1 + 1 < w2.heap.size := B2_2.lt
  go_wp2_with (fail)
  go_at_call 149
  refine (on_ (Bx N w.heap.size (w.heap.size + 3)) _ _ (memS s m1) id 1 ⟨op, 2, [q0, q1, v, v, q4, q5, q6, q7], fS⟩ _ (IsSys.mk rfl (IsInts.keep mw keq) (IsInts.keep mg keq) (IsCores.keep hcB keq) (IsEvs.keep hlB keq) : IsSys (Bx N w.heap.size (w.heap.size + 3)) _ _ (memS s m1)) (IsFrame.ofLit (IsInts.keep fsB keq) : IsFrame _ _ _ ⟨op, 2, [q0, q1, v, v, q4, q5, q6, q7], fS⟩) (Bx.le hN (by first | omega | (simp <;> omega))) hC hFm).calls.mono ?_
  rintro e w3 ⟨_, rfl, hb3, hu3⟩
  obtain ⟨r1, r2, r3, r4, r5, r6, r7, r8, rfl, rW, rG, rC, rL⟩ := hu3.opened
  have B0_3 : Box w3 (w.heap.size) #[.slice u1 m1.W.length u2, .slice u3 m1.G.length u4, .bool m1.bad, .slice ac s.C.length cc, .slice al s.L.length cl] 83 := (B0_2.setOther (by first | omega | (simp <;> omega)) _).ext hb3
  have B1_3 : Box w3 (w.heap.size + 1) #[.int .i64 op, .int .i64 2, .int .i64 q0, .int .i64 q1, .int .i64 v, .int .i64 v, .int .i64 q4, .int .i64 q5, .int .i64 q6, .int .i64 q7, .slice ga fS.length gc] 95 := (B1_2.setCell _).ext hb3
  have B2_3 : Box w3 (w.heap.size + 1 + 1) #[.slice none 0 0, .slice none 0 0, .bool false, .slice none 0 0, .slice none 0 0] 83 := (B2_2.setOther (by first | omega | (simp <;> omega)) _).ext hb3
  clear c0_0 c0_1 c0_2 c0_3 c0_4 d0_0 d0_1 d0_2 d0_3 d0_4 z0 c1_0 c1_1 c1_2 c1_3 c1_4 c1_5 c1_6 c1_7 c1_8 c1_9 c1_10 d1_0 d1_1 d1_2 d1_3 d1_4 d1_5 d1_6 d1_7 d1_8 d1_9 d1_10 z1 c2_0 c2_1 c2_2 c2_3 c2_4 d2_0 d2_1 d2_2 d2_3 d2_4 z2
  have s3 : w2.heap.size ≤ w3.heap.size := (by have h := hb3.size; first | omega | (simp at h; omega))
  obtain ⟨c0_0, c0_1, c0_2, c0_3, c0_4, d0_0, d0_1, d0_2, d0_3, d0_4⟩ := cells5 B0_3
  have z0 : w.heap.size < w3.heap.size := B0_3.lt
  obtain ⟨⟨c1_0, c1_1, c1_2, c1_3, c1_4, c1_5, c1_6, c1_7, c1_8, c1_9, c1_10⟩, d1_0, d1_1, d1_2, d1_3, d1_4, d1_5, d1_6, d1_7, d1_8, d1_9, d1_10⟩ := cells11 B1_3
  have z1 : w.heap.size + 1 < w3.heap.size := B1_3.lt
  obtain ⟨c2_0, c2_1, c2_2, c2_3, c2_4, d2_0, d2_1, d2_2, d2_3, d2_4⟩ := cells5 B2_3
  have z2 : w.heap.size + 1 + 1 < w3.heap.size := B2_3.lt
  go_wp2
  exact bodyPost_ret (ret_cell (cs := #[.slice r1 (setS (memS s m1) id (pcF ⟨op, 2, [q0, q1, v, v, q4, q5, q6, q7], fS⟩ 1)).M.W.length r2, .slice r3 (setS (memS s m1) id (pcF ⟨op, 2, [q0, q1, v, v, q4, q5, q6, q7], fS⟩ 1)).M.G.length r4, .bool (setS (memS s m1) id (pcF ⟨op, 2, [q0, q1, v, v, q4, q5, q6, q7], fS⟩ 1)).M.bad, .slice r5 (setS (memS s m1) id (pcF ⟨op, 2, [q0, q1, v, v, q4, q5, q6, q7], fS⟩ 1)).C.length r6, .slice r7 (setS (memS s m1) id (pcF ⟨op, 2, [q0, q1, v, v, q4, q5, q6, q7], fS⟩ 1)).L.length r8]) (((((B2_3.setCell _).setCell _).setCell _).setCell _).setCell _) Proofs.Try.results148 rfl Proofs.Try.underlying83 rfl (by kernel_rfl)) rfl ⟨_, rfl, exn, IsSys.less (IsSys.keep hu3 keq) (fun _ _ hn => .inl hn)⟩
set_option maxHeartbeats 1000000 in
set_option maxRecDepth 100000 in
theorem prot_o (N : Nat → Prop) (s : SysD) (id op pc q0 q1 q2 q3 q4 q5 q6 q7 : Int) (fS : List Int) (aw ag ac al ga : Option Addr) (cw cg cc cl gc : Nat) (w : World) (hw : IsInts N w (.slice aw s.M.W.length cw) s.M.W) (hg : IsInts N w (.slice ag s.M.G.length cg) s.M.G) (hc : IsCores N w (.slice ac s.C.length cc) s.C) (hl : IsEvs N w (.slice al s.L.length cl) s.L) (fs : IsInts N w (.slice ga fS.length gc) fS)
    (hN : ∀ b, N b → b < w.heap.size) (hC : s.C.length ≤ 100000) (hFm : ∀ (i : Nat) c, s.C[i]? = some c → c.F.length ≤ 100000) (hfit : Fits s.M) (hid0 : 0 ≤ id) (hid1 : id ≤ 100) (p0 : (pc == 0) = false) (p1 : (pc == 1) = false) (p2 : (pc == 2) = false) (p3 : (pc != 0) = true) (p4 : (pc != 2) = true) :
    Gives Proofs.Try.prog 148 #[.agg #[.slice aw s.M.W.length cw, .slice ag s.M.G.length cg, .bool s.M.bad, .slice ac s.C.length cc, .slice al s.L.length cl], .int .i64 id, .agg #[.int .i64 op, .int .i64 pc, .int .i64 q0, .int .i64 q1, .int .i64 q2, .int .i64 q3, .int .i64 q4, .int .i64 q5, .int .i64 q6, .int .i64 q7, .slice ga fS.length gc]] w (fun r w' => IsSys N w' r (s)) := by
  have hwB := hw.bxn (hi := w.heap.size + 3)
  have hgB := hg.bxn (hi := w.heap.size + 3)
  have hcB := hc.bxn (hi := w.heap.size + 3)
  have hlB := hl.bxn (hi := w.heap.size + 3)
  have fsB := fs.bxn (hi := w.heap.size + 3)
  go_enter Proofs.Try.func148, Proofs.Try.ntmps148
  go_wp2
  exact bodyPost_ret (ret_cell (cs := #[.slice aw s.M.W.length cw, .slice ag s.M.G.length cg, .bool s.M.bad, .slice ac s.C.length cc, .slice al s.L.length cl]) (Box.newAt _ _ _ (by first | rfl | simp)) Proofs.Try.results148 rfl Proofs.Try.underlying83 rfl (by kernel_rfl)) rfl ⟨_, rfl, exn, IsSys.mk rfl (hw.ext exn) (hg.ext exn) (IsCores.keep hc (show Ext w _ from exn).keep) (IsEvs.keep hl (show Ext w _ from exn).keep)⟩
set_option maxHeartbeats 1000000 in
set_option maxRecDepth 100000 in
theorem refProt_z0 (N : Nat → Prop) (s : SysD) (id op q0 q1 q2 q3 q4 q5 q6 q7 : Int) (fS : List Int) (aw ag ac al ga : Option Addr) (cw cg cc cl gc : Nat) (w : World) (hw : IsInts N w (.slice aw s.M.W.length cw) s.M.W) (hg : IsInts N w (.slice ag s.M.G.length cg) s.M.G) (hc : IsCores N w (.slice ac s.C.length cc) s.C) (hl : IsEvs N w (.slice al s.L.length cl) s.L) (fs : IsInts N w (.slice ga fS.length gc) fS)
    (hN : ∀ b, N b → b < w.heap.size) (hC : s.C.length ≤ 100000) (hFm : ∀ (i : Nat) c, s.C[i]? = some c → c.F.length ≤ 100000) (hfit : Fits s.M) (hid0 : 0 ≤ id) (hid1 : id ≤ 100) (hlo : -9223372036854775808 ≤ q0) (hhi : q0 ≤ 9223372036854775807) (hi : (idx (loadD s.M q0) == 0) = true) :
    Gives Proofs.Try.prog 150 #[.agg #[.slice aw s.M.W.length cw, .slice ag s.M.G.length cg, .bool s.M.bad, .slice ac s.C.length cc, .slice al s.L.length cl], .int .i64 id, .agg #[.int .i64 op, .int .i64 0, .int .i64 q0, .int .i64 q1, .int .i64 q2, .int .i64 q3, .int .i64 q4, .int .i64 q5, .int .i64 q6, .int .i64 q7, .slice ga fS.length gc]] w (fun r w' => IsSys N w' r (backS (memS s (touchD s.M q0)) id (loadD s.M q0) 0)) := by
  have hwB := hw.bxn (hi := w.heap.size + 3)
  have hgB := hg.bxn (hi := w.heap.size + 3)
  have hcB := hc.bxn (hi := w.heap.size + 3)
  have hlB := hl.bxn (hi := w.heap.size + 3)
  have fsB := fs.bxn (hi := w.heap.size + 3)
  obtain ⟨m1, hm1⟩ : ∃ m, touchD s.M q0 = m := ⟨_, rfl⟩
  obtain ⟨v, hv⟩ : ∃ x, loadD s.M q0 = x := ⟨_, rfl⟩
  have kl : ∀ (w' : World) (va : Value), IsMem (Bx N w.heap.size (w.heap.size + 3)) w' va s.M → w.heap.size + 3 ≤ w'.heap.size → Gives Proofs.Try.prog 65 #[va, .int .i64 (q0)] w' (fun r w' => ∃ u, r = .tuple #[u, .int .i64 v] ∧ IsMem (Bx N w.heap.size (w.heap.size + 3)) w' u m1) := fun w' va hm hsz => by
    have := refLoad_ (Bx N w.heap.size (w.heap.size + 3)) va s.M (q0) w' hm hfit (Bx.le hN hsz)
    rw [hm1, hv] at this; exact this
  rw [hm1]
  try rw [hv]
  rw [hv] at hi
  clear hm1 hv
  go_enter Proofs.Try.func150, Proofs.Try.ntmps150
  go_wp2_with (fail)
  go_at_call 65
  refine (kl _ _ (IsMem.mk rfl (IsInts.keep hwB keq) (IsInts.keep hgB keq)) (by first | omega | (simp <;> omega))).calls.mono ?_
  rintro e w1 ⟨_, rfl, hb1, u, rfl, hu1⟩
  obtain ⟨u1, u2, u3, u4, rfl, mw, mg⟩ := hu1.opened
  have B0_1 : Box w1 (w.heap.size) #[.slice aw s.M.W.length cw, .slice ag s.M.G.length cg, .bool s.M.bad, .slice ac s.C.length cc, .slice al s.L.length cl] 83 := (((Box.newAt _ _ _ (by first | rfl | simp)).alloc _).alloc _).ext hb1
  have B1_1 : Box w1 (w.heap.size + 1) #[.int .i64 op, .int .i64 0, .int .i64 q0, .int .i64 q1, .int .i64 q2, .int .i64 q3, .int .i64 q4, .int .i64 q5, .int .i64 q6, .int .i64 q7, .slice ga fS.length gc] 95 := ((Box.newAt _ _ _ (by first | rfl | simp)).alloc _).ext hb1
  have B2_1 : Box w1 (w.heap.size + 1 + 1) #[.slice none 0 0, .slice none 0 0, .bool false, .slice none 0 0, .slice none 0 0] 83 := (Box.newAt _ _ _ (by first | rfl | simp)).ext hb1
  have s1 : w.heap.size + 3 ≤ w1.heap.size := (by have h := hb1.size; first | omega | (simp at h; omega))
  obtain ⟨c0_0, c0_1, c0_2, c0_3, c0_4, d0_0, d0_1, d0_2, d0_3, d0_4⟩ := cells5 B0_1
  have z0 : w.heap.size < w1.heap.size := B0_1.lt
  obtain ⟨⟨c1_0, c1_1, c1_2, c1_3, c1_4, c1_5, c1_6, c1_7, c1_8, c1_9, c1_10⟩, d1_0, d1_1, d1_2, d1_3, d1_4, d1_5, d1_6, d1_7, d1_8, d1_9, d1_10⟩ := cells11 B1_1
  have z1 : w.heap.size + 1 < w1.heap.size := B1_1.lt
  obtain ⟨c2_0, c2_1, c2_2, c2_3, c2_4, d2_0, d2_1, d2_2, d2_3, d2_4⟩ := cells5 B2_1
  have z2 : w.heap.size + 1 + 1 < w1.heap.size := B2_1.lt
  go_wp2_with (fail)
  go_at_call 42
  refine (refIdx_ v _).calls.mono ?_
  rintro e w2 ⟨_, rfl, hb2, rfl⟩
  have B0_2 : Box w2 (w.heap.size) #[.slice aw s.M.W.length cw, .slice ag s.M.G.length cg, .bool s.M.bad, .slice ac s.C.length cc, .slice al s.L.length cl] 83 := (B0_1.alloc _).ext hb2
  have B1_2 : Box w2 (w.heap.size + 1) #[.int .i64 op, .int .i64 0, .int .i64 q0, .int .i64 q1, .int .i64 q2, .int .i64 q3, .int .i64 q4, .int .i64 q5, .int .i64 q6, .int .i64 q7, .slice ga fS.length gc] 95 := (B1_1.alloc _).ext hb2
  have B2_2 : Box w2 (w.heap.size + 1 + 1) #[.slice none 0 0, .slice none 0 0, .bool false, .slice none 0 0, .slice none 0 0] 83 := (B2_1.alloc _).ext hb2
  have B3_2 : Box w2 (w1.heap.size) #[.slice u1 m1.W.length u2, .slice u3 m1.G.length u4, .bool m1.bad] 50 := (Box.newAt _ _ _ (by first | rfl | simp)).ext hb2
  clear c0_0 c0_1 c0_2 c0_3 c0_4 d0_0 d0_1 d0_2 d0_3 d0_4 z0 c1_0 c1_1 c1_2 c1_3 c1_4 c1_5 c1_6 c1_7 c1_8 c1_9 c1_10 d1_0 d1_1 d1_2 d1_3 d1_4 d1_5 d1_6 d1_7 d1_8 d1_9 d1_10 z1 c2_0 c2_1 c2_2 c2_3 c2_4 d2_0 d2_1 d2_2 d2_3 d2_4 z2
  have s2 : w1.heap.size + 1 ≤ w2.heap.size := (by have h := hb2.size; first | omega | (simp at h; omega))
  obtain ⟨c0_0, c0_1, c0_2, c0_3, c0_4, d0_0, d0_1, d0_2, d0_3, d0_4⟩ := cells5 B0_2
  have z0 : w.heap.size < w2.heap.size := B0_2.lt
  obtain ⟨⟨c1_0, c1_1, c1_2, c1_3, c1_4, c1_5, c1_6, c1_7, c1_8, c1_9, c1_10⟩, d1_0, d1_1, d1_2, d1_3, d1_4, d1_5, d1_6, d1_7, d1_8, d1_9, d1_10⟩ := cells11 B1_2
  have z1 : w.heap.size + 1 < w2.heap.size := B1_2.lt
  obtain ⟨c2_0, c2_1, c2_2, c2_3, c2_4, d2_0, d2_1, d2_2, d2_3, d2_4⟩ := cells5 B2_2
  have z2 : w.heap.size + 1 + 1 < w2.heap.size := B2_2.lt
  obtain ⟨c3_0, c3_1, c3_2, d3_0, d3_1, d3_2⟩ := cells3 B3_2
  have z3 : w1.heap.size < w2.heap.size := B3_2.lt
  go_wp2_with (fail)
  go_at_call 103
  refine (refMem_ (Bx N w.heap.size (w.heap.size + 3)) _ _ s m1 _ (IsSys.mk rfl (IsInts.keep hwB keq) (IsInts.keep hgB keq) (IsCores.keep hcB keq) (IsEvs.keep hlB keq) : IsSys (Bx N w.heap.size (w.heap.size + 3)) _ _ s) (IsMem.mk rfl (IsInts.keep mw keq) (IsInts.keep mg keq) : IsMem (Bx N w.heap.size (w.heap.size + 3)) _ _ m1)).calls.mono ?_
  rintro e w3 ⟨_, rfl, hb3, ht⟩
  obtain ⟨t1, t2, t3, t4, t5, t6, t7, t8, rfl, tW, tG, tC, tL⟩ := ht.opened
  have B0_3 : Box w3 (w.heap.size) #[.slice aw s.M.W.length cw, .slice ag s.M.G.length cg, .bool s.M.bad, .slice ac s.C.length cc, .slice al s.L.length cl] 83 := B0_2.ext hb3
  have B1_3 : Box w3 (w.heap.size + 1) #[.int .i64 op, .int .i64 0, .int .i64 q0, .int .i64 q1, .int .i64 q2, .int .i64 q3, .int .i64 q4, .int .i64 q5, .int .i64 q6, .int .i64 q7, .slice ga fS.length gc] 95 := B1_2.ext hb3
  have B2_3 : Box w3 (w.heap.size + 1 + 1) #[.slice none 0 0, .slice none 0 0, .bool false, .slice none 0 0, .slice none 0 0] 83 := B2_2.ext hb3
  have B3_3 : Box w3 (w1.heap.size) #[.slice u1 m1.W.length u2, .slice u3 m1.G.length u4, .bool m1.bad] 50 := B3_2.ext hb3
  clear c0_0 c0_1 c0_2 c0_3 c0_4 d0_0 d0_1 d0_2 d0_3 d0_4 z0 c1_0 c1_1 c1_2 c1_3 c1_4 c1_5 c1_6 c1_7 c1_8 c1_9 c1_10 d1_0 d1_1 d1_2 d1_3 d1_4 d1_5 d1_6 d1_7 d1_8 d1_9 d1_10 z1 c2_0 c2_1 c2_2 c2_3 c2_4 d2_0 d2_1 d2_2 d2_3 d2_4 z2 c3_0 c3_1 c3_2 d3_0 d3_1 d3_2 z3
  have s3 : w2.heap.size ≤ w3.heap.size := (by have h := hb3.size; first | omega | (simp at h; omega))
  obtain ⟨c0_0, c0_1, c0_2, c0_3, c0_4, d0_0, d0_1, d0_2, d0_3, d0_4⟩ := cells5 B0_3
  have z0 : w.heap.size < w3.heap.size := B0_3.lt
  obtain ⟨⟨c1_0, c1_1, c1_2, c1_3, c1_4, c1_5, c1_6, c1_7, c1_8, c1_9, c1_10⟩, d1_0, d1_1, d1_2, d1_3, d1_4, d1_5, d1_6, d1_7, d1_8, d1_9, d1_10⟩ := cells11 B1_3
  have z1 : w.heap.size + 1 < w3.heap.size := B1_3.lt
  obtain ⟨c2_0, c2_1, c2_2, c2_3, c2_4, d2_0, d2_1, d2_2, d2_3, d2_4⟩ := cells5 B2_3
  have z2 : w.heap.size + 1 + 1 < w3.heap.size := B2_3.lt
  obtain ⟨c3_0, c3_1, c3_2, d3_0, d3_1, d3_2⟩ := cells3 B3_3
  have z3 : w1.heap.size < w3.heap.size := B3_3.lt
  go_wp2_with (fail)
  go_at_call 90
  refine (refBack_ (Bx N w.heap.size (w.heap.size + 3)) _ (memS s m1) id v 0 _ (IsSys.mk rfl (IsInts.keep tW keq) (IsInts.keep tG keq) (IsCores.keep tC keq) (IsEvs.keep tL keq) : IsSys (Bx N w.heap.size (w.heap.size + 3)) _ _ (memS s m1)) (Bx.le hN (by first | omega | (simp <;> omega))) hC).calls.mono ?_
  rintro e w4 ⟨_, rfl, hb4, hu4⟩
  obtain ⟨r1, r2, r3, r4, r5, r6, r7, r8, rfl, rW, rG, rC, rL⟩ := hu4.opened
  have B0_4 : Box w4 (w.heap.size) #[.slice aw s.M.W.length cw, .slice ag s.M.G.length cg, .bool s.M.bad, .slice ac s.C.length cc, .slice al s.L.length cl] 83 := B0_3.ext hb4
  have B1_4 : Box w4 (w.heap.size + 1) #[.int .i64 op, .int .i64 0, .int .i64 q0, .int .i64 q1, .int .i64 q2, .int .i64 q3, .int .i64 q4, .int .i64 q5, .int .i64 q6, .int .i64 q7, .slice ga fS.length gc] 95 := B1_3.ext hb4
  have B2_4 : Box w4 (w.heap.size + 1 + 1) #[.slice none 0 0, .slice none 0 0, .bool false, .slice none 0 0, .slice none 0 0] 83 := B2_3.ext hb4
  have B3_4 : Box w4 (w1.heap.size) #[.slice u1 m1.W.length u2, .slice u3 m1.G.length u4, .bool m1.bad] 50 := B3_3.ext hb4
  clear c0_0 c0_1 c0_2 c0_3 c0_4 d0_0 d0_1 d0_2 d0_3 d0_4 z0 c1_0 c1_1 c1_2 c1_3 c1_4 c1_5 c1_6 c1_7 c1_8 c1_9 c1_10 d1_0 d1_1 d1_2 d1_3 d1_4 d1_5 d1_6 d1_7 d1_8 d1_9 d1_10 z1 c2_0 c2_1 c2_2 c2_3 c2_4 d2_0 d2_1 d2_2 d2_3 d2_4 z2 c3_0 c3_1 c3_2 d3_0 d3_1 d3_2 z3
  have s4 : w3.heap.size ≤ w4.heap.size := (by have h := hb4.size; first | omega | (simp at h; omega))
  obtain ⟨c0_0, c0_1, c0_2, c0_3, c0_4, d0_0, d0_1, d0_2, d0_3, d0_4⟩ := cells5 B0_4
  have z0 : w.heap.size < w4.heap.size := B0_4.lt
  obtain ⟨⟨c1_0, c1_1, c1_2, c1_3, c1_4, c1_5, c1_6, c1_7, c1_8, c1_9, c1_10⟩, d1_0, d1_1, d1_2, d1_3, d1_4, d1_5, d1_6, d1_7, d1_8, d1_9, d1_10⟩ := cells11 B1_4
  have z1 : w.heap.size + 1 < w4.heap.size := B1_4.lt
  obtain ⟨c2_0, c2_1, c2_2, c2_3, c2_4, d2_0, d2_1, d2_2, d2_3, d2_4⟩ := cells5 B2_4
  have z2 : w.heap.size + 1 + 1 < w4.heap.size := B2_4.lt
  obtain ⟨c3_0, c3_1, c3_2, d3_0, d3_1, d3_2⟩ := cells3 B3_4
  have z3 : w1.heap.size < w4.heap.size := B3_4.lt
  go_wp2
  exact bodyPost_ret (ret_cell (cs := #[.slice r1 (backS (memS s m1) id v 0).M.W.length r2, .slice r3 (backS (memS s m1) id v 0).M.G.length r4, .bool (backS (memS s m1) id v 0).M.bad, .slice r5 (backS (memS s m1) id v 0).C.length r6, .slice r7 (backS (memS s m1) id v 0).L.length r8]) (((((B2_4.setCell _).setCell _).setCell _).setCell _).setCell _) Proofs.Try.results150 rfl Proofs.Try.underlying83 rfl (by kernel_rfl)) rfl ⟨_, rfl, exn, IsSys.less (IsSys.keep hu4 keq) (fun _ _ hn => .inl hn)⟩
set_option maxHeartbeats 1000000 in
set_option maxRecDepth 100000 in
theorem refProt_n0 (N : Nat → Prop) (s : SysD) (id op q0 q1 q2 q3 q4 q5 q6 q7 : Int) (fS : List Int) (aw ag ac al ga : Option Addr) (cw cg cc cl gc : Nat) (w : World) (hw : IsInts N w (.slice aw s.M.W.length cw) s.M.W) (hg : IsInts N w (.slice ag s.M.G.length cg) s.M.G) (hc : IsCores N w (.slice ac s.C.length cc) s.C) (hl : IsEvs N w (.slice al s.L.length cl) s.L) (fs : IsInts N w (.slice ga fS.length gc) fS)
    (hN : ∀ b, N b → b < w.heap.size) (hC : s.C.length ≤ 100000) (hFm : ∀ (i : Nat) c, s.C[i]? = some c → c.F.length ≤ 100000) (hfit : Fits s.M) (hid0 : 0 ≤ id) (hid1 : id ≤ 100) (hlo : -9223372036854775808 ≤ q0) (hhi : q0 ≤ 9223372036854775807) (hi : (idx (loadD s.M q0) == 0) = false) :
    Gives Proofs.Try.prog 150 #[.agg #[.slice aw s.M.W.length cw, .slice ag s.M.G.length cg, .bool s.M.bad, .slice ac s.C.length cc, .slice al s.L.length cl], .int .i64 id, .agg #[.int .i64 op, .int .i64 0, .int .i64 q0, .int .i64 q1, .int .i64 q2, .int .i64 q3, .int .i64 q4, .int .i64 q5, .int .i64 q6, .int .i64 q7, .slice ga fS.length gc]] w (fun r w' => IsSys N w' r (onS s id (touchD s.M q0) ⟨op, 0, [q0, q1, loadD s.M q0, q3, q4, q5, q6, q7], fS⟩ 1)) := by
  have hwB := hw.bxn (hi := w.heap.size + 3)
  have hgB := hg.bxn (hi := w.heap.size + 3)
  have hcB := hc.bxn (hi := w.heap.size + 3)
  have hlB := hl.bxn (hi := w.heap.size + 3)
  have fsB := fs.bxn (hi := w.heap.size + 3)
  obtain ⟨m1, hm1⟩ : ∃ m, touchD s.M q0 = m := ⟨_, rfl⟩
  obtain ⟨v, hv⟩ : ∃ x, loadD s.M q0 = x := ⟨_, rfl⟩
  have kl : ∀ (w' : World) (va : Value), IsMem (Bx N w.heap.size (w.heap.size + 3)) w' va s.M → w.heap.size + 3 ≤ w'.heap.size → Gives Proofs.Try.prog 65 #[va, .int .i64 (q0)] w' (fun r w' => ∃ u, r = .tuple #[u, .int .i64 v] ∧ IsMem (Bx N w.heap.size (w.heap.size + 3)) w' u m1) := fun w' va hm hsz => by
    have := refLoad_ (Bx N w.heap.size (w.heap.size + 3)) va s.M (q0) w' hm hfit (Bx.le hN hsz)
    rw [hm1, hv] at this; exact this
  rw [hm1]
  try rw [hv]
  rw [hv] at hi
  clear hm1 hv
  go_enter Proofs.Try.func150, Proofs.Try.ntmps150
  go_wp2_with (fail)
  go_at_call 65
  refine (kl _ _ (IsMem.mk rfl (IsInts.keep hwB keq) (IsInts.keep hgB keq)) (by first | omega | (simp <;> omega))).calls.mono ?_
  rintro e w1 ⟨_, rfl, hb1, u, rfl, hu1⟩
  obtain ⟨u1, u2, u3, u4, rfl, mw, mg⟩ := hu1.opened
  have B0_1 : Box w1 (w.heap.size) #[.slice aw s.M.W.length cw, .slice ag s.M.G.length cg, .bool s.M.bad, .slice ac s.C.length cc, .slice al s.L.length cl] 83 := (((Box.newAt _ _ _ (by first | rfl | simp)).alloc _).alloc _).ext hb1
  have B1_1 : Box w1 (w.heap.size + 1) #[.int .i64 op, .int .i64 0, .int .i64 q0, .int .i64 q1, .int .i64 q2, .int .i64 q3, .int .i64 q4, .int .i64 q5, .int .i64 q6, .int .i64 q7, .slice ga fS.length gc] 95 := ((Box.newAt _ _ _ (by first | rfl | simp)).alloc _).ext hb1
  have B2_1 : Box w1 (w.heap.size + 1 + 1) #[.slice none 0 0, .slice none 0 0, .bool false, .slice none 0 0, .slice none 0 0] 83 := (Box.newAt _ _ _ (by first | rfl | simp)).ext hb1
  have s1 : w.heap.size + 3 ≤ w1.heap.size := (by have h := hb1.size; first | omega | (simp at h; omega))
  obtain ⟨c0_0, c0_1, c0_2, c0_3, c0_4, d0_0, d0_1, d0_2, d0_3, d0_4⟩ := cells5 B0_1
  have z0 : w.heap.size < w1.heap.size := B0_1.lt
  obtain ⟨⟨c1_0, c1_1, c1_2, c1_3, c1_4, c1_5, c1_6, c1_7, c1_8, c1_9, c1_10⟩, d1_0, d1_1, d1_2, d1_3, d1_4, d1_5, d1_6, d1_7, d1_8, d1_9, d1_10⟩ := cells11 B1_1
  have z1 : w.heap.size + 1 < w1.heap.size := B1_1.lt
  obtain ⟨c2_0, c2_1, c2_2, c2_3, c2_4, d2_0, d2_1, d2_2, d2_3, d2_4⟩ := cells5 B2_1
  have z2 : w.heap.size + 1 + 1 < w1.heap.size := B2_1.lt
  go_wp2_with (fail)
  go_at_call 42
  refine (refIdx_ v _).calls.mono ?_
  rintro e w2 ⟨_, rfl, hb2, rfl⟩
  have B0_2 : Box w2 (w.heap.size) #[.slice aw s.M.W.length cw, .slice ag s.M.G.length cg, .bool s.M.bad, .slice ac s.C.length cc, .slice al s.L.length cl] 83 := (B0_1.alloc _).ext hb2
  have B1_2 : Box w2 (w.heap.size + 1) #[.int .i64 op, .int .i64 0, .int .i64 q0, .int .i64 q1, .int .i64 q2, .int .i64 q3, .int .i64 q4, .int .i64 q5, .int .i64 q6, .int .i64 q7, .slice ga fS.length gc] 95 := (B1_1.alloc _).ext hb2
  have B2_2 : Box w2 (w.heap.size + 1 + 1) #[.slice none 0 0, .slice none 0 0, .bool false, .slice none 0 0, .slice none 0 0] 83 := (B2_1.alloc _).ext hb2
  have B3_2 : Box w2 (w1.heap.size) #[.slice u1 m1.W.length u2, .slice u3 m1.G.length u4, .bool m1.bad] 50 := (Box.newAt _ _ _ (by first | rfl | simp)).ext hb2
  clear c0_0 c0_1 c0_2 c0_3 c0_4 d0_0 d0_1 d0_2 d0_3 d0_4 z0 c1_0 c1_1 c1_2 c1_3 c1_4 c1_5 c1_6 c1_7 c1_8 c1_9 c1_10 d1_0 d1_1 d1_2 d1_3 d1_4 d1_5 d1_6 d1_7 d1_8 d1_9 d1_10 z1 c2_0 c2_1 c2_2 c2_3 c2_4 d2_0 d2_1 d2_2 d2_3 d2_4 z2
  have s2 : w1.heap.size + 1 ≤ w2.heap.size := (by have h := hb2.size; first | omega | (simp at h; omega))
  obtain ⟨c0_0, c0_1, c0_2, c0_3, c0_4, d0_0, d0_1, d0_2, d0_3, d0_4⟩ := cells5 B0_2
  have z0 : w.heap.size < w2.heap.size := B0_2.lt
  obtain ⟨⟨c1_0, c1_1, c1_2, c1_3, c1_4, c1_5, c1_6, c1_7, c1_8, c1_9, c1_10⟩, d1_0, d1_1, d1_2, d1_3, d1_4, d1_5, d1_6, d1_7, d1_8, d1_9, d1_10⟩ := cells11 B1_2
  have z1 : w.heap.size + 1 < w2.heap.size := B1_2.lt
  obtain ⟨c2_0, c2_1, c2_2, c2_3, c2_4, d2_0, d2_1, d2_2, d2_3, d2_4⟩ := cells5 B2_2
  have z2 : w.heap.size + 1 + 1 < w2.heap.size := B2_2.lt
  obtain ⟨c3_0, c3_1, c3_2, d3_0, d3_1, d3_2⟩ := cells3 B3_2
  have z3 : w1.heap.size < w2.heap.size := B3_2.lt
  go_wp2_with (fail)
  go_at_call 151
  refine (refOn_ (Bx N w.heap.size (w.heap.size + 3)) _ _ _ s id 1 m1 ⟨op, 0, [q0, q1, v, q3, q4, q5, q6, q7], fS⟩ _ (IsSys.mk rfl (IsInts.keep hwB keq) (IsInts.keep hgB keq) (IsCores.keep hcB keq) (IsEvs.keep hlB keq) : IsSys (Bx N w.heap.size (w.heap.size + 3)) _ _ s) (IsMem.mk rfl (IsInts.keep mw keq) (IsInts.keep mg keq) : IsMem (Bx N w.heap.size (w.heap.size + 3)) _ _ m1) (IsFrame.ofLit (IsInts.keep fsB keq) : IsFrame _ _ _ ⟨op, 0, [q0, q1, v, q3, q4, q5, q6, q7], fS⟩) (Bx.le hN (by first | omega | (simp <;> omega))) hC hFm).calls.mono ?_
  rintro e w3 ⟨_, rfl, hb3, hu3⟩
  obtain ⟨r1, r2, r3, r4, r5, r6, r7, r8, rfl, rW, rG, rC, rL⟩ := hu3.opened
  have B0_3 : Box w3 (w.heap.size) #[.slice aw s.M.W.length cw, .slice ag s.M.G.length cg, .bool s.M.bad, .slice ac s.C.length cc, .slice al s.L.length cl] 83 := (B0_2.setOther (by first | omega | (simp <;> omega)) _).ext hb3
  have B1_3 : Box w3 (w.heap.size + 1) #[.int .i64 op, .int .i64 0, .int .i64 q0, .int .i64 q1, .int .i64 v, .int .i64 q3, .int .i64 q4, .int .i64 q5, .int .i64 q6, .int .i64 q7, .slice ga fS.length gc] 95 := (B1_2.setCell _).ext hb3
  have B2_3 : Box w3 (w.heap.size + 1 + 1) #[.slice none 0 0, .slice none 0 0, .bool false, .slice none 0 0, .slice none 0 0] 83 := (B2_2.setOther (by first | omega | (simp <;> omega)) _).ext hb3
  have B3_3 : Box w3 (w1.heap.size) #[.slice u1 m1.W.length u2, .slice u3 m1.G.length u4, .bool m1.bad] 50 := (B3_2.setOther (by first | omega | (simp <;> omega)) _).ext hb3
  clear c0_0 c0_1 c0_2 c0_3 c0_4 d0_0 d0_1 d0_2 d0_3 d0_4 z0 c1_0 c1_1 c1_2 c1_3 c1_4 c1_5 c1_6 c1_7 c1_8 c1_9 c1_10 d1_0 d1_1 d1_2 d1_3 d1_4 d1_5 d1_6 d1_7 d1_8 d1_9 d1_10 z1 c2_0 c2_1 c2_2 c2_3 c2_4 d2_0 d2_1 d2_2 d2_3 d2_4 z2 c3_0 c3_1 c3_2 d3_0 d3_1 d3_2 z3
  have s3 : w2.heap.size ≤ w3.heap.size := (by have h := hb3.size; first | omega | (simp at h; omega))
  obtain ⟨c0_0, c0_1, c0_2, c0_3, c0_4, d0_0, d0_1, d0_2, d0_3, d0_4⟩ := cells5 B0_3
  have z0 : w.heap.size < w3.heap.size := B0_3.lt
  obtain ⟨⟨c1_0, c1_1, c1_2, c1_3, c1_4, c1_5, c1_6, c1_7, c1_8, c1_9, c1_10⟩, d1_0, d1_1, d1_2, d1_3, d1_4, d1_5, d1_6, d1_7, d1_8, d1_9, d1_10⟩ := cells11 B1_3
  have z1 : w.heap.size + 1 < w3.heap.size := B1_3.lt
  obtain ⟨c2_0, c2_1, c2_2, c2_3, c2_4, d2_0, d2_1, d2_2, d2_3, d2_4⟩ := cells5 B2_3
  have z2 : w.heap.size + 1 + 1 < w3.heap.size := B2_3.lt
  obtain ⟨c3_0, c3_1, c3_2, d3_0, d3_1, d3_2⟩ := cells3 B3_3
  have z3 : w1.heap.size < w3.heap.size := B3_3.lt
  go_wp2
  exact bodyPost_ret (ret_cell (cs := #[.slice r1 (onS s id m1 ⟨op, 0, [q0, q1, v, q3, q4, q5, q6, q7], fS⟩ 1).M.W.length r2, .slice r3 (onS s id m1 ⟨op, 0, [q0, q1, v, q3, q4, q5, q6, q7], fS⟩ 1).M.G.length r4, .bool (onS s id m1 ⟨op, 0, [q0, q1, v, q3, q4, q5, q6, q7], fS⟩ 1).M.bad, .slice r5 (onS s id m1 ⟨op, 0, [q0, q1, v, q3, q4, q5, q6, q7], fS⟩ 1).C.length r6, .slice r7 (onS s id m1 ⟨op, 0, [q0, q1, v, q3, q4, q5, q6, q7], fS⟩ 1).L.length r8]) (((((B2_3.setCell _).setCell _).setCell _).setCell _).setCell _) Proofs.Try.results150 rfl Proofs.Try.underlying83 rfl (by kernel_rfl)) rfl ⟨_, rfl, exn, IsSys.less (IsSys.keep hu3 keq) (fun _ _ hn => .inl hn)⟩
set_option maxHeartbeats 1000000 in
set_option maxRecDepth 100000 in
theorem refProt_1 (N : Nat → Prop) (s : SysD) (id op q0 q1 q2 q3 q4 q5 q6 q7 : Int) (fS : List Int) (aw ag ac al ga : Option Addr) (cw cg cc cl gc : Nat) (w : World) (hw : IsInts N w (.slice aw s.M.W.length cw) s.M.W) (hg : IsInts N w (.slice ag s.M.G.length cg) s.M.G) (hc : IsCores N w (.slice ac s.C.length cc) s.C) (hl : IsEvs N w (.slice al s.L.length cl) s.L) (fs : IsInts N w (.slice ga fS.length gc) fS)
    (hN : ∀ b, N b → b < w.heap.size) (hC : s.C.length ≤ 100000) (hFm : ∀ (i : Nat) c, s.C[i]? = some c → c.F.length ≤ 100000) (hfit : Fits s.M) (hid0 : 0 ≤ id) (hid1 : id ≤ 100)  :
    Gives Proofs.Try.prog 150 #[.agg #[.slice aw s.M.W.length cw, .slice ag s.M.G.length cg, .bool s.M.bad, .slice ac s.C.length cc, .slice al s.L.length cl], .int .i64 id, .agg #[.int .i64 op, .int .i64 1, .int .i64 q0, .int .i64 q1, .int .i64 q2, .int .i64 q3, .int .i64 q4, .int .i64 q5, .int .i64 q6, .int .i64 q7, .slice ga fS.length gc]] w (fun r w' => IsSys N w' r (onS s id (storeD s.M (placeD id q1) (idx q2)) ⟨op, 1, [q0, q1, q2, q3, q4, q5, q6, q7], fS⟩ 2)) := by
  have hwB := hw.bxn (hi := w.heap.size + 3)
  have hgB := hg.bxn (hi := w.heap.size + 3)
  have hcB := hc.bxn (hi := w.heap.size + 3)
  have hlB := hl.bxn (hi := w.heap.size + 3)
  have fsB := fs.bxn (hi := w.heap.size + 3)
  obtain ⟨m1, hm1⟩ : ∃ m, storeD s.M (placeD id q1) (idx q2) = m := ⟨_, rfl⟩
  have ks : ∀ (w' : World) (va : Value), IsMem (Bx N w.heap.size (w.heap.size + 3)) w' va s.M → w.heap.size + 3 ≤ w'.heap.size → Gives Proofs.Try.prog 69 #[va, .int .i64 (placeD id q1), .int .i64 (idx q2)] w' (fun r w' => IsMem (Bx N w.heap.size (w.heap.size + 3)) w' r m1) := fun w' va hm hsz => by
    have := refStore_ (Bx N w.heap.size (w.heap.size + 3)) va s.M (placeD id q1) (idx q2) w' hm hfit (Bx.le hN hsz)
    rw [hm1] at this; exact this
  rw [hm1]
  clear hm1
  go_enter Proofs.Try.func150, Proofs.Try.ntmps150
  go_wp2_with (fail)
  obtain ⟨W2, hW⟩ : ∃ W, W = (((w.alloc (.cells #[.slice aw s.M.W.length cw, .slice ag s.M.G.length cg, .bool s.M.bad, .slice ac s.C.length cc, .slice al s.L.length cl] 83 (0, 0))).alloc (.cells #[.int .i64 op, .int .i64 1, .int .i64 q0, .int .i64 q1, .int .i64 q2, .int .i64 q3, .int .i64 q4, .int .i64 q5, .int .i64 q6, .int .i64 q7, .slice ga fS.length gc] 95 (0, 0))).alloc (.cells #[.slice none 0 0, .slice none 0 0, .bool false, .slice none 0 0, .slice none 0 0] 83 (0, 0))) := ⟨_, rfl⟩
  have hX2 : Ext w W2 := by rw [hW]; exact exn
  have hK2 : Keep (Bx N w.heap.size (w.heap.size + 3)) w W2 := by rw [hW]; exact keq
  have D0_2 : Box (((w.alloc (.cells #[.slice aw s.M.W.length cw, .slice ag s.M.G.length cg, .bool s.M.bad, .slice ac s.C.length cc, .slice al s.L.length cl] 83 (0, 0))).alloc (.cells #[.int .i64 op, .int .i64 1, .int .i64 q0, .int .i64 q1, .int .i64 q2, .int .i64 q3, .int .i64 q4, .int .i64 q5, .int .i64 q6, .int .i64 q7, .slice ga fS.length gc] 95 (0, 0))).alloc (.cells #[.slice none 0 0, .slice none 0 0, .bool false, .slice none 0 0, .slice none 0 0] 83 (0, 0))) (w.heap.size) #[.slice aw s.M.W.length cw, .slice ag s.M.G.length cg, .bool s.M.bad, .slice ac s.C.length cc, .slice al s.L.length cl] 83 := (((Box.newAt _ _ _ (by first | rfl | simp)).alloc _).alloc _)
  rw [← hW] at D0_2
  have D1_2 : Box (((w.alloc (.cells #[.slice aw s.M.W.length cw, .slice ag s.M.G.length cg, .bool s.M.bad, .slice ac s.C.length cc, .slice al s.L.length cl] 83 (0, 0))).alloc (.cells #[.int .i64 op, .int .i64 1, .int .i64 q0, .int .i64 q1, .int .i64 q2, .int .i64 q3, .int .i64 q4, .int .i64 q5, .int .i64 q6, .int .i64 q7, .slice ga fS.length gc] 95 (0, 0))).alloc (.cells #[.slice none 0 0, .slice none 0 0, .bool false, .slice none 0 0, .slice none 0 0] 83 (0, 0))) (w.heap.size + 1) #[.int .i64 op, .int .i64 1, .int .i64 q0, .int .i64 q1, .int .i64 q2, .int .i64 q3, .int .i64 q4, .int .i64 q5, .int .i64 q6, .int .i64 q7, .slice ga fS.length gc] 95 := ((Box.newAt _ _ _ (by first | rfl | simp)).alloc _)
  rw [← hW] at D1_2
  have D2_2 : Box (((w.alloc (.cells #[.slice aw s.M.W.length cw, .slice ag s.M.G.length cg, .bool s.M.bad, .slice ac s.C.length cc, .slice al s.L.length cl] 83 (0, 0))).alloc (.cells #[.int .i64 op, .int .i64 1, .int .i64 q0, .int .i64 q1, .int .i64 q2, .int .i64 q3, .int .i64 q4, .int .i64 q5, .int .i64 q6, .int .i64 q7, .slice ga fS.length gc] 95 (0, 0))).alloc (.cells #[.slice none 0 0, .slice none 0 0, .bool false, .slice none 0 0, .slice none 0 0] 83 (0, 0))) (w.heap.size + 1 + 1) #[.slice none 0 0, .slice none 0 0, .bool false, .slice none 0 0, .slice none 0 0] 83 := (Box.newAt _ _ _ (by first | rfl | simp))
  rw [← hW] at D2_2
  have y2 : w.heap.size + 3 ≤ W2.heap.size := by rw [hW]; simp
  rw [← hW]
  clear hW
  have aM : IsMem (Bx N w.heap.size (w.heap.size + 3)) W2 (.agg #[.slice aw s.M.W.length cw, .slice ag s.M.G.length cg, .bool s.M.bad]) s.M := (IsMem.mk rfl hwB hgB : IsMem (Bx N w.heap.size (w.heap.size + 3)) w _ s.M).keep hK2
  apply region_lit2 (T := [13]) (L := []) (X := []) (G := [eqv _, eqv _, eqv _, eqv _, eqv _, eqv _, eqv _, eqv _, eqv _, eqv _, eqv _, isMemN (Bx N w.heap.size (w.heap.size + 3)) m1, isNew W2.heap.size #[.slice none 0 0, .slice none 0 0, .bool false] 50, anyG])
  case hm => kernel_rfl
  case hop =>
    refine ⟨?_, ?_, ?_, ?_, ?_, ?_, ?_, ?_, ?_, ?_, ?_, ?_, ?_, ?_, trivial⟩
    · intro a wa hs hf hd
      have t3 := hf.off 3 (by kernel_rfl) rfl
      exact plain_ rfl (yes_eqv (o_fieldAddr rfl Proofs.Try.underlying83 rfl rfl (by kernel_rfl) t3) rfl)
    · intro a wa hs hf hd
      have t14 : a.eval (.tmp 14) = _ := hd.at 0 14 (by kernel_rfl)
      exact plain_ rfl (yes_eqv (o_load3 rfl Proofs.Try.underlying50 rfl (by kernel_rfl) t14 ((D0_2.since hs rfl).cell rfl) ((D0_2.since hs rfl).cell rfl) ((D0_2.since hs rfl).cell rfl)) rfl)
    · intro a wa hs hf hd
      have t1 := hf.off 1 (by kernel_rfl) rfl
      exact plain_ rfl (yes_eqv (o_move rfl t1) rfl)
    · intro a wa hs hf hd
      have t5 := hf.off 5 (by kernel_rfl) rfl
      exact plain_ rfl (yes_eqv (o_fieldAddr rfl Proofs.Try.underlying95 rfl rfl (by kernel_rfl) t5) rfl)
    · intro a wa hs hf hd
      have t17 : a.eval (.tmp 17) = _ := hd.at 3 17 (by kernel_rfl)
      exact plain_ rfl (yes_eqv (o_indexAddrA (sz := 1) rfl Proofs.Try.underlying93 (by kernel_rfl) t17 rfl (by decide) (by decide)) rfl)
    · intro a wa hs hf hd
      have t18 : a.eval (.tmp 18) = _ := hd.at 4 18 (by kernel_rfl)
      exact plain_ rfl (yes_eqv (o_load1 rfl Proofs.Try.underlying3 rfl t18 ((D1_2.since hs rfl).cell rfl)) rfl)
    · intro a wa hs hf hd
      have t16 : a.eval (.tmp 16) = _ := hd.at 2 16 (by kernel_rfl)
      have t19 : a.eval (.tmp 19) = _ := hd.at 5 19 (by kernel_rfl)
      exact plain_ rfl (yes_gives (refPlace_ id q1 _ hid0 hid1) rfl rfl Proofs.Try.func95 (by kernel_rfl) (by kernel_rfl) (by simp only [List.map_toArray, List.map_cons, List.map_nil, t16, t19]) rfl)
    · intro a wa hs hf hd
      have t5 := hf.off 5 (by kernel_rfl) rfl
      exact plain_ rfl (yes_eqv (o_fieldAddr rfl Proofs.Try.underlying95 rfl rfl (by kernel_rfl) t5) rfl)
    · intro a wa hs hf hd
      have t21 : a.eval (.tmp 21) = _ := hd.at 7 21 (by kernel_rfl)
      exact plain_ rfl (yes_eqv (o_indexAddrA (sz := 1) rfl Proofs.Try.underlying93 (by kernel_rfl) t21 rfl (by decide) (by decide)) rfl)
    · intro a wa hs hf hd
      have t22 : a.eval (.tmp 22) = _ := hd.at 8 22 (by kernel_rfl)
      exact plain_ rfl (yes_eqv (o_load1 rfl Proofs.Try.underlying3 rfl t22 ((D1_2.since hs rfl).cell rfl)) rfl)
    · intro a wa hs hf hd
      have t23 : a.eval (.tmp 23) = _ := hd.at 9 23 (by kernel_rfl)
      exact plain_ rfl (yes_gives (refIdx_ q2 _) rfl rfl Proofs.Try.func42 (by kernel_rfl) (by kernel_rfl) (by simp only [List.map_toArray, List.map_cons, List.map_nil, t23]) rfl)
    · intro a wa hs hf hd
      have t15 : a.eval (.tmp 15) = _ := hd.at 1 15 (by kernel_rfl)
      have t20 : a.eval (.tmp 20) = _ := hd.at 6 20 (by kernel_rfl)
      have t24 : a.eval (.tmp 24) = _ := hd.at 10 24 (by kernel_rfl)
      exact plain_ rfl (yes_gives (ks _ _ (aM.keep (Since.to_ext hs).keep) (by have := (Since.to_ext hs).size; omega)) rfl rfl Proofs.Try.func69 (by kernel_rfl) (by kernel_rfl) (by simp only [List.map_toArray, List.map_cons, List.map_nil, t15, t20, t24]) rfl)
    · intro a wa hs hf hd
      exact plain_ rfl (yes_new (z := .agg #[.slice none 0 0, .slice none 0 0, .bool false]) rfl (by kernel_rfl) (by kernel_rfl) rfl hs.size)
    · intro a wb wa hs1 hs hf hd hrun
      have t7 := hd.at 12 7 (by kernel_rfl)
      have t25 := hd.at 11 25 (by kernel_rfl)
      subst hrun
      have q18 : IsMem (Bx N w.heap.size (w.heap.size + 3)) _ (a.eval (.tmp 25)) m1 := t25
      obtain ⟨u1, u2, u3, u4, hv, _⟩ := q18.opened
      obtain ⟨bk, hp, hk, hBk⟩ := t7
      exact ⟨_, o_store rfl hp hv hBk (by kernel_rfl) (by simp [Value.cells, Value.oneCell']) (by first | (simp [Value.cells]; done) | (simp [Value.cells]; omega)) rfl, Since.put hs (.inl hk)⟩
  case hG => exact ⟨stable_eqv _, stable_eqv _, stable_eqv _, stable_eqv _, stable_eqv _, stable_eqv _, stable_eqv _, stable_eqv _, stable_eqv _, stable_eqv _, stable_eqv _, stable_isMemN _ _, stable_isNew _ _ _, stable_any, trivial⟩
  case hc => kernel_rfl
  case hfin =>
    intro v2 hs2
    rintro _ rfl _ rfl _ rfl _ rfl _ rfl _ rfl _ rfl _ rfl _ rfl _ rfl _ rfl r11 hr11 _ ⟨bn12, rfl, hbn12, hBn12⟩
    obtain ⟨u1, u2, u3, u4, rfl, mw0, mg0⟩ := IsMem.opened hr11
    rintro v2w ⟨o1, v1, ho1, hr1, rfl⟩
    cases ho1
    simp only [Act.put, List.setIfInBounds_toArray, List.set_cons_zero, List.set_cons_succ] at hr1 ⊢
    cases (hr1.symm.trans (o_store (v := .agg #[.slice u1 m1.W.length u2, .slice u3 m1.G.length u4, .bool m1.bad]) (new := #[.slice u1 m1.W.length u2, .slice u3 m1.G.length u4, .bool m1.bad]) rfl rfl rfl ((hBn12)) (by kernel_rfl) (by simp [Value.cells, Value.oneCell']) (by first | (simp [Value.cells]; done) | (simp [Value.cells]; omega)) (by first | rfl | kernel_rfl)))
    obtain ⟨w1, hw1⟩ : ∃ x, x = (put v2 bn12 (.cells #[.slice u1 m1.W.length u2, .slice u3 m1.G.length u4, .bool m1.bad] 50 (0, 0))) := ⟨_, rfl⟩
    have hW1 : Ext W2 v2 := Since.to_ext hs2
    have hb1 : Ext w w1 := by rw [hw1]; exact Since.to_ext ((Since.of_ext (hX2.trans hW1)).put (.inl (by have := hX2.size; omega)))
    have hk1 : Keep (Bx N w.heap.size (w.heap.size + 3)) w w1 := by rw [hw1]; exact ((hK2.ext hW1).put _ _ (.inl (by omega)))
    have hq1 : ∀ M v l, IsInts M v2 v l → IsInts M w1 v l := by intro M v l h; rw [hw1]; exact h.putNew hBn12 zero50
    have B0_1 : Box w1 (w.heap.size) #[.slice aw s.M.W.length cw, .slice ag s.M.G.length cg, .bool s.M.bad, .slice ac s.C.length cc, .slice al s.L.length cl] 83 := by rw [hw1]; exact (box_putOther (D0_2.since hs2 rfl) (by omega))
    have B1_1 : Box w1 (w.heap.size + 1) #[.int .i64 op, .int .i64 1, .int .i64 q0, .int .i64 q1, .int .i64 q2, .int .i64 q3, .int .i64 q4, .int .i64 q5, .int .i64 q6, .int .i64 q7, .slice ga fS.length gc] 95 := by rw [hw1]; exact (box_putOther (D1_2.since hs2 rfl) (by omega))
    have B2_1 : Box w1 (w.heap.size + 1 + 1) #[.slice none 0 0, .slice none 0 0, .bool false, .slice none 0 0, .slice none 0 0] 83 := by rw [hw1]; exact (box_putOther (D2_2.since hs2 rfl) (by omega))
    have BN2_12_1 : Box w1 (bn12) #[.slice u1 m1.W.length u2, .slice u3 m1.G.length u4, .bool m1.bad] 50 := by rw [hw1]; exact (hBn12).put
    have s1 : W2.heap.size ≤ w1.heap.size := by rw [hw1]; have := hW1.size; simpa [put] using this
    rw [← hw1]
    clear hw1
    obtain ⟨c0_0, c0_1, c0_2, c0_3, c0_4, d0_0, d0_1, d0_2, d0_3, d0_4⟩ := cells5 B0_1
    have z0 : w.heap.size < w1.heap.size := B0_1.lt
    obtain ⟨⟨c1_0, c1_1, c1_2, c1_3, c1_4, c1_5, c1_6, c1_7, c1_8, c1_9, c1_10⟩, d1_0, d1_1, d1_2, d1_3, d1_4, d1_5, d1_6, d1_7, d1_8, d1_9, d1_10⟩ := cells11 B1_1
    have z1 : w.heap.size + 1 < w1.heap.size := B1_1.lt
    obtain ⟨c2_0, c2_1, c2_2, c2_3, c2_4, d2_0, d2_1, d2_2, d2_3, d2_4⟩ := cells5 B2_1
    have z2 : w.heap.size + 1 + 1 < w1.heap.size := B2_1.lt
    obtain ⟨cN2_12_0, cN2_12_1, cN2_12_2, dN2_12_0, dN2_12_1, dN2_12_2⟩ := cells3 BN2_12_1
    have zN2_12 : bn12 < w1.heap.size := BN2_12_1.lt
    have mw := hq1 _ _ _ mw0
    have mg := hq1 _ _ _ mg0
    clear hq1
    go_wp2_with (fail)
    go_at_call 151
    refine (refOn_ (Bx N w.heap.size (w.heap.size + 3)) _ _ _ s id 2 m1 ⟨op, 1, [q0, q1, q2, q3, q4, q5, q6, q7], fS⟩ _ (IsSys.mk rfl (IsInts.keep hwB keq) (IsInts.keep hgB keq) (IsCores.keep hcB keq) (IsEvs.keep hlB keq) : IsSys (Bx N w.heap.size (w.heap.size + 3)) _ _ s) (IsMem.mk rfl (IsInts.keep mw keq) (IsInts.keep mg keq) : IsMem (Bx N w.heap.size (w.heap.size + 3)) _ _ m1) (IsFrame.ofLit (IsInts.keep fsB keq) : IsFrame _ _ _ ⟨op, 1, [q0, q1, q2, q3, q4, q5, q6, q7], fS⟩) (Bx.le hN (by first | omega | (simp <;> omega))) hC hFm).calls.mono ?_
    rintro e w2 ⟨_, rfl, hb2, hu2⟩
    obtain ⟨r1, r2, r3, r4, r5, r6, r7, r8, rfl, rW, rG, rC, rL⟩ := hu2.opened
    have B0_2 : Box w2 (w.heap.size) #[.slice aw s.M.W.length cw, .slice ag s.M.G.length cg, .bool s.M.bad, .slice ac s.C.length cc, .slice al s.L.length cl] 83 := B0_1.ext hb2
    have B1_2 : Box w2 (w.heap.size + 1) #[.int .i64 op, .int .i64 1, .int .i64 q0, .int .i64 q1, .int .i64 q2, .int .i64 q3, .int .i64 q4, .int .i64 q5, .int .i64 q6, .int .i64 q7, .slice ga fS.length gc] 95 := B1_1.ext hb2
    have B2_2 : Box w2 (w.heap.size + 1 + 1) #[.slice none 0 0, .slice none 0 0, .bool false, .slice none 0 0, .slice none 0 0] 83 := B2_1.ext hb2
    have BN2_12_2 : Box w2 (bn12) #[.slice u1 m1.W.length u2, .slice u3 m1.G.length u4, .bool m1.bad] 50 := BN2_12_1.ext hb2
    clear c0_0 c0_1 c0_2 c0_3 c0_4 d0_0 d0_1 d0_2 d0_3 d0_4 z0 c1_0 c1_1 c1_2 c1_3 c1_4 c1_5 c1_6 c1_7 c1_8 c1_9 c1_10 d1_0 d1_1 d1_2 d1_3 d1_4 d1_5 d1_6 d1_7 d1_8 d1_9 d1_10 z1 c2_0 c2_1 c2_2 c2_3 c2_4 d2_0 d2_1 d2_2 d2_3 d2_4 z2 cN2_12_0 cN2_12_1 cN2_12_2 dN2_12_0 dN2_12_1 dN2_12_2 zN2_12
    have s2 : w1.heap.size ≤ w2.heap.size := (by have h := hb2.size; first | omega | (simp at h; omega))
    obtain ⟨c0_0, c0_1, c0_2, c0_3, c0_4, d0_0, d0_1, d0_2, d0_3, d0_4⟩ := cells5 B0_2
    have z0 : w.heap.size < w2.heap.size := B0_2.lt
    obtain ⟨⟨c1_0, c1_1, c1_2, c1_3, c1_4, c1_5, c1_6, c1_7, c1_8, c1_9, c1_10⟩, d1_0, d1_1, d1_2, d1_3, d1_4, d1_5, d1_6, d1_7, d1_8, d1_9, d1_10⟩ := cells11 B1_2
    have z1 : w.heap.size + 1 < w2.heap.size := B1_2.lt
    obtain ⟨c2_0, c2_1, c2_2, c2_3, c2_4, d2_0, d2_1, d2_2, d2_3, d2_4⟩ := cells5 B2_2
    have z2 : w.heap.size + 1 + 1 < w2.heap.size := B2_2.lt
    obtain ⟨cN2_12_0, cN2_12_1, cN2_12_2, dN2_12_0, dN2_12_1, dN2_12_2⟩ := cells3 BN2_12_2
    have zN2_12 : bn12 < w2.heap.size := BN2_12_2.lt
    go_wp2
    exact bodyPost_ret (ret_cell (cs := #[.slice r1 (onS s id m1 ⟨op, 1, [q0, q1, q2, q3, q4, q5, q6, q7], fS⟩ 2).M.W.length r2, .slice r3 (onS s id m1 ⟨op, 1, [q0, q1, q2, q3, q4, q5, q6, q7], fS⟩ 2).M.G.length r4, .bool (onS s id m1 ⟨op, 1, [q0, q1, q2, q3, q4, q5, q6, q7], fS⟩ 2).M.bad, .slice r5 (onS s id m1 ⟨op, 1, [q0, q1, q2, q3, q4, q5, q6, q7], fS⟩ 2).C.length r6, .slice r7 (onS s id m1 ⟨op, 1, [q0, q1, q2, q3, q4, q5, q6, q7], fS⟩ 2).L.length r8]) (((((B2_2.setCell _).setCell _).setCell _).setCell _).setCell _) Proofs.Try.results150 rfl Proofs.Try.underlying83 rfl (by kernel_rfl)) rfl ⟨_, rfl, exn, IsSys.less (IsSys.keep hu2 keq) (fun _ _ hn => .inl hn)⟩
set_option maxHeartbeats 1000000 in
set_option maxRecDepth 100000 in
theorem refProt_e2 (N : Nat → Prop) (s : SysD) (id op q0 q1 q2 q3 q4 q5 q6 q7 : Int) (fS : List Int) (aw ag ac al ga : Option Addr) (cw cg cc cl gc : Nat) (w : World) (hw : IsInts N w (.slice aw s.M.W.length cw) s.M.W) (hg : IsInts N w (.slice ag s.M.G.length cg) s.M.G) (hc : IsCores N w (.slice ac s.C.length cc) s.C) (hl : IsEvs N w (.slice al s.L.length cl) s.L) (fs : IsInts N w (.slice ga fS.length gc) fS)
    (hN : ∀ b, N b → b < w.heap.size) (hC : s.C.length ≤ 100000) (hFm : ∀ (i : Nat) c, s.C[i]? = some c → c.F.length ≤ 100000) (hfit : Fits s.M) (hid0 : 0 ≤ id) (hid1 : id ≤ 100) (hlo : -9223372036854775808 ≤ q0) (hhi : q0 ≤ 9223372036854775807) (he : (loadD s.M q0 == q2) = true) (hi : (idx (loadD s.M q0) == 0) = false) :
    Gives Proofs.Try.prog 150 #[.agg #[.slice aw s.M.W.length cw, .slice ag s.M.G.length cg, .bool s.M.bad, .slice ac s.C.length cc, .slice al s.L.length cl], .int .i64 id, .agg #[.int .i64 op, .int .i64 2, .int .i64 q0, .int .i64 q1, .int .i64 q2, .int .i64 q3, .int .i64 q4, .int .i64 q5, .int .i64 q6, .int .i64 q7, .slice ga fS.length gc]] w (fun r w' => IsSys N w' r (backS (memS s (touchD s.M q0)) id (loadD s.M q0) 0)) := by
  have hwB := hw.bxn (hi := w.heap.size + 3)
  have hgB := hg.bxn (hi := w.heap.size + 3)
  have hcB := hc.bxn (hi := w.heap.size + 3)
  have hlB := hl.bxn (hi := w.heap.size + 3)
  have fsB := fs.bxn (hi := w.heap.size + 3)
  obtain ⟨m1, hm1⟩ : ∃ m, touchD s.M q0 = m := ⟨_, rfl⟩
  obtain ⟨v, hv⟩ : ∃ x, loadD s.M q0 = x := ⟨_, rfl⟩
  have kl : ∀ (w' : World) (va : Value), IsMem (Bx N w.heap.size (w.heap.size + 3)) w' va s.M → w.heap.size + 3 ≤ w'.heap.size → Gives Proofs.Try.prog 65 #[va, .int .i64 (q0)] w' (fun r w' => ∃ u, r = .tuple #[u, .int .i64 v] ∧ IsMem (Bx N w.heap.size (w.heap.size + 3)) w' u m1) := fun w' va hm hsz => by
    have := refLoad_ (Bx N w.heap.size (w.heap.size + 3)) va s.M (q0) w' hm hfit (Bx.le hN hsz)
    rw [hm1, hv] at this; exact this
  rw [hm1]
  try rw [hv]
  rw [hv] at hi
  rw [hv] at he
  clear hm1 hv
  go_enter Proofs.Try.func150, Proofs.Try.ntmps150
  go_wp2_with (fail)
  go_at_call 65
  refine (kl _ _ (IsMem.mk rfl (IsInts.keep hwB keq) (IsInts.keep hgB keq)) (by first | omega | (simp <;> omega))).calls.mono ?_
  rintro e w1 ⟨_, rfl, hb1, u, rfl, hu1⟩
  obtain ⟨u1, u2, u3, u4, rfl, mw, mg⟩ := hu1.opened
  have B0_1 : Box w1 (w.heap.size) #[.slice aw s.M.W.length cw, .slice ag s.M.G.length cg, .bool s.M.bad, .slice ac s.C.length cc, .slice al s.L.length cl] 83 := (((Box.newAt _ _ _ (by first | rfl | simp)).alloc _).alloc _).ext hb1
  have B1_1 : Box w1 (w.heap.size + 1) #[.int .i64 op, .int .i64 2, .int .i64 q0, .int .i64 q1, .int .i64 q2, .int .i64 q3, .int .i64 q4, .int .i64 q5, .int .i64 q6, .int .i64 q7, .slice ga fS.length gc] 95 := ((Box.newAt _ _ _ (by first | rfl | simp)).alloc _).ext hb1
  have B2_1 : Box w1 (w.heap.size + 1 + 1) #[.slice none 0 0, .slice none 0 0, .bool false, .slice none 0 0, .slice none 0 0] 83 := (Box.newAt _ _ _ (by first | rfl | simp)).ext hb1
  have s1 : w.heap.size + 3 ≤ w1.heap.size := (by have h := hb1.size; first | omega | (simp at h; omega))
  obtain ⟨c0_0, c0_1, c0_2, c0_3, c0_4, d0_0, d0_1, d0_2, d0_3, d0_4⟩ := cells5 B0_1
  have z0 : w.heap.size < w1.heap.size := B0_1.lt
  obtain ⟨⟨c1_0, c1_1, c1_2, c1_3, c1_4, c1_5, c1_6, c1_7, c1_8, c1_9, c1_10⟩, d1_0, d1_1, d1_2, d1_3, d1_4, d1_5, d1_6, d1_7, d1_8, d1_9, d1_10⟩ := cells11 B1_1
  have z1 : w.heap.size + 1 < w1.heap.size := B1_1.lt
  obtain ⟨c2_0, c2_1, c2_2, c2_3, c2_4, d2_0, d2_1, d2_2, d2_3, d2_4⟩ := cells5 B2_1
  have z2 : w.heap.size + 1 + 1 < w1.heap.size := B2_1.lt
  go_wp2_with (fail)
  go_at_call 42
  refine (refIdx_ v _).calls.mono ?_
  rintro e w2 ⟨_, rfl, hb2, rfl⟩
  have B0_2 : Box w2 (w.heap.size) #[.slice aw s.M.W.length cw, .slice ag s.M.G.length cg, .bool s.M.bad, .slice ac s.C.length cc, .slice al s.L.length cl] 83 := (B0_1.alloc _).ext hb2
  have B1_2 : Box w2 (w.heap.size + 1) #[.int .i64 op, .int .i64 2, .int .i64 q0, .int .i64 q1, .int .i64 q2, .int .i64 q3, .int .i64 q4, .int .i64 q5, .int .i64 q6, .int .i64 q7, .slice ga fS.length gc] 95 := (B1_1.alloc _).ext hb2
  have B2_2 : Box w2 (w.heap.size + 1 + 1) #[.slice none 0 0, .slice none 0 0, .bool false, .slice none 0 0, .slice none 0 0] 83 := (B2_1.alloc _).ext hb2
  have B3_2 : Box w2 (w1.heap.size) #[.slice u1 m1.W.length u2, .slice u3 m1.G.length u4, .bool m1.bad] 50 := (Box.newAt _ _ _ (by first | rfl | simp)).ext hb2
  clear c0_0 c0_1 c0_2 c0_3 c0_4 d0_0 d0_1 d0_2 d0_3 d0_4 z0 c1_0 c1_1 c1_2 c1_3 c1_4 c1_5 c1_6 c1_7 c1_8 c1_9 c1_10 d1_0 d1_1 d1_2 d1_3 d1_4 d1_5 d1_6 d1_7 d1_8 d1_9 d1_10 z1 c2_0 c2_1 c2_2 c2_3 c2_4 d2_0 d2_1 d2_2 d2_3 d2_4 z2
  have s2 : w1.heap.size + 1 ≤ w2.heap.size := (by have h := hb2.size; first | omega | (simp at h; omega))
  obtain ⟨c0_0, c0_1, c0_2, c0_3, c0_4, d0_0, d0_1, d0_2, d0_3, d0_4⟩ := cells5 B0_2
  have z0 : w.heap.size < w2.heap.size := B0_2.lt
  obtain ⟨⟨c1_0, c1_1, c1_2, c1_3, c1_4, c1_5, c1_6, c1_7, c1_8, c1_9, c1_10⟩, d1_0, d1_1, d1_2, d1_3, d1_4, d1_5, d1_6, d1_7, d1_8, d1_9, d1_10⟩ := cells11 B1_2
  have z1 : w.heap.size + 1 < w2.heap.size := B1_2.lt
  obtain ⟨c2_0, c2_1, c2_2, c2_3, c2_4, d2_0, d2_1, d2_2, d2_3, d2_4⟩ := cells5 B2_2
  have z2 : w.heap.size + 1 + 1 < w2.heap.size := B2_2.lt
  obtain ⟨c3_0, c3_1, c3_2, d3_0, d3_1, d3_2⟩ := cells3 B3_2
  have z3 : w1.heap.size < w2.heap.size := B3_2.lt
  go_wp2_with (fail)
  go_at_call 103
  refine (refMem_ (Bx N w.heap.size (w.heap.size + 3)) _ _ s m1 _ (IsSys.mk rfl (IsInts.keep hwB keq) (IsInts.keep hgB keq) (IsCores.keep hcB keq) (IsEvs.keep hlB keq) : IsSys (Bx N w.heap.size (w.heap.size + 3)) _ _ s) (IsMem.mk rfl (IsInts.keep mw keq) (IsInts.keep mg keq) : IsMem (Bx N w.heap.size (w.heap.size + 3)) _ _ m1)).calls.mono ?_
  rintro e w3 ⟨_, rfl, hb3, ht⟩
  obtain ⟨t1, t2, t3, t4, t5, t6, t7, t8, rfl, tW, tG, tC, tL⟩ := ht.opened
  have B0_3 : Box w3 (w.heap.size) #[.slice aw s.M.W.length cw, .slice ag s.M.G.length cg, .bool s.M.bad, .slice ac s.C.length cc, .slice al s.L.length cl] 83 := B0_2.ext hb3
  have B1_3 : Box w3 (w.heap.size + 1) #[.int .i64 op, .int .i64 2, .int .i64 q0, .int .i64 q1, .int .i64 q2, .int .i64 q3, .int .i64 q4, .int .i64 q5, .int .i64 q6, .int .i64 q7, .slice ga fS.length gc] 95 := B1_2.ext hb3
  have B2_3 : Box w3 (w.heap.size + 1 + 1) #[.slice none 0 0, .slice none 0 0, .bool false, .slice none 0 0, .slice none 0 0] 83 := B2_2.ext hb3
  have B3_3 : Box w3 (w1.heap.size) #[.slice u1 m1.W.length u2, .slice u3 m1.G.length u4, .bool m1.bad] 50 := B3_2.ext hb3
  clear c0_0 c0_1 c0_2 c0_3 c0_4 d0_0 d0_1 d0_2 d0_3 d0_4 z0 c1_0 c1_1 c1_2 c1_3 c1_4 c1_5 c1_6 c1_7 c1_8 c1_9 c1_10 d1_0 d1_1 d1_2 d1_3 d1_4 d1_5 d1_6 d1_7 d1_8 d1_9 d1_10 z1 c2_0 c2_1 c2_2 c2_3 c2_4 d2_0 d2_1 d2_2 d2_3 d2_4 z2 c3_0 c3_1 c3_2 d3_0 d3_1 d3_2 z3
  have s3 : w2.heap.size ≤ w3.heap.size := (by have h := hb3.size; first | omega | (simp at h; omega))
  obtain ⟨c0_0, c0_1, c0_2, c0_3, c0_4, d0_0, d0_1, d0_2, d0_3, d0_4⟩ := cells5 B0_3
  have z0 : w.heap.size < w3.heap.size := B0_3.lt
  obtain ⟨⟨c1_0, c1_1, c1_2, c1_3, c1_4, c1_5, c1_6, c1_7, c1_8, c1_9, c1_10⟩, d1_0, d1_1, d1_2, d1_3, d1_4, d1_5, d1_6, d1_7, d1_8, d1_9, d1_10⟩ := cells11 B1_3
  have z1 : w.heap.size + 1 < w3.heap.size := B1_3.lt
  obtain ⟨c2_0, c2_1, c2_2, c2_3, c2_4, d2_0, d2_1, d2_2, d2_3, d2_4⟩ := cells5 B2_3
  have z2 : w.heap.size + 1 + 1 < w3.heap.size := B2_3.lt
  obtain ⟨c3_0, c3_1, c3_2, d3_0, d3_1, d3_2⟩ := cells3 B3_3
  have z3 : w1.heap.size < w3.heap.size := B3_3.lt
  go_wp2_with (fail)
  go_at_call 90
  refine (refBack_ (Bx N w.heap.size (w.heap.size + 3)) _ (memS s m1) id v 0 _ (IsSys.mk rfl (IsInts.keep tW keq) (IsInts.keep tG keq) (IsCores.keep tC keq) (IsEvs.keep tL keq) : IsSys (Bx N w.heap.size (w.heap.size + 3)) _ _ (memS s m1)) (Bx.le hN (by first | omega | (simp <;> omega))) hC).calls.mono ?_
  rintro e w4 ⟨_, rfl, hb4, hu4⟩
  obtain ⟨r1, r2, r3, r4, r5, r6, r7, r8, rfl, rW, rG, rC, rL⟩ := hu4.opened
  have B0_4 : Box w4 (w.heap.size) #[.slice aw s.M.W.length cw, .slice ag s.M.G.length cg, .bool s.M.bad, .slice ac s.C.length cc, .slice al s.L.length cl] 83 := B0_3.ext hb4
  have B1_4 : Box w4 (w.heap.size + 1) #[.int .i64 op, .int .i64 2, .int .i64 q0, .int .i64 q1, .int .i64 q2, .int .i64 q3, .int .i64 q4, .int .i64 q5, .int .i64 q6, .int .i64 q7, .slice ga fS.length gc] 95 := B1_3.ext hb4
  have B2_4 : Box w4 (w.heap.size + 1 + 1) #[.slice none 0 0, .slice none 0 0, .bool false, .slice none 0 0, .slice none 0 0] 83 := B2_3.ext hb4
  have B3_4 : Box w4 (w1.heap.size) #[.slice u1 m1.W.length u2, .slice u3 m1.G.length u4, .bool m1.bad] 50 := B3_3.ext hb4
  clear c0_0 c0_1 c0_2 c0_3 c0_4 d0_0 d0_1 d0_2 d0_3 d0_4 z0 c1_0 c1_1 c1_2 c1_3 c1_4 c1_5 c1_6 c1_7 c1_8 c1_9 c1_10 d1_0 d1_1 d1_2 d1_3 d1_4 d1_5 d1_6 d1_7 d1_8 d1_9 d1_10 z1 c2_0 c2_1 c2_2 c2_3 c2_4 d2_0 d2_1 d2_2 d2_3 d2_4 z2 c3_0 c3_1 c3_2 d3_0 d3_1 d3_2 z3
  have s4 : w3.heap.size ≤ w4.heap.size := (by have h := hb4.size; first | omega | (simp at h; omega))
  obtain ⟨c0_0, c0_1, c0_2, c0_3, c0_4, d0_0, d0_1, d0_2, d0_3, d0_4⟩ := cells5 B0_4
  have z0 : w.heap.size < w4.heap.size := B0_4.lt
  obtain ⟨⟨c1_0, c1_1, c1_2, c1_3, c1_4, c1_5, c1_6, c1_7, c1_8, c1_9, c1_10⟩, d1_0, d1_1, d1_2, d1_3, d1_4, d1_5, d1_6, d1_7, d1_8, d1_9, d1_10⟩ := cells11 B1_4
  have z1 : w.heap.size + 1 < w4.heap.size := B1_4.lt
  obtain ⟨c2_0, c2_1, c2_2, c2_3, c2_4, d2_0, d2_1, d2_2, d2_3, d2_4⟩ := cells5 B2_4
  have z2 : w.heap.size + 1 + 1 < w4.heap.size := B2_4.lt
  obtain ⟨c3_0, c3_1, c3_2, d3_0, d3_1, d3_2⟩ := cells3 B3_4
  have z3 : w1.heap.size < w4.heap.size := B3_4.lt
  go_wp2
  exact bodyPost_ret (ret_cell (cs := #[.slice r1 (backS (memS s m1) id v 0).M.W.length r2, .slice r3 (backS (memS s m1) id v 0).M.G.length r4, .bool (backS (memS s m1) id v 0).M.bad, .slice r5 (backS (memS s m1) id v 0).C.length r6, .slice r7 (backS (memS s m1) id v 0).L.length r8]) (((((B2_4.setCell _).setCell _).setCell _).setCell _).setCell _) Proofs.Try.results150 rfl Proofs.Try.underlying83 rfl (by kernel_rfl)) rfl ⟨_, rfl, exn, IsSys.less (IsSys.keep hu4 keq) (fun _ _ hn => .inl hn)⟩
set_option maxHeartbeats 1000000 in
set_option maxRecDepth 100000 in
theorem refProt_z2 (N : Nat → Prop) (s : SysD) (id op q0 q1 q2 q3 q4 q5 q6 q7 : Int) (fS : List Int) (aw ag ac al ga : Option Addr) (cw cg cc cl gc : Nat) (w : World) (hw : IsInts N w (.slice aw s.M.W.length cw) s.M.W) (hg : IsInts N w (.slice ag s.M.G.length cg) s.M.G) (hc : IsCores N w (.slice ac s.C.length cc) s.C) (hl : IsEvs N w (.slice al s.L.length cl) s.L) (fs : IsInts N w (.slice ga fS.length gc) fS)
    (hN : ∀ b, N b → b < w.heap.size) (hC : s.C.length ≤ 100000) (hFm : ∀ (i : Nat) c, s.C[i]? = some c → c.F.length ≤ 100000) (hfit : Fits s.M) (hid0 : 0 ≤ id) (hid1 : id ≤ 100) (hlo : -9223372036854775808 ≤ q0) (hhi : q0 ≤ 9223372036854775807) (hi : (idx (loadD s.M q0) == 0) = true) :
    Gives Proofs.Try.prog 150 #[.agg #[.slice aw s.M.W.length cw, .slice ag s.M.G.length cg, .bool s.M.bad, .slice ac s.C.length cc, .slice al s.L.length cl], .int .i64 id, .agg #[.int .i64 op, .int .i64 2, .int .i64 q0, .int .i64 q1, .int .i64 q2, .int .i64 q3, .int .i64 q4, .int .i64 q5, .int .i64 q6, .int .i64 q7, .slice ga fS.length gc]] w (fun r w' => IsSys N w' r (backS (memS s (touchD s.M q0)) id (loadD s.M q0) 0)) := by
  have hwB := hw.bxn (hi := w.heap.size + 3)
  have hgB := hg.bxn (hi := w.heap.size + 3)
  have hcB := hc.bxn (hi := w.heap.size + 3)
  have hlB := hl.bxn (hi := w.heap.size + 3)
  have fsB := fs.bxn (hi := w.heap.size + 3)
  obtain ⟨m1, hm1⟩ : ∃ m, touchD s.M q0 = m := ⟨_, rfl⟩
  obtain ⟨v, hv⟩ : ∃ x, loadD s.M q0 = x := ⟨_, rfl⟩
  have kl : ∀ (w' : World) (va : Value), IsMem (Bx N w.heap.size (w.heap.size + 3)) w' va s.M → w.heap.size + 3 ≤ w'.heap.size → Gives Proofs.Try.prog 65 #[va, .int .i64 (q0)] w' (fun r w' => ∃ u, r = .tuple #[u, .int .i64 v] ∧ IsMem (Bx N w.heap.size (w.heap.size + 3)) w' u m1) := fun w' va hm hsz => by
    have := refLoad_ (Bx N w.heap.size (w.heap.size + 3)) va s.M (q0) w' hm hfit (Bx.le hN hsz)
    rw [hm1, hv] at this; exact this
  rw [hm1]
  try rw [hv]
  rw [hv] at hi
  clear hm1 hv
  go_enter Proofs.Try.func150, Proofs.Try.ntmps150
  go_wp2_with (fail)
  go_at_call 65
  refine (kl _ _ (IsMem.mk rfl (IsInts.keep hwB keq) (IsInts.keep hgB keq)) (by first | omega | (simp <;> omega))).calls.mono ?_
  rintro e w1 ⟨_, rfl, hb1, u, rfl, hu1⟩
  obtain ⟨u1, u2, u3, u4, rfl, mw, mg⟩ := hu1.opened
  have B0_1 : Box w1 (w.heap.size) #[.slice aw s.M.W.length cw, .slice ag s.M.G.length cg, .bool s.M.bad, .slice ac s.C.length cc, .slice al s.L.length cl] 83 := (((Box.newAt _ _ _ (by first | rfl | simp)).alloc _).alloc _).ext hb1
  have B1_1 : Box w1 (w.heap.size + 1) #[.int .i64 op, .int .i64 2, .int .i64 q0, .int .i64 q1, .int .i64 q2, .int .i64 q3, .int .i64 q4, .int .i64 q5, .int .i64 q6, .int .i64 q7, .slice ga fS.length gc] 95 := ((Box.newAt _ _ _ (by first | rfl | simp)).alloc _).ext hb1
  have B2_1 : Box w1 (w.heap.size + 1 + 1) #[.slice none 0 0, .slice none 0 0, .bool false, .slice none 0 0, .slice none 0 0] 83 := (Box.newAt _ _ _ (by first | rfl | simp)).ext hb1
  have s1 : w.heap.size + 3 ≤ w1.heap.size := (by have h := hb1.size; first | omega | (simp at h; omega))
  obtain ⟨c0_0, c0_1, c0_2, c0_3, c0_4, d0_0, d0_1, d0_2, d0_3, d0_4⟩ := cells5 B0_1
  have z0 : w.heap.size < w1.heap.size := B0_1.lt
  obtain ⟨⟨c1_0, c1_1, c1_2, c1_3, c1_4, c1_5, c1_6, c1_7, c1_8, c1_9, c1_10⟩, d1_0, d1_1, d1_2, d1_3, d1_4, d1_5, d1_6, d1_7, d1_8, d1_9, d1_10⟩ := cells11 B1_1
  have z1 : w.heap.size + 1 < w1.heap.size := B1_1.lt
  obtain ⟨c2_0, c2_1, c2_2, c2_3, c2_4, d2_0, d2_1, d2_2, d2_3, d2_4⟩ := cells5 B2_1
  have z2 : w.heap.size + 1 + 1 < w1.heap.size := B2_1.lt
  go_wp2_with (fail)
  go_at_call 42
  refine (refIdx_ v _).calls.mono ?_
  rintro e w2 ⟨_, rfl, hb2, rfl⟩
  have B0_2 : Box w2 (w.heap.size) #[.slice aw s.M.W.length cw, .slice ag s.M.G.length cg, .bool s.M.bad, .slice ac s.C.length cc, .slice al s.L.length cl] 83 := (B0_1.alloc _).ext hb2
  have B1_2 : Box w2 (w.heap.size + 1) #[.int .i64 op, .int .i64 2, .int .i64 q0, .int .i64 q1, .int .i64 q2, .int .i64 q3, .int .i64 q4, .int .i64 q5, .int .i64 q6, .int .i64 q7, .slice ga fS.length gc] 95 := (B1_1.alloc _).ext hb2
  have B2_2 : Box w2 (w.heap.size + 1 + 1) #[.slice none 0 0, .slice none 0 0, .bool false, .slice none 0 0, .slice none 0 0] 83 := (B2_1.alloc _).ext hb2
  have B3_2 : Box w2 (w1.heap.size) #[.slice u1 m1.W.length u2, .slice u3 m1.G.length u4, .bool m1.bad] 50 := (Box.newAt _ _ _ (by first | rfl | simp)).ext hb2
  clear c0_0 c0_1 c0_2 c0_3 c0_4 d0_0 d0_1 d0_2 d0_3 d0_4 z0 c1_0 c1_1 c1_2 c1_3 c1_4 c1_5 c1_6 c1_7 c1_8 c1_9 c1_10 d1_0 d1_1 d1_2 d1_3 d1_4 d1_5 d1_6 d1_7 d1_8 d1_9 d1_10 z1 c2_0 c2_1 c2_2 c2_3 c2_4 d2_0 d2_1 d2_2 d2_3 d2_4 z2
  have s2 : w1.heap.size + 1 ≤ w2.heap.size := (by have h := hb2.size; first | omega | (simp at h; omega))
  obtain ⟨c0_0, c0_1, c0_2, c0_3, c0_4, d0_0, d0_1, d0_2, d0_3, d0_4⟩ := cells5 B0_2
  have z0 : w.heap.size < w2.heap.size := B0_2.lt
  obtain ⟨⟨c1_0, c1_1, c1_2, c1_3, c1_4, c1_5, c1_6, c1_7, c1_8, c1_9, c1_10⟩, d1_0, d1_1, d1_2, d1_3, d1_4, d1_5, d1_6, d1_7, d1_8, d1_9, d1_10⟩ := cells11 B1_2
  have z1 : w.heap.size + 1 < w2.heap.size := B1_2.lt
  obtain ⟨c2_0, c2_1, c2_2, c2_3, c2_4, d2_0, d2_1, d2_2, d2_3, d2_4⟩ := cells5 B2_2
  have z2 : w.heap.size + 1 + 1 < w2.heap.size := B2_2.lt
  obtain ⟨c3_0, c3_1, c3_2, d3_0, d3_1, d3_2⟩ := cells3 B3_2
  have z3 : w1.heap.size < w2.heap.size := B3_2.lt
  go_wp2_with (fail)
  go_at_call 103
  refine (refMem_ (Bx N w.heap.size (w.heap.size + 3)) _ _ s m1 _ (IsSys.mk rfl (IsInts.keep hwB keq) (IsInts.keep hgB keq) (IsCores.keep hcB keq) (IsEvs.keep hlB keq) : IsSys (Bx N w.heap.size (w.heap.size + 3)) _ _ s) (IsMem.mk rfl (IsInts.keep mw keq) (IsInts.keep mg keq) : IsMem (Bx N w.heap.size (w.heap.size + 3)) _ _ m1)).calls.mono ?_
  rintro e w3 ⟨_, rfl, hb3, ht⟩
  obtain ⟨t1, t2, t3, t4, t5, t6, t7, t8, rfl, tW, tG, tC, tL⟩ := ht.opened
  have B0_3 : Box w3 (w.heap.size) #[.slice aw s.M.W.length cw, .slice ag s.M.G.length cg, .bool s.M.bad, .slice ac s.C.length cc, .slice al s.L.length cl] 83 := B0_2.ext hb3
  have B1_3 : Box w3 (w.heap.size + 1) #[.int .i64 op, .int .i64 2, .int .i64 q0, .int .i64 q1, .int .i64 q2, .int .i64 q3, .int .i64 q4, .int .i64 q5, .int .i64 q6, .int .i64 q7, .slice ga fS.length gc] 95 := B1_2.ext hb3
  have B2_3 : Box w3 (w.heap.size + 1 + 1) #[.slice none 0 0, .slice none 0 0, .bool false, .slice none 0 0, .slice none 0 0] 83 := B2_2.ext hb3
  have B3_3 : Box w3 (w1.heap.size) #[.slice u1 m1.W.length u2, .slice u3 m1.G.length u4, .bool m1.bad] 50 := B3_2.ext hb3
  clear c0_0 c0_1 c0_2 c0_3 c0_4 d0_0 d0_1 d0_2 d0_3 d0_4 z0 c1_0 c1_1 c1_2 c1_3 c1_4 c1_5 c1_6 c1_7 c1_8 c1_9 c1_10 d1_0 d1_1 d1_2 d1_3 d1_4 d1_5 d1_6 d1_7 d1_8 d1_9 d1_10 z1 c2_0 c2_1 c2_2 c2_3 c2_4 d2_0 d2_1 d2_2 d2_3 d2_4 z2 c3_0 c3_1 c3_2 d3_0 d3_1 d3_2 z3
  have s3 : w2.heap.size ≤ w3.heap.size := (by have h := hb3.size; first | omega | (simp at h; omega))
  obtain ⟨c0_0, c0_1, c0_2, c0_3, c0_4, d0_0, d0_1, d0_2, d0_3, d0_4⟩ := cells5 B0_3
  have z0 : w.heap.size < w3.heap.size := B0_3.lt
  obtain ⟨⟨c1_0, c1_1, c1_2, c1_3, c1_4, c1_5, c1_6, c1_7, c1_8, c1_9, c1_10⟩, d1_0, d1_1, d1_2, d1_3, d1_4, d1_5, d1_6, d1_7, d1_8, d1_9, d1_10⟩ := cells11 B1_3
  have z1 : w.heap.size + 1 < w3.heap.size := B1_3.lt
  obtain ⟨c2_0, c2_1, c2_2, c2_3, c2_4, d2_0, d2_1, d2_2, d2_3, d2_4⟩ := cells5 B2_3
  have z2 : w.heap.size + 1 + 1 < w3.heap.size := B2_3.lt
  obtain ⟨c3_0, c3_1, c3_2, d3_0, d3_1, d3_2⟩ := cells3 B3_3
  have z3 : w1.heap.size < w3.heap.size := B3_3.lt
  go_wp2_with (fail)
  go_at_call 90
  refine (refBack_ (Bx N w.heap.size (w.heap.size + 3)) _ (memS s m1) id v 0 _ (IsSys.mk rfl (IsInts.keep tW keq) (IsInts.keep tG keq) (IsCores.keep tC keq) (IsEvs.keep tL keq) : IsSys (Bx N w.heap.size (w.heap.size + 3)) _ _ (memS s m1)) (Bx.le hN (by first | omega | (simp <;> omega))) hC).calls.mono ?_
  rintro e w4 ⟨_, rfl, hb4, hu4⟩
  obtain ⟨r1, r2, r3, r4, r5, r6, r7, r8, rfl, rW, rG, rC, rL⟩ := hu4.opened
  have B0_4 : Box w4 (w.heap.size) #[.slice aw s.M.W.length cw, .slice ag s.M.G.length cg, .bool s.M.bad, .slice ac s.C.length cc, .slice al s.L.length cl] 83 := B0_3.ext hb4
  have B1_4 : Box w4 (w.heap.size + 1) #[.int .i64 op, .int .i64 2, .int .i64 q0, .int .i64 q1, .int .i64 q2, .int .i64 q3, .int .i64 q4, .int .i64 q5, .int .i64 q6, .int .i64 q7, .slice ga fS.length gc] 95 := B1_3.ext hb4
  have B2_4 : Box w4 (w.heap.size + 1 + 1) #[.slice none 0 0, .slice none 0 0, .bool false, .slice none 0 0, .slice none 0 0] 83 := B2_3.ext hb4
  have B3_4 : Box w4 (w1.heap.size) #[.slice u1 m1.W.length u2, .slice u3 m1.G.length u4, .bool m1.bad] 50 := B3_3.ext hb4
  clear c0_0 c0_1 c0_2 c0_3 c0_4 d0_0 d0_1 d0_2 d0_3 d0_4 z0 c1_0 c1_1 c1_2 c1_3 c1_4 c1_5 c1_6 c1_7 c1_8 c1_9 c1_10 d1_0 d1_1 d1_2 d1_3 d1_4 d1_5 d1_6 d1_7 d1_8 d1_9 d1_10 z1 c2_0 c2_1 c2_2 c2_3 c2_4 d2_0 d2_1 d2_2 d2_3 d2_4 z2 c3_0 c3_1 c3_2 d3_0 d3_1 d3_2 z3
  have s4 : w3.heap.size ≤ w4.heap.size := (by have h := hb4.size; first | omega | (simp at h; omega))
  obtain ⟨c0_0, c0_1, c0_2, c0_3, c0_4, d0_0, d0_1, d0_2, d0_3, d0_4⟩ := cells5 B0_4
  have z0 : w.heap.size < w4.heap.size := B0_4.lt
  obtain ⟨⟨c1_0, c1_1, c1_2, c1_3, c1_4, c1_5, c1_6, c1_7, c1_8, c1_9, c1_10⟩, d1_0, d1_1, d1_2, d1_3, d1_4, d1_5, d1_6, d1_7, d1_8, d1_9, d1_10⟩ := cells11 B1_4
  have z1 : w.heap.size + 1 < w4.heap.size := B1_4.lt
  obtain ⟨c2_0, c2_1, c2_2, c2_3, c2_4, d2_0, d2_1, d2_2, d2_3, d2_4⟩ := cells5 B2_4
  have z2 : w.heap.size + 1 + 1 < w4.heap.size := B2_4.lt
  obtain ⟨c3_0, c3_1, c3_2, d3_0, d3_1, d3_2⟩ := cells3 B3_4
  have z3 : w1.heap.size < w4.heap.size := B3_4.lt
  go_wp2
  exact bodyPost_ret (ret_cell (cs := #[.slice r1 (backS (memS s m1) id v 0).M.W.length r2, .slice r3 (backS (memS s m1) id v 0).M.G.length r4, .bool (backS (memS s m1) id v 0).M.bad, .slice r5 (backS (memS s m1) id v 0).C.length r6, .slice r7 (backS (memS s m1) id v 0).L.length r8]) (((((B2_4.setCell _).setCell _).setCell _).setCell _).setCell _) Proofs.Try.results150 rfl Proofs.Try.underlying83 rfl (by kernel_rfl)) rfl ⟨_, rfl, exn, IsSys.less (IsSys.keep hu4 keq) (fun _ _ hn => .inl hn)⟩
set_option maxHeartbeats 1000000 in
set_option maxRecDepth 100000 in
theorem refProt_n2 (N : Nat → Prop) (s : SysD) (id op q0 q1 q2 q3 q4 q5 q6 q7 : Int) (fS : List Int) (aw ag ac al ga : Option Addr) (cw cg cc cl gc : Nat) (w : World) (hw : IsInts N w (.slice aw s.M.W.length cw) s.M.W) (hg : IsInts N w (.slice ag s.M.G.length cg) s.M.G) (hc : IsCores N w (.slice ac s.C.length cc) s.C) (hl : IsEvs N w (.slice al s.L.length cl) s.L) (fs : IsInts N w (.slice ga fS.length gc) fS)
    (hN : ∀ b, N b → b < w.heap.size) (hC : s.C.length ≤ 100000) (hFm : ∀ (i : Nat) c, s.C[i]? = some c → c.F.length ≤ 100000) (hfit : Fits s.M) (hid0 : 0 ≤ id) (hid1 : id ≤ 100) (hlo : -9223372036854775808 ≤ q0) (hhi : q0 ≤ 9223372036854775807) (he : (loadD s.M q0 == q2) = false) (hi : (idx (loadD s.M q0) == 0) = false) :
    Gives Proofs.Try.prog 150 #[.agg #[.slice aw s.M.W.length cw, .slice ag s.M.G.length cg, .bool s.M.bad, .slice ac s.C.length cc, .slice al s.L.length cl], .int .i64 id, .agg #[.int .i64 op, .int .i64 2, .int .i64 q0, .int .i64 q1, .int .i64 q2, .int .i64 q3, .int .i64 q4, .int .i64 q5, .int .i64 q6, .int .i64 q7, .slice ga fS.length gc]] w (fun r w' => IsSys N w' r (onS s id (touchD s.M q0) ⟨op, 2, [q0, q1, loadD s.M q0, loadD s.M q0, q4, q5, q6, q7], fS⟩ 1)) := by
  have hwB := hw.bxn (hi := w.heap.size + 3)
  have hgB := hg.bxn (hi := w.heap.size + 3)
  have hcB := hc.bxn (hi := w.heap.size + 3)
  have hlB := hl.bxn (hi := w.heap.size + 3)
  have fsB := fs.bxn (hi := w.heap.size + 3)
  obtain ⟨m1, hm1⟩ : ∃ m, touchD s.M q0 = m := ⟨_, rfl⟩
  obtain ⟨v, hv⟩ : ∃ x, loadD s.M q0 = x := ⟨_, rfl⟩
  have kl : ∀ (w' : World) (va : Value), IsMem (Bx N w.heap.size (w.heap.size + 3)) w' va s.M → w.heap.size + 3 ≤ w'.heap.size → Gives Proofs.Try.prog 65 #[va, .int .i64 (q0)] w' (fun r w' => ∃ u, r = .tuple #[u, .int .i64 v] ∧ IsMem (Bx N w.heap.size (w.heap.size + 3)) w' u m1) := fun w' va hm hsz => by
    have := refLoad_ (Bx N w.heap.size (w.heap.size + 3)) va s.M (q0) w' hm hfit (Bx.le hN hsz)
    rw [hm1, hv] at this; exact this
  rw [hm1]
  try rw [hv]
  rw [hv] at hi
  rw [hv] at he
  clear hm1 hv
  go_enter Proofs.Try.func150, Proofs.Try.ntmps150
  go_wp2_with (fail)
  go_at_call 65
  refine (kl _ _ (IsMem.mk rfl (IsInts.keep hwB keq) (IsInts.keep hgB keq)) (by first | omega | (simp <;> omega))).calls.mono ?_
  rintro e w1 ⟨_, rfl, hb1, u, rfl, hu1⟩
  obtain ⟨u1, u2, u3, u4, rfl, mw, mg⟩ := hu1.opened
  have B0_1 : Box w1 (w.heap.size) #[.slice aw s.M.W.length cw, .slice ag s.M.G.length cg, .bool s.M.bad, .slice ac s.C.length cc, .slice al s.L.length cl] 83 := (((Box.newAt _ _ _ (by first | rfl | simp)).alloc _).alloc _).ext hb1
  have B1_1 : Box w1 (w.heap.size + 1) #[.int .i64 op, .int .i64 2, .int .i64 q0, .int .i64 q1, .int .i64 q2, .int .i64 q3, .int .i64 q4, .int .i64 q5, .int .i64 q6, .int .i64 q7, .slice ga fS.length gc] 95 := ((Box.newAt _ _ _ (by first | rfl | simp)).alloc _).ext hb1
  have B2_1 : Box w1 (w.heap.size + 1 + 1) #[.slice none 0 0, .slice none 0 0, .bool false, .slice none 0 0, .slice none 0 0] 83 := (Box.newAt _ _ _ (by first | rfl | simp)).ext hb1
  have s1 : w.heap.size + 3 ≤ w1.heap.size := (by have h := hb1.size; first | omega | (simp at h; omega))
  obtain ⟨c0_0, c0_1, c0_2, c0_3, c0_4, d0_0, d0_1, d0_2, d0_3, d0_4⟩ := cells5 B0_1
  have z0 : w.heap.size < w1.heap.size := B0_1.lt
  obtain ⟨⟨c1_0, c1_1, c1_2, c1_3, c1_4, c1_5, c1_6, c1_7, c1_8, c1_9, c1_10⟩, d1_0, d1_1, d1_2, d1_3, d1_4, d1_5, d1_6, d1_7, d1_8, d1_9, d1_10⟩ := cells11 B1_1
  have z1 : w.heap.size + 1 < w1.heap.size := B1_1.lt
  obtain ⟨c2_0, c2_1, c2_2, c2_3, c2_4, d2_0, d2_1, d2_2, d2_3, d2_4⟩ := cells5 B2_1
  have z2 : w.heap.size + 1 + 1 < w1.heap.size := B2_1.lt
  go_wp2_with (fail)
  go_at_call 42
  refine (refIdx_ v _).calls.mono ?_
  rintro e w2 ⟨_, rfl, hb2, rfl⟩
  have B0_2 : Box w2 (w.heap.size) #[.slice aw s.M.W.length cw, .slice ag s.M.G.length cg, .bool s.M.bad, .slice ac s.C.length cc, .slice al s.L.length cl] 83 := (B0_1.alloc _).ext hb2
  have B1_2 : Box w2 (w.heap.size + 1) #[.int .i64 op, .int .i64 2, .int .i64 q0, .int .i64 q1, .int .i64 q2, .int .i64 q3, .int .i64 q4, .int .i64 q5, .int .i64 q6, .int .i64 q7, .slice ga fS.length gc] 95 := (B1_1.alloc _).ext hb2
  have B2_2 : Box w2 (w.heap.size + 1 + 1) #[.slice none 0 0, .slice none 0 0, .bool false, .slice none 0 0, .slice none 0 0] 83 := (B2_1.alloc _).ext hb2
  have B3_2 : Box w2 (w1.heap.size) #[.slice u1 m1.W.length u2, .slice u3 m1.G.length u4, .bool m1.bad] 50 := (Box.newAt _ _ _ (by first | rfl | simp)).ext hb2
  clear c0_0 c0_1 c0_2 c0_3 c0_4 d0_0 d0_1 d0_2 d0_3 d0_4 z0 c1_0 c1_1 c1_2 c1_3 c1_4 c1_5 c1_6 c1_7 c1_8 c1_9 c1_10 d1_0 d1_1 d1_2 d1_3 d1_4 d1_5 d1_6 d1_7 d1_8 d1_9 d1_10 z1 c2_0 c2_1 c2_2 c2_3 c2_4 d2_0 d2_1 d2_2 d2_3 d2_4 z2
  have s2 : w1.heap.size + 1 ≤ w2.heap.size := (by have h := hb2.size; first | omega | (simp at h; omega))
  obtain ⟨c0_0, c0_1, c0_2, c0_3, c0_4, d0_0, d0_1, d0_2, d0_3, d0_4⟩ := cells5 B0_2
  have z0 : w.heap.size < w2.heap.size := B0_2.lt
  obtain ⟨⟨c1_0, c1_1, c1_2, c1_3, c1_4, c1_5, c1_6, c1_7, c1_8, c1_9, c1_10⟩, d1_0, d1_1, d1_2, d1_3, d1_4, d1_5, d1_6, d1_7, d1_8, d1_9, d1_10⟩ := cells11 B1_2
  have z1 : w.heap.size + 1 < w2.heap.size := B1_2.lt
  obtain ⟨c2_0, c2_1, c2_2, c2_3, c2_4, d2_0, d2_1, d2_2, d2_3, d2_4⟩ := cells5 B2_2
  have z2 : w.heap.size + 1 + 1 < w2.heap.size := B2_2.lt
  obtain ⟨c3_0, c3_1, c3_2, d3_0, d3_1, d3_2⟩ := cells3 B3_2
  have z3 : w1.heap.size < w2.heap.size := B3_2.lt
  go_wp2_with (fail)
  go_at_call 151
  refine (refOn_ (Bx N w.heap.size (w.heap.size + 3)) _ _ _ s id 1 m1 ⟨op, 2, [q0, q1, v, v, q4, q5, q6, q7], fS⟩ _ (IsSys.mk rfl (IsInts.keep hwB keq) (IsInts.keep hgB keq) (IsCores.keep hcB keq) (IsEvs.keep hlB keq) : IsSys (Bx N w.heap.size (w.heap.size + 3)) _ _ s) (IsMem.mk rfl (IsInts.keep mw keq) (IsInts.keep mg keq) : IsMem (Bx N w.heap.size (w.heap.size + 3)) _ _ m1) (IsFrame.ofLit (IsInts.keep fsB keq) : IsFrame _ _ _ ⟨op, 2, [q0, q1, v, v, q4, q5, q6, q7], fS⟩) (Bx.le hN (by first | omega | (simp <;> omega))) hC hFm).calls.mono ?_
  rintro e w3 ⟨_, rfl, hb3, hu3⟩
  obtain ⟨r1, r2, r3, r4, r5, r6, r7, r8, rfl, rW, rG, rC, rL⟩ := hu3.opened
  have B0_3 : Box w3 (w.heap.size) #[.slice aw s.M.W.length cw, .slice ag s.M.G.length cg, .bool s.M.bad, .slice ac s.C.length cc, .slice al s.L.length cl] 83 := ((B0_2.setOther (by first | omega | (simp <;> omega)) _).setOther (by first | omega | (simp <;> omega)) _).ext hb3
  have B1_3 : Box w3 (w.heap.size + 1) #[.int .i64 op, .int .i64 2, .int .i64 q0, .int .i64 q1, .int .i64 v, .int .i64 v, .int .i64 q4, .int .i64 q5, .int .i64 q6, .int .i64 q7, .slice ga fS.length gc] 95 := ((B1_2.setCell _).setCell _).ext hb3
  have B2_3 : Box w3 (w.heap.size + 1 + 1) #[.slice none 0 0, .slice none 0 0, .bool false, .slice none 0 0, .slice none 0 0] 83 := ((B2_2.setOther (by first | omega | (simp <;> omega)) _).setOther (by first | omega | (simp <;> omega)) _).ext hb3
  have B3_3 : Box w3 (w1.heap.size) #[.slice u1 m1.W.length u2, .slice u3 m1.G.length u4, .bool m1.bad] 50 := ((B3_2.setOther (by first | omega | (simp <;> omega)) _).setOther (by first | omega | (simp <;> omega)) _).ext hb3
  clear c0_0 c0_1 c0_2 c0_3 c0_4 d0_0 d0_1 d0_2 d0_3 d0_4 z0 c1_0 c1_1 c1_2 c1_3 c1_4 c1_5 c1_6 c1_7 c1_8 c1_9 c1_10 d1_0 d1_1 d1_2 d1_3 d1_4 d1_5 d1_6 d1_7 d1_8 d1_9 d1_10 z1 c2_0 c2_1 c2_2 c2_3 c2_4 d2_0 d2_1 d2_2 d2_3 d2_4 z2 c3_0 c3_1 c3_2 d3_0 d3_1 d3_2 z3
  have s3 : w2.heap.size ≤ w3.heap.size := (by have h := hb3.size; first | omega | (simp at h; omega))
  obtain ⟨c0_0, c0_1, c0_2, c0_3, c0_4, d0_0, d0_1, d0_2, d0_3, d0_4⟩ := cells5 B0_3
  have z0 : w.heap.size < w3.heap.size := B0_3.lt
  obtain ⟨⟨c1_0, c1_1, c1_2, c1_3, c1_4, c1_5, c1_6, c1_7, c1_8, c1_9, c1_10⟩, d1_0, d1_1, d1_2, d1_3, d1_4, d1_5, d1_6, d1_7, d1_8, d1_9, d1_10⟩ := cells11 B1_3
  have z1 : w.heap.size + 1 < w3.heap.size := B1_3.lt
  obtain ⟨c2_0, c2_1, c2_2, c2_3, c2_4, d2_0, d2_1, d2_2, d2_3, d2_4⟩ := cells5 B2_3
  have z2 : w.heap.size + 1 + 1 < w3.heap.size := B2_3.lt
  obtain ⟨c3_0, c3_1, c3_2, d3_0, d3_1, d3_2⟩ := cells3 B3_3
  have z3 : w1.heap.size < w3.heap.size := B3_3.lt
  go_wp2
  exact bodyPost_ret (ret_cell (cs := #[.slice r1 (onS s id m1 ⟨op, 2, [q0, q1, v, v, q4, q5, q6, q7], fS⟩ 1).M.W.length r2, .slice r3 (onS s id m1 ⟨op, 2, [q0, q1, v, v, q4, q5, q6, q7], fS⟩ 1).M.G.length r4, .bool (onS s id m1 ⟨op, 2, [q0, q1, v, v, q4, q5, q6, q7], fS⟩ 1).M.bad, .slice r5 (onS s id m1 ⟨op, 2, [q0, q1, v, v, q4, q5, q6, q7], fS⟩ 1).C.length r6, .slice r7 (onS s id m1 ⟨op, 2, [q0, q1, v, v, q4, q5, q6, q7], fS⟩ 1).L.length r8]) (((((B2_3.setCell _).setCell _).setCell _).setCell _).setCell _) Proofs.Try.results150 rfl Proofs.Try.underlying83 rfl (by kernel_rfl)) rfl ⟨_, rfl, exn, IsSys.less (IsSys.keep hu3 keq) (fun _ _ hn => .inl hn)⟩
set_option maxHeartbeats 1000000 in
set_option maxRecDepth 100000 in
theorem refProt_o (N : Nat → Prop) (s : SysD) (id op pc q0 q1 q2 q3 q4 q5 q6 q7 : Int) (fS : List Int) (aw ag ac al ga : Option Addr) (cw cg cc cl gc : Nat) (w : World) (hw : IsInts N w (.slice aw s.M.W.length cw) s.M.W) (hg : IsInts N w (.slice ag s.M.G.length cg) s.M.G) (hc : IsCores N w (.slice ac s.C.length cc) s.C) (hl : IsEvs N w (.slice al s.L.length cl) s.L) (fs : IsInts N w (.slice ga fS.length gc) fS)
    (hN : ∀ b, N b → b < w.heap.size) (hC : s.C.length ≤ 100000) (hFm : ∀ (i : Nat) c, s.C[i]? = some c → c.F.length ≤ 100000) (hfit : Fits s.M) (hid0 : 0 ≤ id) (hid1 : id ≤ 100) (p0 : (pc == 0) = false) (p1 : (pc == 1) = false) (p2 : (pc == 2) = false) (p3 : (pc != 0) = true) (p4 : (pc != 2) = true) :
    Gives Proofs.Try.prog 150 #[.agg #[.slice aw s.M.W.length cw, .slice ag s.M.G.length cg, .bool s.M.bad, .slice ac s.C.length cc, .slice al s.L.length cl], .int .i64 id, .agg #[.int .i64 op, .int .i64 pc, .int .i64 q0, .int .i64 q1, .int .i64 q2, .int .i64 q3, .int .i64 q4, .int .i64 q5, .int .i64 q6, .int .i64 q7, .slice ga fS.length gc]] w (fun r w' => IsSys N w' r (s)) := by
  have hwB := hw.bxn (hi := w.heap.size + 3)
  have hgB := hg.bxn (hi := w.heap.size + 3)
  have hcB := hc.bxn (hi := w.heap.size + 3)
  have hlB := hl.bxn (hi := w.heap.size + 3)
  have fsB := fs.bxn (hi := w.heap.size + 3)
  go_enter Proofs.Try.func150, Proofs.Try.ntmps150
  go_wp2
  exact bodyPost_ret (ret_cell (cs := #[.slice aw s.M.W.length cw, .slice ag s.M.G.length cg, .bool s.M.bad, .slice ac s.C.length cc, .slice al s.L.length cl]) (Box.newAt _ _ _ (by first | rfl | simp)) Proofs.Try.results150 rfl Proofs.Try.underlying83 rfl (by kernel_rfl)) rfl ⟨_, rfl, exn, IsSys.mk rfl (hw.ext exn) (hg.ext exn) (IsCores.keep hc (show Ext w _ from exn).keep) (IsEvs.keep hl (show Ext w _ from exn).keep)⟩
theorem prot_ (N : Nat → Prop) (va vf : Value) (s : SysD) (id : Int) (f : FrameD) (w : World) (h : IsSys N w va s) (hf : IsFrame N w vf f) (hN : ∀ b, N b → b < w.heap.size) (hC : s.C.length ≤ 100000) (hFm : ∀ (i : Nat) c, s.C[i]? = some c → c.F.length ≤ 100000) (hfit : Fits s.M) (hid0 : 0 ≤ id) (hid1 : id ≤ 100)
    (hlo0 : -9223372036854775808 ≤ gi f.R 0) (hhi0 : gi f.R 0 ≤ 9223372036854775807) : Gives Proofs.Try.prog 148 #[va, .int .i64 id, vf] w (fun r w' => IsSys N w' r (protS s id f)) := by
  obtain ⟨aw, cw, ag, cg, ac, cc, al, cl, rfl, hw, hg, hc, hl⟩ := h.opened
  obtain ⟨op, pc, q0, q1, q2, q3, q4, q5, q6, q7, S, ga, gc, rfl, rfl, fs⟩ := hf.lit
  have hlo : -9223372036854775808 ≤ q0 := hlo0
  have hhi : q0 ≤ 9223372036854775807 := hhi0
  by_cases h0 : pc = 0
  · subst h0
    have e : protS s id ⟨op, 0, [q0, q1, q2, q3, q4, q5, q6, q7], S⟩ = if idx (loadD s.M q0) = 0 then backS (memS s (touchD s.M q0)) id (loadD s.M q0) 0 else onS s id (touchD s.M q0) ⟨op, 0, [q0, q1, loadD s.M q0, q3, q4, q5, q6, q7], S⟩ 1 := rfl
    by_cases hi : idx (loadD s.M q0) = 0
    · rw [e, if_pos hi]
      exact prot_z0 N s id op q0 q1 q2 q3 q4 q5 q6 q7 S aw ag ac al ga cw cg cc cl gc w hw hg hc hl fs hN hC hFm hfit hid0 hid1 hlo hhi (by simpa using hi)
    · rw [e, if_neg hi]
      exact prot_n0 N s id op q0 q1 q2 q3 q4 q5 q6 q7 S aw ag ac al ga cw cg cc cl gc w hw hg hc hl fs hN hC hFm hfit hid0 hid1 hlo hhi (by simpa using hi)
  · by_cases h1 : pc = 1
    · subst h1
      exact prot_1 N s id op q0 q1 q2 q3 q4 q5 q6 q7 S aw ag ac al ga cw cg cc cl gc w hw hg hc hl fs hN hC hFm hfit hid0 hid1
    · by_cases h2 : pc = 2
      · subst h2
        by_cases he : loadD s.M q0 = q2
        · have e : protS s id ⟨op, 2, [q0, q1, q2, q3, q4, q5, q6, q7], S⟩ = if loadD s.M q0 = q2 ∨ idx (loadD s.M q0) = 0 then backS (memS s (touchD s.M q0)) id (loadD s.M q0) 0 else onS s id (touchD s.M q0) ⟨op, 2, [q0, q1, loadD s.M q0, loadD s.M q0, q4, q5, q6, q7], S⟩ 1 := rfl
          rw [e, if_pos (.inl he)]
          exact prot_e2 N s id op q0 q1 q2 q3 q4 q5 q6 q7 S aw ag ac al ga cw cg cc cl gc w hw hg hc hl fs hN hC hFm hfit hid0 hid1 hlo hhi (by simpa using he)
        · by_cases hi : idx (loadD s.M q0) = 0
          · have e : protS s id ⟨op, 2, [q0, q1, q2, q3, q4, q5, q6, q7], S⟩ = if loadD s.M q0 = q2 ∨ idx (loadD s.M q0) = 0 then backS (memS s (touchD s.M q0)) id (loadD s.M q0) 0 else onS s id (touchD s.M q0) ⟨op, 2, [q0, q1, loadD s.M q0, loadD s.M q0, q4, q5, q6, q7], S⟩ 1 := rfl
            rw [e, if_pos (.inr hi)]
            exact prot_z2 N s id op q0 q1 q2 q3 q4 q5 q6 q7 S aw ag ac al ga cw cg cc cl gc w hw hg hc hl fs hN hC hFm hfit hid0 hid1 hlo hhi (by simpa using he) (by simpa using hi)
          · have e : protS s id ⟨op, 2, [q0, q1, q2, q3, q4, q5, q6, q7], S⟩ = if loadD s.M q0 = q2 ∨ idx (loadD s.M q0) = 0 then backS (memS s (touchD s.M q0)) id (loadD s.M q0) 0 else onS s id (touchD s.M q0) ⟨op, 2, [q0, q1, loadD s.M q0, loadD s.M q0, q4, q5, q6, q7], S⟩ 1 := rfl
            rw [e, if_neg (fun h => h.elim he hi)]
            exact prot_n2 N s id op q0 q1 q2 q3 q4 q5 q6 q7 S aw ag ac al ga cw cg cc cl gc w hw hg hc hl fs hN hC hFm hfit hid0 hid1 hlo hhi (by simpa using he) (by simpa using hi)
      · have e : protS s id ⟨op, pc, [q0, q1, q2, q3, q4, q5, q6, q7], S⟩ = s := by unfold protS; rw [if_neg h1, if_neg h0, if_neg h2]
        rw [e]
        exact prot_o N s id op pc q0 q1 q2 q3 q4 q5 q6 q7 S aw ag ac al ga cw cg cc cl gc w hw hg hc hl fs hN hC hFm hfit hid0 hid1 (by simpa using h0) (by simpa using h1) (by simpa using h2) (by simpa using h0) (by simpa using h2)
theorem refProt_ (N : Nat → Prop) (va vf : Value) (s : SysD) (id : Int) (f : FrameD) (w : World) (h : IsSys N w va s) (hf : IsFrame N w vf f) (hN : ∀ b, N b → b < w.heap.size) (hC : s.C.length ≤ 100000) (hFm : ∀ (i : Nat) c, s.C[i]? = some c → c.F.length ≤ 100000) (hfit : Fits s.M) (hid0 : 0 ≤ id) (hid1 : id ≤ 100)
    (hlo0 : -9223372036854775808 ≤ gi f.R 0) (hhi0 : gi f.R 0 ≤ 9223372036854775807) : Gives Proofs.Try.prog 150 #[va, .int .i64 id, vf] w (fun r w' => IsSys N w' r (protS s id f)) := by
  obtain ⟨aw, cw, ag, cg, ac, cc, al, cl, rfl, hw, hg, hc, hl⟩ := h.opened
  obtain ⟨op, pc, q0, q1, q2, q3, q4, q5, q6, q7, S, ga, gc, rfl, rfl, fs⟩ := hf.lit
  have hlo : -9223372036854775808 ≤ q0 := hlo0
  have hhi : q0 ≤ 9223372036854775807 := hhi0
  by_cases h0 : pc = 0
  · subst h0
    have e : protS s id ⟨op, 0, [q0, q1, q2, q3, q4, q5, q6, q7], S⟩ = if idx (loadD s.M q0) = 0 then backS (memS s (touchD s.M q0)) id (loadD s.M q0) 0 else onS s id (touchD s.M q0) ⟨op, 0, [q0, q1, loadD s.M q0, q3, q4, q5, q6, q7], S⟩ 1 := rfl
    by_cases hi : idx (loadD s.M q0) = 0
    · rw [e, if_pos hi]
      exact refProt_z0 N s id op q0 q1 q2 q3 q4 q5 q6 q7 S aw ag ac al ga cw cg cc cl gc w hw hg hc hl fs hN hC hFm hfit hid0 hid1 hlo hhi (by simpa using hi)
    · rw [e, if_neg hi]
      exact refProt_n0 N s id op q0 q1 q2 q3 q4 q5 q6 q7 S aw ag ac al ga cw cg cc cl gc w hw hg hc hl fs hN hC hFm hfit hid0 hid1 hlo hhi (by simpa using hi)
  · by_cases h1 : pc = 1
    · subst h1
      exact refProt_1 N s id op q0 q1 q2 q3 q4 q5 q6 q7 S aw ag ac al ga cw cg cc cl gc w hw hg hc hl fs hN hC hFm hfit hid0 hid1
    · by_cases h2 : pc = 2
      · subst h2
        have e : protS s id ⟨op, 2, [q0, q1, q2, q3, q4, q5, q6, q7], S⟩ = if loadD s.M q0 = q2 ∨ idx (loadD s.M q0) = 0 then backS (memS s (touchD s.M q0)) id (loadD s.M q0) 0 else onS s id (touchD s.M q0) ⟨op, 2, [q0, q1, loadD s.M q0, loadD s.M q0, q4, q5, q6, q7], S⟩ 1 := rfl
        by_cases hi : idx (loadD s.M q0) = 0
        · rw [e, if_pos (.inr hi)]
          exact refProt_z2 N s id op q0 q1 q2 q3 q4 q5 q6 q7 S aw ag ac al ga cw cg cc cl gc w hw hg hc hl fs hN hC hFm hfit hid0 hid1 hlo hhi (by simpa using hi)
        · by_cases he : loadD s.M q0 = q2
          · rw [e, if_pos (.inl he)]
            exact refProt_e2 N s id op q0 q1 q2 q3 q4 q5 q6 q7 S aw ag ac al ga cw cg cc cl gc w hw hg hc hl fs hN hC hFm hfit hid0 hid1 hlo hhi (by simpa using he) (by simpa using hi)
          · rw [e, if_neg (fun h => h.elim he hi)]
            exact refProt_n2 N s id op q0 q1 q2 q3 q4 q5 q6 q7 S aw ag ac al ga cw cg cc cl gc w hw hg hc hl fs hN hC hFm hfit hid0 hid1 hlo hhi (by simpa using he) (by simpa using hi)
      · have e : protS s id ⟨op, pc, [q0, q1, q2, q3, q4, q5, q6, q7], S⟩ = s := by unfold protS; rw [if_neg h1, if_neg h0, if_neg h2]
        rw [e]
        exact refProt_o N s id op pc q0 q1 q2 q3 q4 q5 q6 q7 S aw ag ac al ga cw cg cc cl gc w hw hg hc hl fs hN hC hFm hfit hid0 hid1 (by simpa using h0) (by simpa using h1) (by simpa using h2) (by simpa using h0) (by simpa using h2)
end Go.Proofs.Ytcfbdfgondmkoaa
/- A step of a core: its slots named, or cleared. -/
namespace Go.Proofs.Ytcfbdfgondmkoaa
open Go Go.RowKit
set_option linter.unusedSimpArgs false
set_option linter.unusedVariables false
set_option linter.unnecessarySimpa false

set_option maxHeartbeats 1000000 in
set_option maxRecDepth 100000 in
theorem step5_none (N : Nat → Prop) (s : SysD) (id  : Int) (aw ag ac al : Option Addr) (cw cg cc cl : Nat) (w : World) (hw : IsInts N w (.slice aw s.M.W.length cw) s.M.W) (hg : IsInts N w (.slice ag s.M.G.length cg) s.M.G) (hc : IsCores N w (.slice ac s.C.length cc) s.C) (hl : IsEvs N w (.slice al s.L.length cl) s.L)
    (hN : ∀ b, N b → b < w.heap.size) (hC : s.C.length ≤ 100000) (hFm : ∀ (i : Nat) c, s.C[i]? = some c → c.F.length ≤ 100000) (hfit : Fits s.M) (ht : topD s id = none)  :
    Gives Proofs.Try.prog 101 #[.agg #[.slice aw s.M.W.length cw, .slice ag s.M.G.length cg, .bool s.M.bad, .slice ac s.C.length cc, .slice al s.L.length cl], .int .i64 id] w (fun r w' => IsSys N w' r (s)) := by
  have hwB := hw.bxn (hi := w.heap.size + 2)
  have hgB := hg.bxn (hi := w.heap.size + 2)
  have hcB := hc.bxn (hi := w.heap.size + 2)
  have hlB := hl.bxn (hi := w.heap.size + 2)
  have h : IsSys N w (.agg #[.slice aw s.M.W.length cw, .slice ag s.M.G.length cg, .bool s.M.bad, .slice ac s.C.length cc, .slice al s.L.length cl]) s := IsSys.mk rfl hw hg hc hl
  have kt : ∀ w' : World, Ext w w' → Gives Proofs.Try.prog 81 #[.agg #[.slice aw s.M.W.length cw, .slice ag s.M.G.length cg, .bool s.M.bad, .slice ac s.C.length cc, .slice al s.L.length cl], .int .i64 id] w' (fun r w' => ∃ u, r = .tuple #[u, .bool (topD s id).isSome] ∧ IsFrame (Bx N w.heap.size (w.heap.size + 2)) w' u (topF s id)) := fun w' e => top_ (Bx N w.heap.size (w.heap.size + 2)) _ s id w' ((IsSys.bxn h).ext e)
  rw [show (topD s id).isSome = false by rw [ht]; rfl] at kt
  obtain ⟨tf, htf⟩ : ∃ f, topF s id = f := ⟨_, rfl⟩
  rw [htf] at kt
  clear htf
  clear ht h
  go_enter Proofs.Try.func101, Proofs.Try.ntmps101
  go_wp2_with (fail)
  go_at_call 81
  refine (kt _ exq).calls.mono ?_
  rintro e w1 ⟨_, rfl, hb1, u, rfl, hu1⟩
  obtain ⟨fa, fc, rfl, f8, fs1⟩ := hu1.opened
  have B0_1 : Box w1 (w.heap.size) #[.slice aw s.M.W.length cw, .slice ag s.M.G.length cg, .bool s.M.bad, .slice ac s.C.length cc, .slice al s.L.length cl] 83 := ((Box.newAt _ _ _ (by first | rfl | simp)).alloc _).ext hb1
  have B1_1 : Box w1 (w.heap.size + 1) #[.slice none 0 0, .slice none 0 0, .bool false, .slice none 0 0, .slice none 0 0] 83 := (Box.newAt _ _ _ (by first | rfl | simp)).ext hb1
  have s1 : w.heap.size + 2 ≤ w1.heap.size := (by have h := hb1.size; first | omega | (simp at h; omega))
  obtain ⟨c0_0, c0_1, c0_2, c0_3, c0_4, d0_0, d0_1, d0_2, d0_3, d0_4⟩ := cells5 B0_1
  have z0 : w.heap.size < w1.heap.size := B0_1.lt
  obtain ⟨c1_0, c1_1, c1_2, c1_3, c1_4, d1_0, d1_1, d1_2, d1_3, d1_4⟩ := cells5 B1_1
  have z1 : w.heap.size + 1 < w1.heap.size := B1_1.lt
  go_wp2
  exact bodyPost_ret (ret_cell (cs := #[.slice aw s.M.W.length cw, .slice ag s.M.G.length cg, .bool s.M.bad, .slice ac s.C.length cc, .slice al s.L.length cl]) ((((((B1_1.setCell _).setCell _).setCell _).setCell _).setCell _).alloc _) Proofs.Try.results101 rfl Proofs.Try.underlying83 rfl (by kernel_rfl)) rfl ⟨_, rfl, exn, IsSys.mk rfl (hw.ext exn) (hg.ext exn) (IsCores.keep hc (show Ext w _ from exn).keep) (IsEvs.keep hl (show Ext w _ from exn).keep)⟩
set_option maxHeartbeats 1000000 in
set_option maxRecDepth 100000 in
theorem step5_p (N : Nat → Prop) (s : SysD) (id pc q0 q1 q2 q3 q4 q5 q6 q7 : Int) (fS : List Int) (aw ag ac al : Option Addr) (cw cg cc cl : Nat) (w : World) (hw : IsInts N w (.slice aw s.M.W.length cw) s.M.W) (hg : IsInts N w (.slice ag s.M.G.length cg) s.M.G) (hc : IsCores N w (.slice ac s.C.length cc) s.C) (hl : IsEvs N w (.slice al s.L.length cl) s.L)
    (hN : ∀ b, N b → b < w.heap.size) (hC : s.C.length ≤ 100000) (hFm : ∀ (i : Nat) c, s.C[i]? = some c → c.F.length ≤ 100000) (hfit : Fits s.M) (hid0 : 0 ≤ id) (hid1 : id ≤ 100) (ht : topD s id = some ⟨3, pc, [q0, q1, q2, q3, q4, q5, q6, q7], fS⟩) (hlo : -9223372036854775808 ≤ q0) (hhi : q0 ≤ 9223372036854775807) :
    Gives Proofs.Try.prog 101 #[.agg #[.slice aw s.M.W.length cw, .slice ag s.M.G.length cg, .bool s.M.bad, .slice ac s.C.length cc, .slice al s.L.length cl], .int .i64 id] w (fun r w' => IsSys N w' r (protS s id ⟨3, pc, [q0, q1, q2, q3, q4, q5, q6, q7], fS⟩)) := by
  have hwB := hw.bxn (hi := w.heap.size + 2)
  have hgB := hg.bxn (hi := w.heap.size + 2)
  have hcB := hc.bxn (hi := w.heap.size + 2)
  have hlB := hl.bxn (hi := w.heap.size + 2)
  have h : IsSys N w (.agg #[.slice aw s.M.W.length cw, .slice ag s.M.G.length cg, .bool s.M.bad, .slice ac s.C.length cc, .slice al s.L.length cl]) s := IsSys.mk rfl hw hg hc hl
  have kt : ∀ w' : World, Ext w w' → Gives Proofs.Try.prog 81 #[.agg #[.slice aw s.M.W.length cw, .slice ag s.M.G.length cg, .bool s.M.bad, .slice ac s.C.length cc, .slice al s.L.length cl], .int .i64 id] w' (fun r w' => ∃ u, r = .tuple #[u, .bool (topD s id).isSome] ∧ IsFrame (Bx N w.heap.size (w.heap.size + 2)) w' u (topF s id)) := fun w' e => top_ (Bx N w.heap.size (w.heap.size + 2)) _ s id w' ((IsSys.bxn h).ext e)
  rw [show (topD s id).isSome = true by rw [ht]; rfl] at kt
  rw [show topF s id = ⟨3, pc, [q0, q1, q2, q3, q4, q5, q6, q7], fS⟩ by unfold topF; rw [ht]; rfl] at kt
  clear ht h
  go_enter Proofs.Try.func101, Proofs.Try.ntmps101
  go_wp2_with (fail)
  go_at_call 81
  refine (kt _ exq).calls.mono ?_
  rintro e w1 ⟨_, rfl, hb1, u, rfl, hu1⟩
  obtain ⟨ga, gc, rfl, fs1⟩ := IsFrame.litv hu1
  have B0_1 : Box w1 (w.heap.size) #[.slice aw s.M.W.length cw, .slice ag s.M.G.length cg, .bool s.M.bad, .slice ac s.C.length cc, .slice al s.L.length cl] 83 := ((Box.newAt _ _ _ (by first | rfl | simp)).alloc _).ext hb1
  have B1_1 : Box w1 (w.heap.size + 1) #[.slice none 0 0, .slice none 0 0, .bool false, .slice none 0 0, .slice none 0 0] 83 := (Box.newAt _ _ _ (by first | rfl | simp)).ext hb1
  have s1 : w.heap.size + 2 ≤ w1.heap.size := (by have h := hb1.size; first | omega | (simp at h; omega))
  obtain ⟨c0_0, c0_1, c0_2, c0_3, c0_4, d0_0, d0_1, d0_2, d0_3, d0_4⟩ := cells5 B0_1
  have z0 : w.heap.size < w1.heap.size := B0_1.lt
  obtain ⟨c1_0, c1_1, c1_2, c1_3, c1_4, d1_0, d1_1, d1_2, d1_3, d1_4⟩ := cells5 B1_1
  have z1 : w.heap.size + 1 < w1.heap.size := B1_1.lt
  go_wp2_with (fail)
  go_at_call 148
  refine (prot_ (Bx N w.heap.size (w.heap.size + 2)) _ _ s id ⟨3, pc, [q0, q1, q2, q3, q4, q5, q6, q7], fS⟩ _ (IsSys.mk rfl (IsInts.keep hwB keq) (IsInts.keep hgB keq) (IsCores.keep hcB keq) (IsEvs.keep hlB keq) : IsSys (Bx N w.heap.size (w.heap.size + 2)) _ _ s) (IsFrame.ofLit (IsInts.keep fs1 keq)) (Bx.le hN (by first | omega | (simp <;> omega))) hC hFm hfit hid0 hid1 hlo hhi).calls.mono ?_
  rintro e w2 ⟨_, rfl, hb2, hu2⟩
  obtain ⟨r1, r2, r3, r4, r5, r6, r7, r8, rfl, rW, rG, rC, rL⟩ := hu2.opened
  have B0_2 : Box w2 (w.heap.size) #[.slice aw s.M.W.length cw, .slice ag s.M.G.length cg, .bool s.M.bad, .slice ac s.C.length cc, .slice al s.L.length cl] 83 := (B0_1.alloc _).ext hb2
  have B1_2 : Box w2 (w.heap.size + 1) #[.slice none 0 0, .slice none 0 0, .bool false, .slice none 0 0, .slice none 0 0] 83 := (B1_1.alloc _).ext hb2
  have B2_2 : Box w2 (w1.heap.size) #[.int .i64 3, .int .i64 pc, .int .i64 q0, .int .i64 q1, .int .i64 q2, .int .i64 q3, .int .i64 q4, .int .i64 q5, .int .i64 q6, .int .i64 q7, .slice ga fS.length gc] 95 := (Box.newAt _ _ _ (by first | rfl | simp)).ext hb2
  clear c0_0 c0_1 c0_2 c0_3 c0_4 d0_0 d0_1 d0_2 d0_3 d0_4 z0 c1_0 c1_1 c1_2 c1_3 c1_4 d1_0 d1_1 d1_2 d1_3 d1_4 z1
  have s2 : w1.heap.size + 1 ≤ w2.heap.size := (by have h := hb2.size; first | omega | (simp at h; omega))
  obtain ⟨c0_0, c0_1, c0_2, c0_3, c0_4, d0_0, d0_1, d0_2, d0_3, d0_4⟩ := cells5 B0_2
  have z0 : w.heap.size < w2.heap.size := B0_2.lt
  obtain ⟨c1_0, c1_1, c1_2, c1_3, c1_4, d1_0, d1_1, d1_2, d1_3, d1_4⟩ := cells5 B1_2
  have z1 : w.heap.size + 1 < w2.heap.size := B1_2.lt
  obtain ⟨⟨c2_0, c2_1, c2_2, c2_3, c2_4, c2_5, c2_6, c2_7, c2_8, c2_9, c2_10⟩, d2_0, d2_1, d2_2, d2_3, d2_4, d2_5, d2_6, d2_7, d2_8, d2_9, d2_10⟩ := cells11 B2_2
  have z2 : w1.heap.size < w2.heap.size := B2_2.lt
  go_wp2
  exact bodyPost_ret (ret_cell (cs := #[.slice r1 (protS s id ⟨3, pc, [q0, q1, q2, q3, q4, q5, q6, q7], fS⟩).M.W.length r2, .slice r3 (protS s id ⟨3, pc, [q0, q1, q2, q3, q4, q5, q6, q7], fS⟩).M.G.length r4, .bool (protS s id ⟨3, pc, [q0, q1, q2, q3, q4, q5, q6, q7], fS⟩).M.bad, .slice r5 (protS s id ⟨3, pc, [q0, q1, q2, q3, q4, q5, q6, q7], fS⟩).C.length r6, .slice r7 (protS s id ⟨3, pc, [q0, q1, q2, q3, q4, q5, q6, q7], fS⟩).L.length r8]) (((((B1_2.setCell _).setCell _).setCell _).setCell _).setCell _) Proofs.Try.results101 rfl Proofs.Try.underlying83 rfl (by kernel_rfl)) rfl ⟨_, rfl, exn, IsSys.less (IsSys.keep hu2 keq) (fun _ _ hn => .inl hn)⟩
set_option maxHeartbeats 1000000 in
set_option maxRecDepth 100000 in
theorem step5_x (N : Nat → Prop) (s : SysD) (id op pc q0 q1 q2 q3 q4 q5 q6 q7 : Int) (fS : List Int) (aw ag ac al : Option Addr) (cw cg cc cl : Nat) (w : World) (hw : IsInts N w (.slice aw s.M.W.length cw) s.M.W) (hg : IsInts N w (.slice ag s.M.G.length cg) s.M.G) (hc : IsCores N w (.slice ac s.C.length cc) s.C) (hl : IsEvs N w (.slice al s.L.length cl) s.L)
    (hN : ∀ b, N b → b < w.heap.size) (hC : s.C.length ≤ 100000) (hFm : ∀ (i : Nat) c, s.C[i]? = some c → c.F.length ≤ 100000) (hfit : Fits s.M) (hid0 : 0 ≤ id) (hid1 : id ≤ 100) (ht : topD s id = some ⟨op, pc, [q0, q1, q2, q3, q4, q5, q6, q7], fS⟩) (o3 : (op == 3) = false) (o4 : (op == 4) = false) (o5 : (op != 4) = true) :
    Gives Proofs.Try.prog 101 #[.agg #[.slice aw s.M.W.length cw, .slice ag s.M.G.length cg, .bool s.M.bad, .slice ac s.C.length cc, .slice al s.L.length cl], .int .i64 id] w (fun r w' => IsSys N w' r (s)) := by
  have hwB := hw.bxn (hi := w.heap.size + 2)
  have hgB := hg.bxn (hi := w.heap.size + 2)
  have hcB := hc.bxn (hi := w.heap.size + 2)
  have hlB := hl.bxn (hi := w.heap.size + 2)
  have h : IsSys N w (.agg #[.slice aw s.M.W.length cw, .slice ag s.M.G.length cg, .bool s.M.bad, .slice ac s.C.length cc, .slice al s.L.length cl]) s := IsSys.mk rfl hw hg hc hl
  have kt : ∀ w' : World, Ext w w' → Gives Proofs.Try.prog 81 #[.agg #[.slice aw s.M.W.length cw, .slice ag s.M.G.length cg, .bool s.M.bad, .slice ac s.C.length cc, .slice al s.L.length cl], .int .i64 id] w' (fun r w' => ∃ u, r = .tuple #[u, .bool (topD s id).isSome] ∧ IsFrame (Bx N w.heap.size (w.heap.size + 2)) w' u (topF s id)) := fun w' e => top_ (Bx N w.heap.size (w.heap.size + 2)) _ s id w' ((IsSys.bxn h).ext e)
  rw [show (topD s id).isSome = true by rw [ht]; rfl] at kt
  rw [show topF s id = ⟨op, pc, [q0, q1, q2, q3, q4, q5, q6, q7], fS⟩ by unfold topF; rw [ht]; rfl] at kt
  clear ht h
  go_enter Proofs.Try.func101, Proofs.Try.ntmps101
  go_wp2_with (fail)
  go_at_call 81
  refine (kt _ exq).calls.mono ?_
  rintro e w1 ⟨_, rfl, hb1, u, rfl, hu1⟩
  obtain ⟨ga, gc, rfl, fs1⟩ := IsFrame.litv hu1
  have B0_1 : Box w1 (w.heap.size) #[.slice aw s.M.W.length cw, .slice ag s.M.G.length cg, .bool s.M.bad, .slice ac s.C.length cc, .slice al s.L.length cl] 83 := ((Box.newAt _ _ _ (by first | rfl | simp)).alloc _).ext hb1
  have B1_1 : Box w1 (w.heap.size + 1) #[.slice none 0 0, .slice none 0 0, .bool false, .slice none 0 0, .slice none 0 0] 83 := (Box.newAt _ _ _ (by first | rfl | simp)).ext hb1
  have s1 : w.heap.size + 2 ≤ w1.heap.size := (by have h := hb1.size; first | omega | (simp at h; omega))
  obtain ⟨c0_0, c0_1, c0_2, c0_3, c0_4, d0_0, d0_1, d0_2, d0_3, d0_4⟩ := cells5 B0_1
  have z0 : w.heap.size < w1.heap.size := B0_1.lt
  obtain ⟨c1_0, c1_1, c1_2, c1_3, c1_4, d1_0, d1_1, d1_2, d1_3, d1_4⟩ := cells5 B1_1
  have z1 : w.heap.size + 1 < w1.heap.size := B1_1.lt
  go_wp2
  exact bodyPost_ret (ret_cell (cs := #[.slice aw s.M.W.length cw, .slice ag s.M.G.length cg, .bool s.M.bad, .slice ac s.C.length cc, .slice al s.L.length cl]) ((((((B1_1.setCell _).setCell _).setCell _).setCell _).setCell _).alloc _) Proofs.Try.results101 rfl Proofs.Try.underlying83 rfl (by kernel_rfl)) rfl ⟨_, rfl, exn, IsSys.mk rfl (hw.ext exn) (hg.ext exn) (IsCores.keep hc (show Ext w _ from exn).keep) (IsEvs.keep hl (show Ext w _ from exn).keep)⟩
set_option maxHeartbeats 1000000 in
set_option maxRecDepth 100000 in
theorem step5_y (N : Nat → Prop) (s : SysD) (id pc q0 q1 q2 q3 q4 q5 q6 q7 : Int) (fS : List Int) (aw ag ac al : Option Addr) (cw cg cc cl : Nat) (w : World) (hw : IsInts N w (.slice aw s.M.W.length cw) s.M.W) (hg : IsInts N w (.slice ag s.M.G.length cg) s.M.G) (hc : IsCores N w (.slice ac s.C.length cc) s.C) (hl : IsEvs N w (.slice al s.L.length cl) s.L)
    (hN : ∀ b, N b → b < w.heap.size) (hC : s.C.length ≤ 100000) (hFm : ∀ (i : Nat) c, s.C[i]? = some c → c.F.length ≤ 100000) (hfit : Fits s.M) (hid0 : 0 ≤ id) (hid1 : id ≤ 100) (ht : topD s id = some ⟨4, pc, [q0, q1, q2, q3, q4, q5, q6, q7], fS⟩) (p0 : pc < 0) (p1 : ¬ 0 ≤ pc) :
    Gives Proofs.Try.prog 101 #[.agg #[.slice aw s.M.W.length cw, .slice ag s.M.G.length cg, .bool s.M.bad, .slice ac s.C.length cc, .slice al s.L.length cl], .int .i64 id] w (fun r w' => IsSys N w' r (s)) := by
  have hwB := hw.bxn (hi := w.heap.size + 2)
  have hgB := hg.bxn (hi := w.heap.size + 2)
  have hcB := hc.bxn (hi := w.heap.size + 2)
  have hlB := hl.bxn (hi := w.heap.size + 2)
  have h : IsSys N w (.agg #[.slice aw s.M.W.length cw, .slice ag s.M.G.length cg, .bool s.M.bad, .slice ac s.C.length cc, .slice al s.L.length cl]) s := IsSys.mk rfl hw hg hc hl
  have kt : ∀ w' : World, Ext w w' → Gives Proofs.Try.prog 81 #[.agg #[.slice aw s.M.W.length cw, .slice ag s.M.G.length cg, .bool s.M.bad, .slice ac s.C.length cc, .slice al s.L.length cl], .int .i64 id] w' (fun r w' => ∃ u, r = .tuple #[u, .bool (topD s id).isSome] ∧ IsFrame (Bx N w.heap.size (w.heap.size + 2)) w' u (topF s id)) := fun w' e => top_ (Bx N w.heap.size (w.heap.size + 2)) _ s id w' ((IsSys.bxn h).ext e)
  rw [show (topD s id).isSome = true by rw [ht]; rfl] at kt
  rw [show topF s id = ⟨4, pc, [q0, q1, q2, q3, q4, q5, q6, q7], fS⟩ by unfold topF; rw [ht]; rfl] at kt
  clear ht h
  go_enter Proofs.Try.func101, Proofs.Try.ntmps101
  go_wp2_with (fail)
  go_at_call 81
  refine (kt _ exq).calls.mono ?_
  rintro e w1 ⟨_, rfl, hb1, u, rfl, hu1⟩
  obtain ⟨ga, gc, rfl, fs1⟩ := IsFrame.litv hu1
  have B0_1 : Box w1 (w.heap.size) #[.slice aw s.M.W.length cw, .slice ag s.M.G.length cg, .bool s.M.bad, .slice ac s.C.length cc, .slice al s.L.length cl] 83 := ((Box.newAt _ _ _ (by first | rfl | simp)).alloc _).ext hb1
  have B1_1 : Box w1 (w.heap.size + 1) #[.slice none 0 0, .slice none 0 0, .bool false, .slice none 0 0, .slice none 0 0] 83 := (Box.newAt _ _ _ (by first | rfl | simp)).ext hb1
  have s1 : w.heap.size + 2 ≤ w1.heap.size := (by have h := hb1.size; first | omega | (simp at h; omega))
  obtain ⟨c0_0, c0_1, c0_2, c0_3, c0_4, d0_0, d0_1, d0_2, d0_3, d0_4⟩ := cells5 B0_1
  have z0 : w.heap.size < w1.heap.size := B0_1.lt
  obtain ⟨c1_0, c1_1, c1_2, c1_3, c1_4, d1_0, d1_1, d1_2, d1_3, d1_4⟩ := cells5 B1_1
  have z1 : w.heap.size + 1 < w1.heap.size := B1_1.lt
  go_wp2
  exact bodyPost_ret (ret_cell (cs := #[.slice aw s.M.W.length cw, .slice ag s.M.G.length cg, .bool s.M.bad, .slice ac s.C.length cc, .slice al s.L.length cl]) ((((((B1_1.setCell _).setCell _).setCell _).setCell _).setCell _).alloc _) Proofs.Try.results101 rfl Proofs.Try.underlying83 rfl (by kernel_rfl)) rfl ⟨_, rfl, exn, IsSys.mk rfl (hw.ext exn) (hg.ext exn) (IsCores.keep hc (show Ext w _ from exn).keep) (IsEvs.keep hl (show Ext w _ from exn).keep)⟩
set_option maxHeartbeats 1000000 in
set_option maxRecDepth 100000 in
theorem step5_z (N : Nat → Prop) (s : SysD) (id pc q0 q1 q2 q3 q4 q5 q6 q7 : Int) (fS : List Int) (aw ag ac al : Option Addr) (cw cg cc cl : Nat) (w : World) (hw : IsInts N w (.slice aw s.M.W.length cw) s.M.W) (hg : IsInts N w (.slice ag s.M.G.length cg) s.M.G) (hc : IsCores N w (.slice ac s.C.length cc) s.C) (hl : IsEvs N w (.slice al s.L.length cl) s.L)
    (hN : ∀ b, N b → b < w.heap.size) (hC : s.C.length ≤ 100000) (hFm : ∀ (i : Nat) c, s.C[i]? = some c → c.F.length ≤ 100000) (hfit : Fits s.M) (hid0 : 0 ≤ id) (hid1 : id ≤ 100) (ht : topD s id = some ⟨4, pc, [q0, q1, q2, q3, q4, q5, q6, q7], fS⟩) (p0 : ¬ pc < 0) (p1 : 0 ≤ pc) (p2 : ¬ pc < 3) (p3 : 2 < pc) (p4 : 3 ≤ pc) :
    Gives Proofs.Try.prog 101 #[.agg #[.slice aw s.M.W.length cw, .slice ag s.M.G.length cg, .bool s.M.bad, .slice ac s.C.length cc, .slice al s.L.length cl], .int .i64 id] w (fun r w' => IsSys N w' r (s)) := by
  have hwB := hw.bxn (hi := w.heap.size + 2)
  have hgB := hg.bxn (hi := w.heap.size + 2)
  have hcB := hc.bxn (hi := w.heap.size + 2)
  have hlB := hl.bxn (hi := w.heap.size + 2)
  have h : IsSys N w (.agg #[.slice aw s.M.W.length cw, .slice ag s.M.G.length cg, .bool s.M.bad, .slice ac s.C.length cc, .slice al s.L.length cl]) s := IsSys.mk rfl hw hg hc hl
  have kt : ∀ w' : World, Ext w w' → Gives Proofs.Try.prog 81 #[.agg #[.slice aw s.M.W.length cw, .slice ag s.M.G.length cg, .bool s.M.bad, .slice ac s.C.length cc, .slice al s.L.length cl], .int .i64 id] w' (fun r w' => ∃ u, r = .tuple #[u, .bool (topD s id).isSome] ∧ IsFrame (Bx N w.heap.size (w.heap.size + 2)) w' u (topF s id)) := fun w' e => top_ (Bx N w.heap.size (w.heap.size + 2)) _ s id w' ((IsSys.bxn h).ext e)
  rw [show (topD s id).isSome = true by rw [ht]; rfl] at kt
  rw [show topF s id = ⟨4, pc, [q0, q1, q2, q3, q4, q5, q6, q7], fS⟩ by unfold topF; rw [ht]; rfl] at kt
  clear ht h
  go_enter Proofs.Try.func101, Proofs.Try.ntmps101
  go_wp2_with (fail)
  go_at_call 81
  refine (kt _ exq).calls.mono ?_
  rintro e w1 ⟨_, rfl, hb1, u, rfl, hu1⟩
  obtain ⟨ga, gc, rfl, fs1⟩ := IsFrame.litv hu1
  have B0_1 : Box w1 (w.heap.size) #[.slice aw s.M.W.length cw, .slice ag s.M.G.length cg, .bool s.M.bad, .slice ac s.C.length cc, .slice al s.L.length cl] 83 := ((Box.newAt _ _ _ (by first | rfl | simp)).alloc _).ext hb1
  have B1_1 : Box w1 (w.heap.size + 1) #[.slice none 0 0, .slice none 0 0, .bool false, .slice none 0 0, .slice none 0 0] 83 := (Box.newAt _ _ _ (by first | rfl | simp)).ext hb1
  have s1 : w.heap.size + 2 ≤ w1.heap.size := (by have h := hb1.size; first | omega | (simp at h; omega))
  obtain ⟨c0_0, c0_1, c0_2, c0_3, c0_4, d0_0, d0_1, d0_2, d0_3, d0_4⟩ := cells5 B0_1
  have z0 : w.heap.size < w1.heap.size := B0_1.lt
  obtain ⟨c1_0, c1_1, c1_2, c1_3, c1_4, d1_0, d1_1, d1_2, d1_3, d1_4⟩ := cells5 B1_1
  have z1 : w.heap.size + 1 < w1.heap.size := B1_1.lt
  go_wp2
  exact bodyPost_ret (ret_cell (cs := #[.slice aw s.M.W.length cw, .slice ag s.M.G.length cg, .bool s.M.bad, .slice ac s.C.length cc, .slice al s.L.length cl]) ((((((B1_1.setCell _).setCell _).setCell _).setCell _).setCell _).alloc _) Proofs.Try.results101 rfl Proofs.Try.underlying83 rfl (by kernel_rfl)) rfl ⟨_, rfl, exn, IsSys.mk rfl (hw.ext exn) (hg.ext exn) (IsCores.keep hc (show Ext w _ from exn).keep) (IsEvs.keep hl (show Ext w _ from exn).keep)⟩
set_option maxHeartbeats 1000000 in
set_option maxRecDepth 100000 in
theorem step5_c0 (N : Nat → Prop) (s : SysD) (id q0 q1 q2 q3 q4 q5 q6 q7 : Int) (fS : List Int) (aw ag ac al : Option Addr) (cw cg cc cl : Nat) (w : World) (hw : IsInts N w (.slice aw s.M.W.length cw) s.M.W) (hg : IsInts N w (.slice ag s.M.G.length cg) s.M.G) (hc : IsCores N w (.slice ac s.C.length cc) s.C) (hl : IsEvs N w (.slice al s.L.length cl) s.L)
    (hN : ∀ b, N b → b < w.heap.size) (hC : s.C.length ≤ 100000) (hFm : ∀ (i : Nat) c, s.C[i]? = some c → c.F.length ≤ 100000) (hfit : Fits s.M) (hid0 : 0 ≤ id) (hid1 : id ≤ 100) (ht : topD s id = some ⟨4, 0, [q0, q1, q2, q3, q4, q5, q6, q7], fS⟩)  :
    Gives Proofs.Try.prog 101 #[.agg #[.slice aw s.M.W.length cw, .slice ag s.M.G.length cg, .bool s.M.bad, .slice ac s.C.length cc, .slice al s.L.length cl], .int .i64 id] w (fun r w' => IsSys N w' r (onS s id (storeD s.M (placeD id 0) 0) ⟨4, 0, [q0, q1, q2, q3, q4, q5, q6, q7], fS⟩ 1)) := by
  have hwB := hw.bxn (hi := w.heap.size + 2)
  have hgB := hg.bxn (hi := w.heap.size + 2)
  have hcB := hc.bxn (hi := w.heap.size + 2)
  have hlB := hl.bxn (hi := w.heap.size + 2)
  have h : IsSys N w (.agg #[.slice aw s.M.W.length cw, .slice ag s.M.G.length cg, .bool s.M.bad, .slice ac s.C.length cc, .slice al s.L.length cl]) s := IsSys.mk rfl hw hg hc hl
  have kt : ∀ w' : World, Ext w w' → Gives Proofs.Try.prog 81 #[.agg #[.slice aw s.M.W.length cw, .slice ag s.M.G.length cg, .bool s.M.bad, .slice ac s.C.length cc, .slice al s.L.length cl], .int .i64 id] w' (fun r w' => ∃ u, r = .tuple #[u, .bool (topD s id).isSome] ∧ IsFrame (Bx N w.heap.size (w.heap.size + 2)) w' u (topF s id)) := fun w' e => top_ (Bx N w.heap.size (w.heap.size + 2)) _ s id w' ((IsSys.bxn h).ext e)
  rw [show (topD s id).isSome = true by rw [ht]; rfl] at kt
  rw [show topF s id = ⟨4, 0, [q0, q1, q2, q3, q4, q5, q6, q7], fS⟩ by unfold topF; rw [ht]; rfl] at kt
  obtain ⟨m1, hm1⟩ : ∃ m, storeD s.M (placeD id 0) 0 = m := ⟨_, rfl⟩
  have ks : ∀ (w' : World) (va : Value), IsMem (Bx N w.heap.size (w.heap.size + 2)) w' va s.M → w.heap.size + 2 ≤ w'.heap.size → Gives Proofs.Try.prog 68 #[va, .int .i64 (placeD id 0), .int .i64 0] w' (fun r w' => IsMem (Bx N w.heap.size (w.heap.size + 2)) w' r m1) := fun w' va hm hsz => by
    have := memStore_ (Bx N w.heap.size (w.heap.size + 2)) va s.M (placeD id 0) 0 w' hm hfit (Bx.le hN hsz) (by unfold placeD wrap64; omega) (by unfold placeD wrap64; omega)
    rw [hm1] at this; exact this
  rw [hm1]
  clear hm1
  clear ht h
  go_enter Proofs.Try.func101, Proofs.Try.ntmps101
  go_wp2_with (fail)
  go_at_call 81
  refine (kt _ exq).calls.mono ?_
  rintro e w1 ⟨_, rfl, hb1, u, rfl, hu1⟩
  obtain ⟨ga, gc, rfl, fs1⟩ := IsFrame.litv hu1
  have B0_1 : Box w1 (w.heap.size) #[.slice aw s.M.W.length cw, .slice ag s.M.G.length cg, .bool s.M.bad, .slice ac s.C.length cc, .slice al s.L.length cl] 83 := ((Box.newAt _ _ _ (by first | rfl | simp)).alloc _).ext hb1
  have B1_1 : Box w1 (w.heap.size + 1) #[.slice none 0 0, .slice none 0 0, .bool false, .slice none 0 0, .slice none 0 0] 83 := (Box.newAt _ _ _ (by first | rfl | simp)).ext hb1
  have s1 : w.heap.size + 2 ≤ w1.heap.size := (by have h := hb1.size; first | omega | (simp at h; omega))
  obtain ⟨c0_0, c0_1, c0_2, c0_3, c0_4, d0_0, d0_1, d0_2, d0_3, d0_4⟩ := cells5 B0_1
  have z0 : w.heap.size < w1.heap.size := B0_1.lt
  obtain ⟨c1_0, c1_1, c1_2, c1_3, c1_4, d1_0, d1_1, d1_2, d1_3, d1_4⟩ := cells5 B1_1
  have z1 : w.heap.size + 1 < w1.heap.size := B1_1.lt
  go_wp2_with (fail)
  obtain ⟨W5, hW⟩ : ∃ W, W = (w1.alloc (.cells #[.int .i64 4, .int .i64 0, .int .i64 q0, .int .i64 q1, .int .i64 q2, .int .i64 q3, .int .i64 q4, .int .i64 q5, .int .i64 q6, .int .i64 q7, .slice ga fS.length gc] 95 (0, 0))) := ⟨_, rfl⟩
  have hX5 : Ext w W5 := by rw [hW]; exact exn
  have hK5 : Keep (Bx N w.heap.size (w.heap.size + 2)) w1 W5 := by rw [hW]; exact keq
  have D0_5 : Box (w1.alloc (.cells #[.int .i64 4, .int .i64 0, .int .i64 q0, .int .i64 q1, .int .i64 q2, .int .i64 q3, .int .i64 q4, .int .i64 q5, .int .i64 q6, .int .i64 q7, .slice ga fS.length gc] 95 (0, 0))) (w.heap.size) #[.slice aw s.M.W.length cw, .slice ag s.M.G.length cg, .bool s.M.bad, .slice ac s.C.length cc, .slice al s.L.length cl] 83 := (B0_1.alloc _)
  rw [← hW] at D0_5
  have D1_5 : Box (w1.alloc (.cells #[.int .i64 4, .int .i64 0, .int .i64 q0, .int .i64 q1, .int .i64 q2, .int .i64 q3, .int .i64 q4, .int .i64 q5, .int .i64 q6, .int .i64 q7, .slice ga fS.length gc] 95 (0, 0))) (w.heap.size + 1) #[.slice none 0 0, .slice none 0 0, .bool false, .slice none 0 0, .slice none 0 0] 83 := (B1_1.alloc _)
  rw [← hW] at D1_5
  have D2_5 : Box (w1.alloc (.cells #[.int .i64 4, .int .i64 0, .int .i64 q0, .int .i64 q1, .int .i64 q2, .int .i64 q3, .int .i64 q4, .int .i64 q5, .int .i64 q6, .int .i64 q7, .slice ga fS.length gc] 95 (0, 0))) (w1.heap.size) #[.int .i64 4, .int .i64 0, .int .i64 q0, .int .i64 q1, .int .i64 q2, .int .i64 q3, .int .i64 q4, .int .i64 q5, .int .i64 q6, .int .i64 q7, .slice ga fS.length gc] 95 := (Box.newAt _ _ _ (by first | rfl | simp))
  rw [← hW] at D2_5
  have y5 : w1.heap.size + 1 ≤ W5.heap.size := by rw [hW]; simp
  rw [← hW]
  clear hW
  have aM : IsMem (Bx N w.heap.size (w.heap.size + 2)) W5 (.agg #[.slice aw s.M.W.length cw, .slice ag s.M.G.length cg, .bool s.M.bad]) s.M := (IsMem.mk rfl hwB hgB : IsMem (Bx N w.heap.size (w.heap.size + 2)) w _ s.M).keep ((Keep.refl _ _).ext hX5)
  clear c0_0 c0_1 c0_2 c0_3 c0_4 d0_0 d0_1 d0_2 d0_3 d0_4 z0 c1_0 c1_1 c1_2 c1_3 c1_4 d1_0 d1_1 d1_2 d1_3 d1_4 z1
  apply region_lit2 (T := [8]) (L := []) (X := [w.heap.size]) (G := [eqv _, eqv _, eqv _, eqv _, eqv _, eqv _, isMemN (Bx N w.heap.size (w.heap.size + 2)) m1, eqv _, anyG])
  case hm => kernel_rfl
  case hop =>
    refine ⟨?_, ?_, ?_, ?_, ?_, ?_, ?_, ?_, ?_, trivial⟩
    · intro a wa hs hf hd
      have t2 := hf.off 2 (by kernel_rfl) rfl
      exact plain_ rfl (yes_eqv (o_fieldAddr rfl Proofs.Try.underlying83 rfl rfl (by kernel_rfl) t2) rfl)
    · intro a wa hs hf hd
      have t41 : a.eval (.tmp 41) = _ := hd.at 0 41 (by kernel_rfl)
      exact plain_ rfl (yes_eqv (o_load3 rfl Proofs.Try.underlying50 rfl (by kernel_rfl) t41 ((D0_5.since hs rfl).cell rfl) ((D0_5.since hs rfl).cell rfl) ((D0_5.since hs rfl).cell rfl)) rfl)
    · intro a wa hs hf hd
      have t1 := hf.off 1 (by kernel_rfl) rfl
      exact plain_ rfl (yes_eqv (o_move rfl t1) rfl)
    · intro a wa hs hf hd
      have t5 := hf.off 5 (by kernel_rfl) rfl
      exact plain_ rfl (yes_eqv (o_fieldAddr rfl Proofs.Try.underlying95 rfl rfl (by kernel_rfl) t5) rfl)
    · intro a wa hs hf hd
      have t44 : a.eval (.tmp 44) = _ := hd.at 3 44 (by kernel_rfl)
      exact plain_ rfl (yes_eqv (o_load1 rfl Proofs.Try.underlying3 rfl t44 ((D2_5.since hs rfl).cell rfl)) rfl)
    · intro a wa hs hf hd
      have t43 : a.eval (.tmp 43) = _ := hd.at 2 43 (by kernel_rfl)
      have t45 : a.eval (.tmp 45) = _ := hd.at 4 45 (by kernel_rfl)
      exact plain_ rfl (yes_gives (place_ id 0 _ hid0 hid1) rfl rfl Proofs.Try.func94 (by kernel_rfl) (by kernel_rfl) (by simp only [List.map_toArray, List.map_cons, List.map_nil, t43, t45]) rfl)
    · intro a wa hs hf hd
      have t42 : a.eval (.tmp 42) = _ := hd.at 1 42 (by kernel_rfl)
      have t46 : a.eval (.tmp 46) = _ := hd.at 5 46 (by kernel_rfl)
      exact plain_ rfl (yes_gives (ks _ _ (aM.keep (Since.to_ext hs).keep) (by have := (Since.to_ext hs).size; have := hX5.size; omega)) rfl rfl Proofs.Try.func68 (by kernel_rfl) (by kernel_rfl) (by simp only [List.map_toArray, List.map_cons, List.map_nil, eval_const, t42, t46]) rfl)
    · intro a wa hs hf hd
      have t2 := hf.off 2 (by kernel_rfl) rfl
      exact plain_ rfl (yes_eqv (o_fieldAddr rfl Proofs.Try.underlying83 rfl rfl (by kernel_rfl) t2) rfl)
    · intro a wb wa hs1 hs hf hd hrun
      have t48 : a.eval (.tmp 48) = _ := hd.at 7 48 (by kernel_rfl)
      have t47 := hd.at 6 47 (by kernel_rfl)
      subst hrun
      have q18 : IsMem (Bx N w.heap.size (w.heap.size + 2)) _ (a.eval (.tmp 47)) m1 := t47
      obtain ⟨u1, u2, u3, u4, hv, _⟩ := q18.opened
      exact ⟨_, o_store rfl t48 hv ((D0_5.since hs1 rfl)) (by kernel_rfl) (by simp [Value.cells, Value.oneCell']) (by first | (simp [Value.cells]; done) | (simp [Value.cells]; omega)) rfl, Since.put hs (.inr (by simp))⟩
  case hG => exact ⟨stable_eqv _, stable_eqv _, stable_eqv _, stable_eqv _, stable_eqv _, stable_eqv _, stable_isMemN _ _, stable_eqv _, stable_any, trivial⟩
  case hc => kernel_rfl
  case hfin =>
    intro v5 hs5
    rintro _ rfl _ rfl _ rfl _ rfl _ rfl _ rfl r11 hr11 _ rfl
    obtain ⟨u1, u2, u3, u4, rfl, mw0, mg0⟩ := IsMem.opened hr11
    rintro v5w ⟨o1, v1, ho1, hr1, rfl⟩
    cases ho1
    simp only [Act.put, List.setIfInBounds_toArray, List.set_cons_zero, List.set_cons_succ] at hr1 ⊢
    cases (hr1.symm.trans (o_store (v := .agg #[.slice u1 m1.W.length u2, .slice u3 m1.G.length u4, .bool m1.bad]) (new := #[.slice u1 m1.W.length u2, .slice u3 m1.G.length u4, .bool m1.bad, .slice ac s.C.length cc, .slice al s.L.length cl]) rfl rfl rfl ((D0_5.since hs5 rfl)) (by kernel_rfl) (by simp [Value.cells, Value.oneCell']) (by first | (simp [Value.cells]; done) | (simp [Value.cells]; omega)) (by first | rfl | kernel_rfl)))
    obtain ⟨w2, hw2⟩ : ∃ x, x = (put v5 w.heap.size (.cells #[.slice u1 m1.W.length u2, .slice u3 m1.G.length u4, .bool m1.bad, .slice ac s.C.length cc, .slice al s.L.length cl] 83 (0, 0))) := ⟨_, rfl⟩
    have hW2 : Ext W5 v5 := Since.to_ext hs5
    have hb2 : Ext w w2 := by rw [hw2]; exact Since.to_ext ((Since.of_ext (hX5.trans hW2)).put (.inl (by have := hX5.size; omega)))
    have hk2 : Keep (Bx N w.heap.size (w.heap.size + 2)) w1 w2 := by rw [hw2]; exact ((hK5.ext hW2).put _ _ (.inr (Bx.mem (by omega) (by omega))))
    have hq2 : Keep (Bx N w.heap.size (w.heap.size + 2)) v5 w2 := by rw [hw2]; exact ((Keep.refl _ _).put _ _ (.inr (Bx.mem (by omega) (by omega))))
    have B0_2 : Box w2 (w.heap.size) #[.slice u1 m1.W.length u2, .slice u3 m1.G.length u4, .bool m1.bad, .slice ac s.C.length cc, .slice al s.L.length cl] 83 := by rw [hw2]; exact (D0_5.since hs5 rfl).put
    have B1_2 : Box w2 (w.heap.size + 1) #[.slice none 0 0, .slice none 0 0, .bool false, .slice none 0 0, .slice none 0 0] 83 := by rw [hw2]; exact (box_putOther (D1_5.since hs5 rfl) (by omega))
    have B2_2 : Box w2 (w1.heap.size) #[.int .i64 4, .int .i64 0, .int .i64 q0, .int .i64 q1, .int .i64 q2, .int .i64 q3, .int .i64 q4, .int .i64 q5, .int .i64 q6, .int .i64 q7, .slice ga fS.length gc] 95 := by rw [hw2]; exact (box_putOther (D2_5.since hs5 rfl) (by omega))
    have s2 : W5.heap.size ≤ w2.heap.size := by rw [hw2]; have := hW2.size; simpa [put] using this
    rw [← hw2]
    clear hw2
    obtain ⟨c0_0, c0_1, c0_2, c0_3, c0_4, d0_0, d0_1, d0_2, d0_3, d0_4⟩ := cells5 B0_2
    have z0 : w.heap.size < w2.heap.size := B0_2.lt
    obtain ⟨c1_0, c1_1, c1_2, c1_3, c1_4, d1_0, d1_1, d1_2, d1_3, d1_4⟩ := cells5 B1_2
    have z1 : w.heap.size + 1 < w2.heap.size := B1_2.lt
    obtain ⟨⟨c2_0, c2_1, c2_2, c2_3, c2_4, c2_5, c2_6, c2_7, c2_8, c2_9, c2_10⟩, d2_0, d2_1, d2_2, d2_3, d2_4, d2_5, d2_6, d2_7, d2_8, d2_9, d2_10⟩ := cells11 B2_2
    have z2 : w1.heap.size < w2.heap.size := B2_2.lt
    have mw := IsInts.keep mw0 hq2
    have mg := IsInts.keep mg0 hq2
    clear hq2
    go_wp2_with (fail)
    go_at_call 149
    refine (on_ (Bx N w.heap.size (w.heap.size + 2)) _ _ (memS s m1) id 1 ⟨4, 0, [q0, q1, q2, q3, q4, q5, q6, q7], fS⟩ _ (IsSys.mk rfl (IsInts.keep mw keq) (IsInts.keep mg keq) (IsCores.keep hcB keq) (IsEvs.keep hlB keq) : IsSys (Bx N w.heap.size (w.heap.size + 2)) _ _ (memS s m1)) (IsFrame.ofLit (IsInts.keep fs1 keq)) (Bx.le hN (by first | omega | (simp <;> omega))) hC hFm).calls.mono ?_
    rintro e w3 ⟨_, rfl, hb3, hu3⟩
    obtain ⟨r1, r2, r3, r4, r5, r6, r7, r8, rfl, rW, rG, rC, rL⟩ := hu3.opened
    have B0_3 : Box w3 (w.heap.size) #[.slice u1 m1.W.length u2, .slice u3 m1.G.length u4, .bool m1.bad, .slice ac s.C.length cc, .slice al s.L.length cl] 83 := B0_2.ext hb3
    have B1_3 : Box w3 (w.heap.size + 1) #[.slice none 0 0, .slice none 0 0, .bool false, .slice none 0 0, .slice none 0 0] 83 := B1_2.ext hb3
    have B2_3 : Box w3 (w1.heap.size) #[.int .i64 4, .int .i64 0, .int .i64 q0, .int .i64 q1, .int .i64 q2, .int .i64 q3, .int .i64 q4, .int .i64 q5, .int .i64 q6, .int .i64 q7, .slice ga fS.length gc] 95 := B2_2.ext hb3
    clear c0_0 c0_1 c0_2 c0_3 c0_4 d0_0 d0_1 d0_2 d0_3 d0_4 z0 c1_0 c1_1 c1_2 c1_3 c1_4 d1_0 d1_1 d1_2 d1_3 d1_4 z1 c2_0 c2_1 c2_2 c2_3 c2_4 c2_5 c2_6 c2_7 c2_8 c2_9 c2_10 d2_0 d2_1 d2_2 d2_3 d2_4 d2_5 d2_6 d2_7 d2_8 d2_9 d2_10 z2
    have s3 : w2.heap.size ≤ w3.heap.size := (by have h := hb3.size; first | omega | (simp at h; omega))
    obtain ⟨c0_0, c0_1, c0_2, c0_3, c0_4, d0_0, d0_1, d0_2, d0_3, d0_4⟩ := cells5 B0_3
    have z0 : w.heap.size < w3.heap.size := B0_3.lt
    obtain ⟨c1_0, c1_1, c1_2, c1_3, c1_4, d1_0, d1_1, d1_2, d1_3, d1_4⟩ := cells5 B1_3
    have z1 : w.heap.size + 1 < w3.heap.size := B1_3.lt
    obtain ⟨⟨c2_0, c2_1, c2_2, c2_3, c2_4, c2_5, c2_6, c2_7, c2_8, c2_9, c2_10⟩, d2_0, d2_1, d2_2, d2_3, d2_4, d2_5, d2_6, d2_7, d2_8, d2_9, d2_10⟩ := cells11 B2_3
    have z2 : w1.heap.size < w3.heap.size := B2_3.lt
    go_wp2
    exact bodyPost_ret (ret_cell (cs := #[.slice r1 (onS s id m1 ⟨4, 0, [q0, q1, q2, q3, q4, q5, q6, q7], fS⟩ 1).M.W.length r2, .slice r3 (onS s id m1 ⟨4, 0, [q0, q1, q2, q3, q4, q5, q6, q7], fS⟩ 1).M.G.length r4, .bool (onS s id m1 ⟨4, 0, [q0, q1, q2, q3, q4, q5, q6, q7], fS⟩ 1).M.bad, .slice r5 (onS s id m1 ⟨4, 0, [q0, q1, q2, q3, q4, q5, q6, q7], fS⟩ 1).C.length r6, .slice r7 (onS s id m1 ⟨4, 0, [q0, q1, q2, q3, q4, q5, q6, q7], fS⟩ 1).L.length r8]) (((((B1_3.setCell _).setCell _).setCell _).setCell _).setCell _) Proofs.Try.results101 rfl Proofs.Try.underlying83 rfl (by kernel_rfl)) rfl ⟨_, rfl, exn, IsSys.less (IsSys.keep hu3 keq) (fun _ _ hn => .inl hn)⟩
set_option maxHeartbeats 1000000 in
set_option maxRecDepth 100000 in
theorem step5_c1 (N : Nat → Prop) (s : SysD) (id q0 q1 q2 q3 q4 q5 q6 q7 : Int) (fS : List Int) (aw ag ac al : Option Addr) (cw cg cc cl : Nat) (w : World) (hw : IsInts N w (.slice aw s.M.W.length cw) s.M.W) (hg : IsInts N w (.slice ag s.M.G.length cg) s.M.G) (hc : IsCores N w (.slice ac s.C.length cc) s.C) (hl : IsEvs N w (.slice al s.L.length cl) s.L)
    (hN : ∀ b, N b → b < w.heap.size) (hC : s.C.length ≤ 100000) (hFm : ∀ (i : Nat) c, s.C[i]? = some c → c.F.length ≤ 100000) (hfit : Fits s.M) (hid0 : 0 ≤ id) (hid1 : id ≤ 100) (ht : topD s id = some ⟨4, 1, [q0, q1, q2, q3, q4, q5, q6, q7], fS⟩)  :
    Gives Proofs.Try.prog 101 #[.agg #[.slice aw s.M.W.length cw, .slice ag s.M.G.length cg, .bool s.M.bad, .slice ac s.C.length cc, .slice al s.L.length cl], .int .i64 id] w (fun r w' => IsSys N w' r (onS s id (storeD s.M (placeD id 1) 0) ⟨4, 1, [q0, q1, q2, q3, q4, q5, q6, q7], fS⟩ 2)) := by
  have hwB := hw.bxn (hi := w.heap.size + 2)
  have hgB := hg.bxn (hi := w.heap.size + 2)
  have hcB := hc.bxn (hi := w.heap.size + 2)
  have hlB := hl.bxn (hi := w.heap.size + 2)
  have h : IsSys N w (.agg #[.slice aw s.M.W.length cw, .slice ag s.M.G.length cg, .bool s.M.bad, .slice ac s.C.length cc, .slice al s.L.length cl]) s := IsSys.mk rfl hw hg hc hl
  have kt : ∀ w' : World, Ext w w' → Gives Proofs.Try.prog 81 #[.agg #[.slice aw s.M.W.length cw, .slice ag s.M.G.length cg, .bool s.M.bad, .slice ac s.C.length cc, .slice al s.L.length cl], .int .i64 id] w' (fun r w' => ∃ u, r = .tuple #[u, .bool (topD s id).isSome] ∧ IsFrame (Bx N w.heap.size (w.heap.size + 2)) w' u (topF s id)) := fun w' e => top_ (Bx N w.heap.size (w.heap.size + 2)) _ s id w' ((IsSys.bxn h).ext e)
  rw [show (topD s id).isSome = true by rw [ht]; rfl] at kt
  rw [show topF s id = ⟨4, 1, [q0, q1, q2, q3, q4, q5, q6, q7], fS⟩ by unfold topF; rw [ht]; rfl] at kt
  obtain ⟨m1, hm1⟩ : ∃ m, storeD s.M (placeD id 1) 0 = m := ⟨_, rfl⟩
  have ks : ∀ (w' : World) (va : Value), IsMem (Bx N w.heap.size (w.heap.size + 2)) w' va s.M → w.heap.size + 2 ≤ w'.heap.size → Gives Proofs.Try.prog 68 #[va, .int .i64 (placeD id 1), .int .i64 0] w' (fun r w' => IsMem (Bx N w.heap.size (w.heap.size + 2)) w' r m1) := fun w' va hm hsz => by
    have := memStore_ (Bx N w.heap.size (w.heap.size + 2)) va s.M (placeD id 1) 0 w' hm hfit (Bx.le hN hsz) (by unfold placeD wrap64; omega) (by unfold placeD wrap64; omega)
    rw [hm1] at this; exact this
  rw [hm1]
  clear hm1
  clear ht h
  go_enter Proofs.Try.func101, Proofs.Try.ntmps101
  go_wp2_with (fail)
  go_at_call 81
  refine (kt _ exq).calls.mono ?_
  rintro e w1 ⟨_, rfl, hb1, u, rfl, hu1⟩
  obtain ⟨ga, gc, rfl, fs1⟩ := IsFrame.litv hu1
  have B0_1 : Box w1 (w.heap.size) #[.slice aw s.M.W.length cw, .slice ag s.M.G.length cg, .bool s.M.bad, .slice ac s.C.length cc, .slice al s.L.length cl] 83 := ((Box.newAt _ _ _ (by first | rfl | simp)).alloc _).ext hb1
  have B1_1 : Box w1 (w.heap.size + 1) #[.slice none 0 0, .slice none 0 0, .bool false, .slice none 0 0, .slice none 0 0] 83 := (Box.newAt _ _ _ (by first | rfl | simp)).ext hb1
  have s1 : w.heap.size + 2 ≤ w1.heap.size := (by have h := hb1.size; first | omega | (simp at h; omega))
  obtain ⟨c0_0, c0_1, c0_2, c0_3, c0_4, d0_0, d0_1, d0_2, d0_3, d0_4⟩ := cells5 B0_1
  have z0 : w.heap.size < w1.heap.size := B0_1.lt
  obtain ⟨c1_0, c1_1, c1_2, c1_3, c1_4, d1_0, d1_1, d1_2, d1_3, d1_4⟩ := cells5 B1_1
  have z1 : w.heap.size + 1 < w1.heap.size := B1_1.lt
  go_wp2_with (fail)
  obtain ⟨W5, hW⟩ : ∃ W, W = (w1.alloc (.cells #[.int .i64 4, .int .i64 1, .int .i64 q0, .int .i64 q1, .int .i64 q2, .int .i64 q3, .int .i64 q4, .int .i64 q5, .int .i64 q6, .int .i64 q7, .slice ga fS.length gc] 95 (0, 0))) := ⟨_, rfl⟩
  have hX5 : Ext w W5 := by rw [hW]; exact exn
  have hK5 : Keep (Bx N w.heap.size (w.heap.size + 2)) w1 W5 := by rw [hW]; exact keq
  have D0_5 : Box (w1.alloc (.cells #[.int .i64 4, .int .i64 1, .int .i64 q0, .int .i64 q1, .int .i64 q2, .int .i64 q3, .int .i64 q4, .int .i64 q5, .int .i64 q6, .int .i64 q7, .slice ga fS.length gc] 95 (0, 0))) (w.heap.size) #[.slice aw s.M.W.length cw, .slice ag s.M.G.length cg, .bool s.M.bad, .slice ac s.C.length cc, .slice al s.L.length cl] 83 := (B0_1.alloc _)
  rw [← hW] at D0_5
  have D1_5 : Box (w1.alloc (.cells #[.int .i64 4, .int .i64 1, .int .i64 q0, .int .i64 q1, .int .i64 q2, .int .i64 q3, .int .i64 q4, .int .i64 q5, .int .i64 q6, .int .i64 q7, .slice ga fS.length gc] 95 (0, 0))) (w.heap.size + 1) #[.slice none 0 0, .slice none 0 0, .bool false, .slice none 0 0, .slice none 0 0] 83 := (B1_1.alloc _)
  rw [← hW] at D1_5
  have D2_5 : Box (w1.alloc (.cells #[.int .i64 4, .int .i64 1, .int .i64 q0, .int .i64 q1, .int .i64 q2, .int .i64 q3, .int .i64 q4, .int .i64 q5, .int .i64 q6, .int .i64 q7, .slice ga fS.length gc] 95 (0, 0))) (w1.heap.size) #[.int .i64 4, .int .i64 1, .int .i64 q0, .int .i64 q1, .int .i64 q2, .int .i64 q3, .int .i64 q4, .int .i64 q5, .int .i64 q6, .int .i64 q7, .slice ga fS.length gc] 95 := (Box.newAt _ _ _ (by first | rfl | simp))
  rw [← hW] at D2_5
  have y5 : w1.heap.size + 1 ≤ W5.heap.size := by rw [hW]; simp
  rw [← hW]
  clear hW
  have aM : IsMem (Bx N w.heap.size (w.heap.size + 2)) W5 (.agg #[.slice aw s.M.W.length cw, .slice ag s.M.G.length cg, .bool s.M.bad]) s.M := (IsMem.mk rfl hwB hgB : IsMem (Bx N w.heap.size (w.heap.size + 2)) w _ s.M).keep ((Keep.refl _ _).ext hX5)
  clear c0_0 c0_1 c0_2 c0_3 c0_4 d0_0 d0_1 d0_2 d0_3 d0_4 z0 c1_0 c1_1 c1_2 c1_3 c1_4 d1_0 d1_1 d1_2 d1_3 d1_4 z1
  apply region_lit2 (T := [8]) (L := []) (X := [w.heap.size]) (G := [eqv _, eqv _, eqv _, eqv _, eqv _, eqv _, isMemN (Bx N w.heap.size (w.heap.size + 2)) m1, eqv _, anyG])
  case hm => kernel_rfl
  case hop =>
    refine ⟨?_, ?_, ?_, ?_, ?_, ?_, ?_, ?_, ?_, trivial⟩
    · intro a wa hs hf hd
      have t2 := hf.off 2 (by kernel_rfl) rfl
      exact plain_ rfl (yes_eqv (o_fieldAddr rfl Proofs.Try.underlying83 rfl rfl (by kernel_rfl) t2) rfl)
    · intro a wa hs hf hd
      have t41 : a.eval (.tmp 41) = _ := hd.at 0 41 (by kernel_rfl)
      exact plain_ rfl (yes_eqv (o_load3 rfl Proofs.Try.underlying50 rfl (by kernel_rfl) t41 ((D0_5.since hs rfl).cell rfl) ((D0_5.since hs rfl).cell rfl) ((D0_5.since hs rfl).cell rfl)) rfl)
    · intro a wa hs hf hd
      have t1 := hf.off 1 (by kernel_rfl) rfl
      exact plain_ rfl (yes_eqv (o_move rfl t1) rfl)
    · intro a wa hs hf hd
      have t5 := hf.off 5 (by kernel_rfl) rfl
      exact plain_ rfl (yes_eqv (o_fieldAddr rfl Proofs.Try.underlying95 rfl rfl (by kernel_rfl) t5) rfl)
    · intro a wa hs hf hd
      have t44 : a.eval (.tmp 44) = _ := hd.at 3 44 (by kernel_rfl)
      exact plain_ rfl (yes_eqv (o_load1 rfl Proofs.Try.underlying3 rfl t44 ((D2_5.since hs rfl).cell rfl)) rfl)
    · intro a wa hs hf hd
      have t43 : a.eval (.tmp 43) = _ := hd.at 2 43 (by kernel_rfl)
      have t45 : a.eval (.tmp 45) = _ := hd.at 4 45 (by kernel_rfl)
      exact plain_ rfl (yes_gives (place_ id 1 _ hid0 hid1) rfl rfl Proofs.Try.func94 (by kernel_rfl) (by kernel_rfl) (by simp only [List.map_toArray, List.map_cons, List.map_nil, t43, t45]) rfl)
    · intro a wa hs hf hd
      have t42 : a.eval (.tmp 42) = _ := hd.at 1 42 (by kernel_rfl)
      have t46 : a.eval (.tmp 46) = _ := hd.at 5 46 (by kernel_rfl)
      exact plain_ rfl (yes_gives (ks _ _ (aM.keep (Since.to_ext hs).keep) (by have := (Since.to_ext hs).size; have := hX5.size; omega)) rfl rfl Proofs.Try.func68 (by kernel_rfl) (by kernel_rfl) (by simp only [List.map_toArray, List.map_cons, List.map_nil, eval_const, t42, t46]) rfl)
    · intro a wa hs hf hd
      have t2 := hf.off 2 (by kernel_rfl) rfl
      exact plain_ rfl (yes_eqv (o_fieldAddr rfl Proofs.Try.underlying83 rfl rfl (by kernel_rfl) t2) rfl)
    · intro a wb wa hs1 hs hf hd hrun
      have t48 : a.eval (.tmp 48) = _ := hd.at 7 48 (by kernel_rfl)
      have t47 := hd.at 6 47 (by kernel_rfl)
      subst hrun
      have q18 : IsMem (Bx N w.heap.size (w.heap.size + 2)) _ (a.eval (.tmp 47)) m1 := t47
      obtain ⟨u1, u2, u3, u4, hv, _⟩ := q18.opened
      exact ⟨_, o_store rfl t48 hv ((D0_5.since hs1 rfl)) (by kernel_rfl) (by simp [Value.cells, Value.oneCell']) (by first | (simp [Value.cells]; done) | (simp [Value.cells]; omega)) rfl, Since.put hs (.inr (by simp))⟩
  case hG => exact ⟨stable_eqv _, stable_eqv _, stable_eqv _, stable_eqv _, stable_eqv _, stable_eqv _, stable_isMemN _ _, stable_eqv _, stable_any, trivial⟩
  case hc => kernel_rfl
  case hfin =>
    intro v5 hs5
    rintro _ rfl _ rfl _ rfl _ rfl _ rfl _ rfl r11 hr11 _ rfl
    obtain ⟨u1, u2, u3, u4, rfl, mw0, mg0⟩ := IsMem.opened hr11
    rintro v5w ⟨o1, v1, ho1, hr1, rfl⟩
    cases ho1
    simp only [Act.put, List.setIfInBounds_toArray, List.set_cons_zero, List.set_cons_succ] at hr1 ⊢
    cases (hr1.symm.trans (o_store (v := .agg #[.slice u1 m1.W.length u2, .slice u3 m1.G.length u4, .bool m1.bad]) (new := #[.slice u1 m1.W.length u2, .slice u3 m1.G.length u4, .bool m1.bad, .slice ac s.C.length cc, .slice al s.L.length cl]) rfl rfl rfl ((D0_5.since hs5 rfl)) (by kernel_rfl) (by simp [Value.cells, Value.oneCell']) (by first | (simp [Value.cells]; done) | (simp [Value.cells]; omega)) (by first | rfl | kernel_rfl)))
    obtain ⟨w2, hw2⟩ : ∃ x, x = (put v5 w.heap.size (.cells #[.slice u1 m1.W.length u2, .slice u3 m1.G.length u4, .bool m1.bad, .slice ac s.C.length cc, .slice al s.L.length cl] 83 (0, 0))) := ⟨_, rfl⟩
    have hW2 : Ext W5 v5 := Since.to_ext hs5
    have hb2 : Ext w w2 := by rw [hw2]; exact Since.to_ext ((Since.of_ext (hX5.trans hW2)).put (.inl (by have := hX5.size; omega)))
    have hk2 : Keep (Bx N w.heap.size (w.heap.size + 2)) w1 w2 := by rw [hw2]; exact ((hK5.ext hW2).put _ _ (.inr (Bx.mem (by omega) (by omega))))
    have hq2 : Keep (Bx N w.heap.size (w.heap.size + 2)) v5 w2 := by rw [hw2]; exact ((Keep.refl _ _).put _ _ (.inr (Bx.mem (by omega) (by omega))))
    have B0_2 : Box w2 (w.heap.size) #[.slice u1 m1.W.length u2, .slice u3 m1.G.length u4, .bool m1.bad, .slice ac s.C.length cc, .slice al s.L.length cl] 83 := by rw [hw2]; exact (D0_5.since hs5 rfl).put
    have B1_2 : Box w2 (w.heap.size + 1) #[.slice none 0 0, .slice none 0 0, .bool false, .slice none 0 0, .slice none 0 0] 83 := by rw [hw2]; exact (box_putOther (D1_5.since hs5 rfl) (by omega))
    have B2_2 : Box w2 (w1.heap.size) #[.int .i64 4, .int .i64 1, .int .i64 q0, .int .i64 q1, .int .i64 q2, .int .i64 q3, .int .i64 q4, .int .i64 q5, .int .i64 q6, .int .i64 q7, .slice ga fS.length gc] 95 := by rw [hw2]; exact (box_putOther (D2_5.since hs5 rfl) (by omega))
    have s2 : W5.heap.size ≤ w2.heap.size := by rw [hw2]; have := hW2.size; simpa [put] using this
    rw [← hw2]
    clear hw2
    obtain ⟨c0_0, c0_1, c0_2, c0_3, c0_4, d0_0, d0_1, d0_2, d0_3, d0_4⟩ := cells5 B0_2
    have z0 : w.heap.size < w2.heap.size := B0_2.lt
    obtain ⟨c1_0, c1_1, c1_2, c1_3, c1_4, d1_0, d1_1, d1_2, d1_3, d1_4⟩ := cells5 B1_2
    have z1 : w.heap.size + 1 < w2.heap.size := B1_2.lt
    obtain ⟨⟨c2_0, c2_1, c2_2, c2_3, c2_4, c2_5, c2_6, c2_7, c2_8, c2_9, c2_10⟩, d2_0, d2_1, d2_2, d2_3, d2_4, d2_5, d2_6, d2_7, d2_8, d2_9, d2_10⟩ := cells11 B2_2
    have z2 : w1.heap.size < w2.heap.size := B2_2.lt
    have mw := IsInts.keep mw0 hq2
    have mg := IsInts.keep mg0 hq2
    clear hq2
    go_wp2_with (fail)
    go_at_call 149
    refine (on_ (Bx N w.heap.size (w.heap.size + 2)) _ _ (memS s m1) id 2 ⟨4, 1, [q0, q1, q2, q3, q4, q5, q6, q7], fS⟩ _ (IsSys.mk rfl (IsInts.keep mw keq) (IsInts.keep mg keq) (IsCores.keep hcB keq) (IsEvs.keep hlB keq) : IsSys (Bx N w.heap.size (w.heap.size + 2)) _ _ (memS s m1)) (IsFrame.ofLit (IsInts.keep fs1 keq)) (Bx.le hN (by first | omega | (simp <;> omega))) hC hFm).calls.mono ?_
    rintro e w3 ⟨_, rfl, hb3, hu3⟩
    obtain ⟨r1, r2, r3, r4, r5, r6, r7, r8, rfl, rW, rG, rC, rL⟩ := hu3.opened
    have B0_3 : Box w3 (w.heap.size) #[.slice u1 m1.W.length u2, .slice u3 m1.G.length u4, .bool m1.bad, .slice ac s.C.length cc, .slice al s.L.length cl] 83 := B0_2.ext hb3
    have B1_3 : Box w3 (w.heap.size + 1) #[.slice none 0 0, .slice none 0 0, .bool false, .slice none 0 0, .slice none 0 0] 83 := B1_2.ext hb3
    have B2_3 : Box w3 (w1.heap.size) #[.int .i64 4, .int .i64 1, .int .i64 q0, .int .i64 q1, .int .i64 q2, .int .i64 q3, .int .i64 q4, .int .i64 q5, .int .i64 q6, .int .i64 q7, .slice ga fS.length gc] 95 := B2_2.ext hb3
    clear c0_0 c0_1 c0_2 c0_3 c0_4 d0_0 d0_1 d0_2 d0_3 d0_4 z0 c1_0 c1_1 c1_2 c1_3 c1_4 d1_0 d1_1 d1_2 d1_3 d1_4 z1 c2_0 c2_1 c2_2 c2_3 c2_4 c2_5 c2_6 c2_7 c2_8 c2_9 c2_10 d2_0 d2_1 d2_2 d2_3 d2_4 d2_5 d2_6 d2_7 d2_8 d2_9 d2_10 z2
    have s3 : w2.heap.size ≤ w3.heap.size := (by have h := hb3.size; first | omega | (simp at h; omega))
    obtain ⟨c0_0, c0_1, c0_2, c0_3, c0_4, d0_0, d0_1, d0_2, d0_3, d0_4⟩ := cells5 B0_3
    have z0 : w.heap.size < w3.heap.size := B0_3.lt
    obtain ⟨c1_0, c1_1, c1_2, c1_3, c1_4, d1_0, d1_1, d1_2, d1_3, d1_4⟩ := cells5 B1_3
    have z1 : w.heap.size + 1 < w3.heap.size := B1_3.lt
    obtain ⟨⟨c2_0, c2_1, c2_2, c2_3, c2_4, c2_5, c2_6, c2_7, c2_8, c2_9, c2_10⟩, d2_0, d2_1, d2_2, d2_3, d2_4, d2_5, d2_6, d2_7, d2_8, d2_9, d2_10⟩ := cells11 B2_3
    have z2 : w1.heap.size < w3.heap.size := B2_3.lt
    go_wp2
    exact bodyPost_ret (ret_cell (cs := #[.slice r1 (onS s id m1 ⟨4, 1, [q0, q1, q2, q3, q4, q5, q6, q7], fS⟩ 2).M.W.length r2, .slice r3 (onS s id m1 ⟨4, 1, [q0, q1, q2, q3, q4, q5, q6, q7], fS⟩ 2).M.G.length r4, .bool (onS s id m1 ⟨4, 1, [q0, q1, q2, q3, q4, q5, q6, q7], fS⟩ 2).M.bad, .slice r5 (onS s id m1 ⟨4, 1, [q0, q1, q2, q3, q4, q5, q6, q7], fS⟩ 2).C.length r6, .slice r7 (onS s id m1 ⟨4, 1, [q0, q1, q2, q3, q4, q5, q6, q7], fS⟩ 2).L.length r8]) (((((B1_3.setCell _).setCell _).setCell _).setCell _).setCell _) Proofs.Try.results101 rfl Proofs.Try.underlying83 rfl (by kernel_rfl)) rfl ⟨_, rfl, exn, IsSys.less (IsSys.keep hu3 keq) (fun _ _ hn => .inl hn)⟩
set_option maxHeartbeats 1000000 in
set_option maxRecDepth 100000 in
theorem step5_c2 (N : Nat → Prop) (s : SysD) (id q0 q1 q2 q3 q4 q5 q6 q7 : Int) (fS : List Int) (aw ag ac al : Option Addr) (cw cg cc cl : Nat) (w : World) (hw : IsInts N w (.slice aw s.M.W.length cw) s.M.W) (hg : IsInts N w (.slice ag s.M.G.length cg) s.M.G) (hc : IsCores N w (.slice ac s.C.length cc) s.C) (hl : IsEvs N w (.slice al s.L.length cl) s.L)
    (hN : ∀ b, N b → b < w.heap.size) (hC : s.C.length ≤ 100000) (hFm : ∀ (i : Nat) c, s.C[i]? = some c → c.F.length ≤ 100000) (hfit : Fits s.M) (hid0 : 0 ≤ id) (hid1 : id ≤ 100) (ht : topD s id = some ⟨4, 2, [q0, q1, q2, q3, q4, q5, q6, q7], fS⟩)  :
    Gives Proofs.Try.prog 101 #[.agg #[.slice aw s.M.W.length cw, .slice ag s.M.G.length cg, .bool s.M.bad, .slice ac s.C.length cc, .slice al s.L.length cl], .int .i64 id] w (fun r w' => IsSys N w' r (backS (memS s (storeD s.M (placeD id 2) 0)) id 0 0)) := by
  have hwB := hw.bxn (hi := w.heap.size + 2)
  have hgB := hg.bxn (hi := w.heap.size + 2)
  have hcB := hc.bxn (hi := w.heap.size + 2)
  have hlB := hl.bxn (hi := w.heap.size + 2)
  have h : IsSys N w (.agg #[.slice aw s.M.W.length cw, .slice ag s.M.G.length cg, .bool s.M.bad, .slice ac s.C.length cc, .slice al s.L.length cl]) s := IsSys.mk rfl hw hg hc hl
  have kt : ∀ w' : World, Ext w w' → Gives Proofs.Try.prog 81 #[.agg #[.slice aw s.M.W.length cw, .slice ag s.M.G.length cg, .bool s.M.bad, .slice ac s.C.length cc, .slice al s.L.length cl], .int .i64 id] w' (fun r w' => ∃ u, r = .tuple #[u, .bool (topD s id).isSome] ∧ IsFrame (Bx N w.heap.size (w.heap.size + 2)) w' u (topF s id)) := fun w' e => top_ (Bx N w.heap.size (w.heap.size + 2)) _ s id w' ((IsSys.bxn h).ext e)
  rw [show (topD s id).isSome = true by rw [ht]; rfl] at kt
  rw [show topF s id = ⟨4, 2, [q0, q1, q2, q3, q4, q5, q6, q7], fS⟩ by unfold topF; rw [ht]; rfl] at kt
  obtain ⟨m1, hm1⟩ : ∃ m, storeD s.M (placeD id 2) 0 = m := ⟨_, rfl⟩
  have ks : ∀ (w' : World) (va : Value), IsMem (Bx N w.heap.size (w.heap.size + 2)) w' va s.M → w.heap.size + 2 ≤ w'.heap.size → Gives Proofs.Try.prog 68 #[va, .int .i64 (placeD id 2), .int .i64 0] w' (fun r w' => IsMem (Bx N w.heap.size (w.heap.size + 2)) w' r m1) := fun w' va hm hsz => by
    have := memStore_ (Bx N w.heap.size (w.heap.size + 2)) va s.M (placeD id 2) 0 w' hm hfit (Bx.le hN hsz) (by unfold placeD wrap64; omega) (by unfold placeD wrap64; omega)
    rw [hm1] at this; exact this
  rw [hm1]
  clear hm1
  clear ht h
  go_enter Proofs.Try.func101, Proofs.Try.ntmps101
  go_wp2_with (fail)
  go_at_call 81
  refine (kt _ exq).calls.mono ?_
  rintro e w1 ⟨_, rfl, hb1, u, rfl, hu1⟩
  obtain ⟨ga, gc, rfl, fs1⟩ := IsFrame.litv hu1
  have B0_1 : Box w1 (w.heap.size) #[.slice aw s.M.W.length cw, .slice ag s.M.G.length cg, .bool s.M.bad, .slice ac s.C.length cc, .slice al s.L.length cl] 83 := ((Box.newAt _ _ _ (by first | rfl | simp)).alloc _).ext hb1
  have B1_1 : Box w1 (w.heap.size + 1) #[.slice none 0 0, .slice none 0 0, .bool false, .slice none 0 0, .slice none 0 0] 83 := (Box.newAt _ _ _ (by first | rfl | simp)).ext hb1
  have s1 : w.heap.size + 2 ≤ w1.heap.size := (by have h := hb1.size; first | omega | (simp at h; omega))
  obtain ⟨c0_0, c0_1, c0_2, c0_3, c0_4, d0_0, d0_1, d0_2, d0_3, d0_4⟩ := cells5 B0_1
  have z0 : w.heap.size < w1.heap.size := B0_1.lt
  obtain ⟨c1_0, c1_1, c1_2, c1_3, c1_4, d1_0, d1_1, d1_2, d1_3, d1_4⟩ := cells5 B1_1
  have z1 : w.heap.size + 1 < w1.heap.size := B1_1.lt
  go_wp2_with (fail)
  obtain ⟨W5, hW⟩ : ∃ W, W = (w1.alloc (.cells #[.int .i64 4, .int .i64 2, .int .i64 q0, .int .i64 q1, .int .i64 q2, .int .i64 q3, .int .i64 q4, .int .i64 q5, .int .i64 q6, .int .i64 q7, .slice ga fS.length gc] 95 (0, 0))) := ⟨_, rfl⟩
  have hX5 : Ext w W5 := by rw [hW]; exact exn
  have hK5 : Keep (Bx N w.heap.size (w.heap.size + 2)) w1 W5 := by rw [hW]; exact keq
  have D0_5 : Box (w1.alloc (.cells #[.int .i64 4, .int .i64 2, .int .i64 q0, .int .i64 q1, .int .i64 q2, .int .i64 q3, .int .i64 q4, .int .i64 q5, .int .i64 q6, .int .i64 q7, .slice ga fS.length gc] 95 (0, 0))) (w.heap.size) #[.slice aw s.M.W.length cw, .slice ag s.M.G.length cg, .bool s.M.bad, .slice ac s.C.length cc, .slice al s.L.length cl] 83 := (B0_1.alloc _)
  rw [← hW] at D0_5
  have D1_5 : Box (w1.alloc (.cells #[.int .i64 4, .int .i64 2, .int .i64 q0, .int .i64 q1, .int .i64 q2, .int .i64 q3, .int .i64 q4, .int .i64 q5, .int .i64 q6, .int .i64 q7, .slice ga fS.length gc] 95 (0, 0))) (w.heap.size + 1) #[.slice none 0 0, .slice none 0 0, .bool false, .slice none 0 0, .slice none 0 0] 83 := (B1_1.alloc _)
  rw [← hW] at D1_5
  have D2_5 : Box (w1.alloc (.cells #[.int .i64 4, .int .i64 2, .int .i64 q0, .int .i64 q1, .int .i64 q2, .int .i64 q3, .int .i64 q4, .int .i64 q5, .int .i64 q6, .int .i64 q7, .slice ga fS.length gc] 95 (0, 0))) (w1.heap.size) #[.int .i64 4, .int .i64 2, .int .i64 q0, .int .i64 q1, .int .i64 q2, .int .i64 q3, .int .i64 q4, .int .i64 q5, .int .i64 q6, .int .i64 q7, .slice ga fS.length gc] 95 := (Box.newAt _ _ _ (by first | rfl | simp))
  rw [← hW] at D2_5
  have y5 : w1.heap.size + 1 ≤ W5.heap.size := by rw [hW]; simp
  rw [← hW]
  clear hW
  have aM : IsMem (Bx N w.heap.size (w.heap.size + 2)) W5 (.agg #[.slice aw s.M.W.length cw, .slice ag s.M.G.length cg, .bool s.M.bad]) s.M := (IsMem.mk rfl hwB hgB : IsMem (Bx N w.heap.size (w.heap.size + 2)) w _ s.M).keep ((Keep.refl _ _).ext hX5)
  clear c0_0 c0_1 c0_2 c0_3 c0_4 d0_0 d0_1 d0_2 d0_3 d0_4 z0 c1_0 c1_1 c1_2 c1_3 c1_4 d1_0 d1_1 d1_2 d1_3 d1_4 z1
  apply region_lit2 (T := [8]) (L := []) (X := [w.heap.size]) (G := [eqv _, eqv _, eqv _, eqv _, eqv _, eqv _, isMemN (Bx N w.heap.size (w.heap.size + 2)) m1, eqv _, anyG])
  case hm => kernel_rfl
  case hop =>
    refine ⟨?_, ?_, ?_, ?_, ?_, ?_, ?_, ?_, ?_, trivial⟩
    · intro a wa hs hf hd
      have t2 := hf.off 2 (by kernel_rfl) rfl
      exact plain_ rfl (yes_eqv (o_fieldAddr rfl Proofs.Try.underlying83 rfl rfl (by kernel_rfl) t2) rfl)
    · intro a wa hs hf hd
      have t41 : a.eval (.tmp 41) = _ := hd.at 0 41 (by kernel_rfl)
      exact plain_ rfl (yes_eqv (o_load3 rfl Proofs.Try.underlying50 rfl (by kernel_rfl) t41 ((D0_5.since hs rfl).cell rfl) ((D0_5.since hs rfl).cell rfl) ((D0_5.since hs rfl).cell rfl)) rfl)
    · intro a wa hs hf hd
      have t1 := hf.off 1 (by kernel_rfl) rfl
      exact plain_ rfl (yes_eqv (o_move rfl t1) rfl)
    · intro a wa hs hf hd
      have t5 := hf.off 5 (by kernel_rfl) rfl
      exact plain_ rfl (yes_eqv (o_fieldAddr rfl Proofs.Try.underlying95 rfl rfl (by kernel_rfl) t5) rfl)
    · intro a wa hs hf hd
      have t44 : a.eval (.tmp 44) = _ := hd.at 3 44 (by kernel_rfl)
      exact plain_ rfl (yes_eqv (o_load1 rfl Proofs.Try.underlying3 rfl t44 ((D2_5.since hs rfl).cell rfl)) rfl)
    · intro a wa hs hf hd
      have t43 : a.eval (.tmp 43) = _ := hd.at 2 43 (by kernel_rfl)
      have t45 : a.eval (.tmp 45) = _ := hd.at 4 45 (by kernel_rfl)
      exact plain_ rfl (yes_gives (place_ id 2 _ hid0 hid1) rfl rfl Proofs.Try.func94 (by kernel_rfl) (by kernel_rfl) (by simp only [List.map_toArray, List.map_cons, List.map_nil, t43, t45]) rfl)
    · intro a wa hs hf hd
      have t42 : a.eval (.tmp 42) = _ := hd.at 1 42 (by kernel_rfl)
      have t46 : a.eval (.tmp 46) = _ := hd.at 5 46 (by kernel_rfl)
      exact plain_ rfl (yes_gives (ks _ _ (aM.keep (Since.to_ext hs).keep) (by have := (Since.to_ext hs).size; have := hX5.size; omega)) rfl rfl Proofs.Try.func68 (by kernel_rfl) (by kernel_rfl) (by simp only [List.map_toArray, List.map_cons, List.map_nil, eval_const, t42, t46]) rfl)
    · intro a wa hs hf hd
      have t2 := hf.off 2 (by kernel_rfl) rfl
      exact plain_ rfl (yes_eqv (o_fieldAddr rfl Proofs.Try.underlying83 rfl rfl (by kernel_rfl) t2) rfl)
    · intro a wb wa hs1 hs hf hd hrun
      have t48 : a.eval (.tmp 48) = _ := hd.at 7 48 (by kernel_rfl)
      have t47 := hd.at 6 47 (by kernel_rfl)
      subst hrun
      have q18 : IsMem (Bx N w.heap.size (w.heap.size + 2)) _ (a.eval (.tmp 47)) m1 := t47
      obtain ⟨u1, u2, u3, u4, hv, _⟩ := q18.opened
      exact ⟨_, o_store rfl t48 hv ((D0_5.since hs1 rfl)) (by kernel_rfl) (by simp [Value.cells, Value.oneCell']) (by first | (simp [Value.cells]; done) | (simp [Value.cells]; omega)) rfl, Since.put hs (.inr (by simp))⟩
  case hG => exact ⟨stable_eqv _, stable_eqv _, stable_eqv _, stable_eqv _, stable_eqv _, stable_eqv _, stable_isMemN _ _, stable_eqv _, stable_any, trivial⟩
  case hc => kernel_rfl
  case hfin =>
    intro v5 hs5
    rintro _ rfl _ rfl _ rfl _ rfl _ rfl _ rfl r11 hr11 _ rfl
    obtain ⟨u1, u2, u3, u4, rfl, mw0, mg0⟩ := IsMem.opened hr11
    rintro v5w ⟨o1, v1, ho1, hr1, rfl⟩
    cases ho1
    simp only [Act.put, List.setIfInBounds_toArray, List.set_cons_zero, List.set_cons_succ] at hr1 ⊢
    cases (hr1.symm.trans (o_store (v := .agg #[.slice u1 m1.W.length u2, .slice u3 m1.G.length u4, .bool m1.bad]) (new := #[.slice u1 m1.W.length u2, .slice u3 m1.G.length u4, .bool m1.bad, .slice ac s.C.length cc, .slice al s.L.length cl]) rfl rfl rfl ((D0_5.since hs5 rfl)) (by kernel_rfl) (by simp [Value.cells, Value.oneCell']) (by first | (simp [Value.cells]; done) | (simp [Value.cells]; omega)) (by first | rfl | kernel_rfl)))
    obtain ⟨w2, hw2⟩ : ∃ x, x = (put v5 w.heap.size (.cells #[.slice u1 m1.W.length u2, .slice u3 m1.G.length u4, .bool m1.bad, .slice ac s.C.length cc, .slice al s.L.length cl] 83 (0, 0))) := ⟨_, rfl⟩
    have hW2 : Ext W5 v5 := Since.to_ext hs5
    have hb2 : Ext w w2 := by rw [hw2]; exact Since.to_ext ((Since.of_ext (hX5.trans hW2)).put (.inl (by have := hX5.size; omega)))
    have hk2 : Keep (Bx N w.heap.size (w.heap.size + 2)) w1 w2 := by rw [hw2]; exact ((hK5.ext hW2).put _ _ (.inr (Bx.mem (by omega) (by omega))))
    have hq2 : Keep (Bx N w.heap.size (w.heap.size + 2)) v5 w2 := by rw [hw2]; exact ((Keep.refl _ _).put _ _ (.inr (Bx.mem (by omega) (by omega))))
    have B0_2 : Box w2 (w.heap.size) #[.slice u1 m1.W.length u2, .slice u3 m1.G.length u4, .bool m1.bad, .slice ac s.C.length cc, .slice al s.L.length cl] 83 := by rw [hw2]; exact (D0_5.since hs5 rfl).put
    have B1_2 : Box w2 (w.heap.size + 1) #[.slice none 0 0, .slice none 0 0, .bool false, .slice none 0 0, .slice none 0 0] 83 := by rw [hw2]; exact (box_putOther (D1_5.since hs5 rfl) (by omega))
    have B2_2 : Box w2 (w1.heap.size) #[.int .i64 4, .int .i64 2, .int .i64 q0, .int .i64 q1, .int .i64 q2, .int .i64 q3, .int .i64 q4, .int .i64 q5, .int .i64 q6, .int .i64 q7, .slice ga fS.length gc] 95 := by rw [hw2]; exact (box_putOther (D2_5.since hs5 rfl) (by omega))
    have s2 : W5.heap.size ≤ w2.heap.size := by rw [hw2]; have := hW2.size; simpa [put] using this
    rw [← hw2]
    clear hw2
    obtain ⟨c0_0, c0_1, c0_2, c0_3, c0_4, d0_0, d0_1, d0_2, d0_3, d0_4⟩ := cells5 B0_2
    have z0 : w.heap.size < w2.heap.size := B0_2.lt
    obtain ⟨c1_0, c1_1, c1_2, c1_3, c1_4, d1_0, d1_1, d1_2, d1_3, d1_4⟩ := cells5 B1_2
    have z1 : w.heap.size + 1 < w2.heap.size := B1_2.lt
    obtain ⟨⟨c2_0, c2_1, c2_2, c2_3, c2_4, c2_5, c2_6, c2_7, c2_8, c2_9, c2_10⟩, d2_0, d2_1, d2_2, d2_3, d2_4, d2_5, d2_6, d2_7, d2_8, d2_9, d2_10⟩ := cells11 B2_2
    have z2 : w1.heap.size < w2.heap.size := B2_2.lt
    have mw := IsInts.keep mw0 hq2
    have mg := IsInts.keep mg0 hq2
    clear hq2
    go_wp2_with (fail)
    go_at_call 86
    refine (back_ (Bx N w.heap.size (w.heap.size + 2)) _ (memS s m1) id 0 0 _ (IsSys.mk rfl (IsInts.keep mw keq) (IsInts.keep mg keq) (IsCores.keep hcB keq) (IsEvs.keep hlB keq) : IsSys (Bx N w.heap.size (w.heap.size + 2)) _ _ (memS s m1)) (Bx.le hN (by first | omega | (simp <;> omega))) hC).calls.mono ?_
    rintro e w3 ⟨_, rfl, hb3, hu3⟩
    obtain ⟨r1, r2, r3, r4, r5, r6, r7, r8, rfl, rW, rG, rC, rL⟩ := hu3.opened
    have B0_3 : Box w3 (w.heap.size) #[.slice u1 m1.W.length u2, .slice u3 m1.G.length u4, .bool m1.bad, .slice ac s.C.length cc, .slice al s.L.length cl] 83 := B0_2.ext hb3
    have B1_3 : Box w3 (w.heap.size + 1) #[.slice none 0 0, .slice none 0 0, .bool false, .slice none 0 0, .slice none 0 0] 83 := B1_2.ext hb3
    have B2_3 : Box w3 (w1.heap.size) #[.int .i64 4, .int .i64 2, .int .i64 q0, .int .i64 q1, .int .i64 q2, .int .i64 q3, .int .i64 q4, .int .i64 q5, .int .i64 q6, .int .i64 q7, .slice ga fS.length gc] 95 := B2_2.ext hb3
    clear c0_0 c0_1 c0_2 c0_3 c0_4 d0_0 d0_1 d0_2 d0_3 d0_4 z0 c1_0 c1_1 c1_2 c1_3 c1_4 d1_0 d1_1 d1_2 d1_3 d1_4 z1 c2_0 c2_1 c2_2 c2_3 c2_4 c2_5 c2_6 c2_7 c2_8 c2_9 c2_10 d2_0 d2_1 d2_2 d2_3 d2_4 d2_5 d2_6 d2_7 d2_8 d2_9 d2_10 z2
    have s3 : w2.heap.size ≤ w3.heap.size := (by have h := hb3.size; first | omega | (simp at h; omega))
    obtain ⟨c0_0, c0_1, c0_2, c0_3, c0_4, d0_0, d0_1, d0_2, d0_3, d0_4⟩ := cells5 B0_3
    have z0 : w.heap.size < w3.heap.size := B0_3.lt
    obtain ⟨c1_0, c1_1, c1_2, c1_3, c1_4, d1_0, d1_1, d1_2, d1_3, d1_4⟩ := cells5 B1_3
    have z1 : w.heap.size + 1 < w3.heap.size := B1_3.lt
    obtain ⟨⟨c2_0, c2_1, c2_2, c2_3, c2_4, c2_5, c2_6, c2_7, c2_8, c2_9, c2_10⟩, d2_0, d2_1, d2_2, d2_3, d2_4, d2_5, d2_6, d2_7, d2_8, d2_9, d2_10⟩ := cells11 B2_3
    have z2 : w1.heap.size < w3.heap.size := B2_3.lt
    go_wp2
    exact bodyPost_ret (ret_cell (cs := #[.slice r1 (backS (memS s m1) id 0 0).M.W.length r2, .slice r3 (backS (memS s m1) id 0 0).M.G.length r4, .bool (backS (memS s m1) id 0 0).M.bad, .slice r5 (backS (memS s m1) id 0 0).C.length r6, .slice r7 (backS (memS s m1) id 0 0).L.length r8]) (((((B1_3.setCell _).setCell _).setCell _).setCell _).setCell _) Proofs.Try.results101 rfl Proofs.Try.underlying83 rfl (by kernel_rfl)) rfl ⟨_, rfl, exn, IsSys.less (IsSys.keep hu3 keq) (fun _ _ hn => .inl hn)⟩
set_option maxHeartbeats 1000000 in
set_option maxRecDepth 100000 in
theorem refStep5_none (N : Nat → Prop) (s : SysD) (id  : Int) (aw ag ac al : Option Addr) (cw cg cc cl : Nat) (w : World) (hw : IsInts N w (.slice aw s.M.W.length cw) s.M.W) (hg : IsInts N w (.slice ag s.M.G.length cg) s.M.G) (hc : IsCores N w (.slice ac s.C.length cc) s.C) (hl : IsEvs N w (.slice al s.L.length cl) s.L)
    (hN : ∀ b, N b → b < w.heap.size) (hC : s.C.length ≤ 100000) (hFm : ∀ (i : Nat) c, s.C[i]? = some c → c.F.length ≤ 100000) (hfit : Fits s.M) (ht : topD s id = none)  :
    Gives Proofs.Try.prog 102 #[.agg #[.slice aw s.M.W.length cw, .slice ag s.M.G.length cg, .bool s.M.bad, .slice ac s.C.length cc, .slice al s.L.length cl], .int .i64 id] w (fun r w' => IsSys N w' r (s)) := by
  have hwB := hw.bxn (hi := w.heap.size + 2)
  have hgB := hg.bxn (hi := w.heap.size + 2)
  have hcB := hc.bxn (hi := w.heap.size + 2)
  have hlB := hl.bxn (hi := w.heap.size + 2)
  have h : IsSys N w (.agg #[.slice aw s.M.W.length cw, .slice ag s.M.G.length cg, .bool s.M.bad, .slice ac s.C.length cc, .slice al s.L.length cl]) s := IsSys.mk rfl hw hg hc hl
  have kt : ∀ w' : World, Ext w w' → Gives Proofs.Try.prog 82 #[.agg #[.slice aw s.M.W.length cw, .slice ag s.M.G.length cg, .bool s.M.bad, .slice ac s.C.length cc, .slice al s.L.length cl], .int .i64 id] w' (fun r w' => ∃ u, r = .tuple #[u, .bool (topD s id).isSome] ∧ IsFrame (Bx N w.heap.size (w.heap.size + 2)) w' u (topF s id)) := fun w' e => refTop_ (Bx N w.heap.size (w.heap.size + 2)) _ s id w' ((IsSys.bxn h).ext e)
  rw [show (topD s id).isSome = false by rw [ht]; rfl] at kt
  obtain ⟨tf, htf⟩ : ∃ f, topF s id = f := ⟨_, rfl⟩
  rw [htf] at kt
  clear htf
  clear ht h
  go_enter Proofs.Try.func102, Proofs.Try.ntmps102
  go_wp2_with (fail)
  go_at_call 82
  refine (kt _ exq).calls.mono ?_
  rintro e w1 ⟨_, rfl, hb1, u, rfl, hu1⟩
  obtain ⟨fa, fc, rfl, f8, fs1⟩ := hu1.opened
  have B0_1 : Box w1 (w.heap.size) #[.slice aw s.M.W.length cw, .slice ag s.M.G.length cg, .bool s.M.bad, .slice ac s.C.length cc, .slice al s.L.length cl] 83 := ((Box.newAt _ _ _ (by first | rfl | simp)).alloc _).ext hb1
  have B1_1 : Box w1 (w.heap.size + 1) #[.slice none 0 0, .slice none 0 0, .bool false, .slice none 0 0, .slice none 0 0] 83 := (Box.newAt _ _ _ (by first | rfl | simp)).ext hb1
  have s1 : w.heap.size + 2 ≤ w1.heap.size := (by have h := hb1.size; first | omega | (simp at h; omega))
  obtain ⟨c0_0, c0_1, c0_2, c0_3, c0_4, d0_0, d0_1, d0_2, d0_3, d0_4⟩ := cells5 B0_1
  have z0 : w.heap.size < w1.heap.size := B0_1.lt
  obtain ⟨c1_0, c1_1, c1_2, c1_3, c1_4, d1_0, d1_1, d1_2, d1_3, d1_4⟩ := cells5 B1_1
  have z1 : w.heap.size + 1 < w1.heap.size := B1_1.lt
  go_wp2
  exact bodyPost_ret (ret_cell (cs := #[.slice aw s.M.W.length cw, .slice ag s.M.G.length cg, .bool s.M.bad, .slice ac s.C.length cc, .slice al s.L.length cl]) ((((((B1_1.setCell _).setCell _).setCell _).setCell _).setCell _).alloc _) Proofs.Try.results102 rfl Proofs.Try.underlying83 rfl (by kernel_rfl)) rfl ⟨_, rfl, exn, IsSys.mk rfl (hw.ext exn) (hg.ext exn) (IsCores.keep hc (show Ext w _ from exn).keep) (IsEvs.keep hl (show Ext w _ from exn).keep)⟩
set_option maxHeartbeats 1000000 in
set_option maxRecDepth 100000 in
theorem refStep5_p (N : Nat → Prop) (s : SysD) (id pc q0 q1 q2 q3 q4 q5 q6 q7 : Int) (fS : List Int) (aw ag ac al : Option Addr) (cw cg cc cl : Nat) (w : World) (hw : IsInts N w (.slice aw s.M.W.length cw) s.M.W) (hg : IsInts N w (.slice ag s.M.G.length cg) s.M.G) (hc : IsCores N w (.slice ac s.C.length cc) s.C) (hl : IsEvs N w (.slice al s.L.length cl) s.L)
    (hN : ∀ b, N b → b < w.heap.size) (hC : s.C.length ≤ 100000) (hFm : ∀ (i : Nat) c, s.C[i]? = some c → c.F.length ≤ 100000) (hfit : Fits s.M) (hid0 : 0 ≤ id) (hid1 : id ≤ 100) (ht : topD s id = some ⟨3, pc, [q0, q1, q2, q3, q4, q5, q6, q7], fS⟩) (hlo : -9223372036854775808 ≤ q0) (hhi : q0 ≤ 9223372036854775807) :
    Gives Proofs.Try.prog 102 #[.agg #[.slice aw s.M.W.length cw, .slice ag s.M.G.length cg, .bool s.M.bad, .slice ac s.C.length cc, .slice al s.L.length cl], .int .i64 id] w (fun r w' => IsSys N w' r (protS s id ⟨3, pc, [q0, q1, q2, q3, q4, q5, q6, q7], fS⟩)) := by
  have hwB := hw.bxn (hi := w.heap.size + 2)
  have hgB := hg.bxn (hi := w.heap.size + 2)
  have hcB := hc.bxn (hi := w.heap.size + 2)
  have hlB := hl.bxn (hi := w.heap.size + 2)
  have h : IsSys N w (.agg #[.slice aw s.M.W.length cw, .slice ag s.M.G.length cg, .bool s.M.bad, .slice ac s.C.length cc, .slice al s.L.length cl]) s := IsSys.mk rfl hw hg hc hl
  have kt : ∀ w' : World, Ext w w' → Gives Proofs.Try.prog 82 #[.agg #[.slice aw s.M.W.length cw, .slice ag s.M.G.length cg, .bool s.M.bad, .slice ac s.C.length cc, .slice al s.L.length cl], .int .i64 id] w' (fun r w' => ∃ u, r = .tuple #[u, .bool (topD s id).isSome] ∧ IsFrame (Bx N w.heap.size (w.heap.size + 2)) w' u (topF s id)) := fun w' e => refTop_ (Bx N w.heap.size (w.heap.size + 2)) _ s id w' ((IsSys.bxn h).ext e)
  rw [show (topD s id).isSome = true by rw [ht]; rfl] at kt
  rw [show topF s id = ⟨3, pc, [q0, q1, q2, q3, q4, q5, q6, q7], fS⟩ by unfold topF; rw [ht]; rfl] at kt
  clear ht h
  go_enter Proofs.Try.func102, Proofs.Try.ntmps102
  go_wp2_with (fail)
  go_at_call 82
  refine (kt _ exq).calls.mono ?_
  rintro e w1 ⟨_, rfl, hb1, u, rfl, hu1⟩
  obtain ⟨ga, gc, rfl, fs1⟩ := IsFrame.litv hu1
  have B0_1 : Box w1 (w.heap.size) #[.slice aw s.M.W.length cw, .slice ag s.M.G.length cg, .bool s.M.bad, .slice ac s.C.length cc, .slice al s.L.length cl] 83 := ((Box.newAt _ _ _ (by first | rfl | simp)).alloc _).ext hb1
  have B1_1 : Box w1 (w.heap.size + 1) #[.slice none 0 0, .slice none 0 0, .bool false, .slice none 0 0, .slice none 0 0] 83 := (Box.newAt _ _ _ (by first | rfl | simp)).ext hb1
  have s1 : w.heap.size + 2 ≤ w1.heap.size := (by have h := hb1.size; first | omega | (simp at h; omega))
  obtain ⟨c0_0, c0_1, c0_2, c0_3, c0_4, d0_0, d0_1, d0_2, d0_3, d0_4⟩ := cells5 B0_1
  have z0 : w.heap.size < w1.heap.size := B0_1.lt
  obtain ⟨c1_0, c1_1, c1_2, c1_3, c1_4, d1_0, d1_1, d1_2, d1_3, d1_4⟩ := cells5 B1_1
  have z1 : w.heap.size + 1 < w1.heap.size := B1_1.lt
  go_wp2_with (fail)
  go_at_call 150
  refine (refProt_ (Bx N w.heap.size (w.heap.size + 2)) _ _ s id ⟨3, pc, [q0, q1, q2, q3, q4, q5, q6, q7], fS⟩ _ (IsSys.mk rfl (IsInts.keep hwB keq) (IsInts.keep hgB keq) (IsCores.keep hcB keq) (IsEvs.keep hlB keq) : IsSys (Bx N w.heap.size (w.heap.size + 2)) _ _ s) (IsFrame.ofLit (IsInts.keep fs1 keq)) (Bx.le hN (by first | omega | (simp <;> omega))) hC hFm hfit hid0 hid1 hlo hhi).calls.mono ?_
  rintro e w2 ⟨_, rfl, hb2, hu2⟩
  obtain ⟨r1, r2, r3, r4, r5, r6, r7, r8, rfl, rW, rG, rC, rL⟩ := hu2.opened
  have B0_2 : Box w2 (w.heap.size) #[.slice aw s.M.W.length cw, .slice ag s.M.G.length cg, .bool s.M.bad, .slice ac s.C.length cc, .slice al s.L.length cl] 83 := (B0_1.alloc _).ext hb2
  have B1_2 : Box w2 (w.heap.size + 1) #[.slice none 0 0, .slice none 0 0, .bool false, .slice none 0 0, .slice none 0 0] 83 := (B1_1.alloc _).ext hb2
  have B2_2 : Box w2 (w1.heap.size) #[.int .i64 3, .int .i64 pc, .int .i64 q0, .int .i64 q1, .int .i64 q2, .int .i64 q3, .int .i64 q4, .int .i64 q5, .int .i64 q6, .int .i64 q7, .slice ga fS.length gc] 95 := (Box.newAt _ _ _ (by first | rfl | simp)).ext hb2
  clear c0_0 c0_1 c0_2 c0_3 c0_4 d0_0 d0_1 d0_2 d0_3 d0_4 z0 c1_0 c1_1 c1_2 c1_3 c1_4 d1_0 d1_1 d1_2 d1_3 d1_4 z1
  have s2 : w1.heap.size + 1 ≤ w2.heap.size := (by have h := hb2.size; first | omega | (simp at h; omega))
  obtain ⟨c0_0, c0_1, c0_2, c0_3, c0_4, d0_0, d0_1, d0_2, d0_3, d0_4⟩ := cells5 B0_2
  have z0 : w.heap.size < w2.heap.size := B0_2.lt
  obtain ⟨c1_0, c1_1, c1_2, c1_3, c1_4, d1_0, d1_1, d1_2, d1_3, d1_4⟩ := cells5 B1_2
  have z1 : w.heap.size + 1 < w2.heap.size := B1_2.lt
  obtain ⟨⟨c2_0, c2_1, c2_2, c2_3, c2_4, c2_5, c2_6, c2_7, c2_8, c2_9, c2_10⟩, d2_0, d2_1, d2_2, d2_3, d2_4, d2_5, d2_6, d2_7, d2_8, d2_9, d2_10⟩ := cells11 B2_2
  have z2 : w1.heap.size < w2.heap.size := B2_2.lt
  go_wp2
  exact bodyPost_ret (ret_cell (cs := #[.slice r1 (protS s id ⟨3, pc, [q0, q1, q2, q3, q4, q5, q6, q7], fS⟩).M.W.length r2, .slice r3 (protS s id ⟨3, pc, [q0, q1, q2, q3, q4, q5, q6, q7], fS⟩).M.G.length r4, .bool (protS s id ⟨3, pc, [q0, q1, q2, q3, q4, q5, q6, q7], fS⟩).M.bad, .slice r5 (protS s id ⟨3, pc, [q0, q1, q2, q3, q4, q5, q6, q7], fS⟩).C.length r6, .slice r7 (protS s id ⟨3, pc, [q0, q1, q2, q3, q4, q5, q6, q7], fS⟩).L.length r8]) (((((B1_2.setCell _).setCell _).setCell _).setCell _).setCell _) Proofs.Try.results102 rfl Proofs.Try.underlying83 rfl (by kernel_rfl)) rfl ⟨_, rfl, exn, IsSys.less (IsSys.keep hu2 keq) (fun _ _ hn => .inl hn)⟩
set_option maxHeartbeats 1000000 in
set_option maxRecDepth 100000 in
theorem refStep5_x (N : Nat → Prop) (s : SysD) (id op pc q0 q1 q2 q3 q4 q5 q6 q7 : Int) (fS : List Int) (aw ag ac al : Option Addr) (cw cg cc cl : Nat) (w : World) (hw : IsInts N w (.slice aw s.M.W.length cw) s.M.W) (hg : IsInts N w (.slice ag s.M.G.length cg) s.M.G) (hc : IsCores N w (.slice ac s.C.length cc) s.C) (hl : IsEvs N w (.slice al s.L.length cl) s.L)
    (hN : ∀ b, N b → b < w.heap.size) (hC : s.C.length ≤ 100000) (hFm : ∀ (i : Nat) c, s.C[i]? = some c → c.F.length ≤ 100000) (hfit : Fits s.M) (hid0 : 0 ≤ id) (hid1 : id ≤ 100) (ht : topD s id = some ⟨op, pc, [q0, q1, q2, q3, q4, q5, q6, q7], fS⟩) (o3 : (op == 3) = false) (o4 : (op == 4) = false) (o5 : (op != 4) = true) :
    Gives Proofs.Try.prog 102 #[.agg #[.slice aw s.M.W.length cw, .slice ag s.M.G.length cg, .bool s.M.bad, .slice ac s.C.length cc, .slice al s.L.length cl], .int .i64 id] w (fun r w' => IsSys N w' r (s)) := by
  have hwB := hw.bxn (hi := w.heap.size + 2)
  have hgB := hg.bxn (hi := w.heap.size + 2)
  have hcB := hc.bxn (hi := w.heap.size + 2)
  have hlB := hl.bxn (hi := w.heap.size + 2)
  have h : IsSys N w (.agg #[.slice aw s.M.W.length cw, .slice ag s.M.G.length cg, .bool s.M.bad, .slice ac s.C.length cc, .slice al s.L.length cl]) s := IsSys.mk rfl hw hg hc hl
  have kt : ∀ w' : World, Ext w w' → Gives Proofs.Try.prog 82 #[.agg #[.slice aw s.M.W.length cw, .slice ag s.M.G.length cg, .bool s.M.bad, .slice ac s.C.length cc, .slice al s.L.length cl], .int .i64 id] w' (fun r w' => ∃ u, r = .tuple #[u, .bool (topD s id).isSome] ∧ IsFrame (Bx N w.heap.size (w.heap.size + 2)) w' u (topF s id)) := fun w' e => refTop_ (Bx N w.heap.size (w.heap.size + 2)) _ s id w' ((IsSys.bxn h).ext e)
  rw [show (topD s id).isSome = true by rw [ht]; rfl] at kt
  rw [show topF s id = ⟨op, pc, [q0, q1, q2, q3, q4, q5, q6, q7], fS⟩ by unfold topF; rw [ht]; rfl] at kt
  clear ht h
  go_enter Proofs.Try.func102, Proofs.Try.ntmps102
  go_wp2_with (fail)
  go_at_call 82
  refine (kt _ exq).calls.mono ?_
  rintro e w1 ⟨_, rfl, hb1, u, rfl, hu1⟩
  obtain ⟨ga, gc, rfl, fs1⟩ := IsFrame.litv hu1
  have B0_1 : Box w1 (w.heap.size) #[.slice aw s.M.W.length cw, .slice ag s.M.G.length cg, .bool s.M.bad, .slice ac s.C.length cc, .slice al s.L.length cl] 83 := ((Box.newAt _ _ _ (by first | rfl | simp)).alloc _).ext hb1
  have B1_1 : Box w1 (w.heap.size + 1) #[.slice none 0 0, .slice none 0 0, .bool false, .slice none 0 0, .slice none 0 0] 83 := (Box.newAt _ _ _ (by first | rfl | simp)).ext hb1
  have s1 : w.heap.size + 2 ≤ w1.heap.size := (by have h := hb1.size; first | omega | (simp at h; omega))
  obtain ⟨c0_0, c0_1, c0_2, c0_3, c0_4, d0_0, d0_1, d0_2, d0_3, d0_4⟩ := cells5 B0_1
  have z0 : w.heap.size < w1.heap.size := B0_1.lt
  obtain ⟨c1_0, c1_1, c1_2, c1_3, c1_4, d1_0, d1_1, d1_2, d1_3, d1_4⟩ := cells5 B1_1
  have z1 : w.heap.size + 1 < w1.heap.size := B1_1.lt
  go_wp2
  exact bodyPost_ret (ret_cell (cs := #[.slice aw s.M.W.length cw, .slice ag s.M.G.length cg, .bool s.M.bad, .slice ac s.C.length cc, .slice al s.L.length cl]) ((((((B1_1.setCell _).setCell _).setCell _).setCell _).setCell _).alloc _) Proofs.Try.results102 rfl Proofs.Try.underlying83 rfl (by kernel_rfl)) rfl ⟨_, rfl, exn, IsSys.mk rfl (hw.ext exn) (hg.ext exn) (IsCores.keep hc (show Ext w _ from exn).keep) (IsEvs.keep hl (show Ext w _ from exn).keep)⟩
set_option maxHeartbeats 1000000 in
set_option maxRecDepth 100000 in
theorem refStep5_y (N : Nat → Prop) (s : SysD) (id pc q0 q1 q2 q3 q4 q5 q6 q7 : Int) (fS : List Int) (aw ag ac al : Option Addr) (cw cg cc cl : Nat) (w : World) (hw : IsInts N w (.slice aw s.M.W.length cw) s.M.W) (hg : IsInts N w (.slice ag s.M.G.length cg) s.M.G) (hc : IsCores N w (.slice ac s.C.length cc) s.C) (hl : IsEvs N w (.slice al s.L.length cl) s.L)
    (hN : ∀ b, N b → b < w.heap.size) (hC : s.C.length ≤ 100000) (hFm : ∀ (i : Nat) c, s.C[i]? = some c → c.F.length ≤ 100000) (hfit : Fits s.M) (hid0 : 0 ≤ id) (hid1 : id ≤ 100) (ht : topD s id = some ⟨4, pc, [q0, q1, q2, q3, q4, q5, q6, q7], fS⟩) (p0 : pc < 0) (p1 : ¬ 0 ≤ pc) :
    Gives Proofs.Try.prog 102 #[.agg #[.slice aw s.M.W.length cw, .slice ag s.M.G.length cg, .bool s.M.bad, .slice ac s.C.length cc, .slice al s.L.length cl], .int .i64 id] w (fun r w' => IsSys N w' r (s)) := by
  have hwB := hw.bxn (hi := w.heap.size + 2)
  have hgB := hg.bxn (hi := w.heap.size + 2)
  have hcB := hc.bxn (hi := w.heap.size + 2)
  have hlB := hl.bxn (hi := w.heap.size + 2)
  have h : IsSys N w (.agg #[.slice aw s.M.W.length cw, .slice ag s.M.G.length cg, .bool s.M.bad, .slice ac s.C.length cc, .slice al s.L.length cl]) s := IsSys.mk rfl hw hg hc hl
  have kt : ∀ w' : World, Ext w w' → Gives Proofs.Try.prog 82 #[.agg #[.slice aw s.M.W.length cw, .slice ag s.M.G.length cg, .bool s.M.bad, .slice ac s.C.length cc, .slice al s.L.length cl], .int .i64 id] w' (fun r w' => ∃ u, r = .tuple #[u, .bool (topD s id).isSome] ∧ IsFrame (Bx N w.heap.size (w.heap.size + 2)) w' u (topF s id)) := fun w' e => refTop_ (Bx N w.heap.size (w.heap.size + 2)) _ s id w' ((IsSys.bxn h).ext e)
  rw [show (topD s id).isSome = true by rw [ht]; rfl] at kt
  rw [show topF s id = ⟨4, pc, [q0, q1, q2, q3, q4, q5, q6, q7], fS⟩ by unfold topF; rw [ht]; rfl] at kt
  clear ht h
  go_enter Proofs.Try.func102, Proofs.Try.ntmps102
  go_wp2_with (fail)
  go_at_call 82
  refine (kt _ exq).calls.mono ?_
  rintro e w1 ⟨_, rfl, hb1, u, rfl, hu1⟩
  obtain ⟨ga, gc, rfl, fs1⟩ := IsFrame.litv hu1
  have B0_1 : Box w1 (w.heap.size) #[.slice aw s.M.W.length cw, .slice ag s.M.G.length cg, .bool s.M.bad, .slice ac s.C.length cc, .slice al s.L.length cl] 83 := ((Box.newAt _ _ _ (by first | rfl | simp)).alloc _).ext hb1
  have B1_1 : Box w1 (w.heap.size + 1) #[.slice none 0 0, .slice none 0 0, .bool false, .slice none 0 0, .slice none 0 0] 83 := (Box.newAt _ _ _ (by first | rfl | simp)).ext hb1
  have s1 : w.heap.size + 2 ≤ w1.heap.size := (by have h := hb1.size; first | omega | (simp at h; omega))
  obtain ⟨c0_0, c0_1, c0_2, c0_3, c0_4, d0_0, d0_1, d0_2, d0_3, d0_4⟩ := cells5 B0_1
  have z0 : w.heap.size < w1.heap.size := B0_1.lt
  obtain ⟨c1_0, c1_1, c1_2, c1_3, c1_4, d1_0, d1_1, d1_2, d1_3, d1_4⟩ := cells5 B1_1
  have z1 : w.heap.size + 1 < w1.heap.size := B1_1.lt
  go_wp2
  exact bodyPost_ret (ret_cell (cs := #[.slice aw s.M.W.length cw, .slice ag s.M.G.length cg, .bool s.M.bad, .slice ac s.C.length cc, .slice al s.L.length cl]) ((((((B1_1.setCell _).setCell _).setCell _).setCell _).setCell _).alloc _) Proofs.Try.results102 rfl Proofs.Try.underlying83 rfl (by kernel_rfl)) rfl ⟨_, rfl, exn, IsSys.mk rfl (hw.ext exn) (hg.ext exn) (IsCores.keep hc (show Ext w _ from exn).keep) (IsEvs.keep hl (show Ext w _ from exn).keep)⟩
set_option maxHeartbeats 1000000 in
set_option maxRecDepth 100000 in
theorem refStep5_z (N : Nat → Prop) (s : SysD) (id pc q0 q1 q2 q3 q4 q5 q6 q7 : Int) (fS : List Int) (aw ag ac al : Option Addr) (cw cg cc cl : Nat) (w : World) (hw : IsInts N w (.slice aw s.M.W.length cw) s.M.W) (hg : IsInts N w (.slice ag s.M.G.length cg) s.M.G) (hc : IsCores N w (.slice ac s.C.length cc) s.C) (hl : IsEvs N w (.slice al s.L.length cl) s.L)
    (hN : ∀ b, N b → b < w.heap.size) (hC : s.C.length ≤ 100000) (hFm : ∀ (i : Nat) c, s.C[i]? = some c → c.F.length ≤ 100000) (hfit : Fits s.M) (hid0 : 0 ≤ id) (hid1 : id ≤ 100) (ht : topD s id = some ⟨4, pc, [q0, q1, q2, q3, q4, q5, q6, q7], fS⟩) (p0 : ¬ pc < 0) (p1 : 0 ≤ pc) (p2 : ¬ pc < 3) (p3 : 2 < pc) (p4 : 3 ≤ pc) :
    Gives Proofs.Try.prog 102 #[.agg #[.slice aw s.M.W.length cw, .slice ag s.M.G.length cg, .bool s.M.bad, .slice ac s.C.length cc, .slice al s.L.length cl], .int .i64 id] w (fun r w' => IsSys N w' r (s)) := by
  have hwB := hw.bxn (hi := w.heap.size + 2)
  have hgB := hg.bxn (hi := w.heap.size + 2)
  have hcB := hc.bxn (hi := w.heap.size + 2)
  have hlB := hl.bxn (hi := w.heap.size + 2)
  have h : IsSys N w (.agg #[.slice aw s.M.W.length cw, .slice ag s.M.G.length cg, .bool s.M.bad, .slice ac s.C.length cc, .slice al s.L.length cl]) s := IsSys.mk rfl hw hg hc hl
  have kt : ∀ w' : World, Ext w w' → Gives Proofs.Try.prog 82 #[.agg #[.slice aw s.M.W.length cw, .slice ag s.M.G.length cg, .bool s.M.bad, .slice ac s.C.length cc, .slice al s.L.length cl], .int .i64 id] w' (fun r w' => ∃ u, r = .tuple #[u, .bool (topD s id).isSome] ∧ IsFrame (Bx N w.heap.size (w.heap.size + 2)) w' u (topF s id)) := fun w' e => refTop_ (Bx N w.heap.size (w.heap.size + 2)) _ s id w' ((IsSys.bxn h).ext e)
  rw [show (topD s id).isSome = true by rw [ht]; rfl] at kt
  rw [show topF s id = ⟨4, pc, [q0, q1, q2, q3, q4, q5, q6, q7], fS⟩ by unfold topF; rw [ht]; rfl] at kt
  clear ht h
  go_enter Proofs.Try.func102, Proofs.Try.ntmps102
  go_wp2_with (fail)
  go_at_call 82
  refine (kt _ exq).calls.mono ?_
  rintro e w1 ⟨_, rfl, hb1, u, rfl, hu1⟩
  obtain ⟨ga, gc, rfl, fs1⟩ := IsFrame.litv hu1
  have B0_1 : Box w1 (w.heap.size) #[.slice aw s.M.W.length cw, .slice ag s.M.G.length cg, .bool s.M.bad, .slice ac s.C.length cc, .slice al s.L.length cl] 83 := ((Box.newAt _ _ _ (by first | rfl | simp)).alloc _).ext hb1
  have B1_1 : Box w1 (w.heap.size + 1) #[.slice none 0 0, .slice none 0 0, .bool false, .slice none 0 0, .slice none 0 0] 83 := (Box.newAt _ _ _ (by first | rfl | simp)).ext hb1
  have s1 : w.heap.size + 2 ≤ w1.heap.size := (by have h := hb1.size; first | omega | (simp at h; omega))
  obtain ⟨c0_0, c0_1, c0_2, c0_3, c0_4, d0_0, d0_1, d0_2, d0_3, d0_4⟩ := cells5 B0_1
  have z0 : w.heap.size < w1.heap.size := B0_1.lt
  obtain ⟨c1_0, c1_1, c1_2, c1_3, c1_4, d1_0, d1_1, d1_2, d1_3, d1_4⟩ := cells5 B1_1
  have z1 : w.heap.size + 1 < w1.heap.size := B1_1.lt
  go_wp2
  exact bodyPost_ret (ret_cell (cs := #[.slice aw s.M.W.length cw, .slice ag s.M.G.length cg, .bool s.M.bad, .slice ac s.C.length cc, .slice al s.L.length cl]) ((((((B1_1.setCell _).setCell _).setCell _).setCell _).setCell _).alloc _) Proofs.Try.results102 rfl Proofs.Try.underlying83 rfl (by kernel_rfl)) rfl ⟨_, rfl, exn, IsSys.mk rfl (hw.ext exn) (hg.ext exn) (IsCores.keep hc (show Ext w _ from exn).keep) (IsEvs.keep hl (show Ext w _ from exn).keep)⟩
set_option maxHeartbeats 1000000 in
set_option maxRecDepth 100000 in
theorem refStep5_c0 (N : Nat → Prop) (s : SysD) (id q0 q1 q2 q3 q4 q5 q6 q7 : Int) (fS : List Int) (aw ag ac al : Option Addr) (cw cg cc cl : Nat) (w : World) (hw : IsInts N w (.slice aw s.M.W.length cw) s.M.W) (hg : IsInts N w (.slice ag s.M.G.length cg) s.M.G) (hc : IsCores N w (.slice ac s.C.length cc) s.C) (hl : IsEvs N w (.slice al s.L.length cl) s.L)
    (hN : ∀ b, N b → b < w.heap.size) (hC : s.C.length ≤ 100000) (hFm : ∀ (i : Nat) c, s.C[i]? = some c → c.F.length ≤ 100000) (hfit : Fits s.M) (hid0 : 0 ≤ id) (hid1 : id ≤ 100) (ht : topD s id = some ⟨4, 0, [q0, q1, q2, q3, q4, q5, q6, q7], fS⟩)  :
    Gives Proofs.Try.prog 102 #[.agg #[.slice aw s.M.W.length cw, .slice ag s.M.G.length cg, .bool s.M.bad, .slice ac s.C.length cc, .slice al s.L.length cl], .int .i64 id] w (fun r w' => IsSys N w' r (onS s id (storeD s.M (placeD id 0) 0) ⟨4, 0, [q0, q1, q2, q3, q4, q5, q6, q7], fS⟩ 1)) := by
  have hwB := hw.bxn (hi := w.heap.size + 2)
  have hgB := hg.bxn (hi := w.heap.size + 2)
  have hcB := hc.bxn (hi := w.heap.size + 2)
  have hlB := hl.bxn (hi := w.heap.size + 2)
  have h : IsSys N w (.agg #[.slice aw s.M.W.length cw, .slice ag s.M.G.length cg, .bool s.M.bad, .slice ac s.C.length cc, .slice al s.L.length cl]) s := IsSys.mk rfl hw hg hc hl
  have kt : ∀ w' : World, Ext w w' → Gives Proofs.Try.prog 82 #[.agg #[.slice aw s.M.W.length cw, .slice ag s.M.G.length cg, .bool s.M.bad, .slice ac s.C.length cc, .slice al s.L.length cl], .int .i64 id] w' (fun r w' => ∃ u, r = .tuple #[u, .bool (topD s id).isSome] ∧ IsFrame (Bx N w.heap.size (w.heap.size + 2)) w' u (topF s id)) := fun w' e => refTop_ (Bx N w.heap.size (w.heap.size + 2)) _ s id w' ((IsSys.bxn h).ext e)
  rw [show (topD s id).isSome = true by rw [ht]; rfl] at kt
  rw [show topF s id = ⟨4, 0, [q0, q1, q2, q3, q4, q5, q6, q7], fS⟩ by unfold topF; rw [ht]; rfl] at kt
  obtain ⟨m1, hm1⟩ : ∃ m, storeD s.M (placeD id 0) 0 = m := ⟨_, rfl⟩
  have ks : ∀ (w' : World) (va : Value), IsMem (Bx N w.heap.size (w.heap.size + 2)) w' va s.M → w.heap.size + 2 ≤ w'.heap.size → Gives Proofs.Try.prog 69 #[va, .int .i64 (placeD id 0), .int .i64 0] w' (fun r w' => IsMem (Bx N w.heap.size (w.heap.size + 2)) w' r m1) := fun w' va hm hsz => by
    have := refStore_ (Bx N w.heap.size (w.heap.size + 2)) va s.M (placeD id 0) 0 w' hm hfit (Bx.le hN hsz)
    rw [hm1] at this; exact this
  rw [hm1]
  clear hm1
  clear ht h
  go_enter Proofs.Try.func102, Proofs.Try.ntmps102
  go_wp2_with (fail)
  go_at_call 82
  refine (kt _ exq).calls.mono ?_
  rintro e w1 ⟨_, rfl, hb1, u, rfl, hu1⟩
  obtain ⟨ga, gc, rfl, fs1⟩ := IsFrame.litv hu1
  have B0_1 : Box w1 (w.heap.size) #[.slice aw s.M.W.length cw, .slice ag s.M.G.length cg, .bool s.M.bad, .slice ac s.C.length cc, .slice al s.L.length cl] 83 := ((Box.newAt _ _ _ (by first | rfl | simp)).alloc _).ext hb1
  have B1_1 : Box w1 (w.heap.size + 1) #[.slice none 0 0, .slice none 0 0, .bool false, .slice none 0 0, .slice none 0 0] 83 := (Box.newAt _ _ _ (by first | rfl | simp)).ext hb1
  have s1 : w.heap.size + 2 ≤ w1.heap.size := (by have h := hb1.size; first | omega | (simp at h; omega))
  obtain ⟨c0_0, c0_1, c0_2, c0_3, c0_4, d0_0, d0_1, d0_2, d0_3, d0_4⟩ := cells5 B0_1
  have z0 : w.heap.size < w1.heap.size := B0_1.lt
  obtain ⟨c1_0, c1_1, c1_2, c1_3, c1_4, d1_0, d1_1, d1_2, d1_3, d1_4⟩ := cells5 B1_1
  have z1 : w.heap.size + 1 < w1.heap.size := B1_1.lt
  go_wp2_with (fail)
  obtain ⟨W6, hW⟩ : ∃ W, W = (w1.alloc (.cells #[.int .i64 4, .int .i64 0, .int .i64 q0, .int .i64 q1, .int .i64 q2, .int .i64 q3, .int .i64 q4, .int .i64 q5, .int .i64 q6, .int .i64 q7, .slice ga fS.length gc] 95 (0, 0))) := ⟨_, rfl⟩
  have hX6 : Ext w W6 := by rw [hW]; exact exn
  have hK6 : Keep (Bx N w.heap.size (w.heap.size + 2)) w1 W6 := by rw [hW]; exact keq
  have D0_6 : Box (w1.alloc (.cells #[.int .i64 4, .int .i64 0, .int .i64 q0, .int .i64 q1, .int .i64 q2, .int .i64 q3, .int .i64 q4, .int .i64 q5, .int .i64 q6, .int .i64 q7, .slice ga fS.length gc] 95 (0, 0))) (w.heap.size) #[.slice aw s.M.W.length cw, .slice ag s.M.G.length cg, .bool s.M.bad, .slice ac s.C.length cc, .slice al s.L.length cl] 83 := (B0_1.alloc _)
  rw [← hW] at D0_6
  have D1_6 : Box (w1.alloc (.cells #[.int .i64 4, .int .i64 0, .int .i64 q0, .int .i64 q1, .int .i64 q2, .int .i64 q3, .int .i64 q4, .int .i64 q5, .int .i64 q6, .int .i64 q7, .slice ga fS.length gc] 95 (0, 0))) (w.heap.size + 1) #[.slice none 0 0, .slice none 0 0, .bool false, .slice none 0 0, .slice none 0 0] 83 := (B1_1.alloc _)
  rw [← hW] at D1_6
  have D2_6 : Box (w1.alloc (.cells #[.int .i64 4, .int .i64 0, .int .i64 q0, .int .i64 q1, .int .i64 q2, .int .i64 q3, .int .i64 q4, .int .i64 q5, .int .i64 q6, .int .i64 q7, .slice ga fS.length gc] 95 (0, 0))) (w1.heap.size) #[.int .i64 4, .int .i64 0, .int .i64 q0, .int .i64 q1, .int .i64 q2, .int .i64 q3, .int .i64 q4, .int .i64 q5, .int .i64 q6, .int .i64 q7, .slice ga fS.length gc] 95 := (Box.newAt _ _ _ (by first | rfl | simp))
  rw [← hW] at D2_6
  have y6 : w1.heap.size + 1 ≤ W6.heap.size := by rw [hW]; simp
  rw [← hW]
  clear hW
  have aM : IsMem (Bx N w.heap.size (w.heap.size + 2)) W6 (.agg #[.slice aw s.M.W.length cw, .slice ag s.M.G.length cg, .bool s.M.bad]) s.M := (IsMem.mk rfl hwB hgB : IsMem (Bx N w.heap.size (w.heap.size + 2)) w _ s.M).keep ((Keep.refl _ _).ext hX6)
  clear c0_0 c0_1 c0_2 c0_3 c0_4 d0_0 d0_1 d0_2 d0_3 d0_4 z0 c1_0 c1_1 c1_2 c1_3 c1_4 d1_0 d1_1 d1_2 d1_3 d1_4 z1
  apply region_lit2 (T := [8]) (L := []) (X := []) (G := [eqv _, eqv _, eqv _, eqv _, eqv _, eqv _, isMemN (Bx N w.heap.size (w.heap.size + 2)) m1, isNew W6.heap.size #[.slice none 0 0, .slice none 0 0, .bool false] 50, anyG])
  case hm => kernel_rfl
  case hop =>
    refine ⟨?_, ?_, ?_, ?_, ?_, ?_, ?_, ?_, ?_, trivial⟩
    · intro a wa hs hf hd
      have t2 := hf.off 2 (by kernel_rfl) rfl
      exact plain_ rfl (yes_eqv (o_fieldAddr rfl Proofs.Try.underlying83 rfl rfl (by kernel_rfl) t2) rfl)
    · intro a wa hs hf hd
      have t42 : a.eval (.tmp 42) = _ := hd.at 0 42 (by kernel_rfl)
      exact plain_ rfl (yes_eqv (o_load3 rfl Proofs.Try.underlying50 rfl (by kernel_rfl) t42 ((D0_6.since hs rfl).cell rfl) ((D0_6.since hs rfl).cell rfl) ((D0_6.since hs rfl).cell rfl)) rfl)
    · intro a wa hs hf hd
      have t1 := hf.off 1 (by kernel_rfl) rfl
      exact plain_ rfl (yes_eqv (o_move rfl t1) rfl)
    · intro a wa hs hf hd
      have t5 := hf.off 5 (by kernel_rfl) rfl
      exact plain_ rfl (yes_eqv (o_fieldAddr rfl Proofs.Try.underlying95 rfl rfl (by kernel_rfl) t5) rfl)
    · intro a wa hs hf hd
      have t45 : a.eval (.tmp 45) = _ := hd.at 3 45 (by kernel_rfl)
      exact plain_ rfl (yes_eqv (o_load1 rfl Proofs.Try.underlying3 rfl t45 ((D2_6.since hs rfl).cell rfl)) rfl)
    · intro a wa hs hf hd
      have t44 : a.eval (.tmp 44) = _ := hd.at 2 44 (by kernel_rfl)
      have t46 : a.eval (.tmp 46) = _ := hd.at 4 46 (by kernel_rfl)
      exact plain_ rfl (yes_gives (refPlace_ id 0 _ hid0 hid1) rfl rfl Proofs.Try.func95 (by kernel_rfl) (by kernel_rfl) (by simp only [List.map_toArray, List.map_cons, List.map_nil, t44, t46]) rfl)
    · intro a wa hs hf hd
      have t43 : a.eval (.tmp 43) = _ := hd.at 1 43 (by kernel_rfl)
      have t47 : a.eval (.tmp 47) = _ := hd.at 5 47 (by kernel_rfl)
      exact plain_ rfl (yes_gives (ks _ _ (aM.keep (Since.to_ext hs).keep) (by have := (Since.to_ext hs).size; have := hX6.size; omega)) rfl rfl Proofs.Try.func69 (by kernel_rfl) (by kernel_rfl) (by simp only [List.map_toArray, List.map_cons, List.map_nil, eval_const, t43, t47]) rfl)
    · intro a wa hs hf hd
      exact plain_ rfl (yes_new (z := .agg #[.slice none 0 0, .slice none 0 0, .bool false]) rfl (by kernel_rfl) (by kernel_rfl) rfl hs.size)
    · intro a wb wa hs1 hs hf hd hrun
      have t7 := hd.at 7 7 (by kernel_rfl)
      have t48 := hd.at 6 48 (by kernel_rfl)
      subst hrun
      have q18 : IsMem (Bx N w.heap.size (w.heap.size + 2)) _ (a.eval (.tmp 48)) m1 := t48
      obtain ⟨u1, u2, u3, u4, hv, _⟩ := q18.opened
      obtain ⟨bk, hp, hk, hBk⟩ := t7
      exact ⟨_, o_store rfl hp hv hBk (by kernel_rfl) (by simp [Value.cells, Value.oneCell']) (by first | (simp [Value.cells]; done) | (simp [Value.cells]; omega)) rfl, Since.put hs (.inl hk)⟩
  case hG => exact ⟨stable_eqv _, stable_eqv _, stable_eqv _, stable_eqv _, stable_eqv _, stable_eqv _, stable_isMemN _ _, stable_isNew _ _ _, stable_any, trivial⟩
  case hc => kernel_rfl
  case hfin =>
    intro v6 hs6
    rintro _ rfl _ rfl _ rfl _ rfl _ rfl _ rfl r11 hr11 _ ⟨bn7, rfl, hbn7, hBn7⟩
    obtain ⟨u1, u2, u3, u4, rfl, mw0, mg0⟩ := IsMem.opened hr11
    rintro v6w ⟨o1, v1, ho1, hr1, rfl⟩
    cases ho1
    simp only [Act.put, List.setIfInBounds_toArray, List.set_cons_zero, List.set_cons_succ] at hr1 ⊢
    cases (hr1.symm.trans (o_store (v := .agg #[.slice u1 m1.W.length u2, .slice u3 m1.G.length u4, .bool m1.bad]) (new := #[.slice u1 m1.W.length u2, .slice u3 m1.G.length u4, .bool m1.bad]) rfl rfl rfl ((hBn7)) (by kernel_rfl) (by simp [Value.cells, Value.oneCell']) (by first | (simp [Value.cells]; done) | (simp [Value.cells]; omega)) (by first | rfl | kernel_rfl)))
    obtain ⟨w2, hw2⟩ : ∃ x, x = (put v6 bn7 (.cells #[.slice u1 m1.W.length u2, .slice u3 m1.G.length u4, .bool m1.bad] 50 (0, 0))) := ⟨_, rfl⟩
    have hW2 : Ext W6 v6 := Since.to_ext hs6
    have hb2 : Ext w w2 := by rw [hw2]; exact Since.to_ext ((Since.of_ext (hX6.trans hW2)).put (.inl (by have := hX6.size; omega)))
    have hk2 : Keep (Bx N w.heap.size (w.heap.size + 2)) w1 w2 := by rw [hw2]; exact ((hK6.ext hW2).put _ _ (.inl (by omega)))
    have hq2 : ∀ M v l, IsInts M v6 v l → IsInts M w2 v l := by intro M v l h; rw [hw2]; exact h.putNew hBn7 zero50
    have B0_2 : Box w2 (w.heap.size) #[.slice aw s.M.W.length cw, .slice ag s.M.G.length cg, .bool s.M.bad, .slice ac s.C.length cc, .slice al s.L.length cl] 83 := by rw [hw2]; exact (box_putOther (D0_6.since hs6 rfl) (by omega))
    have B1_2 : Box w2 (w.heap.size + 1) #[.slice none 0 0, .slice none 0 0, .bool false, .slice none 0 0, .slice none 0 0] 83 := by rw [hw2]; exact (box_putOther (D1_6.since hs6 rfl) (by omega))
    have B2_2 : Box w2 (w1.heap.size) #[.int .i64 4, .int .i64 0, .int .i64 q0, .int .i64 q1, .int .i64 q2, .int .i64 q3, .int .i64 q4, .int .i64 q5, .int .i64 q6, .int .i64 q7, .slice ga fS.length gc] 95 := by rw [hw2]; exact (box_putOther (D2_6.since hs6 rfl) (by omega))
    have BN6_7_2 : Box w2 (bn7) #[.slice u1 m1.W.length u2, .slice u3 m1.G.length u4, .bool m1.bad] 50 := by rw [hw2]; exact (hBn7).put
    have s2 : W6.heap.size ≤ w2.heap.size := by rw [hw2]; have := hW2.size; simpa [put] using this
    rw [← hw2]
    clear hw2
    obtain ⟨c0_0, c0_1, c0_2, c0_3, c0_4, d0_0, d0_1, d0_2, d0_3, d0_4⟩ := cells5 B0_2
    have z0 : w.heap.size < w2.heap.size := B0_2.lt
    obtain ⟨c1_0, c1_1, c1_2, c1_3, c1_4, d1_0, d1_1, d1_2, d1_3, d1_4⟩ := cells5 B1_2
    have z1 : w.heap.size + 1 < w2.heap.size := B1_2.lt
    obtain ⟨⟨c2_0, c2_1, c2_2, c2_3, c2_4, c2_5, c2_6, c2_7, c2_8, c2_9, c2_10⟩, d2_0, d2_1, d2_2, d2_3, d2_4, d2_5, d2_6, d2_7, d2_8, d2_9, d2_10⟩ := cells11 B2_2
    have z2 : w1.heap.size < w2.heap.size := B2_2.lt
    obtain ⟨cN6_7_0, cN6_7_1, cN6_7_2, dN6_7_0, dN6_7_1, dN6_7_2⟩ := cells3 BN6_7_2
    have zN6_7 : bn7 < w2.heap.size := BN6_7_2.lt
    have mw := hq2 _ _ _ mw0
    have mg := hq2 _ _ _ mg0
    clear hq2
    go_wp2_with (fail)
    go_at_call 151
    refine (refOn_ (Bx N w.heap.size (w.heap.size + 2)) _ _ _ s id 1 m1 ⟨4, 0, [q0, q1, q2, q3, q4, q5, q6, q7], fS⟩ _ (IsSys.mk rfl (IsInts.keep hwB keq) (IsInts.keep hgB keq) (IsCores.keep hcB keq) (IsEvs.keep hlB keq) : IsSys (Bx N w.heap.size (w.heap.size + 2)) _ _ s) (IsMem.mk rfl (IsInts.keep mw keq) (IsInts.keep mg keq) : IsMem (Bx N w.heap.size (w.heap.size + 2)) _ _ m1) (IsFrame.ofLit (IsInts.keep fs1 keq)) (Bx.le hN (by first | omega | (simp <;> omega))) hC hFm).calls.mono ?_
    rintro e w3 ⟨_, rfl, hb3, hu3⟩
    obtain ⟨r1, r2, r3, r4, r5, r6, r7, r8, rfl, rW, rG, rC, rL⟩ := hu3.opened
    have B0_3 : Box w3 (w.heap.size) #[.slice aw s.M.W.length cw, .slice ag s.M.G.length cg, .bool s.M.bad, .slice ac s.C.length cc, .slice al s.L.length cl] 83 := B0_2.ext hb3
    have B1_3 : Box w3 (w.heap.size + 1) #[.slice none 0 0, .slice none 0 0, .bool false, .slice none 0 0, .slice none 0 0] 83 := B1_2.ext hb3
    have B2_3 : Box w3 (w1.heap.size) #[.int .i64 4, .int .i64 0, .int .i64 q0, .int .i64 q1, .int .i64 q2, .int .i64 q3, .int .i64 q4, .int .i64 q5, .int .i64 q6, .int .i64 q7, .slice ga fS.length gc] 95 := B2_2.ext hb3
    have BN6_7_3 : Box w3 (bn7) #[.slice u1 m1.W.length u2, .slice u3 m1.G.length u4, .bool m1.bad] 50 := BN6_7_2.ext hb3
    clear c0_0 c0_1 c0_2 c0_3 c0_4 d0_0 d0_1 d0_2 d0_3 d0_4 z0 c1_0 c1_1 c1_2 c1_3 c1_4 d1_0 d1_1 d1_2 d1_3 d1_4 z1 c2_0 c2_1 c2_2 c2_3 c2_4 c2_5 c2_6 c2_7 c2_8 c2_9 c2_10 d2_0 d2_1 d2_2 d2_3 d2_4 d2_5 d2_6 d2_7 d2_8 d2_9 d2_10 z2 cN6_7_0 cN6_7_1 cN6_7_2 dN6_7_0 dN6_7_1 dN6_7_2 zN6_7
    have s3 : w2.heap.size ≤ w3.heap.size := (by have h := hb3.size; first | omega | (simp at h; omega))
    obtain ⟨c0_0, c0_1, c0_2, c0_3, c0_4, d0_0, d0_1, d0_2, d0_3, d0_4⟩ := cells5 B0_3
    have z0 : w.heap.size < w3.heap.size := B0_3.lt
    obtain ⟨c1_0, c1_1, c1_2, c1_3, c1_4, d1_0, d1_1, d1_2, d1_3, d1_4⟩ := cells5 B1_3
    have z1 : w.heap.size + 1 < w3.heap.size := B1_3.lt
    obtain ⟨⟨c2_0, c2_1, c2_2, c2_3, c2_4, c2_5, c2_6, c2_7, c2_8, c2_9, c2_10⟩, d2_0, d2_1, d2_2, d2_3, d2_4, d2_5, d2_6, d2_7, d2_8, d2_9, d2_10⟩ := cells11 B2_3
    have z2 : w1.heap.size < w3.heap.size := B2_3.lt
    obtain ⟨cN6_7_0, cN6_7_1, cN6_7_2, dN6_7_0, dN6_7_1, dN6_7_2⟩ := cells3 BN6_7_3
    have zN6_7 : bn7 < w3.heap.size := BN6_7_3.lt
    go_wp2
    exact bodyPost_ret (ret_cell (cs := #[.slice r1 (onS s id m1 ⟨4, 0, [q0, q1, q2, q3, q4, q5, q6, q7], fS⟩ 1).M.W.length r2, .slice r3 (onS s id m1 ⟨4, 0, [q0, q1, q2, q3, q4, q5, q6, q7], fS⟩ 1).M.G.length r4, .bool (onS s id m1 ⟨4, 0, [q0, q1, q2, q3, q4, q5, q6, q7], fS⟩ 1).M.bad, .slice r5 (onS s id m1 ⟨4, 0, [q0, q1, q2, q3, q4, q5, q6, q7], fS⟩ 1).C.length r6, .slice r7 (onS s id m1 ⟨4, 0, [q0, q1, q2, q3, q4, q5, q6, q7], fS⟩ 1).L.length r8]) (((((B1_3.setCell _).setCell _).setCell _).setCell _).setCell _) Proofs.Try.results102 rfl Proofs.Try.underlying83 rfl (by kernel_rfl)) rfl ⟨_, rfl, exn, IsSys.less (IsSys.keep hu3 keq) (fun _ _ hn => .inl hn)⟩
set_option maxHeartbeats 1000000 in
set_option maxRecDepth 100000 in
theorem refStep5_c1 (N : Nat → Prop) (s : SysD) (id q0 q1 q2 q3 q4 q5 q6 q7 : Int) (fS : List Int) (aw ag ac al : Option Addr) (cw cg cc cl : Nat) (w : World) (hw : IsInts N w (.slice aw s.M.W.length cw) s.M.W) (hg : IsInts N w (.slice ag s.M.G.length cg) s.M.G) (hc : IsCores N w (.slice ac s.C.length cc) s.C) (hl : IsEvs N w (.slice al s.L.length cl) s.L)
    (hN : ∀ b, N b → b < w.heap.size) (hC : s.C.length ≤ 100000) (hFm : ∀ (i : Nat) c, s.C[i]? = some c → c.F.length ≤ 100000) (hfit : Fits s.M) (hid0 : 0 ≤ id) (hid1 : id ≤ 100) (ht : topD s id = some ⟨4, 1, [q0, q1, q2, q3, q4, q5, q6, q7], fS⟩)  :
    Gives Proofs.Try.prog 102 #[.agg #[.slice aw s.M.W.length cw, .slice ag s.M.G.length cg, .bool s.M.bad, .slice ac s.C.length cc, .slice al s.L.length cl], .int .i64 id] w (fun r w' => IsSys N w' r (onS s id (storeD s.M (placeD id 1) 0) ⟨4, 1, [q0, q1, q2, q3, q4, q5, q6, q7], fS⟩ 2)) := by
  have hwB := hw.bxn (hi := w.heap.size + 2)
  have hgB := hg.bxn (hi := w.heap.size + 2)
  have hcB := hc.bxn (hi := w.heap.size + 2)
  have hlB := hl.bxn (hi := w.heap.size + 2)
  have h : IsSys N w (.agg #[.slice aw s.M.W.length cw, .slice ag s.M.G.length cg, .bool s.M.bad, .slice ac s.C.length cc, .slice al s.L.length cl]) s := IsSys.mk rfl hw hg hc hl
  have kt : ∀ w' : World, Ext w w' → Gives Proofs.Try.prog 82 #[.agg #[.slice aw s.M.W.length cw, .slice ag s.M.G.length cg, .bool s.M.bad, .slice ac s.C.length cc, .slice al s.L.length cl], .int .i64 id] w' (fun r w' => ∃ u, r = .tuple #[u, .bool (topD s id).isSome] ∧ IsFrame (Bx N w.heap.size (w.heap.size + 2)) w' u (topF s id)) := fun w' e => refTop_ (Bx N w.heap.size (w.heap.size + 2)) _ s id w' ((IsSys.bxn h).ext e)
  rw [show (topD s id).isSome = true by rw [ht]; rfl] at kt
  rw [show topF s id = ⟨4, 1, [q0, q1, q2, q3, q4, q5, q6, q7], fS⟩ by unfold topF; rw [ht]; rfl] at kt
  obtain ⟨m1, hm1⟩ : ∃ m, storeD s.M (placeD id 1) 0 = m := ⟨_, rfl⟩
  have ks : ∀ (w' : World) (va : Value), IsMem (Bx N w.heap.size (w.heap.size + 2)) w' va s.M → w.heap.size + 2 ≤ w'.heap.size → Gives Proofs.Try.prog 69 #[va, .int .i64 (placeD id 1), .int .i64 0] w' (fun r w' => IsMem (Bx N w.heap.size (w.heap.size + 2)) w' r m1) := fun w' va hm hsz => by
    have := refStore_ (Bx N w.heap.size (w.heap.size + 2)) va s.M (placeD id 1) 0 w' hm hfit (Bx.le hN hsz)
    rw [hm1] at this; exact this
  rw [hm1]
  clear hm1
  clear ht h
  go_enter Proofs.Try.func102, Proofs.Try.ntmps102
  go_wp2_with (fail)
  go_at_call 82
  refine (kt _ exq).calls.mono ?_
  rintro e w1 ⟨_, rfl, hb1, u, rfl, hu1⟩
  obtain ⟨ga, gc, rfl, fs1⟩ := IsFrame.litv hu1
  have B0_1 : Box w1 (w.heap.size) #[.slice aw s.M.W.length cw, .slice ag s.M.G.length cg, .bool s.M.bad, .slice ac s.C.length cc, .slice al s.L.length cl] 83 := ((Box.newAt _ _ _ (by first | rfl | simp)).alloc _).ext hb1
  have B1_1 : Box w1 (w.heap.size + 1) #[.slice none 0 0, .slice none 0 0, .bool false, .slice none 0 0, .slice none 0 0] 83 := (Box.newAt _ _ _ (by first | rfl | simp)).ext hb1
  have s1 : w.heap.size + 2 ≤ w1.heap.size := (by have h := hb1.size; first | omega | (simp at h; omega))
  obtain ⟨c0_0, c0_1, c0_2, c0_3, c0_4, d0_0, d0_1, d0_2, d0_3, d0_4⟩ := cells5 B0_1
  have z0 : w.heap.size < w1.heap.size := B0_1.lt
  obtain ⟨c1_0, c1_1, c1_2, c1_3, c1_4, d1_0, d1_1, d1_2, d1_3, d1_4⟩ := cells5 B1_1
  have z1 : w.heap.size + 1 < w1.heap.size := B1_1.lt
  go_wp2_with (fail)
  obtain ⟨W6, hW⟩ : ∃ W, W = (w1.alloc (.cells #[.int .i64 4, .int .i64 1, .int .i64 q0, .int .i64 q1, .int .i64 q2, .int .i64 q3, .int .i64 q4, .int .i64 q5, .int .i64 q6, .int .i64 q7, .slice ga fS.length gc] 95 (0, 0))) := ⟨_, rfl⟩
  have hX6 : Ext w W6 := by rw [hW]; exact exn
  have hK6 : Keep (Bx N w.heap.size (w.heap.size + 2)) w1 W6 := by rw [hW]; exact keq
  have D0_6 : Box (w1.alloc (.cells #[.int .i64 4, .int .i64 1, .int .i64 q0, .int .i64 q1, .int .i64 q2, .int .i64 q3, .int .i64 q4, .int .i64 q5, .int .i64 q6, .int .i64 q7, .slice ga fS.length gc] 95 (0, 0))) (w.heap.size) #[.slice aw s.M.W.length cw, .slice ag s.M.G.length cg, .bool s.M.bad, .slice ac s.C.length cc, .slice al s.L.length cl] 83 := (B0_1.alloc _)
  rw [← hW] at D0_6
  have D1_6 : Box (w1.alloc (.cells #[.int .i64 4, .int .i64 1, .int .i64 q0, .int .i64 q1, .int .i64 q2, .int .i64 q3, .int .i64 q4, .int .i64 q5, .int .i64 q6, .int .i64 q7, .slice ga fS.length gc] 95 (0, 0))) (w.heap.size + 1) #[.slice none 0 0, .slice none 0 0, .bool false, .slice none 0 0, .slice none 0 0] 83 := (B1_1.alloc _)
  rw [← hW] at D1_6
  have D2_6 : Box (w1.alloc (.cells #[.int .i64 4, .int .i64 1, .int .i64 q0, .int .i64 q1, .int .i64 q2, .int .i64 q3, .int .i64 q4, .int .i64 q5, .int .i64 q6, .int .i64 q7, .slice ga fS.length gc] 95 (0, 0))) (w1.heap.size) #[.int .i64 4, .int .i64 1, .int .i64 q0, .int .i64 q1, .int .i64 q2, .int .i64 q3, .int .i64 q4, .int .i64 q5, .int .i64 q6, .int .i64 q7, .slice ga fS.length gc] 95 := (Box.newAt _ _ _ (by first | rfl | simp))
  rw [← hW] at D2_6
  have y6 : w1.heap.size + 1 ≤ W6.heap.size := by rw [hW]; simp
  rw [← hW]
  clear hW
  have aM : IsMem (Bx N w.heap.size (w.heap.size + 2)) W6 (.agg #[.slice aw s.M.W.length cw, .slice ag s.M.G.length cg, .bool s.M.bad]) s.M := (IsMem.mk rfl hwB hgB : IsMem (Bx N w.heap.size (w.heap.size + 2)) w _ s.M).keep ((Keep.refl _ _).ext hX6)
  clear c0_0 c0_1 c0_2 c0_3 c0_4 d0_0 d0_1 d0_2 d0_3 d0_4 z0 c1_0 c1_1 c1_2 c1_3 c1_4 d1_0 d1_1 d1_2 d1_3 d1_4 z1
  apply region_lit2 (T := [8]) (L := []) (X := []) (G := [eqv _, eqv _, eqv _, eqv _, eqv _, eqv _, isMemN (Bx N w.heap.size (w.heap.size + 2)) m1, isNew W6.heap.size #[.slice none 0 0, .slice none 0 0, .bool false] 50, anyG])
  case hm => kernel_rfl
  case hop =>
    refine ⟨?_, ?_, ?_, ?_, ?_, ?_, ?_, ?_, ?_, trivial⟩
    · intro a wa hs hf hd
      have t2 := hf.off 2 (by kernel_rfl) rfl
      exact plain_ rfl (yes_eqv (o_fieldAddr rfl Proofs.Try.underlying83 rfl rfl (by kernel_rfl) t2) rfl)
    · intro a wa hs hf hd
      have t42 : a.eval (.tmp 42) = _ := hd.at 0 42 (by kernel_rfl)
      exact plain_ rfl (yes_eqv (o_load3 rfl Proofs.Try.underlying50 rfl (by kernel_rfl) t42 ((D0_6.since hs rfl).cell rfl) ((D0_6.since hs rfl).cell rfl) ((D0_6.since hs rfl).cell rfl)) rfl)
    · intro a wa hs hf hd
      have t1 := hf.off 1 (by kernel_rfl) rfl
      exact plain_ rfl (yes_eqv (o_move rfl t1) rfl)
    · intro a wa hs hf hd
      have t5 := hf.off 5 (by kernel_rfl) rfl
      exact plain_ rfl (yes_eqv (o_fieldAddr rfl Proofs.Try.underlying95 rfl rfl (by kernel_rfl) t5) rfl)
    · intro a wa hs hf hd
      have t45 : a.eval (.tmp 45) = _ := hd.at 3 45 (by kernel_rfl)
      exact plain_ rfl (yes_eqv (o_load1 rfl Proofs.Try.underlying3 rfl t45 ((D2_6.since hs rfl).cell rfl)) rfl)
    · intro a wa hs hf hd
      have t44 : a.eval (.tmp 44) = _ := hd.at 2 44 (by kernel_rfl)
      have t46 : a.eval (.tmp 46) = _ := hd.at 4 46 (by kernel_rfl)
      exact plain_ rfl (yes_gives (refPlace_ id 1 _ hid0 hid1) rfl rfl Proofs.Try.func95 (by kernel_rfl) (by kernel_rfl) (by simp only [List.map_toArray, List.map_cons, List.map_nil, t44, t46]) rfl)
    · intro a wa hs hf hd
      have t43 : a.eval (.tmp 43) = _ := hd.at 1 43 (by kernel_rfl)
      have t47 : a.eval (.tmp 47) = _ := hd.at 5 47 (by kernel_rfl)
      exact plain_ rfl (yes_gives (ks _ _ (aM.keep (Since.to_ext hs).keep) (by have := (Since.to_ext hs).size; have := hX6.size; omega)) rfl rfl Proofs.Try.func69 (by kernel_rfl) (by kernel_rfl) (by simp only [List.map_toArray, List.map_cons, List.map_nil, eval_const, t43, t47]) rfl)
    · intro a wa hs hf hd
      exact plain_ rfl (yes_new (z := .agg #[.slice none 0 0, .slice none 0 0, .bool false]) rfl (by kernel_rfl) (by kernel_rfl) rfl hs.size)
    · intro a wb wa hs1 hs hf hd hrun
      have t7 := hd.at 7 7 (by kernel_rfl)
      have t48 := hd.at 6 48 (by kernel_rfl)
      subst hrun
      have q18 : IsMem (Bx N w.heap.size (w.heap.size + 2)) _ (a.eval (.tmp 48)) m1 := t48
      obtain ⟨u1, u2, u3, u4, hv, _⟩ := q18.opened
      obtain ⟨bk, hp, hk, hBk⟩ := t7
      exact ⟨_, o_store rfl hp hv hBk (by kernel_rfl) (by simp [Value.cells, Value.oneCell']) (by first | (simp [Value.cells]; done) | (simp [Value.cells]; omega)) rfl, Since.put hs (.inl hk)⟩
  case hG => exact ⟨stable_eqv _, stable_eqv _, stable_eqv _, stable_eqv _, stable_eqv _, stable_eqv _, stable_isMemN _ _, stable_isNew _ _ _, stable_any, trivial⟩
  case hc => kernel_rfl
  case hfin =>
    intro v6 hs6
    rintro _ rfl _ rfl _ rfl _ rfl _ rfl _ rfl r11 hr11 _ ⟨bn7, rfl, hbn7, hBn7⟩
    obtain ⟨u1, u2, u3, u4, rfl, mw0, mg0⟩ := IsMem.opened hr11
    rintro v6w ⟨o1, v1, ho1, hr1, rfl⟩
    cases ho1
    simp only [Act.put, List.setIfInBounds_toArray, List.set_cons_zero, List.set_cons_succ] at hr1 ⊢
    cases (hr1.symm.trans (o_store (v := .agg #[.slice u1 m1.W.length u2, .slice u3 m1.G.length u4, .bool m1.bad]) (new := #[.slice u1 m1.W.length u2, .slice u3 m1.G.length u4, .bool m1.bad]) rfl rfl rfl ((hBn7)) (by kernel_rfl) (by simp [Value.cells, Value.oneCell']) (by first | (simp [Value.cells]; done) | (simp [Value.cells]; omega)) (by first | rfl | kernel_rfl)))
    obtain ⟨w2, hw2⟩ : ∃ x, x = (put v6 bn7 (.cells #[.slice u1 m1.W.length u2, .slice u3 m1.G.length u4, .bool m1.bad] 50 (0, 0))) := ⟨_, rfl⟩
    have hW2 : Ext W6 v6 := Since.to_ext hs6
    have hb2 : Ext w w2 := by rw [hw2]; exact Since.to_ext ((Since.of_ext (hX6.trans hW2)).put (.inl (by have := hX6.size; omega)))
    have hk2 : Keep (Bx N w.heap.size (w.heap.size + 2)) w1 w2 := by rw [hw2]; exact ((hK6.ext hW2).put _ _ (.inl (by omega)))
    have hq2 : ∀ M v l, IsInts M v6 v l → IsInts M w2 v l := by intro M v l h; rw [hw2]; exact h.putNew hBn7 zero50
    have B0_2 : Box w2 (w.heap.size) #[.slice aw s.M.W.length cw, .slice ag s.M.G.length cg, .bool s.M.bad, .slice ac s.C.length cc, .slice al s.L.length cl] 83 := by rw [hw2]; exact (box_putOther (D0_6.since hs6 rfl) (by omega))
    have B1_2 : Box w2 (w.heap.size + 1) #[.slice none 0 0, .slice none 0 0, .bool false, .slice none 0 0, .slice none 0 0] 83 := by rw [hw2]; exact (box_putOther (D1_6.since hs6 rfl) (by omega))
    have B2_2 : Box w2 (w1.heap.size) #[.int .i64 4, .int .i64 1, .int .i64 q0, .int .i64 q1, .int .i64 q2, .int .i64 q3, .int .i64 q4, .int .i64 q5, .int .i64 q6, .int .i64 q7, .slice ga fS.length gc] 95 := by rw [hw2]; exact (box_putOther (D2_6.since hs6 rfl) (by omega))
    have BN6_7_2 : Box w2 (bn7) #[.slice u1 m1.W.length u2, .slice u3 m1.G.length u4, .bool m1.bad] 50 := by rw [hw2]; exact (hBn7).put
    have s2 : W6.heap.size ≤ w2.heap.size := by rw [hw2]; have := hW2.size; simpa [put] using this
    rw [← hw2]
    clear hw2
    obtain ⟨c0_0, c0_1, c0_2, c0_3, c0_4, d0_0, d0_1, d0_2, d0_3, d0_4⟩ := cells5 B0_2
    have z0 : w.heap.size < w2.heap.size := B0_2.lt
    obtain ⟨c1_0, c1_1, c1_2, c1_3, c1_4, d1_0, d1_1, d1_2, d1_3, d1_4⟩ := cells5 B1_2
    have z1 : w.heap.size + 1 < w2.heap.size := B1_2.lt
    obtain ⟨⟨c2_0, c2_1, c2_2, c2_3, c2_4, c2_5, c2_6, c2_7, c2_8, c2_9, c2_10⟩, d2_0, d2_1, d2_2, d2_3, d2_4, d2_5, d2_6, d2_7, d2_8, d2_9, d2_10⟩ := cells11 B2_2
    have z2 : w1.heap.size < w2.heap.size := B2_2.lt
    obtain ⟨cN6_7_0, cN6_7_1, cN6_7_2, dN6_7_0, dN6_7_1, dN6_7_2⟩ := cells3 BN6_7_2
    have zN6_7 : bn7 < w2.heap.size := BN6_7_2.lt
    have mw := hq2 _ _ _ mw0
    have mg := hq2 _ _ _ mg0
    clear hq2
    go_wp2_with (fail)
    go_at_call 151
    refine (refOn_ (Bx N w.heap.size (w.heap.size + 2)) _ _ _ s id 2 m1 ⟨4, 1, [q0, q1, q2, q3, q4, q5, q6, q7], fS⟩ _ (IsSys.mk rfl (IsInts.keep hwB keq) (IsInts.keep hgB keq) (IsCores.keep hcB keq) (IsEvs.keep hlB keq) : IsSys (Bx N w.heap.size (w.heap.size + 2)) _ _ s) (IsMem.mk rfl (IsInts.keep mw keq) (IsInts.keep mg keq) : IsMem (Bx N w.heap.size (w.heap.size + 2)) _ _ m1) (IsFrame.ofLit (IsInts.keep fs1 keq)) (Bx.le hN (by first | omega | (simp <;> omega))) hC hFm).calls.mono ?_
    rintro e w3 ⟨_, rfl, hb3, hu3⟩
    obtain ⟨r1, r2, r3, r4, r5, r6, r7, r8, rfl, rW, rG, rC, rL⟩ := hu3.opened
    have B0_3 : Box w3 (w.heap.size) #[.slice aw s.M.W.length cw, .slice ag s.M.G.length cg, .bool s.M.bad, .slice ac s.C.length cc, .slice al s.L.length cl] 83 := B0_2.ext hb3
    have B1_3 : Box w3 (w.heap.size + 1) #[.slice none 0 0, .slice none 0 0, .bool false, .slice none 0 0, .slice none 0 0] 83 := B1_2.ext hb3
    have B2_3 : Box w3 (w1.heap.size) #[.int .i64 4, .int .i64 1, .int .i64 q0, .int .i64 q1, .int .i64 q2, .int .i64 q3, .int .i64 q4, .int .i64 q5, .int .i64 q6, .int .i64 q7, .slice ga fS.length gc] 95 := B2_2.ext hb3
    have BN6_7_3 : Box w3 (bn7) #[.slice u1 m1.W.length u2, .slice u3 m1.G.length u4, .bool m1.bad] 50 := BN6_7_2.ext hb3
    clear c0_0 c0_1 c0_2 c0_3 c0_4 d0_0 d0_1 d0_2 d0_3 d0_4 z0 c1_0 c1_1 c1_2 c1_3 c1_4 d1_0 d1_1 d1_2 d1_3 d1_4 z1 c2_0 c2_1 c2_2 c2_3 c2_4 c2_5 c2_6 c2_7 c2_8 c2_9 c2_10 d2_0 d2_1 d2_2 d2_3 d2_4 d2_5 d2_6 d2_7 d2_8 d2_9 d2_10 z2 cN6_7_0 cN6_7_1 cN6_7_2 dN6_7_0 dN6_7_1 dN6_7_2 zN6_7
    have s3 : w2.heap.size ≤ w3.heap.size := (by have h := hb3.size; first | omega | (simp at h; omega))
    obtain ⟨c0_0, c0_1, c0_2, c0_3, c0_4, d0_0, d0_1, d0_2, d0_3, d0_4⟩ := cells5 B0_3
    have z0 : w.heap.size < w3.heap.size := B0_3.lt
    obtain ⟨c1_0, c1_1, c1_2, c1_3, c1_4, d1_0, d1_1, d1_2, d1_3, d1_4⟩ := cells5 B1_3
    have z1 : w.heap.size + 1 < w3.heap.size := B1_3.lt
    obtain ⟨⟨c2_0, c2_1, c2_2, c2_3, c2_4, c2_5, c2_6, c2_7, c2_8, c2_9, c2_10⟩, d2_0, d2_1, d2_2, d2_3, d2_4, d2_5, d2_6, d2_7, d2_8, d2_9, d2_10⟩ := cells11 B2_3
    have z2 : w1.heap.size < w3.heap.size := B2_3.lt
    obtain ⟨cN6_7_0, cN6_7_1, cN6_7_2, dN6_7_0, dN6_7_1, dN6_7_2⟩ := cells3 BN6_7_3
    have zN6_7 : bn7 < w3.heap.size := BN6_7_3.lt
    go_wp2
    exact bodyPost_ret (ret_cell (cs := #[.slice r1 (onS s id m1 ⟨4, 1, [q0, q1, q2, q3, q4, q5, q6, q7], fS⟩ 2).M.W.length r2, .slice r3 (onS s id m1 ⟨4, 1, [q0, q1, q2, q3, q4, q5, q6, q7], fS⟩ 2).M.G.length r4, .bool (onS s id m1 ⟨4, 1, [q0, q1, q2, q3, q4, q5, q6, q7], fS⟩ 2).M.bad, .slice r5 (onS s id m1 ⟨4, 1, [q0, q1, q2, q3, q4, q5, q6, q7], fS⟩ 2).C.length r6, .slice r7 (onS s id m1 ⟨4, 1, [q0, q1, q2, q3, q4, q5, q6, q7], fS⟩ 2).L.length r8]) (((((B1_3.setCell _).setCell _).setCell _).setCell _).setCell _) Proofs.Try.results102 rfl Proofs.Try.underlying83 rfl (by kernel_rfl)) rfl ⟨_, rfl, exn, IsSys.less (IsSys.keep hu3 keq) (fun _ _ hn => .inl hn)⟩
set_option maxHeartbeats 1000000 in
set_option maxRecDepth 100000 in
theorem refStep5_c2 (N : Nat → Prop) (s : SysD) (id q0 q1 q2 q3 q4 q5 q6 q7 : Int) (fS : List Int) (aw ag ac al : Option Addr) (cw cg cc cl : Nat) (w : World) (hw : IsInts N w (.slice aw s.M.W.length cw) s.M.W) (hg : IsInts N w (.slice ag s.M.G.length cg) s.M.G) (hc : IsCores N w (.slice ac s.C.length cc) s.C) (hl : IsEvs N w (.slice al s.L.length cl) s.L)
    (hN : ∀ b, N b → b < w.heap.size) (hC : s.C.length ≤ 100000) (hFm : ∀ (i : Nat) c, s.C[i]? = some c → c.F.length ≤ 100000) (hfit : Fits s.M) (hid0 : 0 ≤ id) (hid1 : id ≤ 100) (ht : topD s id = some ⟨4, 2, [q0, q1, q2, q3, q4, q5, q6, q7], fS⟩)  :
    Gives Proofs.Try.prog 102 #[.agg #[.slice aw s.M.W.length cw, .slice ag s.M.G.length cg, .bool s.M.bad, .slice ac s.C.length cc, .slice al s.L.length cl], .int .i64 id] w (fun r w' => IsSys N w' r (backS (memS s (storeD s.M (placeD id 2) 0)) id 0 0)) := by
  have hwB := hw.bxn (hi := w.heap.size + 2)
  have hgB := hg.bxn (hi := w.heap.size + 2)
  have hcB := hc.bxn (hi := w.heap.size + 2)
  have hlB := hl.bxn (hi := w.heap.size + 2)
  have h : IsSys N w (.agg #[.slice aw s.M.W.length cw, .slice ag s.M.G.length cg, .bool s.M.bad, .slice ac s.C.length cc, .slice al s.L.length cl]) s := IsSys.mk rfl hw hg hc hl
  have kt : ∀ w' : World, Ext w w' → Gives Proofs.Try.prog 82 #[.agg #[.slice aw s.M.W.length cw, .slice ag s.M.G.length cg, .bool s.M.bad, .slice ac s.C.length cc, .slice al s.L.length cl], .int .i64 id] w' (fun r w' => ∃ u, r = .tuple #[u, .bool (topD s id).isSome] ∧ IsFrame (Bx N w.heap.size (w.heap.size + 2)) w' u (topF s id)) := fun w' e => refTop_ (Bx N w.heap.size (w.heap.size + 2)) _ s id w' ((IsSys.bxn h).ext e)
  rw [show (topD s id).isSome = true by rw [ht]; rfl] at kt
  rw [show topF s id = ⟨4, 2, [q0, q1, q2, q3, q4, q5, q6, q7], fS⟩ by unfold topF; rw [ht]; rfl] at kt
  obtain ⟨m1, hm1⟩ : ∃ m, storeD s.M (placeD id 2) 0 = m := ⟨_, rfl⟩
  have ks : ∀ (w' : World) (va : Value), IsMem (Bx N w.heap.size (w.heap.size + 2)) w' va s.M → w.heap.size + 2 ≤ w'.heap.size → Gives Proofs.Try.prog 69 #[va, .int .i64 (placeD id 2), .int .i64 0] w' (fun r w' => IsMem (Bx N w.heap.size (w.heap.size + 2)) w' r m1) := fun w' va hm hsz => by
    have := refStore_ (Bx N w.heap.size (w.heap.size + 2)) va s.M (placeD id 2) 0 w' hm hfit (Bx.le hN hsz)
    rw [hm1] at this; exact this
  rw [hm1]
  clear hm1
  clear ht h
  go_enter Proofs.Try.func102, Proofs.Try.ntmps102
  go_wp2_with (fail)
  go_at_call 82
  refine (kt _ exq).calls.mono ?_
  rintro e w1 ⟨_, rfl, hb1, u, rfl, hu1⟩
  obtain ⟨ga, gc, rfl, fs1⟩ := IsFrame.litv hu1
  have B0_1 : Box w1 (w.heap.size) #[.slice aw s.M.W.length cw, .slice ag s.M.G.length cg, .bool s.M.bad, .slice ac s.C.length cc, .slice al s.L.length cl] 83 := ((Box.newAt _ _ _ (by first | rfl | simp)).alloc _).ext hb1
  have B1_1 : Box w1 (w.heap.size + 1) #[.slice none 0 0, .slice none 0 0, .bool false, .slice none 0 0, .slice none 0 0] 83 := (Box.newAt _ _ _ (by first | rfl | simp)).ext hb1
  have s1 : w.heap.size + 2 ≤ w1.heap.size := (by have h := hb1.size; first | omega | (simp at h; omega))
  obtain ⟨c0_0, c0_1, c0_2, c0_3, c0_4, d0_0, d0_1, d0_2, d0_3, d0_4⟩ := cells5 B0_1
  have z0 : w.heap.size < w1.heap.size := B0_1.lt
  obtain ⟨c1_0, c1_1, c1_2, c1_3, c1_4, d1_0, d1_1, d1_2, d1_3, d1_4⟩ := cells5 B1_1
  have z1 : w.heap.size + 1 < w1.heap.size := B1_1.lt
  go_wp2_with (fail)
  obtain ⟨W6, hW⟩ : ∃ W, W = (w1.alloc (.cells #[.int .i64 4, .int .i64 2, .int .i64 q0, .int .i64 q1, .int .i64 q2, .int .i64 q3, .int .i64 q4, .int .i64 q5, .int .i64 q6, .int .i64 q7, .slice ga fS.length gc] 95 (0, 0))) := ⟨_, rfl⟩
  have hX6 : Ext w W6 := by rw [hW]; exact exn
  have hK6 : Keep (Bx N w.heap.size (w.heap.size + 2)) w1 W6 := by rw [hW]; exact keq
  have D0_6 : Box (w1.alloc (.cells #[.int .i64 4, .int .i64 2, .int .i64 q0, .int .i64 q1, .int .i64 q2, .int .i64 q3, .int .i64 q4, .int .i64 q5, .int .i64 q6, .int .i64 q7, .slice ga fS.length gc] 95 (0, 0))) (w.heap.size) #[.slice aw s.M.W.length cw, .slice ag s.M.G.length cg, .bool s.M.bad, .slice ac s.C.length cc, .slice al s.L.length cl] 83 := (B0_1.alloc _)
  rw [← hW] at D0_6
  have D1_6 : Box (w1.alloc (.cells #[.int .i64 4, .int .i64 2, .int .i64 q0, .int .i64 q1, .int .i64 q2, .int .i64 q3, .int .i64 q4, .int .i64 q5, .int .i64 q6, .int .i64 q7, .slice ga fS.length gc] 95 (0, 0))) (w.heap.size + 1) #[.slice none 0 0, .slice none 0 0, .bool false, .slice none 0 0, .slice none 0 0] 83 := (B1_1.alloc _)
  rw [← hW] at D1_6
  have D2_6 : Box (w1.alloc (.cells #[.int .i64 4, .int .i64 2, .int .i64 q0, .int .i64 q1, .int .i64 q2, .int .i64 q3, .int .i64 q4, .int .i64 q5, .int .i64 q6, .int .i64 q7, .slice ga fS.length gc] 95 (0, 0))) (w1.heap.size) #[.int .i64 4, .int .i64 2, .int .i64 q0, .int .i64 q1, .int .i64 q2, .int .i64 q3, .int .i64 q4, .int .i64 q5, .int .i64 q6, .int .i64 q7, .slice ga fS.length gc] 95 := (Box.newAt _ _ _ (by first | rfl | simp))
  rw [← hW] at D2_6
  have y6 : w1.heap.size + 1 ≤ W6.heap.size := by rw [hW]; simp
  rw [← hW]
  clear hW
  have aM : IsMem (Bx N w.heap.size (w.heap.size + 2)) W6 (.agg #[.slice aw s.M.W.length cw, .slice ag s.M.G.length cg, .bool s.M.bad]) s.M := (IsMem.mk rfl hwB hgB : IsMem (Bx N w.heap.size (w.heap.size + 2)) w _ s.M).keep ((Keep.refl _ _).ext hX6)
  clear c0_0 c0_1 c0_2 c0_3 c0_4 d0_0 d0_1 d0_2 d0_3 d0_4 z0 c1_0 c1_1 c1_2 c1_3 c1_4 d1_0 d1_1 d1_2 d1_3 d1_4 z1
  apply region_lit2 (T := [8]) (L := []) (X := []) (G := [eqv _, eqv _, eqv _, eqv _, eqv _, eqv _, isMemN (Bx N w.heap.size (w.heap.size + 2)) m1, isNew W6.heap.size #[.slice none 0 0, .slice none 0 0, .bool false] 50, anyG])
  case hm => kernel_rfl
  case hop =>
    refine ⟨?_, ?_, ?_, ?_, ?_, ?_, ?_, ?_, ?_, trivial⟩
    · intro a wa hs hf hd
      have t2 := hf.off 2 (by kernel_rfl) rfl
      exact plain_ rfl (yes_eqv (o_fieldAddr rfl Proofs.Try.underlying83 rfl rfl (by kernel_rfl) t2) rfl)
    · intro a wa hs hf hd
      have t42 : a.eval (.tmp 42) = _ := hd.at 0 42 (by kernel_rfl)
      exact plain_ rfl (yes_eqv (o_load3 rfl Proofs.Try.underlying50 rfl (by kernel_rfl) t42 ((D0_6.since hs rfl).cell rfl) ((D0_6.since hs rfl).cell rfl) ((D0_6.since hs rfl).cell rfl)) rfl)
    · intro a wa hs hf hd
      have t1 := hf.off 1 (by kernel_rfl) rfl
      exact plain_ rfl (yes_eqv (o_move rfl t1) rfl)
    · intro a wa hs hf hd
      have t5 := hf.off 5 (by kernel_rfl) rfl
      exact plain_ rfl (yes_eqv (o_fieldAddr rfl Proofs.Try.underlying95 rfl rfl (by kernel_rfl) t5) rfl)
    · intro a wa hs hf hd
      have t45 : a.eval (.tmp 45) = _ := hd.at 3 45 (by kernel_rfl)
      exact plain_ rfl (yes_eqv (o_load1 rfl Proofs.Try.underlying3 rfl t45 ((D2_6.since hs rfl).cell rfl)) rfl)
    · intro a wa hs hf hd
      have t44 : a.eval (.tmp 44) = _ := hd.at 2 44 (by kernel_rfl)
      have t46 : a.eval (.tmp 46) = _ := hd.at 4 46 (by kernel_rfl)
      exact plain_ rfl (yes_gives (refPlace_ id 2 _ hid0 hid1) rfl rfl Proofs.Try.func95 (by kernel_rfl) (by kernel_rfl) (by simp only [List.map_toArray, List.map_cons, List.map_nil, t44, t46]) rfl)
    · intro a wa hs hf hd
      have t43 : a.eval (.tmp 43) = _ := hd.at 1 43 (by kernel_rfl)
      have t47 : a.eval (.tmp 47) = _ := hd.at 5 47 (by kernel_rfl)
      exact plain_ rfl (yes_gives (ks _ _ (aM.keep (Since.to_ext hs).keep) (by have := (Since.to_ext hs).size; have := hX6.size; omega)) rfl rfl Proofs.Try.func69 (by kernel_rfl) (by kernel_rfl) (by simp only [List.map_toArray, List.map_cons, List.map_nil, eval_const, t43, t47]) rfl)
    · intro a wa hs hf hd
      exact plain_ rfl (yes_new (z := .agg #[.slice none 0 0, .slice none 0 0, .bool false]) rfl (by kernel_rfl) (by kernel_rfl) rfl hs.size)
    · intro a wb wa hs1 hs hf hd hrun
      have t7 := hd.at 7 7 (by kernel_rfl)
      have t48 := hd.at 6 48 (by kernel_rfl)
      subst hrun
      have q18 : IsMem (Bx N w.heap.size (w.heap.size + 2)) _ (a.eval (.tmp 48)) m1 := t48
      obtain ⟨u1, u2, u3, u4, hv, _⟩ := q18.opened
      obtain ⟨bk, hp, hk, hBk⟩ := t7
      exact ⟨_, o_store rfl hp hv hBk (by kernel_rfl) (by simp [Value.cells, Value.oneCell']) (by first | (simp [Value.cells]; done) | (simp [Value.cells]; omega)) rfl, Since.put hs (.inl hk)⟩
  case hG => exact ⟨stable_eqv _, stable_eqv _, stable_eqv _, stable_eqv _, stable_eqv _, stable_eqv _, stable_isMemN _ _, stable_isNew _ _ _, stable_any, trivial⟩
  case hc => kernel_rfl
  case hfin =>
    intro v6 hs6
    rintro _ rfl _ rfl _ rfl _ rfl _ rfl _ rfl r11 hr11 _ ⟨bn7, rfl, hbn7, hBn7⟩
    obtain ⟨u1, u2, u3, u4, rfl, mw0, mg0⟩ := IsMem.opened hr11
    rintro v6w ⟨o1, v1, ho1, hr1, rfl⟩
    cases ho1
    simp only [Act.put, List.setIfInBounds_toArray, List.set_cons_zero, List.set_cons_succ] at hr1 ⊢
    cases (hr1.symm.trans (o_store (v := .agg #[.slice u1 m1.W.length u2, .slice u3 m1.G.length u4, .bool m1.bad]) (new := #[.slice u1 m1.W.length u2, .slice u3 m1.G.length u4, .bool m1.bad]) rfl rfl rfl ((hBn7)) (by kernel_rfl) (by simp [Value.cells, Value.oneCell']) (by first | (simp [Value.cells]; done) | (simp [Value.cells]; omega)) (by first | rfl | kernel_rfl)))
    obtain ⟨w2, hw2⟩ : ∃ x, x = (put v6 bn7 (.cells #[.slice u1 m1.W.length u2, .slice u3 m1.G.length u4, .bool m1.bad] 50 (0, 0))) := ⟨_, rfl⟩
    have hW2 : Ext W6 v6 := Since.to_ext hs6
    have hb2 : Ext w w2 := by rw [hw2]; exact Since.to_ext ((Since.of_ext (hX6.trans hW2)).put (.inl (by have := hX6.size; omega)))
    have hk2 : Keep (Bx N w.heap.size (w.heap.size + 2)) w1 w2 := by rw [hw2]; exact ((hK6.ext hW2).put _ _ (.inl (by omega)))
    have hq2 : ∀ M v l, IsInts M v6 v l → IsInts M w2 v l := by intro M v l h; rw [hw2]; exact h.putNew hBn7 zero50
    have B0_2 : Box w2 (w.heap.size) #[.slice aw s.M.W.length cw, .slice ag s.M.G.length cg, .bool s.M.bad, .slice ac s.C.length cc, .slice al s.L.length cl] 83 := by rw [hw2]; exact (box_putOther (D0_6.since hs6 rfl) (by omega))
    have B1_2 : Box w2 (w.heap.size + 1) #[.slice none 0 0, .slice none 0 0, .bool false, .slice none 0 0, .slice none 0 0] 83 := by rw [hw2]; exact (box_putOther (D1_6.since hs6 rfl) (by omega))
    have B2_2 : Box w2 (w1.heap.size) #[.int .i64 4, .int .i64 2, .int .i64 q0, .int .i64 q1, .int .i64 q2, .int .i64 q3, .int .i64 q4, .int .i64 q5, .int .i64 q6, .int .i64 q7, .slice ga fS.length gc] 95 := by rw [hw2]; exact (box_putOther (D2_6.since hs6 rfl) (by omega))
    have BN6_7_2 : Box w2 (bn7) #[.slice u1 m1.W.length u2, .slice u3 m1.G.length u4, .bool m1.bad] 50 := by rw [hw2]; exact (hBn7).put
    have s2 : W6.heap.size ≤ w2.heap.size := by rw [hw2]; have := hW2.size; simpa [put] using this
    rw [← hw2]
    clear hw2
    obtain ⟨c0_0, c0_1, c0_2, c0_3, c0_4, d0_0, d0_1, d0_2, d0_3, d0_4⟩ := cells5 B0_2
    have z0 : w.heap.size < w2.heap.size := B0_2.lt
    obtain ⟨c1_0, c1_1, c1_2, c1_3, c1_4, d1_0, d1_1, d1_2, d1_3, d1_4⟩ := cells5 B1_2
    have z1 : w.heap.size + 1 < w2.heap.size := B1_2.lt
    obtain ⟨⟨c2_0, c2_1, c2_2, c2_3, c2_4, c2_5, c2_6, c2_7, c2_8, c2_9, c2_10⟩, d2_0, d2_1, d2_2, d2_3, d2_4, d2_5, d2_6, d2_7, d2_8, d2_9, d2_10⟩ := cells11 B2_2
    have z2 : w1.heap.size < w2.heap.size := B2_2.lt
    obtain ⟨cN6_7_0, cN6_7_1, cN6_7_2, dN6_7_0, dN6_7_1, dN6_7_2⟩ := cells3 BN6_7_2
    have zN6_7 : bn7 < w2.heap.size := BN6_7_2.lt
    have mw := hq2 _ _ _ mw0
    have mg := hq2 _ _ _ mg0
    clear hq2
    go_wp2_with (fail)
    go_at_call 103
    refine (refMem_ (Bx N w.heap.size (w.heap.size + 2)) _ _ s m1 _ (IsSys.mk rfl (IsInts.keep hwB keq) (IsInts.keep hgB keq) (IsCores.keep hcB keq) (IsEvs.keep hlB keq) : IsSys (Bx N w.heap.size (w.heap.size + 2)) _ _ s) (IsMem.mk rfl (IsInts.keep mw keq) (IsInts.keep mg keq) : IsMem (Bx N w.heap.size (w.heap.size + 2)) _ _ m1)).calls.mono ?_
    rintro e w3 ⟨_, rfl, hb3, ht⟩
    obtain ⟨t1, t2, t3, t4, t5, t6, t7, t8, rfl, tW, tG, tC, tL⟩ := ht.opened
    have B0_3 : Box w3 (w.heap.size) #[.slice aw s.M.W.length cw, .slice ag s.M.G.length cg, .bool s.M.bad, .slice ac s.C.length cc, .slice al s.L.length cl] 83 := B0_2.ext hb3
    have B1_3 : Box w3 (w.heap.size + 1) #[.slice none 0 0, .slice none 0 0, .bool false, .slice none 0 0, .slice none 0 0] 83 := B1_2.ext hb3
    have B2_3 : Box w3 (w1.heap.size) #[.int .i64 4, .int .i64 2, .int .i64 q0, .int .i64 q1, .int .i64 q2, .int .i64 q3, .int .i64 q4, .int .i64 q5, .int .i64 q6, .int .i64 q7, .slice ga fS.length gc] 95 := B2_2.ext hb3
    have BN6_7_3 : Box w3 (bn7) #[.slice u1 m1.W.length u2, .slice u3 m1.G.length u4, .bool m1.bad] 50 := BN6_7_2.ext hb3
    clear c0_0 c0_1 c0_2 c0_3 c0_4 d0_0 d0_1 d0_2 d0_3 d0_4 z0 c1_0 c1_1 c1_2 c1_3 c1_4 d1_0 d1_1 d1_2 d1_3 d1_4 z1 c2_0 c2_1 c2_2 c2_3 c2_4 c2_5 c2_6 c2_7 c2_8 c2_9 c2_10 d2_0 d2_1 d2_2 d2_3 d2_4 d2_5 d2_6 d2_7 d2_8 d2_9 d2_10 z2 cN6_7_0 cN6_7_1 cN6_7_2 dN6_7_0 dN6_7_1 dN6_7_2 zN6_7
    have s3 : w2.heap.size ≤ w3.heap.size := (by have h := hb3.size; first | omega | (simp at h; omega))
    obtain ⟨c0_0, c0_1, c0_2, c0_3, c0_4, d0_0, d0_1, d0_2, d0_3, d0_4⟩ := cells5 B0_3
    have z0 : w.heap.size < w3.heap.size := B0_3.lt
    obtain ⟨c1_0, c1_1, c1_2, c1_3, c1_4, d1_0, d1_1, d1_2, d1_3, d1_4⟩ := cells5 B1_3
    have z1 : w.heap.size + 1 < w3.heap.size := B1_3.lt
    obtain ⟨⟨c2_0, c2_1, c2_2, c2_3, c2_4, c2_5, c2_6, c2_7, c2_8, c2_9, c2_10⟩, d2_0, d2_1, d2_2, d2_3, d2_4, d2_5, d2_6, d2_7, d2_8, d2_9, d2_10⟩ := cells11 B2_3
    have z2 : w1.heap.size < w3.heap.size := B2_3.lt
    obtain ⟨cN6_7_0, cN6_7_1, cN6_7_2, dN6_7_0, dN6_7_1, dN6_7_2⟩ := cells3 BN6_7_3
    have zN6_7 : bn7 < w3.heap.size := BN6_7_3.lt
    go_wp2_with (fail)
    go_at_call 90
    refine (refBack_ (Bx N w.heap.size (w.heap.size + 2)) _ (memS s m1) id 0 0 _ (IsSys.mk rfl (IsInts.keep tW keq) (IsInts.keep tG keq) (IsCores.keep tC keq) (IsEvs.keep tL keq) : IsSys (Bx N w.heap.size (w.heap.size + 2)) _ _ (memS s m1)) (Bx.le hN (by first | omega | (simp <;> omega))) hC).calls.mono ?_
    rintro e w4 ⟨_, rfl, hb4, hu4⟩
    obtain ⟨r1, r2, r3, r4, r5, r6, r7, r8, rfl, rW, rG, rC, rL⟩ := hu4.opened
    have B0_4 : Box w4 (w.heap.size) #[.slice aw s.M.W.length cw, .slice ag s.M.G.length cg, .bool s.M.bad, .slice ac s.C.length cc, .slice al s.L.length cl] 83 := B0_3.ext hb4
    have B1_4 : Box w4 (w.heap.size + 1) #[.slice none 0 0, .slice none 0 0, .bool false, .slice none 0 0, .slice none 0 0] 83 := B1_3.ext hb4
    have B2_4 : Box w4 (w1.heap.size) #[.int .i64 4, .int .i64 2, .int .i64 q0, .int .i64 q1, .int .i64 q2, .int .i64 q3, .int .i64 q4, .int .i64 q5, .int .i64 q6, .int .i64 q7, .slice ga fS.length gc] 95 := B2_3.ext hb4
    have BN6_7_4 : Box w4 (bn7) #[.slice u1 m1.W.length u2, .slice u3 m1.G.length u4, .bool m1.bad] 50 := BN6_7_3.ext hb4
    clear c0_0 c0_1 c0_2 c0_3 c0_4 d0_0 d0_1 d0_2 d0_3 d0_4 z0 c1_0 c1_1 c1_2 c1_3 c1_4 d1_0 d1_1 d1_2 d1_3 d1_4 z1 c2_0 c2_1 c2_2 c2_3 c2_4 c2_5 c2_6 c2_7 c2_8 c2_9 c2_10 d2_0 d2_1 d2_2 d2_3 d2_4 d2_5 d2_6 d2_7 d2_8 d2_9 d2_10 z2 cN6_7_0 cN6_7_1 cN6_7_2 dN6_7_0 dN6_7_1 dN6_7_2 zN6_7
    have s4 : w3.heap.size ≤ w4.heap.size := (by have h := hb4.size; first | omega | (simp at h; omega))
    obtain ⟨c0_0, c0_1, c0_2, c0_3, c0_4, d0_0, d0_1, d0_2, d0_3, d0_4⟩ := cells5 B0_4
    have z0 : w.heap.size < w4.heap.size := B0_4.lt
    obtain ⟨c1_0, c1_1, c1_2, c1_3, c1_4, d1_0, d1_1, d1_2, d1_3, d1_4⟩ := cells5 B1_4
    have z1 : w.heap.size + 1 < w4.heap.size := B1_4.lt
    obtain ⟨⟨c2_0, c2_1, c2_2, c2_3, c2_4, c2_5, c2_6, c2_7, c2_8, c2_9, c2_10⟩, d2_0, d2_1, d2_2, d2_3, d2_4, d2_5, d2_6, d2_7, d2_8, d2_9, d2_10⟩ := cells11 B2_4
    have z2 : w1.heap.size < w4.heap.size := B2_4.lt
    obtain ⟨cN6_7_0, cN6_7_1, cN6_7_2, dN6_7_0, dN6_7_1, dN6_7_2⟩ := cells3 BN6_7_4
    have zN6_7 : bn7 < w4.heap.size := BN6_7_4.lt
    go_wp2
    exact bodyPost_ret (ret_cell (cs := #[.slice r1 (backS (memS s m1) id 0 0).M.W.length r2, .slice r3 (backS (memS s m1) id 0 0).M.G.length r4, .bool (backS (memS s m1) id 0 0).M.bad, .slice r5 (backS (memS s m1) id 0 0).C.length r6, .slice r7 (backS (memS s m1) id 0 0).L.length r8]) (((((B1_4.setCell _).setCell _).setCell _).setCell _).setCell _) Proofs.Try.results102 rfl Proofs.Try.underlying83 rfl (by kernel_rfl)) rfl ⟨_, rfl, exn, IsSys.less (IsSys.keep hu4 keq) (fun _ _ hn => .inl hn)⟩
theorem step5_ (N : Nat → Prop) (va : Value) (s : SysD) (id : Int) (w : World) (h : IsSys N w va s) (hN : ∀ b, N b → b < w.heap.size) (hC : s.C.length ≤ 100) (hFm : ∀ (i : Nat) c, s.C[i]? = some c → c.F.length ≤ 100000) (hfit : Fits s.M)
    (hr : ∀ f, topD s id = some f → f.op = 3 → -9223372036854775808 ≤ gi f.R 0 ∧ gi f.R 0 ≤ 9223372036854775807) : Gives Proofs.Try.prog 101 #[va, .int .i64 id] w (fun r w' => IsSys N w' r (step5 s id)) := by
  have h8 := h.top8 (id := id)
  have hC2 : s.C.length ≤ 100000 := by omega
  obtain ⟨aw, cw, ag, cg, ac, cc, al, cl, rfl, hw, hg, hc, hl⟩ := h.opened
  clear h
  cases ht : topD s id with
  | none =>
    have e : step5 s id = s := by unfold step5; rw [ht]
    rw [e]
    exact step5_none N s id aw ag ac al cw cg cc cl w hw hg hc hl hN hC2 hFm hfit ht
  | some f =>
    have hid : 0 ≤ id ∧ id ≤ 100 := by
      have hh : hasD s id = true := by
        cases hh : hasD s id with
        | true => rfl
        | false => unfold topD at ht; rw [hh] at ht; cases ht
      simp [hasD] at hh; omega
    obtain ⟨hid0, hid1⟩ := hid
    have hr' := hr f ht
    have h8' := h8 f ht
    obtain ⟨op, pc, R, S⟩ := f
    obtain ⟨q0, q1, q2, q3, q4, q5, q6, q7, rfl⟩ := list8 h8'
    clear hr h8 h8'
    by_cases h3 : op = 3
    · subst h3
      have e : step5 s id = protS s id ⟨3, pc, [q0, q1, q2, q3, q4, q5, q6, q7], S⟩ := by unfold step5; rw [ht]; rfl
      rw [e]
      exact step5_p N s id pc q0 q1 q2 q3 q4 q5 q6 q7 S aw ag ac al cw cg cc cl w hw hg hc hl hN hC2 hFm hfit hid0 hid1 ht (hr' rfl).1 (hr' rfl).2
    · by_cases h4 : op = 4
      · subst h4
        by_cases p0 : 0 ≤ pc
        · by_cases p2 : pc ≤ 2
          · have e : step5 s id = clearS s id ⟨4, pc, [q0, q1, q2, q3, q4, q5, q6, q7], S⟩ := by
              unfold step5; rw [ht]
              show (if (4 : Int) = 3 then _ else if (4 : Int) = 4 ∧ 0 ≤ pc ∧ pc ≤ 2 then _ else _) = _
              rw [if_neg (by decide), if_pos ⟨rfl, p0, p2⟩]
            rw [e]
            have h012 : pc = 0 ∨ pc = 1 ∨ pc = 2 := by omega
            rcases h012 with rfl | rfl | rfl
            · exact step5_c0 N s id q0 q1 q2 q3 q4 q5 q6 q7 S aw ag ac al cw cg cc cl w hw hg hc hl hN hC2 hFm hfit hid0 hid1 ht
            · exact step5_c1 N s id q0 q1 q2 q3 q4 q5 q6 q7 S aw ag ac al cw cg cc cl w hw hg hc hl hN hC2 hFm hfit hid0 hid1 ht
            · exact step5_c2 N s id q0 q1 q2 q3 q4 q5 q6 q7 S aw ag ac al cw cg cc cl w hw hg hc hl hN hC2 hFm hfit hid0 hid1 ht
          · have e : step5 s id = s := by
              unfold step5; rw [ht]
              show (if (4 : Int) = 3 then _ else if (4 : Int) = 4 ∧ 0 ≤ pc ∧ pc ≤ 2 then _ else _) = _
              rw [if_neg (by decide), if_neg (fun h => p2 h.2.2)]
            rw [e]
            exact step5_z N s id pc q0 q1 q2 q3 q4 q5 q6 q7 S aw ag ac al cw cg cc cl w hw hg hc hl hN hC2 hFm hfit hid0 hid1 ht (by omega) p0 (by omega) (by omega) (by omega)
        · have e : step5 s id = s := by
            unfold step5; rw [ht]
            show (if (4 : Int) = 3 then _ else if (4 : Int) = 4 ∧ 0 ≤ pc ∧ pc ≤ 2 then _ else _) = _
            rw [if_neg (by decide), if_neg (fun h => p0 h.2.1)]
          rw [e]
          exact step5_y N s id pc q0 q1 q2 q3 q4 q5 q6 q7 S aw ag ac al cw cg cc cl w hw hg hc hl hN hC2 hFm hfit hid0 hid1 ht (by omega) p0
      · have e : step5 s id = s := by
          unfold step5; rw [ht]
          show (if op = 3 then _ else if op = 4 ∧ 0 ≤ pc ∧ pc ≤ 2 then _ else _) = _
          rw [if_neg h3, if_neg (fun h => h4 h.1)]
        rw [e]
        exact step5_x N s id op pc q0 q1 q2 q3 q4 q5 q6 q7 S aw ag ac al cw cg cc cl w hw hg hc hl hN hC2 hFm hfit hid0 hid1 ht (by simpa using h3) (by simpa using h4) (by simpa using h4)
theorem refStep5_ (N : Nat → Prop) (va : Value) (s : SysD) (id : Int) (w : World) (h : IsSys N w va s) (hN : ∀ b, N b → b < w.heap.size) (hC : s.C.length ≤ 100) (hFm : ∀ (i : Nat) c, s.C[i]? = some c → c.F.length ≤ 100000) (hfit : Fits s.M)
    (hr : ∀ f, topD s id = some f → f.op = 3 → -9223372036854775808 ≤ gi f.R 0 ∧ gi f.R 0 ≤ 9223372036854775807) : Gives Proofs.Try.prog 102 #[va, .int .i64 id] w (fun r w' => IsSys N w' r (step5 s id)) := by
  have h8 := h.top8 (id := id)
  have hC2 : s.C.length ≤ 100000 := by omega
  obtain ⟨aw, cw, ag, cg, ac, cc, al, cl, rfl, hw, hg, hc, hl⟩ := h.opened
  clear h
  cases ht : topD s id with
  | none =>
    have e : step5 s id = s := by unfold step5; rw [ht]
    rw [e]
    exact refStep5_none N s id aw ag ac al cw cg cc cl w hw hg hc hl hN hC2 hFm hfit ht
  | some f =>
    have hid : 0 ≤ id ∧ id ≤ 100 := by
      have hh : hasD s id = true := by
        cases hh : hasD s id with
        | true => rfl
        | false => unfold topD at ht; rw [hh] at ht; cases ht
      simp [hasD] at hh; omega
    obtain ⟨hid0, hid1⟩ := hid
    have hr' := hr f ht
    have h8' := h8 f ht
    obtain ⟨op, pc, R, S⟩ := f
    obtain ⟨q0, q1, q2, q3, q4, q5, q6, q7, rfl⟩ := list8 h8'
    clear hr h8 h8'
    by_cases h3 : op = 3
    · subst h3
      have e : step5 s id = protS s id ⟨3, pc, [q0, q1, q2, q3, q4, q5, q6, q7], S⟩ := by unfold step5; rw [ht]; rfl
      rw [e]
      exact refStep5_p N s id pc q0 q1 q2 q3 q4 q5 q6 q7 S aw ag ac al cw cg cc cl w hw hg hc hl hN hC2 hFm hfit hid0 hid1 ht (hr' rfl).1 (hr' rfl).2
    · by_cases h4 : op = 4
      · subst h4
        by_cases p0 : 0 ≤ pc
        · by_cases p2 : pc ≤ 2
          · have e : step5 s id = clearS s id ⟨4, pc, [q0, q1, q2, q3, q4, q5, q6, q7], S⟩ := by
              unfold step5; rw [ht]
              show (if (4 : Int) = 3 then _ else if (4 : Int) = 4 ∧ 0 ≤ pc ∧ pc ≤ 2 then _ else _) = _
              rw [if_neg (by decide), if_pos ⟨rfl, p0, p2⟩]
            rw [e]
            have h012 : pc = 0 ∨ pc = 1 ∨ pc = 2 := by omega
            rcases h012 with rfl | rfl | rfl
            · exact refStep5_c0 N s id q0 q1 q2 q3 q4 q5 q6 q7 S aw ag ac al cw cg cc cl w hw hg hc hl hN hC2 hFm hfit hid0 hid1 ht
            · exact refStep5_c1 N s id q0 q1 q2 q3 q4 q5 q6 q7 S aw ag ac al cw cg cc cl w hw hg hc hl hN hC2 hFm hfit hid0 hid1 ht
            · exact refStep5_c2 N s id q0 q1 q2 q3 q4 q5 q6 q7 S aw ag ac al cw cg cc cl w hw hg hc hl hN hC2 hFm hfit hid0 hid1 ht
          · have e : step5 s id = s := by
              unfold step5; rw [ht]
              show (if (4 : Int) = 3 then _ else if (4 : Int) = 4 ∧ 0 ≤ pc ∧ pc ≤ 2 then _ else _) = _
              rw [if_neg (by decide), if_neg (fun h => p2 h.2.2)]
            rw [e]
            exact refStep5_z N s id pc q0 q1 q2 q3 q4 q5 q6 q7 S aw ag ac al cw cg cc cl w hw hg hc hl hN hC2 hFm hfit hid0 hid1 ht (by omega) p0 (by omega) (by omega) (by omega)
        · have e : step5 s id = s := by
            unfold step5; rw [ht]
            show (if (4 : Int) = 3 then _ else if (4 : Int) = 4 ∧ 0 ≤ pc ∧ pc ≤ 2 then _ else _) = _
            rw [if_neg (by decide), if_neg (fun h => p0 h.2.1)]
          rw [e]
          exact refStep5_y N s id pc q0 q1 q2 q3 q4 q5 q6 q7 S aw ag ac al cw cg cc cl w hw hg hc hl hN hC2 hFm hfit hid0 hid1 ht (by omega) p0
      · have e : step5 s id = s := by
          unfold step5; rw [ht]
          show (if op = 3 then _ else if op = 4 ∧ 0 ≤ pc ∧ pc ≤ 2 then _ else _) = _
          rw [if_neg h3, if_neg (fun h => h4 h.1)]
        rw [e]
        exact refStep5_x N s id op pc q0 q1 q2 q3 q4 q5 q6 q7 S aw ag ac al cw cg cc cl w hw hg hc hl hN hC2 hFm hfit hid0 hid1 ht (by simpa using h3) (by simpa using h4) (by simpa using h4)
end Go.Proofs.Ytcfbdfgondmkoaa
