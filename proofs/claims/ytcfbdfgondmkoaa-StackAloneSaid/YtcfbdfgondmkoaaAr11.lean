/- Arenas: rows cloned; a word is stored. -/
import Derived.Test.YtcfbdfgondmkoaaOwn
import Derived.Test.YtcfbdfgondmkoaaAr10
namespace Go.Proofs.Ytcfbdfgondmkoaa
open Go Go.RowKit
set_option linter.unusedSimpArgs false
set_option linter.unusedVariables false
set_option linter.unnecessarySimpa false

/-- the blocks below n -/
def Lo (n : Nat) : Nat → Prop := fun b => b < n
theorem Box.keep {M : Nat → Prop} {w w' : World} {b : Nat} {cs : Array Value} {t : TypeId} (h : Box w b cs t) (k : Keep M w w') (hn : ¬ M b) : Box w' b cs t := (k.2 b h.lt hn).trans h
set_option maxRecDepth 100000 in
theorem clone_ (N : Nat → Prop) (v : Value) (l : List Int) (w : World) (h : IsInts N w v l) (hl : 0 < l.length) (hm : l.length ≤ 100000) : Gives Proofs.Try.prog 127 #[v] w (fun r w' => ∃ b, w.heap.size ≤ b ∧ Own w' r l b) := by
  obtain ⟨a, cap, rfl, h1, h2, h3⟩ := h.opened
  obtain ⟨b, off, rfl, hb, hn, _⟩ := h3 0 hl
  go_enter Proofs.Try.func127, Proofs.Try.ntmps127
  go_wp2_with (at_builtin; refine wpList_append48 (.tmp 5) (.tmp 6) rfl rfl rfl rfl (h.ext (by with_reducible (repeat (first | assumption | exact Ext.refl _ | refine Ext.alloc' ?_ _ | refine Ext.store0 ?_ _ _ | refine Ext.storek ?_ _ _ _ | refine Ext.stores0 ?_ ?_ _ _ | refine Ext.storesk ?_ ?_ _ _ _ | refine Ext.drewN' ?_ _ | refine Ext.drew' ?_ | refine Ext.trans ?_ (by assumption))))) hl hm ?_; intro v1 w1 ho hb1)
  go_ret
  exact ⟨_, rfl, (by with_reducible (repeat (first | assumption | exact Ext.refl _ | refine Ext.alloc' ?_ _ | refine Ext.store0 ?_ _ _ | refine Ext.storek ?_ _ _ _ | refine Ext.stores0 ?_ ?_ _ _ | refine Ext.storesk ?_ ?_ _ _ _ | refine Ext.drewN' ?_ _ | refine Ext.drew' ?_ | refine Ext.trans ?_ (by assumption)))), _, by simp, ho⟩

/-- the closure that lays a word -/
theorem layer_ (p1 p2 : Addr) (vd : Value) (l : List Int) (b k : Nat) (v : Int) (w : World) (ho : Own w vd l b) (hk : k < l.length) (h1 : w.cell? p1 = some (.int .i64 v)) (h2 : w.cell? p2 = some (.int .i64 k)) :
    Calls Proofs.Try.prog 125 #[vd, .pointer (some p1), .pointer (some p2)] w fun e w' => e = .returned (.tuple #[]) ∧ w' = w.setCell ⟨b, k, none⟩ (.int .i64 v) := by
  obtain ⟨cap, rfl, c1, c2, c3, c4⟩ := ho
  obtain ⟨c5, c6⟩ := c4 k hk
  go_enter Proofs.Try.func125, Proofs.Try.ntmps125
  go_wp2
  go_end0
  exact ⟨rfl, rfl⟩

def storeD (m : Arena) (x v : Int) : Arena := { W := if outside m x then m.W else m.W.set x.toNat v, G := m.G, bad := badAt m x }

set_option maxHeartbeats 1000000 in
set_option maxRecDepth 100000 in
theorem touchStore_ (N : Nat → Prop) (va : Value) (m : Arena) (x v : Int) (b4 b5 : Nat) (w : World) (h : IsMem N w va m) (hf : Fits m) (hN : ∀ b, N b → b < w.heap.size) (hx0 : -9223372036854775808 ≤ x) (hx1 : x ≤ 9223372036854775807)
    (hp5 : w.cell? ⟨b5, 0, none⟩ = some (.int .i64 v)) (hp4 : w.cell? ⟨b4, 0, none⟩ = some (.int .i64 x)) :
    Gives Proofs.Try.prog 123 #[va, .int .i64 x, .func (.func 125) #[] #[.pointer (some ⟨b5, 0, none⟩), .pointer (some ⟨b4, 0, none⟩)]] w (fun r w' => IsMem N w' r (storeD m x v)) := by
  have kn := fun (w' : World) (e : Ext w w') => node_ N va m x w' (h.ext e) hx0 hx1
  obtain ⟨n0, n1⟩ := nodeD_lt hf x
  obtain ⟨k, hk⟩ : ∃ k : Nat, nodeD m.W.length x = k := ⟨(nodeD m.W.length x).toNat, by omega⟩
  rw [hk] at kn n1
  obtain ⟨aw, cw, ag, cg, rfl, hw, hg⟩ := h.opened
  obtain ⟨_, _, e0, rg, lg, cgc⟩ := hg.opened
  cases e0
  have hwl : m.W.length ≤ 928 := by have := hf.1; have := hf.2.2; omega
  have hwl' : m.W.length ≤ 100000 := by omega
  by_cases h1 : x < 0
  · have hout : outside m x = true := by simp [outside, h1]
    have hbad : badAt m x = true := by simp [badAt, outside, h1]
    go_enter Proofs.Try.func123, Proofs.Try.ntmps123
    go_wp2_with (fail)
    go_at_call 59; refine (kn _ (by with_reducible (repeat (first | assumption | exact Ext.refl _ | refine Ext.alloc' ?_ _ | refine Ext.store0 ?_ _ _ | refine Ext.storek ?_ _ _ _ | refine Ext.stores0 ?_ ?_ _ _ | refine Ext.storesk ?_ ?_ _ _ _ | refine Ext.drewN' ?_ _ | refine Ext.drew' ?_ | refine Ext.trans ?_ (by assumption))))).calls.mono ?_; rintro e w1 ⟨_, rfl, hb1, rfl⟩; obtain ⟨q1, f1⟩ := bcell hb1; have z1_0 : w.heap.size < w1.heap.size := (by have := hb1.size; first | omega | (simp at this; omega)); have z1_1 : w.heap.size + 1 < w1.heap.size := (by have := hb1.size; first | omega | (simp at this; omega))
    have B0 : Box w1 w.heap.size #[.slice aw m.W.length cw, .slice ag m.G.length cg, .bool m.bad] 50 := ((Box.new _ _ _).alloc _).ext hb1
    have B1 : Box w1 (w.heap.size + 1) #[.slice none 0 0, .slice none 0 0, .bool false] 50 := (Box.two _ _ _ _ _).ext hb1
    obtain ⟨c00, c01, c02, d00, d01, d02⟩ := cells3 B0
    obtain ⟨c10, c11, c12, d10, d11, d12⟩ := cells3 B1
    go_wp2
    have BF : Box ((((w1.setCell ⟨w.heap.size, 2, none⟩ (.bool true)).setCell ⟨w.heap.size + 1, 0, none⟩ (.slice aw m.W.length cw)).setCell ⟨w.heap.size + 1, 1, none⟩ (.slice ag m.G.length cg)).setCell ⟨w.heap.size + 1, 2, none⟩ (.bool true)) (w.heap.size + 1) #[.slice aw m.W.length cw, .slice ag m.G.length cg, .bool true] 50 := (((B1.setOther (by omega) _).setCell _).setCell _).setCell _
    have hst : storeD m x v = { m with bad := true } := by unfold storeD; rw [if_pos hout, hbad]
    exact bodyPost_ret (ret_cell BF Proofs.Try.results123 rfl Proofs.Try.underlying50 rfl (by kernel_rfl)) rfl ⟨_, rfl, (by with_reducible (repeat (first | assumption | exact Ext.refl _ | refine Ext.alloc' ?_ _ | refine Ext.store0 ?_ _ _ | refine Ext.storek ?_ _ _ _ | refine Ext.stores0 ?_ ?_ _ _ | refine Ext.storesk ?_ ?_ _ _ _ | refine Ext.drewN' ?_ _ | refine Ext.drew' ?_ | refine Ext.trans ?_ (by assumption)))), by rw [hst]; exact ⟨_, _, rfl, hw.ext (by with_reducible (repeat (first | assumption | exact Ext.refl _ | refine Ext.alloc' ?_ _ | refine Ext.store0 ?_ _ _ | refine Ext.storek ?_ _ _ _ | refine Ext.stores0 ?_ ?_ _ _ | refine Ext.storesk ?_ ?_ _ _ _ | refine Ext.drewN' ?_ _ | refine Ext.drew' ?_ | refine Ext.trans ?_ (by assumption)))), hg.ext (by with_reducible (repeat (first | assumption | exact Ext.refl _ | refine Ext.alloc' ?_ _ | refine Ext.store0 ?_ _ _ | refine Ext.storek ?_ _ _ _ | refine Ext.stores0 ?_ ?_ _ _ | refine Ext.storesk ?_ ?_ _ _ _ | refine Ext.drewN' ?_ _ | refine Ext.drew' ?_ | refine Ext.trans ?_ (by assumption))))⟩⟩
  · by_cases h2 : (m.W.length : Int) ≤ x
    · have hout : outside m x = true := by simp [outside, h2]
      have hbad : badAt m x = true := by simp [badAt, outside, h2]
      go_enter Proofs.Try.func123, Proofs.Try.ntmps123
      go_wp2_with (fail)
      go_at_call 59; refine (kn _ (by with_reducible (repeat (first | assumption | exact Ext.refl _ | refine Ext.alloc' ?_ _ | refine Ext.store0 ?_ _ _ | refine Ext.storek ?_ _ _ _ | refine Ext.stores0 ?_ ?_ _ _ | refine Ext.storesk ?_ ?_ _ _ _ | refine Ext.drewN' ?_ _ | refine Ext.drew' ?_ | refine Ext.trans ?_ (by assumption))))).calls.mono ?_; rintro e w1 ⟨_, rfl, hb1, rfl⟩; obtain ⟨q1, f1⟩ := bcell hb1; have z1_0 : w.heap.size < w1.heap.size := (by have := hb1.size; first | omega | (simp at this; omega)); have z1_1 : w.heap.size + 1 < w1.heap.size := (by have := hb1.size; first | omega | (simp at this; omega))
      have B0 : Box w1 w.heap.size #[.slice aw m.W.length cw, .slice ag m.G.length cg, .bool m.bad] 50 := ((Box.new _ _ _).alloc _).ext hb1
      have B1 : Box w1 (w.heap.size + 1) #[.slice none 0 0, .slice none 0 0, .bool false] 50 := (Box.two _ _ _ _ _).ext hb1
      obtain ⟨c00, c01, c02, d00, d01, d02⟩ := cells3 B0
      obtain ⟨c10, c11, c12, d10, d11, d12⟩ := cells3 B1
      go_wp2
      have BF : Box ((((w1.setCell ⟨w.heap.size, 2, none⟩ (.bool true)).setCell ⟨w.heap.size + 1, 0, none⟩ (.slice aw m.W.length cw)).setCell ⟨w.heap.size + 1, 1, none⟩ (.slice ag m.G.length cg)).setCell ⟨w.heap.size + 1, 2, none⟩ (.bool true)) (w.heap.size + 1) #[.slice aw m.W.length cw, .slice ag m.G.length cg, .bool true] 50 := (((B1.setOther (by omega) _).setCell _).setCell _).setCell _
      have hst : storeD m x v = { m with bad := true } := by unfold storeD; rw [if_pos hout, hbad]
      exact bodyPost_ret (ret_cell BF Proofs.Try.results123 rfl Proofs.Try.underlying50 rfl (by kernel_rfl)) rfl ⟨_, rfl, (by with_reducible (repeat (first | assumption | exact Ext.refl _ | refine Ext.alloc' ?_ _ | refine Ext.store0 ?_ _ _ | refine Ext.storek ?_ _ _ _ | refine Ext.stores0 ?_ ?_ _ _ | refine Ext.storesk ?_ ?_ _ _ _ | refine Ext.drewN' ?_ _ | refine Ext.drew' ?_ | refine Ext.trans ?_ (by assumption)))), by rw [hst]; exact ⟨_, _, rfl, hw.ext (by with_reducible (repeat (first | assumption | exact Ext.refl _ | refine Ext.alloc' ?_ _ | refine Ext.store0 ?_ _ _ | refine Ext.storek ?_ _ _ _ | refine Ext.stores0 ?_ ?_ _ _ | refine Ext.storesk ?_ ?_ _ _ _ | refine Ext.drewN' ?_ _ | refine Ext.drew' ?_ | refine Ext.trans ?_ (by assumption)))), hg.ext (by with_reducible (repeat (first | assumption | exact Ext.refl _ | refine Ext.alloc' ?_ _ | refine Ext.store0 ?_ _ _ | refine Ext.storek ?_ _ _ _ | refine Ext.stores0 ?_ ?_ _ _ | refine Ext.storesk ?_ ?_ _ _ _ | refine Ext.drewN' ?_ _ | refine Ext.drew' ?_ | refine Ext.trans ?_ (by assumption))))⟩⟩
    · obtain ⟨i, rfl⟩ : ∃ i : Nat, x = i := ⟨x.toNat, by omega⟩
      have hi : i < m.W.length := by omega
      have hout : outside m i = false := by simp [outside]; omega
      by_cases h3 : 0 < k
      · obtain ⟨bg, og, rfl, xg, ng, eg⟩ := cgc k (by omega)
        have h3' : (0 : Int) < (k : Int) := by omega
        by_cases h4 : gi m.G k = 0
        · have h4' : (gi m.G k == 0) = true := by simp [h4]
          have hbad : badAt m i = true := by simp [badAt, freeAt, hk, h3, h4]
          go_enter Proofs.Try.func123, Proofs.Try.ntmps123
          go_wp2_with (fail)
          go_at_call 59; refine (kn _ (by with_reducible (repeat (first | assumption | exact Ext.refl _ | refine Ext.alloc' ?_ _ | refine Ext.store0 ?_ _ _ | refine Ext.storek ?_ _ _ _ | refine Ext.stores0 ?_ ?_ _ _ | refine Ext.storesk ?_ ?_ _ _ _ | refine Ext.drewN' ?_ _ | refine Ext.drew' ?_ | refine Ext.trans ?_ (by assumption))))).calls.mono ?_; rintro e w1 ⟨_, rfl, hb1, rfl⟩; obtain ⟨q1, f1⟩ := bcell hb1; have z1_0 : w.heap.size < w1.heap.size := (by have := hb1.size; first | omega | (simp at this; omega)); have z1_1 : w.heap.size + 1 < w1.heap.size := (by have := hb1.size; first | omega | (simp at this; omega))
          have B0 : Box w1 w.heap.size #[.slice aw m.W.length cw, .slice (some ⟨bg, og, none⟩) m.G.length cg, .bool m.bad] 50 := ((Box.new _ _ _).alloc _).ext hb1
          have B1 : Box w1 (w.heap.size + 1) #[.slice none 0 0, .slice none 0 0, .bool false] 50 := (Box.two _ _ _ _ _).ext hb1
          obtain ⟨c00, c01, c02, d00, d01, d02⟩ := cells3 B0
          obtain ⟨c10, c11, c12, d10, d11, d12⟩ := cells3 B1
          have hs1' : w.heap.size ≤ w1.heap.size := by omega
          have hz0 : Lo w1.heap.size w.heap.size := z1_0
          have hz1 : Lo w1.heap.size (w.heap.size + 1) := z1_1
          have eg1 := cell_ext eg ((by with_reducible (repeat (first | assumption | exact Ext.refl _ | refine Ext.alloc' ?_ _ | refine Ext.store0 ?_ _ _ | refine Ext.storek ?_ _ _ _ | refine Ext.stores0 ?_ ?_ _ _ | refine Ext.storesk ?_ ?_ _ _ _ | refine Ext.drewN' ?_ _ | refine Ext.drew' ?_ | refine Ext.trans ?_ (by assumption)))) : Ext w w1)
          go_wp2_with (fail)
          obtain ⟨w2, hrun, ho2, hk2, he2⟩ := run_copy_own (N := N) (w := (w1.setCell ⟨w.heap.size, 2, none⟩ (.bool true)).alloc (.cells (zeros m.W.length) 3)) (vd := .slice (some ⟨w1.heap.size, 0, none⟩) m.W.length m.W.length) (b := w1.heap.size) (ls := m.W) (ld := List.replicate m.W.length 0) (by have := Own.made (w1.setCell ⟨w.heap.size, 2, none⟩ (.bool true)) m.W.length (by omega); simpa [World.setCell] using this) (hw.ext (by with_reducible (repeat (first | assumption | exact Ext.refl _ | refine Ext.alloc' ?_ _ | refine Ext.store0 ?_ _ _ | refine Ext.storek ?_ _ _ _ | refine Ext.stores0 ?_ ?_ _ _ | refine Ext.storesk ?_ ?_ _ _ _ | refine Ext.drewN' ?_ _ | refine Ext.drew' ?_ | refine Ext.trans ?_ (by assumption))))) (by simp) (by omega)
          rw [hrun]
          have hE2 : Ext w w2 := he2 _ (by with_reducible (repeat (first | assumption | exact Ext.refl _ | refine Ext.alloc' ?_ _ | refine Ext.store0 ?_ _ _ | refine Ext.storek ?_ _ _ _ | refine Ext.stores0 ?_ ?_ _ _ | refine Ext.storesk ?_ ?_ _ _ _ | refine Ext.drewN' ?_ _ | refine Ext.drew' ?_ | refine Ext.trans ?_ (by assumption)))) hs1'
          have kp := hk2 (fun b => b = w1.heap.size) rfl
          have C0 : Box w2 w.heap.size #[.slice aw m.W.length cw, .slice (some ⟨bg, og, none⟩) m.G.length cg, .bool true] 50 := ((B0.setCell (off := 2) (.bool true)).alloc _).keep kp (by omega)
          have C1 : Box w2 (w.heap.size + 1) #[.slice none 0 0, .slice none 0 0, .bool false] 50 := ((B1.setOther (by omega) (.bool true)).alloc _).keep kp (by omega)
          have p5 : w2.cell? ⟨b5, 0, none⟩ = some (.int .i64 v) := cell_ext hp5 hE2
          have p4 : w2.cell? ⟨b4, 0, none⟩ = some (.int .i64 i) := cell_ext hp4 hE2
          have z2_2 : w1.heap.size < w2.heap.size := by obtain ⟨_, _, _, _, h, _⟩ := ho2; exact h
          clear hk2 he2
          go_wp2_with (fail)
          go_at_call 125
          refine (layer_ _ _ _ _ _ _ _ _ ho2 hi p5 p4).mono ?_
          rintro e w3 ⟨rfl, rfl⟩
          have D0 := C0.setOther (b := w1.heap.size) (off := i) (by omega) (.int .i64 v)
          have D1 := C1.setOther (b := w1.heap.size) (off := i) (by omega) (.int .i64 v)
          have ho3 := ho2.set hi v
          have hE3 : Ext w (w2.setCell ⟨w1.heap.size, i, none⟩ (.int .i64 v)) := hE2.store _ _ (by show _ ≤ _; omega)
          obtain ⟨W3, hW3⟩ : ∃ W3, W3 = w2.setCell ⟨w1.heap.size, i, none⟩ (.int .i64 v) := ⟨_, rfl⟩
          have z3 : W3.heap.size = w2.heap.size := by rw [hW3]; simp [World.setCell]
          rw [← hW3] at D0 D1 ho3 hE3 ⊢
          clear hW3 p4 p5 C0 C1 ho2 hE2
          obtain ⟨c30, c31, c32, d30, d31, d32⟩ := cells3 D0
          obtain ⟨c40, c41, c42, d40, d41, d42⟩ := cells3 D1
          have z3_0 : w.heap.size < W3.heap.size := by omega
          have z3_1 : w.heap.size + 1 < W3.heap.size := by omega
          have hst : storeD m i v = { W := m.W.set i v, G := m.G, bad := true } := by unfold storeD; rw [if_neg (by rw [hout]; simp), hbad]; simp
          go_wp2
          have BF : Box ((((W3.setCell ⟨w.heap.size, 0, none⟩ (.slice (some ⟨w1.heap.size, 0, none⟩) m.W.length m.W.length)).setCell ⟨w.heap.size + 1, 0, none⟩ (.slice (some ⟨w1.heap.size, 0, none⟩) m.W.length m.W.length)).setCell ⟨w.heap.size + 1, 1, none⟩ (.slice (some ⟨bg, og, none⟩) m.G.length cg)).setCell ⟨w.heap.size + 1, 2, none⟩ (.bool true)) (w.heap.size + 1) #[.slice (some ⟨w1.heap.size, 0, none⟩) m.W.length m.W.length, .slice (some ⟨bg, og, none⟩) m.G.length cg, .bool true] 50 := (((D1.setOther (by omega) _).setCell _).setCell _).setCell _
          refine bodyPost_ret (ret_cell BF Proofs.Try.results123 rfl Proofs.Try.underlying50 rfl (by kernel_rfl)) rfl ⟨_, rfl, (by with_reducible (repeat (first | assumption | exact Ext.refl _ | refine Ext.alloc' ?_ _ | refine Ext.store0 ?_ _ _ | refine Ext.storek ?_ _ _ _ | refine Ext.stores0 ?_ ?_ _ _ | refine Ext.storesk ?_ ?_ _ _ _ | refine Ext.drewN' ?_ _ | refine Ext.drew' ?_ | refine Ext.trans ?_ (by assumption)))), ?_⟩
          rw [hst]
          refine ⟨_, _, rfl, Own.ints (ho3.keep (N := Lo w1.heap.size) ?_ (Nat.lt_irrefl _)) (fun hx => absurd (hN _ hx) (by omega)), hg.ext (by with_reducible (repeat (first | assumption | exact Ext.refl _ | refine Ext.alloc' ?_ _ | refine Ext.store0 ?_ _ _ | refine Ext.storek ?_ _ _ _ | refine Ext.stores0 ?_ ?_ _ _ | refine Ext.storesk ?_ ?_ _ _ _ | refine Ext.drewN' ?_ _ | refine Ext.drew' ?_ | refine Ext.trans ?_ (by assumption))))⟩
          exact (by with_reducible (repeat (first | assumption | exact Keep.refl _ _ | refine Keep.alloc ?_ _ | refine Keep.s ?_ (by first | assumption | exact Bx.mem (by omega) (by omega)) | refine Keep.n ?_ (by omega) | refine Keep.ext ?_ (by assumption) | refine Keep.drew ?_)))
        · have h4' : (gi m.G k == 0) = false := by simp [h4]
          have hbad : badAt m i = m.bad := by simp [badAt, hout, freeAt, hk, h3, h4]
          go_enter Proofs.Try.func123, Proofs.Try.ntmps123
          go_wp2_with (fail)
          go_at_call 59; refine (kn _ (by with_reducible (repeat (first | assumption | exact Ext.refl _ | refine Ext.alloc' ?_ _ | refine Ext.store0 ?_ _ _ | refine Ext.storek ?_ _ _ _ | refine Ext.stores0 ?_ ?_ _ _ | refine Ext.storesk ?_ ?_ _ _ _ | refine Ext.drewN' ?_ _ | refine Ext.drew' ?_ | refine Ext.trans ?_ (by assumption))))).calls.mono ?_; rintro e w1 ⟨_, rfl, hb1, rfl⟩; obtain ⟨q1, f1⟩ := bcell hb1; have z1_0 : w.heap.size < w1.heap.size := (by have := hb1.size; first | omega | (simp at this; omega)); have z1_1 : w.heap.size + 1 < w1.heap.size := (by have := hb1.size; first | omega | (simp at this; omega))
          have B0 : Box w1 w.heap.size #[.slice aw m.W.length cw, .slice (some ⟨bg, og, none⟩) m.G.length cg, .bool m.bad] 50 := ((Box.new _ _ _).alloc _).ext hb1
          have B1 : Box w1 (w.heap.size + 1) #[.slice none 0 0, .slice none 0 0, .bool false] 50 := (Box.two _ _ _ _ _).ext hb1
          obtain ⟨c00, c01, c02, d00, d01, d02⟩ := cells3 B0
          obtain ⟨c10, c11, c12, d10, d11, d12⟩ := cells3 B1
          have hs1' : w.heap.size ≤ w1.heap.size := by omega
          have hz0 : Lo w1.heap.size w.heap.size := z1_0
          have hz1 : Lo w1.heap.size (w.heap.size + 1) := z1_1
          have eg1 := cell_ext eg ((by with_reducible (repeat (first | assumption | exact Ext.refl _ | refine Ext.alloc' ?_ _ | refine Ext.store0 ?_ _ _ | refine Ext.storek ?_ _ _ _ | refine Ext.stores0 ?_ ?_ _ _ | refine Ext.storesk ?_ ?_ _ _ _ | refine Ext.drewN' ?_ _ | refine Ext.drew' ?_ | refine Ext.trans ?_ (by assumption)))) : Ext w w1)
          go_wp2_with (fail)
          obtain ⟨w2, hrun, ho2, hk2, he2⟩ := run_copy_own (N := N) (w := w1.alloc (.cells (zeros m.W.length) 3)) (vd := .slice (some ⟨w1.heap.size, 0, none⟩) m.W.length m.W.length) (b := w1.heap.size) (ls := m.W) (ld := List.replicate m.W.length 0) (by have := Own.made w1 m.W.length (by omega); simpa [World.setCell] using this) (hw.ext (by with_reducible (repeat (first | assumption | exact Ext.refl _ | refine Ext.alloc' ?_ _ | refine Ext.store0 ?_ _ _ | refine Ext.storek ?_ _ _ _ | refine Ext.stores0 ?_ ?_ _ _ | refine Ext.storesk ?_ ?_ _ _ _ | refine Ext.drewN' ?_ _ | refine Ext.drew' ?_ | refine Ext.trans ?_ (by assumption))))) (by simp) (by omega)
          rw [hrun]
          have hE2 : Ext w w2 := he2 _ (by with_reducible (repeat (first | assumption | exact Ext.refl _ | refine Ext.alloc' ?_ _ | refine Ext.store0 ?_ _ _ | refine Ext.storek ?_ _ _ _ | refine Ext.stores0 ?_ ?_ _ _ | refine Ext.storesk ?_ ?_ _ _ _ | refine Ext.drewN' ?_ _ | refine Ext.drew' ?_ | refine Ext.trans ?_ (by assumption)))) hs1'
          have kp := hk2 (fun b => b = w1.heap.size) rfl
          have C0 : Box w2 w.heap.size #[.slice aw m.W.length cw, .slice (some ⟨bg, og, none⟩) m.G.length cg, .bool m.bad] 50 := (B0.alloc _).keep kp (by omega)
          have C1 : Box w2 (w.heap.size + 1) #[.slice none 0 0, .slice none 0 0, .bool false] 50 := (B1.alloc _).keep kp (by omega)
          have p5 : w2.cell? ⟨b5, 0, none⟩ = some (.int .i64 v) := cell_ext hp5 hE2
          have p4 : w2.cell? ⟨b4, 0, none⟩ = some (.int .i64 i) := cell_ext hp4 hE2
          have z2_2 : w1.heap.size < w2.heap.size := by obtain ⟨_, _, _, _, h, _⟩ := ho2; exact h
          clear hk2 he2
          go_wp2_with (fail)
          go_at_call 125
          refine (layer_ _ _ _ _ _ _ _ _ ho2 hi p5 p4).mono ?_
          rintro e w3 ⟨rfl, rfl⟩
          have D0 := C0.setOther (b := w1.heap.size) (off := i) (by omega) (.int .i64 v)
          have D1 := C1.setOther (b := w1.heap.size) (off := i) (by omega) (.int .i64 v)
          have ho3 := ho2.set hi v
          have hE3 : Ext w (w2.setCell ⟨w1.heap.size, i, none⟩ (.int .i64 v)) := hE2.store _ _ (by show _ ≤ _; omega)
          obtain ⟨W3, hW3⟩ : ∃ W3, W3 = w2.setCell ⟨w1.heap.size, i, none⟩ (.int .i64 v) := ⟨_, rfl⟩
          have z3 : W3.heap.size = w2.heap.size := by rw [hW3]; simp [World.setCell]
          rw [← hW3] at D0 D1 ho3 hE3 ⊢
          clear hW3 p4 p5 C0 C1 ho2 hE2
          obtain ⟨c30, c31, c32, d30, d31, d32⟩ := cells3 D0
          obtain ⟨c40, c41, c42, d40, d41, d42⟩ := cells3 D1
          have z3_0 : w.heap.size < W3.heap.size := by omega
          have z3_1 : w.heap.size + 1 < W3.heap.size := by omega
          have hst : storeD m i v = { W := m.W.set i v, G := m.G, bad := m.bad } := by unfold storeD; rw [if_neg (by rw [hout]; simp), hbad]; simp
          go_wp2
          have BF : Box ((((W3.setCell ⟨w.heap.size, 0, none⟩ (.slice (some ⟨w1.heap.size, 0, none⟩) m.W.length m.W.length)).setCell ⟨w.heap.size + 1, 0, none⟩ (.slice (some ⟨w1.heap.size, 0, none⟩) m.W.length m.W.length)).setCell ⟨w.heap.size + 1, 1, none⟩ (.slice (some ⟨bg, og, none⟩) m.G.length cg)).setCell ⟨w.heap.size + 1, 2, none⟩ (.bool m.bad)) (w.heap.size + 1) #[.slice (some ⟨w1.heap.size, 0, none⟩) m.W.length m.W.length, .slice (some ⟨bg, og, none⟩) m.G.length cg, .bool m.bad] 50 := (((D1.setOther (by omega) _).setCell _).setCell _).setCell _
          refine bodyPost_ret (ret_cell BF Proofs.Try.results123 rfl Proofs.Try.underlying50 rfl (by kernel_rfl)) rfl ⟨_, rfl, (by with_reducible (repeat (first | assumption | exact Ext.refl _ | refine Ext.alloc' ?_ _ | refine Ext.store0 ?_ _ _ | refine Ext.storek ?_ _ _ _ | refine Ext.stores0 ?_ ?_ _ _ | refine Ext.storesk ?_ ?_ _ _ _ | refine Ext.drewN' ?_ _ | refine Ext.drew' ?_ | refine Ext.trans ?_ (by assumption)))), ?_⟩
          rw [hst]
          refine ⟨_, _, rfl, Own.ints (ho3.keep (N := Lo w1.heap.size) ?_ (Nat.lt_irrefl _)) (fun hx => absurd (hN _ hx) (by omega)), hg.ext (by with_reducible (repeat (first | assumption | exact Ext.refl _ | refine Ext.alloc' ?_ _ | refine Ext.store0 ?_ _ _ | refine Ext.storek ?_ _ _ _ | refine Ext.stores0 ?_ ?_ _ _ | refine Ext.storesk ?_ ?_ _ _ _ | refine Ext.drewN' ?_ _ | refine Ext.drew' ?_ | refine Ext.trans ?_ (by assumption))))⟩
          exact (by with_reducible (repeat (first | assumption | exact Keep.refl _ _ | refine Keep.alloc ?_ _ | refine Keep.s ?_ (by first | assumption | exact Bx.mem (by omega) (by omega)) | refine Keep.n ?_ (by omega) | refine Keep.ext ?_ (by assumption) | refine Keep.drew ?_)))
      · obtain rfl : k = 0 := by omega
        have hbad : badAt m i = m.bad := by simp [badAt, hout, freeAt, hk]
        go_enter Proofs.Try.func123, Proofs.Try.ntmps123
        go_wp2_with (fail)
        go_at_call 59; refine (kn _ (by with_reducible (repeat (first | assumption | exact Ext.refl _ | refine Ext.alloc' ?_ _ | refine Ext.store0 ?_ _ _ | refine Ext.storek ?_ _ _ _ | refine Ext.stores0 ?_ ?_ _ _ | refine Ext.storesk ?_ ?_ _ _ _ | refine Ext.drewN' ?_ _ | refine Ext.drew' ?_ | refine Ext.trans ?_ (by assumption))))).calls.mono ?_; rintro e w1 ⟨_, rfl, hb1, rfl⟩; obtain ⟨q1, f1⟩ := bcell hb1; have z1_0 : w.heap.size < w1.heap.size := (by have := hb1.size; first | omega | (simp at this; omega)); have z1_1 : w.heap.size + 1 < w1.heap.size := (by have := hb1.size; first | omega | (simp at this; omega))
        have B0 : Box w1 w.heap.size #[.slice aw m.W.length cw, .slice ag m.G.length cg, .bool m.bad] 50 := ((Box.new _ _ _).alloc _).ext hb1
        have B1 : Box w1 (w.heap.size + 1) #[.slice none 0 0, .slice none 0 0, .bool false] 50 := (Box.two _ _ _ _ _).ext hb1
        obtain ⟨c00, c01, c02, d00, d01, d02⟩ := cells3 B0
        obtain ⟨c10, c11, c12, d10, d11, d12⟩ := cells3 B1
        have hs1' : w.heap.size ≤ w1.heap.size := by omega
        have hz0 : Lo w1.heap.size w.heap.size := z1_0
        have hz1 : Lo w1.heap.size (w.heap.size + 1) := z1_1
        go_wp2_with (fail)
        obtain ⟨w2, hrun, ho2, hk2, he2⟩ := run_copy_own (N := N) (w := w1.alloc (.cells (zeros m.W.length) 3)) (vd := .slice (some ⟨w1.heap.size, 0, none⟩) m.W.length m.W.length) (b := w1.heap.size) (ls := m.W) (ld := List.replicate m.W.length 0) (by have := Own.made w1 m.W.length (by omega); simpa [World.setCell] using this) (hw.ext (by with_reducible (repeat (first | assumption | exact Ext.refl _ | refine Ext.alloc' ?_ _ | refine Ext.store0 ?_ _ _ | refine Ext.storek ?_ _ _ _ | refine Ext.stores0 ?_ ?_ _ _ | refine Ext.storesk ?_ ?_ _ _ _ | refine Ext.drewN' ?_ _ | refine Ext.drew' ?_ | refine Ext.trans ?_ (by assumption))))) (by simp) (by omega)
        rw [hrun]
        have hE2 : Ext w w2 := he2 _ (by with_reducible (repeat (first | assumption | exact Ext.refl _ | refine Ext.alloc' ?_ _ | refine Ext.store0 ?_ _ _ | refine Ext.storek ?_ _ _ _ | refine Ext.stores0 ?_ ?_ _ _ | refine Ext.storesk ?_ ?_ _ _ _ | refine Ext.drewN' ?_ _ | refine Ext.drew' ?_ | refine Ext.trans ?_ (by assumption)))) hs1'
        have kp := hk2 (fun b => b = w1.heap.size) rfl
        have C0 : Box w2 w.heap.size #[.slice aw m.W.length cw, .slice ag m.G.length cg, .bool m.bad] 50 := (B0.alloc _).keep kp (by omega)
        have C1 : Box w2 (w.heap.size + 1) #[.slice none 0 0, .slice none 0 0, .bool false] 50 := (B1.alloc _).keep kp (by omega)
        have p5 : w2.cell? ⟨b5, 0, none⟩ = some (.int .i64 v) := cell_ext hp5 hE2
        have p4 : w2.cell? ⟨b4, 0, none⟩ = some (.int .i64 i) := cell_ext hp4 hE2
        have z2_2 : w1.heap.size < w2.heap.size := by obtain ⟨_, _, _, _, h, _⟩ := ho2; exact h
        clear hk2 he2
        go_wp2_with (fail)
        go_at_call 125
        refine (layer_ _ _ _ _ _ _ _ _ ho2 hi p5 p4).mono ?_
        rintro e w3 ⟨rfl, rfl⟩
        have D0 := C0.setOther (b := w1.heap.size) (off := i) (by omega) (.int .i64 v)
        have D1 := C1.setOther (b := w1.heap.size) (off := i) (by omega) (.int .i64 v)
        have ho3 := ho2.set hi v
        have hE3 : Ext w (w2.setCell ⟨w1.heap.size, i, none⟩ (.int .i64 v)) := hE2.store _ _ (by show _ ≤ _; omega)
        obtain ⟨W3, hW3⟩ : ∃ W3, W3 = w2.setCell ⟨w1.heap.size, i, none⟩ (.int .i64 v) := ⟨_, rfl⟩
        have z3 : W3.heap.size = w2.heap.size := by rw [hW3]; simp [World.setCell]
        rw [← hW3] at D0 D1 ho3 hE3 ⊢
        clear hW3 p4 p5 C0 C1 ho2 hE2
        obtain ⟨c30, c31, c32, d30, d31, d32⟩ := cells3 D0
        obtain ⟨c40, c41, c42, d40, d41, d42⟩ := cells3 D1
        have z3_0 : w.heap.size < W3.heap.size := by omega
        have z3_1 : w.heap.size + 1 < W3.heap.size := by omega
        have hst : storeD m i v = { W := m.W.set i v, G := m.G, bad := m.bad } := by unfold storeD; rw [if_neg (by rw [hout]; simp), hbad]; simp
        go_wp2
        have BF : Box ((((W3.setCell ⟨w.heap.size, 0, none⟩ (.slice (some ⟨w1.heap.size, 0, none⟩) m.W.length m.W.length)).setCell ⟨w.heap.size + 1, 0, none⟩ (.slice (some ⟨w1.heap.size, 0, none⟩) m.W.length m.W.length)).setCell ⟨w.heap.size + 1, 1, none⟩ (.slice ag m.G.length cg)).setCell ⟨w.heap.size + 1, 2, none⟩ (.bool m.bad)) (w.heap.size + 1) #[.slice (some ⟨w1.heap.size, 0, none⟩) m.W.length m.W.length, .slice ag m.G.length cg, .bool m.bad] 50 := (((D1.setOther (by omega) _).setCell _).setCell _).setCell _
        refine bodyPost_ret (ret_cell BF Proofs.Try.results123 rfl Proofs.Try.underlying50 rfl (by kernel_rfl)) rfl ⟨_, rfl, (by with_reducible (repeat (first | assumption | exact Ext.refl _ | refine Ext.alloc' ?_ _ | refine Ext.store0 ?_ _ _ | refine Ext.storek ?_ _ _ _ | refine Ext.stores0 ?_ ?_ _ _ | refine Ext.storesk ?_ ?_ _ _ _ | refine Ext.drewN' ?_ _ | refine Ext.drew' ?_ | refine Ext.trans ?_ (by assumption)))), ?_⟩
        rw [hst]
        refine ⟨_, _, rfl, Own.ints (ho3.keep (N := Lo w1.heap.size) ?_ (Nat.lt_irrefl _)) (fun hx => absurd (hN _ hx) (by omega)), hg.ext (by with_reducible (repeat (first | assumption | exact Ext.refl _ | refine Ext.alloc' ?_ _ | refine Ext.store0 ?_ _ _ | refine Ext.storek ?_ _ _ _ | refine Ext.stores0 ?_ ?_ _ _ | refine Ext.storesk ?_ ?_ _ _ _ | refine Ext.drewN' ?_ _ | refine Ext.drew' ?_ | refine Ext.trans ?_ (by assumption))))⟩
        exact (by with_reducible (repeat (first | assumption | exact Keep.refl _ _ | refine Keep.alloc ?_ _ | refine Keep.s ?_ (by first | assumption | exact Bx.mem (by omega) (by omega)) | refine Keep.n ?_ (by omega) | refine Keep.ext ?_ (by assumption) | refine Keep.drew ?_)))
end Go.Proofs.Ytcfbdfgondmkoaa
