/- MemTurns: its walk. -/
import Derived.Test.YtcfbdfgondmkoaaDat3
import Derived.Test.YtcfbdfgondmkoaaRdN
namespace Go.Proofs.Ytcfbdfgondmkoaa
open Go Go.RowKit
set_option linter.unusedSimpArgs false
set_option linter.unusedVariables false
set_option linter.unnecessarySimpa false

theorem Ext.pick {a b : World} (h : Ext a b) : ∃ c, c = b ∧ Ext a c := ⟨b, rfl, h⟩
theorem turn_yes {W G : List Int} {i : Nat} {g t : Int} {b : Bool} (h1 : 1 ≤ i) (h2 : i < G.length) (h : turnD g t = true) : turnMD ⟨W, G.set i g, b⟩ i t = ⟨W, G.set i t, b⟩ := by
  have e : turnIs ⟨W, G.set i g, b⟩ i t = true := by
    rw [turnIs_at h1 (by simpa using h2)]
    show turnD (gi (G.set i g) i) t = true
    rw [gi_set _ _ _ _ h2, if_pos rfl]; exact h
  unfold turnMD; rw [if_pos e]; simp
theorem turn_no {W G : List Int} {i : Nat} {g t : Int} {b : Bool} (h1 : 1 ≤ i) (h2 : i < G.length) (h : turnD g t = false) : turnMD ⟨W, G.set i g, b⟩ i t = ⟨W, G.set i g, true⟩ := by
  have e : turnIs ⟨W, G.set i g, b⟩ i t = false := by
    rw [turnIs_at h1 (by simpa using h2)]
    show turnD (gi (G.set i g) i) t = false
    rw [gi_set _ _ _ _ h2, if_pos rfl]; exact h
  unfold turnMD; rw [if_neg (by simp [e])]

set_option maxHeartbeats 4000000 in
set_option maxRecDepth 100000 in
theorem memTurns_main (aw ag al : Option Addr) (cw cg cl : Nat) (m : Arena) (l : List Int) (x : Int) (i : Nat) (w : World) (hw : IsInts no w (.slice aw m.W.length cw) m.W) (hg : IsInts no w (.slice ag m.G.length cg) m.G) (hb : false = m.bad) (hm : mayD m 60 = true)
    (hi : 1 + x % ((m.G.length : Int) - 1) = i) (hi1 : 1 ≤ i) (hi2 : i < m.G.length) (hx0 : 0 ≤ x) (hx1 : x ≤ 255) (hl20 : l.length ≤ 20)
    (el : ∀ j, j < l.length → ∃ b off, al = some ⟨b, off, none⟩ ∧ b < w.heap.size ∧ w.cell? ⟨b, off + j, none⟩ = some (.int .u8 (gi l j)) ∧ (Lit.int .u8 (gi l j)).wf = true) :
    Gives Proofs.Try.prog 17 #[.agg #[.slice aw m.W.length cw, .slice ag m.G.length cg, .bool false], .int .u8 x, .slice al l.length cl] w (eqv (.bool true)) := by
  have km := fun (w' : World) (e : Ext w w') => memMay_ no _ m 60 (by omega) w' ((IsMem.mk hb hw hg : IsMem no w (.agg #[.slice aw m.W.length cw, .slice ag m.G.length cg, .bool false]) m).ext e)
  rw [hm] at km
  have hFit := Fits.of_may hm
  have hR := right_of_may hm
  have hgr := gi_right hR hi2
  have hl1 : 1 ≤ m.G.length := hFit.2.1
  have hl3 := hFit.2.2
  obtain ⟨_, _, e0, rg, lg, cgc⟩ := hg.opened
  cases e0
  obtain ⟨ba, oa, rfl, xa, na, ea⟩ := cgc i hi2
  have hz : ((m.G.length : Int) - 1 == 0) = false := by simp; omega
  have hl20' : ¬ (20 : Int) < (l.length : Int) := by omega
  have HB := Lib.hid hb
  have HF := Lib.hid hFit.1
  clear hb
  go_enter Proofs.Try.func17, Proofs.Try.ntmps17
  go_wp2_with (fail)
  go_at_call 49
  refine (shown2_ _).calls.mono ?_
  rintro e w1 ⟨_, rfl, hb1, rfl⟩
  have Bm_1 : Box w1 (w.heap.size) #[.slice aw m.W.length cw, .slice (some ⟨ba, oa, none⟩) m.G.length cg, .bool false] 50 := (Box.new _ _ _).ext hb1
  obtain ⟨cm0, cm1, cm2, dm0, dm1, dm2⟩ := cells3 Bm_1
  have zm : w.heap.size < w1.heap.size := Bm_1.lt
  go_wp2_with (fail)
  go_at_call 63
  refine (km _ (by with_reducible (repeat (first | assumption | exact Ext.refl _ | refine Ext.alloc' ?_ _ | refine Ext.store0 ?_ _ _ | refine Ext.storek ?_ _ _ _ | refine Ext.stores0 ?_ ?_ _ _ | refine Ext.storesk ?_ ?_ _ _ _ | refine Ext.drewN' ?_ _ | refine Ext.drew' ?_ | refine Ext.trans ?_ (by assumption))))).calls.mono ?_
  rintro e w2 ⟨_, rfl, hb2, rfl⟩
  have Bm_2 := Bm_1.ext (show Ext w1 w2 from (by with_reducible (repeat (first | assumption | exact Ext.refl _ | refine Ext.alloc' ?_ _ | refine Ext.store0 ?_ _ _ | refine Ext.storek ?_ _ _ _ | refine Ext.stores0 ?_ ?_ _ _ | refine Ext.storesk ?_ ?_ _ _ _ | refine Ext.drewN' ?_ _ | refine Ext.drew' ?_ | refine Ext.trans ?_ (by assumption)))))
  clear Bm_1 zm cm0 cm1 cm2 dm0 dm1 dm2
  obtain ⟨cm0, cm1, cm2, dm0, dm1, dm2⟩ := cells3 Bm_2
  have zm : w.heap.size < w2.heap.size := Bm_2.lt
  have ea2 := cell_ext ea (show Ext w w2 from (by with_reducible (repeat (first | assumption | exact Ext.refl _ | refine Ext.alloc' ?_ _ | refine Ext.store0 ?_ _ _ | refine Ext.storek ?_ _ _ _ | refine Ext.stores0 ?_ ?_ _ _ | refine Ext.storesk ?_ ?_ _ _ _ | refine Ext.drewN' ?_ _ | refine Ext.drew' ?_ | refine Ext.trans ?_ (by assumption)))))
  have zg : ba < w2.heap.size := World.block_lt_of_cell? _ _ ea2
  have hEw : Ext w w2 := (by with_reducible (repeat (first | assumption | exact Ext.refl _ | refine Ext.alloc' ?_ _ | refine Ext.store0 ?_ _ _ | refine Ext.storek ?_ _ _ _ | refine Ext.stores0 ?_ ?_ _ _ | refine Ext.storesk ?_ ?_ _ _ _ | refine Ext.drewN' ?_ _ | refine Ext.drew' ?_ | refine Ext.trans ?_ (by assumption))))
  obtain ⟨g0, hg0⟩ : ∃ g0, gi m.G i = g0 := ⟨_, rfl⟩
  rw [hg0] at ea2 hgr
  have HG := Lib.hid hg0
  clear hg0
  have hNlt : ∀ (w' : World), Ext w2 w' → w2.heap.size < w'.heap.size → ∀ b, (Bx no w2.heap.size (w2.heap.size + 1)) b → b < w'.heap.size := fun w' e e2 b hb' => hb'.elim (fun k => k.elim) (fun k => by omega)
  go_wp2
  go_loopw [10, 11, 12] (fun is bd kk wr => ∃ (k : Nat) (g : Int) (b : Bool) (x1 x3 : Option Addr) (x2 x4 : Nat), k ≤ l.length ∧ kk = .int .i64 k ∧ is = .int .i64 g ∧ bd = .bool b ∧ 0 ≤ g ∧ g ≤ 2 ∧ Ext w2 wr ∧ w2.heap.size < wr.heap.size ∧
      Box wr w2.heap.size #[.slice x1 m.W.length x2, .slice x3 m.G.length x4, .bool b] 50 ∧ IsInts (Bx no w2.heap.size (w2.heap.size + 1)) wr (.slice x1 m.W.length x2) m.W ∧ IsInts (Bx no w2.heap.size (w2.heap.size + 1)) wr (.slice x3 m.G.length x4) (m.G.set i g)) (fun _ _ kk _ => l.length - (intOf kk).toNat)
  case atStart =>
    refine ⟨0, g0, false, _, _, _, _, Nat.zero_le _, rfl, rfl, rfl, hgr.1, hgr.2, (by with_reducible (repeat (first | assumption | exact Ext.refl _ | refine Ext.alloc' ?_ _ | refine Ext.store0 ?_ _ _ | refine Ext.storek ?_ _ _ _ | refine Ext.stores0 ?_ ?_ _ _ | refine Ext.storesk ?_ ?_ _ _ _ | refine Ext.drewN' ?_ _ | refine Ext.drew' ?_ | refine Ext.trans ?_ (by assumption)))), by simp, Box.new _ _ _, ?_, ?_⟩
    · exact ((hw.ext hEw).less (M := (Bx no w2.heap.size (w2.heap.size + 1))) (fun _ hy hn => hn.elim id (fun k => absurd k.1 (by omega)))).ext (Ext.alloc _ _)
    · have hs : m.G.set i g0 = m.G := by rw [← HG.out, ← gi_eq m.G i hi2]; exact List.set_getElem_self hi2
      rw [hs]
      exact ((hg.ext hEw).less (M := (Bx no w2.heap.size (w2.heap.size + 1))) (fun _ hy hn => hn.elim id (fun k => absurd k.1 (by omega)))).ext (Ext.alloc _ _)
  case round =>
    obtain ⟨k, g, b, x1, x3, x2, x4, hk, rfl, rfl, rfl, hgl, hgh, hE0, hsz, hX, hxw, hxg⟩ := hrel
    obtain ⟨wr, rfl, hE⟩ := Ext.pick hE0
    clear hE0
    have hEr : Ext w wr := hEw.trans hE
    have Bm_3 := Bm_2.ext hE
    obtain ⟨cm0', cm1', cm2', dm0', dm1', dm2'⟩ := cells3 Bm_3
    have zm' := Bm_3.lt
    obtain ⟨cx0, cx1, cx2, dx0, dx1, dx2⟩ := cells3 hX
    by_cases hlt : k < l.length
    · obtain ⟨bl, ol, rfl, xl, nl, wfl⟩ := el k hlt
      obtain ⟨z0, z1⟩ := wf_u8 wfl
      obtain ⟨z, hz'⟩ : ∃ z, gi l k = z := ⟨_, rfl⟩
      rw [hz'] at nl z0 z1
      have nl' := cell_ext nl hEr
      have hlt1 : (k : Int) < (l.length : Int) := by omega
      clear hz' wfl nl
      have hgc : g = 0 ∨ g = 1 ∨ g = 2 := by omega
      have htc : z % 3 = 0 ∨ z % 3 = 1 ∨ z % 3 = 2 := by omega
      rcases hgc with rfl | rfl | rfl <;> rcases htc with ht | ht | ht
      · go_wp2_with (fail)
        go_at_call 70
        refine (memTurn_ (Bx no w2.heap.size (w2.heap.size + 1)) _ ⟨m.W, m.G.set i 0, b⟩ i 0 _ (IsMem.mk (m := ⟨m.W, m.G.set i 0, b⟩) rfl hxw hxg) (hFit.same ⟨rfl, by simp⟩) (hNlt _ hE hsz)).calls.mono ?_
        rintro e w3 ⟨_, rfl, hb3, hu⟩
        rw [turn_no hi1 hi2 (by decide)] at hu
        obtain ⟨y1, y2, y3, y4, rfl, wy, gy⟩ := hu.lit (a := m.W.length) (b := m.G.length) (c := true) rfl (by simp) rfl
        obtain ⟨_, _, e1, r1, l1, cgy⟩ := gy.opened
        simp at e1
        obtain ⟨rfl, rfl⟩ := e1
        obtain ⟨by_, oy, rfl, xy, ny, ey⟩ := cgy i (by simpa using hi2)
        rw [gi_set _ _ _ _ hi2, if_pos rfl] at ey
        have hne : ¬ by_ = w2.heap.size := fun e => ny (Bx.mem (by omega) (by omega))
        have hne' : ¬ w2.heap.size = by_ := fun e => hne e.symm
        have hX3 := hX.ext hb3
        obtain ⟨_, _, _, ex0, ex1, ex2⟩ := cells3 hX3
        have zx3 := hX3.lt
        obtain ⟨cm0, cm1, cm2, dm0, dm1, dm2⟩ := cells3 (Bm_3.ext hb3)
        clear cx0 cx1 cx2 dx0 dx1 dx2 cm0' cm1' cm2' dm0' dm1' dm2' nl'
        go_wp2
        go_roundw
        case rel => exact ⟨k + 1, 0, true, y1, some ⟨by_, oy, none⟩, y2, y4, by omega, by simp, rfl, rfl, by omega, by omega, (by with_reducible (repeat (first | assumption | exact Ext.refl _ | refine Ext.alloc' ?_ _ | refine Ext.store0 ?_ _ _ | refine Ext.storek ?_ _ _ _ | refine Ext.stores0 ?_ ?_ _ _ | refine Ext.storesk ?_ ?_ _ _ _ | refine Ext.drewN' ?_ _ | refine Ext.drew' ?_ | refine Ext.trans ?_ (by assumption)))), (((hX3.setCell _).setCell _).setCell _).lt, ((hX3.setCell _).setCell _).setCell _, wy.keep (by with_reducible (repeat (first | assumption | exact Keep.refl _ _ | refine Keep.alloc ?_ _ | refine Keep.s ?_ (by first | assumption | exact Bx.mem (by omega) (by omega)) | refine Keep.n ?_ (by omega) | refine Keep.ext ?_ (by assumption) | refine Keep.drew ?_))), gy.keep (by with_reducible (repeat (first | assumption | exact Keep.refl _ _ | refine Keep.alloc ?_ _ | refine Keep.s ?_ (by first | assumption | exact Bx.mem (by omega) (by omega)) | refine Keep.n ?_ (by omega) | refine Keep.ext ?_ (by assumption) | refine Keep.drew ?_)))⟩
        case measure => simp [intOf]; omega
      · go_wp2_with (fail)
        go_at_call 70
        refine (memTurn_ (Bx no w2.heap.size (w2.heap.size + 1)) _ ⟨m.W, m.G.set i 0, b⟩ i 1 _ (IsMem.mk (m := ⟨m.W, m.G.set i 0, b⟩) rfl hxw hxg) (hFit.same ⟨rfl, by simp⟩) (hNlt _ hE hsz)).calls.mono ?_
        rintro e w3 ⟨_, rfl, hb3, hu⟩
        rw [turn_yes hi1 hi2 (by decide)] at hu
        obtain ⟨y1, y2, y3, y4, rfl, wy, gy⟩ := hu.lit (a := m.W.length) (b := m.G.length) (c := b) rfl (by simp) rfl
        obtain ⟨_, _, e1, r1, l1, cgy⟩ := gy.opened
        simp at e1
        obtain ⟨rfl, rfl⟩ := e1
        obtain ⟨by_, oy, rfl, xy, ny, ey⟩ := cgy i (by simpa using hi2)
        rw [gi_set _ _ _ _ hi2, if_pos rfl] at ey
        have hne : ¬ by_ = w2.heap.size := fun e => ny (Bx.mem (by omega) (by omega))
        have hne' : ¬ w2.heap.size = by_ := fun e => hne e.symm
        have hX3 := hX.ext hb3
        obtain ⟨_, _, _, ex0, ex1, ex2⟩ := cells3 hX3
        have zx3 := hX3.lt
        obtain ⟨cm0, cm1, cm2, dm0, dm1, dm2⟩ := cells3 (Bm_3.ext hb3)
        clear cx0 cx1 cx2 dx0 dx1 dx2 cm0' cm1' cm2' dm0' dm1' dm2' nl'
        go_wp2
        go_roundw
        case rel => exact ⟨k + 1, 1, b, y1, some ⟨by_, oy, none⟩, y2, y4, by omega, by simp, rfl, rfl, by omega, by omega, (by with_reducible (repeat (first | assumption | exact Ext.refl _ | refine Ext.alloc' ?_ _ | refine Ext.store0 ?_ _ _ | refine Ext.storek ?_ _ _ _ | refine Ext.stores0 ?_ ?_ _ _ | refine Ext.storesk ?_ ?_ _ _ _ | refine Ext.drewN' ?_ _ | refine Ext.drew' ?_ | refine Ext.trans ?_ (by assumption)))), (((hX3.setCell _).setCell _).setCell _).lt, ((hX3.setCell _).setCell _).setCell _, wy.keep (by with_reducible (repeat (first | assumption | exact Keep.refl _ _ | refine Keep.alloc ?_ _ | refine Keep.s ?_ (by first | assumption | exact Bx.mem (by omega) (by omega)) | refine Keep.n ?_ (by omega) | refine Keep.ext ?_ (by assumption) | refine Keep.drew ?_))), gy.keep (by with_reducible (repeat (first | assumption | exact Keep.refl _ _ | refine Keep.alloc ?_ _ | refine Keep.s ?_ (by first | assumption | exact Bx.mem (by omega) (by omega)) | refine Keep.n ?_ (by omega) | refine Keep.ext ?_ (by assumption) | refine Keep.drew ?_)))⟩
        case measure => simp [intOf]; omega
      · go_wp2_with (fail)
        go_at_call 70
        refine (memTurn_ (Bx no w2.heap.size (w2.heap.size + 1)) _ ⟨m.W, m.G.set i 0, b⟩ i 2 _ (IsMem.mk (m := ⟨m.W, m.G.set i 0, b⟩) rfl hxw hxg) (hFit.same ⟨rfl, by simp⟩) (hNlt _ hE hsz)).calls.mono ?_
        rintro e w3 ⟨_, rfl, hb3, hu⟩
        rw [turn_no hi1 hi2 (by decide)] at hu
        obtain ⟨y1, y2, y3, y4, rfl, wy, gy⟩ := hu.lit (a := m.W.length) (b := m.G.length) (c := true) rfl (by simp) rfl
        obtain ⟨_, _, e1, r1, l1, cgy⟩ := gy.opened
        simp at e1
        obtain ⟨rfl, rfl⟩ := e1
        obtain ⟨by_, oy, rfl, xy, ny, ey⟩ := cgy i (by simpa using hi2)
        rw [gi_set _ _ _ _ hi2, if_pos rfl] at ey
        have hne : ¬ by_ = w2.heap.size := fun e => ny (Bx.mem (by omega) (by omega))
        have hne' : ¬ w2.heap.size = by_ := fun e => hne e.symm
        have hX3 := hX.ext hb3
        obtain ⟨_, _, _, ex0, ex1, ex2⟩ := cells3 hX3
        have zx3 := hX3.lt
        obtain ⟨cm0, cm1, cm2, dm0, dm1, dm2⟩ := cells3 (Bm_3.ext hb3)
        clear cx0 cx1 cx2 dx0 dx1 dx2 cm0' cm1' cm2' dm0' dm1' dm2' nl'
        go_wp2
        go_roundw
        case rel => exact ⟨k + 1, 0, true, y1, some ⟨by_, oy, none⟩, y2, y4, by omega, by simp, rfl, rfl, by omega, by omega, (by with_reducible (repeat (first | assumption | exact Ext.refl _ | refine Ext.alloc' ?_ _ | refine Ext.store0 ?_ _ _ | refine Ext.storek ?_ _ _ _ | refine Ext.stores0 ?_ ?_ _ _ | refine Ext.storesk ?_ ?_ _ _ _ | refine Ext.drewN' ?_ _ | refine Ext.drew' ?_ | refine Ext.trans ?_ (by assumption)))), (((hX3.setCell _).setCell _).setCell _).lt, ((hX3.setCell _).setCell _).setCell _, wy.keep (by with_reducible (repeat (first | assumption | exact Keep.refl _ _ | refine Keep.alloc ?_ _ | refine Keep.s ?_ (by first | assumption | exact Bx.mem (by omega) (by omega)) | refine Keep.n ?_ (by omega) | refine Keep.ext ?_ (by assumption) | refine Keep.drew ?_))), gy.keep (by with_reducible (repeat (first | assumption | exact Keep.refl _ _ | refine Keep.alloc ?_ _ | refine Keep.s ?_ (by first | assumption | exact Bx.mem (by omega) (by omega)) | refine Keep.n ?_ (by omega) | refine Keep.ext ?_ (by assumption) | refine Keep.drew ?_)))⟩
        case measure => simp [intOf]; omega
      · go_wp2_with (fail)
        go_at_call 70
        refine (memTurn_ (Bx no w2.heap.size (w2.heap.size + 1)) _ ⟨m.W, m.G.set i 1, b⟩ i 0 _ (IsMem.mk (m := ⟨m.W, m.G.set i 1, b⟩) rfl hxw hxg) (hFit.same ⟨rfl, by simp⟩) (hNlt _ hE hsz)).calls.mono ?_
        rintro e w3 ⟨_, rfl, hb3, hu⟩
        rw [turn_yes hi1 hi2 (by decide)] at hu
        obtain ⟨y1, y2, y3, y4, rfl, wy, gy⟩ := hu.lit (a := m.W.length) (b := m.G.length) (c := b) rfl (by simp) rfl
        obtain ⟨_, _, e1, r1, l1, cgy⟩ := gy.opened
        simp at e1
        obtain ⟨rfl, rfl⟩ := e1
        obtain ⟨by_, oy, rfl, xy, ny, ey⟩ := cgy i (by simpa using hi2)
        rw [gi_set _ _ _ _ hi2, if_pos rfl] at ey
        have hne : ¬ by_ = w2.heap.size := fun e => ny (Bx.mem (by omega) (by omega))
        have hne' : ¬ w2.heap.size = by_ := fun e => hne e.symm
        have hX3 := hX.ext hb3
        obtain ⟨_, _, _, ex0, ex1, ex2⟩ := cells3 hX3
        have zx3 := hX3.lt
        obtain ⟨cm0, cm1, cm2, dm0, dm1, dm2⟩ := cells3 (Bm_3.ext hb3)
        clear cx0 cx1 cx2 dx0 dx1 dx2 cm0' cm1' cm2' dm0' dm1' dm2' nl'
        go_wp2
        go_roundw
        case rel => exact ⟨k + 1, 0, b, y1, some ⟨by_, oy, none⟩, y2, y4, by omega, by simp, rfl, rfl, by omega, by omega, (by with_reducible (repeat (first | assumption | exact Ext.refl _ | refine Ext.alloc' ?_ _ | refine Ext.store0 ?_ _ _ | refine Ext.storek ?_ _ _ _ | refine Ext.stores0 ?_ ?_ _ _ | refine Ext.storesk ?_ ?_ _ _ _ | refine Ext.drewN' ?_ _ | refine Ext.drew' ?_ | refine Ext.trans ?_ (by assumption)))), (((hX3.setCell _).setCell _).setCell _).lt, ((hX3.setCell _).setCell _).setCell _, wy.keep (by with_reducible (repeat (first | assumption | exact Keep.refl _ _ | refine Keep.alloc ?_ _ | refine Keep.s ?_ (by first | assumption | exact Bx.mem (by omega) (by omega)) | refine Keep.n ?_ (by omega) | refine Keep.ext ?_ (by assumption) | refine Keep.drew ?_))), gy.keep (by with_reducible (repeat (first | assumption | exact Keep.refl _ _ | refine Keep.alloc ?_ _ | refine Keep.s ?_ (by first | assumption | exact Bx.mem (by omega) (by omega)) | refine Keep.n ?_ (by omega) | refine Keep.ext ?_ (by assumption) | refine Keep.drew ?_)))⟩
        case measure => simp [intOf]; omega
      · go_wp2_with (fail)
        go_at_call 70
        refine (memTurn_ (Bx no w2.heap.size (w2.heap.size + 1)) _ ⟨m.W, m.G.set i 1, b⟩ i 1 _ (IsMem.mk (m := ⟨m.W, m.G.set i 1, b⟩) rfl hxw hxg) (hFit.same ⟨rfl, by simp⟩) (hNlt _ hE hsz)).calls.mono ?_
        rintro e w3 ⟨_, rfl, hb3, hu⟩
        rw [turn_no hi1 hi2 (by decide)] at hu
        obtain ⟨y1, y2, y3, y4, rfl, wy, gy⟩ := hu.lit (a := m.W.length) (b := m.G.length) (c := true) rfl (by simp) rfl
        obtain ⟨_, _, e1, r1, l1, cgy⟩ := gy.opened
        simp at e1
        obtain ⟨rfl, rfl⟩ := e1
        obtain ⟨by_, oy, rfl, xy, ny, ey⟩ := cgy i (by simpa using hi2)
        rw [gi_set _ _ _ _ hi2, if_pos rfl] at ey
        have hne : ¬ by_ = w2.heap.size := fun e => ny (Bx.mem (by omega) (by omega))
        have hne' : ¬ w2.heap.size = by_ := fun e => hne e.symm
        have hX3 := hX.ext hb3
        obtain ⟨_, _, _, ex0, ex1, ex2⟩ := cells3 hX3
        have zx3 := hX3.lt
        obtain ⟨cm0, cm1, cm2, dm0, dm1, dm2⟩ := cells3 (Bm_3.ext hb3)
        clear cx0 cx1 cx2 dx0 dx1 dx2 cm0' cm1' cm2' dm0' dm1' dm2' nl'
        go_wp2
        go_roundw
        case rel => exact ⟨k + 1, 1, true, y1, some ⟨by_, oy, none⟩, y2, y4, by omega, by simp, rfl, rfl, by omega, by omega, (by with_reducible (repeat (first | assumption | exact Ext.refl _ | refine Ext.alloc' ?_ _ | refine Ext.store0 ?_ _ _ | refine Ext.storek ?_ _ _ _ | refine Ext.stores0 ?_ ?_ _ _ | refine Ext.storesk ?_ ?_ _ _ _ | refine Ext.drewN' ?_ _ | refine Ext.drew' ?_ | refine Ext.trans ?_ (by assumption)))), (((hX3.setCell _).setCell _).setCell _).lt, ((hX3.setCell _).setCell _).setCell _, wy.keep (by with_reducible (repeat (first | assumption | exact Keep.refl _ _ | refine Keep.alloc ?_ _ | refine Keep.s ?_ (by first | assumption | exact Bx.mem (by omega) (by omega)) | refine Keep.n ?_ (by omega) | refine Keep.ext ?_ (by assumption) | refine Keep.drew ?_))), gy.keep (by with_reducible (repeat (first | assumption | exact Keep.refl _ _ | refine Keep.alloc ?_ _ | refine Keep.s ?_ (by first | assumption | exact Bx.mem (by omega) (by omega)) | refine Keep.n ?_ (by omega) | refine Keep.ext ?_ (by assumption) | refine Keep.drew ?_)))⟩
        case measure => simp [intOf]; omega
      · go_wp2_with (fail)
        go_at_call 70
        refine (memTurn_ (Bx no w2.heap.size (w2.heap.size + 1)) _ ⟨m.W, m.G.set i 1, b⟩ i 2 _ (IsMem.mk (m := ⟨m.W, m.G.set i 1, b⟩) rfl hxw hxg) (hFit.same ⟨rfl, by simp⟩) (hNlt _ hE hsz)).calls.mono ?_
        rintro e w3 ⟨_, rfl, hb3, hu⟩
        rw [turn_yes hi1 hi2 (by decide)] at hu
        obtain ⟨y1, y2, y3, y4, rfl, wy, gy⟩ := hu.lit (a := m.W.length) (b := m.G.length) (c := b) rfl (by simp) rfl
        obtain ⟨_, _, e1, r1, l1, cgy⟩ := gy.opened
        simp at e1
        obtain ⟨rfl, rfl⟩ := e1
        obtain ⟨by_, oy, rfl, xy, ny, ey⟩ := cgy i (by simpa using hi2)
        rw [gi_set _ _ _ _ hi2, if_pos rfl] at ey
        have hne : ¬ by_ = w2.heap.size := fun e => ny (Bx.mem (by omega) (by omega))
        have hne' : ¬ w2.heap.size = by_ := fun e => hne e.symm
        have hX3 := hX.ext hb3
        obtain ⟨_, _, _, ex0, ex1, ex2⟩ := cells3 hX3
        have zx3 := hX3.lt
        obtain ⟨cm0, cm1, cm2, dm0, dm1, dm2⟩ := cells3 (Bm_3.ext hb3)
        clear cx0 cx1 cx2 dx0 dx1 dx2 cm0' cm1' cm2' dm0' dm1' dm2' nl'
        go_wp2
        go_roundw
        case rel => exact ⟨k + 1, 2, b, y1, some ⟨by_, oy, none⟩, y2, y4, by omega, by simp, rfl, rfl, by omega, by omega, (by with_reducible (repeat (first | assumption | exact Ext.refl _ | refine Ext.alloc' ?_ _ | refine Ext.store0 ?_ _ _ | refine Ext.storek ?_ _ _ _ | refine Ext.stores0 ?_ ?_ _ _ | refine Ext.storesk ?_ ?_ _ _ _ | refine Ext.drewN' ?_ _ | refine Ext.drew' ?_ | refine Ext.trans ?_ (by assumption)))), (((hX3.setCell _).setCell _).setCell _).lt, ((hX3.setCell _).setCell _).setCell _, wy.keep (by with_reducible (repeat (first | assumption | exact Keep.refl _ _ | refine Keep.alloc ?_ _ | refine Keep.s ?_ (by first | assumption | exact Bx.mem (by omega) (by omega)) | refine Keep.n ?_ (by omega) | refine Keep.ext ?_ (by assumption) | refine Keep.drew ?_))), gy.keep (by with_reducible (repeat (first | assumption | exact Keep.refl _ _ | refine Keep.alloc ?_ _ | refine Keep.s ?_ (by first | assumption | exact Bx.mem (by omega) (by omega)) | refine Keep.n ?_ (by omega) | refine Keep.ext ?_ (by assumption) | refine Keep.drew ?_)))⟩
        case measure => simp [intOf]; omega
      · go_wp2_with (fail)
        go_at_call 70
        refine (memTurn_ (Bx no w2.heap.size (w2.heap.size + 1)) _ ⟨m.W, m.G.set i 2, b⟩ i 0 _ (IsMem.mk (m := ⟨m.W, m.G.set i 2, b⟩) rfl hxw hxg) (hFit.same ⟨rfl, by simp⟩) (hNlt _ hE hsz)).calls.mono ?_
        rintro e w3 ⟨_, rfl, hb3, hu⟩
        rw [turn_yes hi1 hi2 (by decide)] at hu
        obtain ⟨y1, y2, y3, y4, rfl, wy, gy⟩ := hu.lit (a := m.W.length) (b := m.G.length) (c := b) rfl (by simp) rfl
        obtain ⟨_, _, e1, r1, l1, cgy⟩ := gy.opened
        simp at e1
        obtain ⟨rfl, rfl⟩ := e1
        obtain ⟨by_, oy, rfl, xy, ny, ey⟩ := cgy i (by simpa using hi2)
        rw [gi_set _ _ _ _ hi2, if_pos rfl] at ey
        have hne : ¬ by_ = w2.heap.size := fun e => ny (Bx.mem (by omega) (by omega))
        have hne' : ¬ w2.heap.size = by_ := fun e => hne e.symm
        have hX3 := hX.ext hb3
        obtain ⟨_, _, _, ex0, ex1, ex2⟩ := cells3 hX3
        have zx3 := hX3.lt
        obtain ⟨cm0, cm1, cm2, dm0, dm1, dm2⟩ := cells3 (Bm_3.ext hb3)
        clear cx0 cx1 cx2 dx0 dx1 dx2 cm0' cm1' cm2' dm0' dm1' dm2' nl'
        go_wp2
        go_roundw
        case rel => exact ⟨k + 1, 0, b, y1, some ⟨by_, oy, none⟩, y2, y4, by omega, by simp, rfl, rfl, by omega, by omega, (by with_reducible (repeat (first | assumption | exact Ext.refl _ | refine Ext.alloc' ?_ _ | refine Ext.store0 ?_ _ _ | refine Ext.storek ?_ _ _ _ | refine Ext.stores0 ?_ ?_ _ _ | refine Ext.storesk ?_ ?_ _ _ _ | refine Ext.drewN' ?_ _ | refine Ext.drew' ?_ | refine Ext.trans ?_ (by assumption)))), (((hX3.setCell _).setCell _).setCell _).lt, ((hX3.setCell _).setCell _).setCell _, wy.keep (by with_reducible (repeat (first | assumption | exact Keep.refl _ _ | refine Keep.alloc ?_ _ | refine Keep.s ?_ (by first | assumption | exact Bx.mem (by omega) (by omega)) | refine Keep.n ?_ (by omega) | refine Keep.ext ?_ (by assumption) | refine Keep.drew ?_))), gy.keep (by with_reducible (repeat (first | assumption | exact Keep.refl _ _ | refine Keep.alloc ?_ _ | refine Keep.s ?_ (by first | assumption | exact Bx.mem (by omega) (by omega)) | refine Keep.n ?_ (by omega) | refine Keep.ext ?_ (by assumption) | refine Keep.drew ?_)))⟩
        case measure => simp [intOf]; omega
      · go_wp2_with (fail)
        go_at_call 70
        refine (memTurn_ (Bx no w2.heap.size (w2.heap.size + 1)) _ ⟨m.W, m.G.set i 2, b⟩ i 1 _ (IsMem.mk (m := ⟨m.W, m.G.set i 2, b⟩) rfl hxw hxg) (hFit.same ⟨rfl, by simp⟩) (hNlt _ hE hsz)).calls.mono ?_
        rintro e w3 ⟨_, rfl, hb3, hu⟩
        rw [turn_no hi1 hi2 (by decide)] at hu
        obtain ⟨y1, y2, y3, y4, rfl, wy, gy⟩ := hu.lit (a := m.W.length) (b := m.G.length) (c := true) rfl (by simp) rfl
        obtain ⟨_, _, e1, r1, l1, cgy⟩ := gy.opened
        simp at e1
        obtain ⟨rfl, rfl⟩ := e1
        obtain ⟨by_, oy, rfl, xy, ny, ey⟩ := cgy i (by simpa using hi2)
        rw [gi_set _ _ _ _ hi2, if_pos rfl] at ey
        have hne : ¬ by_ = w2.heap.size := fun e => ny (Bx.mem (by omega) (by omega))
        have hne' : ¬ w2.heap.size = by_ := fun e => hne e.symm
        have hX3 := hX.ext hb3
        obtain ⟨_, _, _, ex0, ex1, ex2⟩ := cells3 hX3
        have zx3 := hX3.lt
        obtain ⟨cm0, cm1, cm2, dm0, dm1, dm2⟩ := cells3 (Bm_3.ext hb3)
        clear cx0 cx1 cx2 dx0 dx1 dx2 cm0' cm1' cm2' dm0' dm1' dm2' nl'
        go_wp2
        go_roundw
        case rel => exact ⟨k + 1, 2, true, y1, some ⟨by_, oy, none⟩, y2, y4, by omega, by simp, rfl, rfl, by omega, by omega, (by with_reducible (repeat (first | assumption | exact Ext.refl _ | refine Ext.alloc' ?_ _ | refine Ext.store0 ?_ _ _ | refine Ext.storek ?_ _ _ _ | refine Ext.stores0 ?_ ?_ _ _ | refine Ext.storesk ?_ ?_ _ _ _ | refine Ext.drewN' ?_ _ | refine Ext.drew' ?_ | refine Ext.trans ?_ (by assumption)))), (((hX3.setCell _).setCell _).setCell _).lt, ((hX3.setCell _).setCell _).setCell _, wy.keep (by with_reducible (repeat (first | assumption | exact Keep.refl _ _ | refine Keep.alloc ?_ _ | refine Keep.s ?_ (by first | assumption | exact Bx.mem (by omega) (by omega)) | refine Keep.n ?_ (by omega) | refine Keep.ext ?_ (by assumption) | refine Keep.drew ?_))), gy.keep (by with_reducible (repeat (first | assumption | exact Keep.refl _ _ | refine Keep.alloc ?_ _ | refine Keep.s ?_ (by first | assumption | exact Bx.mem (by omega) (by omega)) | refine Keep.n ?_ (by omega) | refine Keep.ext ?_ (by assumption) | refine Keep.drew ?_)))⟩
        case measure => simp [intOf]; omega
      · go_wp2_with (fail)
        go_at_call 70
        refine (memTurn_ (Bx no w2.heap.size (w2.heap.size + 1)) _ ⟨m.W, m.G.set i 2, b⟩ i 2 _ (IsMem.mk (m := ⟨m.W, m.G.set i 2, b⟩) rfl hxw hxg) (hFit.same ⟨rfl, by simp⟩) (hNlt _ hE hsz)).calls.mono ?_
        rintro e w3 ⟨_, rfl, hb3, hu⟩
        rw [turn_no hi1 hi2 (by decide)] at hu
        obtain ⟨y1, y2, y3, y4, rfl, wy, gy⟩ := hu.lit (a := m.W.length) (b := m.G.length) (c := true) rfl (by simp) rfl
        obtain ⟨_, _, e1, r1, l1, cgy⟩ := gy.opened
        simp at e1
        obtain ⟨rfl, rfl⟩ := e1
        obtain ⟨by_, oy, rfl, xy, ny, ey⟩ := cgy i (by simpa using hi2)
        rw [gi_set _ _ _ _ hi2, if_pos rfl] at ey
        have hne : ¬ by_ = w2.heap.size := fun e => ny (Bx.mem (by omega) (by omega))
        have hne' : ¬ w2.heap.size = by_ := fun e => hne e.symm
        have hX3 := hX.ext hb3
        obtain ⟨_, _, _, ex0, ex1, ex2⟩ := cells3 hX3
        have zx3 := hX3.lt
        obtain ⟨cm0, cm1, cm2, dm0, dm1, dm2⟩ := cells3 (Bm_3.ext hb3)
        clear cx0 cx1 cx2 dx0 dx1 dx2 cm0' cm1' cm2' dm0' dm1' dm2' nl'
        go_wp2
        go_roundw
        case rel => exact ⟨k + 1, 2, true, y1, some ⟨by_, oy, none⟩, y2, y4, by omega, by simp, rfl, rfl, by omega, by omega, (by with_reducible (repeat (first | assumption | exact Ext.refl _ | refine Ext.alloc' ?_ _ | refine Ext.store0 ?_ _ _ | refine Ext.storek ?_ _ _ _ | refine Ext.stores0 ?_ ?_ _ _ | refine Ext.storesk ?_ ?_ _ _ _ | refine Ext.drewN' ?_ _ | refine Ext.drew' ?_ | refine Ext.trans ?_ (by assumption)))), (((hX3.setCell _).setCell _).setCell _).lt, ((hX3.setCell _).setCell _).setCell _, wy.keep (by with_reducible (repeat (first | assumption | exact Keep.refl _ _ | refine Keep.alloc ?_ _ | refine Keep.s ?_ (by first | assumption | exact Bx.mem (by omega) (by omega)) | refine Keep.n ?_ (by omega) | refine Keep.ext ?_ (by assumption) | refine Keep.drew ?_))), gy.keep (by with_reducible (repeat (first | assumption | exact Keep.refl _ _ | refine Keep.alloc ?_ _ | refine Keep.s ?_ (by first | assumption | exact Bx.mem (by omega) (by omega)) | refine Keep.n ?_ (by omega) | refine Keep.ext ?_ (by assumption) | refine Keep.drew ?_)))⟩
        case measure => simp [intOf]; omega
    · have hlt1 : ¬ (k : Int) < (l.length : Int) := by omega
      obtain ⟨_, _, e1, r1, l1, cgx⟩ := hxg.opened
      simp at e1
      obtain ⟨rfl, rfl⟩ := e1
      obtain ⟨bx, ox, rfl, xx, nx, ex⟩ := cgx i (by simpa using hi2)
      go_wp2
      go_loopw [14] (fun kk wq => ∃ k : Nat, k ≤ m.G.length ∧ kk = .int .i64 k ∧ Ext wr wq) (fun kk _ => m.G.length - (intOf kk).toNat)
      case atStart => exact ⟨0, Nat.zero_le _, rfl, Ext.refl _⟩
      case round =>
        obtain ⟨j, hj, rfl, hQ0⟩ := hrel
        obtain ⟨wq, rfl, hQ⟩ := Ext.pick hQ0
        clear hQ0
        have Bm_4 := Bm_3.ext hQ
        have Bx_4 := hX.ext hQ
        obtain ⟨cm0, cm1, cm2, dm0, dm1, dm2⟩ := cells3 Bm_4
        have zm4 := Bm_4.lt
        obtain ⟨ex0, ex1, ex2, fx0, fx1, fx2⟩ := cells3 Bx_4
        have zx4 := Bx_4.lt
        clear cm0' cm1' cm2' dm0' dm1' dm2' cx0 cx1 cx2 dx0 dx1 dx2
        by_cases hlj : j < m.G.length
        · have hlj1 : (j : Int) < (m.G.length : Int) := by omega
          obtain ⟨_, _, e4, _, _, em⟩ := cgc j hlj
          simp at e4
          obtain ⟨rfl, rfl⟩ := e4
          obtain ⟨_, _, e5, _, _, ey⟩ := cgx j (by simpa using hlj)
          simp at e5
          obtain ⟨rfl, rfl⟩ := e5
          have em4 : wq.cell? ⟨ba, oa + (j : Int).toNat * 1, none⟩ = some (.int .i64 (gi m.G j)) := by simpa using cell_ext em (hEr.trans hQ)
          have ey4 : wq.cell? ⟨bx, ox + (j : Int).toNat * 1, none⟩ = some (.int .i64 (gi (m.G.set i g) j)) := by simpa using cell_ext ey hQ
          rw [gi_set _ _ _ _ hi2] at ey4
          by_cases hji : i = j
          · subst hji
            go_wp2_with (fail)
            apply region_lit2 (T := []) (L := []) (X := []) (G := [eqv _, eqv _, eqv (.bool false), eqv _, anyG, anyG, anyG, anyG, anyG, anyG, anyG, anyG, anyG, anyG, anyG, eqv _])
            case hm => kernel_rfl
            case hop =>
              refine ⟨?_, ?_, ?_, ?_, ?_, ?_, ?_, ?_, ?_, ?_, ?_, ?_, ?_, ?_, ?_, ?_, trivial⟩
              · intro a wa hs hf hd
                have t14 := hf.off 14 (by kernel_rfl) rfl
                exact plain_ rfl (yes_eqv (o_move rfl t14) rfl)
              · intro a wa hs hf hd
                have t8 := hf.off 8 (by kernel_rfl) rfl
                exact plain_ rfl (yes_eqv (o_move rfl t8) rfl)
              · intro a wa hs hf hd
                have t111 : a.eval (.tmp 111) = _ := hd.at 0 111 (by kernel_rfl)
                have t112 : a.eval (.tmp 112) = _ := hd.at 1 112 (by kernel_rfl)
                exact plain_ rfl (yes_eqv (o_neq rfl t111 t112 (by simp)) rfl)
              · intro a wa hs hf hd
                have t113 : a.eval (.tmp 113) = _ := hd.at 2 113 (by kernel_rfl)
                exact plain_ rfl (yes_eqv (o_move rfl t113) rfl)
              · intro a wa hs hf hd
                have t114 : a.eval (.tmp 114) = _ := hd.at 3 114 (by kernel_rfl)
                exact guard_off rfl rfl t114 trivial
              · intro a wa hs hf hd
                have t114 : a.eval (.tmp 114) = _ := hd.at 3 114 (by kernel_rfl)
                exact guard_off rfl rfl t114 trivial
              · intro a wa hs hf hd
                have t114 : a.eval (.tmp 114) = _ := hd.at 3 114 (by kernel_rfl)
                exact guard_off rfl rfl t114 trivial
              · intro a wa hs hf hd
                have t114 : a.eval (.tmp 114) = _ := hd.at 3 114 (by kernel_rfl)
                exact guard_off rfl rfl t114 trivial
              · intro a wa hs hf hd
                have t114 : a.eval (.tmp 114) = _ := hd.at 3 114 (by kernel_rfl)
                exact guard_off rfl rfl t114 trivial
              · intro a wa hs hf hd
                have t114 : a.eval (.tmp 114) = _ := hd.at 3 114 (by kernel_rfl)
                exact guard_off rfl rfl t114 trivial
              · intro a wa hs hf hd
                have t114 : a.eval (.tmp 114) = _ := hd.at 3 114 (by kernel_rfl)
                exact guard_off rfl rfl t114 trivial
              · intro a wa hs hf hd
                have t114 : a.eval (.tmp 114) = _ := hd.at 3 114 (by kernel_rfl)
                exact guard_off rfl rfl t114 trivial
              · intro a wa hs hf hd
                have t114 : a.eval (.tmp 114) = _ := hd.at 3 114 (by kernel_rfl)
                exact guard_off rfl rfl t114 trivial
              · intro a wa hs hf hd
                have t114 : a.eval (.tmp 114) = _ := hd.at 3 114 (by kernel_rfl)
                exact guard_off rfl rfl t114 trivial
              · intro a wa hs hf hd
                have t114 : a.eval (.tmp 114) = _ := hd.at 3 114 (by kernel_rfl)
                exact guard_off rfl rfl t114 trivial
              · intro a wa hs hf hd
                have t114 : a.eval (.tmp 114) = _ := hd.at 3 114 (by kernel_rfl)
                exact plain_ rfl (yes_eqv (o_pick_f rfl t114 rfl) rfl)
            case hG => exact ⟨stable_eqv _, stable_eqv _, stable_eqv _, stable_eqv _, stable_any, stable_any, stable_any, stable_any, stable_any, stable_any, stable_any, stable_any, stable_any, stable_any, stable_any, stable_eqv _, trivial⟩
            case hc => kernel_rfl
            case hfin =>
              intro v2 hs2
              rintro _ rfl _ rfl _ rfl _ rfl _ _ _ _ _ _ _ _ _ _ _ _ _ _ _ _ _ _ _ _ _ _ _ rfl
              rintro _ rfl
              simp only [Act.put, List.setIfInBounds_toArray, List.set_cons_zero, List.set_cons_succ]
              go_wp2
              go_roundw
              case rel => exact ⟨i + 1, by omega, by simp, hQ.trans (Since.to_ext hs2)⟩
              case measure => simp [intOf]; omega
          · rw [if_neg hji] at ey4
            go_wp2_with (fail)
            apply region_lit2 (T := []) (L := []) (X := []) (G := [eqv _, eqv _, eqv (.bool true), eqv _, eqv _, eqv _, eqv _, eqv _, eqv _, eqv _, eqv _, eqv _, eqv _, eqv _, eqv (.bool false), eqv _])
            case hm => kernel_rfl
            case hop =>
              refine ⟨?_, ?_, ?_, ?_, ?_, ?_, ?_, ?_, ?_, ?_, ?_, ?_, ?_, ?_, ?_, ?_, trivial⟩
              · intro a wa hs hf hd
                have t14 := hf.off 14 (by kernel_rfl) rfl
                exact plain_ rfl (yes_eqv (o_move rfl t14) rfl)
              · intro a wa hs hf hd
                have t8 := hf.off 8 (by kernel_rfl) rfl
                exact plain_ rfl (yes_eqv (o_move rfl t8) rfl)
              · intro a wa hs hf hd
                have t111 : a.eval (.tmp 111) = _ := hd.at 0 111 (by kernel_rfl)
                have t112 : a.eval (.tmp 112) = _ := hd.at 1 112 (by kernel_rfl)
                exact plain_ rfl (yes_eqv (o_neq rfl t111 t112 (by simp; omega)) rfl)
              · intro a wa hs hf hd
                have t113 : a.eval (.tmp 113) = _ := hd.at 2 113 (by kernel_rfl)
                exact plain_ rfl (yes_eqv (o_move rfl t113) rfl)
              · intro a wa hs hf hd
                have t114 : a.eval (.tmp 114) = _ := hd.at 3 114 (by kernel_rfl)
                have t9 := hf.off 9 (by kernel_rfl) rfl
                exact guard_on rfl rfl t114 (yes_eqv (o_fieldAddr rfl Proofs.Try.underlying50 rfl rfl (by kernel_rfl) t9) rfl)
              · intro a wa hs hf hd
                have t114 : a.eval (.tmp 114) = _ := hd.at 3 114 (by kernel_rfl)
                have t115 : a.eval (.tmp 115) = _ := hd.at 4 115 (by kernel_rfl)
                exact guard_on rfl rfl t114 (yes_eqv (o_load1 rfl Proofs.Try.underlying48 rfl t115 ((Bx_4.since hs rfl).cell rfl)) rfl)
              · intro a wa hs hf hd
                have t114 : a.eval (.tmp 114) = _ := hd.at 3 114 (by kernel_rfl)
                have t14 := hf.off 14 (by kernel_rfl) rfl
                exact guard_on rfl rfl t114 (yes_eqv (o_move rfl t14) rfl)
              · intro a wa hs hf hd
                have t114 : a.eval (.tmp 114) = _ := hd.at 3 114 (by kernel_rfl)
                have t116 : a.eval (.tmp 116) = _ := hd.at 5 116 (by kernel_rfl)
                have t117 : a.eval (.tmp 117) = _ := hd.at 6 117 (by kernel_rfl)
                exact guard_on rfl rfl t114 (yes_eqv (o_indexAddr (sz := 1) rfl Proofs.Try.underlying48 (by kernel_rfl) t116 t117 (by omega) (by omega)) rfl)
              · intro a wa hs hf hd
                have t114 : a.eval (.tmp 114) = _ := hd.at 3 114 (by kernel_rfl)
                have t118 : a.eval (.tmp 118) = _ := hd.at 7 118 (by kernel_rfl)
                exact guard_on rfl rfl t114 (yes_eqv (o_load1 rfl Proofs.Try.underlying3 rfl t118 (cell_since ey4 hs rfl)) rfl)
              · intro a wa hs hf hd
                have t114 : a.eval (.tmp 114) = _ := hd.at 3 114 (by kernel_rfl)
                have t3 := hf.off 3 (by kernel_rfl) rfl
                exact guard_on rfl rfl t114 (yes_eqv (o_fieldAddr rfl Proofs.Try.underlying50 rfl rfl (by kernel_rfl) t3) rfl)
              · intro a wa hs hf hd
                have t114 : a.eval (.tmp 114) = _ := hd.at 3 114 (by kernel_rfl)
                have t120 : a.eval (.tmp 120) = _ := hd.at 9 120 (by kernel_rfl)
                exact guard_on rfl rfl t114 (yes_eqv (o_load1 rfl Proofs.Try.underlying48 rfl t120 ((Bm_4.since hs rfl).cell rfl)) rfl)
              · intro a wa hs hf hd
                have t114 : a.eval (.tmp 114) = _ := hd.at 3 114 (by kernel_rfl)
                have t14 := hf.off 14 (by kernel_rfl) rfl
                exact guard_on rfl rfl t114 (yes_eqv (o_move rfl t14) rfl)
              · intro a wa hs hf hd
                have t114 : a.eval (.tmp 114) = _ := hd.at 3 114 (by kernel_rfl)
                have t121 : a.eval (.tmp 121) = _ := hd.at 10 121 (by kernel_rfl)
                have t122 : a.eval (.tmp 122) = _ := hd.at 11 122 (by kernel_rfl)
                exact guard_on rfl rfl t114 (yes_eqv (o_indexAddr (sz := 1) rfl Proofs.Try.underlying48 (by kernel_rfl) t121 t122 (by omega) (by omega)) rfl)
              · intro a wa hs hf hd
                have t114 : a.eval (.tmp 114) = _ := hd.at 3 114 (by kernel_rfl)
                have t123 : a.eval (.tmp 123) = _ := hd.at 12 123 (by kernel_rfl)
                exact guard_on rfl rfl t114 (yes_eqv (o_load1 rfl Proofs.Try.underlying3 rfl t123 (cell_since em4 hs rfl)) rfl)
              · intro a wa hs hf hd
                have t114 : a.eval (.tmp 114) = _ := hd.at 3 114 (by kernel_rfl)
                have t119 : a.eval (.tmp 119) = _ := hd.at 8 119 (by kernel_rfl)
                have t124 : a.eval (.tmp 124) = _ := hd.at 13 124 (by kernel_rfl)
                exact guard_on rfl rfl t114 (yes_eqv (o_neq rfl t119 t124 (by simp)) rfl)
              · intro a wa hs hf hd
                have t114 : a.eval (.tmp 114) = _ := hd.at 3 114 (by kernel_rfl)
                have t125 : a.eval (.tmp 125) = _ := hd.at 14 125 (by kernel_rfl)
                exact plain_ rfl (yes_eqv (o_pick_t rfl t114 t125) rfl)
            case hG => exact ⟨stable_eqv _, stable_eqv _, stable_eqv _, stable_eqv _, stable_eqv _, stable_eqv _, stable_eqv _, stable_eqv _, stable_eqv _, stable_eqv _, stable_eqv _, stable_eqv _, stable_eqv _, stable_eqv _, stable_eqv _, stable_eqv _, trivial⟩
            case hc => kernel_rfl
            case hfin =>
              intro v2 hs2
              rintro _ rfl _ rfl _ rfl _ rfl _ rfl _ rfl _ rfl _ rfl _ rfl _ rfl _ rfl _ rfl _ rfl _ rfl _ rfl _ rfl
              rintro _ rfl
              simp only [Act.put, List.setIfInBounds_toArray, List.set_cons_zero, List.set_cons_succ]
              go_wp2
              go_roundw
              case rel => exact ⟨j + 1, by omega, by simp, hQ.trans (Since.to_ext hs2)⟩
              case measure => simp [intOf]; omega
        · have hlj1 : ¬ (j : Int) < (m.G.length : Int) := by omega
          go_wp2_with (fail)
          go_at_call 72
          refine (refInts_ no _ _ m.W m.W _ ((hxw.less (M := no) (fun _ _ h => h.elim)).ext (by with_reducible (repeat (first | assumption | exact Ext.refl _ | refine Ext.alloc' ?_ _ | refine Ext.store0 ?_ _ _ | refine Ext.storek ?_ _ _ _ | refine Ext.stores0 ?_ ?_ _ _ | refine Ext.storesk ?_ ?_ _ _ _ | refine Ext.drewN' ?_ _ | refine Ext.drew' ?_ | refine Ext.trans ?_ (by assumption))))) (hw.ext (by with_reducible (repeat (first | assumption | exact Ext.refl _ | refine Ext.alloc' ?_ _ | refine Ext.store0 ?_ _ _ | refine Ext.storek ?_ _ _ _ | refine Ext.stores0 ?_ ?_ _ _ | refine Ext.storesk ?_ ?_ _ _ _ | refine Ext.drewN' ?_ _ | refine Ext.drew' ?_ | refine Ext.trans ?_ (by assumption)))))).calls.mono ?_
          rintro e w6 ⟨_, rfl, hb6, rfl⟩
          rw [show (m.W == m.W) = true by simp]
          go_wp2
          go_ret
          exact ⟨_, rfl, (by with_reducible (repeat (first | assumption | exact Ext.refl _ | refine Ext.alloc' ?_ _ | refine Ext.store0 ?_ _ _ | refine Ext.storek ?_ _ _ _ | refine Ext.stores0 ?_ ?_ _ _ | refine Ext.storesk ?_ ?_ _ _ _ | refine Ext.drewN' ?_ _ | refine Ext.drew' ?_ | refine Ext.trans ?_ (by assumption)))), rfl⟩

set_option maxHeartbeats 1000000 in
set_option maxRecDepth 100000 in
theorem memTurns_ (v0 v1 v2 v4 : Value) (m : Arena) (x : Int) (l : List Int) (w : World) (h : IsMem no w (.agg #[v0, v1, v2]) m) (hl : IsNums .u8 w v4 l) (hx0 : 0 ≤ x) (hx1 : x ≤ 255) :
    Gives Proofs.Try.prog 17 #[.agg #[v0, v1, v2], .int .u8 x, v4] w (eqv (.bool true)) := by
  have km := fun (w' : World) (e : Ext w w') => memMay_ no _ m 60 (by omega) w' (h.ext e)
  obtain ⟨aw, cw, ag, cg, e, hw, hg⟩ := h.opened
  obtain ⟨rfl, rfl, rfl⟩ : v0 = .slice aw m.W.length cw ∧ v1 = .slice ag m.G.length cg ∧ v2 = .bool m.bad := by simpa using e
  clear e
  obtain ⟨al, cl, rfl, hlc, hlm, el⟩ := hl
  cases hm : mayD m 60
  · rw [hm] at km
    go_enter Proofs.Try.func17, Proofs.Try.ntmps17
    go_wp2_with (fail)
    go_at_call 49
    refine (shown2_ _).calls.mono ?_
    rintro e w1 ⟨_, rfl, hb1, rfl⟩
    have Bm_1 : Box w1 (w.heap.size) #[.slice aw m.W.length cw, .slice ag m.G.length cg, .bool m.bad] 50 := (Box.new _ _ _).ext hb1
    obtain ⟨cm0, cm1, cm2, dm0, dm1, dm2⟩ := cells3 Bm_1
    have zm : w.heap.size < w1.heap.size := Bm_1.lt
    go_wp2_with (fail)
    go_at_call 63
    refine (km _ (by with_reducible (repeat (first | assumption | exact Ext.refl _ | refine Ext.alloc' ?_ _ | refine Ext.store0 ?_ _ _ | refine Ext.storek ?_ _ _ _ | refine Ext.stores0 ?_ ?_ _ _ | refine Ext.storesk ?_ ?_ _ _ _ | refine Ext.drewN' ?_ _ | refine Ext.drew' ?_ | refine Ext.trans ?_ (by assumption))))).calls.mono ?_
    rintro e w2 ⟨_, rfl, hb2, rfl⟩
    have Bm_2 := Bm_1.ext (show Ext w1 w2 from (by with_reducible (repeat (first | assumption | exact Ext.refl _ | refine Ext.alloc' ?_ _ | refine Ext.store0 ?_ _ _ | refine Ext.storek ?_ _ _ _ | refine Ext.stores0 ?_ ?_ _ _ | refine Ext.storesk ?_ ?_ _ _ _ | refine Ext.drewN' ?_ _ | refine Ext.drew' ?_ | refine Ext.trans ?_ (by assumption)))))
    clear Bm_1 zm cm0 cm1 cm2 dm0 dm1 dm2
    obtain ⟨cm0, cm1, cm2, dm0, dm1, dm2⟩ := cells3 Bm_2
    have zm : w.heap.size < w2.heap.size := Bm_2.lt
    go_wp2
    go_ret
    exact ⟨_, rfl, (by with_reducible (repeat (first | assumption | exact Ext.refl _ | refine Ext.alloc' ?_ _ | refine Ext.store0 ?_ _ _ | refine Ext.storek ?_ _ _ _ | refine Ext.stores0 ?_ ?_ _ _ | refine Ext.storesk ?_ ?_ _ _ _ | refine Ext.drewN' ?_ _ | refine Ext.drew' ?_ | refine Ext.trans ?_ (by assumption)))), rfl⟩
  · cases hb : m.bad
    · by_cases h20 : l.length ≤ 20
      · have hl2 : 2 ≤ m.G.length := by simp [mayD, rightD] at hm; exact hm.2.1.1
        obtain ⟨j, hj⟩ : ∃ j : Nat, x % ((m.G.length : Int) - 1) = j := ⟨(x % ((m.G.length : Int) - 1)).toNat, by have := Int.emod_nonneg x (show (m.G.length : Int) - 1 ≠ 0 by omega); omega⟩
        have hj2 : (j : Int) < (m.G.length : Int) - 1 := by rw [← hj]; exact Int.emod_lt_of_pos x (by omega)
        exact memTurns_main aw ag al cw cg cl m l x (j + 1) w hw hg hb.symm hm (by rw [hj]; omega) (by omega) (by omega) hx0 hx1 h20 el
      · have h20' : (20 : Int) < (l.length : Int) := by omega
        rw [hm] at km
        rw [hb] at km
        go_enter Proofs.Try.func17, Proofs.Try.ntmps17
        go_wp2_with (fail)
        go_at_call 49
        refine (shown2_ _).calls.mono ?_
        rintro e w1 ⟨_, rfl, hb1, rfl⟩
        have Bm_1 : Box w1 (w.heap.size) #[.slice aw m.W.length cw, .slice ag m.G.length cg, .bool false] 50 := (Box.new _ _ _).ext hb1
        obtain ⟨cm0, cm1, cm2, dm0, dm1, dm2⟩ := cells3 Bm_1
        have zm : w.heap.size < w1.heap.size := Bm_1.lt
        go_wp2_with (fail)
        go_at_call 63
        refine (km _ (by with_reducible (repeat (first | assumption | exact Ext.refl _ | refine Ext.alloc' ?_ _ | refine Ext.store0 ?_ _ _ | refine Ext.storek ?_ _ _ _ | refine Ext.stores0 ?_ ?_ _ _ | refine Ext.storesk ?_ ?_ _ _ _ | refine Ext.drewN' ?_ _ | refine Ext.drew' ?_ | refine Ext.trans ?_ (by assumption))))).calls.mono ?_
        rintro e w2 ⟨_, rfl, hb2, rfl⟩
        have Bm_2 := Bm_1.ext (show Ext w1 w2 from (by with_reducible (repeat (first | assumption | exact Ext.refl _ | refine Ext.alloc' ?_ _ | refine Ext.store0 ?_ _ _ | refine Ext.storek ?_ _ _ _ | refine Ext.stores0 ?_ ?_ _ _ | refine Ext.storesk ?_ ?_ _ _ _ | refine Ext.drewN' ?_ _ | refine Ext.drew' ?_ | refine Ext.trans ?_ (by assumption)))))
        clear Bm_1 zm cm0 cm1 cm2 dm0 dm1 dm2
        obtain ⟨cm0, cm1, cm2, dm0, dm1, dm2⟩ := cells3 Bm_2
        have zm : w.heap.size < w2.heap.size := Bm_2.lt
        go_wp2
        go_ret
        exact ⟨_, rfl, (by with_reducible (repeat (first | assumption | exact Ext.refl _ | refine Ext.alloc' ?_ _ | refine Ext.store0 ?_ _ _ | refine Ext.storek ?_ _ _ _ | refine Ext.stores0 ?_ ?_ _ _ | refine Ext.storesk ?_ ?_ _ _ _ | refine Ext.drewN' ?_ _ | refine Ext.drew' ?_ | refine Ext.trans ?_ (by assumption)))), rfl⟩
    · rw [hm] at km
      rw [hb] at km
      go_enter Proofs.Try.func17, Proofs.Try.ntmps17
      go_wp2_with (fail)
      go_at_call 49
      refine (shown2_ _).calls.mono ?_
      rintro e w1 ⟨_, rfl, hb1, rfl⟩
      have Bm_1 : Box w1 (w.heap.size) #[.slice aw m.W.length cw, .slice ag m.G.length cg, .bool true] 50 := (Box.new _ _ _).ext hb1
      obtain ⟨cm0, cm1, cm2, dm0, dm1, dm2⟩ := cells3 Bm_1
      have zm : w.heap.size < w1.heap.size := Bm_1.lt
      go_wp2_with (fail)
      go_at_call 63
      refine (km _ (by with_reducible (repeat (first | assumption | exact Ext.refl _ | refine Ext.alloc' ?_ _ | refine Ext.store0 ?_ _ _ | refine Ext.storek ?_ _ _ _ | refine Ext.stores0 ?_ ?_ _ _ | refine Ext.storesk ?_ ?_ _ _ _ | refine Ext.drewN' ?_ _ | refine Ext.drew' ?_ | refine Ext.trans ?_ (by assumption))))).calls.mono ?_
      rintro e w2 ⟨_, rfl, hb2, rfl⟩
      have Bm_2 := Bm_1.ext (show Ext w1 w2 from (by with_reducible (repeat (first | assumption | exact Ext.refl _ | refine Ext.alloc' ?_ _ | refine Ext.store0 ?_ _ _ | refine Ext.storek ?_ _ _ _ | refine Ext.stores0 ?_ ?_ _ _ | refine Ext.storesk ?_ ?_ _ _ _ | refine Ext.drewN' ?_ _ | refine Ext.drew' ?_ | refine Ext.trans ?_ (by assumption)))))
      clear Bm_1 zm cm0 cm1 cm2 dm0 dm1 dm2
      obtain ⟨cm0, cm1, cm2, dm0, dm1, dm2⟩ := cells3 Bm_2
      have zm : w.heap.size < w2.heap.size := Bm_2.lt
      go_wp2
      go_ret
      exact ⟨_, rfl, (by with_reducible (repeat (first | assumption | exact Ext.refl _ | refine Ext.alloc' ?_ _ | refine Ext.store0 ?_ _ _ | refine Ext.storek ?_ _ _ _ | refine Ext.stores0 ?_ ?_ _ _ | refine Ext.storesk ?_ ?_ _ _ _ | refine Ext.drewN' ?_ _ | refine Ext.drew' ?_ | refine Ext.trans ?_ (by assumption)))), rfl⟩
end Go.Proofs.Ytcfbdfgondmkoaa
