/- HazNames: its walk. -/
import Derived.Test.YtcfbdfgondmkoaaM17
import Derived.Test.YtcfbdfgondmkoaaM11
import Derived.Test.YtcfbdfgondmkoaaM10
import Derived.Deep.CutRange
import Derived.Deep.RegionHeld3
namespace Go.Proofs.Ytcfbdfgondmkoaa
open Go Go.RowKit
set_option linter.unusedSimpArgs false
set_option linter.unusedVariables false
set_option linter.unnecessarySimpa false

theorem own_other {α : Type} {sz : Nat} {e t : TypeId} {R : World → α → List Value → Prop} {base b : Nat} {w : World} {v : Value} {l : List α} {cs : Array Value} (h : OwnSl sz e R base w v l) (hb : Box w b cs t) (hn : e ≠ t) : v.ownBlock ≠ some b := by
  obtain ⟨xs, ⟨h1, h2⟩, h3⟩ := h
  rcases h2 with ⟨rfl, h2⟩ | ⟨g, cap, cur, rfl, hb2, hg, hc, hm, hs, ht⟩
  · intro k; cases k
  · intro k
    cases k
    have hB : Box w g cur e := hg
    have q := hB.symm.trans hb
    simp at q
    exact hn q.2
theorem Box.grown_own {α : Type} {sz : Nat} {e t : TypeId} {R : World → α → List Value → Prop} {base b : Nat} {w w' : World} {v : Value} {l : List α} {cs : Array Value} (g : w.grownBy w' v.ownBlock) (h : OwnSl sz e R base w v l) (hb : Box w b cs t) (hn : e ≠ t) : Box w' b cs t :=
  hb.keep (grown_keep g (fun k e => e) : Keep (fun b => v.ownBlock = some b) w w') (fun e => own_other h hb hn e)
theorem own_lit {g b n c : Nat} (h : g ≠ b) : (Value.slice (some ⟨g, 0, none⟩) n c).ownBlock ≠ some b := fun e => h (by injection e)
theorem Box.grown_lit {w w' : World} {row : Option Nat} {b : Nat} {cs : Array Value} {t : TypeId} (g : w.grownBy w' row) (h : Box w b cs t) (hn : row ≠ some b) : Box w' b cs t := h.keep (grown_keep g (fun k e => e) : Keep (fun b => row = some b) w w') (fun e => hn e)
theorem rt_zero {w : World} : RT w core0 [.slice none 0 0, .int .i64 0, .int .i64 0, .int .i64 0, .int .i64 0, .int .i64 0, .slice none 0 0] := by
  intro c hc
  simp at hc
  rcases hc with rfl | rfl | rfl <;> rfl
set_option maxRecDepth 100000 in
theorem step_cores {ops : Array Oper} {o : Oper} {a : Act} {w : World} {K : Act → World → Prop} {Q : Exit → Act → World → Prop} {E : Prop}
    (hg : o.guard = none) (s x : Operand) (hop : o.op = Op.call { callee := Callee.builtin Builtin.append, args := #[s, x], argTypes := #[80, 80] }) (v vx : Value) (l1 l2 : List CoreD) (base : Nat) (N : Nat → Prop) (hs : a.eval s = v) (hx : a.eval x = vx)
    (h1 : OwnSl 7 116 RT base w v l1) (h2 : IsSl 7 RT N w vx l2) (hl : l1.length + l2.length ≤ 100000) (hbase : base ≤ w.heap.size)
    (hK : ∀ a' c' w', OwnSl 7 116 RT base w' (.slice a' (l1 ++ l2).length c') (l1 ++ l2) → w.grownBy w' v.ownBlock → K (a.put o.dst (.slice a' (l1 ++ l2).length c')) w') :
    if Region.wanted o (yielded ops a.tmps) = true then Oper.wp Proofs.Try.prog o a w K Q else E :=
  step_append_osl hg s x hop hs hx rowC zs7 (by decide) h1 h2 (fun _ _ h => h) (fun _ _ _ _ h => h) hl hbase hK
set_option maxHeartbeats 8000000 in
set_option maxRecDepth 100000 in
theorem hazNames_ (v0 v1 v2 v3 v4 : Value) (s : SysD) (w : World) (h : IsSys no w (.agg #[v0, v1, v2, v3, v4]) s) :
    Gives Proofs.Try.prog 26 #[.agg #[v0, v1, v2, v3, v4]] w (eqv (.bool true)) := by
  have km := fun (w' : World) (e : Ext w w') => refMay_ no _ s 60 (by omega) w' (h.ext e)
  obtain ⟨aw, cw, ag, cg, ac, cc, al, cl, e, hw, hg, hc, hl⟩ := h.opened
  obtain ⟨rfl, rfl, rfl, rfl, rfl⟩ : v0 = .slice aw s.M.W.length cw ∧ v1 = .slice ag s.M.G.length cg ∧ v2 = .bool s.M.bad ∧ v3 = .slice ac s.C.length cc ∧ v4 = .slice al s.L.length cl := by simpa using e
  clear e
  cases hm : mayS s 60
  · rw [hm] at km
    clear hm
    go_enter Proofs.Try.func26, Proofs.Try.ntmps26
    go_wp2_with (fail)
    go_at_call 93
    refine (shown5_ _).calls.mono ?_
    rintro e w1 ⟨_, rfl, hb1, rfl⟩
    have B0_1 : Box w1 (w.heap.size) #[.slice aw s.M.W.length cw, .slice ag s.M.G.length cg, .bool s.M.bad, .slice ac s.C.length cc, .slice al s.L.length cl] 83 := (Box.newAt _ _ _ (by first | rfl | simp)).ext hb1
    have s1 : w.heap.size + 1 ≤ w1.heap.size := (by have h := hb1.size; first | omega | (simp at h; omega))
    obtain ⟨c0_0, c0_1, c0_2, c0_3, c0_4, d0_0, d0_1, d0_2, d0_3, d0_4⟩ := cells5 B0_1
    have z0 : w.heap.size < w1.heap.size := B0_1.lt
    go_wp2_with (fail)
    go_at_call 83
    refine (km _ exq).calls.mono ?_
    rintro e w2 ⟨_, rfl, hb2, rfl⟩
    have B0_2 : Box w2 (w.heap.size) #[.slice aw s.M.W.length cw, .slice ag s.M.G.length cg, .bool s.M.bad, .slice ac s.C.length cc, .slice al s.L.length cl] 83 := B0_1.ext hb2
    clear c0_0 c0_1 c0_2 c0_3 c0_4 d0_0 d0_1 d0_2 d0_3 d0_4 z0
    have s2 : w1.heap.size ≤ w2.heap.size := (by have h := hb2.size; first | omega | (simp at h; omega))
    obtain ⟨c0_0, c0_1, c0_2, c0_3, c0_4, d0_0, d0_1, d0_2, d0_3, d0_4⟩ := cells5 B0_2
    have z0 : w.heap.size < w2.heap.size := B0_2.lt
    go_wp2
    go_ret
    exact ⟨_, rfl, exn, rfl⟩
  · rw [hm] at km
    have M5 := may5 hm
    clear hm
    have hg2 : 2 ≤ s.M.G.length := M5.g2
    have hG5 : s.M.G.length ≤ 100000 := by have := M5.g201; omega
    have hW128 : 128 ≤ s.M.W.length := by have := M5.w; omega
    have hWup : s.M.W.length ≤ 100000 := by have := M5.w; have := M5.g201; omega
    have hC8 : s.C.length ≤ 8 := M5.c8
    clear M5
    by_cases h7 : 7 < s.C.length
    · have q1 : (7 : Int) < (s.C.length : Int) := by omega
      go_enter Proofs.Try.func26, Proofs.Try.ntmps26
      go_wp2_with (fail)
      go_at_call 93
      refine (shown5_ _).calls.mono ?_
      rintro e w1 ⟨_, rfl, hb1, rfl⟩
      have B0_1 : Box w1 (w.heap.size) #[.slice aw s.M.W.length cw, .slice ag s.M.G.length cg, .bool s.M.bad, .slice ac s.C.length cc, .slice al s.L.length cl] 83 := (Box.newAt _ _ _ (by first | rfl | simp)).ext hb1
      have s1 : w.heap.size + 1 ≤ w1.heap.size := (by have h := hb1.size; first | omega | (simp at h; omega))
      obtain ⟨c0_0, c0_1, c0_2, c0_3, c0_4, d0_0, d0_1, d0_2, d0_3, d0_4⟩ := cells5 B0_1
      have z0 : w.heap.size < w1.heap.size := B0_1.lt
      go_wp2_with (fail)
      go_at_call 83
      refine (km _ exq).calls.mono ?_
      rintro e w2 ⟨_, rfl, hb2, rfl⟩
      have B0_2 : Box w2 (w.heap.size) #[.slice aw s.M.W.length cw, .slice ag s.M.G.length cg, .bool s.M.bad, .slice ac s.C.length cc, .slice al s.L.length cl] 83 := B0_1.ext hb2
      clear c0_0 c0_1 c0_2 c0_3 c0_4 d0_0 d0_1 d0_2 d0_3 d0_4 z0
      have s2 : w1.heap.size ≤ w2.heap.size := (by have h := hb2.size; first | omega | (simp at h; omega))
      obtain ⟨c0_0, c0_1, c0_2, c0_3, c0_4, d0_0, d0_1, d0_2, d0_3, d0_4⟩ := cells5 B0_2
      have z0 : w.heap.size < w2.heap.size := B0_2.lt
      go_wp2
      go_ret
      exact ⟨_, rfl, exn, rfl⟩
    · have q1 : ¬ (7 : Int) < (s.C.length : Int) := by omega
      have q0 : (0 : Int) < (s.M.G.length : Int) := by omega
      have hc7 : s.C.length ≤ 7 := by omega
      obtain ⟨ba, oa, rfl, xa, _, ea⟩ := hw.row (by omega)
      have EA := Lib.hid ea
      have HW := Lib.hid hw
      have HC := Lib.hid hc
      clear h ea hw hg hc hl
      go_enter Proofs.Try.func26, Proofs.Try.ntmps26
      go_wp2_with (fail)
      go_at_call 93
      refine (shown5_ _).calls.mono ?_
      rintro e w1 ⟨_, rfl, hb1, rfl⟩
      have B0_1 : Box w1 (w.heap.size) #[.slice (some ⟨ba, oa, none⟩) s.M.W.length cw, .slice ag s.M.G.length cg, .bool s.M.bad, .slice ac s.C.length cc, .slice al s.L.length cl] 83 := (Box.newAt _ _ _ (by first | rfl | simp)).ext hb1
      have s1 : w.heap.size + 1 ≤ w1.heap.size := (by have h := hb1.size; first | omega | (simp at h; omega))
      obtain ⟨c0_0, c0_1, c0_2, c0_3, c0_4, d0_0, d0_1, d0_2, d0_3, d0_4⟩ := cells5 B0_1
      have z0 : w.heap.size < w1.heap.size := B0_1.lt
      go_wp2_with (fail)
      go_at_call 83
      refine (km _ exq).calls.mono ?_
      rintro e w2 ⟨_, rfl, hb2, rfl⟩
      have B0_2 : Box w2 (w.heap.size) #[.slice (some ⟨ba, oa, none⟩) s.M.W.length cw, .slice ag s.M.G.length cg, .bool s.M.bad, .slice ac s.C.length cc, .slice al s.L.length cl] 83 := B0_1.ext hb2
      clear c0_0 c0_1 c0_2 c0_3 c0_4 d0_0 d0_1 d0_2 d0_3 d0_4 z0
      have s2 : w1.heap.size ≤ w2.heap.size := (by have h := hb2.size; first | omega | (simp at h; omega))
      obtain ⟨c0_0, c0_1, c0_2, c0_3, c0_4, d0_0, d0_1, d0_2, d0_3, d0_4⟩ := cells5 B0_2
      have z0 : w.heap.size < w2.heap.size := B0_2.lt
      go_wp2_with (fail)
      go_at_call 99
      refine (named0_ s.M.W s.M.G.length s.C.length s.L.length s.M.bad _ _ _ _ _ _ _ _ _ (HW.out.ext exq) hG5 (by omega) (by omega)).calls.mono ?_
      rintro e w3 ⟨_, rfl, hb3, b1, rfl, hl1⟩
      have B0_3 : Box w3 (w.heap.size) #[.slice (some ⟨ba, oa, none⟩) s.M.W.length cw, .slice ag s.M.G.length cg, .bool s.M.bad, .slice ac s.C.length cc, .slice al s.L.length cl] 83 := B0_2.ext hb3
      clear c0_0 c0_1 c0_2 c0_3 c0_4 d0_0 d0_1 d0_2 d0_3 d0_4 z0
      have s3 : w2.heap.size ≤ w3.heap.size := (by have h := hb3.size; first | omega | (simp at h; omega))
      obtain ⟨c0_0, c0_1, c0_2, c0_3, c0_4, d0_0, d0_1, d0_2, d0_3, d0_4⟩ := cells5 B0_3
      have z0 : w.heap.size < w3.heap.size := B0_3.lt
      go_upto_region 5 with (fail)
      go_cut [5] from 26 to 37 (fun s5 wc => ∃ (b5 : Nat) (a34 : Option Addr) (n34 c34 : Nat), s5 = .pointer (some ⟨b5, 0, none⟩) ∧ w3.heap.size ≤ b5 ∧ n34 = s.C.length + 1 ∧ Box wc b5 #[.slice (some ⟨ba, oa, none⟩) s.M.W.length cw, .slice ag s.M.G.length cg, .bool s.M.bad, .slice a34 n34 c34, .slice al s.L.length cl] 83 ∧ Ext w3 wc)
      case first =>
        have held : ∀ w', Ext w3 w' → w'.cell? ⟨w.heap.size, 0, none⟩ = some (.slice (some ⟨ba, oa, none⟩) s.M.W.length cw) ∧ w'.cell? ⟨w.heap.size, 1, none⟩ = some (.slice ag s.M.G.length cg) ∧ w'.cell? ⟨w.heap.size, 2, none⟩ = some (.bool s.M.bad) ∧ w'.cell? ⟨w.heap.size, 3, none⟩ = some (.slice ac s.C.length cc) ∧ w'.cell? ⟨w.heap.size, 4, none⟩ = some (.slice al s.L.length cl) := by
          intro w' k
          have h1 := cells5 (B0_3.ext k)
          exact ⟨h1.1, h1.2.1, h1.2.2.1, h1.2.2.2.1, h1.2.2.2.2.1⟩
        have hcW := (HC.out.rt.rtE (show Ext w w3 from exq))
        have sW : 0 < w3.heap.size := by have := B0_3.lt; omega
        go_region_held3 (fun w' => w'.cell? ⟨w.heap.size, 0, none⟩ = some (.slice (some ⟨ba, oa, none⟩) s.M.W.length cw) ∧ w'.cell? ⟨w.heap.size, 1, none⟩ = some (.slice ag s.M.G.length cg) ∧ w'.cell? ⟨w.heap.size, 2, none⟩ = some (.bool s.M.bad) ∧ w'.cell? ⟨w.heap.size, 3, none⟩ = some (.slice ac s.C.length cc) ∧ w'.cell? ⟨w.heap.size, 4, none⟩ = some (.slice al s.L.length cl)) (exact held _ exn) (first | (refine step_cores rfl (.tmp 28) (.tmp 30) rfl (.slice (some ⟨_, 0, none⟩) 0 0) (.slice ac s.C.length cc) [] s.C w3.heap.size no rfl rfl (OwnSl.nil (by with_reducible ((repeat (first | assumption | exact Box.newAt _ _ _ rfl | (refine Box.newAt _ _ _ ?_; simp; first | done | fail) | refine Box.alloc ?_ _ | refine Box.drew ?_ | refine Box.grown_lit g31 ?_ (own_lit (by first | omega | (simp; first | done | fail) | (simp; omega))))); first | done | fail)) (by first | exact Nat.le_refl _ | (simp; done) | (simp; omega) | omega)) (IsSl.rtE hcW exq) (by simp; omega) (by first | exact Nat.le_refl _ | (simp; done) | (simp; omega) | omega) ?_; intro a31 c31 w31 h31 g31; have X31 : Ext w3 w31 := grown_ext g31 exq (fun k e => by cases e; exact (by first | exact Nat.le_refl _ | (simp; done) | (simp; omega) | omega)); have x31 : w3.heap.size ≤ w31.heap.size := X31.size; (first | (have n5 : Box w31 (w3.heap.size) #[.slice none 0 0, .slice none 0 0, .bool false, .slice none 0 0, .slice none 0 0] 83 := (by with_reducible ((repeat (first | assumption | exact Box.newAt _ _ _ rfl | (refine Box.newAt _ _ _ ?_; simp; first | done | fail) | refine Box.alloc ?_ _ | refine Box.drew ?_ | refine Box.grown_lit g31 ?_ (own_lit (by first | omega | (simp; first | done | fail) | (simp; omega))))); first | done | fail))) | (have n5 : Box w31 (w3.heap.size + 1) #[.slice none 0 0, .slice none 0 0, .bool false, .slice none 0 0, .slice none 0 0] 83 := (by with_reducible ((repeat (first | assumption | exact Box.newAt _ _ _ rfl | (refine Box.newAt _ _ _ ?_; simp; first | done | fail) | refine Box.alloc ?_ _ | refine Box.drew ?_ | refine Box.grown_lit g31 ?_ (own_lit (by first | omega | (simp; first | done | fail) | (simp; omega))))); first | done | fail))) | (have n5 : Box w31 (w3.heap.size + 2) #[.slice none 0 0, .slice none 0 0, .bool false, .slice none 0 0, .slice none 0 0] 83 := (by with_reducible ((repeat (first | assumption | exact Box.newAt _ _ _ rfl | (refine Box.newAt _ _ _ ?_; simp; first | done | fail) | refine Box.alloc ?_ _ | refine Box.drew ?_ | refine Box.grown_lit g31 ?_ (own_lit (by first | omega | (simp; first | done | fail) | (simp; omega))))); first | done | fail))) | (have n5 : Box w31 (w3.heap.size + 1 + 1) #[.slice none 0 0, .slice none 0 0, .bool false, .slice none 0 0, .slice none 0 0] 83 := (by with_reducible ((repeat (first | assumption | exact Box.newAt _ _ _ rfl | (refine Box.newAt _ _ _ ?_; simp; first | done | fail) | refine Box.alloc ?_ _ | refine Box.drew ?_ | refine Box.grown_lit g31 ?_ (own_lit (by first | omega | (simp; first | done | fail) | (simp; omega))))); first | done | fail))) | skip)) | (refine step_cores rfl (.tmp 31) (.tmp 33) rfl (.slice a31 ([] ++ s.C).length c31) (.slice (some ⟨_, 0, none⟩) 1 1) ([] ++ s.C) [core0] w3.heap.size no rfl rfl (OwnSl.rtE h31 exq) (IsSl.one (cs := [.slice none 0 0, .int .i64 0, .int .i64 0, .int .i64 0, .int .i64 0, .int .i64 0, .slice none 0 0]) (e := 116) (x := core0) (by with_reducible ((repeat (first | assumption | exact Box.newAt _ _ _ rfl | (refine Box.newAt _ _ _ ?_; simp; first | done | fail) | refine Box.alloc ?_ _ | refine Box.drew ?_ | refine Box.grown_lit g31 ?_ (own_lit (by first | omega | (simp; first | done | fail) | (simp; omega))))); first | done | fail)) rfl rt_zero) (by simp; omega) (by first | exact Nat.le_refl _ | (simp; done) | (simp; omega) | omega) ?_; intro a34 c34 w34 h34 g34; have X34 : Ext w3 w34 := grown_ext g34 exq (fun k e => h31.base k e); have x34 : w3.heap.size ≤ w34.heap.size := X34.size; (first | (have m5 : Box w34 (w3.heap.size) #[.slice none 0 0, .slice none 0 0, .bool false, .slice none 0 0, .slice none 0 0] 83 := Box.grown_own g34 (OwnSl.rtE h31 exq) (by with_reducible ((repeat (first | assumption | exact Box.newAt _ _ _ rfl | (refine Box.newAt _ _ _ ?_; simp; first | done | fail) | refine Box.alloc ?_ _ | refine Box.drew ?_ | refine Box.grown_lit g31 ?_ (own_lit (by first | omega | (simp; first | done | fail) | (simp; omega))))); first | done | fail)) (by decide)) | (have m5 : Box w34 (w3.heap.size + 1) #[.slice none 0 0, .slice none 0 0, .bool false, .slice none 0 0, .slice none 0 0] 83 := Box.grown_own g34 (OwnSl.rtE h31 exq) (by with_reducible ((repeat (first | assumption | exact Box.newAt _ _ _ rfl | (refine Box.newAt _ _ _ ?_; simp; first | done | fail) | refine Box.alloc ?_ _ | refine Box.drew ?_ | refine Box.grown_lit g31 ?_ (own_lit (by first | omega | (simp; first | done | fail) | (simp; omega))))); first | done | fail)) (by decide)) | (have m5 : Box w34 (w3.heap.size + 2) #[.slice none 0 0, .slice none 0 0, .bool false, .slice none 0 0, .slice none 0 0] 83 := Box.grown_own g34 (OwnSl.rtE h31 exq) (by with_reducible ((repeat (first | assumption | exact Box.newAt _ _ _ rfl | (refine Box.newAt _ _ _ ?_; simp; first | done | fail) | refine Box.alloc ?_ _ | refine Box.drew ?_ | refine Box.grown_lit g31 ?_ (own_lit (by first | omega | (simp; first | done | fail) | (simp; omega))))); first | done | fail)) (by decide)) | (have m5 : Box w34 (w3.heap.size + 1 + 1) #[.slice none 0 0, .slice none 0 0, .bool false, .slice none 0 0, .slice none 0 0] 83 := Box.grown_own g34 (OwnSl.rtE h31 exq) (by with_reducible ((repeat (first | assumption | exact Box.newAt _ _ _ rfl | (refine Box.newAt _ _ _ ?_; simp; first | done | fail) | refine Box.alloc ?_ _ | refine Box.drew ?_ | refine Box.grown_lit g31 ?_ (own_lit (by first | omega | (simp; first | done | fail) | (simp; omega))))); first | done | fail)) (by decide)) | (have m5 : Box w34 (w31.heap.size) #[.slice none 0 0, .slice none 0 0, .bool false, .slice none 0 0, .slice none 0 0] 83 := Box.grown_own g34 (OwnSl.rtE h31 exq) (by with_reducible ((repeat (first | assumption | exact Box.newAt _ _ _ rfl | (refine Box.newAt _ _ _ ?_; simp; first | done | fail) | refine Box.alloc ?_ _ | refine Box.drew ?_ | refine Box.grown_lit g31 ?_ (own_lit (by first | omega | (simp; first | done | fail) | (simp; omega))))); first | done | fail)) (by decide)) | (have m5 : Box w34 (w31.heap.size + 1) #[.slice none 0 0, .slice none 0 0, .bool false, .slice none 0 0, .slice none 0 0] 83 := Box.grown_own g34 (OwnSl.rtE h31 exq) (by with_reducible ((repeat (first | assumption | exact Box.newAt _ _ _ rfl | (refine Box.newAt _ _ _ ?_; simp; first | done | fail) | refine Box.alloc ?_ _ | refine Box.drew ?_ | refine Box.grown_lit g31 ?_ (own_lit (by first | omega | (simp; first | done | fail) | (simp; omega))))); first | done | fail)) (by decide)) | skip); (first | (have ⟨t0, t1, t2, t3, t4, f0, f1, f2, f3, f4⟩ := cells5 m5; have z5 := m5.lt) | skip)))
        all_goals
          go_wp2_with (fail)
          go_meet
          case rel =>
            refine ⟨_, a34, _, c34, rfl, ?_, rfl, ?_, ?_⟩
            · first | exact Nat.le_refl _ | omega | (simp; done) | (simp; omega)
            · first | exact (((((m5.setCell _).setCell _).setCell _).setCell _).setCell _) | with_reducible exact Box.newAt _ _ _ rfl | (with_reducible refine Box.newAt _ _ _ ?_; simp; first | done | fail)
            · exact exn
      case rest =>
        obtain ⟨b5, a34, n34, c34, rfl, hlo5, rfl, bM, XM⟩ := hcut
        obtain ⟨w4, rfl⟩ : ∃ w' : World, w' = wc := ⟨_, rfl⟩
        have sM : w3.heap.size ≤ w4.heap.size := XM.size
        have hXM : Ext w w4 := (show Ext w w3 from exq).trans XM
        have bS := B0_3.ext XM
        obtain ⟨cP_0, cP_1, cP_2, cP_3, cP_4, dP_0, dP_1, dP_2, dP_3, dP_4⟩ := cells5 bS
        have zP : w.heap.size < w4.heap.size := bS.lt
        obtain ⟨cM_0, cM_1, cM_2, cM_3, cM_4, dM_0, dM_1, dM_2, dM_3, dM_4⟩ := cells5 bM
        have zM : b5 < w4.heap.size := bM.lt
        go_wp2_with (fail)
        go_at_call 99
        refine (named0_ s.M.W s.M.G.length (s.C.length + 1) s.L.length s.M.bad _ _ _ _ _ _ _ _ _ (HW.out.ext exq) hG5 (by omega) (by omega)).calls.mono ?_
        rintro e w5 ⟨_, rfl, hb5, b2, rfl, hl2⟩
        have hl1 := hl1.ext (show Ext w3 w5 from exq)
        have zl1 := hl1.lt
        have zl2 := hl2.lt
        have cl0 : w5.cell? ⟨b1, 0, none⟩ = some (.bool false) := hl1.cell (by rw [nth_eq]; simpa using flA_0 _ (by omega))
        have BP_5 : Box w5 (w.heap.size) #[.slice (some ⟨ba, oa, none⟩) s.M.W.length cw, .slice ag s.M.G.length cg, .bool s.M.bad, .slice ac s.C.length cc, .slice al s.L.length cl] 83 := bS.ext hb5
        have BM_5 : Box w5 (b5) #[.slice (some ⟨ba, oa, none⟩) s.M.W.length cw, .slice ag s.M.G.length cg, .bool s.M.bad, .slice a34 (s.C.length + 1) c34, .slice al s.L.length cl] 83 := bM.ext hb5
        clear cP_0 cP_1 cP_2 cP_3 cP_4 dP_0 dP_1 dP_2 dP_3 dP_4 zP cM_0 cM_1 cM_2 cM_3 cM_4 dM_0 dM_1 dM_2 dM_3 dM_4 zM
        have s5 : w4.heap.size ≤ w5.heap.size := (by have h := hb5.size; first | omega | (simp at h; omega))
        obtain ⟨cP_0, cP_1, cP_2, cP_3, cP_4, dP_0, dP_1, dP_2, dP_3, dP_4⟩ := cells5 BP_5
        have zP : w.heap.size < w5.heap.size := BP_5.lt
        obtain ⟨cM_0, cM_1, cM_2, cM_3, cM_4, dM_0, dM_1, dM_2, dM_3, dM_4⟩ := cells5 BM_5
        have zM : b5 < w5.heap.size := BM_5.lt
        go_wp2
        clear cl0
        have hX5 : Ext w w5 := exq
        have bS5 : Box w5 (w.heap.size) #[.slice (some ⟨ba, oa, none⟩) s.M.W.length cw, .slice ag s.M.G.length cg, .bool s.M.bad, .slice ac s.C.length cc, .slice al s.L.length cl] 83 := BP_5
        go_loopw [7] (fun v wr => ∃ p : Nat, v = .int .i64 (p : Int) ∧ 1 ≤ p ∧ p ≤ s.M.G.length ∧ Ext w5 wr) (fun v _ => s.M.G.length - (intOf v).toNat)
        case atStart => exact ⟨1, rfl, by omega, by omega, exq⟩
        case round =>
          obtain ⟨p, rfl, hp1, hp, hr9⟩ := hrel
          obtain ⟨w9, rfl⟩ : ∃ w' : World, w' = wr := ⟨_, rfl⟩
          have s9 : w5.heap.size ≤ w9.heap.size := hr9.size
          have hX9 : Ext w w9 := hX5.trans hr9
          by_cases hlt : p < s.M.G.length
          · have q5 : (p : Int) < (s.M.G.length : Int) := by omega
            have bS9 := bS5.ext hr9
            obtain ⟨cP_0, cP_1, cP_2, cP_3, cP_4, dP_0, dP_1, dP_2, dP_3, dP_4⟩ := cells5 bS9
            have zP : w.heap.size < w9.heap.size := bS9.lt
            go_wp2
            go_loopw [8, 9] (fun v u wr => ∃ i n : Nat, v = .int .i64 (n : Int) ∧ u = .int .i64 (i : Int) ∧ (Tk s.M.W (3 * i)).count (p : Int) = n ∧ i ≤ s.C.length ∧ Ext w9 wr) (fun _ u _ => s.C.length - (intOf u).toNat)
            case atStart => exact ⟨0, 0, rfl, rfl, by simp [Tk], by omega, exq⟩
            case round =>
              obtain ⟨i, n, rfl, rfl, hn, hi, hr20⟩ := hrel
              obtain ⟨w20, rfl⟩ : ∃ w' : World, w' = wr := ⟨_, rfl⟩
              have s20 : w9.heap.size ≤ w20.heap.size := hr20.size
              have hX20 : Ext w w20 := hX9.trans hr20
              have hn9 : n ≤ 30 := by have := Tk_le s.M.W (3 * i) (p : Int); omega
              by_cases hil : i < s.C.length
              · have q6 : (i : Int) < (s.C.length : Int) := by omega
                have bS20 := bS9.ext hr20
                obtain ⟨cP_0, cP_1, cP_2, cP_3, cP_4, dP_0, dP_1, dP_2, dP_3, dP_4⟩ := cells5 bS20
                have zP : w.heap.size < w20.heap.size := bS20.lt
                go_wp2
                go_loopw [8, 10] (fun v u wr => ∃ k n : Nat, v = .int .i64 (n : Int) ∧ u = .int .i64 (k : Int) ∧ (Tk s.M.W (3 * i + k)).count (p : Int) = n ∧ k ≤ 3 ∧ Ext w20 wr) (fun _ u _ => 3 - (intOf u).toNat)
                case atStart => exact ⟨0, n, rfl, rfl, hn, by omega, exq⟩
                case round =>
                  clear hn hn9
                  obtain ⟨k, n, rfl, rfl, hn, hk, hr30⟩ := hrel
                  obtain ⟨w30, rfl⟩ : ∃ w' : World, w' = wr := ⟨_, rfl⟩
                  have s30 : w20.heap.size ≤ w30.heap.size := hr30.size
                  have hX30 : Ext w w30 := hX20.trans hr30
                  have hn9 : n ≤ 30 := by have := Tk_le s.M.W (3 * i + k) (p : Int); omega
                  by_cases hkl : k < 3
                  · have q7 : (k : Int) < 3 := by omega
                    have cnt := Tk_count (S := s.M.W) (j := 3 * i + k) (p := (p : Int)) (by omega)
                    obtain ⟨J, hJ⟩ : ∃ J : Nat, J = 8 + (3 * i + k) := ⟨_, rfl⟩
                    rw [← hJ] at cnt
                    have J1 : (J : Int) < (s.M.W.length : Int) := by omega
                    have kp : ∀ w', Calls Proofs.Try.prog 95 #[.int .i64 (i : Int), .int .i64 (k : Int)] w' (fun e w'' => e = .returned (.int .i64 (J : Int)) ∧ w'' = w') := fun w' => by
                      have h := refPlaced_ (i : Int) (k : Int) w' (by omega) (by omega) (by omega) (by omega)
                      rwa [show 8 + 3 * (i : Int) + (k : Int) = (J : Int) by omega] at h
                    have ez9 := cell_ext (EA.out J (by omega)) hX30
                    have xa9 : ba < w30.heap.size := World.block_lt_of_cell? _ _ ez9
                    obtain ⟨z, hz⟩ : ∃ z, gi s.M.W J = z := ⟨_, rfl⟩
                    rw [hz] at ez9 cnt
                    clear hz hJ
                    by_cases hzp : z = (p : Int)
                    · subst hzp
                      rw [if_pos rfl, hn] at cnt
                      have bS30 := bS20.ext hr30
                      obtain ⟨cP_0, cP_1, cP_2, cP_3, cP_4, dP_0, dP_1, dP_2, dP_3, dP_4⟩ := cells5 bS30
                      have zP : w.heap.size < w30.heap.size := bS30.lt
                      go_wp2_with (fail)
                      go_quiet ((go_at_call 95; exact Calls.quiet_of_same (kp _)))
                      go_wp2
                      go_roundw
                      case rel => exact ⟨k + 1, n + 1, by simp, by simp, cnt, by omega, exq⟩
                      case measure => simp [intOf]; omega
                    · rw [if_neg hzp, hn] at cnt
                      have bS30 := bS20.ext hr30
                      obtain ⟨cP_0, cP_1, cP_2, cP_3, cP_4, dP_0, dP_1, dP_2, dP_3, dP_4⟩ := cells5 bS30
                      have zP : w.heap.size < w30.heap.size := bS30.lt
                      go_wp2_with (fail)
                      go_quiet ((go_at_call 95; exact Calls.quiet_of_same (kp _)))
                      go_wp2
                      go_roundw
                      case rel => exact ⟨k + 1, n, by simp, by simp, cnt, by omega, exq⟩
                      case measure => simp [intOf]; omega
                  · obtain rfl : k = 3 := by omega
                    have q7 : ¬ ((3 : Nat) : Int) < 3 := by decide
                    have bS30 := bS20.ext hr30
                    obtain ⟨cP_0, cP_1, cP_2, cP_3, cP_4, dP_0, dP_1, dP_2, dP_3, dP_4⟩ := cells5 bS30
                    have zP : w.heap.size < w30.heap.size := bS30.lt
                    go_wp2
                    go_roundw
                    case rel => exact ⟨i + 1, n, by simp, by simp, hn, by omega, hr20.trans hr30⟩
                    case measure => simp [intOf]; omega
              · obtain rfl : i = s.C.length := by omega
                have q6 : ¬ (s.C.length : Int) < (s.C.length : Int) := by omega
                have bS20 := bS9.ext hr20
                obtain ⟨cP_0, cP_1, cP_2, cP_3, cP_4, dP_0, dP_1, dP_2, dP_3, dP_4⟩ := cells5 bS20
                have zP : w.heap.size < w20.heap.size := bS20.lt
                go_wp2
                go_loopw [11, 12] (fun v u wr => ∃ (k : Nat) (b : Bool), v = .bool b ∧ u = .int .i64 (k : Int) ∧ ((Tk s.M.W (3 * s.C.length)).any (fun x => x == (p : Int)) || b) = (Tk s.M.W (3 * s.C.length + k)).any (fun x => x == (p : Int)) ∧ k ≤ 3 ∧ Ext w20 wr) (fun _ u _ => 3 - (intOf u).toNat)
                case atStart => exact ⟨0, false, rfl, rfl, by simp, by omega, exq⟩
                case round =>
                  obtain ⟨k, b, rfl, rfl, hb, hk, hr40⟩ := hrel
                  obtain ⟨w40, rfl⟩ : ∃ w' : World, w' = wr := ⟨_, rfl⟩
                  have s40 : w20.heap.size ≤ w40.heap.size := hr40.size
                  have hX40 : Ext w w40 := hX20.trans hr40
                  by_cases hkl : k < 3
                  · have q7 : (k : Int) < 3 := by omega
                    have cnt := Tk_any (S := s.M.W) (j := 3 * s.C.length + k) (p := (p : Int)) (by omega)
                    obtain ⟨J, hJ⟩ : ∃ J : Nat, J = 8 + (3 * s.C.length + k) := ⟨_, rfl⟩
                    rw [← hJ] at cnt
                    have J1 : (J : Int) < (s.M.W.length : Int) := by omega
                    have kp : ∀ w', Calls Proofs.Try.prog 95 #[.int .i64 (s.C.length : Int), .int .i64 (k : Int)] w' (fun e w'' => e = .returned (.int .i64 (J : Int)) ∧ w'' = w') := fun w' => by
                      have h := refPlaced_ (s.C.length : Int) (k : Int) w' (by omega) (by omega) (by omega) (by omega)
                      rwa [show 8 + 3 * (s.C.length : Int) + (k : Int) = (J : Int) by omega] at h
                    have ez9 := cell_ext (EA.out J (by omega)) hX40
                    have xa9 : ba < w40.heap.size := World.block_lt_of_cell? _ _ ez9
                    obtain ⟨z, hz⟩ : ∃ z, gi s.M.W J = z := ⟨_, rfl⟩
                    rw [hz] at ez9 cnt
                    clear hz hJ
                    rw [← hb] at cnt
                    clear hb
                    cases b
                    · by_cases hzp : z = (p : Int)
                      · subst hzp
                        simp only [beq_self_eq_true, Bool.or_true] at cnt
                        have bS40 := bS20.ext hr40
                        obtain ⟨cP_0, cP_1, cP_2, cP_3, cP_4, dP_0, dP_1, dP_2, dP_3, dP_4⟩ := cells5 bS40
                        have zP : w.heap.size < w40.heap.size := bS40.lt
                        go_wp2_with (fail)
                        go_quiet ((go_at_call 95; exact Calls.quiet_of_same (kp _)))
                        go_wp2
                        go_roundw
                        case rel => exact ⟨k + 1, true, rfl, by simp, by rw [Bool.or_true]; exact cnt.symm, by omega, exq⟩
                        case measure => simp [intOf]; omega
                      · have hzb : (z == (p : Int)) = false := by simpa using hzp
                        simp only [hzb, Bool.or_false] at cnt
                        have bS40 := bS20.ext hr40
                        obtain ⟨cP_0, cP_1, cP_2, cP_3, cP_4, dP_0, dP_1, dP_2, dP_3, dP_4⟩ := cells5 bS40
                        have zP : w.heap.size < w40.heap.size := bS40.lt
                        go_wp2_with (fail)
                        go_quiet ((go_at_call 95; exact Calls.quiet_of_same (kp _)))
                        go_wp2
                        go_roundw
                        case rel => exact ⟨k + 1, false, rfl, by simp, by rw [Bool.or_false]; exact cnt.symm, by omega, exq⟩
                        case measure => simp [intOf]; omega
                    · simp only [Bool.or_true, Bool.true_or] at cnt
                      have bS40 := bS20.ext hr40
                      obtain ⟨cP_0, cP_1, cP_2, cP_3, cP_4, dP_0, dP_1, dP_2, dP_3, dP_4⟩ := cells5 bS40
                      have zP : w.heap.size < w40.heap.size := bS40.lt
                      go_wp2_with (fail)
                      go_quiet ((go_at_call 95; exact Calls.quiet_of_same (kp _)))
                      go_wp2
                      go_roundw
                      case rel => exact ⟨k + 1, true, rfl, by simp, by rw [Bool.or_true]; exact cnt.symm, by omega, exq⟩
                      case measure => simp [intOf]; omega
                  · obtain rfl : k = 3 := by omega
                    have q7 : ¬ ((3 : Nat) : Int) < 3 := by decide
                    have hY40 : Ext w5 w40 := (hr9.trans hr20).trans hr40
                    have e1 : w40.cell? ⟨b1, p, none⟩ = some (.bool ((Tk s.M.W (3 * s.C.length)).any fun x => x == (p : Int))) := (hl1.ext (show Ext w5 w40 from (hr9.trans hr20).trans hr40)).cell (by rw [nth_eq]; simpa using flA_at _ hlt (by omega))
                    have e2 : w40.cell? ⟨b2, p, none⟩ = some (.bool ((Tk s.M.W (3 * (s.C.length + 1))).any fun x => x == (p : Int))) := (hl2.ext (show Ext w5 w40 from (hr9.trans hr20).trans hr40)).cell (by rw [nth_eq]; simpa using flA_at _ hlt (by omega))
                    rw [show 3 * (s.C.length + 1) = 3 * s.C.length + 3 by omega, ← hb] at e2
                    have x1 := World.block_lt_of_cell? _ _ e1
                    have x2 := World.block_lt_of_cell? _ _ e2
                    have hca := count_any (Tk s.M.W (3 * s.C.length)) (p : Int)
                    rw [hn] at hca
                    obtain ⟨a, ha⟩ : ∃ a, (Tk s.M.W (3 * s.C.length)).any (fun x => x == (p : Int)) = a := ⟨_, rfl⟩
                    rw [ha] at e1 e2 hca
                    clear hb ha hn
                    cases a
                    · have hn0 : n = 0 := by have := of_decide_eq_false hca; omega
                      subst hn0
                      clear hca
                      simp only [Bool.false_or, Bool.true_or] at e1 e2
                      cases b
                      · skip
                        have bS40 := bS20.ext hr40
                        obtain ⟨cP_0, cP_1, cP_2, cP_3, cP_4, dP_0, dP_1, dP_2, dP_3, dP_4⟩ := cells5 bS40
                        have zP : w.heap.size < w40.heap.size := bS40.lt
                        go_wp2_with (fail)
                        go_quiet (fail)
                        go_wp2
                        go_roundw
                        case rel => exact ⟨p + 1, by simp, by omega, by omega, exq⟩
                        case measure => simp [intOf]; omega
                      · skip
                        have bS40 := bS20.ext hr40
                        obtain ⟨cP_0, cP_1, cP_2, cP_3, cP_4, dP_0, dP_1, dP_2, dP_3, dP_4⟩ := cells5 bS40
                        have zP : w.heap.size < w40.heap.size := bS40.lt
                        go_wp2_with (fail)
                        go_quiet (fail)
                        go_wp2
                        go_roundw
                        case rel => exact ⟨p + 1, by simp, by omega, by omega, exq⟩
                        case measure => simp [intOf]; omega
                    · have hn0 : 0 < n := of_decide_eq_true hca
                      have q8 : (0 : Int) < (n : Int) := by omega
                      clear hca
                      simp only [Bool.false_or, Bool.true_or] at e1 e2
                      cases b
                      · skip
                        have bS40 := bS20.ext hr40
                        obtain ⟨cP_0, cP_1, cP_2, cP_3, cP_4, dP_0, dP_1, dP_2, dP_3, dP_4⟩ := cells5 bS40
                        have zP : w.heap.size < w40.heap.size := bS40.lt
                        go_wp2_with (fail)
                        go_quiet (fail)
                        go_wp2
                        go_roundw
                        case rel => exact ⟨p + 1, by simp, by omega, by omega, exq⟩
                        case measure => simp [intOf]; omega
                      · skip
                        have bS40 := bS20.ext hr40
                        obtain ⟨cP_0, cP_1, cP_2, cP_3, cP_4, dP_0, dP_1, dP_2, dP_3, dP_4⟩ := cells5 bS40
                        have zP : w.heap.size < w40.heap.size := bS40.lt
                        go_wp2_with (fail)
                        go_quiet (fail)
                        go_wp2
                        go_roundw
                        case rel => exact ⟨p + 1, by simp, by omega, by omega, exq⟩
                        case measure => simp [intOf]; omega
          · obtain rfl : p = s.M.G.length := by omega
            have q5 : ¬ (s.M.G.length : Int) < (s.M.G.length : Int) := by omega
            have bS9 := bS5.ext hr9
            obtain ⟨cP_0, cP_1, cP_2, cP_3, cP_4, dP_0, dP_1, dP_2, dP_3, dP_4⟩ := cells5 bS9
            have zP : w.heap.size < w9.heap.size := bS9.lt
            go_wp2
            go_ret
            exact ⟨_, rfl, exn, rfl⟩
end Go.Proofs.Ytcfbdfgondmkoaa
