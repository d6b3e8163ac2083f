/- Texts of this work, put together: SpA, Log, StR. -/
import Derived.Test.YtcfbdfgondmkoaaM13
import Derived.Deep.RegionLaw
import Derived.Deep.RegionHeld3
/- append onto a slice of the call's own, as one step of a region that draws its order. -/
namespace Go.Proofs.Ytcfbdfgondmkoaa
open Go Go.RowKit
set_option linter.unusedSimpArgs false
set_option linter.unusedVariables false
set_option linter.unnecessarySimpa false

set_option maxRecDepth 100000 in
theorem step_append_osl {α : Type} {sz : Nat} {R : World → α → List Value → Prop} {N : Nat → Prop} {v vx : Value} {l1 l2 : List α} {t e : TypeId} {z : Value} {base : Nat} {ops : Array Oper} {o : Oper} {a : Act} {w : World} {K : Act → World → Prop} {Q : Exit → Act → World → Prop} {E : Prop}
    (hg : o.guard = none) (s x : Operand) (hop : o.op = Op.call { callee := Callee.builtin Builtin.append, args := #[s, x], argTypes := #[t, t] }) (hs : a.eval s = v) (hx : a.eval x = vx) (hT : RowType t e sz z) (hzs : z.cells.size = sz) (hsz : 0 < sz) (h1 : OwnSl sz e R base w v l1) (h2 : IsSl sz R N w vx l2)
    (hone : ∀ x cs, R w x cs → ∀ c ∈ cs, c.oneCell' = true) (hR : ∀ w', w.grownBy w' v.ownBlock → ∀ x cs, R w x cs → R w' x cs) (hl : l1.length + l2.length ≤ 100000) (hbase : base ≤ w.heap.size)
    (hK : ∀ a' c' w', OwnSl sz e R base w' (.slice a' (l1 ++ l2).length c') (l1 ++ l2) → w.grownBy w' v.ownBlock → K (a.put o.dst (.slice a' (l1 ++ l2).length c')) w') :
    if Region.wanted o (yielded ops a.tmps) = true then Oper.wp Proofs.Try.prog o a w K Q else E := by
  have hw : Region.wanted o (yielded ops a.tmps) = true := by simp [Region.wanted, hg]
  rw [if_pos hw]
  obtain ⟨a', c', w', hrun, r1, r2⟩ := run_append_osl (ty := o.type) hT hzs hsz h1 h2 hone hR hl hbase
  unfold Oper.wp execOp
  simp only [hop, resolve, invoke, builtin, Sem.run_bind, Sem.run_pure, Result.andThen_ok, List.map_toArray, List.map_cons, List.map_nil, hs, hx]
  erw [hrun]
  exact hK _ _ _ r1 r2
end Go.Proofs.Ytcfbdfgondmkoaa
/- An event that is told, as the document has it. -/
namespace Go.Proofs.Ytcfbdfgondmkoaa
open Go Go.RowKit
set_option linter.unusedSimpArgs false
set_option linter.unusedVariables false
set_option linter.unnecessarySimpa false

theorem Box.drew' {w : World} {b : Nat} {cs : Array Value} {t : TypeId} (h : Box w b cs t) : Box w.drew b cs t := h.ext (Ext.drew w)
theorem IsSl.extE {N : Nat → Prop} {w w' : World} {v : Value} {l : List EvD} (h : IsSl 5 RE N w v l) (e : Ext w w') : IsSl 5 RE N w' v l := IsEvs.keep h e.keep
theorem OwnSl.extE {base : Nat} {w w' : World} {v : Value} {l : List EvD} (h : OwnSl 5 108 RE base w v l) (e : Ext w w') : OwnSl 5 108 RE base w' v l := h.keep (N := no) e.keep (fun _ _ h => h) (fun _ _ h => h)
set_option maxRecDepth 100000 in
theorem step_evs {ops : Array Oper} {o : Oper} {a : Act} {w : World} {K : Act → World → Prop} {Q : Exit → Act → World → Prop} {E : Prop}
    (hg : o.guard = none) (s x : Operand) (hop : o.op = Op.call { callee := Callee.builtin Builtin.append, args := #[s, x], argTypes := #[81, 81] }) (v vx : Value) (l1 l2 : List EvD) (base : Nat) (N : Nat → Prop) (hs : a.eval s = v) (hx : a.eval x = vx)
    (h1 : OwnSl 5 108 RE base w v l1) (h2 : IsSl 5 RE N w vx l2) (hl : l1.length + l2.length ≤ 100000) (hbase : base ≤ w.heap.size)
    (hK : ∀ a' c' w', OwnSl 5 108 RE base w' (.slice a' (l1 ++ l2).length c') (l1 ++ l2) → w.grownBy w' v.ownBlock → K (a.put o.dst (.slice a' (l1 ++ l2).length c')) w') :
    if Region.wanted o (yielded ops a.tmps) = true then Oper.wp Proofs.Try.prog o a w K Q else E :=
  step_append_osl hg s x hop hs hx rowE zs5 (by decide) h1 h2 one_ev (fun _ _ _ _ h => h) hl hbase hK
theorem own_ne {g b n c : Nat} (h : g ≠ b) : (Value.slice (some ⟨g, 0, none⟩) n c).ownBlock ≠ some b := fun e => h (by injection e)
theorem Box.grown {w w' : World} {row : Option Nat} {b : Nat} {cs : Array Value} {t : TypeId} (g : w.grownBy w' row) (h : Box w b cs t) (hn : row ≠ some b) : Box w' b cs t := h.keep (grown_keep g (fun k e => e) : Keep (fun b => row = some b) w w') (fun e => hn e)
set_option maxHeartbeats 1000000 in
set_option maxRecDepth 100000 in
theorem refLog_ (N : Nat → Prop) (va : Value) (s : SysD) (id kind a b v k0 : Int) (w : World) (h : IsSys N w va s) (hN : ∀ b, N b → b < w.heap.size) (hL : s.L.length ≤ 99999) :
    Gives Proofs.Try.prog 91 #[va, .int .i64 id, .agg #[.int .i64 k0, .int .i64 kind, .int .i64 a, .int .i64 b, .int .i64 v]] w (fun r w' => IsSys N w' r (logD s id kind a b v)) := by
  obtain ⟨aw, cw, ag, cg, ac, cc, al, cl, rfl, hw, hg, hc, hl⟩ := h.opened
  cases hh : hasD s id
  · have hd : logD s id kind a b v = s := by simp [logD, hh]
    rw [hd]
    by_cases h0 : id < 0
    · skip
      go_enter Proofs.Try.func91, Proofs.Try.ntmps91
      go_wp2
      exact bodyPost_ret (ret_cell (cs := #[.slice aw s.M.W.length cw, .slice ag s.M.G.length cg, .bool s.M.bad, .slice ac s.C.length cc, .slice al s.L.length cl]) (Box.newAt _ _ _ (by first | rfl | simp)) Proofs.Try.results91 rfl Proofs.Try.underlying83 rfl (by kernel_rfl)) rfl ⟨_, rfl, exn, IsSys.mk rfl (hw.keep keq) (hg.keep keq) (IsCores.keep hc keq) (IsEvs.keep hl keq)⟩
    · have h1 : (s.C.length : Int) ≤ id := by simp [hasD] at hh; omega
      go_enter Proofs.Try.func91, Proofs.Try.ntmps91
      go_wp2
      exact bodyPost_ret (ret_cell (cs := #[.slice aw s.M.W.length cw, .slice ag s.M.G.length cg, .bool s.M.bad, .slice ac s.C.length cc, .slice al s.L.length cl]) (Box.newAt _ _ _ (by first | rfl | simp)) Proofs.Try.results91 rfl Proofs.Try.underlying83 rfl (by kernel_rfl)) rfl ⟨_, rfl, exn, IsSys.mk rfl (hw.keep keq) (hg.keep keq) (IsCores.keep hc keq) (IsEvs.keep hl keq)⟩
  · have hd : logD s id kind a b v = { s with L := s.L ++ [⟨id, kind, a, b, v⟩] } := by simp [logD, hh]
    rw [hd]
    have h0 : ¬ id < 0 := by simp [hasD] at hh; omega
    have h1 : ¬ (s.C.length : Int) ≤ id := by simp [hasD] at hh; omega
    clear hd hh
    go_enter Proofs.Try.func91, Proofs.Try.ntmps91
    go_wp2_with (fail)
    obtain ⟨W, hW⟩ : ∃ x, x = (((w.alloc (.cells #[.slice aw s.M.W.length cw, .slice ag s.M.G.length cg, .bool s.M.bad, .slice ac s.C.length cc, .slice al s.L.length cl] 83 (0, 0))).alloc (.cells #[.int .i64 id, .int .i64 kind, .int .i64 a, .int .i64 b, .int .i64 v] 108 (0, 0))).alloc (.cells #[.slice none 0 0, .slice none 0 0, .bool false, .slice none 0 0, .slice none 0 0] 83 (0, 0))) := ⟨_, rfl⟩
    have bS : Box W w.heap.size #[.slice aw s.M.W.length cw, .slice ag s.M.G.length cg, .bool s.M.bad, .slice ac s.C.length cc, .slice al s.L.length cl] 83 := by rw [hW]; exact (((Box.newAt _ _ _ (by first | rfl | simp)).alloc _).alloc _)
    have bE : Box W (w.heap.size + 1) #[.int .i64 id, .int .i64 kind, .int .i64 a, .int .i64 b, .int .i64 v] 108 := by rw [hW]; exact ((Box.newAt _ _ _ (by first | rfl | simp)).alloc _)
    have bR : Box W (w.heap.size + 2) #[.slice none 0 0, .slice none 0 0, .bool false, .slice none 0 0, .slice none 0 0] 83 := by rw [hW]; exact (Box.newAt _ _ _ (by first | rfl | simp))
    have XW : Ext w W := by rw [hW]; exact exq
    have sW : w.heap.size + 3 ≤ W.heap.size := by rw [hW]; simp
    have hlW := IsSl.extE hl XW
    rw [← hW]
    clear hW
    obtain ⟨p0, p1, p2, p3, p4, d0, d1, d2, d3, d4⟩ := cells5 bS
    obtain ⟨r0, r1, r2, r3, r4, e0, e1, e2, e3, e4⟩ := cells5 bE
    obtain ⟨t0, t1, t2, t3, t4, f0, f1, f2, f3, f4⟩ := cells5 bR
    have z0 : w.heap.size < W.heap.size := by omega
    have z1 : w.heap.size + 1 < W.heap.size := by omega
    have z2 : w.heap.size + 2 < W.heap.size := by omega
    have held : ∀ w', Keep (fun b => b = w.heap.size + 2) W w' → w'.cell? ⟨w.heap.size, 0, none⟩ = some (.slice aw s.M.W.length cw) ∧ w'.cell? ⟨w.heap.size, 1, none⟩ = some (.slice ag s.M.G.length cg) ∧ w'.cell? ⟨w.heap.size, 2, none⟩ = some (.bool s.M.bad) ∧ w'.cell? ⟨w.heap.size, 3, none⟩ = some (.slice ac s.C.length cc) ∧ w'.cell? ⟨w.heap.size, 4, none⟩ = some (.slice al s.L.length cl) ∧ w'.cell? ⟨(w.heap.size + 1), 0, none⟩ = some (.int .i64 id) ∧ w'.cell? ⟨(w.heap.size + 1), 1, none⟩ = some (.int .i64 kind) ∧ w'.cell? ⟨(w.heap.size + 1), 2, none⟩ = some (.int .i64 a) ∧ w'.cell? ⟨(w.heap.size + 1), 3, none⟩ = some (.int .i64 b) ∧ w'.cell? ⟨(w.heap.size + 1), 4, none⟩ = some (.int .i64 v) := by
      intro w' k
      have h1 := cells5 (bS.keep k (by omega))
      have h2 := cells5 (bE.keep k (by omega))
      exact ⟨h1.1, h1.2.1, h1.2.2.1, h1.2.2.2.1, h1.2.2.2.2.1, h2.1, h2.2.1, h2.2.2.1, h2.2.2.2.1, h2.2.2.2.2.1⟩
    go_region_held3 (fun w' => w'.cell? ⟨w.heap.size, 0, none⟩ = some (.slice aw s.M.W.length cw) ∧ w'.cell? ⟨w.heap.size, 1, none⟩ = some (.slice ag s.M.G.length cg) ∧ w'.cell? ⟨w.heap.size, 2, none⟩ = some (.bool s.M.bad) ∧ w'.cell? ⟨w.heap.size, 3, none⟩ = some (.slice ac s.C.length cc) ∧ w'.cell? ⟨w.heap.size, 4, none⟩ = some (.slice al s.L.length cl) ∧ w'.cell? ⟨(w.heap.size + 1), 0, none⟩ = some (.int .i64 id) ∧ w'.cell? ⟨(w.heap.size + 1), 1, none⟩ = some (.int .i64 kind) ∧ w'.cell? ⟨(w.heap.size + 1), 2, none⟩ = some (.int .i64 a) ∧ w'.cell? ⟨(w.heap.size + 1), 3, none⟩ = some (.int .i64 b) ∧ w'.cell? ⟨(w.heap.size + 1), 4, none⟩ = some (.int .i64 v)) (exact held _ (by with_reducible (repeat (first | assumption | exact Keep.refl _ _ | refine Keep.alloc ?_ _ | refine Keep.drew ?_ | refine Keep.s ?_ rfl)))) (first | (refine step_evs rfl (.tmp 23) (.tmp 25) rfl (.slice (some ⟨_, 0, none⟩) 0 0) (.slice al s.L.length cl) [] s.L W.heap.size N rfl rfl (OwnSl.nil (by with_reducible (repeat (first | exact Box.newAt _ _ _ rfl | exact Box.newAt _ _ _ (by simp) | refine Box.alloc ?_ _ | refine Box.drew ?_ | refine Box.grown g26 ?_ (own_ne (by first | omega | (simp; done) | (simp; omega)))))) (by first | exact Nat.le_refl _ | (simp; done) | (simp; omega) | omega)) (IsSl.extE hlW exq) (by simp; omega) (by first | exact Nat.le_refl _ | (simp; done) | (simp; omega) | omega) ?_; intro a26 c26 w26 h26 g26; have X26 : Ext W w26 := grown_ext g26 exq (fun k e => by cases e; exact (by first | exact Nat.le_refl _ | (simp; done) | (simp; omega) | omega)); have k26 : Keep (fun b => b = w.heap.size + 2) W w26 := X26.keep; have x26 : W.heap.size ≤ w26.heap.size := k26.1) | (refine step_evs rfl (.tmp 26) (.tmp 28) rfl (.slice a26 ([] ++ s.L).length c26) (.slice (some ⟨_, 0, none⟩) 1 1) ([] ++ s.L) [(⟨id, kind, a, b, v⟩ : EvD)] W.heap.size no rfl rfl (OwnSl.extE h26 exq) (IsSl.one (cs := [.int .i64 id, .int .i64 kind, .int .i64 a, .int .i64 b, .int .i64 v]) (e := 108) (x := (⟨id, kind, a, b, v⟩ : EvD)) (by with_reducible (repeat (first | exact Box.newAt _ _ _ rfl | exact Box.newAt _ _ _ (by simp) | refine Box.alloc ?_ _ | refine Box.drew ?_ | refine Box.grown g26 ?_ (own_ne (by first | omega | (simp; done) | (simp; omega)))))) rfl rfl) (by simp; omega) (by first | exact Nat.le_refl _ | (simp; done) | (simp; omega) | omega) ?_; intro a29 c29 w29 h29 g29; have X29 : Ext W w29 := grown_ext g29 exq (fun k e => h26.base k e); have k29 : Keep (fun b => b = w.heap.size + 2) W w29 := X29.keep; have x29 : W.heap.size ≤ w29.heap.size := k29.1; have bR29 := bR.ext X29; have ⟨t0, t1, t2, t3, t4, f0, f1, f2, f3, f4⟩ := cells5 bR29; have hlE : IsSl 5 RE (Bx N (w.heap.size + 2) (w.heap.size + 3)) w29 (.slice a29 (([] ++ s.L) ++ [(⟨id, kind, a, b, v⟩ : EvD)]).length c29) (s.L ++ [(⟨id, kind, a, b, v⟩ : EvD)]) := h29.sl (fun b hb hn => hn.elim (fun q => by have := hN b q; omega) (fun q => by omega))))
    all_goals
      have kw : Ext w w29 := XW.trans X29
      simp only [List.nil_append, List.length_append, List.length_cons, List.length_nil, Nat.zero_add] at hlE
      go_wp2
      exact bodyPost_ret (ret_cell (cs := #[.slice aw s.M.W.length cw, .slice ag s.M.G.length cg, .bool s.M.bad, .slice ac s.C.length cc, .slice a29 (s.L.length + 1) c29]) (((((bR29.setCell _).setCell _).setCell _).setCell _).setCell _) Proofs.Try.results91 rfl Proofs.Try.underlying83 rfl (by kernel_rfl)) rfl ⟨_, rfl, exn, IsSys.mk (s := { s with L := s.L ++ [(⟨id, kind, a, b, v⟩ : EvD)] }) rfl (hw.keep keq) (hg.keep keq) (IsCores.keep hc keq) (IsEvs.less (IsEvs.keep hlE keq) (fun _ _ h => .inl h))⟩
end Go.Proofs.Ytcfbdfgondmkoaa
/- A step of a core at the list of free nodes, by the document. -/
namespace Go.Proofs.Ytcfbdfgondmkoaa
open Go Go.RowKit
set_option linter.unusedSimpArgs false
set_option linter.unusedVariables false
set_option linter.unnecessarySimpa false

set_option maxHeartbeats 1000000 in
set_option maxRecDepth 100000 in
theorem refPop_z0 (N : Nat → Prop) (s : SysD) (id op q0 q1 q2 q3 q4 q5 q6 q7 : Int) (fS : List Int) (aw ag ac al ga : Option Addr) (cw cg cc cl gc : Nat) (w : World) (hw : IsInts N w (.slice aw s.M.W.length cw) s.M.W) (hg : IsInts N w (.slice ag s.M.G.length cg) s.M.G) (hc : IsCores N w (.slice ac s.C.length cc) s.C) (hl : IsEvs N w (.slice al s.L.length cl) s.L) (fs : IsInts N w (.slice ga fS.length gc) fS)
    (hN : ∀ b, N b → b < w.heap.size) (hC : s.C.length ≤ 100000) (hFm : ∀ (i : Nat) c, s.C[i]? = some c → c.F.length ≤ 100000) (hfit : Fits s.M) (hL : s.L.length ≤ 99999) (hi : (idx (loadD s.M 0) == 0) = true) :
    Gives Proofs.Try.prog 154 #[.agg #[.slice aw s.M.W.length cw, .slice ag s.M.G.length cg, .bool s.M.bad, .slice ac s.C.length cc, .slice al s.L.length cl], .int .i64 id, .agg #[.int .i64 op, .int .i64 0, .int .i64 q0, .int .i64 q1, .int .i64 q2, .int .i64 q3, .int .i64 q4, .int .i64 q5, .int .i64 q6, .int .i64 q7, .slice ga fS.length gc]] w (fun r w' => IsSys N w' r (backS (logD (memS s (touchD s.M 0)) id 9 0 0 0) id 0 2)) := by
  have hwB := hw.bxn (hi := w.heap.size + 3)
  have hgB := hg.bxn (hi := w.heap.size + 3)
  have hcB := hc.bxn (hi := w.heap.size + 3)
  have hlB := hl.bxn (hi := w.heap.size + 3)
  have fsB := fs.bxn (hi := w.heap.size + 3)
  obtain ⟨m1, hm1⟩ : ∃ m, touchD s.M 0 = m := ⟨_, rfl⟩
  obtain ⟨v, hv⟩ : ∃ x, loadD s.M 0 = x := ⟨_, rfl⟩
  have kl : ∀ (w' : World) (va : Value), IsMem (Bx N w.heap.size (w.heap.size + 3)) w' va s.M → w.heap.size + 3 ≤ w'.heap.size → Gives Proofs.Try.prog 65 #[va, .int .i64 (0)] w' (fun r w' => ∃ u, r = .tuple #[u, .int .i64 v] ∧ IsMem (Bx N w.heap.size (w.heap.size + 3)) w' u m1) := fun w' va hm hsz => by
    have := refLoad_ (Bx N w.heap.size (w.heap.size + 3)) va s.M (0) w' hm hfit (Bx.le hN hsz)
    rw [hm1, hv] at this; exact this
  rw [hm1]
  try rw [hv]
  rw [hv] at hi
  clear hm1 hv
  go_enter Proofs.Try.func154, Proofs.Try.ntmps154
  go_wp2_with (fail)
  go_at_call 65
  refine (kl _ _ (IsMem.mk rfl (IsInts.keep hwB keq) (IsInts.keep hgB keq)) (by first | omega | (simp <;> omega))).calls.mono ?_
  rintro e w1 ⟨_, rfl, hb1, u, rfl, hu1⟩
  obtain ⟨u1, u2, u3, u4, rfl, mw, mg⟩ := hu1.opened
  have B0_1 : Box w1 (w.heap.size) #[.slice aw s.M.W.length cw, .slice ag s.M.G.length cg, .bool s.M.bad, .slice ac s.C.length cc, .slice al s.L.length cl] 83 := (((Box.newAt _ _ _ (by first | rfl | simp)).alloc _).alloc _).ext hb1
  have B1_1 : Box w1 (w.heap.size + 1) #[.int .i64 op, .int .i64 0, .int .i64 q0, .int .i64 q1, .int .i64 q2, .int .i64 q3, .int .i64 q4, .int .i64 q5, .int .i64 q6, .int .i64 q7, .slice ga fS.length gc] 95 := ((Box.newAt _ _ _ (by first | rfl | simp)).alloc _).ext hb1
  have B2_1 : Box w1 (w.heap.size + 1 + 1) #[.slice none 0 0, .slice none 0 0, .bool false, .slice none 0 0, .slice none 0 0] 83 := (Box.newAt _ _ _ (by first | rfl | simp)).ext hb1
  have s1 : w.heap.size + 3 ≤ w1.heap.size := (by have h := hb1.size; first | omega | (simp at h; omega))
  obtain ⟨c0_0, c0_1, c0_2, c0_3, c0_4, d0_0, d0_1, d0_2, d0_3, d0_4⟩ := cells5 B0_1
  have z0 : w.heap.size < w1.heap.size := B0_1.lt
  obtain ⟨⟨c1_0, c1_1, c1_2, c1_3, c1_4, c1_5, c1_6, c1_7, c1_8, c1_9, c1_10⟩, d1_0, d1_1, d1_2, d1_3, d1_4, d1_5, d1_6, d1_7, d1_8, d1_9, d1_10⟩ := cells11 B1_1
  have z1 : w.heap.size + 1 < w1.heap.size := B1_1.lt
  obtain ⟨c2_0, c2_1, c2_2, c2_3, c2_4, d2_0, d2_1, d2_2, d2_3, d2_4⟩ := cells5 B2_1
  have z2 : w.heap.size + 1 + 1 < w1.heap.size := B2_1.lt
  go_wp2_with (fail)
  go_at_call 42
  refine (refIdx_ v _).calls.mono ?_
  rintro e w2 ⟨_, rfl, hb2, rfl⟩
  have B0_2 : Box w2 (w.heap.size) #[.slice aw s.M.W.length cw, .slice ag s.M.G.length cg, .bool s.M.bad, .slice ac s.C.length cc, .slice al s.L.length cl] 83 := (B0_1.alloc _).ext hb2
  have B1_2 : Box w2 (w.heap.size + 1) #[.int .i64 op, .int .i64 0, .int .i64 q0, .int .i64 q1, .int .i64 q2, .int .i64 q3, .int .i64 q4, .int .i64 q5, .int .i64 q6, .int .i64 q7, .slice ga fS.length gc] 95 := (B1_1.alloc _).ext hb2
  have B2_2 : Box w2 (w.heap.size + 1 + 1) #[.slice none 0 0, .slice none 0 0, .bool false, .slice none 0 0, .slice none 0 0] 83 := (B2_1.alloc _).ext hb2
  have B3_2 : Box w2 (w1.heap.size) #[.slice u1 m1.W.length u2, .slice u3 m1.G.length u4, .bool m1.bad] 50 := (Box.newAt _ _ _ (by first | rfl | simp)).ext hb2
  clear c0_0 c0_1 c0_2 c0_3 c0_4 d0_0 d0_1 d0_2 d0_3 d0_4 z0 c1_0 c1_1 c1_2 c1_3 c1_4 c1_5 c1_6 c1_7 c1_8 c1_9 c1_10 d1_0 d1_1 d1_2 d1_3 d1_4 d1_5 d1_6 d1_7 d1_8 d1_9 d1_10 z1 c2_0 c2_1 c2_2 c2_3 c2_4 d2_0 d2_1 d2_2 d2_3 d2_4 z2
  have s2 : w1.heap.size + 1 ≤ w2.heap.size := (by have h := hb2.size; first | omega | (simp at h; omega))
  obtain ⟨c0_0, c0_1, c0_2, c0_3, c0_4, d0_0, d0_1, d0_2, d0_3, d0_4⟩ := cells5 B0_2
  have z0 : w.heap.size < w2.heap.size := B0_2.lt
  obtain ⟨⟨c1_0, c1_1, c1_2, c1_3, c1_4, c1_5, c1_6, c1_7, c1_8, c1_9, c1_10⟩, d1_0, d1_1, d1_2, d1_3, d1_4, d1_5, d1_6, d1_7, d1_8, d1_9, d1_10⟩ := cells11 B1_2
  have z1 : w.heap.size + 1 < w2.heap.size := B1_2.lt
  obtain ⟨c2_0, c2_1, c2_2, c2_3, c2_4, d2_0, d2_1, d2_2, d2_3, d2_4⟩ := cells5 B2_2
  have z2 : w.heap.size + 1 + 1 < w2.heap.size := B2_2.lt
  obtain ⟨c3_0, c3_1, c3_2, d3_0, d3_1, d3_2⟩ := cells3 B3_2
  have z3 : w1.heap.size < w2.heap.size := B3_2.lt
  go_wp2_with (fail)
  go_at_call 103
  refine (refMem_ (Bx N w.heap.size (w.heap.size + 3)) _ _ s m1 _ (IsSys.mk rfl (IsInts.keep hwB keq) (IsInts.keep hgB keq) (IsCores.keep hcB keq) (IsEvs.keep hlB keq) : IsSys (Bx N w.heap.size (w.heap.size + 3)) _ _ s) (IsMem.mk rfl (IsInts.keep mw keq) (IsInts.keep mg keq) : IsMem (Bx N w.heap.size (w.heap.size + 3)) _ _ m1)).calls.mono ?_
  rintro e w3 ⟨_, rfl, hb3, ht⟩
  obtain ⟨t1, t2, t3, t4, t5, t6, t7, t8, rfl, tW, tG, tC, tL⟩ := ht.opened
  have B0_3 : Box w3 (w.heap.size) #[.slice aw s.M.W.length cw, .slice ag s.M.G.length cg, .bool s.M.bad, .slice ac s.C.length cc, .slice al s.L.length cl] 83 := B0_2.ext hb3
  have B1_3 : Box w3 (w.heap.size + 1) #[.int .i64 op, .int .i64 0, .int .i64 q0, .int .i64 q1, .int .i64 q2, .int .i64 q3, .int .i64 q4, .int .i64 q5, .int .i64 q6, .int .i64 q7, .slice ga fS.length gc] 95 := B1_2.ext hb3
  have B2_3 : Box w3 (w.heap.size + 1 + 1) #[.slice none 0 0, .slice none 0 0, .bool false, .slice none 0 0, .slice none 0 0] 83 := B2_2.ext hb3
  have B3_3 : Box w3 (w1.heap.size) #[.slice u1 m1.W.length u2, .slice u3 m1.G.length u4, .bool m1.bad] 50 := B3_2.ext hb3
  clear c0_0 c0_1 c0_2 c0_3 c0_4 d0_0 d0_1 d0_2 d0_3 d0_4 z0 c1_0 c1_1 c1_2 c1_3 c1_4 c1_5 c1_6 c1_7 c1_8 c1_9 c1_10 d1_0 d1_1 d1_2 d1_3 d1_4 d1_5 d1_6 d1_7 d1_8 d1_9 d1_10 z1 c2_0 c2_1 c2_2 c2_3 c2_4 d2_0 d2_1 d2_2 d2_3 d2_4 z2 c3_0 c3_1 c3_2 d3_0 d3_1 d3_2 z3
  have s3 : w2.heap.size ≤ w3.heap.size := (by have h := hb3.size; first | omega | (simp at h; omega))
  obtain ⟨c0_0, c0_1, c0_2, c0_3, c0_4, d0_0, d0_1, d0_2, d0_3, d0_4⟩ := cells5 B0_3
  have z0 : w.heap.size < w3.heap.size := B0_3.lt
  obtain ⟨⟨c1_0, c1_1, c1_2, c1_3, c1_4, c1_5, c1_6, c1_7, c1_8, c1_9, c1_10⟩, d1_0, d1_1, d1_2, d1_3, d1_4, d1_5, d1_6, d1_7, d1_8, d1_9, d1_10⟩ := cells11 B1_3
  have z1 : w.heap.size + 1 < w3.heap.size := B1_3.lt
  obtain ⟨c2_0, c2_1, c2_2, c2_3, c2_4, d2_0, d2_1, d2_2, d2_3, d2_4⟩ := cells5 B2_3
  have z2 : w.heap.size + 1 + 1 < w3.heap.size := B2_3.lt
  obtain ⟨c3_0, c3_1, c3_2, d3_0, d3_1, d3_2⟩ := cells3 B3_3
  have z3 : w1.heap.size < w3.heap.size := B3_3.lt
  go_wp2_with (fail)
  go_at_call 91
  refine (refLog_ (Bx N w.heap.size (w.heap.size + 3)) _ (memS s m1) id 9 0 0 0 0 _ (IsSys.mk rfl (IsInts.keep tW keq) (IsInts.keep tG keq) (IsCores.keep tC keq) (IsEvs.keep tL keq) : IsSys (Bx N w.heap.size (w.heap.size + 3)) _ _ (memS s m1)) (Bx.le hN (by first | omega | (simp <;> omega))) hL).calls.mono ?_
  rintro e w4 ⟨_, rfl, hb4, ht2⟩
  obtain ⟨g1, g2, g3, g4, g5, g6, g7, g8, rfl, gW, gG, gC, gL⟩ := ht2.opened
  have B0_4 : Box w4 (w.heap.size) #[.slice aw s.M.W.length cw, .slice ag s.M.G.length cg, .bool s.M.bad, .slice ac s.C.length cc, .slice al s.L.length cl] 83 := B0_3.ext hb4
  have B1_4 : Box w4 (w.heap.size + 1) #[.int .i64 op, .int .i64 0, .int .i64 q0, .int .i64 q1, .int .i64 q2, .int .i64 q3, .int .i64 q4, .int .i64 q5, .int .i64 q6, .int .i64 q7, .slice ga fS.length gc] 95 := B1_3.ext hb4
  have B2_4 : Box w4 (w.heap.size + 1 + 1) #[.slice none 0 0, .slice none 0 0, .bool false, .slice none 0 0, .slice none 0 0] 83 := B2_3.ext hb4
  have B3_4 : Box w4 (w1.heap.size) #[.slice u1 m1.W.length u2, .slice u3 m1.G.length u4, .bool m1.bad] 50 := B3_3.ext hb4
  clear c0_0 c0_1 c0_2 c0_3 c0_4 d0_0 d0_1 d0_2 d0_3 d0_4 z0 c1_0 c1_1 c1_2 c1_3 c1_4 c1_5 c1_6 c1_7 c1_8 c1_9 c1_10 d1_0 d1_1 d1_2 d1_3 d1_4 d1_5 d1_6 d1_7 d1_8 d1_9 d1_10 z1 c2_0 c2_1 c2_2 c2_3 c2_4 d2_0 d2_1 d2_2 d2_3 d2_4 z2 c3_0 c3_1 c3_2 d3_0 d3_1 d3_2 z3
  have s4 : w3.heap.size ≤ w4.heap.size := (by have h := hb4.size; first | omega | (simp at h; omega))
  obtain ⟨c0_0, c0_1, c0_2, c0_3, c0_4, d0_0, d0_1, d0_2, d0_3, d0_4⟩ := cells5 B0_4
  have z0 : w.heap.size < w4.heap.size := B0_4.lt
  obtain ⟨⟨c1_0, c1_1, c1_2, c1_3, c1_4, c1_5, c1_6, c1_7, c1_8, c1_9, c1_10⟩, d1_0, d1_1, d1_2, d1_3, d1_4, d1_5, d1_6, d1_7, d1_8, d1_9, d1_10⟩ := cells11 B1_4
  have z1 : w.heap.size + 1 < w4.heap.size := B1_4.lt
  obtain ⟨c2_0, c2_1, c2_2, c2_3, c2_4, d2_0, d2_1, d2_2, d2_3, d2_4⟩ := cells5 B2_4
  have z2 : w.heap.size + 1 + 1 < w4.heap.size := B2_4.lt
  obtain ⟨c3_0, c3_1, c3_2, d3_0, d3_1, d3_2⟩ := cells3 B3_4
  have z3 : w1.heap.size < w4.heap.size := B3_4.lt
  go_wp2_with (fail)
  go_at_call 90
  refine (refBack_ (Bx N w.heap.size (w.heap.size + 3)) _ (logD (memS s m1) id 9 0 0 0) id 0 2 _ (IsSys.mk rfl (IsInts.keep gW keq) (IsInts.keep gG keq) (IsCores.keep gC keq) (IsEvs.keep gL keq) : IsSys (Bx N w.heap.size (w.heap.size + 3)) _ _ (logD (memS s m1) id 9 0 0 0)) (Bx.le hN (by first | omega | (simp <;> omega))) (by rw [logD_C]; exact hC)).calls.mono ?_
  rintro e w5 ⟨_, rfl, hb5, hu5⟩
  obtain ⟨r1, r2, r3, r4, r5, r6, r7, r8, rfl, rW, rG, rC, rL⟩ := hu5.opened
  have B0_5 : Box w5 (w.heap.size) #[.slice aw s.M.W.length cw, .slice ag s.M.G.length cg, .bool s.M.bad, .slice ac s.C.length cc, .slice al s.L.length cl] 83 := (B0_4.alloc _).ext hb5
  have B1_5 : Box w5 (w.heap.size + 1) #[.int .i64 op, .int .i64 0, .int .i64 q0, .int .i64 q1, .int .i64 q2, .int .i64 q3, .int .i64 q4, .int .i64 q5, .int .i64 q6, .int .i64 q7, .slice ga fS.length gc] 95 := (B1_4.alloc _).ext hb5
  have B2_5 : Box w5 (w.heap.size + 1 + 1) #[.slice none 0 0, .slice none 0 0, .bool false, .slice none 0 0, .slice none 0 0] 83 := (B2_4.alloc _).ext hb5
  have B3_5 : Box w5 (w1.heap.size) #[.slice u1 m1.W.length u2, .slice u3 m1.G.length u4, .bool m1.bad] 50 := (B3_4.alloc _).ext hb5
  have B4_5 : Box w5 (w4.heap.size) #[.slice g1 (logD (memS s m1) id 9 0 0 0).M.W.length g2, .slice g3 (logD (memS s m1) id 9 0 0 0).M.G.length g4, .bool (logD (memS s m1) id 9 0 0 0).M.bad, .slice g5 (logD (memS s m1) id 9 0 0 0).C.length g6, .slice g7 (logD (memS s m1) id 9 0 0 0).L.length g8] 83 := (Box.newAt _ _ _ (by first | rfl | simp)).ext hb5
  clear c0_0 c0_1 c0_2 c0_3 c0_4 d0_0 d0_1 d0_2 d0_3 d0_4 z0 c1_0 c1_1 c1_2 c1_3 c1_4 c1_5 c1_6 c1_7 c1_8 c1_9 c1_10 d1_0 d1_1 d1_2 d1_3 d1_4 d1_5 d1_6 d1_7 d1_8 d1_9 d1_10 z1 c2_0 c2_1 c2_2 c2_3 c2_4 d2_0 d2_1 d2_2 d2_3 d2_4 z2 c3_0 c3_1 c3_2 d3_0 d3_1 d3_2 z3
  have s5 : w4.heap.size + 1 ≤ w5.heap.size := (by have h := hb5.size; first | omega | (simp at h; omega))
  obtain ⟨c0_0, c0_1, c0_2, c0_3, c0_4, d0_0, d0_1, d0_2, d0_3, d0_4⟩ := cells5 B0_5
  have z0 : w.heap.size < w5.heap.size := B0_5.lt
  obtain ⟨⟨c1_0, c1_1, c1_2, c1_3, c1_4, c1_5, c1_6, c1_7, c1_8, c1_9, c1_10⟩, d1_0, d1_1, d1_2, d1_3, d1_4, d1_5, d1_6, d1_7, d1_8, d1_9, d1_10⟩ := cells11 B1_5
  have z1 : w.heap.size + 1 < w5.heap.size := B1_5.lt
  obtain ⟨c2_0, c2_1, c2_2, c2_3, c2_4, d2_0, d2_1, d2_2, d2_3, d2_4⟩ := cells5 B2_5
  have z2 : w.heap.size + 1 + 1 < w5.heap.size := B2_5.lt
  obtain ⟨c3_0, c3_1, c3_2, d3_0, d3_1, d3_2⟩ := cells3 B3_5
  have z3 : w1.heap.size < w5.heap.size := B3_5.lt
  obtain ⟨c4_0, c4_1, c4_2, c4_3, c4_4, d4_0, d4_1, d4_2, d4_3, d4_4⟩ := cells5 B4_5
  have z4 : w4.heap.size < w5.heap.size := B4_5.lt
  go_wp2
  exact bodyPost_ret (ret_cell (cs := #[.slice r1 (backS (logD (memS s m1) id 9 0 0 0) id 0 2).M.W.length r2, .slice r3 (backS (logD (memS s m1) id 9 0 0 0) id 0 2).M.G.length r4, .bool (backS (logD (memS s m1) id 9 0 0 0) id 0 2).M.bad, .slice r5 (backS (logD (memS s m1) id 9 0 0 0) id 0 2).C.length r6, .slice r7 (backS (logD (memS s m1) id 9 0 0 0) id 0 2).L.length r8]) (((((B2_5.setCell _).setCell _).setCell _).setCell _).setCell _) Proofs.Try.results154 rfl Proofs.Try.underlying83 rfl (by kernel_rfl)) rfl ⟨_, rfl, exn, IsSys.less (IsSys.keep hu5 keq) (fun _ _ hn => .inl hn)⟩
set_option maxHeartbeats 1000000 in
set_option maxRecDepth 100000 in
theorem refPop_n0 (N : Nat → Prop) (s : SysD) (id op q0 q1 q2 q3 q4 q5 q6 q7 : Int) (fS : List Int) (aw ag ac al ga : Option Addr) (cw cg cc cl gc : Nat) (w : World) (hw : IsInts N w (.slice aw s.M.W.length cw) s.M.W) (hg : IsInts N w (.slice ag s.M.G.length cg) s.M.G) (hc : IsCores N w (.slice ac s.C.length cc) s.C) (hl : IsEvs N w (.slice al s.L.length cl) s.L) (fs : IsInts N w (.slice ga fS.length gc) fS)
    (hN : ∀ b, N b → b < w.heap.size) (hC : s.C.length ≤ 100000) (hFm : ∀ (i : Nat) c, s.C[i]? = some c → c.F.length ≤ 100000) (hfit : Fits s.M) (hi : (idx (loadD s.M 0) == 0) = false) :
    Gives Proofs.Try.prog 154 #[.agg #[.slice aw s.M.W.length cw, .slice ag s.M.G.length cg, .bool s.M.bad, .slice ac s.C.length cc, .slice al s.L.length cl], .int .i64 id, .agg #[.int .i64 op, .int .i64 0, .int .i64 q0, .int .i64 q1, .int .i64 q2, .int .i64 q3, .int .i64 q4, .int .i64 q5, .int .i64 q6, .int .i64 q7, .slice ga fS.length gc]] w (fun r w' => IsSys N w' r (onS s id (touchD s.M 0) ⟨op, 0, [loadD s.M 0, q1, q2, q3, q4, q5, q6, q7], fS⟩ 1)) := by
  have hwB := hw.bxn (hi := w.heap.size + 3)
  have hgB := hg.bxn (hi := w.heap.size + 3)
  have hcB := hc.bxn (hi := w.heap.size + 3)
  have hlB := hl.bxn (hi := w.heap.size + 3)
  have fsB := fs.bxn (hi := w.heap.size + 3)
  obtain ⟨m1, hm1⟩ : ∃ m, touchD s.M 0 = m := ⟨_, rfl⟩
  obtain ⟨v, hv⟩ : ∃ x, loadD s.M 0 = x := ⟨_, rfl⟩
  have kl : ∀ (w' : World) (va : Value), IsMem (Bx N w.heap.size (w.heap.size + 3)) w' va s.M → w.heap.size + 3 ≤ w'.heap.size → Gives Proofs.Try.prog 65 #[va, .int .i64 (0)] w' (fun r w' => ∃ u, r = .tuple #[u, .int .i64 v] ∧ IsMem (Bx N w.heap.size (w.heap.size + 3)) w' u m1) := fun w' va hm hsz => by
    have := refLoad_ (Bx N w.heap.size (w.heap.size + 3)) va s.M (0) w' hm hfit (Bx.le hN hsz)
    rw [hm1, hv] at this; exact this
  rw [hm1]
  try rw [hv]
  rw [hv] at hi
  clear hm1 hv
  go_enter Proofs.Try.func154, Proofs.Try.ntmps154
  go_wp2_with (fail)
  go_at_call 65
  refine (kl _ _ (IsMem.mk rfl (IsInts.keep hwB keq) (IsInts.keep hgB keq)) (by first | omega | (simp <;> omega))).calls.mono ?_
  rintro e w1 ⟨_, rfl, hb1, u, rfl, hu1⟩
  obtain ⟨u1, u2, u3, u4, rfl, mw, mg⟩ := hu1.opened
  have B0_1 : Box w1 (w.heap.size) #[.slice aw s.M.W.length cw, .slice ag s.M.G.length cg, .bool s.M.bad, .slice ac s.C.length cc, .slice al s.L.length cl] 83 := (((Box.newAt _ _ _ (by first | rfl | simp)).alloc _).alloc _).ext hb1
  have B1_1 : Box w1 (w.heap.size + 1) #[.int .i64 op, .int .i64 0, .int .i64 q0, .int .i64 q1, .int .i64 q2, .int .i64 q3, .int .i64 q4, .int .i64 q5, .int .i64 q6, .int .i64 q7, .slice ga fS.length gc] 95 := ((Box.newAt _ _ _ (by first | rfl | simp)).alloc _).ext hb1
  have B2_1 : Box w1 (w.heap.size + 1 + 1) #[.slice none 0 0, .slice none 0 0, .bool false, .slice none 0 0, .slice none 0 0] 83 := (Box.newAt _ _ _ (by first | rfl | simp)).ext hb1
  have s1 : w.heap.size + 3 ≤ w1.heap.size := (by have h := hb1.size; first | omega | (simp at h; omega))
  obtain ⟨c0_0, c0_1, c0_2, c0_3, c0_4, d0_0, d0_1, d0_2, d0_3, d0_4⟩ := cells5 B0_1
  have z0 : w.heap.size < w1.heap.size := B0_1.lt
  obtain ⟨⟨c1_0, c1_1, c1_2, c1_3, c1_4, c1_5, c1_6, c1_7, c1_8, c1_9, c1_10⟩, d1_0, d1_1, d1_2, d1_3, d1_4, d1_5, d1_6, d1_7, d1_8, d1_9, d1_10⟩ := cells11 B1_1
  have z1 : w.heap.size + 1 < w1.heap.size := B1_1.lt
  obtain ⟨c2_0, c2_1, c2_2, c2_3, c2_4, d2_0, d2_1, d2_2, d2_3, d2_4⟩ := cells5 B2_1
  have z2 : w.heap.size + 1 + 1 < w1.heap.size := B2_1.lt
  go_wp2_with (fail)
  go_at_call 42
  refine (refIdx_ v _).calls.mono ?_
  rintro e w2 ⟨_, rfl, hb2, rfl⟩
  have B0_2 : Box w2 (w.heap.size) #[.slice aw s.M.W.length cw, .slice ag s.M.G.length cg, .bool s.M.bad, .slice ac s.C.length cc, .slice al s.L.length cl] 83 := (B0_1.alloc _).ext hb2
  have B1_2 : Box w2 (w.heap.size + 1) #[.int .i64 op, .int .i64 0, .int .i64 q0, .int .i64 q1, .int .i64 q2, .int .i64 q3, .int .i64 q4, .int .i64 q5, .int .i64 q6, .int .i64 q7, .slice ga fS.length gc] 95 := (B1_1.alloc _).ext hb2
  have B2_2 : Box w2 (w.heap.size + 1 + 1) #[.slice none 0 0, .slice none 0 0, .bool false, .slice none 0 0, .slice none 0 0] 83 := (B2_1.alloc _).ext hb2
  have B3_2 : Box w2 (w1.heap.size) #[.slice u1 m1.W.length u2, .slice u3 m1.G.length u4, .bool m1.bad] 50 := (Box.newAt _ _ _ (by first | rfl | simp)).ext hb2
  clear c0_0 c0_1 c0_2 c0_3 c0_4 d0_0 d0_1 d0_2 d0_3 d0_4 z0 c1_0 c1_1 c1_2 c1_3 c1_4 c1_5 c1_6 c1_7 c1_8 c1_9 c1_10 d1_0 d1_1 d1_2 d1_3 d1_4 d1_5 d1_6 d1_7 d1_8 d1_9 d1_10 z1 c2_0 c2_1 c2_2 c2_3 c2_4 d2_0 d2_1 d2_2 d2_3 d2_4 z2
  have s2 : w1.heap.size + 1 ≤ w2.heap.size := (by have h := hb2.size; first | omega | (simp at h; omega))
  obtain ⟨c0_0, c0_1, c0_2, c0_3, c0_4, d0_0, d0_1, d0_2, d0_3, d0_4⟩ := cells5 B0_2
  have z0 : w.heap.size < w2.heap.size := B0_2.lt
  obtain ⟨⟨c1_0, c1_1, c1_2, c1_3, c1_4, c1_5, c1_6, c1_7, c1_8, c1_9, c1_10⟩, d1_0, d1_1, d1_2, d1_3, d1_4, d1_5, d1_6, d1_7, d1_8, d1_9, d1_10⟩ := cells11 B1_2
  have z1 : w.heap.size + 1 < w2.heap.size := B1_2.lt
  obtain ⟨c2_0, c2_1, c2_2, c2_3, c2_4, d2_0, d2_1, d2_2, d2_3, d2_4⟩ := cells5 B2_2
  have z2 : w.heap.size + 1 + 1 < w2.heap.size := B2_2.lt
  obtain ⟨c3_0, c3_1, c3_2, d3_0, d3_1, d3_2⟩ := cells3 B3_2
  have z3 : w1.heap.size < w2.heap.size := B3_2.lt
  go_wp2_with (fail)
  go_at_call 151
  refine (refOn_ (Bx N w.heap.size (w.heap.size + 3)) _ _ _ s id 1 m1 ⟨op, 0, [v, q1, q2, q3, q4, q5, q6, q7], fS⟩ _ (IsSys.mk rfl (IsInts.keep hwB keq) (IsInts.keep hgB keq) (IsCores.keep hcB keq) (IsEvs.keep hlB keq) : IsSys (Bx N w.heap.size (w.heap.size + 3)) _ _ s) (IsMem.mk rfl (IsInts.keep mw keq) (IsInts.keep mg keq) : IsMem (Bx N w.heap.size (w.heap.size + 3)) _ _ m1) (IsFrame.ofLit (IsInts.keep fsB keq) : IsFrame _ _ _ ⟨op, 0, [v, q1, q2, q3, q4, q5, q6, q7], fS⟩) (Bx.le hN (by first | omega | (simp <;> omega))) hC hFm).calls.mono ?_
  rintro e w3 ⟨_, rfl, hb3, hu3⟩
  obtain ⟨r1, r2, r3, r4, r5, r6, r7, r8, rfl, rW, rG, rC, rL⟩ := hu3.opened
  have B0_3 : Box w3 (w.heap.size) #[.slice aw s.M.W.length cw, .slice ag s.M.G.length cg, .bool s.M.bad, .slice ac s.C.length cc, .slice al s.L.length cl] 83 := (B0_2.setOther (by first | omega | (simp <;> omega)) _).ext hb3
  have B1_3 : Box w3 (w.heap.size + 1) #[.int .i64 op, .int .i64 0, .int .i64 v, .int .i64 q1, .int .i64 q2, .int .i64 q3, .int .i64 q4, .int .i64 q5, .int .i64 q6, .int .i64 q7, .slice ga fS.length gc] 95 := (B1_2.setCell _).ext hb3
  have B2_3 : Box w3 (w.heap.size + 1 + 1) #[.slice none 0 0, .slice none 0 0, .bool false, .slice none 0 0, .slice none 0 0] 83 := (B2_2.setOther (by first | omega | (simp <;> omega)) _).ext hb3
  have B3_3 : Box w3 (w1.heap.size) #[.slice u1 m1.W.length u2, .slice u3 m1.G.length u4, .bool m1.bad] 50 := (B3_2.setOther (by first | omega | (simp <;> omega)) _).ext hb3
  clear c0_0 c0_1 c0_2 c0_3 c0_4 d0_0 d0_1 d0_2 d0_3 d0_4 z0 c1_0 c1_1 c1_2 c1_3 c1_4 c1_5 c1_6 c1_7 c1_8 c1_9 c1_10 d1_0 d1_1 d1_2 d1_3 d1_4 d1_5 d1_6 d1_7 d1_8 d1_9 d1_10 z1 c2_0 c2_1 c2_2 c2_3 c2_4 d2_0 d2_1 d2_2 d2_3 d2_4 z2 c3_0 c3_1 c3_2 d3_0 d3_1 d3_2 z3
  have s3 : w2.heap.size ≤ w3.heap.size := (by have h := hb3.size; first | omega | (simp at h; omega))
  obtain ⟨c0_0, c0_1, c0_2, c0_3, c0_4, d0_0, d0_1, d0_2, d0_3, d0_4⟩ := cells5 B0_3
  have z0 : w.heap.size < w3.heap.size := B0_3.lt
  obtain ⟨⟨c1_0, c1_1, c1_2, c1_3, c1_4, c1_5, c1_6, c1_7, c1_8, c1_9, c1_10⟩, d1_0, d1_1, d1_2, d1_3, d1_4, d1_5, d1_6, d1_7, d1_8, d1_9, d1_10⟩ := cells11 B1_3
  have z1 : w.heap.size + 1 < w3.heap.size := B1_3.lt
  obtain ⟨c2_0, c2_1, c2_2, c2_3, c2_4, d2_0, d2_1, d2_2, d2_3, d2_4⟩ := cells5 B2_3
  have z2 : w.heap.size + 1 + 1 < w3.heap.size := B2_3.lt
  obtain ⟨c3_0, c3_1, c3_2, d3_0, d3_1, d3_2⟩ := cells3 B3_3
  have z3 : w1.heap.size < w3.heap.size := B3_3.lt
  go_wp2
  exact bodyPost_ret (ret_cell (cs := #[.slice r1 (onS s id m1 ⟨op, 0, [v, q1, q2, q3, q4, q5, q6, q7], fS⟩ 1).M.W.length r2, .slice r3 (onS s id m1 ⟨op, 0, [v, q1, q2, q3, q4, q5, q6, q7], fS⟩ 1).M.G.length r4, .bool (onS s id m1 ⟨op, 0, [v, q1, q2, q3, q4, q5, q6, q7], fS⟩ 1).M.bad, .slice r5 (onS s id m1 ⟨op, 0, [v, q1, q2, q3, q4, q5, q6, q7], fS⟩ 1).C.length r6, .slice r7 (onS s id m1 ⟨op, 0, [v, q1, q2, q3, q4, q5, q6, q7], fS⟩ 1).L.length r8]) (((((B2_3.setCell _).setCell _).setCell _).setCell _).setCell _) Proofs.Try.results154 rfl Proofs.Try.underlying83 rfl (by kernel_rfl)) rfl ⟨_, rfl, exn, IsSys.less (IsSys.keep hu3 keq) (fun _ _ hn => .inl hn)⟩
set_option maxHeartbeats 1000000 in
set_option maxRecDepth 100000 in
theorem refPop_1 (N : Nat → Prop) (s : SysD) (id op q0 q1 q2 q3 q4 q5 q6 q7 : Int) (fS : List Int) (aw ag ac al ga : Option Addr) (cw cg cc cl gc : Nat) (w : World) (hw : IsInts N w (.slice aw s.M.W.length cw) s.M.W) (hg : IsInts N w (.slice ag s.M.G.length cg) s.M.G) (hc : IsCores N w (.slice ac s.C.length cc) s.C) (hl : IsEvs N w (.slice al s.L.length cl) s.L) (fs : IsInts N w (.slice ga fS.length gc) fS)
    (hN : ∀ b, N b → b < w.heap.size) (hC : s.C.length ≤ 100000) (hFm : ∀ (i : Nat) c, s.C[i]? = some c → c.F.length ≤ 100000) (hfit : Fits s.M)  :
    Gives Proofs.Try.prog 154 #[.agg #[.slice aw s.M.W.length cw, .slice ag s.M.G.length cg, .bool s.M.bad, .slice ac s.C.length cc, .slice al s.L.length cl], .int .i64 id, .agg #[.int .i64 op, .int .i64 1, .int .i64 q0, .int .i64 q1, .int .i64 q2, .int .i64 q3, .int .i64 q4, .int .i64 q5, .int .i64 q6, .int .i64 q7, .slice ga fS.length gc]] w (fun r w' => IsSys N w' r (onS s id (touchD s.M (linkAt (idx q0))) ⟨op, 1, [q0, loadD s.M (linkAt (idx q0)), q2, q3, q4, q5, q6, q7], fS⟩ 2)) := by
  have hwB := hw.bxn (hi := w.heap.size + 3)
  have hgB := hg.bxn (hi := w.heap.size + 3)
  have hcB := hc.bxn (hi := w.heap.size + 3)
  have hlB := hl.bxn (hi := w.heap.size + 3)
  have fsB := fs.bxn (hi := w.heap.size + 3)
  obtain ⟨m1, hm1⟩ : ∃ m, touchD s.M (linkAt (idx q0)) = m := ⟨_, rfl⟩
  obtain ⟨v, hv⟩ : ∃ x, loadD s.M (linkAt (idx q0)) = x := ⟨_, rfl⟩
  have kl : ∀ (w' : World) (va : Value), IsMem (Bx N w.heap.size (w.heap.size + 3)) w' va s.M → w.heap.size + 3 ≤ w'.heap.size → Gives Proofs.Try.prog 65 #[va, .int .i64 ((linkAt (idx q0)))] w' (fun r w' => ∃ u, r = .tuple #[u, .int .i64 v] ∧ IsMem (Bx N w.heap.size (w.heap.size + 3)) w' u m1) := fun w' va hm hsz => by
    have := refLoad_ (Bx N w.heap.size (w.heap.size + 3)) va s.M ((linkAt (idx q0))) w' hm hfit (Bx.le hN hsz)
    rw [hm1, hv] at this; exact this
  rw [hm1]
  try rw [hv]
  clear hm1 hv
  go_enter Proofs.Try.func154, Proofs.Try.ntmps154
  go_wp2_with (fail)
  go_at_call 42
  refine (refIdx_ q0 _).calls.mono ?_
  rintro e w1 ⟨_, rfl, hb1, rfl⟩
  have B0_1 : Box w1 (w.heap.size) #[.slice aw s.M.W.length cw, .slice ag s.M.G.length cg, .bool s.M.bad, .slice ac s.C.length cc, .slice al s.L.length cl] 83 := (((Box.newAt _ _ _ (by first | rfl | simp)).alloc _).alloc _).ext hb1
  have B1_1 : Box w1 (w.heap.size + 1) #[.int .i64 op, .int .i64 1, .int .i64 q0, .int .i64 q1, .int .i64 q2, .int .i64 q3, .int .i64 q4, .int .i64 q5, .int .i64 q6, .int .i64 q7, .slice ga fS.length gc] 95 := ((Box.newAt _ _ _ (by first | rfl | simp)).alloc _).ext hb1
  have B2_1 : Box w1 (w.heap.size + 1 + 1) #[.slice none 0 0, .slice none 0 0, .bool false, .slice none 0 0, .slice none 0 0] 83 := (Box.newAt _ _ _ (by first | rfl | simp)).ext hb1
  have s1 : w.heap.size + 3 ≤ w1.heap.size := (by have h := hb1.size; first | omega | (simp at h; omega))
  obtain ⟨c0_0, c0_1, c0_2, c0_3, c0_4, d0_0, d0_1, d0_2, d0_3, d0_4⟩ := cells5 B0_1
  have z0 : w.heap.size < w1.heap.size := B0_1.lt
  obtain ⟨⟨c1_0, c1_1, c1_2, c1_3, c1_4, c1_5, c1_6, c1_7, c1_8, c1_9, c1_10⟩, d1_0, d1_1, d1_2, d1_3, d1_4, d1_5, d1_6, d1_7, d1_8, d1_9, d1_10⟩ := cells11 B1_1
  have z1 : w.heap.size + 1 < w1.heap.size := B1_1.lt
  obtain ⟨c2_0, c2_1, c2_2, c2_3, c2_4, d2_0, d2_1, d2_2, d2_3, d2_4⟩ := cells5 B2_1
  have z2 : w.heap.size + 1 + 1 < w1.heap.size := B2_1.lt
  go_wp2_with (fail)
  have hX10 : Ext w w1 := exn
  have hK10 : Keep (Bx N w.heap.size (w.heap.size + 3)) w1 w1 := Keep.refl _ _
  have D0_10 := B0_1
  have D1_10 := B1_1
  have D2_10 := B2_1
  have aM : IsMem (Bx N w.heap.size (w.heap.size + 3)) w1 (.agg #[.slice aw s.M.W.length cw, .slice ag s.M.G.length cg, .bool s.M.bad]) s.M := (IsMem.mk rfl hwB hgB : IsMem (Bx N w.heap.size (w.heap.size + 3)) w _ s.M).keep ((Keep.refl _ _).ext hX10)
  clear c0_0 c0_1 c0_2 c0_3 c0_4 d0_0 d0_1 d0_2 d0_3 d0_4 z0 c1_0 c1_1 c1_2 c1_3 c1_4 c1_5 c1_6 c1_7 c1_8 c1_9 c1_10 d1_0 d1_1 d1_2 d1_3 d1_4 d1_5 d1_6 d1_7 d1_8 d1_9 d1_10 z1 c2_0 c2_1 c2_2 c2_3 c2_4 d2_0 d2_1 d2_2 d2_3 d2_4 z2
  apply region_lit2 (T := [9]) (L := [7, 10]) (X := []) (G := [eqv _, eqv _, eqv _, eqv _, isTupN (Bx N w.heap.size (w.heap.size + 3)) m1 (.int .i64 v), isTupN (Bx N w.heap.size (w.heap.size + 3)) m1 (.int .i64 v), isMemN (Bx N w.heap.size (w.heap.size + 3)) m1, eqv (.int .i64 v), isNew w1.heap.size #[.slice none 0 0, .slice none 0 0, .bool false] 50, anyG, eqv _])
  case hm => kernel_rfl
  case hop =>
    refine ⟨?_, ?_, ?_, ?_, ?_, ?_, ?_, ?_, ?_, ?_, ?_, trivial⟩
    · intro a wa hs hf hd
      have t3 := hf.off 3 (by kernel_rfl) rfl
      exact plain_ rfl (yes_eqv (o_fieldAddr rfl Proofs.Try.underlying83 rfl rfl (by kernel_rfl) t3) rfl)
    · intro a wa hs hf hd
      have t52 : a.eval (.tmp 52) = _ := hd.at 0 52 (by kernel_rfl)
      exact plain_ rfl (yes_eqv (o_load3 rfl Proofs.Try.underlying50 rfl (by kernel_rfl) t52 ((D0_10.since hs rfl).cell rfl) ((D0_10.since hs rfl).cell rfl) ((D0_10.since hs rfl).cell rfl)) rfl)
    · intro a wa hs hf hd
      have t10 := hf.off 10 (by kernel_rfl) rfl
      exact plain_ rfl (yes_eqv (o_move rfl t10) rfl)
    · intro a wa hs hf hd
      have t54 : a.eval (.tmp 54) = _ := hd.at 2 54 (by kernel_rfl)
      exact plain_ rfl (yes_gives (refAtw_ (idx q0) _) rfl rfl Proofs.Try.func58 (by kernel_rfl) (by kernel_rfl) (by simp only [List.map_toArray, List.map_cons, List.map_nil, eval_const, t54]) rfl)
    · intro a wa hs hf hd
      have t53 : a.eval (.tmp 53) = _ := hd.at 1 53 (by kernel_rfl)
      have t55 : a.eval (.tmp 55) = _ := hd.at 3 55 (by kernel_rfl)
      exact plain_ rfl (yes_gives (kl _ _ (aM.keep (Since.to_ext hs).keep) (by have := (Since.to_ext hs).size; have := hX10.size; omega)) rfl rfl Proofs.Try.func65 (by kernel_rfl) (by kernel_rfl) (by simp only [List.map_toArray, List.map_cons, List.map_nil, t53, t55]) rfl)
    · intro a wa hs hf hd
      have t56 := hd.at 4 56 (by kernel_rfl)
      obtain ⟨u, hu, hm⟩ := t56
      exact plain_ rfl (yes_val (runs_ok (o_move rfl hu)) (Ext.refl _) ⟨u, rfl, hm⟩ rfl)
    · intro a wa hs hf hd
      have t51 := hd.at 5 51 (by kernel_rfl)
      obtain ⟨u, hu, hm⟩ := t51
      exact plain_ rfl (yes_val (runs_ok (o_extract rfl hu rfl)) (Ext.refl _) hm rfl)
    · intro a wb wa hs1 hs hf hd
      have t51 := hd.at 5 51 (by kernel_rfl)
      obtain ⟨u, hu, hm⟩ := t51
      exact plain_ rfl (late_eqv (o_extract rfl hu rfl) rfl)
    · intro a wa hs hf hd
      exact plain_ rfl (yes_new (z := .agg #[.slice none 0 0, .slice none 0 0, .bool false]) rfl (by kernel_rfl) (by kernel_rfl) rfl hs.size)
    · intro a wb wa hs1 hs hf hd hrun
      have t11 := hd.at 8 11 (by kernel_rfl)
      have t57 := hd.at 6 57 (by kernel_rfl)
      subst hrun
      have q18 : IsMem (Bx N w.heap.size (w.heap.size + 3)) _ (a.eval (.tmp 57)) m1 := t57
      obtain ⟨u1, u2, u3, u4, hv, _⟩ := q18.opened
      obtain ⟨bk, hp, hk, hBk⟩ := t11
      exact ⟨_, o_store rfl hp hv hBk (by kernel_rfl) (by simp [Value.cells, Value.oneCell']) (by first | (simp [Value.cells]; done) | (simp [Value.cells]; omega)) rfl, Since.put hs (.inl hk)⟩
    · intro a wb wa hs1 hs hf hd
      have t58 : a.eval (.tmp 58) = _ := hd.at 7 58 (by kernel_rfl)
      exact plain_ rfl (late_eqv (o_assign rfl t58) rfl)
  case hG => exact ⟨stable_eqv _, stable_eqv _, stable_eqv _, stable_eqv _, stable_isTupN _ _ _, stable_isTupN _ _ _, stable_isMemN _ _, stable_eqv _, stable_isNew _ _ _, stable_any, stable_eqv _, trivial⟩
  case hc => kernel_rfl
  case hfin =>
    intro v10 hs10
    rintro _ rfl _ rfl _ rfl _ rfl _ ⟨p4, rfl, h4⟩ _ ⟨p5, rfl, h5⟩ p6 h6 _ rfl _ ⟨bn8, rfl, hbn8, hBn8⟩ _ rfl
    obtain ⟨u1, u2, u3, u4, rfl, uw, ug⟩ := IsMem.opened h6
    rintro v10w ⟨o1, v1, ho1, hr1, rfl⟩
    cases ho1
    simp only [Act.put, List.setIfInBounds_toArray, List.set_cons_zero, List.set_cons_succ] at hr1 ⊢
    cases (hr1.symm.trans (o_store (v := .agg #[.slice u1 m1.W.length u2, .slice u3 m1.G.length u4, .bool m1.bad]) (new := #[.slice u1 m1.W.length u2, .slice u3 m1.G.length u4, .bool m1.bad]) rfl rfl rfl ((hBn8)) (by kernel_rfl) (by simp [Value.cells, Value.oneCell']) (by first | (simp [Value.cells]; done) | (simp [Value.cells]; omega)) (by first | rfl | kernel_rfl)))
    obtain ⟨w2, hw2⟩ : ∃ x, x = (put v10 bn8 (.cells #[.slice u1 m1.W.length u2, .slice u3 m1.G.length u4, .bool m1.bad] 50 (0, 0))) := ⟨_, rfl⟩
    have hW2 : Ext w1 v10 := Since.to_ext hs10
    have hb2 : Ext w w2 := by rw [hw2]; exact Since.to_ext ((Since.of_ext (hX10.trans hW2)).put (.inl (by have := hX10.size; omega)))
    have hk2 : Keep (Bx N w.heap.size (w.heap.size + 3)) w1 w2 := by rw [hw2]; exact ((hK10.ext hW2).put _ _ (.inl (by omega)))
    have hq2 : ∀ M v l, IsInts M v10 v l → IsInts M w2 v l := by intro M v l h; rw [hw2]; exact h.putNew hBn8 zero50
    have B0_2 : Box w2 (w.heap.size) #[.slice aw s.M.W.length cw, .slice ag s.M.G.length cg, .bool s.M.bad, .slice ac s.C.length cc, .slice al s.L.length cl] 83 := by rw [hw2]; exact (box_putOther (D0_10.since hs10 rfl) (by omega))
    have B1_2 : Box w2 (w.heap.size + 1) #[.int .i64 op, .int .i64 1, .int .i64 q0, .int .i64 q1, .int .i64 q2, .int .i64 q3, .int .i64 q4, .int .i64 q5, .int .i64 q6, .int .i64 q7, .slice ga fS.length gc] 95 := by rw [hw2]; exact (box_putOther (D1_10.since hs10 rfl) (by omega))
    have B2_2 : Box w2 (w.heap.size + 1 + 1) #[.slice none 0 0, .slice none 0 0, .bool false, .slice none 0 0, .slice none 0 0] 83 := by rw [hw2]; exact (box_putOther (D2_10.since hs10 rfl) (by omega))
    have BN10_8_2 : Box w2 (bn8) #[.slice u1 m1.W.length u2, .slice u3 m1.G.length u4, .bool m1.bad] 50 := by rw [hw2]; exact (hBn8).put
    have s2 : w1.heap.size ≤ w2.heap.size := by rw [hw2]; have := hW2.size; simpa [put] using this
    rw [← hw2]
    clear hw2
    obtain ⟨c0_0, c0_1, c0_2, c0_3, c0_4, d0_0, d0_1, d0_2, d0_3, d0_4⟩ := cells5 B0_2
    have z0 : w.heap.size < w2.heap.size := B0_2.lt
    obtain ⟨⟨c1_0, c1_1, c1_2, c1_3, c1_4, c1_5, c1_6, c1_7, c1_8, c1_9, c1_10⟩, d1_0, d1_1, d1_2, d1_3, d1_4, d1_5, d1_6, d1_7, d1_8, d1_9, d1_10⟩ := cells11 B1_2
    have z1 : w.heap.size + 1 < w2.heap.size := B1_2.lt
    obtain ⟨c2_0, c2_1, c2_2, c2_3, c2_4, d2_0, d2_1, d2_2, d2_3, d2_4⟩ := cells5 B2_2
    have z2 : w.heap.size + 1 + 1 < w2.heap.size := B2_2.lt
    obtain ⟨cN10_8_0, cN10_8_1, cN10_8_2, dN10_8_0, dN10_8_1, dN10_8_2⟩ := cells3 BN10_8_2
    have zN10_8 : bn8 < w2.heap.size := BN10_8_2.lt
    have mw := hq2 _ _ _ uw
    have mg := hq2 _ _ _ ug
    clear hq2
    go_wp2_with (fail)
    go_at_call 151
    refine (refOn_ (Bx N w.heap.size (w.heap.size + 3)) _ _ _ s id 2 m1 ⟨op, 1, [q0, v, q2, q3, q4, q5, q6, q7], fS⟩ _ (IsSys.mk rfl (IsInts.keep hwB keq) (IsInts.keep hgB keq) (IsCores.keep hcB keq) (IsEvs.keep hlB keq) : IsSys (Bx N w.heap.size (w.heap.size + 3)) _ _ s) (IsMem.mk rfl (IsInts.keep mw keq) (IsInts.keep mg keq) : IsMem (Bx N w.heap.size (w.heap.size + 3)) _ _ m1) (IsFrame.ofLit (IsInts.keep fsB keq) : IsFrame _ _ _ ⟨op, 1, [q0, v, q2, q3, q4, q5, q6, q7], fS⟩) (Bx.le hN (by first | omega | (simp <;> omega))) hC hFm).calls.mono ?_
    rintro e w3 ⟨_, rfl, hb3, hu3⟩
    obtain ⟨r1, r2, r3, r4, r5, r6, r7, r8, rfl, rW, rG, rC, rL⟩ := hu3.opened
    have B0_3 : Box w3 (w.heap.size) #[.slice aw s.M.W.length cw, .slice ag s.M.G.length cg, .bool s.M.bad, .slice ac s.C.length cc, .slice al s.L.length cl] 83 := (B0_2.setOther (by first | omega | (simp <;> omega)) _).ext hb3
    have B1_3 : Box w3 (w.heap.size + 1) #[.int .i64 op, .int .i64 1, .int .i64 q0, .int .i64 v, .int .i64 q2, .int .i64 q3, .int .i64 q4, .int .i64 q5, .int .i64 q6, .int .i64 q7, .slice ga fS.length gc] 95 := (B1_2.setCell _).ext hb3
    have B2_3 : Box w3 (w.heap.size + 1 + 1) #[.slice none 0 0, .slice none 0 0, .bool false, .slice none 0 0, .slice none 0 0] 83 := (B2_2.setOther (by first | omega | (simp <;> omega)) _).ext hb3
    have BN10_8_3 : Box w3 (bn8) #[.slice u1 m1.W.length u2, .slice u3 m1.G.length u4, .bool m1.bad] 50 := (BN10_8_2.setOther (by first | omega | (simp <;> omega)) _).ext hb3
    clear c0_0 c0_1 c0_2 c0_3 c0_4 d0_0 d0_1 d0_2 d0_3 d0_4 z0 c1_0 c1_1 c1_2 c1_3 c1_4 c1_5 c1_6 c1_7 c1_8 c1_9 c1_10 d1_0 d1_1 d1_2 d1_3 d1_4 d1_5 d1_6 d1_7 d1_8 d1_9 d1_10 z1 c2_0 c2_1 c2_2 c2_3 c2_4 d2_0 d2_1 d2_2 d2_3 d2_4 z2 cN10_8_0 cN10_8_1 cN10_8_2 dN10_8_0 dN10_8_1 dN10_8_2 zN10_8
    have s3 : w2.heap.size ≤ w3.heap.size := (by have h := hb3.size; first | omega | (simp at h; omega))
    obtain ⟨c0_0, c0_1, c0_2, c0_3, c0_4, d0_0, d0_1, d0_2, d0_3, d0_4⟩ := cells5 B0_3
    have z0 : w.heap.size < w3.heap.size := B0_3.lt
    obtain ⟨⟨c1_0, c1_1, c1_2, c1_3, c1_4, c1_5, c1_6, c1_7, c1_8, c1_9, c1_10⟩, d1_0, d1_1, d1_2, d1_3, d1_4, d1_5, d1_6, d1_7, d1_8, d1_9, d1_10⟩ := cells11 B1_3
    have z1 : w.heap.size + 1 < w3.heap.size := B1_3.lt
    obtain ⟨c2_0, c2_1, c2_2, c2_3, c2_4, d2_0, d2_1, d2_2, d2_3, d2_4⟩ := cells5 B2_3
    have z2 : w.heap.size + 1 + 1 < w3.heap.size := B2_3.lt
    obtain ⟨cN10_8_0, cN10_8_1, cN10_8_2, dN10_8_0, dN10_8_1, dN10_8_2⟩ := cells3 BN10_8_3
    have zN10_8 : bn8 < w3.heap.size := BN10_8_3.lt
    go_wp2
    exact bodyPost_ret (ret_cell (cs := #[.slice r1 (onS s id m1 ⟨op, 1, [q0, v, q2, q3, q4, q5, q6, q7], fS⟩ 2).M.W.length r2, .slice r3 (onS s id m1 ⟨op, 1, [q0, v, q2, q3, q4, q5, q6, q7], fS⟩ 2).M.G.length r4, .bool (onS s id m1 ⟨op, 1, [q0, v, q2, q3, q4, q5, q6, q7], fS⟩ 2).M.bad, .slice r5 (onS s id m1 ⟨op, 1, [q0, v, q2, q3, q4, q5, q6, q7], fS⟩ 2).C.length r6, .slice r7 (onS s id m1 ⟨op, 1, [q0, v, q2, q3, q4, q5, q6, q7], fS⟩ 2).L.length r8]) (((((B2_3.setCell _).setCell _).setCell _).setCell _).setCell _) Proofs.Try.results154 rfl Proofs.Try.underlying83 rfl (by kernel_rfl)) rfl ⟨_, rfl, exn, IsSys.less (IsSys.keep hu3 keq) (fun _ _ hn => .inl hn)⟩
set_option maxHeartbeats 1000000 in
set_option maxRecDepth 100000 in
theorem refPop_y2 (N : Nat → Prop) (s : SysD) (id op q0 q1 q2 q3 q4 q5 q6 q7 : Int) (fS : List Int) (aw ag ac al ga : Option Addr) (cw cg cc cl gc : Nat) (w : World) (hw : IsInts N w (.slice aw s.M.W.length cw) s.M.W) (hg : IsInts N w (.slice ag s.M.G.length cg) s.M.G) (hc : IsCores N w (.slice ac s.C.length cc) s.C) (hl : IsEvs N w (.slice al s.L.length cl) s.L) (fs : IsInts N w (.slice ga fS.length gc) fS)
    (hN : ∀ b, N b → b < w.heap.size) (hC : s.C.length ≤ 100000) (hFm : ∀ (i : Nat) c, s.C[i]? = some c → c.F.length ≤ 100000) (hfit : Fits s.M) (hcas : casIs s.M 0 q0 = true) (hfit1 : Fits (casD s.M 0 q0 (nextW q0 q1 0))) :
    Gives Proofs.Try.prog 154 #[.agg #[.slice aw s.M.W.length cw, .slice ag s.M.G.length cg, .bool s.M.bad, .slice ac s.C.length cc, .slice al s.L.length cl], .int .i64 id, .agg #[.int .i64 op, .int .i64 2, .int .i64 q0, .int .i64 q1, .int .i64 q2, .int .i64 q3, .int .i64 q4, .int .i64 q5, .int .i64 q6, .int .i64 q7, .slice ga fS.length gc]] w (fun r w' => IsSys N w' r (backS (memS s (turnMD (casD s.M 0 q0 (nextW q0 q1 0)) (idx q0) 1)) id (idx q0) 0)) := by
  have hwB := hw.bxn (hi := w.heap.size + 3)
  have hgB := hg.bxn (hi := w.heap.size + 3)
  have hcB := hc.bxn (hi := w.heap.size + 3)
  have hlB := hl.bxn (hi := w.heap.size + 3)
  have fsB := fs.bxn (hi := w.heap.size + 3)
  obtain ⟨m1, hm1⟩ : ∃ m, casD s.M 0 q0 (nextW q0 q1 0) = m := ⟨_, rfl⟩
  obtain ⟨nw, hnw⟩ : ∃ n, (nextW q0 q1 0) = n := ⟨_, rfl⟩
  have kx : ∀ w' : World, Gives Proofs.Try.prog 48 #[.int .i64 q0, .int .i64 q1, .int .i64 0] w' (eqv (.int .i64 nw)) := fun w' => by have := refNext_ q0 q1 0 w'; rw [hnw] at this; exact this
  have ks : ∀ (w' : World) (va : Value), IsMem (Bx N w.heap.size (w.heap.size + 3)) w' va s.M → w.heap.size + 3 ≤ w'.heap.size → Gives Proofs.Try.prog 67 #[va, .int .i64 0, .int .i64 q0, .int .i64 nw] w' (fun r w' => ∃ u, r = .tuple #[u, .bool true] ∧ IsMem (Bx N w.heap.size (w.heap.size + 3)) w' u m1) := fun w' va hm hsz => by
    have := refCas_ (Bx N w.heap.size (w.heap.size + 3)) va s.M 0 q0 (nextW q0 q1 0) w' hm hfit (Bx.le hN hsz)
    rw [hm1, hcas, hnw] at this; exact this
  rw [hm1] at hfit1
  obtain ⟨m2, hm2⟩ : ∃ m, turnMD m1 (idx q0) 1 = m := ⟨_, rfl⟩
  have kt : ∀ (w' : World) (va : Value), IsMem (Bx N w.heap.size (w.heap.size + 3)) w' va m1 → w.heap.size + 3 ≤ w'.heap.size → Gives Proofs.Try.prog 71 #[va, .int .i64 (idx q0), .int .i64 1] w' (fun r w' => IsMem (Bx N w.heap.size (w.heap.size + 3)) w' r m2) := fun w' va hm hsz => by
    have := refTurn_ (Bx N w.heap.size (w.heap.size + 3)) va m1 (idx q0) 1 w' hm hfit1 (Bx.le hN hsz)
    rw [hm2] at this; exact this
  rw [hm1, hm2]
  clear hm1 hm2 hnw
  go_enter Proofs.Try.func154, Proofs.Try.ntmps154
  go_wp2_with (fail)
  go_at_call 42
  refine (refIdx_ q0 _).calls.mono ?_
  rintro e w1 ⟨_, rfl, hb1, rfl⟩
  have B0_1 : Box w1 (w.heap.size) #[.slice aw s.M.W.length cw, .slice ag s.M.G.length cg, .bool s.M.bad, .slice ac s.C.length cc, .slice al s.L.length cl] 83 := (((Box.newAt _ _ _ (by first | rfl | simp)).alloc _).alloc _).ext hb1
  have B1_1 : Box w1 (w.heap.size + 1) #[.int .i64 op, .int .i64 2, .int .i64 q0, .int .i64 q1, .int .i64 q2, .int .i64 q3, .int .i64 q4, .int .i64 q5, .int .i64 q6, .int .i64 q7, .slice ga fS.length gc] 95 := ((Box.newAt _ _ _ (by first | rfl | simp)).alloc _).ext hb1
  have B2_1 : Box w1 (w.heap.size + 1 + 1) #[.slice none 0 0, .slice none 0 0, .bool false, .slice none 0 0, .slice none 0 0] 83 := (Box.newAt _ _ _ (by first | rfl | simp)).ext hb1
  have s1 : w.heap.size + 3 ≤ w1.heap.size := (by have h := hb1.size; first | omega | (simp at h; omega))
  obtain ⟨c0_0, c0_1, c0_2, c0_3, c0_4, d0_0, d0_1, d0_2, d0_3, d0_4⟩ := cells5 B0_1
  have z0 : w.heap.size < w1.heap.size := B0_1.lt
  obtain ⟨⟨c1_0, c1_1, c1_2, c1_3, c1_4, c1_5, c1_6, c1_7, c1_8, c1_9, c1_10⟩, d1_0, d1_1, d1_2, d1_3, d1_4, d1_5, d1_6, d1_7, d1_8, d1_9, d1_10⟩ := cells11 B1_1
  have z1 : w.heap.size + 1 < w1.heap.size := B1_1.lt
  obtain ⟨c2_0, c2_1, c2_2, c2_3, c2_4, d2_0, d2_1, d2_2, d2_3, d2_4⟩ := cells5 B2_1
  have z2 : w.heap.size + 1 + 1 < w1.heap.size := B2_1.lt
  go_wp2_with (fail)
  have hX15 : Ext w w1 := exn
  have hK15 : Keep (Bx N w.heap.size (w.heap.size + 3)) w1 w1 := Keep.refl _ _
  have D0_15 := B0_1
  have D1_15 := B1_1
  have D2_15 := B2_1
  have aM : IsMem (Bx N w.heap.size (w.heap.size + 3)) w1 (.agg #[.slice aw s.M.W.length cw, .slice ag s.M.G.length cg, .bool s.M.bad]) s.M := (IsMem.mk rfl hwB hgB : IsMem (Bx N w.heap.size (w.heap.size + 3)) w _ s.M).keep ((Keep.refl _ _).ext hX15)
  clear c0_0 c0_1 c0_2 c0_3 c0_4 d0_0 d0_1 d0_2 d0_3 d0_4 z0 c1_0 c1_1 c1_2 c1_3 c1_4 c1_5 c1_6 c1_7 c1_8 c1_9 c1_10 d1_0 d1_1 d1_2 d1_3 d1_4 d1_5 d1_6 d1_7 d1_8 d1_9 d1_10 z1 c2_0 c2_1 c2_2 c2_3 c2_4 d2_0 d2_1 d2_2 d2_3 d2_4 z2
  apply region_lit2 (T := [17]) (L := [15, 18]) (X := []) (G := [eqv _, eqv _, eqv _, eqv _, eqv _, eqv _, eqv _, eqv _, eqv _, eqv _, eqv _, eqv _, isTupN (Bx N w.heap.size (w.heap.size + 3)) m1 (.bool true), isTupN (Bx N w.heap.size (w.heap.size + 3)) m1 (.bool true), isMemN (Bx N w.heap.size (w.heap.size + 3)) m1, eqv (.bool true), isNew w1.heap.size #[.slice none 0 0, .slice none 0 0, .bool false] 50, anyG, eqv _])
  case hm => kernel_rfl
  case hop =>
    refine ⟨?_, ?_, ?_, ?_, ?_, ?_, ?_, ?_, ?_, ?_, ?_, ?_, ?_, ?_, ?_, ?_, ?_, ?_, ?_, trivial⟩
    · intro a wa hs hf hd
      have t3 := hf.off 3 (by kernel_rfl) rfl
      exact plain_ rfl (yes_eqv (o_fieldAddr rfl Proofs.Try.underlying83 rfl rfl (by kernel_rfl) t3) rfl)
    · intro a wa hs hf hd
      have t72 : a.eval (.tmp 72) = _ := hd.at 0 72 (by kernel_rfl)
      exact plain_ rfl (yes_eqv (o_load3 rfl Proofs.Try.underlying50 rfl (by kernel_rfl) t72 ((D0_15.since hs rfl).cell rfl) ((D0_15.since hs rfl).cell rfl) ((D0_15.since hs rfl).cell rfl)) rfl)
    · intro a wa hs hf hd
      have t5 := hf.off 5 (by kernel_rfl) rfl
      exact plain_ rfl (yes_eqv (o_fieldAddr rfl Proofs.Try.underlying95 rfl rfl (by kernel_rfl) t5) rfl)
    · intro a wa hs hf hd
      have t74 : a.eval (.tmp 74) = _ := hd.at 2 74 (by kernel_rfl)
      exact plain_ rfl (yes_eqv (o_indexAddrA (sz := 1) rfl Proofs.Try.underlying93 (by kernel_rfl) t74 rfl (by decide) (by decide)) rfl)
    · intro a wa hs hf hd
      have t75 : a.eval (.tmp 75) = _ := hd.at 3 75 (by kernel_rfl)
      exact plain_ rfl (yes_eqv (o_load1 rfl Proofs.Try.underlying3 rfl t75 ((D1_15.since hs rfl).cell rfl)) rfl)
    · intro a wa hs hf hd
      have t5 := hf.off 5 (by kernel_rfl) rfl
      exact plain_ rfl (yes_eqv (o_fieldAddr rfl Proofs.Try.underlying95 rfl rfl (by kernel_rfl) t5) rfl)
    · intro a wa hs hf hd
      have t77 : a.eval (.tmp 77) = _ := hd.at 5 77 (by kernel_rfl)
      exact plain_ rfl (yes_eqv (o_indexAddrA (sz := 1) rfl Proofs.Try.underlying93 (by kernel_rfl) t77 rfl (by decide) (by decide)) rfl)
    · intro a wa hs hf hd
      have t78 : a.eval (.tmp 78) = _ := hd.at 6 78 (by kernel_rfl)
      exact plain_ rfl (yes_eqv (o_load1 rfl Proofs.Try.underlying3 rfl t78 ((D1_15.since hs rfl).cell rfl)) rfl)
    · intro a wa hs hf hd
      have t5 := hf.off 5 (by kernel_rfl) rfl
      exact plain_ rfl (yes_eqv (o_fieldAddr rfl Proofs.Try.underlying95 rfl rfl (by kernel_rfl) t5) rfl)
    · intro a wa hs hf hd
      have t80 : a.eval (.tmp 80) = _ := hd.at 8 80 (by kernel_rfl)
      exact plain_ rfl (yes_eqv (o_indexAddrA (sz := 1) rfl Proofs.Try.underlying93 (by kernel_rfl) t80 rfl (by decide) (by decide)) rfl)
    · intro a wa hs hf hd
      have t81 : a.eval (.tmp 81) = _ := hd.at 9 81 (by kernel_rfl)
      exact plain_ rfl (yes_eqv (o_load1 rfl Proofs.Try.underlying3 rfl t81 ((D1_15.since hs rfl).cell rfl)) rfl)
    · intro a wa hs hf hd
      have t79 : a.eval (.tmp 79) = _ := hd.at 7 79 (by kernel_rfl)
      have t82 : a.eval (.tmp 82) = _ := hd.at 10 82 (by kernel_rfl)
      exact plain_ rfl (yes_gives (kx _) rfl rfl Proofs.Try.func48 (by kernel_rfl) (by kernel_rfl) (by simp only [List.map_toArray, List.map_cons, List.map_nil, eval_const, t79, t82]) rfl)
    · intro a wa hs hf hd
      have t73 : a.eval (.tmp 73) = _ := hd.at 1 73 (by kernel_rfl)
      have t76 : a.eval (.tmp 76) = _ := hd.at 4 76 (by kernel_rfl)
      have t83 : a.eval (.tmp 83) = _ := hd.at 11 83 (by kernel_rfl)
      exact plain_ rfl (yes_gives (ks _ _ (aM.keep (Since.to_ext hs).keep) (by have := (Since.to_ext hs).size; have := hX15.size; omega)) rfl rfl Proofs.Try.func67 (by kernel_rfl) (by kernel_rfl) (by simp only [List.map_toArray, List.map_cons, List.map_nil, eval_const, t73, t76, t83]) rfl)
    · intro a wa hs hf hd
      have t84 := hd.at 12 84 (by kernel_rfl)
      obtain ⟨u, hu, hm⟩ := t84
      exact plain_ rfl (yes_val (runs_ok (o_move rfl hu)) (Ext.refl _) ⟨u, rfl, hm⟩ rfl)
    · intro a wa hs hf hd
      have t71 := hd.at 13 71 (by kernel_rfl)
      obtain ⟨u, hu, hm⟩ := t71
      exact plain_ rfl (yes_val (runs_ok (o_extract rfl hu rfl)) (Ext.refl _) hm rfl)
    · intro a wb wa hs1 hs hf hd
      have t71 := hd.at 13 71 (by kernel_rfl)
      obtain ⟨u, hu, hm⟩ := t71
      exact plain_ rfl (late_eqv (o_extract rfl hu rfl) rfl)
    · intro a wa hs hf hd
      exact plain_ rfl (yes_new (z := .agg #[.slice none 0 0, .slice none 0 0, .bool false]) rfl (by kernel_rfl) (by kernel_rfl) rfl hs.size)
    · intro a wb wa hs1 hs hf hd hrun
      have t13 := hd.at 16 13 (by kernel_rfl)
      have t85 := hd.at 14 85 (by kernel_rfl)
      subst hrun
      have q18 : IsMem (Bx N w.heap.size (w.heap.size + 3)) _ (a.eval (.tmp 85)) m1 := t85
      obtain ⟨u1, u2, u3, u4, hv, _⟩ := q18.opened
      obtain ⟨bk, hp, hk, hBk⟩ := t13
      exact ⟨_, o_store rfl hp hv hBk (by kernel_rfl) (by simp [Value.cells, Value.oneCell']) (by first | (simp [Value.cells]; done) | (simp [Value.cells]; omega)) rfl, Since.put hs (.inl hk)⟩
    · intro a wb wa hs1 hs hf hd
      have t86 : a.eval (.tmp 86) = _ := hd.at 15 86 (by kernel_rfl)
      exact plain_ rfl (late_eqv (o_assign rfl t86) rfl)
  case hG => exact ⟨stable_eqv _, stable_eqv _, stable_eqv _, stable_eqv _, stable_eqv _, stable_eqv _, stable_eqv _, stable_eqv _, stable_eqv _, stable_eqv _, stable_eqv _, stable_eqv _, stable_isTupN _ _ _, stable_isTupN _ _ _, stable_isMemN _ _, stable_eqv _, stable_isNew _ _ _, stable_any, stable_eqv _, trivial⟩
  case hc => kernel_rfl
  case hfin =>
    intro v15 hs15
    rintro _ rfl _ rfl _ rfl _ rfl _ rfl _ rfl _ rfl _ rfl _ rfl _ rfl _ rfl _ rfl _ ⟨p12, rfl, h12⟩ _ ⟨p13, rfl, h13⟩ p14 h14 _ rfl _ ⟨bn16, rfl, hbn16, hBn16⟩ _ rfl
    obtain ⟨u1, u2, u3, u4, rfl, uw, ug⟩ := IsMem.opened h14
    rintro v15w ⟨o1, v1, ho1, hr1, rfl⟩
    cases ho1
    simp only [Act.put, List.setIfInBounds_toArray, List.set_cons_zero, List.set_cons_succ] at hr1 ⊢
    cases (hr1.symm.trans (o_store (v := .agg #[.slice u1 m1.W.length u2, .slice u3 m1.G.length u4, .bool m1.bad]) (new := #[.slice u1 m1.W.length u2, .slice u3 m1.G.length u4, .bool m1.bad]) rfl rfl rfl ((hBn16)) (by kernel_rfl) (by simp [Value.cells, Value.oneCell']) (by first | (simp [Value.cells]; done) | (simp [Value.cells]; omega)) (by first | rfl | kernel_rfl)))
    obtain ⟨w2, hw2⟩ : ∃ x, x = (put v15 bn16 (.cells #[.slice u1 m1.W.length u2, .slice u3 m1.G.length u4, .bool m1.bad] 50 (0, 0))) := ⟨_, rfl⟩
    have hW2 : Ext w1 v15 := Since.to_ext hs15
    have hb2 : Ext w w2 := by rw [hw2]; exact Since.to_ext ((Since.of_ext (hX15.trans hW2)).put (.inl (by have := hX15.size; omega)))
    have hk2 : Keep (Bx N w.heap.size (w.heap.size + 3)) w1 w2 := by rw [hw2]; exact ((hK15.ext hW2).put _ _ (.inl (by omega)))
    have hq2 : ∀ M v l, IsInts M v15 v l → IsInts M w2 v l := by intro M v l h; rw [hw2]; exact h.putNew hBn16 zero50
    have B0_2 : Box w2 (w.heap.size) #[.slice aw s.M.W.length cw, .slice ag s.M.G.length cg, .bool s.M.bad, .slice ac s.C.length cc, .slice al s.L.length cl] 83 := by rw [hw2]; exact (box_putOther (D0_15.since hs15 rfl) (by omega))
    have B1_2 : Box w2 (w.heap.size + 1) #[.int .i64 op, .int .i64 2, .int .i64 q0, .int .i64 q1, .int .i64 q2, .int .i64 q3, .int .i64 q4, .int .i64 q5, .int .i64 q6, .int .i64 q7, .slice ga fS.length gc] 95 := by rw [hw2]; exact (box_putOther (D1_15.since hs15 rfl) (by omega))
    have B2_2 : Box w2 (w.heap.size + 1 + 1) #[.slice none 0 0, .slice none 0 0, .bool false, .slice none 0 0, .slice none 0 0] 83 := by rw [hw2]; exact (box_putOther (D2_15.since hs15 rfl) (by omega))
    have BN15_16_2 : Box w2 (bn16) #[.slice u1 m1.W.length u2, .slice u3 m1.G.length u4, .bool m1.bad] 50 := by rw [hw2]; exact (hBn16).put
    have s2 : w1.heap.size ≤ w2.heap.size := by rw [hw2]; have := hW2.size; simpa [put] using this
    rw [← hw2]
    clear hw2
    obtain ⟨c0_0, c0_1, c0_2, c0_3, c0_4, d0_0, d0_1, d0_2, d0_3, d0_4⟩ := cells5 B0_2
    have z0 : w.heap.size < w2.heap.size := B0_2.lt
    obtain ⟨⟨c1_0, c1_1, c1_2, c1_3, c1_4, c1_5, c1_6, c1_7, c1_8, c1_9, c1_10⟩, d1_0, d1_1, d1_2, d1_3, d1_4, d1_5, d1_6, d1_7, d1_8, d1_9, d1_10⟩ := cells11 B1_2
    have z1 : w.heap.size + 1 < w2.heap.size := B1_2.lt
    obtain ⟨c2_0, c2_1, c2_2, c2_3, c2_4, d2_0, d2_1, d2_2, d2_3, d2_4⟩ := cells5 B2_2
    have z2 : w.heap.size + 1 + 1 < w2.heap.size := B2_2.lt
    obtain ⟨cN15_16_0, cN15_16_1, cN15_16_2, dN15_16_0, dN15_16_1, dN15_16_2⟩ := cells3 BN15_16_2
    have zN15_16 : bn16 < w2.heap.size := BN15_16_2.lt
    have mw := hq2 _ _ _ uw
    have mg := hq2 _ _ _ ug
    clear hq2
    go_wp2_with (fail)
    have hX18 : Ext w w2 := exn
    have hK18 : Keep (Bx N w.heap.size (w.heap.size + 3)) w2 w2 := Keep.refl _ _
    have D0_18 := B0_2
    have D1_18 := B1_2
    have D2_18 := B2_2
    have DN15_16_18 := BN15_16_2
    have bM : IsMem (Bx N w.heap.size (w.heap.size + 3)) w2 (.agg #[.slice u1 m1.W.length u2, .slice u3 m1.G.length u4, .bool m1.bad]) m1 := (IsMem.mk rfl mw mg : IsMem (Bx N w.heap.size (w.heap.size + 3)) w2 _ m1).keep hK18
    have bS : IsSys (Bx N w.heap.size (w.heap.size + 3)) w2 (.agg #[.slice aw s.M.W.length cw, .slice ag s.M.G.length cg, .bool s.M.bad, .slice ac s.C.length cc, .slice al s.L.length cl]) s := (IsSys.mk rfl hwB hgB hcB hlB : IsSys (Bx N w.heap.size (w.heap.size + 3)) w _ s).keep ((Keep.refl _ _).ext hX18)
    clear c0_0 c0_1 c0_2 c0_3 c0_4 d0_0 d0_1 d0_2 d0_3 d0_4 z0 c1_0 c1_1 c1_2 c1_3 c1_4 c1_5 c1_6 c1_7 c1_8 c1_9 c1_10 d1_0 d1_1 d1_2 d1_3 d1_4 d1_5 d1_6 d1_7 d1_8 d1_9 d1_10 z1 c2_0 c2_1 c2_2 c2_3 c2_4 d2_0 d2_1 d2_2 d2_3 d2_4 z2 cN15_16_0 cN15_16_1 cN15_16_2 dN15_16_0 dN15_16_1 dN15_16_2 zN15_16
    apply region_lit2 (T := [8]) (L := []) (X := [w.heap.size + 1 + 1]) (G := [eqv _, eqv _, eqv _, isMemN (Bx N w.heap.size (w.heap.size + 3)) m2, isSysN (Bx N w.heap.size (w.heap.size + 3)) (memS s m2), eqv _, eqv _, isSysN (Bx N w.heap.size (w.heap.size + 3)) (backS (memS s m2) id (idx q0) 0), anyG])
    case hm => kernel_rfl
    case hop =>
      refine ⟨?_, ?_, ?_, ?_, ?_, ?_, ?_, ?_, ?_, trivial⟩
      · intro a wa hs hf hd
        have t3 := hf.off 3 (by kernel_rfl) rfl
        exact plain_ rfl (yes_eqv (o_load5 rfl Proofs.Try.underlying83 rfl (by kernel_rfl) t3 ((D0_18.since hs rfl).cell rfl) ((D0_18.since hs rfl).cell rfl) ((D0_18.since hs rfl).cell rfl) ((D0_18.since hs rfl).cell rfl) ((D0_18.since hs rfl).cell rfl)) rfl)
      · intro a wa hs hf hd
        have t13 := hf.off 13 (by kernel_rfl) rfl
        exact plain_ rfl (yes_eqv (o_load3 rfl Proofs.Try.underlying50 rfl (by kernel_rfl) t13 ((DN15_16_18.since hs rfl).cell rfl) ((DN15_16_18.since hs rfl).cell rfl) ((DN15_16_18.since hs rfl).cell rfl)) rfl)
      · intro a wa hs hf hd
        have t10 := hf.off 10 (by kernel_rfl) rfl
        exact plain_ rfl (yes_eqv (o_move rfl t10) rfl)
      · intro a wa hs hf hd
        have t95 : a.eval (.tmp 95) = _ := hd.at 1 95 (by kernel_rfl)
        have t96 : a.eval (.tmp 96) = _ := hd.at 2 96 (by kernel_rfl)
        exact plain_ rfl (yes_gives (kt _ _ (bM.keep (Since.to_ext hs).keep) (by have := (Since.to_ext hs).size; have := hX18.size; omega)) rfl rfl Proofs.Try.func71 (by kernel_rfl) (by kernel_rfl) (by simp only [List.map_toArray, List.map_cons, List.map_nil, eval_const, t95, t96]) rfl)
      · intro a wa hs hf hd
        have t94 : a.eval (.tmp 94) = _ := hd.at 0 94 (by kernel_rfl)
        have t97 := hd.at 3 97 (by kernel_rfl)
        exact plain_ rfl (yes_gives (refMem_ _ _ _ s m2 _ (bS.ext (Since.to_ext hs)) t97) rfl rfl Proofs.Try.func103 (by kernel_rfl) (by kernel_rfl) (by simp only [List.map_toArray, List.map_cons, List.map_nil, t94, t97]) rfl)
      · intro a wa hs hf hd
        have t1 := hf.off 1 (by kernel_rfl) rfl
        exact plain_ rfl (yes_eqv (o_move rfl t1) rfl)
      · intro a wa hs hf hd
        have t10 := hf.off 10 (by kernel_rfl) rfl
        exact plain_ rfl (yes_eqv (o_move rfl t10) rfl)
      · intro a wa hs hf hd
        have t98 := hd.at 4 98 (by kernel_rfl)
        have t99 : a.eval (.tmp 99) = _ := hd.at 5 99 (by kernel_rfl)
        have t100 : a.eval (.tmp 100) = _ := hd.at 6 100 (by kernel_rfl)
        exact plain_ rfl (yes_gives (refBack_ _ _ (memS s m2) id (idx q0) 0 _ t98 (Bx.le hN (by have := (Since.to_ext hs).size; have := hX18.size; omega)) hC) rfl rfl Proofs.Try.func90 (by kernel_rfl) (by kernel_rfl) (by simp only [List.map_toArray, List.map_cons, List.map_nil, eval_const, t98, t99, t100]) rfl)
      · intro a wb wa hs1 hs hf hd hrun
        have t6 := hf.off 6 (by kernel_rfl) rfl
        have t101 := hd.at 7 101 (by kernel_rfl)
        subst hrun
        have q18 : IsSys (Bx N w.heap.size (w.heap.size + 3)) _ (a.eval (.tmp 101)) (backS (memS s m2) id (idx q0) 0) := t101
        obtain ⟨r1, r2, r3, r4, r5, r6, r7, r8, hv, _⟩ := q18.opened
        exact ⟨_, o_store rfl t6 hv ((D2_18.since hs1 rfl)) (by kernel_rfl) (by simp [Value.cells, Value.oneCell']) (by first | (simp [Value.cells]; done) | (simp [Value.cells]; omega)) rfl, Since.put hs (.inr (by simp))⟩
    case hG => exact ⟨stable_eqv _, stable_eqv _, stable_eqv _, stable_isMemN _ _, stable_isSysN _ _, stable_eqv _, stable_eqv _, stable_isSysN _ _, stable_any, trivial⟩
    case hc => kernel_rfl
    case hfin =>
      intro v18 hs18
      rintro _ rfl _ rfl _ rfl r3 hr3 r4 hr4 _ rfl _ rfl r7 hr7
      obtain ⟨r1, r2, r3, r4, r5, r6, r7, r8, rfl, rW, rG, rC, rL⟩ := IsSys.opened hr7
      rintro v18w ⟨o1, v1, ho1, hr1, rfl⟩
      cases ho1
      simp only [Act.put, List.setIfInBounds_toArray, List.set_cons_zero, List.set_cons_succ] at hr1 ⊢
      cases (hr1.symm.trans (o_store (v := .agg #[.slice r1 (backS (memS s m2) id (idx q0) 0).M.W.length r2, .slice r3 (backS (memS s m2) id (idx q0) 0).M.G.length r4, .bool (backS (memS s m2) id (idx q0) 0).M.bad, .slice r5 (backS (memS s m2) id (idx q0) 0).C.length r6, .slice r7 (backS (memS s m2) id (idx q0) 0).L.length r8]) (new := #[.slice r1 (backS (memS s m2) id (idx q0) 0).M.W.length r2, .slice r3 (backS (memS s m2) id (idx q0) 0).M.G.length r4, .bool (backS (memS s m2) id (idx q0) 0).M.bad, .slice r5 (backS (memS s m2) id (idx q0) 0).C.length r6, .slice r7 (backS (memS s m2) id (idx q0) 0).L.length r8]) rfl rfl rfl ((D2_18.since hs18 rfl)) (by kernel_rfl) (by simp [Value.cells, Value.oneCell']) (by first | (simp [Value.cells]; done) | (simp [Value.cells]; omega)) (by first | rfl | kernel_rfl)))
      obtain ⟨w3, hw3⟩ : ∃ x, x = (put v18 (w.heap.size + 1 + 1) (.cells #[.slice r1 (backS (memS s m2) id (idx q0) 0).M.W.length r2, .slice r3 (backS (memS s m2) id (idx q0) 0).M.G.length r4, .bool (backS (memS s m2) id (idx q0) 0).M.bad, .slice r5 (backS (memS s m2) id (idx q0) 0).C.length r6, .slice r7 (backS (memS s m2) id (idx q0) 0).L.length r8] 83 (0, 0))) := ⟨_, rfl⟩
      have hW3 : Ext w2 v18 := Since.to_ext hs18
      have hb3 : Ext w w3 := by rw [hw3]; exact Since.to_ext ((Since.of_ext (hX18.trans hW3)).put (.inl (by have := hX18.size; omega)))
      have hk3 : Keep (Bx N w.heap.size (w.heap.size + 3)) w2 w3 := by rw [hw3]; exact ((hK18.ext hW3).put _ _ (.inr (Bx.mem (by omega) (by omega))))
      have hq3 : Keep (Bx N w.heap.size (w.heap.size + 3)) v18 w3 := by rw [hw3]; exact ((Keep.refl _ _).put _ _ (.inr (Bx.mem (by omega) (by omega))))
      have B0_3 : Box w3 (w.heap.size) #[.slice aw s.M.W.length cw, .slice ag s.M.G.length cg, .bool s.M.bad, .slice ac s.C.length cc, .slice al s.L.length cl] 83 := by rw [hw3]; exact (box_putOther (D0_18.since hs18 rfl) (by omega))
      have B1_3 : Box w3 (w.heap.size + 1) #[.int .i64 op, .int .i64 2, .int .i64 q0, .int .i64 q1, .int .i64 q2, .int .i64 q3, .int .i64 q4, .int .i64 q5, .int .i64 q6, .int .i64 q7, .slice ga fS.length gc] 95 := by rw [hw3]; exact (box_putOther (D1_18.since hs18 rfl) (by omega))
      have B2_3 : Box w3 (w.heap.size + 1 + 1) #[.slice r1 (backS (memS s m2) id (idx q0) 0).M.W.length r2, .slice r3 (backS (memS s m2) id (idx q0) 0).M.G.length r4, .bool (backS (memS s m2) id (idx q0) 0).M.bad, .slice r5 (backS (memS s m2) id (idx q0) 0).C.length r6, .slice r7 (backS (memS s m2) id (idx q0) 0).L.length r8] 83 := by rw [hw3]; exact (D2_18.since hs18 rfl).put
      have BN15_16_3 : Box w3 (bn16) #[.slice u1 m1.W.length u2, .slice u3 m1.G.length u4, .bool m1.bad] 50 := by rw [hw3]; exact (box_putOther (DN15_16_18.since hs18 rfl) (by omega))
      have s3 : w2.heap.size ≤ w3.heap.size := by rw [hw3]; have := hW3.size; simpa [put] using this
      rw [← hw3]
      clear hw3
      obtain ⟨c0_0, c0_1, c0_2, c0_3, c0_4, d0_0, d0_1, d0_2, d0_3, d0_4⟩ := cells5 B0_3
      have z0 : w.heap.size < w3.heap.size := B0_3.lt
      obtain ⟨⟨c1_0, c1_1, c1_2, c1_3, c1_4, c1_5, c1_6, c1_7, c1_8, c1_9, c1_10⟩, d1_0, d1_1, d1_2, d1_3, d1_4, d1_5, d1_6, d1_7, d1_8, d1_9, d1_10⟩ := cells11 B1_3
      have z1 : w.heap.size + 1 < w3.heap.size := B1_3.lt
      obtain ⟨c2_0, c2_1, c2_2, c2_3, c2_4, d2_0, d2_1, d2_2, d2_3, d2_4⟩ := cells5 B2_3
      have z2 : w.heap.size + 1 + 1 < w3.heap.size := B2_3.lt
      obtain ⟨cN15_16_0, cN15_16_1, cN15_16_2, dN15_16_0, dN15_16_1, dN15_16_2⟩ := cells3 BN15_16_3
      have zN15_16 : bn16 < w3.heap.size := BN15_16_3.lt
      have hu3 : IsSys (Bx N w.heap.size (w.heap.size + 3)) w3 (.agg #[.slice r1 (backS (memS s m2) id (idx q0) 0).M.W.length r2, .slice r3 (backS (memS s m2) id (idx q0) 0).M.G.length r4, .bool (backS (memS s m2) id (idx q0) 0).M.bad, .slice r5 (backS (memS s m2) id (idx q0) 0).C.length r6, .slice r7 (backS (memS s m2) id (idx q0) 0).L.length r8]) (backS (memS s m2) id (idx q0) 0) := IsSys.keep (IsSys.mk rfl rW rG rC rL : IsSys (Bx N w.heap.size (w.heap.size + 3)) v18 _ (backS (memS s m2) id (idx q0) 0)) hq3
      clear hq3
      go_wp2
      exact bodyPost_ret (ret_cell (cs := #[.slice r1 (backS (memS s m2) id (idx q0) 0).M.W.length r2, .slice r3 (backS (memS s m2) id (idx q0) 0).M.G.length r4, .bool (backS (memS s m2) id (idx q0) 0).M.bad, .slice r5 (backS (memS s m2) id (idx q0) 0).C.length r6, .slice r7 (backS (memS s m2) id (idx q0) 0).L.length r8]) B2_3 Proofs.Try.results154 rfl Proofs.Try.underlying83 rfl (by kernel_rfl)) rfl ⟨_, rfl, exn, IsSys.less (IsSys.keep hu3 keq) (fun _ _ hn => .inl hn)⟩
set_option maxHeartbeats 1000000 in
set_option maxRecDepth 100000 in
theorem refPop_n2 (N : Nat → Prop) (s : SysD) (id op q0 q1 q2 q3 q4 q5 q6 q7 : Int) (fS : List Int) (aw ag ac al ga : Option Addr) (cw cg cc cl gc : Nat) (w : World) (hw : IsInts N w (.slice aw s.M.W.length cw) s.M.W) (hg : IsInts N w (.slice ag s.M.G.length cg) s.M.G) (hc : IsCores N w (.slice ac s.C.length cc) s.C) (hl : IsEvs N w (.slice al s.L.length cl) s.L) (fs : IsInts N w (.slice ga fS.length gc) fS)
    (hN : ∀ b, N b → b < w.heap.size) (hC : s.C.length ≤ 100000) (hFm : ∀ (i : Nat) c, s.C[i]? = some c → c.F.length ≤ 100000) (hfit : Fits s.M) (hcas : casIs s.M 0 q0 = false) :
    Gives Proofs.Try.prog 154 #[.agg #[.slice aw s.M.W.length cw, .slice ag s.M.G.length cg, .bool s.M.bad, .slice ac s.C.length cc, .slice al s.L.length cl], .int .i64 id, .agg #[.int .i64 op, .int .i64 2, .int .i64 q0, .int .i64 q1, .int .i64 q2, .int .i64 q3, .int .i64 q4, .int .i64 q5, .int .i64 q6, .int .i64 q7, .slice ga fS.length gc]] w (fun r w' => IsSys N w' r (onS s id (casD s.M 0 q0 (nextW q0 q1 0)) ⟨op, 2, [q0, q1, q2, q3, q4, q5, q6, q7], fS⟩ 0)) := by
  have hwB := hw.bxn (hi := w.heap.size + 3)
  have hgB := hg.bxn (hi := w.heap.size + 3)
  have hcB := hc.bxn (hi := w.heap.size + 3)
  have hlB := hl.bxn (hi := w.heap.size + 3)
  have fsB := fs.bxn (hi := w.heap.size + 3)
  obtain ⟨m1, hm1⟩ : ∃ m, casD s.M 0 q0 (nextW q0 q1 0) = m := ⟨_, rfl⟩
  obtain ⟨nw, hnw⟩ : ∃ n, (nextW q0 q1 0) = n := ⟨_, rfl⟩
  have kx : ∀ w' : World, Gives Proofs.Try.prog 48 #[.int .i64 q0, .int .i64 q1, .int .i64 0] w' (eqv (.int .i64 nw)) := fun w' => by have := refNext_ q0 q1 0 w'; rw [hnw] at this; exact this
  have ks : ∀ (w' : World) (va : Value), IsMem (Bx N w.heap.size (w.heap.size + 3)) w' va s.M → w.heap.size + 3 ≤ w'.heap.size → Gives Proofs.Try.prog 67 #[va, .int .i64 0, .int .i64 q0, .int .i64 nw] w' (fun r w' => ∃ u, r = .tuple #[u, .bool false] ∧ IsMem (Bx N w.heap.size (w.heap.size + 3)) w' u m1) := fun w' va hm hsz => by
    have := refCas_ (Bx N w.heap.size (w.heap.size + 3)) va s.M 0 q0 (nextW q0 q1 0) w' hm hfit (Bx.le hN hsz)
    rw [hm1, hcas, hnw] at this; exact this
  rw [hm1]
  clear hm1 hnw
  go_enter Proofs.Try.func154, Proofs.Try.ntmps154
  go_wp2_with (fail)
  go_at_call 42
  refine (refIdx_ q0 _).calls.mono ?_
  rintro e w1 ⟨_, rfl, hb1, rfl⟩
  have B0_1 : Box w1 (w.heap.size) #[.slice aw s.M.W.length cw, .slice ag s.M.G.length cg, .bool s.M.bad, .slice ac s.C.length cc, .slice al s.L.length cl] 83 := (((Box.newAt _ _ _ (by first | rfl | simp)).alloc _).alloc _).ext hb1
  have B1_1 : Box w1 (w.heap.size + 1) #[.int .i64 op, .int .i64 2, .int .i64 q0, .int .i64 q1, .int .i64 q2, .int .i64 q3, .int .i64 q4, .int .i64 q5, .int .i64 q6, .int .i64 q7, .slice ga fS.length gc] 95 := ((Box.newAt _ _ _ (by first | rfl | simp)).alloc _).ext hb1
  have B2_1 : Box w1 (w.heap.size + 1 + 1) #[.slice none 0 0, .slice none 0 0, .bool false, .slice none 0 0, .slice none 0 0] 83 := (Box.newAt _ _ _ (by first | rfl | simp)).ext hb1
  have s1 : w.heap.size + 3 ≤ w1.heap.size := (by have h := hb1.size; first | omega | (simp at h; omega))
  obtain ⟨c0_0, c0_1, c0_2, c0_3, c0_4, d0_0, d0_1, d0_2, d0_3, d0_4⟩ := cells5 B0_1
  have z0 : w.heap.size < w1.heap.size := B0_1.lt
  obtain ⟨⟨c1_0, c1_1, c1_2, c1_3, c1_4, c1_5, c1_6, c1_7, c1_8, c1_9, c1_10⟩, d1_0, d1_1, d1_2, d1_3, d1_4, d1_5, d1_6, d1_7, d1_8, d1_9, d1_10⟩ := cells11 B1_1
  have z1 : w.heap.size + 1 < w1.heap.size := B1_1.lt
  obtain ⟨c2_0, c2_1, c2_2, c2_3, c2_4, d2_0, d2_1, d2_2, d2_3, d2_4⟩ := cells5 B2_1
  have z2 : w.heap.size + 1 + 1 < w1.heap.size := B2_1.lt
  go_wp2_with (fail)
  have hX15 : Ext w w1 := exn
  have hK15 : Keep (Bx N w.heap.size (w.heap.size + 3)) w1 w1 := Keep.refl _ _
  have D0_15 := B0_1
  have D1_15 := B1_1
  have D2_15 := B2_1
  have aM : IsMem (Bx N w.heap.size (w.heap.size + 3)) w1 (.agg #[.slice aw s.M.W.length cw, .slice ag s.M.G.length cg, .bool s.M.bad]) s.M := (IsMem.mk rfl hwB hgB : IsMem (Bx N w.heap.size (w.heap.size + 3)) w _ s.M).keep ((Keep.refl _ _).ext hX15)
  clear c0_0 c0_1 c0_2 c0_3 c0_4 d0_0 d0_1 d0_2 d0_3 d0_4 z0 c1_0 c1_1 c1_2 c1_3 c1_4 c1_5 c1_6 c1_7 c1_8 c1_9 c1_10 d1_0 d1_1 d1_2 d1_3 d1_4 d1_5 d1_6 d1_7 d1_8 d1_9 d1_10 z1 c2_0 c2_1 c2_2 c2_3 c2_4 d2_0 d2_1 d2_2 d2_3 d2_4 z2
  apply region_lit2 (T := [17]) (L := [15, 18]) (X := []) (G := [eqv _, eqv _, eqv _, eqv _, eqv _, eqv _, eqv _, eqv _, eqv _, eqv _, eqv _, eqv _, isTupN (Bx N w.heap.size (w.heap.size + 3)) m1 (.bool false), isTupN (Bx N w.heap.size (w.heap.size + 3)) m1 (.bool false), isMemN (Bx N w.heap.size (w.heap.size + 3)) m1, eqv (.bool false), isNew w1.heap.size #[.slice none 0 0, .slice none 0 0, .bool false] 50, anyG, eqv _])
  case hm => kernel_rfl
  case hop =>
    refine ⟨?_, ?_, ?_, ?_, ?_, ?_, ?_, ?_, ?_, ?_, ?_, ?_, ?_, ?_, ?_, ?_, ?_, ?_, ?_, trivial⟩
    · intro a wa hs hf hd
      have t3 := hf.off 3 (by kernel_rfl) rfl
      exact plain_ rfl (yes_eqv (o_fieldAddr rfl Proofs.Try.underlying83 rfl rfl (by kernel_rfl) t3) rfl)
    · intro a wa hs hf hd
      have t72 : a.eval (.tmp 72) = _ := hd.at 0 72 (by kernel_rfl)
      exact plain_ rfl (yes_eqv (o_load3 rfl Proofs.Try.underlying50 rfl (by kernel_rfl) t72 ((D0_15.since hs rfl).cell rfl) ((D0_15.since hs rfl).cell rfl) ((D0_15.since hs rfl).cell rfl)) rfl)
    · intro a wa hs hf hd
      have t5 := hf.off 5 (by kernel_rfl) rfl
      exact plain_ rfl (yes_eqv (o_fieldAddr rfl Proofs.Try.underlying95 rfl rfl (by kernel_rfl) t5) rfl)
    · intro a wa hs hf hd
      have t74 : a.eval (.tmp 74) = _ := hd.at 2 74 (by kernel_rfl)
      exact plain_ rfl (yes_eqv (o_indexAddrA (sz := 1) rfl Proofs.Try.underlying93 (by kernel_rfl) t74 rfl (by decide) (by decide)) rfl)
    · intro a wa hs hf hd
      have t75 : a.eval (.tmp 75) = _ := hd.at 3 75 (by kernel_rfl)
      exact plain_ rfl (yes_eqv (o_load1 rfl Proofs.Try.underlying3 rfl t75 ((D1_15.since hs rfl).cell rfl)) rfl)
    · intro a wa hs hf hd
      have t5 := hf.off 5 (by kernel_rfl) rfl
      exact plain_ rfl (yes_eqv (o_fieldAddr rfl Proofs.Try.underlying95 rfl rfl (by kernel_rfl) t5) rfl)
    · intro a wa hs hf hd
      have t77 : a.eval (.tmp 77) = _ := hd.at 5 77 (by kernel_rfl)
      exact plain_ rfl (yes_eqv (o_indexAddrA (sz := 1) rfl Proofs.Try.underlying93 (by kernel_rfl) t77 rfl (by decide) (by decide)) rfl)
    · intro a wa hs hf hd
      have t78 : a.eval (.tmp 78) = _ := hd.at 6 78 (by kernel_rfl)
      exact plain_ rfl (yes_eqv (o_load1 rfl Proofs.Try.underlying3 rfl t78 ((D1_15.since hs rfl).cell rfl)) rfl)
    · intro a wa hs hf hd
      have t5 := hf.off 5 (by kernel_rfl) rfl
      exact plain_ rfl (yes_eqv (o_fieldAddr rfl Proofs.Try.underlying95 rfl rfl (by kernel_rfl) t5) rfl)
    · intro a wa hs hf hd
      have t80 : a.eval (.tmp 80) = _ := hd.at 8 80 (by kernel_rfl)
      exact plain_ rfl (yes_eqv (o_indexAddrA (sz := 1) rfl Proofs.Try.underlying93 (by kernel_rfl) t80 rfl (by decide) (by decide)) rfl)
    · intro a wa hs hf hd
      have t81 : a.eval (.tmp 81) = _ := hd.at 9 81 (by kernel_rfl)
      exact plain_ rfl (yes_eqv (o_load1 rfl Proofs.Try.underlying3 rfl t81 ((D1_15.since hs rfl).cell rfl)) rfl)
    · intro a wa hs hf hd
      have t79 : a.eval (.tmp 79) = _ := hd.at 7 79 (by kernel_rfl)
      have t82 : a.eval (.tmp 82) = _ := hd.at 10 82 (by kernel_rfl)
      exact plain_ rfl (yes_gives (kx _) rfl rfl Proofs.Try.func48 (by kernel_rfl) (by kernel_rfl) (by simp only [List.map_toArray, List.map_cons, List.map_nil, eval_const, t79, t82]) rfl)
    · intro a wa hs hf hd
      have t73 : a.eval (.tmp 73) = _ := hd.at 1 73 (by kernel_rfl)
      have t76 : a.eval (.tmp 76) = _ := hd.at 4 76 (by kernel_rfl)
      have t83 : a.eval (.tmp 83) = _ := hd.at 11 83 (by kernel_rfl)
      exact plain_ rfl (yes_gives (ks _ _ (aM.keep (Since.to_ext hs).keep) (by have := (Since.to_ext hs).size; have := hX15.size; omega)) rfl rfl Proofs.Try.func67 (by kernel_rfl) (by kernel_rfl) (by simp only [List.map_toArray, List.map_cons, List.map_nil, eval_const, t73, t76, t83]) rfl)
    · intro a wa hs hf hd
      have t84 := hd.at 12 84 (by kernel_rfl)
      obtain ⟨u, hu, hm⟩ := t84
      exact plain_ rfl (yes_val (runs_ok (o_move rfl hu)) (Ext.refl _) ⟨u, rfl, hm⟩ rfl)
    · intro a wa hs hf hd
      have t71 := hd.at 13 71 (by kernel_rfl)
      obtain ⟨u, hu, hm⟩ := t71
      exact plain_ rfl (yes_val (runs_ok (o_extract rfl hu rfl)) (Ext.refl _) hm rfl)
    · intro a wb wa hs1 hs hf hd
      have t71 := hd.at 13 71 (by kernel_rfl)
      obtain ⟨u, hu, hm⟩ := t71
      exact plain_ rfl (late_eqv (o_extract rfl hu rfl) rfl)
    · intro a wa hs hf hd
      exact plain_ rfl (yes_new (z := .agg #[.slice none 0 0, .slice none 0 0, .bool false]) rfl (by kernel_rfl) (by kernel_rfl) rfl hs.size)
    · intro a wb wa hs1 hs hf hd hrun
      have t13 := hd.at 16 13 (by kernel_rfl)
      have t85 := hd.at 14 85 (by kernel_rfl)
      subst hrun
      have q18 : IsMem (Bx N w.heap.size (w.heap.size + 3)) _ (a.eval (.tmp 85)) m1 := t85
      obtain ⟨u1, u2, u3, u4, hv, _⟩ := q18.opened
      obtain ⟨bk, hp, hk, hBk⟩ := t13
      exact ⟨_, o_store rfl hp hv hBk (by kernel_rfl) (by simp [Value.cells, Value.oneCell']) (by first | (simp [Value.cells]; done) | (simp [Value.cells]; omega)) rfl, Since.put hs (.inl hk)⟩
    · intro a wb wa hs1 hs hf hd
      have t86 : a.eval (.tmp 86) = _ := hd.at 15 86 (by kernel_rfl)
      exact plain_ rfl (late_eqv (o_assign rfl t86) rfl)
  case hG => exact ⟨stable_eqv _, stable_eqv _, stable_eqv _, stable_eqv _, stable_eqv _, stable_eqv _, stable_eqv _, stable_eqv _, stable_eqv _, stable_eqv _, stable_eqv _, stable_eqv _, stable_isTupN _ _ _, stable_isTupN _ _ _, stable_isMemN _ _, stable_eqv _, stable_isNew _ _ _, stable_any, stable_eqv _, trivial⟩
  case hc => kernel_rfl
  case hfin =>
    intro v15 hs15
    rintro _ rfl _ rfl _ rfl _ rfl _ rfl _ rfl _ rfl _ rfl _ rfl _ rfl _ rfl _ rfl _ ⟨p12, rfl, h12⟩ _ ⟨p13, rfl, h13⟩ p14 h14 _ rfl _ ⟨bn16, rfl, hbn16, hBn16⟩ _ rfl
    obtain ⟨u1, u2, u3, u4, rfl, uw, ug⟩ := IsMem.opened h14
    rintro v15w ⟨o1, v1, ho1, hr1, rfl⟩
    cases ho1
    simp only [Act.put, List.setIfInBounds_toArray, List.set_cons_zero, List.set_cons_succ] at hr1 ⊢
    cases (hr1.symm.trans (o_store (v := .agg #[.slice u1 m1.W.length u2, .slice u3 m1.G.length u4, .bool m1.bad]) (new := #[.slice u1 m1.W.length u2, .slice u3 m1.G.length u4, .bool m1.bad]) rfl rfl rfl ((hBn16)) (by kernel_rfl) (by simp [Value.cells, Value.oneCell']) (by first | (simp [Value.cells]; done) | (simp [Value.cells]; omega)) (by first | rfl | kernel_rfl)))
    obtain ⟨w2, hw2⟩ : ∃ x, x = (put v15 bn16 (.cells #[.slice u1 m1.W.length u2, .slice u3 m1.G.length u4, .bool m1.bad] 50 (0, 0))) := ⟨_, rfl⟩
    have hW2 : Ext w1 v15 := Since.to_ext hs15
    have hb2 : Ext w w2 := by rw [hw2]; exact Since.to_ext ((Since.of_ext (hX15.trans hW2)).put (.inl (by have := hX15.size; omega)))
    have hk2 : Keep (Bx N w.heap.size (w.heap.size + 3)) w1 w2 := by rw [hw2]; exact ((hK15.ext hW2).put _ _ (.inl (by omega)))
    have hq2 : ∀ M v l, IsInts M v15 v l → IsInts M w2 v l := by intro M v l h; rw [hw2]; exact h.putNew hBn16 zero50
    have B0_2 : Box w2 (w.heap.size) #[.slice aw s.M.W.length cw, .slice ag s.M.G.length cg, .bool s.M.bad, .slice ac s.C.length cc, .slice al s.L.length cl] 83 := by rw [hw2]; exact (box_putOther (D0_15.since hs15 rfl) (by omega))
    have B1_2 : Box w2 (w.heap.size + 1) #[.int .i64 op, .int .i64 2, .int .i64 q0, .int .i64 q1, .int .i64 q2, .int .i64 q3, .int .i64 q4, .int .i64 q5, .int .i64 q6, .int .i64 q7, .slice ga fS.length gc] 95 := by rw [hw2]; exact (box_putOther (D1_15.since hs15 rfl) (by omega))
    have B2_2 : Box w2 (w.heap.size + 1 + 1) #[.slice none 0 0, .slice none 0 0, .bool false, .slice none 0 0, .slice none 0 0] 83 := by rw [hw2]; exact (box_putOther (D2_15.since hs15 rfl) (by omega))
    have BN15_16_2 : Box w2 (bn16) #[.slice u1 m1.W.length u2, .slice u3 m1.G.length u4, .bool m1.bad] 50 := by rw [hw2]; exact (hBn16).put
    have s2 : w1.heap.size ≤ w2.heap.size := by rw [hw2]; have := hW2.size; simpa [put] using this
    rw [← hw2]
    clear hw2
    obtain ⟨c0_0, c0_1, c0_2, c0_3, c0_4, d0_0, d0_1, d0_2, d0_3, d0_4⟩ := cells5 B0_2
    have z0 : w.heap.size < w2.heap.size := B0_2.lt
    obtain ⟨⟨c1_0, c1_1, c1_2, c1_3, c1_4, c1_5, c1_6, c1_7, c1_8, c1_9, c1_10⟩, d1_0, d1_1, d1_2, d1_3, d1_4, d1_5, d1_6, d1_7, d1_8, d1_9, d1_10⟩ := cells11 B1_2
    have z1 : w.heap.size + 1 < w2.heap.size := B1_2.lt
    obtain ⟨c2_0, c2_1, c2_2, c2_3, c2_4, d2_0, d2_1, d2_2, d2_3, d2_4⟩ := cells5 B2_2
    have z2 : w.heap.size + 1 + 1 < w2.heap.size := B2_2.lt
    obtain ⟨cN15_16_0, cN15_16_1, cN15_16_2, dN15_16_0, dN15_16_1, dN15_16_2⟩ := cells3 BN15_16_2
    have zN15_16 : bn16 < w2.heap.size := BN15_16_2.lt
    have mw := hq2 _ _ _ uw
    have mg := hq2 _ _ _ ug
    clear hq2
    go_wp2_with (fail)
    go_at_call 151
    refine (refOn_ (Bx N w.heap.size (w.heap.size + 3)) _ _ _ s id 0 m1 ⟨op, 2, [q0, q1, q2, q3, q4, q5, q6, q7], fS⟩ _ (IsSys.mk rfl (IsInts.keep hwB keq) (IsInts.keep hgB keq) (IsCores.keep hcB keq) (IsEvs.keep hlB keq) : IsSys (Bx N w.heap.size (w.heap.size + 3)) _ _ s) (IsMem.mk rfl (IsInts.keep mw keq) (IsInts.keep mg keq) : IsMem (Bx N w.heap.size (w.heap.size + 3)) _ _ m1) (IsFrame.ofLit (IsInts.keep fsB keq) : IsFrame _ _ _ ⟨op, 2, [q0, q1, q2, q3, q4, q5, q6, q7], fS⟩) (Bx.le hN (by first | omega | (simp <;> omega))) hC hFm).calls.mono ?_
    rintro e w3 ⟨_, rfl, hb3, hu3⟩
    obtain ⟨r1, r2, r3, r4, r5, r6, r7, r8, rfl, rW, rG, rC, rL⟩ := hu3.opened
    have B0_3 : Box w3 (w.heap.size) #[.slice aw s.M.W.length cw, .slice ag s.M.G.length cg, .bool s.M.bad, .slice ac s.C.length cc, .slice al s.L.length cl] 83 := B0_2.ext hb3
    have B1_3 : Box w3 (w.heap.size + 1) #[.int .i64 op, .int .i64 2, .int .i64 q0, .int .i64 q1, .int .i64 q2, .int .i64 q3, .int .i64 q4, .int .i64 q5, .int .i64 q6, .int .i64 q7, .slice ga fS.length gc] 95 := B1_2.ext hb3
    have B2_3 : Box w3 (w.heap.size + 1 + 1) #[.slice none 0 0, .slice none 0 0, .bool false, .slice none 0 0, .slice none 0 0] 83 := B2_2.ext hb3
    have BN15_16_3 : Box w3 (bn16) #[.slice u1 m1.W.length u2, .slice u3 m1.G.length u4, .bool m1.bad] 50 := BN15_16_2.ext hb3
    clear c0_0 c0_1 c0_2 c0_3 c0_4 d0_0 d0_1 d0_2 d0_3 d0_4 z0 c1_0 c1_1 c1_2 c1_3 c1_4 c1_5 c1_6 c1_7 c1_8 c1_9 c1_10 d1_0 d1_1 d1_2 d1_3 d1_4 d1_5 d1_6 d1_7 d1_8 d1_9 d1_10 z1 c2_0 c2_1 c2_2 c2_3 c2_4 d2_0 d2_1 d2_2 d2_3 d2_4 z2 cN15_16_0 cN15_16_1 cN15_16_2 dN15_16_0 dN15_16_1 dN15_16_2 zN15_16
    have s3 : w2.heap.size ≤ w3.heap.size := (by have h := hb3.size; first | omega | (simp at h; omega))
    obtain ⟨c0_0, c0_1, c0_2, c0_3, c0_4, d0_0, d0_1, d0_2, d0_3, d0_4⟩ := cells5 B0_3
    have z0 : w.heap.size < w3.heap.size := B0_3.lt
    obtain ⟨⟨c1_0, c1_1, c1_2, c1_3, c1_4, c1_5, c1_6, c1_7, c1_8, c1_9, c1_10⟩, d1_0, d1_1, d1_2, d1_3, d1_4, d1_5, d1_6, d1_7, d1_8, d1_9, d1_10⟩ := cells11 B1_3
    have z1 : w.heap.size + 1 < w3.heap.size := B1_3.lt
    obtain ⟨c2_0, c2_1, c2_2, c2_3, c2_4, d2_0, d2_1, d2_2, d2_3, d2_4⟩ := cells5 B2_3
    have z2 : w.heap.size + 1 + 1 < w3.heap.size := B2_3.lt
    obtain ⟨cN15_16_0, cN15_16_1, cN15_16_2, dN15_16_0, dN15_16_1, dN15_16_2⟩ := cells3 BN15_16_3
    have zN15_16 : bn16 < w3.heap.size := BN15_16_3.lt
    go_wp2
    exact bodyPost_ret (ret_cell (cs := #[.slice r1 (onS s id m1 ⟨op, 2, [q0, q1, q2, q3, q4, q5, q6, q7], fS⟩ 0).M.W.length r2, .slice r3 (onS s id m1 ⟨op, 2, [q0, q1, q2, q3, q4, q5, q6, q7], fS⟩ 0).M.G.length r4, .bool (onS s id m1 ⟨op, 2, [q0, q1, q2, q3, q4, q5, q6, q7], fS⟩ 0).M.bad, .slice r5 (onS s id m1 ⟨op, 2, [q0, q1, q2, q3, q4, q5, q6, q7], fS⟩ 0).C.length r6, .slice r7 (onS s id m1 ⟨op, 2, [q0, q1, q2, q3, q4, q5, q6, q7], fS⟩ 0).L.length r8]) (((((B2_3.setCell _).setCell _).setCell _).setCell _).setCell _) Proofs.Try.results154 rfl Proofs.Try.underlying83 rfl (by kernel_rfl)) rfl ⟨_, rfl, exn, IsSys.less (IsSys.keep hu3 keq) (fun _ _ hn => .inl hn)⟩
set_option maxHeartbeats 1000000 in
set_option maxRecDepth 100000 in
theorem refPop_o (N : Nat → Prop) (s : SysD) (id op pc q0 q1 q2 q3 q4 q5 q6 q7 : Int) (fS : List Int) (aw ag ac al ga : Option Addr) (cw cg cc cl gc : Nat) (w : World) (hw : IsInts N w (.slice aw s.M.W.length cw) s.M.W) (hg : IsInts N w (.slice ag s.M.G.length cg) s.M.G) (hc : IsCores N w (.slice ac s.C.length cc) s.C) (hl : IsEvs N w (.slice al s.L.length cl) s.L) (fs : IsInts N w (.slice ga fS.length gc) fS)
    (hN : ∀ b, N b → b < w.heap.size) (hC : s.C.length ≤ 100000) (hFm : ∀ (i : Nat) c, s.C[i]? = some c → c.F.length ≤ 100000) (hfit : Fits s.M) (p0 : (pc == 0) = false) (p1 : (pc == 1) = false) (p2 : (pc == 2) = false) (p3 : (pc != 0) = true) (p4 : (pc != 2) = true) :
    Gives Proofs.Try.prog 154 #[.agg #[.slice aw s.M.W.length cw, .slice ag s.M.G.length cg, .bool s.M.bad, .slice ac s.C.length cc, .slice al s.L.length cl], .int .i64 id, .agg #[.int .i64 op, .int .i64 pc, .int .i64 q0, .int .i64 q1, .int .i64 q2, .int .i64 q3, .int .i64 q4, .int .i64 q5, .int .i64 q6, .int .i64 q7, .slice ga fS.length gc]] w (fun r w' => IsSys N w' r (s)) := by
  have hwB := hw.bxn (hi := w.heap.size + 3)
  have hgB := hg.bxn (hi := w.heap.size + 3)
  have hcB := hc.bxn (hi := w.heap.size + 3)
  have hlB := hl.bxn (hi := w.heap.size + 3)
  have fsB := fs.bxn (hi := w.heap.size + 3)
  go_enter Proofs.Try.func154, Proofs.Try.ntmps154
  go_wp2_with (fail)
  go_at_call 42
  refine (refIdx_ q0 _).calls.mono ?_
  rintro e w1 ⟨_, rfl, hb1, rfl⟩
  have B0_1 : Box w1 (w.heap.size) #[.slice aw s.M.W.length cw, .slice ag s.M.G.length cg, .bool s.M.bad, .slice ac s.C.length cc, .slice al s.L.length cl] 83 := (((Box.newAt _ _ _ (by first | rfl | simp)).alloc _).alloc _).ext hb1
  have B1_1 : Box w1 (w.heap.size + 1) #[.int .i64 op, .int .i64 pc, .int .i64 q0, .int .i64 q1, .int .i64 q2, .int .i64 q3, .int .i64 q4, .int .i64 q5, .int .i64 q6, .int .i64 q7, .slice ga fS.length gc] 95 := ((Box.newAt _ _ _ (by first | rfl | simp)).alloc _).ext hb1
  have B2_1 : Box w1 (w.heap.size + 1 + 1) #[.slice none 0 0, .slice none 0 0, .bool false, .slice none 0 0, .slice none 0 0] 83 := (Box.newAt _ _ _ (by first | rfl | simp)).ext hb1
  have s1 : w.heap.size + 3 ≤ w1.heap.size := (by have h := hb1.size; first | omega | (simp at h; omega))
  obtain ⟨c0_0, c0_1, c0_2, c0_3, c0_4, d0_0, d0_1, d0_2, d0_3, d0_4⟩ := cells5 B0_1
  have z0 : w.heap.size < w1.heap.size := B0_1.lt
  obtain ⟨⟨c1_0, c1_1, c1_2, c1_3, c1_4, c1_5, c1_6, c1_7, c1_8, c1_9, c1_10⟩, d1_0, d1_1, d1_2, d1_3, d1_4, d1_5, d1_6, d1_7, d1_8, d1_9, d1_10⟩ := cells11 B1_1
  have z1 : w.heap.size + 1 < w1.heap.size := B1_1.lt
  obtain ⟨c2_0, c2_1, c2_2, c2_3, c2_4, d2_0, d2_1, d2_2, d2_3, d2_4⟩ := cells5 B2_1
  have z2 : w.heap.size + 1 + 1 < w1.heap.size := B2_1.lt
  go_wp2
  exact bodyPost_ret (ret_cell (cs := #[.slice aw s.M.W.length cw, .slice ag s.M.G.length cg, .bool s.M.bad, .slice ac s.C.length cc, .slice al s.L.length cl]) (((((B2_1.setCell _).setCell _).setCell _).setCell _).setCell _) Proofs.Try.results154 rfl Proofs.Try.underlying83 rfl (by kernel_rfl)) rfl ⟨_, rfl, exn, IsSys.mk rfl (hw.ext exn) (hg.ext exn) (IsCores.keep hc (show Ext w _ from exn).keep) (IsEvs.keep hl (show Ext w _ from exn).keep)⟩
set_option maxHeartbeats 1000000 in
set_option maxRecDepth 100000 in
theorem refPush_n0 (N : Nat → Prop) (s : SysD) (id op q0 q1 q2 q3 q4 q5 q6 q7 : Int) (fS : List Int) (aw ag ac al ga : Option Addr) (cw cg cc cl gc : Nat) (w : World) (hw : IsInts N w (.slice aw s.M.W.length cw) s.M.W) (hg : IsInts N w (.slice ag s.M.G.length cg) s.M.G) (hc : IsCores N w (.slice ac s.C.length cc) s.C) (hl : IsEvs N w (.slice al s.L.length cl) s.L) (fs : IsInts N w (.slice ga fS.length gc) fS)
    (hN : ∀ b, N b → b < w.heap.size) (hC : s.C.length ≤ 100000) (hFm : ∀ (i : Nat) c, s.C[i]? = some c → c.F.length ≤ 100000) (hfit : Fits s.M)  :
    Gives Proofs.Try.prog 155 #[.agg #[.slice aw s.M.W.length cw, .slice ag s.M.G.length cg, .bool s.M.bad, .slice ac s.C.length cc, .slice al s.L.length cl], .int .i64 id, .agg #[.int .i64 op, .int .i64 0, .int .i64 q0, .int .i64 q1, .int .i64 q2, .int .i64 q3, .int .i64 q4, .int .i64 q5, .int .i64 q6, .int .i64 q7, .slice ga fS.length gc]] w (fun r w' => IsSys N w' r (onS s id (touchD s.M 0) ⟨op, 0, [q0, loadD s.M 0, q2, q3, q4, q5, q6, q7], fS⟩ 1)) := by
  have hwB := hw.bxn (hi := w.heap.size + 3)
  have hgB := hg.bxn (hi := w.heap.size + 3)
  have hcB := hc.bxn (hi := w.heap.size + 3)
  have hlB := hl.bxn (hi := w.heap.size + 3)
  have fsB := fs.bxn (hi := w.heap.size + 3)
  obtain ⟨m1, hm1⟩ : ∃ m, touchD s.M 0 = m := ⟨_, rfl⟩
  obtain ⟨v, hv⟩ : ∃ x, loadD s.M 0 = x := ⟨_, rfl⟩
  have kl : ∀ (w' : World) (va : Value), IsMem (Bx N w.heap.size (w.heap.size + 3)) w' va s.M → w.heap.size + 3 ≤ w'.heap.size → Gives Proofs.Try.prog 65 #[va, .int .i64 (0)] w' (fun r w' => ∃ u, r = .tuple #[u, .int .i64 v] ∧ IsMem (Bx N w.heap.size (w.heap.size + 3)) w' u m1) := fun w' va hm hsz => by
    have := refLoad_ (Bx N w.heap.size (w.heap.size + 3)) va s.M (0) w' hm hfit (Bx.le hN hsz)
    rw [hm1, hv] at this; exact this
  rw [hm1]
  try rw [hv]
  clear hm1 hv
  go_enter Proofs.Try.func155, Proofs.Try.ntmps155
  go_wp2_with (fail)
  go_at_call 65
  refine (kl _ _ (IsMem.mk rfl (IsInts.keep hwB keq) (IsInts.keep hgB keq)) (by first | omega | (simp <;> omega))).calls.mono ?_
  rintro e w1 ⟨_, rfl, hb1, u, rfl, hu1⟩
  obtain ⟨u1, u2, u3, u4, rfl, mw, mg⟩ := hu1.opened
  have B0_1 : Box w1 (w.heap.size) #[.slice aw s.M.W.length cw, .slice ag s.M.G.length cg, .bool s.M.bad, .slice ac s.C.length cc, .slice al s.L.length cl] 83 := (((Box.newAt _ _ _ (by first | rfl | simp)).alloc _).alloc _).ext hb1
  have B1_1 : Box w1 (w.heap.size + 1) #[.int .i64 op, .int .i64 0, .int .i64 q0, .int .i64 q1, .int .i64 q2, .int .i64 q3, .int .i64 q4, .int .i64 q5, .int .i64 q6, .int .i64 q7, .slice ga fS.length gc] 95 := ((Box.newAt _ _ _ (by first | rfl | simp)).alloc _).ext hb1
  have B2_1 : Box w1 (w.heap.size + 1 + 1) #[.slice none 0 0, .slice none 0 0, .bool false, .slice none 0 0, .slice none 0 0] 83 := (Box.newAt _ _ _ (by first | rfl | simp)).ext hb1
  have s1 : w.heap.size + 3 ≤ w1.heap.size := (by have h := hb1.size; first | omega | (simp at h; omega))
  obtain ⟨c0_0, c0_1, c0_2, c0_3, c0_4, d0_0, d0_1, d0_2, d0_3, d0_4⟩ := cells5 B0_1
  have z0 : w.heap.size < w1.heap.size := B0_1.lt
  obtain ⟨⟨c1_0, c1_1, c1_2, c1_3, c1_4, c1_5, c1_6, c1_7, c1_8, c1_9, c1_10⟩, d1_0, d1_1, d1_2, d1_3, d1_4, d1_5, d1_6, d1_7, d1_8, d1_9, d1_10⟩ := cells11 B1_1
  have z1 : w.heap.size + 1 < w1.heap.size := B1_1.lt
  obtain ⟨c2_0, c2_1, c2_2, c2_3, c2_4, d2_0, d2_1, d2_2, d2_3, d2_4⟩ := cells5 B2_1
  have z2 : w.heap.size + 1 + 1 < w1.heap.size := B2_1.lt
  go_wp2_with (fail)
  go_at_call 151
  refine (refOn_ (Bx N w.heap.size (w.heap.size + 3)) _ _ _ s id 1 m1 ⟨op, 0, [q0, v, q2, q3, q4, q5, q6, q7], fS⟩ _ (IsSys.mk rfl (IsInts.keep hwB keq) (IsInts.keep hgB keq) (IsCores.keep hcB keq) (IsEvs.keep hlB keq) : IsSys (Bx N w.heap.size (w.heap.size + 3)) _ _ s) (IsMem.mk rfl (IsInts.keep mw keq) (IsInts.keep mg keq) : IsMem (Bx N w.heap.size (w.heap.size + 3)) _ _ m1) (IsFrame.ofLit (IsInts.keep fsB keq) : IsFrame _ _ _ ⟨op, 0, [q0, v, q2, q3, q4, q5, q6, q7], fS⟩) (Bx.le hN (by first | omega | (simp <;> omega))) hC hFm).calls.mono ?_
  rintro e w2 ⟨_, rfl, hb2, hu2⟩
  obtain ⟨r1, r2, r3, r4, r5, r6, r7, r8, rfl, rW, rG, rC, rL⟩ := hu2.opened
  have B0_2 : Box w2 (w.heap.size) #[.slice aw s.M.W.length cw, .slice ag s.M.G.length cg, .bool s.M.bad, .slice ac s.C.length cc, .slice al s.L.length cl] 83 := ((B0_1.setOther (by first | omega | (simp <;> omega)) _).alloc _).ext hb2
  have B1_2 : Box w2 (w.heap.size + 1) #[.int .i64 op, .int .i64 0, .int .i64 q0, .int .i64 v, .int .i64 q2, .int .i64 q3, .int .i64 q4, .int .i64 q5, .int .i64 q6, .int .i64 q7, .slice ga fS.length gc] 95 := ((B1_1.setCell _).alloc _).ext hb2
  have B2_2 : Box w2 (w.heap.size + 1 + 1) #[.slice none 0 0, .slice none 0 0, .bool false, .slice none 0 0, .slice none 0 0] 83 := ((B2_1.setOther (by first | omega | (simp <;> omega)) _).alloc _).ext hb2
  have B3_2 : Box w2 (w1.heap.size) #[.slice u1 m1.W.length u2, .slice u3 m1.G.length u4, .bool m1.bad] 50 := (Box.newAt _ _ _ (by first | rfl | simp)).ext hb2
  clear c0_0 c0_1 c0_2 c0_3 c0_4 d0_0 d0_1 d0_2 d0_3 d0_4 z0 c1_0 c1_1 c1_2 c1_3 c1_4 c1_5 c1_6 c1_7 c1_8 c1_9 c1_10 d1_0 d1_1 d1_2 d1_3 d1_4 d1_5 d1_6 d1_7 d1_8 d1_9 d1_10 z1 c2_0 c2_1 c2_2 c2_3 c2_4 d2_0 d2_1 d2_2 d2_3 d2_4 z2
  have s2 : w1.heap.size + 1 ≤ w2.heap.size := (by have h := hb2.size; first | omega | (simp at h; omega))
  obtain ⟨c0_0, c0_1, c0_2, c0_3, c0_4, d0_0, d0_1, d0_2, d0_3, d0_4⟩ := cells5 B0_2
  have z0 : w.heap.size < w2.heap.size := B0_2.lt
  obtain ⟨⟨c1_0, c1_1, c1_2, c1_3, c1_4, c1_5, c1_6, c1_7, c1_8, c1_9, c1_10⟩, d1_0, d1_1, d1_2, d1_3, d1_4, d1_5, d1_6, d1_7, d1_8, d1_9, d1_10⟩ := cells11 B1_2
  have z1 : w.heap.size + 1 < w2.heap.size := B1_2.lt
  obtain ⟨c2_0, c2_1, c2_2, c2_3, c2_4, d2_0, d2_1, d2_2, d2_3, d2_4⟩ := cells5 B2_2
  have z2 : w.heap.size + 1 + 1 < w2.heap.size := B2_2.lt
  obtain ⟨c3_0, c3_1, c3_2, d3_0, d3_1, d3_2⟩ := cells3 B3_2
  have z3 : w1.heap.size < w2.heap.size := B3_2.lt
  go_wp2
  exact bodyPost_ret (ret_cell (cs := #[.slice r1 (onS s id m1 ⟨op, 0, [q0, v, q2, q3, q4, q5, q6, q7], fS⟩ 1).M.W.length r2, .slice r3 (onS s id m1 ⟨op, 0, [q0, v, q2, q3, q4, q5, q6, q7], fS⟩ 1).M.G.length r4, .bool (onS s id m1 ⟨op, 0, [q0, v, q2, q3, q4, q5, q6, q7], fS⟩ 1).M.bad, .slice r5 (onS s id m1 ⟨op, 0, [q0, v, q2, q3, q4, q5, q6, q7], fS⟩ 1).C.length r6, .slice r7 (onS s id m1 ⟨op, 0, [q0, v, q2, q3, q4, q5, q6, q7], fS⟩ 1).L.length r8]) (((((B2_2.setCell _).setCell _).setCell _).setCell _).setCell _) Proofs.Try.results155 rfl Proofs.Try.underlying83 rfl (by kernel_rfl)) rfl ⟨_, rfl, exn, IsSys.less (IsSys.keep hu2 keq) (fun _ _ hn => .inl hn)⟩
set_option maxHeartbeats 1000000 in
set_option maxRecDepth 100000 in
theorem refPush_1 (N : Nat → Prop) (s : SysD) (id op q0 q1 q2 q3 q4 q5 q6 q7 : Int) (fS : List Int) (aw ag ac al ga : Option Addr) (cw cg cc cl gc : Nat) (w : World) (hw : IsInts N w (.slice aw s.M.W.length cw) s.M.W) (hg : IsInts N w (.slice ag s.M.G.length cg) s.M.G) (hc : IsCores N w (.slice ac s.C.length cc) s.C) (hl : IsEvs N w (.slice al s.L.length cl) s.L) (fs : IsInts N w (.slice ga fS.length gc) fS)
    (hN : ∀ b, N b → b < w.heap.size) (hC : s.C.length ≤ 100000) (hFm : ∀ (i : Nat) c, s.C[i]? = some c → c.F.length ≤ 100000) (hfit : Fits s.M)  :
    Gives Proofs.Try.prog 155 #[.agg #[.slice aw s.M.W.length cw, .slice ag s.M.G.length cg, .bool s.M.bad, .slice ac s.C.length cc, .slice al s.L.length cl], .int .i64 id, .agg #[.int .i64 op, .int .i64 1, .int .i64 q0, .int .i64 q1, .int .i64 q2, .int .i64 q3, .int .i64 q4, .int .i64 q5, .int .i64 q6, .int .i64 q7, .slice ga fS.length gc]] w (fun r w' => IsSys N w' r (onS s id (storeD s.M (linkAt q0) (idx q1)) ⟨op, 1, [q0, q1, q2, q3, q4, q5, q6, q7], fS⟩ 2)) := by
  have hwB := hw.bxn (hi := w.heap.size + 3)
  have hgB := hg.bxn (hi := w.heap.size + 3)
  have hcB := hc.bxn (hi := w.heap.size + 3)
  have hlB := hl.bxn (hi := w.heap.size + 3)
  have fsB := fs.bxn (hi := w.heap.size + 3)
  obtain ⟨m1, hm1⟩ : ∃ m, storeD s.M (linkAt q0) (idx q1) = m := ⟨_, rfl⟩
  have ks : ∀ (w' : World) (va : Value), IsMem (Bx N w.heap.size (w.heap.size + 3)) w' va s.M → w.heap.size + 3 ≤ w'.heap.size → Gives Proofs.Try.prog 69 #[va, .int .i64 (linkAt q0), .int .i64 (idx q1)] w' (fun r w' => IsMem (Bx N w.heap.size (w.heap.size + 3)) w' r m1) := fun w' va hm hsz => by
    have := refStore_ (Bx N w.heap.size (w.heap.size + 3)) va s.M (linkAt q0) (idx q1) w' hm hfit (Bx.le hN hsz)
    rw [hm1] at this; exact this
  rw [hm1]
  clear hm1
  go_enter Proofs.Try.func155, Proofs.Try.ntmps155
  go_wp2_with (fail)
  obtain ⟨W6, hW⟩ : ∃ W, W = (((w.alloc (.cells #[.slice aw s.M.W.length cw, .slice ag s.M.G.length cg, .bool s.M.bad, .slice ac s.C.length cc, .slice al s.L.length cl] 83 (0, 0))).alloc (.cells #[.int .i64 op, .int .i64 1, .int .i64 q0, .int .i64 q1, .int .i64 q2, .int .i64 q3, .int .i64 q4, .int .i64 q5, .int .i64 q6, .int .i64 q7, .slice ga fS.length gc] 95 (0, 0))).alloc (.cells #[.slice none 0 0, .slice none 0 0, .bool false, .slice none 0 0, .slice none 0 0] 83 (0, 0))) := ⟨_, rfl⟩
  have hX6 : Ext w W6 := by rw [hW]; exact exn
  have hK6 : Keep (Bx N w.heap.size (w.heap.size + 3)) w W6 := by rw [hW]; exact keq
  have D0_6 : Box (((w.alloc (.cells #[.slice aw s.M.W.length cw, .slice ag s.M.G.length cg, .bool s.M.bad, .slice ac s.C.length cc, .slice al s.L.length cl] 83 (0, 0))).alloc (.cells #[.int .i64 op, .int .i64 1, .int .i64 q0, .int .i64 q1, .int .i64 q2, .int .i64 q3, .int .i64 q4, .int .i64 q5, .int .i64 q6, .int .i64 q7, .slice ga fS.length gc] 95 (0, 0))).alloc (.cells #[.slice none 0 0, .slice none 0 0, .bool false, .slice none 0 0, .slice none 0 0] 83 (0, 0))) (w.heap.size) #[.slice aw s.M.W.length cw, .slice ag s.M.G.length cg, .bool s.M.bad, .slice ac s.C.length cc, .slice al s.L.length cl] 83 := (((Box.newAt _ _ _ (by first | rfl | simp)).alloc _).alloc _)
  rw [← hW] at D0_6
  have D1_6 : Box (((w.alloc (.cells #[.slice aw s.M.W.length cw, .slice ag s.M.G.length cg, .bool s.M.bad, .slice ac s.C.length cc, .slice al s.L.length cl] 83 (0, 0))).alloc (.cells #[.int .i64 op, .int .i64 1, .int .i64 q0, .int .i64 q1, .int .i64 q2, .int .i64 q3, .int .i64 q4, .int .i64 q5, .int .i64 q6, .int .i64 q7, .slice ga fS.length gc] 95 (0, 0))).alloc (.cells #[.slice none 0 0, .slice none 0 0, .bool false, .slice none 0 0, .slice none 0 0] 83 (0, 0))) (w.heap.size + 1) #[.int .i64 op, .int .i64 1, .int .i64 q0, .int .i64 q1, .int .i64 q2, .int .i64 q3, .int .i64 q4, .int .i64 q5, .int .i64 q6, .int .i64 q7, .slice ga fS.length gc] 95 := ((Box.newAt _ _ _ (by first | rfl | simp)).alloc _)
  rw [← hW] at D1_6
  have D2_6 : Box (((w.alloc (.cells #[.slice aw s.M.W.length cw, .slice ag s.M.G.length cg, .bool s.M.bad, .slice ac s.C.length cc, .slice al s.L.length cl] 83 (0, 0))).alloc (.cells #[.int .i64 op, .int .i64 1, .int .i64 q0, .int .i64 q1, .int .i64 q2, .int .i64 q3, .int .i64 q4, .int .i64 q5, .int .i64 q6, .int .i64 q7, .slice ga fS.length gc] 95 (0, 0))).alloc (.cells #[.slice none 0 0, .slice none 0 0, .bool false, .slice none 0 0, .slice none 0 0] 83 (0, 0))) (w.heap.size + 1 + 1) #[.slice none 0 0, .slice none 0 0, .bool false, .slice none 0 0, .slice none 0 0] 83 := (Box.newAt _ _ _ (by first | rfl | simp))
  rw [← hW] at D2_6
  have y6 : w.heap.size + 3 ≤ W6.heap.size := by rw [hW]; simp
  rw [← hW]
  clear hW
  have aM : IsMem (Bx N w.heap.size (w.heap.size + 3)) W6 (.agg #[.slice aw s.M.W.length cw, .slice ag s.M.G.length cg, .bool s.M.bad]) s.M := (IsMem.mk rfl hwB hgB : IsMem (Bx N w.heap.size (w.heap.size + 3)) w _ s.M).keep ((Keep.refl _ _).ext hX6)
  apply region_lit2 (T := [12]) (L := []) (X := []) (G := [eqv _, eqv _, eqv _, eqv _, eqv _, eqv _, eqv _, eqv _, eqv _, eqv _, isMemN (Bx N w.heap.size (w.heap.size + 3)) m1, isNew W6.heap.size #[.slice none 0 0, .slice none 0 0, .bool false] 50, anyG])
  case hm => kernel_rfl
  case hop =>
    refine ⟨?_, ?_, ?_, ?_, ?_, ?_, ?_, ?_, ?_, ?_, ?_, ?_, ?_, trivial⟩
    · intro a wa hs hf hd
      have t3 := hf.off 3 (by kernel_rfl) rfl
      exact plain_ rfl (yes_eqv (o_fieldAddr rfl Proofs.Try.underlying83 rfl rfl (by kernel_rfl) t3) rfl)
    · intro a wa hs hf hd
      have t32 : a.eval (.tmp 32) = _ := hd.at 0 32 (by kernel_rfl)
      exact plain_ rfl (yes_eqv (o_load3 rfl Proofs.Try.underlying50 rfl (by kernel_rfl) t32 ((D0_6.since hs rfl).cell rfl) ((D0_6.since hs rfl).cell rfl) ((D0_6.since hs rfl).cell rfl)) rfl)
    · intro a wa hs hf hd
      have t5 := hf.off 5 (by kernel_rfl) rfl
      exact plain_ rfl (yes_eqv (o_fieldAddr rfl Proofs.Try.underlying95 rfl rfl (by kernel_rfl) t5) rfl)
    · intro a wa hs hf hd
      have t34 : a.eval (.tmp 34) = _ := hd.at 2 34 (by kernel_rfl)
      exact plain_ rfl (yes_eqv (o_indexAddrA (sz := 1) rfl Proofs.Try.underlying93 (by kernel_rfl) t34 rfl (by decide) (by decide)) rfl)
    · intro a wa hs hf hd
      have t35 : a.eval (.tmp 35) = _ := hd.at 3 35 (by kernel_rfl)
      exact plain_ rfl (yes_eqv (o_load1 rfl Proofs.Try.underlying3 rfl t35 ((D1_6.since hs rfl).cell rfl)) rfl)
    · intro a wa hs hf hd
      have t36 : a.eval (.tmp 36) = _ := hd.at 4 36 (by kernel_rfl)
      exact plain_ rfl (yes_gives (refAtw_ q0 _) rfl rfl Proofs.Try.func58 (by kernel_rfl) (by kernel_rfl) (by simp only [List.map_toArray, List.map_cons, List.map_nil, eval_const, t36]) rfl)
    · intro a wa hs hf hd
      have t5 := hf.off 5 (by kernel_rfl) rfl
      exact plain_ rfl (yes_eqv (o_fieldAddr rfl Proofs.Try.underlying95 rfl rfl (by kernel_rfl) t5) rfl)
    · intro a wa hs hf hd
      have t38 : a.eval (.tmp 38) = _ := hd.at 6 38 (by kernel_rfl)
      exact plain_ rfl (yes_eqv (o_indexAddrA (sz := 1) rfl Proofs.Try.underlying93 (by kernel_rfl) t38 rfl (by decide) (by decide)) rfl)
    · intro a wa hs hf hd
      have t39 : a.eval (.tmp 39) = _ := hd.at 7 39 (by kernel_rfl)
      exact plain_ rfl (yes_eqv (o_load1 rfl Proofs.Try.underlying3 rfl t39 ((D1_6.since hs rfl).cell rfl)) rfl)
    · intro a wa hs hf hd
      have t40 : a.eval (.tmp 40) = _ := hd.at 8 40 (by kernel_rfl)
      exact plain_ rfl (yes_gives (refIdx_ q1 _) rfl rfl Proofs.Try.func42 (by kernel_rfl) (by kernel_rfl) (by simp only [List.map_toArray, List.map_cons, List.map_nil, t40]) rfl)
    · intro a wa hs hf hd
      have t33 : a.eval (.tmp 33) = _ := hd.at 1 33 (by kernel_rfl)
      have t37 : a.eval (.tmp 37) = _ := hd.at 5 37 (by kernel_rfl)
      have t41 : a.eval (.tmp 41) = _ := hd.at 9 41 (by kernel_rfl)
      exact plain_ rfl (yes_gives (ks _ _ (aM.keep (Since.to_ext hs).keep) (by have := (Since.to_ext hs).size; have := hX6.size; omega)) rfl rfl Proofs.Try.func69 (by kernel_rfl) (by kernel_rfl) (by simp only [List.map_toArray, List.map_cons, List.map_nil, t33, t37, t41]) rfl)
    · intro a wa hs hf hd
      exact plain_ rfl (yes_new (z := .agg #[.slice none 0 0, .slice none 0 0, .bool false]) rfl (by kernel_rfl) (by kernel_rfl) rfl hs.size)
    · intro a wb wa hs1 hs hf hd hrun
      have t9 := hd.at 11 9 (by kernel_rfl)
      have t42 := hd.at 10 42 (by kernel_rfl)
      subst hrun
      have q18 : IsMem (Bx N w.heap.size (w.heap.size + 3)) _ (a.eval (.tmp 42)) m1 := t42
      obtain ⟨u1, u2, u3, u4, hv, _⟩ := q18.opened
      obtain ⟨bk, hp, hk, hBk⟩ := t9
      exact ⟨_, o_store rfl hp hv hBk (by kernel_rfl) (by simp [Value.cells, Value.oneCell']) (by first | (simp [Value.cells]; done) | (simp [Value.cells]; omega)) rfl, Since.put hs (.inl hk)⟩
  case hG => exact ⟨stable_eqv _, stable_eqv _, stable_eqv _, stable_eqv _, stable_eqv _, stable_eqv _, stable_eqv _, stable_eqv _, stable_eqv _, stable_eqv _, stable_isMemN _ _, stable_isNew _ _ _, stable_any, trivial⟩
  case hc => kernel_rfl
  case hfin =>
    intro v6 hs6
    rintro _ rfl _ rfl _ rfl _ rfl _ rfl _ rfl _ rfl _ rfl _ rfl _ rfl r11 hr11 _ ⟨bn11, rfl, hbn11, hBn11⟩
    obtain ⟨u1, u2, u3, u4, rfl, mw0, mg0⟩ := IsMem.opened hr11
    rintro v6w ⟨o1, v1, ho1, hr1, rfl⟩
    cases ho1
    simp only [Act.put, List.setIfInBounds_toArray, List.set_cons_zero, List.set_cons_succ] at hr1 ⊢
    cases (hr1.symm.trans (o_store (v := .agg #[.slice u1 m1.W.length u2, .slice u3 m1.G.length u4, .bool m1.bad]) (new := #[.slice u1 m1.W.length u2, .slice u3 m1.G.length u4, .bool m1.bad]) rfl rfl rfl ((hBn11)) (by kernel_rfl) (by simp [Value.cells, Value.oneCell']) (by first | (simp [Value.cells]; done) | (simp [Value.cells]; omega)) (by first | rfl | kernel_rfl)))
    obtain ⟨w1, hw1⟩ : ∃ x, x = (put v6 bn11 (.cells #[.slice u1 m1.W.length u2, .slice u3 m1.G.length u4, .bool m1.bad] 50 (0, 0))) := ⟨_, rfl⟩
    have hW1 : Ext W6 v6 := Since.to_ext hs6
    have hb1 : Ext w w1 := by rw [hw1]; exact Since.to_ext ((Since.of_ext (hX6.trans hW1)).put (.inl (by have := hX6.size; omega)))
    have hk1 : Keep (Bx N w.heap.size (w.heap.size + 3)) w w1 := by rw [hw1]; exact ((hK6.ext hW1).put _ _ (.inl (by omega)))
    have hq1 : ∀ M v l, IsInts M v6 v l → IsInts M w1 v l := by intro M v l h; rw [hw1]; exact h.putNew hBn11 zero50
    have B0_1 : Box w1 (w.heap.size) #[.slice aw s.M.W.length cw, .slice ag s.M.G.length cg, .bool s.M.bad, .slice ac s.C.length cc, .slice al s.L.length cl] 83 := by rw [hw1]; exact (box_putOther (D0_6.since hs6 rfl) (by omega))
    have B1_1 : Box w1 (w.heap.size + 1) #[.int .i64 op, .int .i64 1, .int .i64 q0, .int .i64 q1, .int .i64 q2, .int .i64 q3, .int .i64 q4, .int .i64 q5, .int .i64 q6, .int .i64 q7, .slice ga fS.length gc] 95 := by rw [hw1]; exact (box_putOther (D1_6.since hs6 rfl) (by omega))
    have B2_1 : Box w1 (w.heap.size + 1 + 1) #[.slice none 0 0, .slice none 0 0, .bool false, .slice none 0 0, .slice none 0 0] 83 := by rw [hw1]; exact (box_putOther (D2_6.since hs6 rfl) (by omega))
    have BN6_11_1 : Box w1 (bn11) #[.slice u1 m1.W.length u2, .slice u3 m1.G.length u4, .bool m1.bad] 50 := by rw [hw1]; exact (hBn11).put
    have s1 : W6.heap.size ≤ w1.heap.size := by rw [hw1]; have := hW1.size; simpa [put] using this
    rw [← hw1]
    clear hw1
    obtain ⟨c0_0, c0_1, c0_2, c0_3, c0_4, d0_0, d0_1, d0_2, d0_3, d0_4⟩ := cells5 B0_1
    have z0 : w.heap.size < w1.heap.size := B0_1.lt
    obtain ⟨⟨c1_0, c1_1, c1_2, c1_3, c1_4, c1_5, c1_6, c1_7, c1_8, c1_9, c1_10⟩, d1_0, d1_1, d1_2, d1_3, d1_4, d1_5, d1_6, d1_7, d1_8, d1_9, d1_10⟩ := cells11 B1_1
    have z1 : w.heap.size + 1 < w1.heap.size := B1_1.lt
    obtain ⟨c2_0, c2_1, c2_2, c2_3, c2_4, d2_0, d2_1, d2_2, d2_3, d2_4⟩ := cells5 B2_1
    have z2 : w.heap.size + 1 + 1 < w1.heap.size := B2_1.lt
    obtain ⟨cN6_11_0, cN6_11_1, cN6_11_2, dN6_11_0, dN6_11_1, dN6_11_2⟩ := cells3 BN6_11_1
    have zN6_11 : bn11 < w1.heap.size := BN6_11_1.lt
    have mw := hq1 _ _ _ mw0
    have mg := hq1 _ _ _ mg0
    clear hq1
    go_wp2_with (fail)
    go_at_call 151
    refine (refOn_ (Bx N w.heap.size (w.heap.size + 3)) _ _ _ s id 2 m1 ⟨op, 1, [q0, q1, q2, q3, q4, q5, q6, q7], fS⟩ _ (IsSys.mk rfl (IsInts.keep hwB keq) (IsInts.keep hgB keq) (IsCores.keep hcB keq) (IsEvs.keep hlB keq) : IsSys (Bx N w.heap.size (w.heap.size + 3)) _ _ s) (IsMem.mk rfl (IsInts.keep mw keq) (IsInts.keep mg keq) : IsMem (Bx N w.heap.size (w.heap.size + 3)) _ _ m1) (IsFrame.ofLit (IsInts.keep fsB keq) : IsFrame _ _ _ ⟨op, 1, [q0, q1, q2, q3, q4, q5, q6, q7], fS⟩) (Bx.le hN (by first | omega | (simp <;> omega))) hC hFm).calls.mono ?_
    rintro e w2 ⟨_, rfl, hb2, hu2⟩
    obtain ⟨r1, r2, r3, r4, r5, r6, r7, r8, rfl, rW, rG, rC, rL⟩ := hu2.opened
    have B0_2 : Box w2 (w.heap.size) #[.slice aw s.M.W.length cw, .slice ag s.M.G.length cg, .bool s.M.bad, .slice ac s.C.length cc, .slice al s.L.length cl] 83 := B0_1.ext hb2
    have B1_2 : Box w2 (w.heap.size + 1) #[.int .i64 op, .int .i64 1, .int .i64 q0, .int .i64 q1, .int .i64 q2, .int .i64 q3, .int .i64 q4, .int .i64 q5, .int .i64 q6, .int .i64 q7, .slice ga fS.length gc] 95 := B1_1.ext hb2
    have B2_2 : Box w2 (w.heap.size + 1 + 1) #[.slice none 0 0, .slice none 0 0, .bool false, .slice none 0 0, .slice none 0 0] 83 := B2_1.ext hb2
    have BN6_11_2 : Box w2 (bn11) #[.slice u1 m1.W.length u2, .slice u3 m1.G.length u4, .bool m1.bad] 50 := BN6_11_1.ext hb2
    clear c0_0 c0_1 c0_2 c0_3 c0_4 d0_0 d0_1 d0_2 d0_3 d0_4 z0 c1_0 c1_1 c1_2 c1_3 c1_4 c1_5 c1_6 c1_7 c1_8 c1_9 c1_10 d1_0 d1_1 d1_2 d1_3 d1_4 d1_5 d1_6 d1_7 d1_8 d1_9 d1_10 z1 c2_0 c2_1 c2_2 c2_3 c2_4 d2_0 d2_1 d2_2 d2_3 d2_4 z2 cN6_11_0 cN6_11_1 cN6_11_2 dN6_11_0 dN6_11_1 dN6_11_2 zN6_11
    have s2 : w1.heap.size ≤ w2.heap.size := (by have h := hb2.size; first | omega | (simp at h; omega))
    obtain ⟨c0_0, c0_1, c0_2, c0_3, c0_4, d0_0, d0_1, d0_2, d0_3, d0_4⟩ := cells5 B0_2
    have z0 : w.heap.size < w2.heap.size := B0_2.lt
    obtain ⟨⟨c1_0, c1_1, c1_2, c1_3, c1_4, c1_5, c1_6, c1_7, c1_8, c1_9, c1_10⟩, d1_0, d1_1, d1_2, d1_3, d1_4, d1_5, d1_6, d1_7, d1_8, d1_9, d1_10⟩ := cells11 B1_2
    have z1 : w.heap.size + 1 < w2.heap.size := B1_2.lt
    obtain ⟨c2_0, c2_1, c2_2, c2_3, c2_4, d2_0, d2_1, d2_2, d2_3, d2_4⟩ := cells5 B2_2
    have z2 : w.heap.size + 1 + 1 < w2.heap.size := B2_2.lt
    obtain ⟨cN6_11_0, cN6_11_1, cN6_11_2, dN6_11_0, dN6_11_1, dN6_11_2⟩ := cells3 BN6_11_2
    have zN6_11 : bn11 < w2.heap.size := BN6_11_2.lt
    go_wp2
    exact bodyPost_ret (ret_cell (cs := #[.slice r1 (onS s id m1 ⟨op, 1, [q0, q1, q2, q3, q4, q5, q6, q7], fS⟩ 2).M.W.length r2, .slice r3 (onS s id m1 ⟨op, 1, [q0, q1, q2, q3, q4, q5, q6, q7], fS⟩ 2).M.G.length r4, .bool (onS s id m1 ⟨op, 1, [q0, q1, q2, q3, q4, q5, q6, q7], fS⟩ 2).M.bad, .slice r5 (onS s id m1 ⟨op, 1, [q0, q1, q2, q3, q4, q5, q6, q7], fS⟩ 2).C.length r6, .slice r7 (onS s id m1 ⟨op, 1, [q0, q1, q2, q3, q4, q5, q6, q7], fS⟩ 2).L.length r8]) (((((B2_2.setCell _).setCell _).setCell _).setCell _).setCell _) Proofs.Try.results155 rfl Proofs.Try.underlying83 rfl (by kernel_rfl)) rfl ⟨_, rfl, exn, IsSys.less (IsSys.keep hu2 keq) (fun _ _ hn => .inl hn)⟩
set_option maxHeartbeats 1000000 in
set_option maxRecDepth 100000 in
theorem refPush_y2 (N : Nat → Prop) (s : SysD) (id op q0 q1 q2 q3 q4 q5 q6 q7 : Int) (fS : List Int) (aw ag ac al ga : Option Addr) (cw cg cc cl gc : Nat) (w : World) (hw : IsInts N w (.slice aw s.M.W.length cw) s.M.W) (hg : IsInts N w (.slice ag s.M.G.length cg) s.M.G) (hc : IsCores N w (.slice ac s.C.length cc) s.C) (hl : IsEvs N w (.slice al s.L.length cl) s.L) (fs : IsInts N w (.slice ga fS.length gc) fS)
    (hN : ∀ b, N b → b < w.heap.size) (hC : s.C.length ≤ 100000) (hFm : ∀ (i : Nat) c, s.C[i]? = some c → c.F.length ≤ 100000) (hfit : Fits s.M) (hcas : casIs s.M 0 q1 = true) (hfit1 : Fits (casD s.M 0 q1 (nextW q1 q0 0))) :
    Gives Proofs.Try.prog 155 #[.agg #[.slice aw s.M.W.length cw, .slice ag s.M.G.length cg, .bool s.M.bad, .slice ac s.C.length cc, .slice al s.L.length cl], .int .i64 id, .agg #[.int .i64 op, .int .i64 2, .int .i64 q0, .int .i64 q1, .int .i64 q2, .int .i64 q3, .int .i64 q4, .int .i64 q5, .int .i64 q6, .int .i64 q7, .slice ga fS.length gc]] w (fun r w' => IsSys N w' r (backS (memS s (turnMD (casD s.M 0 q1 (nextW q1 q0 0)) q0 0)) id q0 0)) := by
  have hwB := hw.bxn (hi := w.heap.size + 3)
  have hgB := hg.bxn (hi := w.heap.size + 3)
  have hcB := hc.bxn (hi := w.heap.size + 3)
  have hlB := hl.bxn (hi := w.heap.size + 3)
  have fsB := fs.bxn (hi := w.heap.size + 3)
  obtain ⟨m1, hm1⟩ : ∃ m, casD s.M 0 q1 (nextW q1 q0 0) = m := ⟨_, rfl⟩
  obtain ⟨nw, hnw⟩ : ∃ n, (nextW q1 q0 0) = n := ⟨_, rfl⟩
  have kx : ∀ w' : World, Gives Proofs.Try.prog 48 #[.int .i64 q1, .int .i64 q0, .int .i64 0] w' (eqv (.int .i64 nw)) := fun w' => by have := refNext_ q1 q0 0 w'; rw [hnw] at this; exact this
  have ks : ∀ (w' : World) (va : Value), IsMem (Bx N w.heap.size (w.heap.size + 3)) w' va s.M → w.heap.size + 3 ≤ w'.heap.size → Gives Proofs.Try.prog 67 #[va, .int .i64 0, .int .i64 q1, .int .i64 nw] w' (fun r w' => ∃ u, r = .tuple #[u, .bool true] ∧ IsMem (Bx N w.heap.size (w.heap.size + 3)) w' u m1) := fun w' va hm hsz => by
    have := refCas_ (Bx N w.heap.size (w.heap.size + 3)) va s.M 0 q1 (nextW q1 q0 0) w' hm hfit (Bx.le hN hsz)
    rw [hm1, hcas, hnw] at this; exact this
  rw [hm1] at hfit1
  obtain ⟨m2, hm2⟩ : ∃ m, turnMD m1 q0 0 = m := ⟨_, rfl⟩
  have kt : ∀ (w' : World) (va : Value), IsMem (Bx N w.heap.size (w.heap.size + 3)) w' va m1 → w.heap.size + 3 ≤ w'.heap.size → Gives Proofs.Try.prog 71 #[va, .int .i64 q0, .int .i64 0] w' (fun r w' => IsMem (Bx N w.heap.size (w.heap.size + 3)) w' r m2) := fun w' va hm hsz => by
    have := refTurn_ (Bx N w.heap.size (w.heap.size + 3)) va m1 q0 0 w' hm hfit1 (Bx.le hN hsz)
    rw [hm2] at this; exact this
  rw [hm1, hm2]
  clear hm1 hm2 hnw
  go_enter Proofs.Try.func155, Proofs.Try.ntmps155
  go_wp2_with (fail)
  obtain ⟨W10, hW⟩ : ∃ W, W = (((w.alloc (.cells #[.slice aw s.M.W.length cw, .slice ag s.M.G.length cg, .bool s.M.bad, .slice ac s.C.length cc, .slice al s.L.length cl] 83 (0, 0))).alloc (.cells #[.int .i64 op, .int .i64 2, .int .i64 q0, .int .i64 q1, .int .i64 q2, .int .i64 q3, .int .i64 q4, .int .i64 q5, .int .i64 q6, .int .i64 q7, .slice ga fS.length gc] 95 (0, 0))).alloc (.cells #[.slice none 0 0, .slice none 0 0, .bool false, .slice none 0 0, .slice none 0 0] 83 (0, 0))) := ⟨_, rfl⟩
  have hX10 : Ext w W10 := by rw [hW]; exact exn
  have hK10 : Keep (Bx N w.heap.size (w.heap.size + 3)) w W10 := by rw [hW]; exact keq
  have D0_10 : Box (((w.alloc (.cells #[.slice aw s.M.W.length cw, .slice ag s.M.G.length cg, .bool s.M.bad, .slice ac s.C.length cc, .slice al s.L.length cl] 83 (0, 0))).alloc (.cells #[.int .i64 op, .int .i64 2, .int .i64 q0, .int .i64 q1, .int .i64 q2, .int .i64 q3, .int .i64 q4, .int .i64 q5, .int .i64 q6, .int .i64 q7, .slice ga fS.length gc] 95 (0, 0))).alloc (.cells #[.slice none 0 0, .slice none 0 0, .bool false, .slice none 0 0, .slice none 0 0] 83 (0, 0))) (w.heap.size) #[.slice aw s.M.W.length cw, .slice ag s.M.G.length cg, .bool s.M.bad, .slice ac s.C.length cc, .slice al s.L.length cl] 83 := (((Box.newAt _ _ _ (by first | rfl | simp)).alloc _).alloc _)
  rw [← hW] at D0_10
  have D1_10 : Box (((w.alloc (.cells #[.slice aw s.M.W.length cw, .slice ag s.M.G.length cg, .bool s.M.bad, .slice ac s.C.length cc, .slice al s.L.length cl] 83 (0, 0))).alloc (.cells #[.int .i64 op, .int .i64 2, .int .i64 q0, .int .i64 q1, .int .i64 q2, .int .i64 q3, .int .i64 q4, .int .i64 q5, .int .i64 q6, .int .i64 q7, .slice ga fS.length gc] 95 (0, 0))).alloc (.cells #[.slice none 0 0, .slice none 0 0, .bool false, .slice none 0 0, .slice none 0 0] 83 (0, 0))) (w.heap.size + 1) #[.int .i64 op, .int .i64 2, .int .i64 q0, .int .i64 q1, .int .i64 q2, .int .i64 q3, .int .i64 q4, .int .i64 q5, .int .i64 q6, .int .i64 q7, .slice ga fS.length gc] 95 := ((Box.newAt _ _ _ (by first | rfl | simp)).alloc _)
  rw [← hW] at D1_10
  have D2_10 : Box (((w.alloc (.cells #[.slice aw s.M.W.length cw, .slice ag s.M.G.length cg, .bool s.M.bad, .slice ac s.C.length cc, .slice al s.L.length cl] 83 (0, 0))).alloc (.cells #[.int .i64 op, .int .i64 2, .int .i64 q0, .int .i64 q1, .int .i64 q2, .int .i64 q3, .int .i64 q4, .int .i64 q5, .int .i64 q6, .int .i64 q7, .slice ga fS.length gc] 95 (0, 0))).alloc (.cells #[.slice none 0 0, .slice none 0 0, .bool false, .slice none 0 0, .slice none 0 0] 83 (0, 0))) (w.heap.size + 1 + 1) #[.slice none 0 0, .slice none 0 0, .bool false, .slice none 0 0, .slice none 0 0] 83 := (Box.newAt _ _ _ (by first | rfl | simp))
  rw [← hW] at D2_10
  have y10 : w.heap.size + 3 ≤ W10.heap.size := by rw [hW]; simp
  rw [← hW]
  clear hW
  have aM : IsMem (Bx N w.heap.size (w.heap.size + 3)) W10 (.agg #[.slice aw s.M.W.length cw, .slice ag s.M.G.length cg, .bool s.M.bad]) s.M := (IsMem.mk rfl hwB hgB : IsMem (Bx N w.heap.size (w.heap.size + 3)) w _ s.M).keep ((Keep.refl _ _).ext hX10)
  apply region_lit2 (T := [17]) (L := [15, 18]) (X := []) (G := [eqv _, eqv _, eqv _, eqv _, eqv _, eqv _, eqv _, eqv _, eqv _, eqv _, eqv _, eqv _, isTupN (Bx N w.heap.size (w.heap.size + 3)) m1 (.bool true), isTupN (Bx N w.heap.size (w.heap.size + 3)) m1 (.bool true), isMemN (Bx N w.heap.size (w.heap.size + 3)) m1, eqv (.bool true), isNew W10.heap.size #[.slice none 0 0, .slice none 0 0, .bool false] 50, anyG, eqv _])
  case hm => kernel_rfl
  case hop =>
    refine ⟨?_, ?_, ?_, ?_, ?_, ?_, ?_, ?_, ?_, ?_, ?_, ?_, ?_, ?_, ?_, ?_, ?_, ?_, ?_, trivial⟩
    · intro a wa hs hf hd
      have t3 := hf.off 3 (by kernel_rfl) rfl
      exact plain_ rfl (yes_eqv (o_fieldAddr rfl Proofs.Try.underlying83 rfl rfl (by kernel_rfl) t3) rfl)
    · intro a wa hs hf hd
      have t53 : a.eval (.tmp 53) = _ := hd.at 0 53 (by kernel_rfl)
      exact plain_ rfl (yes_eqv (o_load3 rfl Proofs.Try.underlying50 rfl (by kernel_rfl) t53 ((D0_10.since hs rfl).cell rfl) ((D0_10.since hs rfl).cell rfl) ((D0_10.since hs rfl).cell rfl)) rfl)
    · intro a wa hs hf hd
      have t5 := hf.off 5 (by kernel_rfl) rfl
      exact plain_ rfl (yes_eqv (o_fieldAddr rfl Proofs.Try.underlying95 rfl rfl (by kernel_rfl) t5) rfl)
    · intro a wa hs hf hd
      have t55 : a.eval (.tmp 55) = _ := hd.at 2 55 (by kernel_rfl)
      exact plain_ rfl (yes_eqv (o_indexAddrA (sz := 1) rfl Proofs.Try.underlying93 (by kernel_rfl) t55 rfl (by decide) (by decide)) rfl)
    · intro a wa hs hf hd
      have t56 : a.eval (.tmp 56) = _ := hd.at 3 56 (by kernel_rfl)
      exact plain_ rfl (yes_eqv (o_load1 rfl Proofs.Try.underlying3 rfl t56 ((D1_10.since hs rfl).cell rfl)) rfl)
    · intro a wa hs hf hd
      have t5 := hf.off 5 (by kernel_rfl) rfl
      exact plain_ rfl (yes_eqv (o_fieldAddr rfl Proofs.Try.underlying95 rfl rfl (by kernel_rfl) t5) rfl)
    · intro a wa hs hf hd
      have t58 : a.eval (.tmp 58) = _ := hd.at 5 58 (by kernel_rfl)
      exact plain_ rfl (yes_eqv (o_indexAddrA (sz := 1) rfl Proofs.Try.underlying93 (by kernel_rfl) t58 rfl (by decide) (by decide)) rfl)
    · intro a wa hs hf hd
      have t59 : a.eval (.tmp 59) = _ := hd.at 6 59 (by kernel_rfl)
      exact plain_ rfl (yes_eqv (o_load1 rfl Proofs.Try.underlying3 rfl t59 ((D1_10.since hs rfl).cell rfl)) rfl)
    · intro a wa hs hf hd
      have t5 := hf.off 5 (by kernel_rfl) rfl
      exact plain_ rfl (yes_eqv (o_fieldAddr rfl Proofs.Try.underlying95 rfl rfl (by kernel_rfl) t5) rfl)
    · intro a wa hs hf hd
      have t61 : a.eval (.tmp 61) = _ := hd.at 8 61 (by kernel_rfl)
      exact plain_ rfl (yes_eqv (o_indexAddrA (sz := 1) rfl Proofs.Try.underlying93 (by kernel_rfl) t61 rfl (by decide) (by decide)) rfl)
    · intro a wa hs hf hd
      have t62 : a.eval (.tmp 62) = _ := hd.at 9 62 (by kernel_rfl)
      exact plain_ rfl (yes_eqv (o_load1 rfl Proofs.Try.underlying3 rfl t62 ((D1_10.since hs rfl).cell rfl)) rfl)
    · intro a wa hs hf hd
      have t60 : a.eval (.tmp 60) = _ := hd.at 7 60 (by kernel_rfl)
      have t63 : a.eval (.tmp 63) = _ := hd.at 10 63 (by kernel_rfl)
      exact plain_ rfl (yes_gives (kx _) rfl rfl Proofs.Try.func48 (by kernel_rfl) (by kernel_rfl) (by simp only [List.map_toArray, List.map_cons, List.map_nil, eval_const, t60, t63]) rfl)
    · intro a wa hs hf hd
      have t54 : a.eval (.tmp 54) = _ := hd.at 1 54 (by kernel_rfl)
      have t57 : a.eval (.tmp 57) = _ := hd.at 4 57 (by kernel_rfl)
      have t64 : a.eval (.tmp 64) = _ := hd.at 11 64 (by kernel_rfl)
      exact plain_ rfl (yes_gives (ks _ _ (aM.keep (Since.to_ext hs).keep) (by have := (Since.to_ext hs).size; have := hX10.size; omega)) rfl rfl Proofs.Try.func67 (by kernel_rfl) (by kernel_rfl) (by simp only [List.map_toArray, List.map_cons, List.map_nil, eval_const, t54, t57, t64]) rfl)
    · intro a wa hs hf hd
      have t65 := hd.at 12 65 (by kernel_rfl)
      obtain ⟨u, hu, hm⟩ := t65
      exact plain_ rfl (yes_val (runs_ok (o_move rfl hu)) (Ext.refl _) ⟨u, rfl, hm⟩ rfl)
    · intro a wa hs hf hd
      have t52 := hd.at 13 52 (by kernel_rfl)
      obtain ⟨u, hu, hm⟩ := t52
      exact plain_ rfl (yes_val (runs_ok (o_extract rfl hu rfl)) (Ext.refl _) hm rfl)
    · intro a wb wa hs1 hs hf hd
      have t52 := hd.at 13 52 (by kernel_rfl)
      obtain ⟨u, hu, hm⟩ := t52
      exact plain_ rfl (late_eqv (o_extract rfl hu rfl) rfl)
    · intro a wa hs hf hd
      exact plain_ rfl (yes_new (z := .agg #[.slice none 0 0, .slice none 0 0, .bool false]) rfl (by kernel_rfl) (by kernel_rfl) rfl hs.size)
    · intro a wb wa hs1 hs hf hd hrun
      have t10 := hd.at 16 10 (by kernel_rfl)
      have t66 := hd.at 14 66 (by kernel_rfl)
      subst hrun
      have q18 : IsMem (Bx N w.heap.size (w.heap.size + 3)) _ (a.eval (.tmp 66)) m1 := t66
      obtain ⟨u1, u2, u3, u4, hv, _⟩ := q18.opened
      obtain ⟨bk, hp, hk, hBk⟩ := t10
      exact ⟨_, o_store rfl hp hv hBk (by kernel_rfl) (by simp [Value.cells, Value.oneCell']) (by first | (simp [Value.cells]; done) | (simp [Value.cells]; omega)) rfl, Since.put hs (.inl hk)⟩
    · intro a wb wa hs1 hs hf hd
      have t67 : a.eval (.tmp 67) = _ := hd.at 15 67 (by kernel_rfl)
      exact plain_ rfl (late_eqv (o_assign rfl t67) rfl)
  case hG => exact ⟨stable_eqv _, stable_eqv _, stable_eqv _, stable_eqv _, stable_eqv _, stable_eqv _, stable_eqv _, stable_eqv _, stable_eqv _, stable_eqv _, stable_eqv _, stable_eqv _, stable_isTupN _ _ _, stable_isTupN _ _ _, stable_isMemN _ _, stable_eqv _, stable_isNew _ _ _, stable_any, stable_eqv _, trivial⟩
  case hc => kernel_rfl
  case hfin =>
    intro v10 hs10
    rintro _ rfl _ rfl _ rfl _ rfl _ rfl _ rfl _ rfl _ rfl _ rfl _ rfl _ rfl _ rfl _ ⟨p12, rfl, h12⟩ _ ⟨p13, rfl, h13⟩ p14 h14 _ rfl _ ⟨bn16, rfl, hbn16, hBn16⟩ _ rfl
    obtain ⟨u1, u2, u3, u4, rfl, uw, ug⟩ := IsMem.opened h14
    rintro v10w ⟨o1, v1, ho1, hr1, rfl⟩
    cases ho1
    simp only [Act.put, List.setIfInBounds_toArray, List.set_cons_zero, List.set_cons_succ] at hr1 ⊢
    cases (hr1.symm.trans (o_store (v := .agg #[.slice u1 m1.W.length u2, .slice u3 m1.G.length u4, .bool m1.bad]) (new := #[.slice u1 m1.W.length u2, .slice u3 m1.G.length u4, .bool m1.bad]) rfl rfl rfl ((hBn16)) (by kernel_rfl) (by simp [Value.cells, Value.oneCell']) (by first | (simp [Value.cells]; done) | (simp [Value.cells]; omega)) (by first | rfl | kernel_rfl)))
    obtain ⟨w1, hw1⟩ : ∃ x, x = (put v10 bn16 (.cells #[.slice u1 m1.W.length u2, .slice u3 m1.G.length u4, .bool m1.bad] 50 (0, 0))) := ⟨_, rfl⟩
    have hW1 : Ext W10 v10 := Since.to_ext hs10
    have hb1 : Ext w w1 := by rw [hw1]; exact Since.to_ext ((Since.of_ext (hX10.trans hW1)).put (.inl (by have := hX10.size; omega)))
    have hk1 : Keep (Bx N w.heap.size (w.heap.size + 3)) w w1 := by rw [hw1]; exact ((hK10.ext hW1).put _ _ (.inl (by omega)))
    have hq1 : ∀ M v l, IsInts M v10 v l → IsInts M w1 v l := by intro M v l h; rw [hw1]; exact h.putNew hBn16 zero50
    have B0_1 : Box w1 (w.heap.size) #[.slice aw s.M.W.length cw, .slice ag s.M.G.length cg, .bool s.M.bad, .slice ac s.C.length cc, .slice al s.L.length cl] 83 := by rw [hw1]; exact (box_putOther (D0_10.since hs10 rfl) (by omega))
    have B1_1 : Box w1 (w.heap.size + 1) #[.int .i64 op, .int .i64 2, .int .i64 q0, .int .i64 q1, .int .i64 q2, .int .i64 q3, .int .i64 q4, .int .i64 q5, .int .i64 q6, .int .i64 q7, .slice ga fS.length gc] 95 := by rw [hw1]; exact (box_putOther (D1_10.since hs10 rfl) (by omega))
    have B2_1 : Box w1 (w.heap.size + 1 + 1) #[.slice none 0 0, .slice none 0 0, .bool false, .slice none 0 0, .slice none 0 0] 83 := by rw [hw1]; exact (box_putOther (D2_10.since hs10 rfl) (by omega))
    have BN10_16_1 : Box w1 (bn16) #[.slice u1 m1.W.length u2, .slice u3 m1.G.length u4, .bool m1.bad] 50 := by rw [hw1]; exact (hBn16).put
    have s1 : W10.heap.size ≤ w1.heap.size := by rw [hw1]; have := hW1.size; simpa [put] using this
    rw [← hw1]
    clear hw1
    obtain ⟨c0_0, c0_1, c0_2, c0_3, c0_4, d0_0, d0_1, d0_2, d0_3, d0_4⟩ := cells5 B0_1
    have z0 : w.heap.size < w1.heap.size := B0_1.lt
    obtain ⟨⟨c1_0, c1_1, c1_2, c1_3, c1_4, c1_5, c1_6, c1_7, c1_8, c1_9, c1_10⟩, d1_0, d1_1, d1_2, d1_3, d1_4, d1_5, d1_6, d1_7, d1_8, d1_9, d1_10⟩ := cells11 B1_1
    have z1 : w.heap.size + 1 < w1.heap.size := B1_1.lt
    obtain ⟨c2_0, c2_1, c2_2, c2_3, c2_4, d2_0, d2_1, d2_2, d2_3, d2_4⟩ := cells5 B2_1
    have z2 : w.heap.size + 1 + 1 < w1.heap.size := B2_1.lt
    obtain ⟨cN10_16_0, cN10_16_1, cN10_16_2, dN10_16_0, dN10_16_1, dN10_16_2⟩ := cells3 BN10_16_1
    have zN10_16 : bn16 < w1.heap.size := BN10_16_1.lt
    have mw := hq1 _ _ _ uw
    have mg := hq1 _ _ _ ug
    clear hq1
    go_wp2_with (fail)
    have hX13 : Ext w w1 := exn
    have hK13 : Keep (Bx N w.heap.size (w.heap.size + 3)) w1 w1 := Keep.refl _ _
    have D0_13 := B0_1
    have D1_13 := B1_1
    have D2_13 := B2_1
    have DN10_16_13 := BN10_16_1
    have bM : IsMem (Bx N w.heap.size (w.heap.size + 3)) w1 (.agg #[.slice u1 m1.W.length u2, .slice u3 m1.G.length u4, .bool m1.bad]) m1 := (IsMem.mk rfl mw mg : IsMem (Bx N w.heap.size (w.heap.size + 3)) w1 _ m1).keep hK13
    have bS : IsSys (Bx N w.heap.size (w.heap.size + 3)) w1 (.agg #[.slice aw s.M.W.length cw, .slice ag s.M.G.length cg, .bool s.M.bad, .slice ac s.C.length cc, .slice al s.L.length cl]) s := (IsSys.mk rfl hwB hgB hcB hlB : IsSys (Bx N w.heap.size (w.heap.size + 3)) w _ s).keep ((Keep.refl _ _).ext hX13)
    clear c0_0 c0_1 c0_2 c0_3 c0_4 d0_0 d0_1 d0_2 d0_3 d0_4 z0 c1_0 c1_1 c1_2 c1_3 c1_4 c1_5 c1_6 c1_7 c1_8 c1_9 c1_10 d1_0 d1_1 d1_2 d1_3 d1_4 d1_5 d1_6 d1_7 d1_8 d1_9 d1_10 z1 c2_0 c2_1 c2_2 c2_3 c2_4 d2_0 d2_1 d2_2 d2_3 d2_4 z2 cN10_16_0 cN10_16_1 cN10_16_2 dN10_16_0 dN10_16_1 dN10_16_2 zN10_16
    apply region_lit2 (T := [12]) (L := []) (X := [w.heap.size + 1 + 1]) (G := [eqv _, eqv _, eqv _, eqv _, eqv _, isMemN (Bx N w.heap.size (w.heap.size + 3)) m2, isSysN (Bx N w.heap.size (w.heap.size + 3)) (memS s m2), eqv _, eqv _, eqv _, eqv _, isSysN (Bx N w.heap.size (w.heap.size + 3)) (backS (memS s m2) id q0 0), anyG])
    case hm => kernel_rfl
    case hop =>
      refine ⟨?_, ?_, ?_, ?_, ?_, ?_, ?_, ?_, ?_, ?_, ?_, ?_, ?_, trivial⟩
      · intro a wa hs hf hd
        have t3 := hf.off 3 (by kernel_rfl) rfl
        exact plain_ rfl (yes_eqv (o_load5 rfl Proofs.Try.underlying83 rfl (by kernel_rfl) t3 ((D0_13.since hs rfl).cell rfl) ((D0_13.since hs rfl).cell rfl) ((D0_13.since hs rfl).cell rfl) ((D0_13.since hs rfl).cell rfl) ((D0_13.since hs rfl).cell rfl)) rfl)
      · intro a wa hs hf hd
        have t10 := hf.off 10 (by kernel_rfl) rfl
        exact plain_ rfl (yes_eqv (o_load3 rfl Proofs.Try.underlying50 rfl (by kernel_rfl) t10 ((DN10_16_13.since hs rfl).cell rfl) ((DN10_16_13.since hs rfl).cell rfl) ((DN10_16_13.since hs rfl).cell rfl)) rfl)
      · intro a wa hs hf hd
        have t5 := hf.off 5 (by kernel_rfl) rfl
        exact plain_ rfl (yes_eqv (o_fieldAddr rfl Proofs.Try.underlying95 rfl rfl (by kernel_rfl) t5) rfl)
      · intro a wa hs hf hd
        have t77 : a.eval (.tmp 77) = _ := hd.at 2 77 (by kernel_rfl)
        exact plain_ rfl (yes_eqv (o_indexAddrA (sz := 1) rfl Proofs.Try.underlying93 (by kernel_rfl) t77 rfl (by decide) (by decide)) rfl)
      · intro a wa hs hf hd
        have t78 : a.eval (.tmp 78) = _ := hd.at 3 78 (by kernel_rfl)
        exact plain_ rfl (yes_eqv (o_load1 rfl Proofs.Try.underlying3 rfl t78 ((D1_13.since hs rfl).cell rfl)) rfl)
      · intro a wa hs hf hd
        have t76 : a.eval (.tmp 76) = _ := hd.at 1 76 (by kernel_rfl)
        have t79 : a.eval (.tmp 79) = _ := hd.at 4 79 (by kernel_rfl)
        exact plain_ rfl (yes_gives (kt _ _ (bM.keep (Since.to_ext hs).keep) (by have := (Since.to_ext hs).size; have := hX13.size; omega)) rfl rfl Proofs.Try.func71 (by kernel_rfl) (by kernel_rfl) (by simp only [List.map_toArray, List.map_cons, List.map_nil, eval_const, t76, t79]) rfl)
      · intro a wa hs hf hd
        have t75 : a.eval (.tmp 75) = _ := hd.at 0 75 (by kernel_rfl)
        have t80 := hd.at 5 80 (by kernel_rfl)
        exact plain_ rfl (yes_gives (refMem_ _ _ _ s m2 _ (bS.ext (Since.to_ext hs)) t80) rfl rfl Proofs.Try.func103 (by kernel_rfl) (by kernel_rfl) (by simp only [List.map_toArray, List.map_cons, List.map_nil, t75, t80]) rfl)
      · intro a wa hs hf hd
        have t1 := hf.off 1 (by kernel_rfl) rfl
        exact plain_ rfl (yes_eqv (o_move rfl t1) rfl)
      · intro a wa hs hf hd
        have t5 := hf.off 5 (by kernel_rfl) rfl
        exact plain_ rfl (yes_eqv (o_fieldAddr rfl Proofs.Try.underlying95 rfl rfl (by kernel_rfl) t5) rfl)
      · intro a wa hs hf hd
        have t83 : a.eval (.tmp 83) = _ := hd.at 8 83 (by kernel_rfl)
        exact plain_ rfl (yes_eqv (o_indexAddrA (sz := 1) rfl Proofs.Try.underlying93 (by kernel_rfl) t83 rfl (by decide) (by decide)) rfl)
      · intro a wa hs hf hd
        have t84 : a.eval (.tmp 84) = _ := hd.at 9 84 (by kernel_rfl)
        exact plain_ rfl (yes_eqv (o_load1 rfl Proofs.Try.underlying3 rfl t84 ((D1_13.since hs rfl).cell rfl)) rfl)
      · intro a wa hs hf hd
        have t81 := hd.at 6 81 (by kernel_rfl)
        have t82 : a.eval (.tmp 82) = _ := hd.at 7 82 (by kernel_rfl)
        have t85 : a.eval (.tmp 85) = _ := hd.at 10 85 (by kernel_rfl)
        exact plain_ rfl (yes_gives (refBack_ _ _ (memS s m2) id q0 0 _ t81 (Bx.le hN (by have := (Since.to_ext hs).size; have := hX13.size; omega)) hC) rfl rfl Proofs.Try.func90 (by kernel_rfl) (by kernel_rfl) (by simp only [List.map_toArray, List.map_cons, List.map_nil, eval_const, t81, t82, t85]) rfl)
      · intro a wb wa hs1 hs hf hd hrun
        have t6 := hf.off 6 (by kernel_rfl) rfl
        have t86 := hd.at 11 86 (by kernel_rfl)
        subst hrun
        have q18 : IsSys (Bx N w.heap.size (w.heap.size + 3)) _ (a.eval (.tmp 86)) (backS (memS s m2) id q0 0) := t86
        obtain ⟨r1, r2, r3, r4, r5, r6, r7, r8, hv, _⟩ := q18.opened
        exact ⟨_, o_store rfl t6 hv ((D2_13.since hs1 rfl)) (by kernel_rfl) (by simp [Value.cells, Value.oneCell']) (by first | (simp [Value.cells]; done) | (simp [Value.cells]; omega)) rfl, Since.put hs (.inr (by simp))⟩
    case hG => exact ⟨stable_eqv _, stable_eqv _, stable_eqv _, stable_eqv _, stable_eqv _, stable_isMemN _ _, stable_isSysN _ _, stable_eqv _, stable_eqv _, stable_eqv _, stable_eqv _, stable_isSysN _ _, stable_any, trivial⟩
    case hc => kernel_rfl
    case hfin =>
      intro v13 hs13
      rintro _ rfl _ rfl _ rfl _ rfl _ rfl r3 hr3 r4 hr4 _ rfl _ rfl _ rfl _ rfl r7 hr7
      obtain ⟨r1, r2, r3, r4, r5, r6, r7, r8, rfl, rW, rG, rC, rL⟩ := IsSys.opened hr7
      rintro v13w ⟨o1, v1, ho1, hr1, rfl⟩
      cases ho1
      simp only [Act.put, List.setIfInBounds_toArray, List.set_cons_zero, List.set_cons_succ] at hr1 ⊢
      cases (hr1.symm.trans (o_store (v := .agg #[.slice r1 (backS (memS s m2) id q0 0).M.W.length r2, .slice r3 (backS (memS s m2) id q0 0).M.G.length r4, .bool (backS (memS s m2) id q0 0).M.bad, .slice r5 (backS (memS s m2) id q0 0).C.length r6, .slice r7 (backS (memS s m2) id q0 0).L.length r8]) (new := #[.slice r1 (backS (memS s m2) id q0 0).M.W.length r2, .slice r3 (backS (memS s m2) id q0 0).M.G.length r4, .bool (backS (memS s m2) id q0 0).M.bad, .slice r5 (backS (memS s m2) id q0 0).C.length r6, .slice r7 (backS (memS s m2) id q0 0).L.length r8]) rfl rfl rfl ((D2_13.since hs13 rfl)) (by kernel_rfl) (by simp [Value.cells, Value.oneCell']) (by first | (simp [Value.cells]; done) | (simp [Value.cells]; omega)) (by first | rfl | kernel_rfl)))
      obtain ⟨w2, hw2⟩ : ∃ x, x = (put v13 (w.heap.size + 1 + 1) (.cells #[.slice r1 (backS (memS s m2) id q0 0).M.W.length r2, .slice r3 (backS (memS s m2) id q0 0).M.G.length r4, .bool (backS (memS s m2) id q0 0).M.bad, .slice r5 (backS (memS s m2) id q0 0).C.length r6, .slice r7 (backS (memS s m2) id q0 0).L.length r8] 83 (0, 0))) := ⟨_, rfl⟩
      have hW2 : Ext w1 v13 := Since.to_ext hs13
      have hb2 : Ext w w2 := by rw [hw2]; exact Since.to_ext ((Since.of_ext (hX13.trans hW2)).put (.inl (by have := hX13.size; omega)))
      have hk2 : Keep (Bx N w.heap.size (w.heap.size + 3)) w1 w2 := by rw [hw2]; exact ((hK13.ext hW2).put _ _ (.inr (Bx.mem (by omega) (by omega))))
      have hq2 : Keep (Bx N w.heap.size (w.heap.size + 3)) v13 w2 := by rw [hw2]; exact ((Keep.refl _ _).put _ _ (.inr (Bx.mem (by omega) (by omega))))
      have B0_2 : Box w2 (w.heap.size) #[.slice aw s.M.W.length cw, .slice ag s.M.G.length cg, .bool s.M.bad, .slice ac s.C.length cc, .slice al s.L.length cl] 83 := by rw [hw2]; exact (box_putOther (D0_13.since hs13 rfl) (by omega))
      have B1_2 : Box w2 (w.heap.size + 1) #[.int .i64 op, .int .i64 2, .int .i64 q0, .int .i64 q1, .int .i64 q2, .int .i64 q3, .int .i64 q4, .int .i64 q5, .int .i64 q6, .int .i64 q7, .slice ga fS.length gc] 95 := by rw [hw2]; exact (box_putOther (D1_13.since hs13 rfl) (by omega))
      have B2_2 : Box w2 (w.heap.size + 1 + 1) #[.slice r1 (backS (memS s m2) id q0 0).M.W.length r2, .slice r3 (backS (memS s m2) id q0 0).M.G.length r4, .bool (backS (memS s m2) id q0 0).M.bad, .slice r5 (backS (memS s m2) id q0 0).C.length r6, .slice r7 (backS (memS s m2) id q0 0).L.length r8] 83 := by rw [hw2]; exact (D2_13.since hs13 rfl).put
      have BN10_16_2 : Box w2 (bn16) #[.slice u1 m1.W.length u2, .slice u3 m1.G.length u4, .bool m1.bad] 50 := by rw [hw2]; exact (box_putOther (DN10_16_13.since hs13 rfl) (by omega))
      have s2 : w1.heap.size ≤ w2.heap.size := by rw [hw2]; have := hW2.size; simpa [put] using this
      rw [← hw2]
      clear hw2
      obtain ⟨c0_0, c0_1, c0_2, c0_3, c0_4, d0_0, d0_1, d0_2, d0_3, d0_4⟩ := cells5 B0_2
      have z0 : w.heap.size < w2.heap.size := B0_2.lt
      obtain ⟨⟨c1_0, c1_1, c1_2, c1_3, c1_4, c1_5, c1_6, c1_7, c1_8, c1_9, c1_10⟩, d1_0, d1_1, d1_2, d1_3, d1_4, d1_5, d1_6, d1_7, d1_8, d1_9, d1_10⟩ := cells11 B1_2
      have z1 : w.heap.size + 1 < w2.heap.size := B1_2.lt
      obtain ⟨c2_0, c2_1, c2_2, c2_3, c2_4, d2_0, d2_1, d2_2, d2_3, d2_4⟩ := cells5 B2_2
      have z2 : w.heap.size + 1 + 1 < w2.heap.size := B2_2.lt
      obtain ⟨cN10_16_0, cN10_16_1, cN10_16_2, dN10_16_0, dN10_16_1, dN10_16_2⟩ := cells3 BN10_16_2
      have zN10_16 : bn16 < w2.heap.size := BN10_16_2.lt
      have hu2 : IsSys (Bx N w.heap.size (w.heap.size + 3)) w2 (.agg #[.slice r1 (backS (memS s m2) id q0 0).M.W.length r2, .slice r3 (backS (memS s m2) id q0 0).M.G.length r4, .bool (backS (memS s m2) id q0 0).M.bad, .slice r5 (backS (memS s m2) id q0 0).C.length r6, .slice r7 (backS (memS s m2) id q0 0).L.length r8]) (backS (memS s m2) id q0 0) := IsSys.keep (IsSys.mk rfl rW rG rC rL : IsSys (Bx N w.heap.size (w.heap.size + 3)) v13 _ (backS (memS s m2) id q0 0)) hq2
      clear hq2
      go_wp2
      exact bodyPost_ret (ret_cell (cs := #[.slice r1 (backS (memS s m2) id q0 0).M.W.length r2, .slice r3 (backS (memS s m2) id q0 0).M.G.length r4, .bool (backS (memS s m2) id q0 0).M.bad, .slice r5 (backS (memS s m2) id q0 0).C.length r6, .slice r7 (backS (memS s m2) id q0 0).L.length r8]) B2_2 Proofs.Try.results155 rfl Proofs.Try.underlying83 rfl (by kernel_rfl)) rfl ⟨_, rfl, exn, IsSys.less (IsSys.keep hu2 keq) (fun _ _ hn => .inl hn)⟩
set_option maxHeartbeats 1000000 in
set_option maxRecDepth 100000 in
theorem refPush_n2 (N : Nat → Prop) (s : SysD) (id op q0 q1 q2 q3 q4 q5 q6 q7 : Int) (fS : List Int) (aw ag ac al ga : Option Addr) (cw cg cc cl gc : Nat) (w : World) (hw : IsInts N w (.slice aw s.M.W.length cw) s.M.W) (hg : IsInts N w (.slice ag s.M.G.length cg) s.M.G) (hc : IsCores N w (.slice ac s.C.length cc) s.C) (hl : IsEvs N w (.slice al s.L.length cl) s.L) (fs : IsInts N w (.slice ga fS.length gc) fS)
    (hN : ∀ b, N b → b < w.heap.size) (hC : s.C.length ≤ 100000) (hFm : ∀ (i : Nat) c, s.C[i]? = some c → c.F.length ≤ 100000) (hfit : Fits s.M) (hcas : casIs s.M 0 q1 = false) :
    Gives Proofs.Try.prog 155 #[.agg #[.slice aw s.M.W.length cw, .slice ag s.M.G.length cg, .bool s.M.bad, .slice ac s.C.length cc, .slice al s.L.length cl], .int .i64 id, .agg #[.int .i64 op, .int .i64 2, .int .i64 q0, .int .i64 q1, .int .i64 q2, .int .i64 q3, .int .i64 q4, .int .i64 q5, .int .i64 q6, .int .i64 q7, .slice ga fS.length gc]] w (fun r w' => IsSys N w' r (onS s id (casD s.M 0 q1 (nextW q1 q0 0)) ⟨op, 2, [q0, q1, q2, q3, q4, q5, q6, q7], fS⟩ 0)) := by
  have hwB := hw.bxn (hi := w.heap.size + 3)
  have hgB := hg.bxn (hi := w.heap.size + 3)
  have hcB := hc.bxn (hi := w.heap.size + 3)
  have hlB := hl.bxn (hi := w.heap.size + 3)
  have fsB := fs.bxn (hi := w.heap.size + 3)
  obtain ⟨m1, hm1⟩ : ∃ m, casD s.M 0 q1 (nextW q1 q0 0) = m := ⟨_, rfl⟩
  obtain ⟨nw, hnw⟩ : ∃ n, (nextW q1 q0 0) = n := ⟨_, rfl⟩
  have kx : ∀ w' : World, Gives Proofs.Try.prog 48 #[.int .i64 q1, .int .i64 q0, .int .i64 0] w' (eqv (.int .i64 nw)) := fun w' => by have := refNext_ q1 q0 0 w'; rw [hnw] at this; exact this
  have ks : ∀ (w' : World) (va : Value), IsMem (Bx N w.heap.size (w.heap.size + 3)) w' va s.M → w.heap.size + 3 ≤ w'.heap.size → Gives Proofs.Try.prog 67 #[va, .int .i64 0, .int .i64 q1, .int .i64 nw] w' (fun r w' => ∃ u, r = .tuple #[u, .bool false] ∧ IsMem (Bx N w.heap.size (w.heap.size + 3)) w' u m1) := fun w' va hm hsz => by
    have := refCas_ (Bx N w.heap.size (w.heap.size + 3)) va s.M 0 q1 (nextW q1 q0 0) w' hm hfit (Bx.le hN hsz)
    rw [hm1, hcas, hnw] at this; exact this
  rw [hm1]
  clear hm1 hnw
  go_enter Proofs.Try.func155, Proofs.Try.ntmps155
  go_wp2_with (fail)
  obtain ⟨W10, hW⟩ : ∃ W, W = (((w.alloc (.cells #[.slice aw s.M.W.length cw, .slice ag s.M.G.length cg, .bool s.M.bad, .slice ac s.C.length cc, .slice al s.L.length cl] 83 (0, 0))).alloc (.cells #[.int .i64 op, .int .i64 2, .int .i64 q0, .int .i64 q1, .int .i64 q2, .int .i64 q3, .int .i64 q4, .int .i64 q5, .int .i64 q6, .int .i64 q7, .slice ga fS.length gc] 95 (0, 0))).alloc (.cells #[.slice none 0 0, .slice none 0 0, .bool false, .slice none 0 0, .slice none 0 0] 83 (0, 0))) := ⟨_, rfl⟩
  have hX10 : Ext w W10 := by rw [hW]; exact exn
  have hK10 : Keep (Bx N w.heap.size (w.heap.size + 3)) w W10 := by rw [hW]; exact keq
  have D0_10 : Box (((w.alloc (.cells #[.slice aw s.M.W.length cw, .slice ag s.M.G.length cg, .bool s.M.bad, .slice ac s.C.length cc, .slice al s.L.length cl] 83 (0, 0))).alloc (.cells #[.int .i64 op, .int .i64 2, .int .i64 q0, .int .i64 q1, .int .i64 q2, .int .i64 q3, .int .i64 q4, .int .i64 q5, .int .i64 q6, .int .i64 q7, .slice ga fS.length gc] 95 (0, 0))).alloc (.cells #[.slice none 0 0, .slice none 0 0, .bool false, .slice none 0 0, .slice none 0 0] 83 (0, 0))) (w.heap.size) #[.slice aw s.M.W.length cw, .slice ag s.M.G.length cg, .bool s.M.bad, .slice ac s.C.length cc, .slice al s.L.length cl] 83 := (((Box.newAt _ _ _ (by first | rfl | simp)).alloc _).alloc _)
  rw [← hW] at D0_10
  have D1_10 : Box (((w.alloc (.cells #[.slice aw s.M.W.length cw, .slice ag s.M.G.length cg, .bool s.M.bad, .slice ac s.C.length cc, .slice al s.L.length cl] 83 (0, 0))).alloc (.cells #[.int .i64 op, .int .i64 2, .int .i64 q0, .int .i64 q1, .int .i64 q2, .int .i64 q3, .int .i64 q4, .int .i64 q5, .int .i64 q6, .int .i64 q7, .slice ga fS.length gc] 95 (0, 0))).alloc (.cells #[.slice none 0 0, .slice none 0 0, .bool false, .slice none 0 0, .slice none 0 0] 83 (0, 0))) (w.heap.size + 1) #[.int .i64 op, .int .i64 2, .int .i64 q0, .int .i64 q1, .int .i64 q2, .int .i64 q3, .int .i64 q4, .int .i64 q5, .int .i64 q6, .int .i64 q7, .slice ga fS.length gc] 95 := ((Box.newAt _ _ _ (by first | rfl | simp)).alloc _)
  rw [← hW] at D1_10
  have D2_10 : Box (((w.alloc (.cells #[.slice aw s.M.W.length cw, .slice ag s.M.G.length cg, .bool s.M.bad, .slice ac s.C.length cc, .slice al s.L.length cl] 83 (0, 0))).alloc (.cells #[.int .i64 op, .int .i64 2, .int .i64 q0, .int .i64 q1, .int .i64 q2, .int .i64 q3, .int .i64 q4, .int .i64 q5, .int .i64 q6, .int .i64 q7, .slice ga fS.length gc] 95 (0, 0))).alloc (.cells #[.slice none 0 0, .slice none 0 0, .bool false, .slice none 0 0, .slice none 0 0] 83 (0, 0))) (w.heap.size + 1 + 1) #[.slice none 0 0, .slice none 0 0, .bool false, .slice none 0 0, .slice none 0 0] 83 := (Box.newAt _ _ _ (by first | rfl | simp))
  rw [← hW] at D2_10
  have y10 : w.heap.size + 3 ≤ W10.heap.size := by rw [hW]; simp
  rw [← hW]
  clear hW
  have aM : IsMem (Bx N w.heap.size (w.heap.size + 3)) W10 (.agg #[.slice aw s.M.W.length cw, .slice ag s.M.G.length cg, .bool s.M.bad]) s.M := (IsMem.mk rfl hwB hgB : IsMem (Bx N w.heap.size (w.heap.size + 3)) w _ s.M).keep ((Keep.refl _ _).ext hX10)
  apply region_lit2 (T := [17]) (L := [15, 18]) (X := []) (G := [eqv _, eqv _, eqv _, eqv _, eqv _, eqv _, eqv _, eqv _, eqv _, eqv _, eqv _, eqv _, isTupN (Bx N w.heap.size (w.heap.size + 3)) m1 (.bool false), isTupN (Bx N w.heap.size (w.heap.size + 3)) m1 (.bool false), isMemN (Bx N w.heap.size (w.heap.size + 3)) m1, eqv (.bool false), isNew W10.heap.size #[.slice none 0 0, .slice none 0 0, .bool false] 50, anyG, eqv _])
  case hm => kernel_rfl
  case hop =>
    refine ⟨?_, ?_, ?_, ?_, ?_, ?_, ?_, ?_, ?_, ?_, ?_, ?_, ?_, ?_, ?_, ?_, ?_, ?_, ?_, trivial⟩
    · intro a wa hs hf hd
      have t3 := hf.off 3 (by kernel_rfl) rfl
      exact plain_ rfl (yes_eqv (o_fieldAddr rfl Proofs.Try.underlying83 rfl rfl (by kernel_rfl) t3) rfl)
    · intro a wa hs hf hd
      have t53 : a.eval (.tmp 53) = _ := hd.at 0 53 (by kernel_rfl)
      exact plain_ rfl (yes_eqv (o_load3 rfl Proofs.Try.underlying50 rfl (by kernel_rfl) t53 ((D0_10.since hs rfl).cell rfl) ((D0_10.since hs rfl).cell rfl) ((D0_10.since hs rfl).cell rfl)) rfl)
    · intro a wa hs hf hd
      have t5 := hf.off 5 (by kernel_rfl) rfl
      exact plain_ rfl (yes_eqv (o_fieldAddr rfl Proofs.Try.underlying95 rfl rfl (by kernel_rfl) t5) rfl)
    · intro a wa hs hf hd
      have t55 : a.eval (.tmp 55) = _ := hd.at 2 55 (by kernel_rfl)
      exact plain_ rfl (yes_eqv (o_indexAddrA (sz := 1) rfl Proofs.Try.underlying93 (by kernel_rfl) t55 rfl (by decide) (by decide)) rfl)
    · intro a wa hs hf hd
      have t56 : a.eval (.tmp 56) = _ := hd.at 3 56 (by kernel_rfl)
      exact plain_ rfl (yes_eqv (o_load1 rfl Proofs.Try.underlying3 rfl t56 ((D1_10.since hs rfl).cell rfl)) rfl)
    · intro a wa hs hf hd
      have t5 := hf.off 5 (by kernel_rfl) rfl
      exact plain_ rfl (yes_eqv (o_fieldAddr rfl Proofs.Try.underlying95 rfl rfl (by kernel_rfl) t5) rfl)
    · intro a wa hs hf hd
      have t58 : a.eval (.tmp 58) = _ := hd.at 5 58 (by kernel_rfl)
      exact plain_ rfl (yes_eqv (o_indexAddrA (sz := 1) rfl Proofs.Try.underlying93 (by kernel_rfl) t58 rfl (by decide) (by decide)) rfl)
    · intro a wa hs hf hd
      have t59 : a.eval (.tmp 59) = _ := hd.at 6 59 (by kernel_rfl)
      exact plain_ rfl (yes_eqv (o_load1 rfl Proofs.Try.underlying3 rfl t59 ((D1_10.since hs rfl).cell rfl)) rfl)
    · intro a wa hs hf hd
      have t5 := hf.off 5 (by kernel_rfl) rfl
      exact plain_ rfl (yes_eqv (o_fieldAddr rfl Proofs.Try.underlying95 rfl rfl (by kernel_rfl) t5) rfl)
    · intro a wa hs hf hd
      have t61 : a.eval (.tmp 61) = _ := hd.at 8 61 (by kernel_rfl)
      exact plain_ rfl (yes_eqv (o_indexAddrA (sz := 1) rfl Proofs.Try.underlying93 (by kernel_rfl) t61 rfl (by decide) (by decide)) rfl)
    · intro a wa hs hf hd
      have t62 : a.eval (.tmp 62) = _ := hd.at 9 62 (by kernel_rfl)
      exact plain_ rfl (yes_eqv (o_load1 rfl Proofs.Try.underlying3 rfl t62 ((D1_10.since hs rfl).cell rfl)) rfl)
    · intro a wa hs hf hd
      have t60 : a.eval (.tmp 60) = _ := hd.at 7 60 (by kernel_rfl)
      have t63 : a.eval (.tmp 63) = _ := hd.at 10 63 (by kernel_rfl)
      exact plain_ rfl (yes_gives (kx _) rfl rfl Proofs.Try.func48 (by kernel_rfl) (by kernel_rfl) (by simp only [List.map_toArray, List.map_cons, List.map_nil, eval_const, t60, t63]) rfl)
    · intro a wa hs hf hd
      have t54 : a.eval (.tmp 54) = _ := hd.at 1 54 (by kernel_rfl)
      have t57 : a.eval (.tmp 57) = _ := hd.at 4 57 (by kernel_rfl)
      have t64 : a.eval (.tmp 64) = _ := hd.at 11 64 (by kernel_rfl)
      exact plain_ rfl (yes_gives (ks _ _ (aM.keep (Since.to_ext hs).keep) (by have := (Since.to_ext hs).size; have := hX10.size; omega)) rfl rfl Proofs.Try.func67 (by kernel_rfl) (by kernel_rfl) (by simp only [List.map_toArray, List.map_cons, List.map_nil, eval_const, t54, t57, t64]) rfl)
    · intro a wa hs hf hd
      have t65 := hd.at 12 65 (by kernel_rfl)
      obtain ⟨u, hu, hm⟩ := t65
      exact plain_ rfl (yes_val (runs_ok (o_move rfl hu)) (Ext.refl _) ⟨u, rfl, hm⟩ rfl)
    · intro a wa hs hf hd
      have t52 := hd.at 13 52 (by kernel_rfl)
      obtain ⟨u, hu, hm⟩ := t52
      exact plain_ rfl (yes_val (runs_ok (o_extract rfl hu rfl)) (Ext.refl _) hm rfl)
    · intro a wb wa hs1 hs hf hd
      have t52 := hd.at 13 52 (by kernel_rfl)
      obtain ⟨u, hu, hm⟩ := t52
      exact plain_ rfl (late_eqv (o_extract rfl hu rfl) rfl)
    · intro a wa hs hf hd
      exact plain_ rfl (yes_new (z := .agg #[.slice none 0 0, .slice none 0 0, .bool false]) rfl (by kernel_rfl) (by kernel_rfl) rfl hs.size)
    · intro a wb wa hs1 hs hf hd hrun
      have t10 := hd.at 16 10 (by kernel_rfl)
      have t66 := hd.at 14 66 (by kernel_rfl)
      subst hrun
      have q18 : IsMem (Bx N w.heap.size (w.heap.size + 3)) _ (a.eval (.tmp 66)) m1 := t66
      obtain ⟨u1, u2, u3, u4, hv, _⟩ := q18.opened
      obtain ⟨bk, hp, hk, hBk⟩ := t10
      exact ⟨_, o_store rfl hp hv hBk (by kernel_rfl) (by simp [Value.cells, Value.oneCell']) (by first | (simp [Value.cells]; done) | (simp [Value.cells]; omega)) rfl, Since.put hs (.inl hk)⟩
    · intro a wb wa hs1 hs hf hd
      have t67 : a.eval (.tmp 67) = _ := hd.at 15 67 (by kernel_rfl)
      exact plain_ rfl (late_eqv (o_assign rfl t67) rfl)
  case hG => exact ⟨stable_eqv _, stable_eqv _, stable_eqv _, stable_eqv _, stable_eqv _, stable_eqv _, stable_eqv _, stable_eqv _, stable_eqv _, stable_eqv _, stable_eqv _, stable_eqv _, stable_isTupN _ _ _, stable_isTupN _ _ _, stable_isMemN _ _, stable_eqv _, stable_isNew _ _ _, stable_any, stable_eqv _, trivial⟩
  case hc => kernel_rfl
  case hfin =>
    intro v10 hs10
    rintro _ rfl _ rfl _ rfl _ rfl _ rfl _ rfl _ rfl _ rfl _ rfl _ rfl _ rfl _ rfl _ ⟨p12, rfl, h12⟩ _ ⟨p13, rfl, h13⟩ p14 h14 _ rfl _ ⟨bn16, rfl, hbn16, hBn16⟩ _ rfl
    obtain ⟨u1, u2, u3, u4, rfl, uw, ug⟩ := IsMem.opened h14
    rintro v10w ⟨o1, v1, ho1, hr1, rfl⟩
    cases ho1
    simp only [Act.put, List.setIfInBounds_toArray, List.set_cons_zero, List.set_cons_succ] at hr1 ⊢
    cases (hr1.symm.trans (o_store (v := .agg #[.slice u1 m1.W.length u2, .slice u3 m1.G.length u4, .bool m1.bad]) (new := #[.slice u1 m1.W.length u2, .slice u3 m1.G.length u4, .bool m1.bad]) rfl rfl rfl ((hBn16)) (by kernel_rfl) (by simp [Value.cells, Value.oneCell']) (by first | (simp [Value.cells]; done) | (simp [Value.cells]; omega)) (by first | rfl | kernel_rfl)))
    obtain ⟨w1, hw1⟩ : ∃ x, x = (put v10 bn16 (.cells #[.slice u1 m1.W.length u2, .slice u3 m1.G.length u4, .bool m1.bad] 50 (0, 0))) := ⟨_, rfl⟩
    have hW1 : Ext W10 v10 := Since.to_ext hs10
    have hb1 : Ext w w1 := by rw [hw1]; exact Since.to_ext ((Since.of_ext (hX10.trans hW1)).put (.inl (by have := hX10.size; omega)))
    have hk1 : Keep (Bx N w.heap.size (w.heap.size + 3)) w w1 := by rw [hw1]; exact ((hK10.ext hW1).put _ _ (.inl (by omega)))
    have hq1 : ∀ M v l, IsInts M v10 v l → IsInts M w1 v l := by intro M v l h; rw [hw1]; exact h.putNew hBn16 zero50
    have B0_1 : Box w1 (w.heap.size) #[.slice aw s.M.W.length cw, .slice ag s.M.G.length cg, .bool s.M.bad, .slice ac s.C.length cc, .slice al s.L.length cl] 83 := by rw [hw1]; exact (box_putOther (D0_10.since hs10 rfl) (by omega))
    have B1_1 : Box w1 (w.heap.size + 1) #[.int .i64 op, .int .i64 2, .int .i64 q0, .int .i64 q1, .int .i64 q2, .int .i64 q3, .int .i64 q4, .int .i64 q5, .int .i64 q6, .int .i64 q7, .slice ga fS.length gc] 95 := by rw [hw1]; exact (box_putOther (D1_10.since hs10 rfl) (by omega))
    have B2_1 : Box w1 (w.heap.size + 1 + 1) #[.slice none 0 0, .slice none 0 0, .bool false, .slice none 0 0, .slice none 0 0] 83 := by rw [hw1]; exact (box_putOther (D2_10.since hs10 rfl) (by omega))
    have BN10_16_1 : Box w1 (bn16) #[.slice u1 m1.W.length u2, .slice u3 m1.G.length u4, .bool m1.bad] 50 := by rw [hw1]; exact (hBn16).put
    have s1 : W10.heap.size ≤ w1.heap.size := by rw [hw1]; have := hW1.size; simpa [put] using this
    rw [← hw1]
    clear hw1
    obtain ⟨c0_0, c0_1, c0_2, c0_3, c0_4, d0_0, d0_1, d0_2, d0_3, d0_4⟩ := cells5 B0_1
    have z0 : w.heap.size < w1.heap.size := B0_1.lt
    obtain ⟨⟨c1_0, c1_1, c1_2, c1_3, c1_4, c1_5, c1_6, c1_7, c1_8, c1_9, c1_10⟩, d1_0, d1_1, d1_2, d1_3, d1_4, d1_5, d1_6, d1_7, d1_8, d1_9, d1_10⟩ := cells11 B1_1
    have z1 : w.heap.size + 1 < w1.heap.size := B1_1.lt
    obtain ⟨c2_0, c2_1, c2_2, c2_3, c2_4, d2_0, d2_1, d2_2, d2_3, d2_4⟩ := cells5 B2_1
    have z2 : w.heap.size + 1 + 1 < w1.heap.size := B2_1.lt
    obtain ⟨cN10_16_0, cN10_16_1, cN10_16_2, dN10_16_0, dN10_16_1, dN10_16_2⟩ := cells3 BN10_16_1
    have zN10_16 : bn16 < w1.heap.size := BN10_16_1.lt
    have mw := hq1 _ _ _ uw
    have mg := hq1 _ _ _ ug
    clear hq1
    go_wp2_with (fail)
    go_at_call 151
    refine (refOn_ (Bx N w.heap.size (w.heap.size + 3)) _ _ _ s id 0 m1 ⟨op, 2, [q0, q1, q2, q3, q4, q5, q6, q7], fS⟩ _ (IsSys.mk rfl (IsInts.keep hwB keq) (IsInts.keep hgB keq) (IsCores.keep hcB keq) (IsEvs.keep hlB keq) : IsSys (Bx N w.heap.size (w.heap.size + 3)) _ _ s) (IsMem.mk rfl (IsInts.keep mw keq) (IsInts.keep mg keq) : IsMem (Bx N w.heap.size (w.heap.size + 3)) _ _ m1) (IsFrame.ofLit (IsInts.keep fsB keq) : IsFrame _ _ _ ⟨op, 2, [q0, q1, q2, q3, q4, q5, q6, q7], fS⟩) (Bx.le hN (by first | omega | (simp <;> omega))) hC hFm).calls.mono ?_
    rintro e w2 ⟨_, rfl, hb2, hu2⟩
    obtain ⟨r1, r2, r3, r4, r5, r6, r7, r8, rfl, rW, rG, rC, rL⟩ := hu2.opened
    have B0_2 : Box w2 (w.heap.size) #[.slice aw s.M.W.length cw, .slice ag s.M.G.length cg, .bool s.M.bad, .slice ac s.C.length cc, .slice al s.L.length cl] 83 := B0_1.ext hb2
    have B1_2 : Box w2 (w.heap.size + 1) #[.int .i64 op, .int .i64 2, .int .i64 q0, .int .i64 q1, .int .i64 q2, .int .i64 q3, .int .i64 q4, .int .i64 q5, .int .i64 q6, .int .i64 q7, .slice ga fS.length gc] 95 := B1_1.ext hb2
    have B2_2 : Box w2 (w.heap.size + 1 + 1) #[.slice none 0 0, .slice none 0 0, .bool false, .slice none 0 0, .slice none 0 0] 83 := B2_1.ext hb2
    have BN10_16_2 : Box w2 (bn16) #[.slice u1 m1.W.length u2, .slice u3 m1.G.length u4, .bool m1.bad] 50 := BN10_16_1.ext hb2
    clear c0_0 c0_1 c0_2 c0_3 c0_4 d0_0 d0_1 d0_2 d0_3 d0_4 z0 c1_0 c1_1 c1_2 c1_3 c1_4 c1_5 c1_6 c1_7 c1_8 c1_9 c1_10 d1_0 d1_1 d1_2 d1_3 d1_4 d1_5 d1_6 d1_7 d1_8 d1_9 d1_10 z1 c2_0 c2_1 c2_2 c2_3 c2_4 d2_0 d2_1 d2_2 d2_3 d2_4 z2 cN10_16_0 cN10_16_1 cN10_16_2 dN10_16_0 dN10_16_1 dN10_16_2 zN10_16
    have s2 : w1.heap.size ≤ w2.heap.size := (by have h := hb2.size; first | omega | (simp at h; omega))
    obtain ⟨c0_0, c0_1, c0_2, c0_3, c0_4, d0_0, d0_1, d0_2, d0_3, d0_4⟩ := cells5 B0_2
    have z0 : w.heap.size < w2.heap.size := B0_2.lt
    obtain ⟨⟨c1_0, c1_1, c1_2, c1_3, c1_4, c1_5, c1_6, c1_7, c1_8, c1_9, c1_10⟩, d1_0, d1_1, d1_2, d1_3, d1_4, d1_5, d1_6, d1_7, d1_8, d1_9, d1_10⟩ := cells11 B1_2
    have z1 : w.heap.size + 1 < w2.heap.size := B1_2.lt
    obtain ⟨c2_0, c2_1, c2_2, c2_3, c2_4, d2_0, d2_1, d2_2, d2_3, d2_4⟩ := cells5 B2_2
    have z2 : w.heap.size + 1 + 1 < w2.heap.size := B2_2.lt
    obtain ⟨cN10_16_0, cN10_16_1, cN10_16_2, dN10_16_0, dN10_16_1, dN10_16_2⟩ := cells3 BN10_16_2
    have zN10_16 : bn16 < w2.heap.size := BN10_16_2.lt
    go_wp2
    exact bodyPost_ret (ret_cell (cs := #[.slice r1 (onS s id m1 ⟨op, 2, [q0, q1, q2, q3, q4, q5, q6, q7], fS⟩ 0).M.W.length r2, .slice r3 (onS s id m1 ⟨op, 2, [q0, q1, q2, q3, q4, q5, q6, q7], fS⟩ 0).M.G.length r4, .bool (onS s id m1 ⟨op, 2, [q0, q1, q2, q3, q4, q5, q6, q7], fS⟩ 0).M.bad, .slice r5 (onS s id m1 ⟨op, 2, [q0, q1, q2, q3, q4, q5, q6, q7], fS⟩ 0).C.length r6, .slice r7 (onS s id m1 ⟨op, 2, [q0, q1, q2, q3, q4, q5, q6, q7], fS⟩ 0).L.length r8]) (((((B2_2.setCell _).setCell _).setCell _).setCell _).setCell _) Proofs.Try.results155 rfl Proofs.Try.underlying83 rfl (by kernel_rfl)) rfl ⟨_, rfl, exn, IsSys.less (IsSys.keep hu2 keq) (fun _ _ hn => .inl hn)⟩
set_option maxHeartbeats 1000000 in
set_option maxRecDepth 100000 in
theorem refPush_o (N : Nat → Prop) (s : SysD) (id op pc q0 q1 q2 q3 q4 q5 q6 q7 : Int) (fS : List Int) (aw ag ac al ga : Option Addr) (cw cg cc cl gc : Nat) (w : World) (hw : IsInts N w (.slice aw s.M.W.length cw) s.M.W) (hg : IsInts N w (.slice ag s.M.G.length cg) s.M.G) (hc : IsCores N w (.slice ac s.C.length cc) s.C) (hl : IsEvs N w (.slice al s.L.length cl) s.L) (fs : IsInts N w (.slice ga fS.length gc) fS)
    (hN : ∀ b, N b → b < w.heap.size) (hC : s.C.length ≤ 100000) (hFm : ∀ (i : Nat) c, s.C[i]? = some c → c.F.length ≤ 100000) (hfit : Fits s.M) (p0 : (pc == 0) = false) (p1 : (pc == 1) = false) (p2 : (pc == 2) = false) (p3 : (pc != 0) = true) (p4 : (pc != 2) = true) :
    Gives Proofs.Try.prog 155 #[.agg #[.slice aw s.M.W.length cw, .slice ag s.M.G.length cg, .bool s.M.bad, .slice ac s.C.length cc, .slice al s.L.length cl], .int .i64 id, .agg #[.int .i64 op, .int .i64 pc, .int .i64 q0, .int .i64 q1, .int .i64 q2, .int .i64 q3, .int .i64 q4, .int .i64 q5, .int .i64 q6, .int .i64 q7, .slice ga fS.length gc]] w (fun r w' => IsSys N w' r (s)) := by
  have hwB := hw.bxn (hi := w.heap.size + 3)
  have hgB := hg.bxn (hi := w.heap.size + 3)
  have hcB := hc.bxn (hi := w.heap.size + 3)
  have hlB := hl.bxn (hi := w.heap.size + 3)
  have fsB := fs.bxn (hi := w.heap.size + 3)
  go_enter Proofs.Try.func155, Proofs.Try.ntmps155
  go_wp2
  exact bodyPost_ret (ret_cell (cs := #[.slice aw s.M.W.length cw, .slice ag s.M.G.length cg, .bool s.M.bad, .slice ac s.C.length cc, .slice al s.L.length cl]) (Box.newAt _ _ _ (by first | rfl | simp)) Proofs.Try.results155 rfl Proofs.Try.underlying83 rfl (by kernel_rfl)) rfl ⟨_, rfl, exn, IsSys.mk rfl (hw.ext exn) (hg.ext exn) (IsCores.keep hc (show Ext w _ from exn).keep) (IsEvs.keep hl (show Ext w _ from exn).keep)⟩
theorem refPop_ (N : Nat → Prop) (va vf : Value) (s : SysD) (id : Int) (f : FrameD) (w : World) (h : IsSys N w va s) (hf : IsFrame N w vf f) (hN : ∀ b, N b → b < w.heap.size) (hC : s.C.length ≤ 100000) (hFm : ∀ (i : Nat) c, s.C[i]? = some c → c.F.length ≤ 100000) (hfit : Fits s.M) (hL : s.L.length ≤ 99999) :
    Gives Proofs.Try.prog 154 #[va, .int .i64 id, vf] w (fun r w' => IsSys N w' r (popS s id f)) := by
  obtain ⟨aw, cw, ag, cg, ac, cc, al, cl, rfl, hw, hg, hc, hl⟩ := h.opened
  obtain ⟨op, pc, q0, q1, q2, q3, q4, q5, q6, q7, S, ga, gc, rfl, rfl, fs⟩ := hf.lit
  by_cases h0 : pc = 0
  · subst h0
    have e : popS s id ⟨op, 0, [q0, q1, q2, q3, q4, q5, q6, q7], S⟩ = if idx (loadD s.M 0) = 0 then backS (logD (memS s (touchD s.M 0)) id 9 0 0 0) id 0 2 else onS s id (touchD s.M 0) ⟨op, 0, [loadD s.M 0, q1, q2, q3, q4, q5, q6, q7], S⟩ 1 := rfl
    by_cases hi : idx (loadD s.M 0) = 0
    · rw [e, if_pos hi]
      exact refPop_z0 N s id op q0 q1 q2 q3 q4 q5 q6 q7 S aw ag ac al ga cw cg cc cl gc w hw hg hc hl fs hN hC hFm hfit hL (by simpa using hi)
    · rw [e, if_neg hi]
      exact refPop_n0 N s id op q0 q1 q2 q3 q4 q5 q6 q7 S aw ag ac al ga cw cg cc cl gc w hw hg hc hl fs hN hC hFm hfit (by simpa using hi)
  · by_cases h1 : pc = 1
    · subst h1
      exact refPop_1 N s id op q0 q1 q2 q3 q4 q5 q6 q7 S aw ag ac al ga cw cg cc cl gc w hw hg hc hl fs hN hC hFm hfit
    · by_cases h2 : pc = 2
      · subst h2
        have e : popS s id ⟨op, 2, [q0, q1, q2, q3, q4, q5, q6, q7], S⟩ = if casIs s.M 0 q0 then backS (memS s (turnMD (casD s.M 0 q0 (nextW q0 q1 0)) (idx q0) 1)) id (idx q0) 0 else onS s id (casD s.M 0 q0 (nextW q0 q1 0)) ⟨op, 2, [q0, q1, q2, q3, q4, q5, q6, q7], S⟩ 0 := rfl
        cases hcas : casIs s.M 0 q0 with
        | true =>
          rw [e, if_pos hcas]
          exact refPop_y2 N s id op q0 q1 q2 q3 q4 q5 q6 q7 S aw ag ac al ga cw cg cc cl gc w hw hg hc hl fs hN hC hFm hfit hcas (fits_cas hfit)
        | false =>
          rw [e, if_neg (by rw [hcas]; decide)]
          exact refPop_n2 N s id op q0 q1 q2 q3 q4 q5 q6 q7 S aw ag ac al ga cw cg cc cl gc w hw hg hc hl fs hN hC hFm hfit hcas
      · have e : popS s id ⟨op, pc, [q0, q1, q2, q3, q4, q5, q6, q7], S⟩ = s := by unfold popS; rw [if_neg h0, if_neg h1, if_neg h2]
        rw [e]
        exact refPop_o N s id op pc q0 q1 q2 q3 q4 q5 q6 q7 S aw ag ac al ga cw cg cc cl gc w hw hg hc hl fs hN hC hFm hfit (by simpa using h0) (by simpa using h1) (by simpa using h2) (by simpa using h0) (by simpa using h2)
theorem refPush_ (N : Nat → Prop) (va vf : Value) (s : SysD) (id : Int) (f : FrameD) (w : World) (h : IsSys N w va s) (hf : IsFrame N w vf f) (hN : ∀ b, N b → b < w.heap.size) (hC : s.C.length ≤ 100000) (hFm : ∀ (i : Nat) c, s.C[i]? = some c → c.F.length ≤ 100000) (hfit : Fits s.M) :
    Gives Proofs.Try.prog 155 #[va, .int .i64 id, vf] w (fun r w' => IsSys N w' r (pushS s id f)) := by
  obtain ⟨aw, cw, ag, cg, ac, cc, al, cl, rfl, hw, hg, hc, hl⟩ := h.opened
  obtain ⟨op, pc, q0, q1, q2, q3, q4, q5, q6, q7, S, ga, gc, rfl, rfl, fs⟩ := hf.lit
  by_cases h0 : pc = 0
  · subst h0
    exact refPush_n0 N s id op q0 q1 q2 q3 q4 q5 q6 q7 S aw ag ac al ga cw cg cc cl gc w hw hg hc hl fs hN hC hFm hfit
  · by_cases h1 : pc = 1
    · subst h1
      exact refPush_1 N s id op q0 q1 q2 q3 q4 q5 q6 q7 S aw ag ac al ga cw cg cc cl gc w hw hg hc hl fs hN hC hFm hfit
    · by_cases h2 : pc = 2
      · subst h2
        have e : pushS s id ⟨op, 2, [q0, q1, q2, q3, q4, q5, q6, q7], S⟩ = if casIs s.M 0 q1 then backS (memS s (turnMD (casD s.M 0 q1 (nextW q1 q0 0)) q0 0)) id q0 0 else onS s id (casD s.M 0 q1 (nextW q1 q0 0)) ⟨op, 2, [q0, q1, q2, q3, q4, q5, q6, q7], S⟩ 0 := rfl
        cases hcas : casIs s.M 0 q1 with
        | true =>
          rw [e, if_pos hcas]
          exact refPush_y2 N s id op q0 q1 q2 q3 q4 q5 q6 q7 S aw ag ac al ga cw cg cc cl gc w hw hg hc hl fs hN hC hFm hfit hcas (fits_cas hfit)
        | false =>
          rw [e, if_neg (by rw [hcas]; decide)]
          exact refPush_n2 N s id op q0 q1 q2 q3 q4 q5 q6 q7 S aw ag ac al ga cw cg cc cl gc w hw hg hc hl fs hN hC hFm hfit hcas
      · have e : pushS s id ⟨op, pc, [q0, q1, q2, q3, q4, q5, q6, q7], S⟩ = s := by unfold pushS; rw [if_neg h0, if_neg h1, if_neg h2]
        rw [e]
        exact refPush_o N s id op pc q0 q1 q2 q3 q4 q5 q6 q7 S aw ag ac al ga cw cg cc cl gc w hw hg hc hl fs hN hC hFm hfit (by simpa using h0) (by simpa using h1) (by simpa using h2) (by simpa using h0) (by simpa using h2)
set_option maxHeartbeats 1000000 in
set_option maxRecDepth 100000 in
theorem refStep4_none (N : Nat → Prop) (s : SysD) (id  : Int) (aw ag ac al : Option Addr) (cw cg cc cl : Nat) (w : World) (hw : IsInts N w (.slice aw s.M.W.length cw) s.M.W) (hg : IsInts N w (.slice ag s.M.G.length cg) s.M.G) (hc : IsCores N w (.slice ac s.C.length cc) s.C) (hl : IsEvs N w (.slice al s.L.length cl) s.L)
    (hN : ∀ b, N b → b < w.heap.size) (hC : s.C.length ≤ 100000) (hFm : ∀ (i : Nat) c, s.C[i]? = some c → c.F.length ≤ 100000) (hfit : Fits s.M) (hL : s.L.length ≤ 99999) (ht : topD s id = none)  :
    Gives Proofs.Try.prog 112 #[.agg #[.slice aw s.M.W.length cw, .slice ag s.M.G.length cg, .bool s.M.bad, .slice ac s.C.length cc, .slice al s.L.length cl], .int .i64 id] w (fun r w' => IsSys N w' r (s)) := by
  have hwB := hw.bxn (hi := w.heap.size + 2)
  have hgB := hg.bxn (hi := w.heap.size + 2)
  have hcB := hc.bxn (hi := w.heap.size + 2)
  have hlB := hl.bxn (hi := w.heap.size + 2)
  have h : IsSys N w (.agg #[.slice aw s.M.W.length cw, .slice ag s.M.G.length cg, .bool s.M.bad, .slice ac s.C.length cc, .slice al s.L.length cl]) s := IsSys.mk rfl hw hg hc hl
  have kt : ∀ w' : World, Ext w w' → Gives Proofs.Try.prog 82 #[.agg #[.slice aw s.M.W.length cw, .slice ag s.M.G.length cg, .bool s.M.bad, .slice ac s.C.length cc, .slice al s.L.length cl], .int .i64 id] w' (fun r w' => ∃ u, r = .tuple #[u, .bool (topD s id).isSome] ∧ IsFrame (Bx N w.heap.size (w.heap.size + 2)) w' u (topF s id)) := fun w' e => refTop_ (Bx N w.heap.size (w.heap.size + 2)) _ s id w' ((IsSys.bxn h).ext e)
  rw [show (topD s id).isSome = false by rw [ht]; rfl] at kt
  obtain ⟨tf, htf⟩ : ∃ f, topF s id = f := ⟨_, rfl⟩
  rw [htf] at kt
  clear htf
  clear ht h
  go_enter Proofs.Try.func112, Proofs.Try.ntmps112
  go_wp2_with (fail)
  go_at_call 82
  refine (kt _ exq).calls.mono ?_
  rintro e w1 ⟨_, rfl, hb1, u, rfl, hu1⟩
  obtain ⟨fa, fc, rfl, f8, fs1⟩ := hu1.opened
  have B0_1 : Box w1 (w.heap.size) #[.slice aw s.M.W.length cw, .slice ag s.M.G.length cg, .bool s.M.bad, .slice ac s.C.length cc, .slice al s.L.length cl] 83 := ((Box.newAt _ _ _ (by first | rfl | simp)).alloc _).ext hb1
  have B1_1 : Box w1 (w.heap.size + 1) #[.slice none 0 0, .slice none 0 0, .bool false, .slice none 0 0, .slice none 0 0] 83 := (Box.newAt _ _ _ (by first | rfl | simp)).ext hb1
  have s1 : w.heap.size + 2 ≤ w1.heap.size := (by have h := hb1.size; first | omega | (simp at h; omega))
  obtain ⟨c0_0, c0_1, c0_2, c0_3, c0_4, d0_0, d0_1, d0_2, d0_3, d0_4⟩ := cells5 B0_1
  have z0 : w.heap.size < w1.heap.size := B0_1.lt
  obtain ⟨c1_0, c1_1, c1_2, c1_3, c1_4, d1_0, d1_1, d1_2, d1_3, d1_4⟩ := cells5 B1_1
  have z1 : w.heap.size + 1 < w1.heap.size := B1_1.lt
  go_wp2
  exact bodyPost_ret (ret_cell (cs := #[.slice aw s.M.W.length cw, .slice ag s.M.G.length cg, .bool s.M.bad, .slice ac s.C.length cc, .slice al s.L.length cl]) ((((((B1_1.setCell _).setCell _).setCell _).setCell _).setCell _).alloc _) Proofs.Try.results112 rfl Proofs.Try.underlying83 rfl (by kernel_rfl)) rfl ⟨_, rfl, exn, IsSys.mk rfl (hw.ext exn) (hg.ext exn) (IsCores.keep hc (show Ext w _ from exn).keep) (IsEvs.keep hl (show Ext w _ from exn).keep)⟩
set_option maxHeartbeats 1000000 in
set_option maxRecDepth 100000 in
theorem refStep4_p1 (N : Nat → Prop) (s : SysD) (id pc q0 q1 q2 q3 q4 q5 q6 q7 : Int) (fS : List Int) (aw ag ac al : Option Addr) (cw cg cc cl : Nat) (w : World) (hw : IsInts N w (.slice aw s.M.W.length cw) s.M.W) (hg : IsInts N w (.slice ag s.M.G.length cg) s.M.G) (hc : IsCores N w (.slice ac s.C.length cc) s.C) (hl : IsEvs N w (.slice al s.L.length cl) s.L)
    (hN : ∀ b, N b → b < w.heap.size) (hC : s.C.length ≤ 100000) (hFm : ∀ (i : Nat) c, s.C[i]? = some c → c.F.length ≤ 100000) (hfit : Fits s.M) (hL : s.L.length ≤ 99999) (ht : topD s id = some ⟨1, pc, [q0, q1, q2, q3, q4, q5, q6, q7], fS⟩)  :
    Gives Proofs.Try.prog 112 #[.agg #[.slice aw s.M.W.length cw, .slice ag s.M.G.length cg, .bool s.M.bad, .slice ac s.C.length cc, .slice al s.L.length cl], .int .i64 id] w (fun r w' => IsSys N w' r (popS s id ⟨1, pc, [q0, q1, q2, q3, q4, q5, q6, q7], fS⟩)) := by
  have hwB := hw.bxn (hi := w.heap.size + 2)
  have hgB := hg.bxn (hi := w.heap.size + 2)
  have hcB := hc.bxn (hi := w.heap.size + 2)
  have hlB := hl.bxn (hi := w.heap.size + 2)
  have h : IsSys N w (.agg #[.slice aw s.M.W.length cw, .slice ag s.M.G.length cg, .bool s.M.bad, .slice ac s.C.length cc, .slice al s.L.length cl]) s := IsSys.mk rfl hw hg hc hl
  have kt : ∀ w' : World, Ext w w' → Gives Proofs.Try.prog 82 #[.agg #[.slice aw s.M.W.length cw, .slice ag s.M.G.length cg, .bool s.M.bad, .slice ac s.C.length cc, .slice al s.L.length cl], .int .i64 id] w' (fun r w' => ∃ u, r = .tuple #[u, .bool (topD s id).isSome] ∧ IsFrame (Bx N w.heap.size (w.heap.size + 2)) w' u (topF s id)) := fun w' e => refTop_ (Bx N w.heap.size (w.heap.size + 2)) _ s id w' ((IsSys.bxn h).ext e)
  rw [show (topD s id).isSome = true by rw [ht]; rfl] at kt
  rw [show topF s id = ⟨1, pc, [q0, q1, q2, q3, q4, q5, q6, q7], fS⟩ by unfold topF; rw [ht]; rfl] at kt
  clear ht h
  go_enter Proofs.Try.func112, Proofs.Try.ntmps112
  go_wp2_with (fail)
  go_at_call 82
  refine (kt _ exq).calls.mono ?_
  rintro e w1 ⟨_, rfl, hb1, u, rfl, hu1⟩
  obtain ⟨ga, gc, rfl, fs1⟩ := IsFrame.litv hu1
  have B0_1 : Box w1 (w.heap.size) #[.slice aw s.M.W.length cw, .slice ag s.M.G.length cg, .bool s.M.bad, .slice ac s.C.length cc, .slice al s.L.length cl] 83 := ((Box.newAt _ _ _ (by first | rfl | simp)).alloc _).ext hb1
  have B1_1 : Box w1 (w.heap.size + 1) #[.slice none 0 0, .slice none 0 0, .bool false, .slice none 0 0, .slice none 0 0] 83 := (Box.newAt _ _ _ (by first | rfl | simp)).ext hb1
  have s1 : w.heap.size + 2 ≤ w1.heap.size := (by have h := hb1.size; first | omega | (simp at h; omega))
  obtain ⟨c0_0, c0_1, c0_2, c0_3, c0_4, d0_0, d0_1, d0_2, d0_3, d0_4⟩ := cells5 B0_1
  have z0 : w.heap.size < w1.heap.size := B0_1.lt
  obtain ⟨c1_0, c1_1, c1_2, c1_3, c1_4, d1_0, d1_1, d1_2, d1_3, d1_4⟩ := cells5 B1_1
  have z1 : w.heap.size + 1 < w1.heap.size := B1_1.lt
  go_wp2_with (fail)
  go_at_call 154
  refine (refPop_ (Bx N w.heap.size (w.heap.size + 2)) _ _ s id ⟨1, pc, [q0, q1, q2, q3, q4, q5, q6, q7], fS⟩ _ (IsSys.mk rfl (IsInts.keep hwB keq) (IsInts.keep hgB keq) (IsCores.keep hcB keq) (IsEvs.keep hlB keq) : IsSys (Bx N w.heap.size (w.heap.size + 2)) _ _ s) (IsFrame.ofLit (IsInts.keep fs1 keq)) (Bx.le hN (by first | omega | (simp <;> omega))) hC hFm hfit hL).calls.mono ?_
  rintro e w2 ⟨_, rfl, hb2, hu2⟩
  obtain ⟨r1, r2, r3, r4, r5, r6, r7, r8, rfl, rW, rG, rC, rL⟩ := hu2.opened
  have B0_2 : Box w2 (w.heap.size) #[.slice aw s.M.W.length cw, .slice ag s.M.G.length cg, .bool s.M.bad, .slice ac s.C.length cc, .slice al s.L.length cl] 83 := (B0_1.alloc _).ext hb2
  have B1_2 : Box w2 (w.heap.size + 1) #[.slice none 0 0, .slice none 0 0, .bool false, .slice none 0 0, .slice none 0 0] 83 := (B1_1.alloc _).ext hb2
  have B2_2 : Box w2 (w1.heap.size) #[.int .i64 1, .int .i64 pc, .int .i64 q0, .int .i64 q1, .int .i64 q2, .int .i64 q3, .int .i64 q4, .int .i64 q5, .int .i64 q6, .int .i64 q7, .slice ga fS.length gc] 95 := (Box.newAt _ _ _ (by first | rfl | simp)).ext hb2
  clear c0_0 c0_1 c0_2 c0_3 c0_4 d0_0 d0_1 d0_2 d0_3 d0_4 z0 c1_0 c1_1 c1_2 c1_3 c1_4 d1_0 d1_1 d1_2 d1_3 d1_4 z1
  have s2 : w1.heap.size + 1 ≤ w2.heap.size := (by have h := hb2.size; first | omega | (simp at h; omega))
  obtain ⟨c0_0, c0_1, c0_2, c0_3, c0_4, d0_0, d0_1, d0_2, d0_3, d0_4⟩ := cells5 B0_2
  have z0 : w.heap.size < w2.heap.size := B0_2.lt
  obtain ⟨c1_0, c1_1, c1_2, c1_3, c1_4, d1_0, d1_1, d1_2, d1_3, d1_4⟩ := cells5 B1_2
  have z1 : w.heap.size + 1 < w2.heap.size := B1_2.lt
  obtain ⟨⟨c2_0, c2_1, c2_2, c2_3, c2_4, c2_5, c2_6, c2_7, c2_8, c2_9, c2_10⟩, d2_0, d2_1, d2_2, d2_3, d2_4, d2_5, d2_6, d2_7, d2_8, d2_9, d2_10⟩ := cells11 B2_2
  have z2 : w1.heap.size < w2.heap.size := B2_2.lt
  go_wp2
  exact bodyPost_ret (ret_cell (cs := #[.slice r1 (popS s id ⟨1, pc, [q0, q1, q2, q3, q4, q5, q6, q7], fS⟩).M.W.length r2, .slice r3 (popS s id ⟨1, pc, [q0, q1, q2, q3, q4, q5, q6, q7], fS⟩).M.G.length r4, .bool (popS s id ⟨1, pc, [q0, q1, q2, q3, q4, q5, q6, q7], fS⟩).M.bad, .slice r5 (popS s id ⟨1, pc, [q0, q1, q2, q3, q4, q5, q6, q7], fS⟩).C.length r6, .slice r7 (popS s id ⟨1, pc, [q0, q1, q2, q3, q4, q5, q6, q7], fS⟩).L.length r8]) (((((B1_2.setCell _).setCell _).setCell _).setCell _).setCell _) Proofs.Try.results112 rfl Proofs.Try.underlying83 rfl (by kernel_rfl)) rfl ⟨_, rfl, exn, IsSys.less (IsSys.keep hu2 keq) (fun _ _ hn => .inl hn)⟩
set_option maxHeartbeats 1000000 in
set_option maxRecDepth 100000 in
theorem refStep4_p2 (N : Nat → Prop) (s : SysD) (id pc q0 q1 q2 q3 q4 q5 q6 q7 : Int) (fS : List Int) (aw ag ac al : Option Addr) (cw cg cc cl : Nat) (w : World) (hw : IsInts N w (.slice aw s.M.W.length cw) s.M.W) (hg : IsInts N w (.slice ag s.M.G.length cg) s.M.G) (hc : IsCores N w (.slice ac s.C.length cc) s.C) (hl : IsEvs N w (.slice al s.L.length cl) s.L)
    (hN : ∀ b, N b → b < w.heap.size) (hC : s.C.length ≤ 100000) (hFm : ∀ (i : Nat) c, s.C[i]? = some c → c.F.length ≤ 100000) (hfit : Fits s.M) (hL : s.L.length ≤ 99999) (ht : topD s id = some ⟨2, pc, [q0, q1, q2, q3, q4, q5, q6, q7], fS⟩)  :
    Gives Proofs.Try.prog 112 #[.agg #[.slice aw s.M.W.length cw, .slice ag s.M.G.length cg, .bool s.M.bad, .slice ac s.C.length cc, .slice al s.L.length cl], .int .i64 id] w (fun r w' => IsSys N w' r (pushS s id ⟨2, pc, [q0, q1, q2, q3, q4, q5, q6, q7], fS⟩)) := by
  have hwB := hw.bxn (hi := w.heap.size + 2)
  have hgB := hg.bxn (hi := w.heap.size + 2)
  have hcB := hc.bxn (hi := w.heap.size + 2)
  have hlB := hl.bxn (hi := w.heap.size + 2)
  have h : IsSys N w (.agg #[.slice aw s.M.W.length cw, .slice ag s.M.G.length cg, .bool s.M.bad, .slice ac s.C.length cc, .slice al s.L.length cl]) s := IsSys.mk rfl hw hg hc hl
  have kt : ∀ w' : World, Ext w w' → Gives Proofs.Try.prog 82 #[.agg #[.slice aw s.M.W.length cw, .slice ag s.M.G.length cg, .bool s.M.bad, .slice ac s.C.length cc, .slice al s.L.length cl], .int .i64 id] w' (fun r w' => ∃ u, r = .tuple #[u, .bool (topD s id).isSome] ∧ IsFrame (Bx N w.heap.size (w.heap.size + 2)) w' u (topF s id)) := fun w' e => refTop_ (Bx N w.heap.size (w.heap.size + 2)) _ s id w' ((IsSys.bxn h).ext e)
  rw [show (topD s id).isSome = true by rw [ht]; rfl] at kt
  rw [show topF s id = ⟨2, pc, [q0, q1, q2, q3, q4, q5, q6, q7], fS⟩ by unfold topF; rw [ht]; rfl] at kt
  clear ht h
  go_enter Proofs.Try.func112, Proofs.Try.ntmps112
  go_wp2_with (fail)
  go_at_call 82
  refine (kt _ exq).calls.mono ?_
  rintro e w1 ⟨_, rfl, hb1, u, rfl, hu1⟩
  obtain ⟨ga, gc, rfl, fs1⟩ := IsFrame.litv hu1
  have B0_1 : Box w1 (w.heap.size) #[.slice aw s.M.W.length cw, .slice ag s.M.G.length cg, .bool s.M.bad, .slice ac s.C.length cc, .slice al s.L.length cl] 83 := ((Box.newAt _ _ _ (by first | rfl | simp)).alloc _).ext hb1
  have B1_1 : Box w1 (w.heap.size + 1) #[.slice none 0 0, .slice none 0 0, .bool false, .slice none 0 0, .slice none 0 0] 83 := (Box.newAt _ _ _ (by first | rfl | simp)).ext hb1
  have s1 : w.heap.size + 2 ≤ w1.heap.size := (by have h := hb1.size; first | omega | (simp at h; omega))
  obtain ⟨c0_0, c0_1, c0_2, c0_3, c0_4, d0_0, d0_1, d0_2, d0_3, d0_4⟩ := cells5 B0_1
  have z0 : w.heap.size < w1.heap.size := B0_1.lt
  obtain ⟨c1_0, c1_1, c1_2, c1_3, c1_4, d1_0, d1_1, d1_2, d1_3, d1_4⟩ := cells5 B1_1
  have z1 : w.heap.size + 1 < w1.heap.size := B1_1.lt
  go_wp2_with (fail)
  go_at_call 155
  refine (refPush_ (Bx N w.heap.size (w.heap.size + 2)) _ _ s id ⟨2, pc, [q0, q1, q2, q3, q4, q5, q6, q7], fS⟩ _ (IsSys.mk rfl (IsInts.keep hwB keq) (IsInts.keep hgB keq) (IsCores.keep hcB keq) (IsEvs.keep hlB keq) : IsSys (Bx N w.heap.size (w.heap.size + 2)) _ _ s) (IsFrame.ofLit (IsInts.keep fs1 keq)) (Bx.le hN (by first | omega | (simp <;> omega))) hC hFm hfit).calls.mono ?_
  rintro e w2 ⟨_, rfl, hb2, hu2⟩
  obtain ⟨r1, r2, r3, r4, r5, r6, r7, r8, rfl, rW, rG, rC, rL⟩ := hu2.opened
  have B0_2 : Box w2 (w.heap.size) #[.slice aw s.M.W.length cw, .slice ag s.M.G.length cg, .bool s.M.bad, .slice ac s.C.length cc, .slice al s.L.length cl] 83 := (B0_1.alloc _).ext hb2
  have B1_2 : Box w2 (w.heap.size + 1) #[.slice none 0 0, .slice none 0 0, .bool false, .slice none 0 0, .slice none 0 0] 83 := (B1_1.alloc _).ext hb2
  have B2_2 : Box w2 (w1.heap.size) #[.int .i64 2, .int .i64 pc, .int .i64 q0, .int .i64 q1, .int .i64 q2, .int .i64 q3, .int .i64 q4, .int .i64 q5, .int .i64 q6, .int .i64 q7, .slice ga fS.length gc] 95 := (Box.newAt _ _ _ (by first | rfl | simp)).ext hb2
  clear c0_0 c0_1 c0_2 c0_3 c0_4 d0_0 d0_1 d0_2 d0_3 d0_4 z0 c1_0 c1_1 c1_2 c1_3 c1_4 d1_0 d1_1 d1_2 d1_3 d1_4 z1
  have s2 : w1.heap.size + 1 ≤ w2.heap.size := (by have h := hb2.size; first | omega | (simp at h; omega))
  obtain ⟨c0_0, c0_1, c0_2, c0_3, c0_4, d0_0, d0_1, d0_2, d0_3, d0_4⟩ := cells5 B0_2
  have z0 : w.heap.size < w2.heap.size := B0_2.lt
  obtain ⟨c1_0, c1_1, c1_2, c1_3, c1_4, d1_0, d1_1, d1_2, d1_3, d1_4⟩ := cells5 B1_2
  have z1 : w.heap.size + 1 < w2.heap.size := B1_2.lt
  obtain ⟨⟨c2_0, c2_1, c2_2, c2_3, c2_4, c2_5, c2_6, c2_7, c2_8, c2_9, c2_10⟩, d2_0, d2_1, d2_2, d2_3, d2_4, d2_5, d2_6, d2_7, d2_8, d2_9, d2_10⟩ := cells11 B2_2
  have z2 : w1.heap.size < w2.heap.size := B2_2.lt
  go_wp2
  exact bodyPost_ret (ret_cell (cs := #[.slice r1 (pushS s id ⟨2, pc, [q0, q1, q2, q3, q4, q5, q6, q7], fS⟩).M.W.length r2, .slice r3 (pushS s id ⟨2, pc, [q0, q1, q2, q3, q4, q5, q6, q7], fS⟩).M.G.length r4, .bool (pushS s id ⟨2, pc, [q0, q1, q2, q3, q4, q5, q6, q7], fS⟩).M.bad, .slice r5 (pushS s id ⟨2, pc, [q0, q1, q2, q3, q4, q5, q6, q7], fS⟩).C.length r6, .slice r7 (pushS s id ⟨2, pc, [q0, q1, q2, q3, q4, q5, q6, q7], fS⟩).L.length r8]) (((((B1_2.setCell _).setCell _).setCell _).setCell _).setCell _) Proofs.Try.results112 rfl Proofs.Try.underlying83 rfl (by kernel_rfl)) rfl ⟨_, rfl, exn, IsSys.less (IsSys.keep hu2 keq) (fun _ _ hn => .inl hn)⟩
set_option maxHeartbeats 1000000 in
set_option maxRecDepth 100000 in
theorem refStep4_x (N : Nat → Prop) (s : SysD) (id op pc q0 q1 q2 q3 q4 q5 q6 q7 : Int) (fS : List Int) (aw ag ac al : Option Addr) (cw cg cc cl : Nat) (w : World) (hw : IsInts N w (.slice aw s.M.W.length cw) s.M.W) (hg : IsInts N w (.slice ag s.M.G.length cg) s.M.G) (hc : IsCores N w (.slice ac s.C.length cc) s.C) (hl : IsEvs N w (.slice al s.L.length cl) s.L)
    (hN : ∀ b, N b → b < w.heap.size) (hC : s.C.length ≤ 100000) (hFm : ∀ (i : Nat) c, s.C[i]? = some c → c.F.length ≤ 100000) (hfit : Fits s.M) (hL : s.L.length ≤ 99999) (ht : topD s id = some ⟨op, pc, [q0, q1, q2, q3, q4, q5, q6, q7], fS⟩) (o1 : (op == 1) = false) (o2 : (op == 2) = false) :
    Gives Proofs.Try.prog 112 #[.agg #[.slice aw s.M.W.length cw, .slice ag s.M.G.length cg, .bool s.M.bad, .slice ac s.C.length cc, .slice al s.L.length cl], .int .i64 id] w (fun r w' => IsSys N w' r (s)) := by
  have hwB := hw.bxn (hi := w.heap.size + 2)
  have hgB := hg.bxn (hi := w.heap.size + 2)
  have hcB := hc.bxn (hi := w.heap.size + 2)
  have hlB := hl.bxn (hi := w.heap.size + 2)
  have h : IsSys N w (.agg #[.slice aw s.M.W.length cw, .slice ag s.M.G.length cg, .bool s.M.bad, .slice ac s.C.length cc, .slice al s.L.length cl]) s := IsSys.mk rfl hw hg hc hl
  have kt : ∀ w' : World, Ext w w' → Gives Proofs.Try.prog 82 #[.agg #[.slice aw s.M.W.length cw, .slice ag s.M.G.length cg, .bool s.M.bad, .slice ac s.C.length cc, .slice al s.L.length cl], .int .i64 id] w' (fun r w' => ∃ u, r = .tuple #[u, .bool (topD s id).isSome] ∧ IsFrame (Bx N w.heap.size (w.heap.size + 2)) w' u (topF s id)) := fun w' e => refTop_ (Bx N w.heap.size (w.heap.size + 2)) _ s id w' ((IsSys.bxn h).ext e)
  rw [show (topD s id).isSome = true by rw [ht]; rfl] at kt
  rw [show topF s id = ⟨op, pc, [q0, q1, q2, q3, q4, q5, q6, q7], fS⟩ by unfold topF; rw [ht]; rfl] at kt
  clear ht h
  go_enter Proofs.Try.func112, Proofs.Try.ntmps112
  go_wp2_with (fail)
  go_at_call 82
  refine (kt _ exq).calls.mono ?_
  rintro e w1 ⟨_, rfl, hb1, u, rfl, hu1⟩
  obtain ⟨ga, gc, rfl, fs1⟩ := IsFrame.litv hu1
  have B0_1 : Box w1 (w.heap.size) #[.slice aw s.M.W.length cw, .slice ag s.M.G.length cg, .bool s.M.bad, .slice ac s.C.length cc, .slice al s.L.length cl] 83 := ((Box.newAt _ _ _ (by first | rfl | simp)).alloc _).ext hb1
  have B1_1 : Box w1 (w.heap.size + 1) #[.slice none 0 0, .slice none 0 0, .bool false, .slice none 0 0, .slice none 0 0] 83 := (Box.newAt _ _ _ (by first | rfl | simp)).ext hb1
  have s1 : w.heap.size + 2 ≤ w1.heap.size := (by have h := hb1.size; first | omega | (simp at h; omega))
  obtain ⟨c0_0, c0_1, c0_2, c0_3, c0_4, d0_0, d0_1, d0_2, d0_3, d0_4⟩ := cells5 B0_1
  have z0 : w.heap.size < w1.heap.size := B0_1.lt
  obtain ⟨c1_0, c1_1, c1_2, c1_3, c1_4, d1_0, d1_1, d1_2, d1_3, d1_4⟩ := cells5 B1_1
  have z1 : w.heap.size + 1 < w1.heap.size := B1_1.lt
  go_wp2
  exact bodyPost_ret (ret_cell (cs := #[.slice aw s.M.W.length cw, .slice ag s.M.G.length cg, .bool s.M.bad, .slice ac s.C.length cc, .slice al s.L.length cl]) ((((((B1_1.setCell _).setCell _).setCell _).setCell _).setCell _).alloc _) Proofs.Try.results112 rfl Proofs.Try.underlying83 rfl (by kernel_rfl)) rfl ⟨_, rfl, exn, IsSys.mk rfl (hw.ext exn) (hg.ext exn) (IsCores.keep hc (show Ext w _ from exn).keep) (IsEvs.keep hl (show Ext w _ from exn).keep)⟩
theorem refStep4_ (N : Nat → Prop) (va : Value) (s : SysD) (id : Int) (w : World) (h : IsSys N w va s) (hN : ∀ b, N b → b < w.heap.size) (hC : s.C.length ≤ 100000) (hFm : ∀ (i : Nat) c, s.C[i]? = some c → c.F.length ≤ 100000) (hfit : Fits s.M) (hL : s.L.length ≤ 99999) :
    Gives Proofs.Try.prog 112 #[va, .int .i64 id] w (fun r w' => IsSys N w' r (step4 s id)) := by
  have h8 := h.top8 (id := id)
  obtain ⟨aw, cw, ag, cg, ac, cc, al, cl, rfl, hw, hg, hc, hl⟩ := h.opened
  clear h
  cases ht : topD s id with
  | none =>
    have e : step4 s id = s := by unfold step4; rw [ht]
    rw [e]
    exact refStep4_none N s id aw ag ac al cw cg cc cl w hw hg hc hl hN hC hFm hfit hL ht
  | some f =>
    have h8' := h8 f ht
    obtain ⟨op, pc, R, S⟩ := f
    obtain ⟨q0, q1, q2, q3, q4, q5, q6, q7, rfl⟩ := list8 h8'
    clear h8 h8'
    by_cases h1 : op = 1
    · subst h1
      have e : step4 s id = popS s id ⟨1, pc, [q0, q1, q2, q3, q4, q5, q6, q7], S⟩ := by unfold step4; rw [ht]; rfl
      rw [e]
      exact refStep4_p1 N s id pc q0 q1 q2 q3 q4 q5 q6 q7 S aw ag ac al cw cg cc cl w hw hg hc hl hN hC hFm hfit hL ht
    · by_cases h2 : op = 2
      · subst h2
        have e : step4 s id = pushS s id ⟨2, pc, [q0, q1, q2, q3, q4, q5, q6, q7], S⟩ := by unfold step4; rw [ht]; rfl
        rw [e]
        exact refStep4_p2 N s id pc q0 q1 q2 q3 q4 q5 q6 q7 S aw ag ac al cw cg cc cl w hw hg hc hl hN hC hFm hfit hL ht
      · have e : step4 s id = s := by
          unfold step4; rw [ht]
          show (if op = 1 then _ else if op = 2 then _ else _) = _
          rw [if_neg h1, if_neg h2]
        rw [e]
        exact refStep4_x N s id op pc q0 q1 q2 q3 q4 q5 q6 q7 S aw ag ac al cw cg cc cl w hw hg hc hl hN hC hFm hfit hL ht (by simpa using h1) (by simpa using h2)
end Go.Proofs.Ytcfbdfgondmkoaa
