/- Texts of this work, put together: SpA, Log, Shown3, RdS. -/
import Derived.Test.YtcfbdfgondmkoaaM5
import Derived.Deep.RegionLaw
import Derived.Deep.RegionHeld3
/- append onto a slice of the call's own, as one step of a region that draws its order. -/
namespace Go.Proofs.Ytcfbdfgondmkoaa
open Go Go.RowKit
set_option linter.unusedSimpArgs false
set_option linter.unusedVariables false
set_option linter.unnecessarySimpa false

set_option maxRecDepth 100000 in
theorem step_append_osl {α : Type} {sz : Nat} {R : World → α → List Value → Prop} {N : Nat → Prop} {v vx : Value} {l1 l2 : List α} {t e : TypeId} {z : Value} {base : Nat} {ops : Array Oper} {o : Oper} {a : Act} {w : World} {K : Act → World → Prop} {Q : Exit → Act → World → Prop} {E : Prop}
    (hg : o.guard = none) (s x : Operand) (hop : o.op = Op.call { callee := Callee.builtin Builtin.append, args := #[s, x], argTypes := #[t, t] }) (hs : a.eval s = v) (hx : a.eval x = vx) (hT : RowType t e sz z) (hzs : z.cells.size = sz) (hsz : 0 < sz) (h1 : OwnSl sz e R base w v l1) (h2 : IsSl sz R N w vx l2)
    (hone : ∀ x cs, R w x cs → ∀ c ∈ cs, c.oneCell' = true) (hR : ∀ w', w.grownBy w' v.ownBlock → ∀ x cs, R w x cs → R w' x cs) (hl : l1.length + l2.length ≤ 100000) (hbase : base ≤ w.heap.size)
    (hK : ∀ a' c' w', OwnSl sz e R base w' (.slice a' (l1 ++ l2).length c') (l1 ++ l2) → w.grownBy w' v.ownBlock → K (a.put o.dst (.slice a' (l1 ++ l2).length c')) w') :
    if Region.wanted o (yielded ops a.tmps) = true then Oper.wp Proofs.Try.prog o a w K Q else E := by
  have hw : Region.wanted o (yielded ops a.tmps) = true := by simp [Region.wanted, hg]
  rw [if_pos hw]
  obtain ⟨a', c', w', hrun, r1, r2⟩ := run_append_osl (ty := o.type) hT hzs hsz h1 h2 hone hR hl hbase
  unfold Oper.wp execOp
  simp only [hop, resolve, invoke, builtin, Sem.run_bind, Sem.run_pure, Result.andThen_ok, List.map_toArray, List.map_cons, List.map_nil, hs, hx]
  erw [hrun]
  exact hK _ _ _ r1 r2
end Go.Proofs.Ytcfbdfgondmkoaa
/- An event that is told, as the document has it. -/
namespace Go.Proofs.Ytcfbdfgondmkoaa
open Go Go.RowKit
set_option linter.unusedSimpArgs false
set_option linter.unusedVariables false
set_option linter.unnecessarySimpa false

theorem Box.drew' {w : World} {b : Nat} {cs : Array Value} {t : TypeId} (h : Box w b cs t) : Box w.drew b cs t := h.ext (Ext.drew w)
theorem IsSl.extE {N : Nat → Prop} {w w' : World} {v : Value} {l : List EvD} (h : IsSl 5 RE N w v l) (e : Ext w w') : IsSl 5 RE N w' v l := IsEvs.keep h e.keep
theorem OwnSl.extE {base : Nat} {w w' : World} {v : Value} {l : List EvD} (h : OwnSl 5 108 RE base w v l) (e : Ext w w') : OwnSl 5 108 RE base w' v l := h.keep (N := no) e.keep (fun _ _ h => h) (fun _ _ h => h)
set_option maxRecDepth 100000 in
theorem step_evs {ops : Array Oper} {o : Oper} {a : Act} {w : World} {K : Act → World → Prop} {Q : Exit → Act → World → Prop} {E : Prop}
    (hg : o.guard = none) (s x : Operand) (hop : o.op = Op.call { callee := Callee.builtin Builtin.append, args := #[s, x], argTypes := #[81, 81] }) (v vx : Value) (l1 l2 : List EvD) (base : Nat) (N : Nat → Prop) (hs : a.eval s = v) (hx : a.eval x = vx)
    (h1 : OwnSl 5 108 RE base w v l1) (h2 : IsSl 5 RE N w vx l2) (hl : l1.length + l2.length ≤ 100000) (hbase : base ≤ w.heap.size)
    (hK : ∀ a' c' w', OwnSl 5 108 RE base w' (.slice a' (l1 ++ l2).length c') (l1 ++ l2) → w.grownBy w' v.ownBlock → K (a.put o.dst (.slice a' (l1 ++ l2).length c')) w') :
    if Region.wanted o (yielded ops a.tmps) = true then Oper.wp Proofs.Try.prog o a w K Q else E :=
  step_append_osl hg s x hop hs hx rowE zs5 (by decide) h1 h2 one_ev (fun _ _ _ _ h => h) hl hbase hK
theorem own_ne {g b n c : Nat} (h : g ≠ b) : (Value.slice (some ⟨g, 0, none⟩) n c).ownBlock ≠ some b := fun e => h (by injection e)
theorem Box.grown {w w' : World} {row : Option Nat} {b : Nat} {cs : Array Value} {t : TypeId} (g : w.grownBy w' row) (h : Box w b cs t) (hn : row ≠ some b) : Box w' b cs t := h.keep (grown_keep g (fun k e => e) : Keep (fun b => row = some b) w w') (fun e => hn e)
set_option maxHeartbeats 1000000 in
set_option maxRecDepth 100000 in
theorem refLog_ (N : Nat → Prop) (va : Value) (s : SysD) (id kind a b v k0 : Int) (w : World) (h : IsSys N w va s) (hN : ∀ b, N b → b < w.heap.size) (hL : s.L.length ≤ 99999) :
    Gives Proofs.Try.prog 91 #[va, .int .i64 id, .agg #[.int .i64 k0, .int .i64 kind, .int .i64 a, .int .i64 b, .int .i64 v]] w (fun r w' => IsSys N w' r (logD s id kind a b v)) := by
  obtain ⟨aw, cw, ag, cg, ac, cc, al, cl, rfl, hw, hg, hc, hl⟩ := h.opened
  cases hh : hasD s id
  · have hd : logD s id kind a b v = s := by simp [logD, hh]
    rw [hd]
    by_cases h0 : id < 0
    · skip
      go_enter Proofs.Try.func91, Proofs.Try.ntmps91
      go_wp2
      exact bodyPost_ret (ret_cell (cs := #[.slice aw s.M.W.length cw, .slice ag s.M.G.length cg, .bool s.M.bad, .slice ac s.C.length cc, .slice al s.L.length cl]) (Box.newAt _ _ _ (by first | rfl | simp)) Proofs.Try.results91 rfl Proofs.Try.underlying83 rfl (by kernel_rfl)) rfl ⟨_, rfl, exn, IsSys.mk rfl (hw.keep keq) (hg.keep keq) (IsCores.keep hc keq) (IsEvs.keep hl keq)⟩
    · have h1 : (s.C.length : Int) ≤ id := by simp [hasD] at hh; omega
      go_enter Proofs.Try.func91, Proofs.Try.ntmps91
      go_wp2
      exact bodyPost_ret (ret_cell (cs := #[.slice aw s.M.W.length cw, .slice ag s.M.G.length cg, .bool s.M.bad, .slice ac s.C.length cc, .slice al s.L.length cl]) (Box.newAt _ _ _ (by first | rfl | simp)) Proofs.Try.results91 rfl Proofs.Try.underlying83 rfl (by kernel_rfl)) rfl ⟨_, rfl, exn, IsSys.mk rfl (hw.keep keq) (hg.keep keq) (IsCores.keep hc keq) (IsEvs.keep hl keq)⟩
  · have hd : logD s id kind a b v = { s with L := s.L ++ [⟨id, kind, a, b, v⟩] } := by simp [logD, hh]
    rw [hd]
    have h0 : ¬ id < 0 := by simp [hasD] at hh; omega
    have h1 : ¬ (s.C.length : Int) ≤ id := by simp [hasD] at hh; omega
    clear hd hh
    go_enter Proofs.Try.func91, Proofs.Try.ntmps91
    go_wp2_with (fail)
    obtain ⟨W, hW⟩ : ∃ x, x = (((w.alloc (.cells #[.slice aw s.M.W.length cw, .slice ag s.M.G.length cg, .bool s.M.bad, .slice ac s.C.length cc, .slice al s.L.length cl] 83 (0, 0))).alloc (.cells #[.int .i64 id, .int .i64 kind, .int .i64 a, .int .i64 b, .int .i64 v] 108 (0, 0))).alloc (.cells #[.slice none 0 0, .slice none 0 0, .bool false, .slice none 0 0, .slice none 0 0] 83 (0, 0))) := ⟨_, rfl⟩
    have bS : Box W w.heap.size #[.slice aw s.M.W.length cw, .slice ag s.M.G.length cg, .bool s.M.bad, .slice ac s.C.length cc, .slice al s.L.length cl] 83 := by rw [hW]; exact (((Box.newAt _ _ _ (by first | rfl | simp)).alloc _).alloc _)
    have bE : Box W (w.heap.size + 1) #[.int .i64 id, .int .i64 kind, .int .i64 a, .int .i64 b, .int .i64 v] 108 := by rw [hW]; exact ((Box.newAt _ _ _ (by first | rfl | simp)).alloc _)
    have bR : Box W (w.heap.size + 2) #[.slice none 0 0, .slice none 0 0, .bool false, .slice none 0 0, .slice none 0 0] 83 := by rw [hW]; exact (Box.newAt _ _ _ (by first | rfl | simp))
    have XW : Ext w W := by rw [hW]; exact exq
    have sW : w.heap.size + 3 ≤ W.heap.size := by rw [hW]; simp
    have hlW := IsSl.extE hl XW
    rw [← hW]
    clear hW
    obtain ⟨p0, p1, p2, p3, p4, d0, d1, d2, d3, d4⟩ := cells5 bS
    obtain ⟨r0, r1, r2, r3, r4, e0, e1, e2, e3, e4⟩ := cells5 bE
    obtain ⟨t0, t1, t2, t3, t4, f0, f1, f2, f3, f4⟩ := cells5 bR
    have z0 : w.heap.size < W.heap.size := by omega
    have z1 : w.heap.size + 1 < W.heap.size := by omega
    have z2 : w.heap.size + 2 < W.heap.size := by omega
    have held : ∀ w', Keep (fun b => b = w.heap.size + 2) W w' → w'.cell? ⟨w.heap.size, 0, none⟩ = some (.slice aw s.M.W.length cw) ∧ w'.cell? ⟨w.heap.size, 1, none⟩ = some (.slice ag s.M.G.length cg) ∧ w'.cell? ⟨w.heap.size, 2, none⟩ = some (.bool s.M.bad) ∧ w'.cell? ⟨w.heap.size, 3, none⟩ = some (.slice ac s.C.length cc) ∧ w'.cell? ⟨w.heap.size, 4, none⟩ = some (.slice al s.L.length cl) ∧ w'.cell? ⟨(w.heap.size + 1), 0, none⟩ = some (.int .i64 id) ∧ w'.cell? ⟨(w.heap.size + 1), 1, none⟩ = some (.int .i64 kind) ∧ w'.cell? ⟨(w.heap.size + 1), 2, none⟩ = some (.int .i64 a) ∧ w'.cell? ⟨(w.heap.size + 1), 3, none⟩ = some (.int .i64 b) ∧ w'.cell? ⟨(w.heap.size + 1), 4, none⟩ = some (.int .i64 v) := by
      intro w' k
      have h1 := cells5 (bS.keep k (by omega))
      have h2 := cells5 (bE.keep k (by omega))
      exact ⟨h1.1, h1.2.1, h1.2.2.1, h1.2.2.2.1, h1.2.2.2.2.1, h2.1, h2.2.1, h2.2.2.1, h2.2.2.2.1, h2.2.2.2.2.1⟩
    go_region_held3 (fun w' => w'.cell? ⟨w.heap.size, 0, none⟩ = some (.slice aw s.M.W.length cw) ∧ w'.cell? ⟨w.heap.size, 1, none⟩ = some (.slice ag s.M.G.length cg) ∧ w'.cell? ⟨w.heap.size, 2, none⟩ = some (.bool s.M.bad) ∧ w'.cell? ⟨w.heap.size, 3, none⟩ = some (.slice ac s.C.length cc) ∧ w'.cell? ⟨w.heap.size, 4, none⟩ = some (.slice al s.L.length cl) ∧ w'.cell? ⟨(w.heap.size + 1), 0, none⟩ = some (.int .i64 id) ∧ w'.cell? ⟨(w.heap.size + 1), 1, none⟩ = some (.int .i64 kind) ∧ w'.cell? ⟨(w.heap.size + 1), 2, none⟩ = some (.int .i64 a) ∧ w'.cell? ⟨(w.heap.size + 1), 3, none⟩ = some (.int .i64 b) ∧ w'.cell? ⟨(w.heap.size + 1), 4, none⟩ = some (.int .i64 v)) (exact held _ (by with_reducible (repeat (first | assumption | exact Keep.refl _ _ | refine Keep.alloc ?_ _ | refine Keep.drew ?_ | refine Keep.s ?_ rfl)))) (first | (refine step_evs rfl (.tmp 23) (.tmp 25) rfl (.slice (some ⟨_, 0, none⟩) 0 0) (.slice al s.L.length cl) [] s.L W.heap.size N rfl rfl (OwnSl.nil (by with_reducible (repeat (first | exact Box.newAt _ _ _ rfl | exact Box.newAt _ _ _ (by simp) | refine Box.alloc ?_ _ | refine Box.drew ?_ | refine Box.grown g26 ?_ (own_ne (by first | omega | (simp; done) | (simp; omega)))))) (by first | exact Nat.le_refl _ | (simp; done) | (simp; omega) | omega)) (IsSl.extE hlW exq) (by simp; omega) (by first | exact Nat.le_refl _ | (simp; done) | (simp; omega) | omega) ?_; intro a26 c26 w26 h26 g26; have X26 : Ext W w26 := grown_ext g26 exq (fun k e => by cases e; exact (by first | exact Nat.le_refl _ | (simp; done) | (simp; omega) | omega)); have k26 : Keep (fun b => b = w.heap.size + 2) W w26 := X26.keep; have x26 : W.heap.size ≤ w26.heap.size := k26.1) | (refine step_evs rfl (.tmp 26) (.tmp 28) rfl (.slice a26 ([] ++ s.L).length c26) (.slice (some ⟨_, 0, none⟩) 1 1) ([] ++ s.L) [(⟨id, kind, a, b, v⟩ : EvD)] W.heap.size no rfl rfl (OwnSl.extE h26 exq) (IsSl.one (cs := [.int .i64 id, .int .i64 kind, .int .i64 a, .int .i64 b, .int .i64 v]) (e := 108) (x := (⟨id, kind, a, b, v⟩ : EvD)) (by with_reducible (repeat (first | exact Box.newAt _ _ _ rfl | exact Box.newAt _ _ _ (by simp) | refine Box.alloc ?_ _ | refine Box.drew ?_ | refine Box.grown g26 ?_ (own_ne (by first | omega | (simp; done) | (simp; omega)))))) rfl rfl) (by simp; omega) (by first | exact Nat.le_refl _ | (simp; done) | (simp; omega) | omega) ?_; intro a29 c29 w29 h29 g29; have X29 : Ext W w29 := grown_ext g29 exq (fun k e => h26.base k e); have k29 : Keep (fun b => b = w.heap.size + 2) W w29 := X29.keep; have x29 : W.heap.size ≤ w29.heap.size := k29.1; have bR29 := bR.ext X29; have ⟨t0, t1, t2, t3, t4, f0, f1, f2, f3, f4⟩ := cells5 bR29; have hlE : IsSl 5 RE (Bx N (w.heap.size + 2) (w.heap.size + 3)) w29 (.slice a29 (([] ++ s.L) ++ [(⟨id, kind, a, b, v⟩ : EvD)]).length c29) (s.L ++ [(⟨id, kind, a, b, v⟩ : EvD)]) := h29.sl (fun b hb hn => hn.elim (fun q => by have := hN b q; omega) (fun q => by omega))))
    all_goals
      have kw : Ext w w29 := XW.trans X29
      simp only [List.nil_append, List.length_append, List.length_cons, List.length_nil, Nat.zero_add] at hlE
      go_wp2
      exact bodyPost_ret (ret_cell (cs := #[.slice aw s.M.W.length cw, .slice ag s.M.G.length cg, .bool s.M.bad, .slice ac s.C.length cc, .slice a29 (s.L.length + 1) c29]) (((((bR29.setCell _).setCell _).setCell _).setCell _).setCell _) Proofs.Try.results91 rfl Proofs.Try.underlying83 rfl (by kernel_rfl)) rfl ⟨_, rfl, exn, IsSys.mk (s := { s with L := s.L ++ [(⟨id, kind, a, b, v⟩ : EvD)] }) rfl (hw.keep keq) (hg.keep keq) (IsCores.keep hc keq) (IsEvs.less (IsEvs.keep hlE keq) (fun _ _ h => .inl h))⟩
end Go.Proofs.Ytcfbdfgondmkoaa
/- Chapter 3: the document's example. -/
namespace Go.Proofs.Ytcfbdfgondmkoaa
open Go Go.RowKit
set_option linter.unusedSimpArgs false
set_option linter.unusedVariables false
set_option linter.unnecessarySimpa false

@[go_sem] theorem run_eqE2 (a0 a1 a2 a3 a4 b0 b1 b2 b3 b4 : Int) (w : World) : (Op.equalIn 10000 108 (.agg #[.int .i64 a0, .int .i64 a1, .int .i64 a2, .int .i64 a3, .int .i64 a4]) (.agg #[.int .i64 b0, .int .i64 b1, .int .i64 b2, .int .i64 b3, .int .i64 b4])).run Proofs.Try.prog w = .ok (sameE ⟨a0, a1, a2, a3, a4⟩ ⟨b0, b1, b2, b3, b4⟩) w :=
  run_eqE ⟨a0, a1, a2, a3, a4⟩ ⟨b0, b1, b2, b3, b4⟩ w
theorem IsSys.lit {N : Nat → Prop} {w : World} {v : Value} {s : SysD} (h : IsSys N w v s) {a b n m : Nat} {d : Bool} (h1 : s.M.W.length = a) (h2 : s.M.G.length = b) (h3 : s.M.bad = d) (h4 : s.C.length = n) (h5 : s.L.length = m) :
    ∃ aw cw ag cg ac cc al cl, v = .agg #[.slice aw a cw, .slice ag b cg, .bool d, .slice ac n cc, .slice al m cl] ∧ IsInts N w (.slice aw a cw) s.M.W ∧ IsInts N w (.slice ag b cg) s.M.G ∧ IsCores N w (.slice ac n cc) s.C ∧ IsEvs N w (.slice al m cl) s.L := by
  subst h1 h2 h3 h4 h5
  exact h.opened
def x0 : SysD := newS 2 3
def x1 : SysD := callS x0 1 3 [7]
def g4 : FrameD := ⟨4, 0, List.replicate 8 0, []⟩
def x2 : SysD := setS x1 1 g4
def x3 : SysD := backS x1 1 8 3
def x4 : SysD := logD x0 0 1 2 3 4
def y1 : FrameD := topF x1 1
def y2 : FrameD := topF x2 1
def y3 : FrameD := topF x3 1
def k31 : CoreD := (x3.C[1]?).getD core0
theorem x0W : x0.M.W.length = 140 := by kernel_rfl
theorem x0G : x0.M.G.length = 4 := by kernel_rfl
theorem x0B : x0.M.bad = false := by kernel_rfl
theorem x0C : x0.C.length = 2 := by kernel_rfl
theorem x0L : x0.L.length = 0 := by kernel_rfl
theorem x1W : x1.M.W.length = 140 := by kernel_rfl
theorem x1G : x1.M.G.length = 4 := by kernel_rfl
theorem x1B : x1.M.bad = false := by kernel_rfl
theorem x1C : x1.C.length = 2 := by kernel_rfl
theorem x1L : x1.L.length = 0 := by kernel_rfl
theorem x2W : x2.M.W.length = 140 := by kernel_rfl
theorem x2G : x2.M.G.length = 4 := by kernel_rfl
theorem x2B : x2.M.bad = false := by kernel_rfl
theorem x2C : x2.C.length = 2 := by kernel_rfl
theorem x2L : x2.L.length = 0 := by kernel_rfl
theorem x3W : x3.M.W.length = 140 := by kernel_rfl
theorem x3G : x3.M.G.length = 4 := by kernel_rfl
theorem x3B : x3.M.bad = false := by kernel_rfl
theorem x3C : x3.C.length = 2 := by kernel_rfl
theorem x3L : x3.L.length = 0 := by kernel_rfl
theorem x4W : x4.M.W.length = 140 := by kernel_rfl
theorem x4G : x4.M.G.length = 4 := by kernel_rfl
theorem x4B : x4.M.bad = false := by kernel_rfl
theorem x4C : x4.C.length = 2 := by kernel_rfl
theorem x4L : x4.L.length = 1 := by kernel_rfl
theorem x1F : ∀ (i : Nat) c, x1.C[i]? = some c → c.F.length ≤ 100000 := fun i c hi => by
  have h : (x1.C.all fun c => decide (c.F.length ≤ 100000)) = true := by kernel_rfl
  have := List.all_eq_true.1 h c (List.mem_of_getElem? hi)
  simpa using this
theorem x31 : x3.C[1]? = some k31 := by kernel_rfl
theorem k31V : k31.V = 8 := by kernel_rfl
theorem k31E : k31.E = 3 := by kernel_rfl
theorem x40 : x4.L[0]? = some ⟨0, 1, 2, 3, 4⟩ := by kernel_rfl
theorem y1op : y1.op = 3 := by kernel_rfl
theorem y1R : gi y1.R 0 = 7 := by kernel_rfl
theorem y2op : y2.op = 4 := by kernel_rfl
theorem is1 : (topD x1 1).isSome = true := by kernel_rfl
theorem is2 : (topD x2 1).isSome = true := by kernel_rfl
theorem is3 : (topD x3 1).isSome = false := by kernel_rfl
theorem ok0 : newSE 2 3 = 0 := by kernel_rfl
theorem r3 : rightS x3 = true := by kernel_rfl
theorem s03 : sameS x0 x3 = false := by kernel_rfl
theorem e44 : sameE ⟨0, 1, 2, 3, 4⟩ ⟨0, 1, 2, 3, 4⟩ = true := by kernel_rfl
theorem g4_frame (N : Nat → Prop) (w : World) : IsFrame N w (.agg #[.int .i64 4, .int .i64 0, .int .i64 0, .int .i64 0, .int .i64 0, .int .i64 0, .int .i64 0, .int .i64 0, .int .i64 0, .int .i64 0, .slice none 0 0]) g4 :=
  ⟨_, rfl, rfl, .slice none 0 0, rfl, none, 0, rfl, by simp [g4], by omega, fun _ => rfl, fun i hi => by simp [g4] at hi⟩
theorem one_int {w : World} {b : Nat} {x : Int} {t : TypeId} (h : Box w b #[.int .i64 x] t) : IsInts no w (.slice (some ⟨b, 0, none⟩) 1 1) [x] :=
  ⟨_, _, rfl, by simp, by omega, fun e => (by cases e), fun i hi => ⟨b, 0, rfl, h.lt, id, by
    obtain rfl : i = 0 := by simpa using hi
    exact h.cell rfl⟩⟩
set_option maxHeartbeats 4000000 in
set_option maxRecDepth 100000 in
theorem shown3_ (w : World) : Gives Proofs.Try.prog 73 #[] w (eqv (.bool true)) := by
  go_enter Proofs.Try.func73, Proofs.Try.ntmps73
  go_wp2_with (fail)
  go_at_call 75
  refine (sysNew_ no 2 3 _ no_lt).calls.mono ?_
  rintro e w1 ⟨_, rfl, hb1, u, rfl, hus0⟩
  rw [ok0]
  have hus : IsSys no w1 _ x0 := hus0
  obtain ⟨s1, s2, s3, s4, s5, s6, s7, s8, rfl, sw, sg, sc, sl⟩ := hus.lit x0W x0G x0B x0C x0L
  have Bi0 := Box.two w1 #[.slice s1 140 s2, .slice s3 4 s4, .bool false, .slice s5 2 s6, .slice s7 0 s8] #[.int .i64 7] 83 3
  go_wp2_with (fail)
  go_at_call 84
  refine (call_ no _ _ x0 1 3 [7] _ ((IsSys.mk x0B.symm sw sg sc sl : IsSys no w1 (.agg #[.slice s1 140 s2, .slice s3 4 s4, .bool false, .slice s5 2 s6, .slice s7 0 s8]) x0).ext exq) (one_int Bi0) no_lt (by rw [x0C]; decide) (by decide)).calls.mono ?_
  rintro e w2 ⟨_, rfl, hb2, huc0⟩
  have huc : IsSys no w2 _ x1 := huc0
  obtain ⟨c1, c2, c3, c4, c5, c6, c7, c8, rfl, cw, cg, cc, cl⟩ := huc.lit x1W x1G x1B x1C x1L
  have Bs_2 : Box w2 (w1.heap.size) #[.slice s1 140 s2, .slice s3 4 s4, .bool false, .slice s5 2 s6, .slice s7 0 s8] 83 := ((Box.new _ _ _).alloc _).ext hb2
  have Bi_2 : Box w2 (w1.heap.size + 1) #[.int .i64 7] 3 := (Box.two _ _ _ _ _).ext hb2
  obtain ⟨cs0, cs1, cs2, cs3, cs4, ds0, ds1, ds2, ds3, ds4⟩ := cells5 Bs_2
  have zs : w1.heap.size < w2.heap.size := Bs_2.lt
  obtain ⟨ci0, di0⟩ := cells1 Bi_2
  have zi : w1.heap.size + 1 < w2.heap.size := Bi_2.lt
  go_wp2_with (fail)
  go_at_call 81
  refine (top_ no _ x1 1 _ ((IsSys.mk x1B.symm cw cg cc cl : IsSys no w2 (.agg #[.slice c1 140 c2, .slice c3 4 c4, .bool false, .slice c5 2 c6, .slice c7 0 c8]) x1).ext exq)).calls.mono ?_
  rintro e w3 ⟨_, rfl, hb3, u, rfl, huf0⟩
  rw [is1]
  have huf : IsFrame no w3 u y1 := huf0
  obtain ⟨fa, fb, rfl, f8, fs⟩ := huf.opened
  rw [y1op, y1R]
  have Bs_3 := Bs_2.ext (show Ext w2 w3 from exq)
  have Bi_3 := Bi_2.ext (show Ext w2 w3 from exq)
  clear Bs_2 cs0 cs1 cs2 cs3 cs4 ds0 ds1 ds2 ds3 ds4 Bi_2 ci0 di0
  have Bc_3 : Box w3 (w2.heap.size) #[.slice c1 140 c2, .slice c3 4 c4, .bool false, .slice c5 2 c6, .slice c7 0 c8] 83 := (Box.new _ _ _).ext hb3
  obtain ⟨cs0, cs1, cs2, cs3, cs4, ds0, ds1, ds2, ds3, ds4⟩ := cells5 Bs_3
  have zs : w1.heap.size < w3.heap.size := Bs_3.lt
  obtain ⟨ci0, di0⟩ := cells1 Bi_3
  have zi : w1.heap.size + 1 < w3.heap.size := Bi_3.lt
  obtain ⟨cc0, cc1, cc2, cc3, cc4, dc0, dc1, dc2, dc3, dc4⟩ := cells5 Bc_3
  have zc : w2.heap.size < w3.heap.size := Bc_3.lt
  go_wp2_with (fail)
  go_at_call 85
  refine (set_ no _ _ x1 1 g4 _ ((IsSys.mk x1B.symm cw cg cc cl : IsSys no w2 (.agg #[.slice c1 140 c2, .slice c3 4 c4, .bool false, .slice c5 2 c6, .slice c7 0 c8]) x1).ext exq) (g4_frame no _) no_lt (by rw [x1C]; decide) x1F).calls.mono ?_
  rintro e w4 ⟨_, rfl, hb4, hug0⟩
  have hug : IsSys no w4 _ x2 := hug0
  obtain ⟨g1, g2, g3, g4, g5, g6, g7, g8, rfl, gw, gg, gc, gl⟩ := hug.lit x2W x2G x2B x2C x2L
  have Bs_4 := Bs_3.ext (show Ext w3 w4 from exq)
  have Bi_4 := Bi_3.ext (show Ext w3 w4 from exq)
  have Bc_4 := Bc_3.ext (show Ext w3 w4 from exq)
  clear Bs_3 cs0 cs1 cs2 cs3 cs4 ds0 ds1 ds2 ds3 ds4 Bi_3 ci0 di0 Bc_3 cc0 cc1 cc2 cc3 cc4 dc0 dc1 dc2 dc3 dc4
  have Bf_4 : Box w4 (w3.heap.size) #[.int .i64 3, .int .i64 y1.pc, .int .i64 7, .int .i64 (gi y1.R 1), .int .i64 (gi y1.R 2), .int .i64 (gi y1.R 3), .int .i64 (gi y1.R 4), .int .i64 (gi y1.R 5), .int .i64 (gi y1.R 6), .int .i64 (gi y1.R 7), .slice fa y1.S.length fb] 95 := (Box.new _ _ _).ext hb4
  obtain ⟨cs0, cs1, cs2, cs3, cs4, ds0, ds1, ds2, ds3, ds4⟩ := cells5 Bs_4
  have zs : w1.heap.size < w4.heap.size := Bs_4.lt
  obtain ⟨ci0, di0⟩ := cells1 Bi_4
  have zi : w1.heap.size + 1 < w4.heap.size := Bi_4.lt
  obtain ⟨cc0, cc1, cc2, cc3, cc4, dc0, dc1, dc2, dc3, dc4⟩ := cells5 Bc_4
  have zc : w2.heap.size < w4.heap.size := Bc_4.lt
  obtain ⟨⟨cf0, cf1, cf2, cf3, cf4, cf5, cf6, cf7, cf8, cf9, cf10⟩, df0, df1, df2, df3, df4, df5, df6, df7, df8, df9, df10⟩ := cells11 Bf_4
  have zf : w3.heap.size < w4.heap.size := Bf_4.lt
  go_wp2_with (fail)
  go_at_call 81
  refine (top_ no _ x2 1 _ ((IsSys.mk x2B.symm gw gg gc gl : IsSys no w4 (.agg #[.slice g1 140 g2, .slice g3 4 g4, .bool false, .slice g5 2 g6, .slice g7 0 g8]) x2).ext exq)).calls.mono ?_
  rintro e w5 ⟨_, rfl, hb5, u, rfl, huh0⟩
  rw [is2]
  have huh : IsFrame no w5 u y2 := huh0
  obtain ⟨ha, hb, rfl, h8, hs⟩ := huh.opened
  rw [y2op]
  have Bs_5 := Bs_4.ext (show Ext w4 w5 from exq)
  have Bi_5 := Bi_4.ext (show Ext w4 w5 from exq)
  have Bc_5 := Bc_4.ext (show Ext w4 w5 from exq)
  have Bf_5 := Bf_4.ext (show Ext w4 w5 from exq)
  clear Bs_4 cs0 cs1 cs2 cs3 cs4 ds0 ds1 ds2 ds3 ds4 Bi_4 ci0 di0 Bc_4 cc0 cc1 cc2 cc3 cc4 dc0 dc1 dc2 dc3 dc4 Bf_4 cf0 cf1 cf2 cf3 cf4 cf5 cf6 cf7 cf8 cf9 cf10 df0 df1 df2 df3 df4 df5 df6 df7 df8 df9 df10
  have Bg_5 : Box w5 (w4.heap.size) #[.slice g1 140 g2, .slice g3 4 g4, .bool false, .slice g5 2 g6, .slice g7 0 g8] 83 := (Box.new _ _ _).ext hb5
  obtain ⟨cs0, cs1, cs2, cs3, cs4, ds0, ds1, ds2, ds3, ds4⟩ := cells5 Bs_5
  have zs : w1.heap.size < w5.heap.size := Bs_5.lt
  obtain ⟨ci0, di0⟩ := cells1 Bi_5
  have zi : w1.heap.size + 1 < w5.heap.size := Bi_5.lt
  obtain ⟨cc0, cc1, cc2, cc3, cc4, dc0, dc1, dc2, dc3, dc4⟩ := cells5 Bc_5
  have zc : w2.heap.size < w5.heap.size := Bc_5.lt
  obtain ⟨⟨cf0, cf1, cf2, cf3, cf4, cf5, cf6, cf7, cf8, cf9, cf10⟩, df0, df1, df2, df3, df4, df5, df6, df7, df8, df9, df10⟩ := cells11 Bf_5
  have zf : w3.heap.size < w5.heap.size := Bf_5.lt
  obtain ⟨cg0, cg1, cg2, cg3, cg4, dg0, dg1, dg2, dg3, dg4⟩ := cells5 Bg_5
  have zg : w4.heap.size < w5.heap.size := Bg_5.lt
  go_wp2_with (fail)
  go_at_call 86
  refine (back_ no _ x1 1 8 3 _ ((IsSys.mk x1B.symm cw cg cc cl : IsSys no w2 (.agg #[.slice c1 140 c2, .slice c3 4 c4, .bool false, .slice c5 2 c6, .slice c7 0 c8]) x1).ext exq) no_lt (by rw [x1C]; decide)).calls.mono ?_
  rintro e w6 ⟨_, rfl, hb6, hub0⟩
  have hub : IsSys no w6 _ x3 := hub0
  obtain ⟨b1, b2, b3, b4, b5, b6, b7, b8, rfl, bw, bg, bc, bl⟩ := hub.lit x3W x3G x3B x3C x3L
  obtain ⟨bb, ob, zaf, zcf, zar, zcr, rfl, zx, zn, _, _, _, z0, z1, z2, _⟩ := IsCores.at bc (i := 1) (c := k31) x31
  rw [k31V] at z1
  rw [k31E] at z2
  have Bs_6 := Bs_5.ext (show Ext w5 w6 from exq)
  have Bi_6 := Bi_5.ext (show Ext w5 w6 from exq)
  have Bc_6 := Bc_5.ext (show Ext w5 w6 from exq)
  have Bf_6 := Bf_5.ext (show Ext w5 w6 from exq)
  have Bg_6 := Bg_5.ext (show Ext w5 w6 from exq)
  clear Bs_5 cs0 cs1 cs2 cs3 cs4 ds0 ds1 ds2 ds3 ds4 Bi_5 ci0 di0 Bc_5 cc0 cc1 cc2 cc3 cc4 dc0 dc1 dc2 dc3 dc4 Bf_5 cf0 cf1 cf2 cf3 cf4 cf5 cf6 cf7 cf8 cf9 cf10 df0 df1 df2 df3 df4 df5 df6 df7 df8 df9 df10 Bg_5 cg0 cg1 cg2 cg3 cg4 dg0 dg1 dg2 dg3 dg4
  have Bh_6 : Box w6 (w5.heap.size) #[.int .i64 4, .int .i64 y2.pc, .int .i64 (gi y2.R 0), .int .i64 (gi y2.R 1), .int .i64 (gi y2.R 2), .int .i64 (gi y2.R 3), .int .i64 (gi y2.R 4), .int .i64 (gi y2.R 5), .int .i64 (gi y2.R 6), .int .i64 (gi y2.R 7), .slice ha y2.S.length hb] 95 := (Box.new _ _ _).ext hb6
  obtain ⟨cs0, cs1, cs2, cs3, cs4, ds0, ds1, ds2, ds3, ds4⟩ := cells5 Bs_6
  have zs : w1.heap.size < w6.heap.size := Bs_6.lt
  obtain ⟨ci0, di0⟩ := cells1 Bi_6
  have zi : w1.heap.size + 1 < w6.heap.size := Bi_6.lt
  obtain ⟨cc0, cc1, cc2, cc3, cc4, dc0, dc1, dc2, dc3, dc4⟩ := cells5 Bc_6
  have zc : w2.heap.size < w6.heap.size := Bc_6.lt
  obtain ⟨⟨cf0, cf1, cf2, cf3, cf4, cf5, cf6, cf7, cf8, cf9, cf10⟩, df0, df1, df2, df3, df4, df5, df6, df7, df8, df9, df10⟩ := cells11 Bf_6
  have zf : w3.heap.size < w6.heap.size := Bf_6.lt
  obtain ⟨cg0, cg1, cg2, cg3, cg4, dg0, dg1, dg2, dg3, dg4⟩ := cells5 Bg_6
  have zg : w4.heap.size < w6.heap.size := Bg_6.lt
  obtain ⟨⟨ch0, ch1, ch2, ch3, ch4, ch5, ch6, ch7, ch8, ch9, ch10⟩, dh0, dh1, dh2, dh3, dh4, dh5, dh6, dh7, dh8, dh9, dh10⟩ := cells11 Bh_6
  have zh : w5.heap.size < w6.heap.size := Bh_6.lt
  go_wp2_with (fail)
  go_at_call 81
  refine (top_ no _ x3 1 _ ((IsSys.mk x3B.symm bw bg bc bl : IsSys no w6 (.agg #[.slice b1 140 b2, .slice b3 4 b4, .bool false, .slice (some ⟨bb, ob, none⟩) 2 b6, .slice b7 0 b8]) x3).ext exq)).calls.mono ?_
  rintro e w7 ⟨_, rfl, hb7, u, rfl, hut0⟩
  rw [is3]
  have hut : IsFrame no w7 u y3 := hut0
  obtain ⟨ta, tb, rfl, t8, ts⟩ := hut.opened
  have Bs_7 := Bs_6.ext (show Ext w6 w7 from exq)
  have Bi_7 := Bi_6.ext (show Ext w6 w7 from exq)
  have Bc_7 := Bc_6.ext (show Ext w6 w7 from exq)
  have Bf_7 := Bf_6.ext (show Ext w6 w7 from exq)
  have Bg_7 := Bg_6.ext (show Ext w6 w7 from exq)
  have Bh_7 := Bh_6.ext (show Ext w6 w7 from exq)
  clear Bs_6 cs0 cs1 cs2 cs3 cs4 ds0 ds1 ds2 ds3 ds4 Bi_6 ci0 di0 Bc_6 cc0 cc1 cc2 cc3 cc4 dc0 dc1 dc2 dc3 dc4 Bf_6 cf0 cf1 cf2 cf3 cf4 cf5 cf6 cf7 cf8 cf9 cf10 df0 df1 df2 df3 df4 df5 df6 df7 df8 df9 df10 Bg_6 cg0 cg1 cg2 cg3 cg4 dg0 dg1 dg2 dg3 dg4 Bh_6 ch0 ch1 ch2 ch3 ch4 ch5 ch6 ch7 ch8 ch9 ch10 dh0 dh1 dh2 dh3 dh4 dh5 dh6 dh7 dh8 dh9 dh10
  have Bb_7 : Box w7 (w6.heap.size) #[.slice b1 140 b2, .slice b3 4 b4, .bool false, .slice (some ⟨bb, ob, none⟩) 2 b6, .slice b7 0 b8] 83 := (Box.new _ _ _).ext hb7
  obtain ⟨cs0, cs1, cs2, cs3, cs4, ds0, ds1, ds2, ds3, ds4⟩ := cells5 Bs_7
  have zs : w1.heap.size < w7.heap.size := Bs_7.lt
  obtain ⟨ci0, di0⟩ := cells1 Bi_7
  have zi : w1.heap.size + 1 < w7.heap.size := Bi_7.lt
  obtain ⟨cc0, cc1, cc2, cc3, cc4, dc0, dc1, dc2, dc3, dc4⟩ := cells5 Bc_7
  have zc : w2.heap.size < w7.heap.size := Bc_7.lt
  obtain ⟨⟨cf0, cf1, cf2, cf3, cf4, cf5, cf6, cf7, cf8, cf9, cf10⟩, df0, df1, df2, df3, df4, df5, df6, df7, df8, df9, df10⟩ := cells11 Bf_7
  have zf : w3.heap.size < w7.heap.size := Bf_7.lt
  obtain ⟨cg0, cg1, cg2, cg3, cg4, dg0, dg1, dg2, dg3, dg4⟩ := cells5 Bg_7
  have zg : w4.heap.size < w7.heap.size := Bg_7.lt
  obtain ⟨⟨ch0, ch1, ch2, ch3, ch4, ch5, ch6, ch7, ch8, ch9, ch10⟩, dh0, dh1, dh2, dh3, dh4, dh5, dh6, dh7, dh8, dh9, dh10⟩ := cells11 Bh_7
  have zh : w5.heap.size < w7.heap.size := Bh_7.lt
  obtain ⟨cb0, cb1, cb2, cb3, cb4, db0, db1, db2, db3, db4⟩ := cells5 Bb_7
  have zb : w6.heap.size < w7.heap.size := Bb_7.lt
  go_wp2_with (fail)
  go_at_call 87
  refine (log_ no _ x0 0 1 2 3 4 _ ((IsSys.mk x0B.symm sw sg sc sl : IsSys no w1 (.agg #[.slice s1 140 s2, .slice s3 4 s4, .bool false, .slice s5 2 s6, .slice s7 0 s8]) x0).ext exq) no_lt (by rw [x0L]; decide)).calls.mono ?_
  rintro e w8 ⟨_, rfl, hb8, hul0⟩
  have hul : IsSys no w8 _ x4 := hul0
  obtain ⟨l1, l2, l3, l4, l5, l6, l7, l8, rfl, lw, lg, lc, ll⟩ := hul.lit x4W x4G x4B x4C x4L
  obtain ⟨lb, lo, rfl, _, _, v0, v1, v2, v3, v4⟩ := IsEvs.at ll (i := 0) x40
  have Bs_8 := Bs_7.ext (show Ext w7 w8 from exq)
  have Bi_8 := Bi_7.ext (show Ext w7 w8 from exq)
  have Bc_8 := Bc_7.ext (show Ext w7 w8 from exq)
  have Bf_8 := Bf_7.ext (show Ext w7 w8 from exq)
  have Bg_8 := Bg_7.ext (show Ext w7 w8 from exq)
  have Bh_8 := Bh_7.ext (show Ext w7 w8 from exq)
  have Bb_8 := Bb_7.ext (show Ext w7 w8 from exq)
  clear Bs_7 cs0 cs1 cs2 cs3 cs4 ds0 ds1 ds2 ds3 ds4 Bi_7 ci0 di0 Bc_7 cc0 cc1 cc2 cc3 cc4 dc0 dc1 dc2 dc3 dc4 Bf_7 cf0 cf1 cf2 cf3 cf4 cf5 cf6 cf7 cf8 cf9 cf10 df0 df1 df2 df3 df4 df5 df6 df7 df8 df9 df10 Bg_7 cg0 cg1 cg2 cg3 cg4 dg0 dg1 dg2 dg3 dg4 Bh_7 ch0 ch1 ch2 ch3 ch4 ch5 ch6 ch7 ch8 ch9 ch10 dh0 dh1 dh2 dh3 dh4 dh5 dh6 dh7 dh8 dh9 dh10 Bb_7 cb0 cb1 cb2 cb3 cb4 db0 db1 db2 db3 db4
  have Bt_8 : Box w8 (w7.heap.size) #[.int .i64 y3.op, .int .i64 y3.pc, .int .i64 (gi y3.R 0), .int .i64 (gi y3.R 1), .int .i64 (gi y3.R 2), .int .i64 (gi y3.R 3), .int .i64 (gi y3.R 4), .int .i64 (gi y3.R 5), .int .i64 (gi y3.R 6), .int .i64 (gi y3.R 7), .slice ta y3.S.length tb] 95 := (Box.new _ _ _).ext hb8
  obtain ⟨cs0, cs1, cs2, cs3, cs4, ds0, ds1, ds2, ds3, ds4⟩ := cells5 Bs_8
  have zs : w1.heap.size < w8.heap.size := Bs_8.lt
  obtain ⟨ci0, di0⟩ := cells1 Bi_8
  have zi : w1.heap.size + 1 < w8.heap.size := Bi_8.lt
  obtain ⟨cc0, cc1, cc2, cc3, cc4, dc0, dc1, dc2, dc3, dc4⟩ := cells5 Bc_8
  have zc : w2.heap.size < w8.heap.size := Bc_8.lt
  obtain ⟨⟨cf0, cf1, cf2, cf3, cf4, cf5, cf6, cf7, cf8, cf9, cf10⟩, df0, df1, df2, df3, df4, df5, df6, df7, df8, df9, df10⟩ := cells11 Bf_8
  have zf : w3.heap.size < w8.heap.size := Bf_8.lt
  obtain ⟨cg0, cg1, cg2, cg3, cg4, dg0, dg1, dg2, dg3, dg4⟩ := cells5 Bg_8
  have zg : w4.heap.size < w8.heap.size := Bg_8.lt
  obtain ⟨⟨ch0, ch1, ch2, ch3, ch4, ch5, ch6, ch7, ch8, ch9, ch10⟩, dh0, dh1, dh2, dh3, dh4, dh5, dh6, dh7, dh8, dh9, dh10⟩ := cells11 Bh_8
  have zh : w5.heap.size < w8.heap.size := Bh_8.lt
  obtain ⟨cb0, cb1, cb2, cb3, cb4, db0, db1, db2, db3, db4⟩ := cells5 Bb_8
  have zb : w6.heap.size < w8.heap.size := Bb_8.lt
  obtain ⟨⟨ct0, ct1, ct2, ct3, ct4, ct5, ct6, ct7, ct8, ct9, ct10⟩, dt0, dt1, dt2, dt3, dt4, dt5, dt6, dt7, dt8, dt9, dt10⟩ := cells11 Bt_8
  have zt : w7.heap.size < w8.heap.size := Bt_8.lt
  have zz : bb < w8.heap.size := World.block_lt_of_cell? _ _ (cell_ext z1 (show Ext w6 w8 from exq))
  have zl : lb < w8.heap.size := World.block_lt_of_cell? _ _ v0
  have z1 := cell_ext z1 (show Ext w6 w8 from exq)
  have z2 := cell_ext z2 (show Ext w6 w8 from exq)
  simp at z1 z2 v0 v1 v2 v3 v4
  go_wp2_with (fail)
  go_at_call 79
  refine (sysRight_ no _ x3 _ ((IsSys.mk x3B.symm bw bg bc bl : IsSys no w6 (.agg #[.slice b1 140 b2, .slice b3 4 b4, .bool false, .slice (some ⟨bb, ob, none⟩) 2 b6, .slice b7 0 b8]) x3).ext exq)).calls.mono ?_
  rintro e w9 ⟨_, rfl, hb9, rfl⟩
  rw [r3]
  have Bs_9 := Bs_8.ext (show Ext w8 w9 from exq)
  have Bi_9 := Bi_8.ext (show Ext w8 w9 from exq)
  have Bc_9 := Bc_8.ext (show Ext w8 w9 from exq)
  have Bf_9 := Bf_8.ext (show Ext w8 w9 from exq)
  have Bg_9 := Bg_8.ext (show Ext w8 w9 from exq)
  have Bh_9 := Bh_8.ext (show Ext w8 w9 from exq)
  have Bb_9 := Bb_8.ext (show Ext w8 w9 from exq)
  have Bt_9 := Bt_8.ext (show Ext w8 w9 from exq)
  clear Bs_8 cs0 cs1 cs2 cs3 cs4 ds0 ds1 ds2 ds3 ds4 Bi_8 ci0 di0 Bc_8 cc0 cc1 cc2 cc3 cc4 dc0 dc1 dc2 dc3 dc4 Bf_8 cf0 cf1 cf2 cf3 cf4 cf5 cf6 cf7 cf8 cf9 cf10 df0 df1 df2 df3 df4 df5 df6 df7 df8 df9 df10 Bg_8 cg0 cg1 cg2 cg3 cg4 dg0 dg1 dg2 dg3 dg4 Bh_8 ch0 ch1 ch2 ch3 ch4 ch5 ch6 ch7 ch8 ch9 ch10 dh0 dh1 dh2 dh3 dh4 dh5 dh6 dh7 dh8 dh9 dh10 Bb_8 cb0 cb1 cb2 cb3 cb4 db0 db1 db2 db3 db4 Bt_8 ct0 ct1 ct2 ct3 ct4 ct5 ct6 ct7 ct8 ct9 ct10 dt0 dt1 dt2 dt3 dt4 dt5 dt6 dt7 dt8 dt9 dt10
  have Bl_9 : Box w9 (w8.heap.size) #[.slice l1 140 l2, .slice l3 4 l4, .bool false, .slice l5 2 l6, .slice (some ⟨lb, lo, none⟩) 1 l8] 83 := (Box.new _ _ _).ext hb9
  obtain ⟨cs0, cs1, cs2, cs3, cs4, ds0, ds1, ds2, ds3, ds4⟩ := cells5 Bs_9
  have zs : w1.heap.size < w9.heap.size := Bs_9.lt
  obtain ⟨ci0, di0⟩ := cells1 Bi_9
  have zi : w1.heap.size + 1 < w9.heap.size := Bi_9.lt
  obtain ⟨cc0, cc1, cc2, cc3, cc4, dc0, dc1, dc2, dc3, dc4⟩ := cells5 Bc_9
  have zc : w2.heap.size < w9.heap.size := Bc_9.lt
  obtain ⟨⟨cf0, cf1, cf2, cf3, cf4, cf5, cf6, cf7, cf8, cf9, cf10⟩, df0, df1, df2, df3, df4, df5, df6, df7, df8, df9, df10⟩ := cells11 Bf_9
  have zf : w3.heap.size < w9.heap.size := Bf_9.lt
  obtain ⟨cg0, cg1, cg2, cg3, cg4, dg0, dg1, dg2, dg3, dg4⟩ := cells5 Bg_9
  have zg : w4.heap.size < w9.heap.size := Bg_9.lt
  obtain ⟨⟨ch0, ch1, ch2, ch3, ch4, ch5, ch6, ch7, ch8, ch9, ch10⟩, dh0, dh1, dh2, dh3, dh4, dh5, dh6, dh7, dh8, dh9, dh10⟩ := cells11 Bh_9
  have zh : w5.heap.size < w9.heap.size := Bh_9.lt
  obtain ⟨cb0, cb1, cb2, cb3, cb4, db0, db1, db2, db3, db4⟩ := cells5 Bb_9
  have zb : w6.heap.size < w9.heap.size := Bb_9.lt
  obtain ⟨⟨ct0, ct1, ct2, ct3, ct4, ct5, ct6, ct7, ct8, ct9, ct10⟩, dt0, dt1, dt2, dt3, dt4, dt5, dt6, dt7, dt8, dt9, dt10⟩ := cells11 Bt_9
  have zt : w7.heap.size < w9.heap.size := Bt_9.lt
  obtain ⟨cl0, cl1, cl2, cl3, cl4, dl0, dl1, dl2, dl3, dl4⟩ := cells5 Bl_9
  have zl : w8.heap.size < w9.heap.size := Bl_9.lt
  go_wp2_with (fail)
  go_at_call 80
  refine (sysSame_ no _ _ x0 x3 _ ((IsSys.mk x0B.symm sw sg sc sl : IsSys no w1 (.agg #[.slice s1 140 s2, .slice s3 4 s4, .bool false, .slice s5 2 s6, .slice s7 0 s8]) x0).ext exq) ((IsSys.mk x3B.symm bw bg bc bl : IsSys no w6 (.agg #[.slice b1 140 b2, .slice b3 4 b4, .bool false, .slice (some ⟨bb, ob, none⟩) 2 b6, .slice b7 0 b8]) x3).ext exq)).calls.mono ?_
  rintro e w10 ⟨_, rfl, hb10, rfl⟩
  rw [s03]
  have Bs_10 := Bs_9.ext (show Ext w9 w10 from exq)
  have Bi_10 := Bi_9.ext (show Ext w9 w10 from exq)
  have Bc_10 := Bc_9.ext (show Ext w9 w10 from exq)
  have Bf_10 := Bf_9.ext (show Ext w9 w10 from exq)
  have Bg_10 := Bg_9.ext (show Ext w9 w10 from exq)
  have Bh_10 := Bh_9.ext (show Ext w9 w10 from exq)
  have Bb_10 := Bb_9.ext (show Ext w9 w10 from exq)
  have Bt_10 := Bt_9.ext (show Ext w9 w10 from exq)
  have Bl_10 := Bl_9.ext (show Ext w9 w10 from exq)
  clear Bs_9 cs0 cs1 cs2 cs3 cs4 ds0 ds1 ds2 ds3 ds4 Bi_9 ci0 di0 Bc_9 cc0 cc1 cc2 cc3 cc4 dc0 dc1 dc2 dc3 dc4 Bf_9 cf0 cf1 cf2 cf3 cf4 cf5 cf6 cf7 cf8 cf9 cf10 df0 df1 df2 df3 df4 df5 df6 df7 df8 df9 df10 Bg_9 cg0 cg1 cg2 cg3 cg4 dg0 dg1 dg2 dg3 dg4 Bh_9 ch0 ch1 ch2 ch3 ch4 ch5 ch6 ch7 ch8 ch9 ch10 dh0 dh1 dh2 dh3 dh4 dh5 dh6 dh7 dh8 dh9 dh10 Bb_9 cb0 cb1 cb2 cb3 cb4 db0 db1 db2 db3 db4 Bt_9 ct0 ct1 ct2 ct3 ct4 ct5 ct6 ct7 ct8 ct9 ct10 dt0 dt1 dt2 dt3 dt4 dt5 dt6 dt7 dt8 dt9 dt10 Bl_9 cl0 cl1 cl2 cl3 cl4 dl0 dl1 dl2 dl3 dl4
  obtain ⟨cs0, cs1, cs2, cs3, cs4, ds0, ds1, ds2, ds3, ds4⟩ := cells5 Bs_10
  have zs : w1.heap.size < w10.heap.size := Bs_10.lt
  obtain ⟨ci0, di0⟩ := cells1 Bi_10
  have zi : w1.heap.size + 1 < w10.heap.size := Bi_10.lt
  obtain ⟨cc0, cc1, cc2, cc3, cc4, dc0, dc1, dc2, dc3, dc4⟩ := cells5 Bc_10
  have zc : w2.heap.size < w10.heap.size := Bc_10.lt
  obtain ⟨⟨cf0, cf1, cf2, cf3, cf4, cf5, cf6, cf7, cf8, cf9, cf10⟩, df0, df1, df2, df3, df4, df5, df6, df7, df8, df9, df10⟩ := cells11 Bf_10
  have zf : w3.heap.size < w10.heap.size := Bf_10.lt
  obtain ⟨cg0, cg1, cg2, cg3, cg4, dg0, dg1, dg2, dg3, dg4⟩ := cells5 Bg_10
  have zg : w4.heap.size < w10.heap.size := Bg_10.lt
  obtain ⟨⟨ch0, ch1, ch2, ch3, ch4, ch5, ch6, ch7, ch8, ch9, ch10⟩, dh0, dh1, dh2, dh3, dh4, dh5, dh6, dh7, dh8, dh9, dh10⟩ := cells11 Bh_10
  have zh : w5.heap.size < w10.heap.size := Bh_10.lt
  obtain ⟨cb0, cb1, cb2, cb3, cb4, db0, db1, db2, db3, db4⟩ := cells5 Bb_10
  have zb : w6.heap.size < w10.heap.size := Bb_10.lt
  obtain ⟨⟨ct0, ct1, ct2, ct3, ct4, ct5, ct6, ct7, ct8, ct9, ct10⟩, dt0, dt1, dt2, dt3, dt4, dt5, dt6, dt7, dt8, dt9, dt10⟩ := cells11 Bt_10
  have zt : w7.heap.size < w10.heap.size := Bt_10.lt
  obtain ⟨cl0, cl1, cl2, cl3, cl4, dl0, dl1, dl2, dl3, dl4⟩ := cells5 Bl_10
  have zl : w8.heap.size < w10.heap.size := Bl_10.lt
  go_wp2
  go_ret
  exact ⟨_, rfl, exq, rfl⟩
end Go.Proofs.Ytcfbdfgondmkoaa
/- Systems among a law's arguments. -/
namespace Go.Proofs.Ytcfbdfgondmkoaa
open Go Go.RowKit Go.WideShapes
set_option linter.unusedSimpArgs false
set_option linter.unusedVariables false
set_option linter.unnecessarySimpa false

theorem add_at (b off n : Nat) : (⟨b, off, none⟩ : Addr).add n = ⟨b, off + n, none⟩ := by unfold Addr.add; split <;> simp_all
section
variable {H : Type} {enc : TypeId × Value → H} {w : World} {cs : List Value}
theorem Rd.sl {α : Type} {sz : Nat} {R : World → α → List Value → Prop} {t e : TypeId} (ht : Proofs.Try.prog.underlying t = some (.slice e)) (hz : Proofs.Try.prog.cellsOf e = sz) (hsz : 0 < sz) (hE : ∀ cs, Rd enc Proofs.Try.prog w e cs → cs.length = sz ∧ ∃ x : α, R w x cs)
    (h : Rd enc Proofs.Try.prog w t cs) : ∃ v l, cs = [v] ∧ IsSl sz R no w v l := by
  rcases Rd.slice h ht with rfl | ⟨a, len, cap, rfl, hl, hm, hx⟩
  · exact ⟨_, [], rfl, none, 0, rfl, by simp, by omega, fun _ => rfl, fun i x hi => by simp at hi⟩
  · rw [hz] at hx
    have hc : ∀ i, i < cap → ∃ (x : α) (r : List Value), r.length = sz ∧ R w x r ∧ ∀ j c, r[j]? = some c → w.cell? ((a.add (i * sz)).add j) = some c := fun i hi => by
      obtain ⟨r, h1, h2⟩ := hx i hi
      obtain ⟨hrl, x, hR⟩ := hE r h2
      obtain ⟨_, _, h3⟩ := World.cells?_some h1
      refine ⟨x, r, hrl, hR, fun j c hj => ?_⟩
      have hjl : j < sz := by
        rw [← hrl]
        rcases Nat.lt_or_ge j r.length with h | h
        · exact h
        · rw [List.getElem?_eq_none h] at hj; cases hj
      have := h3 j hjl
      rw [this]; exact hj
    have hch := Classical.choice (show Nonempty (∀ i : Nat, i < cap → { p : α × List Value // p.2.length = sz ∧ R w p.1 p.2 ∧ ∀ j c, p.2[j]? = some c → w.cell? ((a.add (i * sz)).add j) = some c }) from
      ⟨fun i hi => ⟨⟨Classical.choose (hc i hi), Classical.choose (Classical.choose_spec (hc i hi))⟩, Classical.choose_spec (Classical.choose_spec (hc i hi))⟩⟩)
    by_cases h0 : cap = 0
    · subst h0
      obtain rfl : len = 0 := by omega
      exact ⟨_, [], rfl, some a, 0, rfl, by simp, by omega, fun e => by simp at e, fun i x hi => by simp at hi⟩
    · obtain ⟨x0, r0, hr0, _, hcell0⟩ := hc 0 (by omega)
      have hspot : a.spot = none := by
        have h1 := hcell0 0 (r0[0]'(by omega)) (List.getElem?_eq_getElem _)
        have := World.cell?_spot h1
        simpa [Addr.add] using this
      obtain ⟨b, off, spot⟩ := a
      simp at hspot
      subst hspot
      let f : Nat → α := fun i => if hi : i < cap then (hch i hi).1.1 else x0
      refine ⟨_, (List.range len).map f, rfl, some ⟨b, off, none⟩, cap, by simp, by simpa using hl, by simpa [maxLen] using hm, fun e => by simp at e, fun i x hi => ?_⟩
      have hil : i < len := by
        rcases Nat.lt_or_ge i len with h | h
        · exact h
        · rw [List.getElem?_eq_none (by simpa using h)] at hi; cases hi
      have hic : i < cap := by omega
      rw [List.getElem?_map, List.getElem?_range hil] at hi
      have hfx : f i = x := by simpa using hi
      have hfi : f i = (hch i hic).1.1 := by simp only [f, dif_pos hic]
      have hs := (hch i hic).2
      have hadd : ∀ j, ((⟨b, off, none⟩ : Addr).add (i * sz)).add j = ⟨b, off + i * sz + j, none⟩ := fun j => by rw [add_at, add_at]
      refine ⟨b, off, (hch i hic).1.2, rfl, ?_, id, hs.1, fun j c hj => by rw [← hadd j]; exact hs.2.2 j c hj, by rw [← hfx, hfi]; exact hs.2.1⟩
      have h1 := hs.2.2 0 ((hch i hic).1.2[0]'(by rw [hs.1]; omega)) (List.getElem?_eq_getElem _)
      rw [hadd] at h1
      exact World.block_lt_of_cell? w _ h1
theorem Rd.i64 {n : TypeId} (hn : Proofs.Try.prog.underlying n = some (.int .i64)) {x : Value} (h : Rd enc Proofs.Try.prog w n [x]) : ∃ z, x = .int .i64 z := by
  obtain ⟨z, e, _⟩ := Rd.int (k := .i64) h hn
  exact ⟨z, by simpa using e⟩
theorem Rd.i64s {t : TypeId} {n : Nat} (ht : Proofs.Try.prog.underlying t = some (.array n 3)) (h : Rd enc Proofs.Try.prog w t cs) (i : Nat) (hi : i < n) : ∃ z, (cs.drop (i * 1)).take 1 = [.int .i64 z] := by
  obtain ⟨z, e, _⟩ := Rd.int (k := .i64) (Rd.elem h ht i hi (m := 1) (by kernel_rfl)) Proofs.Try.underlying3
  exact ⟨z, e⟩
theorem Rd.ev (h : Rd enc Proofs.Try.prog w 108 cs) : cs.length = 5 ∧ ∃ e, RE w e cs := by
  have hl := (Rd.struct h Proofs.Try.underlying108).1
  rw [show Proofs.Try.prog.cellsOf 108 = 5 by kernel_rfl] at hl
  obtain ⟨v0, v1, v2, v3, v4, rfl⟩ : ∃ v0 v1 v2 v3 v4, cs = [v0, v1, v2, v3, v4] := by
    match cs, hl with
    | [a, b, c, d, e], _ => exact ⟨a, b, c, d, e, rfl⟩
  obtain ⟨z0, rfl⟩ := Rd.i64 Proofs.Try.underlying3 (x := v0) (by have q := Rd.field h Proofs.Try.underlying108 0 (n := 1) rfl (by kernel_rfl); exact q)
  obtain ⟨z1, rfl⟩ := Rd.i64 Proofs.Try.underlying3 (x := v1) (by have q := Rd.field h Proofs.Try.underlying108 1 (n := 1) rfl (by kernel_rfl); exact q)
  obtain ⟨z2, rfl⟩ := Rd.i64 Proofs.Try.underlying3 (x := v2) (by have q := Rd.field h Proofs.Try.underlying108 2 (n := 1) rfl (by kernel_rfl); exact q)
  obtain ⟨z3, rfl⟩ := Rd.i64 Proofs.Try.underlying3 (x := v3) (by have q := Rd.field h Proofs.Try.underlying108 3 (n := 1) rfl (by kernel_rfl); exact q)
  obtain ⟨z4, rfl⟩ := Rd.i64 Proofs.Try.underlying3 (x := v4) (by have q := Rd.field h Proofs.Try.underlying108 4 (n := 1) rfl (by kernel_rfl); exact q)
  exact ⟨rfl, ⟨z0, z1, z2, z3, z4⟩, rfl⟩
theorem Rd.frame (h : Rd enc Proofs.Try.prog w 95 cs) : cs.length = 11 ∧ ∃ f, RF no w f cs := by
  have hl := (Rd.struct h Proofs.Try.underlying95).1
  rw [show Proofs.Try.prog.cellsOf 95 = 11 by kernel_rfl] at hl
  obtain ⟨v0, v1, v2, v3, v4, v5, v6, v7, v8, v9, v10, rfl⟩ : ∃ v0 v1 v2 v3 v4 v5 v6 v7 v8 v9 v10, cs = [v0, v1, v2, v3, v4, v5, v6, v7, v8, v9, v10] := by
    match cs, hl with
    | [a, b, c, d, e, f, g, h, i, j, k], _ => exact ⟨a, b, c, d, e, f, g, h, i, j, k, rfl⟩
  obtain ⟨z0, rfl⟩ := Rd.i64 Proofs.Try.underlying3 (x := v0) (by have q := Rd.field h Proofs.Try.underlying95 0 (n := 1) rfl (by kernel_rfl); exact q)
  obtain ⟨z1, rfl⟩ := Rd.i64 Proofs.Try.underlying3 (x := v1) (by have q := Rd.field h Proofs.Try.underlying95 1 (n := 1) rfl (by kernel_rfl); exact q)
  have hR : Rd enc Proofs.Try.prog w 93 [v2, v3, v4, v5, v6, v7, v8, v9] := by have q := Rd.field h Proofs.Try.underlying95 2 (n := 8) rfl (by kernel_rfl); exact q
  obtain ⟨z2, q0⟩ := Rd.i64s Proofs.Try.underlying93 hR 0 (by decide)
  obtain rfl : v2 = .int .i64 z2 := by simpa using q0
  obtain ⟨z3, q1⟩ := Rd.i64s Proofs.Try.underlying93 hR 1 (by decide)
  obtain rfl : v3 = .int .i64 z3 := by simpa using q1
  obtain ⟨z4, q2⟩ := Rd.i64s Proofs.Try.underlying93 hR 2 (by decide)
  obtain rfl : v4 = .int .i64 z4 := by simpa using q2
  obtain ⟨z5, q3⟩ := Rd.i64s Proofs.Try.underlying93 hR 3 (by decide)
  obtain rfl : v5 = .int .i64 z5 := by simpa using q3
  obtain ⟨z6, q4⟩ := Rd.i64s Proofs.Try.underlying93 hR 4 (by decide)
  obtain rfl : v6 = .int .i64 z6 := by simpa using q4
  obtain ⟨z7, q5⟩ := Rd.i64s Proofs.Try.underlying93 hR 5 (by decide)
  obtain rfl : v7 = .int .i64 z7 := by simpa using q5
  obtain ⟨z8, q6⟩ := Rd.i64s Proofs.Try.underlying93 hR 6 (by decide)
  obtain rfl : v8 = .int .i64 z8 := by simpa using q6
  obtain ⟨z9, q7⟩ := Rd.i64s Proofs.Try.underlying93 hR 7 (by decide)
  obtain rfl : v9 = .int .i64 z9 := by simpa using q7
  obtain ⟨u, l, e, hu⟩ := Rd.ints (cs := [v10]) (by have q := Rd.field h Proofs.Try.underlying95 3 (n := 1) rfl (by kernel_rfl); exact q)
  obtain rfl : v10 = u := by simpa using e
  exact ⟨rfl, ⟨z0, z1, [z2, z3, z4, z5, z6, z7, z8, z9], l⟩, rfl, _, rfl, hu⟩
theorem Rd.core (h : Rd enc Proofs.Try.prog w 116 cs) : cs.length = 7 ∧ ∃ c, RC no w c cs := by
  have hl := (Rd.struct h Proofs.Try.underlying116).1
  rw [show Proofs.Try.prog.cellsOf 116 = 7 by kernel_rfl] at hl
  obtain ⟨v0, v1, v2, v3, v4, v5, v6, rfl⟩ : ∃ v0 v1 v2 v3 v4 v5 v6, cs = [v0, v1, v2, v3, v4, v5, v6] := by
    match cs, hl with
    | [a, b, c, d, e, f, g], _ => exact ⟨a, b, c, d, e, f, g, rfl⟩
  obtain ⟨u0, l0, e0, h0⟩ := Rd.sl (R := RF no) (sz := 11) Proofs.Try.underlying114 (by kernel_rfl) (by decide) (fun _ h => Rd.frame h) (cs := [v0]) (by have q := Rd.field h Proofs.Try.underlying116 0 (n := 1) rfl (by kernel_rfl); exact q)
  obtain rfl : v0 = u0 := by simpa using e0
  obtain ⟨z1, rfl⟩ := Rd.i64 Proofs.Try.underlying3 (x := v1) (by have q := Rd.field h Proofs.Try.underlying116 1 (n := 1) rfl (by kernel_rfl); exact q)
  obtain ⟨z2, rfl⟩ := Rd.i64 Proofs.Try.underlying25 (x := v2) (by have q := Rd.field h Proofs.Try.underlying116 2 (n := 1) rfl (by kernel_rfl); exact q)
  have hX : Rd enc Proofs.Try.prog w 41 [v3, v4, v5] := by have q := Rd.field h Proofs.Try.underlying116 3 (n := 3) rfl (by kernel_rfl); exact q
  obtain ⟨z3, q0⟩ := Rd.i64s Proofs.Try.underlying41 hX 0 (by decide)
  obtain rfl : v3 = .int .i64 z3 := by simpa using q0
  obtain ⟨z4, q1⟩ := Rd.i64s Proofs.Try.underlying41 hX 1 (by decide)
  obtain rfl : v4 = .int .i64 z4 := by simpa using q1
  obtain ⟨z5, q2⟩ := Rd.i64s Proofs.Try.underlying41 hX 2 (by decide)
  obtain rfl : v5 = .int .i64 z5 := by simpa using q2
  obtain ⟨u, l, e, hu⟩ := Rd.ints (cs := [v6]) (by have q := Rd.field h Proofs.Try.underlying116 4 (n := 1) rfl (by kernel_rfl); exact q)
  obtain rfl : v6 = u := by simpa using e
  exact ⟨rfl, ⟨l0, z1, z2, [z3, z4, z5], l⟩, rfl, _, _, rfl, h0, hu⟩
theorem Rd.sys (h : Rd enc Proofs.Try.prog w 83 cs) : ∃ v0 v1 v2 v3 v4 s, cs = [v0, v1, v2, v3, v4] ∧ IsSys no w (.agg #[v0, v1, v2, v3, v4]) s := by
  have hl := (Rd.struct h Proofs.Try.underlying83).1
  rw [show Proofs.Try.prog.cellsOf 83 = 5 by kernel_rfl] at hl
  obtain ⟨v0, v1, v2, v3, v4, rfl⟩ : ∃ v0 v1 v2 v3 v4, cs = [v0, v1, v2, v3, v4] := by
    match cs, hl with
    | [a, b, c, d, e], _ => exact ⟨a, b, c, d, e, rfl⟩
  obtain ⟨y0, y1, y2, m, e, hm⟩ := Rd.mem (cs := [v0, v1, v2]) (by have q := Rd.field h Proofs.Try.underlying83 0 (n := 3) rfl (by kernel_rfl); exact q)
  obtain ⟨rfl, rfl, rfl⟩ : v0 = y0 ∧ v1 = y1 ∧ v2 = y2 := by simpa using e
  obtain ⟨u3, l3, e3, h3⟩ := Rd.sl (R := RC no) (sz := 7) Proofs.Try.underlying80 (by kernel_rfl) (by decide) (fun _ h => Rd.core h) (cs := [v3]) (by have q := Rd.field h Proofs.Try.underlying83 1 (n := 1) rfl (by kernel_rfl); exact q)
  obtain rfl : v3 = u3 := by simpa using e3
  obtain ⟨u4, l4, e4, h4⟩ := Rd.sl (R := RE) (sz := 5) Proofs.Try.underlying81 (by kernel_rfl) (by decide) (fun _ h => Rd.ev h) (cs := [v4]) (by have q := Rd.field h Proofs.Try.underlying83 2 (n := 1) rfl (by kernel_rfl); exact q)
  obtain rfl : v4 = u4 := by simpa using e4
  exact ⟨_, _, _, _, _, ⟨m, l3, l4⟩, rfl, _, _, _, _, _, rfl, hm, h3, h4⟩
end
end Go.Proofs.Ytcfbdfgondmkoaa
