/- Systems, by the document: With, Call, Set, Back; slices of a call's own. -/
import Derived.Test.YtcfbdfgondmkoaaCoC
import Derived.Laws.AppendOwn
import Derived.Deep.Upon
namespace Go.Proofs.Ytcfbdfgondmkoaa
open Go Go.RowKit
set_option linter.unusedSimpArgs false
set_option linter.unusedVariables false
set_option linter.unnecessarySimpa false


theorem Box.newAt (w : World) (cs : Array Value) (t : TypeId) {b : Nat} (h : w.heap.size = b) : Box (w.alloc (.cells cs t (0, 0))) b cs t := by subst h; exact Box.new _ _ _
theorem list7 {l : List Value} (h : l.length = 7) : ∃ a b c d e f g, l = [a, b, c, d, e, f, g] := by
  match l, h with
  | [a, b, c, d, e, f, g], _ => exact ⟨a, b, c, d, e, f, g, rfl⟩
set_option maxHeartbeats 1000000 in
set_option maxRecDepth 100000 in
theorem with_ (N : Nat → Prop) (va vc : Value) (s : SysD) (k : Nat) (c : CoreD) (w : World) (h : IsSys N w va s) (hc' : IsCoreV N w vc c) (hN : ∀ b, N b → b < w.heap.size) (hC : s.C.length ≤ 100000) (hk : k < s.C.length) :
    Gives Proofs.Try.prog 92 #[va, .int .i64 k, vc] w (fun r w' => IsSys N w' r (withS s k c)) := by
  obtain ⟨aw, cw, ag, cg, ac, cc, al, cl, rfl, hw, hg, hc, hl⟩ := h.opened
  obtain ⟨af, cf, ar, cr, rfl, h3, hf, hr⟩ := hc'.opened
  have hk1 : (k : Int) < (s.C.length : Int) := by omega
  have hcb : IsCores (Bx N w.heap.size (w.heap.size + 10)) w (.slice ac s.C.length cc) s.C := IsCores.less hc (fun x hx hn => Bx.new hx hn)
  go_enter Proofs.Try.func92, Proofs.Try.ntmps92
  go_wp2_with (at_builtin; refine wpList_append_all (.tmp 8) (.tmp 10) rfl rfl rfl rfl rowC (by decide) (IsCores.keep hcb (show Ext w ((((w.alloc (.cells #[.slice aw s.M.W.length cw, .slice ag s.M.G.length cg, .bool s.M.bad, .slice ac s.C.length cc, .slice al s.L.length cl] 83 (0, 0))).alloc (.cells #[.slice af c.F.length cf, .int .i64 c.V, .int .i64 c.E, .int .i64 (gi c.X 0), .int .i64 (gi c.X 1), .int .i64 (gi c.X 2), .slice ar c.Ret.length cr] 116 (0, 0))).alloc (.cells #[.slice none 0 0, .slice none 0 0, .bool false, .slice none 0 0, .slice none 0 0] 83 (0, 0))).alloc (.cells #[] 116 (0, 0))) from (by with_reducible (repeat (first | assumption | exact Ext.refl _ | refine Ext.alloc' ?_ _ | refine Ext.store0 ?_ _ _ | refine Ext.storek ?_ _ _ _ | refine Ext.stores0 ?_ ?_ _ _ | refine Ext.storesk ?_ ?_ _ _ _ | refine Ext.drewN' ?_ _ | refine Ext.drew' ?_ | refine Ext.trans ?_ (by assumption))))).keep) (by omega) hC ?_; intro cap4 w4 cells rows hb4 hc1 hc2 hB hR hRl hRR; have B0 : Box w4 w.heap.size #[.slice aw s.M.W.length cw, .slice ag s.M.G.length cg, .bool s.M.bad, .slice ac s.C.length cc, .slice al s.L.length cl] 83 := ((((Box.new _ _ _).alloc _).alloc _).alloc _).ext hb4; have B1 : Box w4 (w.heap.size + 1) #[.slice af c.F.length cf, .int .i64 c.V, .int .i64 c.E, .int .i64 (gi c.X 0), .int .i64 (gi c.X 1), .int .i64 (gi c.X 2), .slice ar c.Ret.length cr] 116 := (((Box.newAt _ _ _ (by simp)).alloc _).alloc _).ext hb4; have B2 : Box w4 (w.heap.size + 1 + 1) #[.slice none 0 0, .slice none 0 0, .bool false, .slice none 0 0, .slice none 0 0] 83 := ((Box.newAt _ _ _ (by simp)).alloc _).ext hb4; have hB : Box w4 (w.heap.size + 1 + 1 + 1 + 1) cells 116 := (by simpa using hB); have hE4 : Ext w w4 := (show Ext w ((((w.alloc (.cells #[.slice aw s.M.W.length cw, .slice ag s.M.G.length cg, .bool s.M.bad, .slice ac s.C.length cc, .slice al s.L.length cl] 83 (0, 0))).alloc (.cells #[.slice af c.F.length cf, .int .i64 c.V, .int .i64 c.E, .int .i64 (gi c.X 0), .int .i64 (gi c.X 1), .int .i64 (gi c.X 2), .slice ar c.Ret.length cr] 116 (0, 0))).alloc (.cells #[.slice none 0 0, .slice none 0 0, .bool false, .slice none 0 0, .slice none 0 0] 83 (0, 0))).alloc (.cells #[] 116 (0, 0))) from (by with_reducible (repeat (first | assumption | exact Ext.refl _ | refine Ext.alloc' ?_ _ | refine Ext.store0 ?_ _ _ | refine Ext.storek ?_ _ _ _ | refine Ext.stores0 ?_ ?_ _ _ | refine Ext.storesk ?_ ?_ _ _ _ | refine Ext.drewN' ?_ _ | refine Ext.drew' ?_ | refine Ext.trans ?_ (by assumption))))).trans hb4; have kW : Keep (Bx N w.heap.size (w.heap.size + 10)) ((((w.alloc (.cells #[.slice aw s.M.W.length cw, .slice ag s.M.G.length cg, .bool s.M.bad, .slice ac s.C.length cc, .slice al s.L.length cl] 83 (0, 0))).alloc (.cells #[.slice af c.F.length cf, .int .i64 c.V, .int .i64 c.E, .int .i64 (gi c.X 0), .int .i64 (gi c.X 1), .int .i64 (gi c.X 2), .slice ar c.Ret.length cr] 116 (0, 0))).alloc (.cells #[.slice none 0 0, .slice none 0 0, .bool false, .slice none 0 0, .slice none 0 0] 83 (0, 0))).alloc (.cells #[] 116 (0, 0))) w4 := hb4.keep; obtain ⟨p0, p1, p2, p3, p4, d0, d1, d2, d3, d4⟩ := cells5 B0; obtain ⟨r0, r1, r2, r3, r4, r5, r6, q0, q1, q2, q3, q4, q5, q6⟩ := cells7 B1; obtain ⟨e0, e1, e2, e3, e4, f0, f1, f2, f3, f4⟩ := cells5 B2; have z0 := B0.lt; have z1 := B1.lt; have z2 := B2.lt; have zb := hB.lt; obtain ⟨rk, hrk⟩ := getSome (show k < rows.length by omega); obtain ⟨g0, g1, g2, g3, g4, g5, g6, rfl⟩ := list7 (hR k rk hrk).1; have m0 := hB.cell (off := k * 7) (c := g0) (by rw [nth_eq]; simpa using (hR k _ hrk).2 0 _ rfl); have m1 := hB.cell (off := k * 7 + 1) (c := g1) (by rw [nth_eq]; simpa using (hR k _ hrk).2 1 _ rfl); have m2 := hB.cell (off := k * 7 + 2) (c := g2) (by rw [nth_eq]; simpa using (hR k _ hrk).2 2 _ rfl); have m3 := hB.cell (off := k * 7 + 3) (c := g3) (by rw [nth_eq]; simpa using (hR k _ hrk).2 3 _ rfl); have m4 := hB.cell (off := k * 7 + 4) (c := g4) (by rw [nth_eq]; simpa using (hR k _ hrk).2 4 _ rfl); have m5 := hB.cell (off := k * 7 + 5) (c := g5) (by rw [nth_eq]; simpa using (hR k _ hrk).2 5 _ rfl); have m6 := hB.cell (off := k * 7 + 6) (c := g6) (by rw [nth_eq]; simpa using (hR k _ hrk).2 6 _ rfl); have n0 := hB.frozen (off := k * 7); have n1 := hB.frozen (off := k * 7 + 1); have n2 := hB.frozen (off := k * 7 + 2); have n3 := hB.frozen (off := k * 7 + 3); have n4 := hB.frozen (off := k * 7 + 4); have n5 := hB.frozen (off := k * 7 + 5); have n6 := hB.frozen (off := k * 7 + 6))
  have y0 := RowsIn.set (sz := 7) hR hrk (o := 0) (by decide) (.slice af c.F.length cf)
  have y1 := RowsIn.set y0 (set_at (by first | omega | (simp; omega))) (o := 1) (by decide) (.int .i64 c.V)
  have y2 := RowsIn.set y1 (set_at (by first | omega | (simp; omega))) (o := 2) (by decide) (.int .i64 c.E)
  have y3 := RowsIn.set y2 (set_at (by first | omega | (simp; omega))) (o := 3) (by decide) (.int .i64 (gi c.X 0))
  have y4 := RowsIn.set y3 (set_at (by first | omega | (simp; omega))) (o := 4) (by decide) (.int .i64 (gi c.X 1))
  have y5 := RowsIn.set y4 (set_at (by first | omega | (simp; omega))) (o := 5) (by decide) (.int .i64 (gi c.X 2))
  have y6 := RowsIn.set y5 (set_at (by first | omega | (simp; omega))) (o := 6) (by decide) (.slice ar c.Ret.length cr)
  rw [List.set_set, List.set_set, List.set_set, List.set_set, List.set_set, List.set_set] at y6
  refine bodyPost_ret (ret_cell ((((((((((((B2.setOther (by omega) _).setOther (by omega) _).setOther (by omega) _).setOther (by omega) _).setOther (by omega) _).setOther (by omega) _).setOther (by omega) _).setCell _).setCell _).setCell _).setCell _).setCell _) Proofs.Try.results92 rfl Proofs.Try.underlying83 rfl (by kernel_rfl)) rfl ⟨_, rfl, (by with_reducible (repeat (first | assumption | exact Ext.refl _ | refine Ext.alloc' ?_ _ | refine Ext.store0 ?_ _ _ | refine Ext.storek ?_ _ _ _ | refine Ext.storen ?_ (by omega) | refine Ext.stores0 ?_ ?_ _ _ | refine Ext.storesk ?_ ?_ _ _ _ | refine Ext.drewN' ?_ _ | refine Ext.drew' ?_ | refine Ext.trans ?_ (by assumption)))), ?_⟩
  refine IsSys.mk rfl (IsInts.keep hw (show Ext w _ from (by with_reducible (repeat (first | assumption | exact Ext.refl _ | refine Ext.alloc' ?_ _ | refine Ext.store0 ?_ _ _ | refine Ext.storek ?_ _ _ _ | refine Ext.storen ?_ (by omega) | refine Ext.stores0 ?_ ?_ _ _ | refine Ext.storesk ?_ ?_ _ _ _ | refine Ext.drewN' ?_ _ | refine Ext.drew' ?_ | refine Ext.trans ?_ (by assumption))))).keep) (IsInts.keep hg (show Ext w _ from (by with_reducible (repeat (first | assumption | exact Ext.refl _ | refine Ext.alloc' ?_ _ | refine Ext.store0 ?_ _ _ | refine Ext.storek ?_ _ _ _ | refine Ext.storen ?_ (by omega) | refine Ext.stores0 ?_ ?_ _ _ | refine Ext.storesk ?_ ?_ _ _ _ | refine Ext.drewN' ?_ _ | refine Ext.drew' ?_ | refine Ext.trans ?_ (by assumption))))).keep) ?_ (IsEvs.keep hl (show Ext w _ from (by with_reducible (repeat (first | assumption | exact Ext.refl _ | refine Ext.alloc' ?_ _ | refine Ext.store0 ?_ _ _ | refine Ext.storek ?_ _ _ _ | refine Ext.storen ?_ (by omega) | refine Ext.stores0 ?_ ?_ _ _ | refine Ext.storesk ?_ ?_ _ _ _ | refine Ext.drewN' ?_ _ | refine Ext.drew' ?_ | refine Ext.trans ?_ (by assumption))))).keep)
  have hrl : rows.length = s.C.length := hRl
  refine cores_of_rows (lo := w.heap.size) (hi := w.heap.size + 10) ((((((((((((hB.setCell _).setCell _).setCell _).setCell _).setCell _).setCell _).setCell _).setOther (by omega) _).setOther (by omega) _).setOther (by omega) _).setOther (by omega) _).setOther (by omega) _) y6 hrl hRR ?_ (fun hx => absurd (hN _ hx) (by omega)) ?_ hc1 hc2
  · exact (by with_reducible (repeat (first | assumption | exact Keep.refl _ _ | refine Keep.alloc ?_ _ | refine Keep.s ?_ (by first | assumption | exact Bx.mem (by omega) (by omega)) | refine Keep.n ?_ (by omega) | refine Keep.ext ?_ (by assumption) | refine Keep.drew ?_)))
  · exact ⟨h3, _, _, rfl, IsFrames.keep hf (show Ext w _ from (by with_reducible (repeat (first | assumption | exact Ext.refl _ | refine Ext.alloc' ?_ _ | refine Ext.store0 ?_ _ _ | refine Ext.storek ?_ _ _ _ | refine Ext.storen ?_ (by omega) | refine Ext.stores0 ?_ ?_ _ _ | refine Ext.storesk ?_ ?_ _ _ _ | refine Ext.drewN' ?_ _ | refine Ext.drew' ?_ | refine Ext.trans ?_ (by assumption))))).keep, IsInts.keep hr (show Ext w _ from (by with_reducible (repeat (first | assumption | exact Ext.refl _ | refine Ext.alloc' ?_ _ | refine Ext.store0 ?_ _ _ | refine Ext.storek ?_ _ _ _ | refine Ext.storen ?_ (by omega) | refine Ext.stores0 ?_ ?_ _ _ | refine Ext.storesk ?_ ?_ _ _ _ | refine Ext.drewN' ?_ _ | refine Ext.drew' ?_ | refine Ext.trans ?_ (by assumption))))).keep⟩

/-- a slice that the call made: it stands in a block from base on -/
def OwnSl {α : Type} (sz : Nat) (e : TypeId) (R : World → α → List Value → Prop) (base : Nat) (w : World) (v : Value) (l : List α) : Prop :=
  ∃ xs, w.ownsRow base e sz v l.length xs ∧ ∀ i x, l[i]? = some x → ∃ r, r.length = sz ∧ (∀ j c, r[j]? = some c → xs[i * sz + j]? = some c) ∧ R w x r
theorem list_lt {α : Type} {l : List α} {k : Nat} {x : α} (h : l[k]? = some x) : k < l.length := by
  rcases Nat.lt_or_ge k l.length with h' | h'
  · exact h'
  · rw [List.getElem?_eq_none h'] at h; cases h
theorem OwnSl.sl {α : Type} {sz : Nat} {e : TypeId} {R : World → α → List Value → Prop} {base : Nat} {w : World} {v : Value} {l : List α} (h : OwnSl sz e R base w v l) {N : Nat → Prop} (hn : ∀ b, base ≤ b → ¬ N b) : IsSl sz R N w v l := by
  obtain ⟨xs, ⟨h1, h2⟩, h3⟩ := h
  rcases h2 with ⟨rfl, h2⟩ | ⟨g, cap, cur, rfl, hb, hg, hc, hm, hs, ht⟩
  · have : l = [] := List.eq_nil_of_length_eq_zero h2
    subst this
    exact ⟨none, 0, rfl, by simp, by omega, fun _ => rfl, fun i x hi => by simp at hi⟩
  · refine ⟨_, cap, rfl, hc, by simpa [maxLen] using hm, fun e => by simp at e, fun i x hi => ?_⟩
    obtain ⟨r, r1, r2, r3⟩ := h3 i x hi
    have hB : Box w g cur e := hg
    refine ⟨g, 0, r, rfl, hB.lt, hn _ hb, r1, fun j c hj => ?_, r3⟩
    have h4 := r2 j c hj
    have h5 := list_lt h4
    rw [Nat.zero_add]
    refine hB.cell ?_
    rw [nth_eq]
    rw [← ht, List.getElem?_take] at h4
    split at h4
    · exact h4
    · cases h4
theorem OwnSl.shape {α : Type} {sz : Nat} {e : TypeId} {R : World → α → List Value → Prop} {base : Nat} {w : World} {v : Value} {l : List α} (h : OwnSl sz e R base w v l) : ∃ a c, v = .slice a l.length c ∧ l.length ≤ c ∧ c ≤ 9223372036854775807 := by
  obtain ⟨xs, ⟨h1, h2⟩, h3⟩ := h
  rcases h2 with ⟨rfl, h2⟩ | ⟨g, cap, cur, rfl, hb, hg, hc, hm, hs, ht⟩
  · exact ⟨none, 0, by rw [h2], by omega, by omega⟩
  · exact ⟨_, _, rfl, hc, by simpa [maxLen] using hm⟩
theorem OwnSl.nil {α : Type} {sz : Nat} {e : TypeId} {R : World → α → List Value → Prop} {base : Nat} {w : World} {g : Nat} (hB : Box w g #[] e) (hb : base ≤ g) : OwnSl (α := α) sz e R base w (.slice (some ⟨g, 0, none⟩) 0 0) [] :=
  ⟨[], ⟨by simp, .inr ⟨g, 0, #[], rfl, hb, hB, Nat.le_refl _, by simp [maxLen], by simp, by simp⟩⟩, fun i x hi => by simp at hi⟩
theorem OwnSl.none_ {α : Type} {sz : Nat} {e : TypeId} {R : World → α → List Value → Prop} {base : Nat} {w : World} : OwnSl (α := α) sz e R base w (.slice none 0 0) [] :=
  ⟨[], ⟨by simp, .inl ⟨rfl, rfl⟩⟩, fun i x hi => by simp at hi⟩
/-- what keeps every block but the slice's own -/
theorem grown_keep {w w' : World} {row : Option Nat} (h : w.grownBy w' row) {N : Nat → Prop} (hN : ∀ k, row = some k → N k) : Keep N w w' :=
  ⟨h.size, fun b hb hn => h.block b hb fun e => hn (hN b e.symm)⟩
theorem grown_ext {a w w' : World} {row : Option Nat} (h : w.grownBy w' row) (ha : Ext a w) (hr : ∀ k, row = some k → a.heap.size ≤ k) : Ext a w' :=
  ⟨h.os.trans ha.os, h.tape.trans ha.tape, h.output.trans ha.output, Nat.le_trans ha.size h.size, fun i hi => (h.block i (Nat.lt_of_lt_of_le hi ha.size) fun e => by have := hr i e.symm; omega).trans (ha.block i hi)⟩
theorem OwnSl.base {α : Type} {sz : Nat} {e : TypeId} {R : World → α → List Value → Prop} {base : Nat} {w : World} {v : Value} {l : List α} (h : OwnSl sz e R base w v l) : ∀ k, v.ownBlock = some k → base ≤ k := by
  obtain ⟨xs, ⟨h1, h2⟩, h3⟩ := h
  rcases h2 with ⟨rfl, h2⟩ | ⟨g, cap, cur, rfl, hb, hg, hc, hm, hs, ht⟩
  · intro k hk; cases hk
  · intro k hk; cases hk; exact hb
theorem OwnSl.keep {α : Type} {sz : Nat} {e : TypeId} {R : World → α → List Value → Prop} {base : Nat} {w w' : World} {v : Value} {l : List α} (h : OwnSl sz e R base w v l) {N : Nat → Prop} (k : Keep N w w') (hn : ∀ b, v.ownBlock = some b → ¬ N b) (hR : ∀ x cs, R w x cs → R w' x cs) : OwnSl sz e R base w' v l := by
  obtain ⟨xs, ⟨h1, h2⟩, h3⟩ := h
  refine ⟨xs, ⟨h1, ?_⟩, fun i x hi => by obtain ⟨r, r1, r2, r3⟩ := h3 i x hi; exact ⟨r, r1, r2, hR _ _ r3⟩⟩
  rcases h2 with ⟨rfl, h2⟩ | ⟨g, cap, cur, rfl, hb, hg, hc, hm, hs, ht⟩
  · exact .inl ⟨rfl, h2⟩
  · have hB : Box w g cur e := hg
    exact .inr ⟨g, cap, cur, rfl, hb, hB.keep k (hn g rfl), hc, hm, hs, ht⟩
theorem src_nil {t e : TypeId} {sz : Nat} (ht : Proofs.Try.prog.underlying t = some (.slice e)) (w : World) : Src Proofs.Try.prog sz t (.slice none 0 0) 0 [] w where
  kind := .inl ⟨e, ht⟩
  len := fun w' => by simp [Builtin.lenOf]
  cells := by simp [Builtin.firstCells]
  cellsD := by simp [Builtin.firstCells]
  newsLen := by simp
  one := fun u hu => by simp at hu
theorem run_append_osl {α : Type} {sz : Nat} {R : World → α → List Value → Prop} {N : Nat → Prop} {w : World} {v vx : Value} {l1 l2 : List α} {t ty e : TypeId} {z : Value} {base : Nat} (hT : RowType t e sz z) (hzs : z.cells.size = sz) (hsz : 0 < sz) (h1 : OwnSl sz e R base w v l1) (h2 : IsSl sz R N w vx l2)
    (hone : ∀ x cs, R w x cs → ∀ c ∈ cs, c.oneCell' = true) (hR : ∀ w', w.grownBy w' v.ownBlock → ∀ x cs, R w x cs → R w' x cs) (hl : l1.length + l2.length ≤ 100000) (hbase : base ≤ w.heap.size) :
    ∃ a' c' w', (Builtin.append_ #[t, t] ty #[v, vx]).run Proofs.Try.prog w = .ok (.slice a' (l1 ++ l2).length c') w' ∧ OwnSl sz e R base w' (.slice a' (l1 ++ l2).length c') (l1 ++ l2) ∧ w.grownBy w' v.ownBlock := by
  obtain ⟨i, hi, hz, hs, hb⟩ := hT.info
  obtain ⟨cs, k1, k2, k3, a, cap, rfl, k6, k7, k8, k9⟩ := IsSl.flat hsz h2
  have h1' := h1
  obtain ⟨xs, hown, hxs⟩ := h1
  cases a with
  | none =>
    have hc0 := k8 rfl
    subst hc0
    have : l2 = [] := List.eq_nil_of_length_eq_zero (by omega)
    subst this
    obtain ⟨av, cv, rfl, hv1, _⟩ := h1'.shape
    have := run_append_nothing (P := Proofs.Try.prog) w t t ty e i hT.slice hi av l1.length cv hv1 (.slice none 0 0) (src_nil hT.slice w)
    refine ⟨av, cv, w, ?_, ?_, ?_⟩
    · simpa using this
    · simpa using h1'
    · exact ⟨rfl, rfl, rfl, Nat.le_refl _, fun _ _ _ => rfl⟩
  | some p =>
    obtain ⟨v', w', hrun, ho, hg, _⟩ := run_append_own (P := Proofs.Try.prog) w base t ty e i z sz i.bytes hT.slice hi hz hs rfl hzs hsz v l1.length xs hown p l2.length cap cs k1 (k9 p rfl)
      (fun c hc => by obtain ⟨i, x, r, _, hr, hcr⟩ := k3 c hc; exact hone x r hr c hcr) (by simp [maxLen]; omega) (Nat.le_trans (Nat.mul_le_mul hl hb) (by decide)) hbase
    have hO : OwnSl sz e R base w' v' (l1 ++ l2) := by
      refine ⟨xs ++ cs, by rw [List.length_append]; exact ho, fun i x hi => ?_⟩
      by_cases hil : i < l1.length
      · rw [List.getElem?_append_left hil] at hi
        obtain ⟨r, r1, r2, r3⟩ := hxs i x hi
        refine ⟨r, r1, fun j c hj => ?_, hR _ hg _ _ r3⟩
        have h4 := r2 j c hj
        rw [List.getElem?_append_left (list_lt h4)]; exact h4
      · rw [List.getElem?_append_right (by omega)] at hi
        obtain ⟨r, r1, r2, r3⟩ := k2 _ x hi
        refine ⟨r, r1, fun j c hj => ?_, hR _ hg _ _ r3⟩
        have h4 := r2 j c hj
        have hxl : xs.length = l1.length * sz := hown.1
        have hle : l1.length * sz ≤ i * sz := Nat.mul_le_mul_right _ (by omega)
        rw [List.getElem?_append_right (by omega), hxl]
        rw [show i * sz + j - l1.length * sz = (i - l1.length) * sz + j by rw [Nat.sub_mul]; omega]
        exact h4
    obtain ⟨a', c', e', _⟩ := hO.shape
    subst e'
    exact ⟨a', c', w', hrun, hO, hg⟩
section
variable {ops : Array Oper} {rest : List Oper} {o : Oper} {a : Act} {Q : Exit → Act → World → Prop} {w : World}
theorem wpList_append_osl {α : Type} {sz : Nat} {R : World → α → List Value → Prop} {N : Nat → Prop} {v vx : Value} {l1 l2 : List α} {t e : TypeId} {z : Value} {base : Nat} (s x : Operand) (hg : o.guard = none) (hop : o.op = Op.call { callee := Callee.builtin Builtin.append, args := #[s, x], argTypes := #[t, t] })
    (hs : a.eval s = v) (hx : a.eval x = vx) (hT : RowType t e sz z) (hzs : z.cells.size = sz) (hsz : 0 < sz) (h1 : OwnSl sz e R base w v l1) (h2 : IsSl sz R N w vx l2)
    (hone : ∀ x cs, R w x cs → ∀ c ∈ cs, c.oneCell' = true) (hR : ∀ w', w.grownBy w' v.ownBlock → ∀ x cs, R w x cs → R w' x cs) (hl : l1.length + l2.length ≤ 100000) (hbase : base ≤ w.heap.size)
    (hK : ∀ a' c' w', OwnSl sz e R base w' (.slice a' (l1 ++ l2).length c') (l1 ++ l2) → w.grownBy w' v.ownBlock → wpList Proofs.Try.prog ops Q rest (a.put o.dst (.slice a' (l1 ++ l2).length c')) w') : wpList Proofs.Try.prog ops Q (o :: rest) a w := by
  refine wpList_plain hg fun K hK' => ?_
  obtain ⟨a', c', w', hrun, r1, r2⟩ := run_append_osl (ty := o.type) hT hzs hsz h1 h2 hone hR hl hbase
  unfold Oper.wp
  simp [execOp, hop, resolve, invoke, builtin, hs, hx, hrun, Result.andThen]
  have h3 := hK a' c' w' r1 r2
  rw [show (l1 ++ l2).length = l1.length + l2.length from List.length_append] at h3
  exact hK' _ _ h3
end
theorem one_frame {N : Nat → Prop} {w : World} : ∀ x cs, RF N w x cs → ∀ c ∈ cs, c.oneCell' = true := by
  rintro x cs ⟨_, s, rfl, hs⟩ c hc
  obtain ⟨_, _, rfl, _⟩ := hs.opened
  simp [frameCells] at hc
  rcases hc with rfl | rfl | rfl | rfl | rfl | rfl | rfl | rfl | rfl | rfl | rfl <;> rfl
theorem one_core {N : Nat → Prop} {w : World} : ∀ x cs, RC N w x cs → ∀ c ∈ cs, c.oneCell' = true := by
  rintro x cs ⟨_, f, r, rfl, hf, hr⟩ c hc
  obtain ⟨_, _, rfl, _⟩ := hr.opened
  obtain ⟨_, _, rfl, _⟩ := IsSl.opened hf
  simp [coreCells] at hc
  rcases hc with rfl | rfl | rfl | rfl | rfl | rfl | rfl <;> rfl
theorem one_ev {w : World} : ∀ x cs, RE w x cs → ∀ c ∈ cs, c.oneCell' = true := by
  rintro x cs rfl c hc
  simp at hc
  rcases hc with rfl | rfl | rfl | rfl | rfl <;> rfl
theorem zs11 : (Value.agg #[.int .i64 0, .int .i64 0, .int .i64 0, .int .i64 0, .int .i64 0, .int .i64 0, .int .i64 0, .int .i64 0, .int .i64 0, .int .i64 0, .slice none 0 0]).cells.size = 11 := by kernel_rfl
theorem zs5 : (Value.agg #[.int .i64 0, .int .i64 0, .int .i64 0, .int .i64 0, .int .i64 0]).cells.size = 5 := by kernel_rfl
theorem zs7 : zeroC.cells.size = 7 := by kernel_rfl

/-- N, and what is made from a world on -/
def Up (N : Nat → Prop) (w : World) : Nat → Prop := fun b => N b ∨ w.heap.size ≤ b
theorem Up.mem {N : Nat → Prop} {w : World} {x : Nat} (h : w.heap.size ≤ x) : Up N w x := .inr h
theorem Up.bx {N : Nat → Prop} {w : World} {hi x : Nat} (h : Bx N w.heap.size hi x) : Up N w x := h.elim .inl fun q => .inr q.1
theorem IsSys.up {N : Nat → Prop} {w : World} {v : Value} {s : SysD} (h : IsSys N w v s) : IsSys (Up N w) w v s := h.less fun _ hx hn => hn.elim id fun k => absurd k (by omega)
theorem IsInts.up {N : Nat → Prop} {w : World} {v : Value} {l : List Int} (h : IsInts N w v l) : IsInts (Up N w) w v l := h.less fun _ hx hn => hn.elim id fun k => absurd k (by omega)
theorem IsSys.bx {N : Nat → Prop} {w w' : World} {hi : Nat} {v : Value} {s : SysD} (h : IsSys (Up N w) w' v s) : IsSys (Bx N w.heap.size hi) w' v s := h.less fun _ _ hn => Up.bx hn
theorem IsInts.bx {N : Nat → Prop} {w w' : World} {hi : Nat} {v : Value} {l : List Int} (h : IsInts (Up N w) w' v l) : IsInts (Bx N w.heap.size hi) w' v l := h.less fun _ _ hn => Up.bx hn
theorem IsFrames.up {N : Nat → Prop} {w : World} {v : Value} {l : List FrameD} (h : IsFrames N w v l) : IsFrames (Up N w) w v l := IsFrames.less h fun _ hx hn => hn.elim id fun k => absurd k (by omega)
theorem OwnSl.lt {α : Type} {sz : Nat} {e : TypeId} {R : World → α → List Value → Prop} {base : Nat} {w : World} {v : Value} {l : List α} (h : OwnSl sz e R base w v l) : ∀ k, v.ownBlock = some k → k < w.heap.size := by
  obtain ⟨xs, ⟨h1, h2⟩, h3⟩ := h
  rcases h2 with ⟨rfl, h2⟩ | ⟨g, cap, cur, rfl, hb, hg, hc, hm, hs, ht⟩
  · intro k hk; cases hk
  · intro k hk; cases hk
    have hB : Box w g cur e := hg
    exact hB.lt
theorem OwnSl.extF {N : Nat → Prop} {base : Nat} {w w' : World} {v : Value} {l : List FrameD} (h : OwnSl 11 95 (RF N) base w v l) (k : Ext w w') : OwnSl 11 95 (RF N) base w' v l :=
  h.keep (N := no) k.keep (fun _ _ => id) fun _ _ h => h.keep k.keep
theorem IsSl.one {α : Type} {sz : Nat} {R : World → α → List Value → Prop} {w : World} {b : Nat} {cs : List Value} {e : TypeId} {x : α} (hB : Box w b cs.toArray e) (hs : cs.length = sz) (hR : R w x cs) : IsSl sz R no w (.slice (some ⟨b, 0, none⟩) 1 1) [x] := by
  refine ⟨_, 1, rfl, by simp, by omega, fun e => by simp at e, fun i y hi => ?_⟩
  have h0 : i = 0 := by have := list_lt hi; simp at this; omega
  subst h0
  simp at hi; subst hi
  refine ⟨b, 0, cs, rfl, hB.lt, id, hs, fun j c hj => ?_, hR⟩
  simp only [Nat.zero_mul, Nat.zero_add]
  exact hB.cell (by rw [nth_eq]; simpa using hj)
section
variable {ops : Array Oper} {rest : List Oper} {o : Oper} {a : Act} {Q : Exit → Act → World → Prop} {w : World}
theorem wpList_append_frames {N M : Nat → Prop} {v vx : Value} {l1 l2 : List FrameD} {base : Nat} (s x : Operand) (hg : o.guard = none) (hop : o.op = Op.call { callee := Callee.builtin Builtin.append, args := #[s, x], argTypes := #[114, 114] })
    (hs : a.eval s = v) (hx : a.eval x = vx) (h1 : OwnSl 11 95 (RF N) base w v l1) (h2 : IsSl 11 (RF N) M w vx l2) (hN : ∀ k, base ≤ k → N k) (hl : l1.length + l2.length ≤ 100000) (hbase : base ≤ w.heap.size)
    (hK : ∀ a' n' c' w', Hid (n' = (l1 ++ l2).length) → OwnSl 11 95 (RF N) base w' (.slice a' n' c') (l1 ++ l2) → (∀ b cs t, Box w b cs t → b < base → Box w' b cs t) → (∀ a, Ext a w → a.heap.size ≤ base → Ext a w') → w.heap.size ≤ w'.heap.size → wpList Proofs.Try.prog ops Q rest (a.put o.dst (.slice a' n' c')) w') : wpList Proofs.Try.prog ops Q (o :: rest) a w :=
  wpList_append_osl s x hg hop hs hx rowF zs11 (by decide) h1 h2 one_frame (fun w' g x cs h => RF.keep h (grown_keep g fun k hk => hN k (h1.base k hk))) hl hbase fun a' c' w' ho hgr =>
    hK a' _ c' w' (Lib.hid rfl) ho (fun b cs t hB hb => hB.keep (grown_keep (N := fun k => base ≤ k) hgr fun k hk => h1.base k hk) (by omega)) (fun a ha hsz => grown_ext hgr ha fun k hk => Nat.le_trans hsz (h1.base k hk)) hgr.size
end
theorem nil_ints (N : Nat → Prop) (w : World) : IsInts N w (.slice none 0 0) [] := ⟨none, 0, rfl, by simp, by omega, fun _ => rfl, fun i hi => by simp at hi⟩
theorem frames_set {N : Nat → Prop} {w cur : World} {hi b cap k n : Nat} {cells : Array Value} {rows : List (List Value)} {l : List FrameD} {g : FrameD} {s : Value} (hB : Box cur b cells 95) (hrows : RowsIn 11 cells (rows.set k (frameCells g s))) (hl : rows.length = l.length)
    (hR : ∀ (i : Nat) x r, l[i]? = some x → rows[i]? = some r → RF (Up N w) cur x r) (h8 : g.R.length = 8) (hs : IsInts (Up N w) cur s g.S) (hn : ¬ Bx N w.heap.size hi b) (hln : l.length = n) (hcap : n ≤ cap) (hm : cap ≤ 9223372036854775807) : IsFrames (Bx N w.heap.size hi) cur (.slice (some ⟨b, 0, none⟩) n cap) (l.set k g) := by
  subst hln
  have := IsSl.of_box (sz := 11) (R := RF (Bx N w.heap.size hi)) (N := Bx N w.heap.size hi) (cap := cap) (l := l.set k g) hB hn (by simpa using hcap) hm (fun i x hi => by
    have hil : i < l.length := by
      rcases Nat.lt_or_ge i l.length with h | h
      · exact h
      · rw [List.getElem?_eq_none (by simpa using h)] at hi; cases hi
    by_cases hik : k = i
    · subst hik
      rw [set_at hil] at hi; cases hi
      have := hrows k _ (set_at (by omega))
      exact ⟨_, this.1, this.2, h8, s, rfl, hs.less fun _ _ h => Up.bx h⟩
    · rw [List.getElem?_set_ne hik] at hi
      obtain ⟨r, hr⟩ := getSome (show i < rows.length by omega)
      have := hrows i r (by rw [List.getElem?_set_ne hik]; exact hr)
      exact ⟨r, this.1, this.2, (hR i x r hi hr).less fun _ _ h => Up.bx h⟩)
  simpa using this
section
variable {ops : Array Oper} {rest : List Oper} {o : Oper} {a : Act} {Q : Exit → Act → World → Prop} {w : World}
theorem wpList_append_alln {α : Type} {sz : Nat} {R : World → α → List Value → Prop} {N : Nat → Prop} {l : List α} {t e : TypeId} {z v : Value} {a0 : Addr} (n : Nat) (hn : l.length = n) (s x : Operand) (hg : o.guard = none) (hop : o.op = Op.call { callee := Callee.builtin Builtin.append, args := #[s, x], argTypes := #[t, t] })
    (hs : a.eval s = .slice (some a0) 0 0) (hx : a.eval x = v) (hT : RowType t e sz z) (hsz : 0 < sz) (h : IsSl sz R N w v l) (h0 : 0 < n) (hl : n ≤ 100000)
    (hK : ∀ cap w' cells rows, Ext w w' → n ≤ cap → cap ≤ 9223372036854775807 → Box w' w.heap.size cells e → RowsIn sz cells rows → rows.length = n → (∀ (i : Nat) x r, l[i]? = some x → rows[i]? = some r → R w x r) →
      wpList Proofs.Try.prog ops Q rest (a.put o.dst (.slice (some ⟨w.heap.size, 0, none⟩) n cap)) w') : wpList Proofs.Try.prog ops Q (o :: rest) a w := by
  subst hn
  exact wpList_append_all s x hg hop hs hx hT hsz h h0 hl hK
end
theorem list11 {l : List Value} (h : l.length = 11) : ∃ a b c d e f g i j k m, l = [a, b, c, d, e, f, g, i, j, k, m] := by
  match l, h with
  | [a, b, c, d, e, f, g, i, j, k, m], _ => exact ⟨a, b, c, d, e, f, g, i, j, k, m, rfl⟩

theorem IsCoreV.mk {N : Nat → Prop} {w : World} {f r : Value} {c : CoreD} (h3 : c.X.length = 3) (hf : IsFrames N w f c.F) (hr : IsInts N w r c.Ret) : IsCoreV N w (.agg #[f, .int .i64 c.V, .int .i64 c.E, .int .i64 (gi c.X 0), .int .i64 (gi c.X 1), .int .i64 (gi c.X 2), r]) c :=
  ⟨_, rfl, h3, f, r, rfl, hf, hr⟩
theorem OwnSl.frames {N : Nat → Prop} {w w1 w2 : World} {lo hi base : Nat} {v : Value} {l : List FrameD} (h : OwnSl 11 95 (RF (Up N w)) base w1 v l) (hN : ∀ b, base ≤ b → ¬ Bx N lo hi b) (k : Keep (Bx N lo hi) w1 w2) (hlo : w.heap.size ≤ lo := by omega) : IsFrames (Bx N lo hi) w2 v l := by
  have h1 : IsSl 11 (RF (Up N w)) (Bx N lo hi) w1 v l := h.sl hN
  have h2 : IsSl 11 (RF (Bx N lo hi)) (Bx N lo hi) w1 v l := IsSl.less h1 (fun _ _ h => h) fun _ _ _ h => h.less fun _ _ h => h.elim .inl fun q => .inr (Nat.le_trans hlo q.1)
  exact IsFrames.keep h2 k
set_option maxHeartbeats 1000000 in
set_option maxRecDepth 100000 in
theorem refCall_ (N : Nat → Prop) (va : Value) (s : SysD) (id op a1 b1 c1 : Int) (w : World) (h : IsSys N w va s) (hN : ∀ b, N b → b < w.heap.size) (hC : s.C.length ≤ 100000) :
    Gives Proofs.Try.prog 88 #[va, .int .i64 id, .int .i64 op, .int .i64 a1, .int .i64 b1, .int .i64 c1] w (fun r w' => IsSys N w' r (callS s id op [a1, b1, c1])) := by
  obtain ⟨aw, cw, ag, cg, ac, cc, al, cl, rfl, hw, hg, hc, hl⟩ := h.opened
  cases hh : hasD s id
  · have hd : callS s id op [a1, b1, c1] = s := by simp [callS, hh]
    rw [hd]
    by_cases q : id < 0
    · clear hh hd
      go_enter Proofs.Try.func88, Proofs.Try.ntmps88
      go_wp2
      exact bodyPost_ret (ret_cell (Box.newAt _ _ _ (by first | rfl | simp)) Proofs.Try.results88 rfl Proofs.Try.underlying83 rfl (by kernel_rfl)) rfl ⟨_, rfl, (by with_reducible (repeat (first | assumption | exact Ext.refl _ | refine Ext.alloc' ?_ _ | refine Ext.store0 ?_ _ _ | refine Ext.storek ?_ _ _ _ | refine Ext.storen ?_ (by omega) | refine Ext.stores0 ?_ ?_ _ _ | refine Ext.storesk ?_ ?_ _ _ _ | refine Ext.drewN' ?_ _ | refine Ext.drew' ?_ | refine Ext.trans ?_ (by assumption)))), IsSys.mk rfl (hw.ext (by with_reducible (repeat (first | assumption | exact Ext.refl _ | refine Ext.alloc' ?_ _ | refine Ext.store0 ?_ _ _ | refine Ext.storek ?_ _ _ _ | refine Ext.storen ?_ (by omega) | refine Ext.stores0 ?_ ?_ _ _ | refine Ext.storesk ?_ ?_ _ _ _ | refine Ext.drewN' ?_ _ | refine Ext.drew' ?_ | refine Ext.trans ?_ (by assumption))))) (hg.ext (by with_reducible (repeat (first | assumption | exact Ext.refl _ | refine Ext.alloc' ?_ _ | refine Ext.store0 ?_ _ _ | refine Ext.storek ?_ _ _ _ | refine Ext.storen ?_ (by omega) | refine Ext.stores0 ?_ ?_ _ _ | refine Ext.storesk ?_ ?_ _ _ _ | refine Ext.drewN' ?_ _ | refine Ext.drew' ?_ | refine Ext.trans ?_ (by assumption))))) (IsCores.keep hc (show Ext w _ from (by with_reducible (repeat (first | assumption | exact Ext.refl _ | refine Ext.alloc' ?_ _ | refine Ext.store0 ?_ _ _ | refine Ext.storek ?_ _ _ _ | refine Ext.storen ?_ (by omega) | refine Ext.stores0 ?_ ?_ _ _ | refine Ext.storesk ?_ ?_ _ _ _ | refine Ext.drewN' ?_ _ | refine Ext.drew' ?_ | refine Ext.trans ?_ (by assumption))))).keep) (IsEvs.keep hl (show Ext w _ from (by with_reducible (repeat (first | assumption | exact Ext.refl _ | refine Ext.alloc' ?_ _ | refine Ext.store0 ?_ _ _ | refine Ext.storek ?_ _ _ _ | refine Ext.storen ?_ (by omega) | refine Ext.stores0 ?_ ?_ _ _ | refine Ext.storesk ?_ ?_ _ _ _ | refine Ext.drewN' ?_ _ | refine Ext.drew' ?_ | refine Ext.trans ?_ (by assumption))))).keep)⟩
    · have q2 : (s.C.length : Int) ≤ id := (by simp [hasD] at hh; omega)
      clear hh hd
      go_enter Proofs.Try.func88, Proofs.Try.ntmps88
      go_wp2
      exact bodyPost_ret (ret_cell (Box.newAt _ _ _ (by first | rfl | simp)) Proofs.Try.results88 rfl Proofs.Try.underlying83 rfl (by kernel_rfl)) rfl ⟨_, rfl, (by with_reducible (repeat (first | assumption | exact Ext.refl _ | refine Ext.alloc' ?_ _ | refine Ext.store0 ?_ _ _ | refine Ext.storek ?_ _ _ _ | refine Ext.storen ?_ (by omega) | refine Ext.stores0 ?_ ?_ _ _ | refine Ext.storesk ?_ ?_ _ _ _ | refine Ext.drewN' ?_ _ | refine Ext.drew' ?_ | refine Ext.trans ?_ (by assumption)))), IsSys.mk rfl (hw.ext (by with_reducible (repeat (first | assumption | exact Ext.refl _ | refine Ext.alloc' ?_ _ | refine Ext.store0 ?_ _ _ | refine Ext.storek ?_ _ _ _ | refine Ext.storen ?_ (by omega) | refine Ext.stores0 ?_ ?_ _ _ | refine Ext.storesk ?_ ?_ _ _ _ | refine Ext.drewN' ?_ _ | refine Ext.drew' ?_ | refine Ext.trans ?_ (by assumption))))) (hg.ext (by with_reducible (repeat (first | assumption | exact Ext.refl _ | refine Ext.alloc' ?_ _ | refine Ext.store0 ?_ _ _ | refine Ext.storek ?_ _ _ _ | refine Ext.storen ?_ (by omega) | refine Ext.stores0 ?_ ?_ _ _ | refine Ext.storesk ?_ ?_ _ _ _ | refine Ext.drewN' ?_ _ | refine Ext.drew' ?_ | refine Ext.trans ?_ (by assumption))))) (IsCores.keep hc (show Ext w _ from (by with_reducible (repeat (first | assumption | exact Ext.refl _ | refine Ext.alloc' ?_ _ | refine Ext.store0 ?_ _ _ | refine Ext.storek ?_ _ _ _ | refine Ext.storen ?_ (by omega) | refine Ext.stores0 ?_ ?_ _ _ | refine Ext.storesk ?_ ?_ _ _ _ | refine Ext.drewN' ?_ _ | refine Ext.drew' ?_ | refine Ext.trans ?_ (by assumption))))).keep) (IsEvs.keep hl (show Ext w _ from (by with_reducible (repeat (first | assumption | exact Ext.refl _ | refine Ext.alloc' ?_ _ | refine Ext.store0 ?_ _ _ | refine Ext.storek ?_ _ _ _ | refine Ext.storen ?_ (by omega) | refine Ext.stores0 ?_ ?_ _ _ | refine Ext.storesk ?_ ?_ _ _ _ | refine Ext.drewN' ?_ _ | refine Ext.drew' ?_ | refine Ext.trans ?_ (by assumption))))).keep)⟩
  · obtain ⟨k, rfl⟩ : ∃ k : Nat, id = k := ⟨id.toNat, by simp [hasD] at hh; omega⟩
    have hk : k < s.C.length := by simp [hasD] at hh; omega
    have q0 : ¬ (k : Int) < 0 := by omega
    have q1 : ¬ (s.C.length : Int) ≤ (k : Int) := by omega
    have q3 : ¬ s.C.length ≤ k := by omega
    obtain ⟨co, hck⟩ := getSome hk
    obtain ⟨bc, oc, af, cf, ar, cr, rfl, xc, nc, hx3, hf, hr, e0, e1, e2, e3, e4, e5, e6⟩ := IsCores.at hc hck
    by_cases hfull : co.F.length < 40
    · have hf1 : ¬ (40 : Int) ≤ (co.F.length : Int) := by omega
      have hd : callS s k op [a1, b1, c1] = withS s k (callC co (newF op [a1, b1, c1])) := by simp [callS, hh, hck, hfull]
      rw [hd]
      have hfU := IsFrames.up hf
      have hN1 : ∀ b, w.heap.size + 1 + 1 + 1 ≤ b → ¬ Bx N w.heap.size (w.heap.size + 3) b := fun b hb hn => hn.elim (fun hn => by have := hN b hn; omega) fun q => by have := q.2; omega
      have hwB := IsInts.less hw (M := Bx N w.heap.size (w.heap.size + 3)) fun x hx hn => Bx.new hx hn
      have hgB := IsInts.less hg (M := Bx N w.heap.size (w.heap.size + 3)) fun x hx hn => Bx.new hx hn
      have hcB := IsCores.less hc (M := Bx N w.heap.size (w.heap.size + 3)) fun x hx hn => Bx.new hx hn
      have hlB := IsEvs.less hl (M := Bx N w.heap.size (w.heap.size + 3)) fun x hx hn => Bx.new hx hn
      have hrB := IsInts.less hr (M := Bx N w.heap.size (w.heap.size + 3)) fun x hx hn => Bx.new hx hn
      clear hh hd hck
      go_enter Proofs.Try.func88, Proofs.Try.ntmps88
      go_wp2_with (first | (at_builtin; refine wpList_append_frames (base := w.heap.size + 1 + 1 + 1) (.tmp 40) (.tmp 42) rfl rfl rfl rfl (OwnSl.nil (Box.newAt _ _ _ (by first | rfl | simp)) (Nat.le_refl _)) (IsFrames.keep hfU (show Ext w _ from (by with_reducible (repeat (first | assumption | exact Ext.refl _ | refine Ext.alloc' ?_ _ | refine Ext.store0 ?_ _ _ | refine Ext.storek ?_ _ _ _ | refine Ext.stores0 ?_ ?_ _ _ | refine Ext.storesk ?_ ?_ _ _ _ | refine Ext.drewN' ?_ _ | refine Ext.drew' ?_ | refine Ext.trans ?_ (by assumption))))).keep) (fun k hk => .inr (by omega)) (by first | omega | (simp <;> omega)) (by first | omega | (simp <;> omega)) ?_; intro fa1 fa1n fc1 w1 Hfa1 ho1 kb1 kx1 ks1; have hb1 : Ext w w1 := kx1 w (by with_reducible (repeat (first | assumption | exact Ext.refl _ | refine Ext.alloc' ?_ _ | refine Ext.store0 ?_ _ _ | refine Ext.storek ?_ _ _ _ | refine Ext.stores0 ?_ ?_ _ _ | refine Ext.storesk ?_ ?_ _ _ _ | refine Ext.drewN' ?_ _ | refine Ext.drew' ?_ | refine Ext.trans ?_ (by assumption)))) (by omega); have B0_1 : Box w1 (w.heap.size) #[.slice aw s.M.W.length cw, .slice ag s.M.G.length cg, .bool s.M.bad, .slice (some ⟨bc, oc, none⟩) s.C.length cc, .slice al s.L.length cl] 83 := kb1 _ _ _ ((((Box.newAt _ _ _ (by first | rfl | simp)).alloc _).alloc _).alloc _) (by omega); have B1_1 : Box w1 (w.heap.size + 1) #[.slice none 0 0, .slice none 0 0, .bool false, .slice none 0 0, .slice none 0 0] 83 := kb1 _ _ _ (((Box.newAt _ _ _ (by first | rfl | simp)).alloc _).alloc _) (by omega); have B2_1 : Box w1 (w.heap.size + 1 + 1) #[.slice af co.F.length cf, .int .i64 co.V, .int .i64 co.E, .int .i64 (gi co.X 0), .int .i64 (gi co.X 1), .int .i64 (gi co.X 2), .slice ar co.Ret.length cr] 116 := kb1 _ _ _ ((Box.newAt _ _ _ (by first | rfl | simp)).alloc _) (by omega); have s1 : w.heap.size + 4 ≤ w1.heap.size := (by have h := ks1; simp at h; omega); obtain ⟨c0_0, c0_1, c0_2, c0_3, c0_4, d0_0, d0_1, d0_2, d0_3, d0_4⟩ := cells5 B0_1; have z0 : w.heap.size < w1.heap.size := B0_1.lt; obtain ⟨c1_0, c1_1, c1_2, c1_3, c1_4, d1_0, d1_1, d1_2, d1_3, d1_4⟩ := cells5 B1_1; have z1 : w.heap.size + 1 < w1.heap.size := B1_1.lt; obtain ⟨c2_0, c2_1, c2_2, c2_3, c2_4, c2_5, c2_6, d2_0, d2_1, d2_2, d2_3, d2_4, d2_5, d2_6⟩ := cells7 B2_1; have z2 : w.heap.size + 1 + 1 < w1.heap.size := B2_1.lt) | (at_builtin; refine wpList_append_frames (base := w.heap.size + 1 + 1 + 1) (.tmp 44) (.tmp 51) rfl rfl rfl rfl (OwnSl.extF ho1 (by with_reducible (repeat (first | assumption | exact Ext.refl _ | refine Ext.alloc' ?_ _ | refine Ext.store0 ?_ _ _ | refine Ext.storek ?_ _ _ _ | refine Ext.stores0 ?_ ?_ _ _ | refine Ext.storesk ?_ ?_ _ _ _ | refine Ext.drewN' ?_ _ | refine Ext.drew' ?_ | refine Ext.trans ?_ (by assumption))))) (IsSl.one (sz := 11) (cs := frameCells (newF op [a1, b1, c1]) (.slice none 0 0)) (Box.newAt _ _ _ rfl) rfl ⟨rfl, _, rfl, nil_ints _ _⟩) (fun k hk => .inr (by omega)) (by first | omega | (simp <;> omega)) (by first | omega | (simp <;> omega)) ?_; intro fa2 fa2n fc2 w2 Hfa2 ho2 kb2 kx2 ks2; have hb2 : Ext w w2 := kx2 w (by with_reducible (repeat (first | assumption | exact Ext.refl _ | refine Ext.alloc' ?_ _ | refine Ext.store0 ?_ _ _ | refine Ext.storek ?_ _ _ _ | refine Ext.stores0 ?_ ?_ _ _ | refine Ext.storesk ?_ ?_ _ _ _ | refine Ext.drewN' ?_ _ | refine Ext.drew' ?_ | refine Ext.trans ?_ (by assumption)))) (by omega); have B0_2 : Box w2 (w.heap.size) #[.slice aw s.M.W.length cw, .slice ag s.M.G.length cg, .bool s.M.bad, .slice (some ⟨bc, oc, none⟩) s.C.length cc, .slice al s.L.length cl] 83 := kb2 _ _ _ (B0_1.alloc _) (by omega); have B1_2 : Box w2 (w.heap.size + 1) #[.slice none 0 0, .slice none 0 0, .bool false, .slice none 0 0, .slice none 0 0] 83 := kb2 _ _ _ (B1_1.alloc _) (by omega); have B2_2 : Box w2 (w.heap.size + 1 + 1) #[.slice af co.F.length cf, .int .i64 co.V, .int .i64 co.E, .int .i64 (gi co.X 0), .int .i64 (gi co.X 1), .int .i64 (gi co.X 2), .slice ar co.Ret.length cr] 116 := kb2 _ _ _ (B2_1.alloc _) (by omega); clear c0_0 c0_1 c0_2 c0_3 c0_4 d0_0 d0_1 d0_2 d0_3 d0_4 z0 c1_0 c1_1 c1_2 c1_3 c1_4 d1_0 d1_1 d1_2 d1_3 d1_4 z1 c2_0 c2_1 c2_2 c2_3 c2_4 c2_5 c2_6 d2_0 d2_1 d2_2 d2_3 d2_4 d2_5 d2_6 z2; have s2 : w1.heap.size + 1 ≤ w2.heap.size := (by have h := ks2; simp at h; omega); obtain ⟨c0_0, c0_1, c0_2, c0_3, c0_4, d0_0, d0_1, d0_2, d0_3, d0_4⟩ := cells5 B0_2; have z0 : w.heap.size < w2.heap.size := B0_2.lt; obtain ⟨c1_0, c1_1, c1_2, c1_3, c1_4, d1_0, d1_1, d1_2, d1_3, d1_4⟩ := cells5 B1_2; have z1 : w.heap.size + 1 < w2.heap.size := B1_2.lt; obtain ⟨c2_0, c2_1, c2_2, c2_3, c2_4, c2_5, c2_6, d2_0, d2_1, d2_2, d2_3, d2_4, d2_5, d2_6⟩ := cells7 B2_2; have z2 : w.heap.size + 1 + 1 < w2.heap.size := B2_2.lt))
      go_at_call 92
      refine (with_ (Bx N w.heap.size (w.heap.size + 3)) _ _ s k (callC co (newF op [a1, b1, c1])) _ (IsSys.mk rfl (IsInts.keep hwB (by with_reducible (repeat (first | assumption | exact Keep.refl _ _ | refine Keep.alloc ?_ _ | refine Keep.s ?_ (by first | assumption | exact Bx.mem (by omega) (by omega) | exact Up.mem (by omega)) | refine Keep.n ?_ (by omega) | refine Keep.ext ?_ (by assumption) | refine Keep.drew ?_)))) (IsInts.keep hgB (by with_reducible (repeat (first | assumption | exact Keep.refl _ _ | refine Keep.alloc ?_ _ | refine Keep.s ?_ (by first | assumption | exact Bx.mem (by omega) (by omega) | exact Up.mem (by omega)) | refine Keep.n ?_ (by omega) | refine Keep.ext ?_ (by assumption) | refine Keep.drew ?_)))) (IsCores.keep hcB (by with_reducible (repeat (first | assumption | exact Keep.refl _ _ | refine Keep.alloc ?_ _ | refine Keep.s ?_ (by first | assumption | exact Bx.mem (by omega) (by omega) | exact Up.mem (by omega)) | refine Keep.n ?_ (by omega) | refine Keep.ext ?_ (by assumption) | refine Keep.drew ?_)))) (IsEvs.keep hlB (by with_reducible (repeat (first | assumption | exact Keep.refl _ _ | refine Keep.alloc ?_ _ | refine Keep.s ?_ (by first | assumption | exact Bx.mem (by omega) (by omega) | exact Up.mem (by omega)) | refine Keep.n ?_ (by omega) | refine Keep.ext ?_ (by assumption) | refine Keep.drew ?_)))) : IsSys (Bx N w.heap.size (w.heap.size + 3)) _ _ s) (IsCoreV.mk hx3 (OwnSl.frames (lo := w.heap.size) (hi := w.heap.size + 3) ho2 hN1 (by with_reducible (repeat (first | assumption | exact Keep.refl _ _ | refine Keep.alloc ?_ _ | refine Keep.s ?_ (by first | assumption | exact Bx.mem (by omega) (by omega) | exact Up.mem (by omega)) | refine Keep.n ?_ (by omega) | refine Keep.ext ?_ (by assumption) | refine Keep.drew ?_)))) (IsInts.keep hrB (by with_reducible (repeat (first | assumption | exact Keep.refl _ _ | refine Keep.alloc ?_ _ | refine Keep.s ?_ (by first | assumption | exact Bx.mem (by omega) (by omega) | exact Up.mem (by omega)) | refine Keep.n ?_ (by omega) | refine Keep.ext ?_ (by assumption) | refine Keep.drew ?_))))) (fun b hb => (by have h := hb.elim (fun q => (by have := hN b q; omega : b < w.heap.size + 3)) (fun q => (by have := q.2; omega : b < w.heap.size + 3)); simp; omega)) hC hk).calls.mono ?_
      rintro e w3 ⟨_, rfl, hb3, hu3⟩
      obtain ⟨r1, r2, r3, r4, r5, r6, r7, r8, rfl, rW, rG, rC, rL⟩ := hu3.opened
      have B0_3 : Box w3 (w.heap.size) #[.slice aw s.M.W.length cw, .slice ag s.M.G.length cg, .bool s.M.bad, .slice (some ⟨bc, oc, none⟩) s.C.length cc, .slice al s.L.length cl] 83 := (B0_2.setOther (by first | omega | (simp <;> omega)) _).ext hb3
      have B1_3 : Box w3 (w.heap.size + 1) #[.slice none 0 0, .slice none 0 0, .bool false, .slice none 0 0, .slice none 0 0] 83 := (B1_2.setOther (by first | omega | (simp <;> omega)) _).ext hb3
      have B2_3 : Box w3 (w.heap.size + 1 + 1) #[.slice fa2 fa2n fc2, .int .i64 co.V, .int .i64 co.E, .int .i64 (gi co.X 0), .int .i64 (gi co.X 1), .int .i64 (gi co.X 2), .slice ar co.Ret.length cr] 116 := (B2_2.setCell _).ext hb3
      clear c0_0 c0_1 c0_2 c0_3 c0_4 d0_0 d0_1 d0_2 d0_3 d0_4 z0 c1_0 c1_1 c1_2 c1_3 c1_4 d1_0 d1_1 d1_2 d1_3 d1_4 z1 c2_0 c2_1 c2_2 c2_3 c2_4 c2_5 c2_6 d2_0 d2_1 d2_2 d2_3 d2_4 d2_5 d2_6 z2
      have s3 : w2.heap.size ≤ w3.heap.size := (by have h := hb3.size; simp at h; omega)
      obtain ⟨c0_0, c0_1, c0_2, c0_3, c0_4, d0_0, d0_1, d0_2, d0_3, d0_4⟩ := cells5 B0_3
      have z0 : w.heap.size < w3.heap.size := B0_3.lt
      obtain ⟨c1_0, c1_1, c1_2, c1_3, c1_4, d1_0, d1_1, d1_2, d1_3, d1_4⟩ := cells5 B1_3
      have z1 : w.heap.size + 1 < w3.heap.size := B1_3.lt
      obtain ⟨c2_0, c2_1, c2_2, c2_3, c2_4, c2_5, c2_6, d2_0, d2_1, d2_2, d2_3, d2_4, d2_5, d2_6⟩ := cells7 B2_3
      have z2 : w.heap.size + 1 + 1 < w3.heap.size := B2_3.lt
      go_wp2
      exact bodyPost_ret (ret_cell (((((B1_3.setCell _).setCell _).setCell _).setCell _).setCell _) Proofs.Try.results88 rfl Proofs.Try.underlying83 rfl (by kernel_rfl)) rfl ⟨_, rfl, (by with_reducible (repeat (first | assumption | exact Ext.refl _ | refine Ext.alloc' ?_ _ | refine Ext.store0 ?_ _ _ | refine Ext.storek ?_ _ _ _ | refine Ext.storen ?_ (by omega) | refine Ext.stores0 ?_ ?_ _ _ | refine Ext.storesk ?_ ?_ _ _ _ | refine Ext.drewN' ?_ _ | refine Ext.drew' ?_ | refine Ext.trans ?_ (by assumption)))), IsSys.less (IsSys.keep hu3 (by with_reducible (repeat (first | assumption | exact Keep.refl _ _ | refine Keep.alloc ?_ _ | refine Keep.s ?_ (by first | assumption | exact Bx.mem (by omega) (by omega) | exact Up.mem (by omega)) | refine Keep.n ?_ (by omega) | refine Keep.ext ?_ (by assumption) | refine Keep.drew ?_)))) (fun _ _ hn => .inl hn)⟩
    · have hf1 : (40 : Int) ≤ (co.F.length : Int) := by omega
      have hd : callS s k op [a1, b1, c1] = s := by simp [callS, hh, hck, hfull]
      rw [hd]
      clear hh hd hck
      go_enter Proofs.Try.func88, Proofs.Try.ntmps88
      go_wp2
      exact bodyPost_ret (ret_cell (Box.newAt _ _ _ (by first | rfl | simp)) Proofs.Try.results88 rfl Proofs.Try.underlying83 rfl (by kernel_rfl)) rfl ⟨_, rfl, (by with_reducible (repeat (first | assumption | exact Ext.refl _ | refine Ext.alloc' ?_ _ | refine Ext.store0 ?_ _ _ | refine Ext.storek ?_ _ _ _ | refine Ext.storen ?_ (by omega) | refine Ext.stores0 ?_ ?_ _ _ | refine Ext.storesk ?_ ?_ _ _ _ | refine Ext.drewN' ?_ _ | refine Ext.drew' ?_ | refine Ext.trans ?_ (by assumption)))), IsSys.mk rfl (hw.ext (by with_reducible (repeat (first | assumption | exact Ext.refl _ | refine Ext.alloc' ?_ _ | refine Ext.store0 ?_ _ _ | refine Ext.storek ?_ _ _ _ | refine Ext.storen ?_ (by omega) | refine Ext.stores0 ?_ ?_ _ _ | refine Ext.storesk ?_ ?_ _ _ _ | refine Ext.drewN' ?_ _ | refine Ext.drew' ?_ | refine Ext.trans ?_ (by assumption))))) (hg.ext (by with_reducible (repeat (first | assumption | exact Ext.refl _ | refine Ext.alloc' ?_ _ | refine Ext.store0 ?_ _ _ | refine Ext.storek ?_ _ _ _ | refine Ext.storen ?_ (by omega) | refine Ext.stores0 ?_ ?_ _ _ | refine Ext.storesk ?_ ?_ _ _ _ | refine Ext.drewN' ?_ _ | refine Ext.drew' ?_ | refine Ext.trans ?_ (by assumption))))) (IsCores.keep hc (show Ext w _ from (by with_reducible (repeat (first | assumption | exact Ext.refl _ | refine Ext.alloc' ?_ _ | refine Ext.store0 ?_ _ _ | refine Ext.storek ?_ _ _ _ | refine Ext.storen ?_ (by omega) | refine Ext.stores0 ?_ ?_ _ _ | refine Ext.storesk ?_ ?_ _ _ _ | refine Ext.drewN' ?_ _ | refine Ext.drew' ?_ | refine Ext.trans ?_ (by assumption))))).keep) (IsEvs.keep hl (show Ext w _ from (by with_reducible (repeat (first | assumption | exact Ext.refl _ | refine Ext.alloc' ?_ _ | refine Ext.store0 ?_ _ _ | refine Ext.storek ?_ _ _ _ | refine Ext.storen ?_ (by omega) | refine Ext.stores0 ?_ ?_ _ _ | refine Ext.storesk ?_ ?_ _ _ _ | refine Ext.drewN' ?_ _ | refine Ext.drew' ?_ | refine Ext.trans ?_ (by assumption))))).keep)⟩


theorem setC_frames {N : Nat → Prop} {w : World} {v : Value} {c : CoreD} {g : FrameD} {k1 : Nat} (hl : c.F.length = k1 + 1) (h : IsFrames N w v (c.F.set k1 g)) : IsFrames N w v (setC c g).F := by
  have e : (setC c g).F = c.F.set k1 g := by show c.F.set (c.F.length - 1) g = _; rw [hl]; rfl
  rw [e]; exact h
set_option maxHeartbeats 1000000 in
set_option maxRecDepth 100000 in
theorem refSet_ (N : Nat → Prop) (va vf : Value) (s : SysD) (id : Int) (g : FrameD) (w : World) (h : IsSys N w va s) (hf' : IsFrame N w vf g) (hN : ∀ b, N b → b < w.heap.size) (hC : s.C.length ≤ 100000) (hFm : ∀ (i : Nat) c, s.C[i]? = some c → c.F.length ≤ 100000) :
    Gives Proofs.Try.prog 89 #[va, .int .i64 id, vf] w (fun r w' => IsSys N w' r (setS s id g)) := by
  have kt := fun (w' : World) (e : Ext w w') => refTop_ N va s id w' (h.ext e)
  have hsU := h.up
  obtain ⟨aw, cw, ag, cg, ac, cc, al, cl, rfl, hw, hg, hc, hl⟩ := h.opened
  obtain ⟨ga, gc, rfl, g8, gs⟩ := hf'.opened
  have gsU := gs.up
  cases ht : topD s id with
  | none =>
    rw [show (topD s id).isSome = false by rw [ht]; rfl] at kt
    have hd : setS s id g = s := doS_none ht
    rw [hd]
    clear hd ht
    go_enter Proofs.Try.func89, Proofs.Try.ntmps89
    go_wp2_with (fail)
    go_at_call 82
    refine (kt _ (by with_reducible (repeat (first | assumption | exact Ext.refl _ | refine Ext.alloc' ?_ _ | refine Ext.store0 ?_ _ _ | refine Ext.storek ?_ _ _ _ | refine Ext.stores0 ?_ ?_ _ _ | refine Ext.storesk ?_ ?_ _ _ _ | refine Ext.drewN' ?_ _ | refine Ext.drew' ?_ | refine Ext.trans ?_ (by assumption))))).calls.mono ?_
    rintro e w1 ⟨_, rfl, hb1, u, rfl, hu1⟩
    obtain ⟨tf, htf⟩ : ∃ f, topF s id = f := ⟨_, rfl⟩
    rw [htf] at hu1
    clear htf
    obtain ⟨tfa, tfc, rfl, tf8, tfs⟩ := hu1.opened
    have B0_1 : Box w1 (w.heap.size) #[.slice aw s.M.W.length cw, .slice ag s.M.G.length cg, .bool s.M.bad, .slice ac s.C.length cc, .slice al s.L.length cl] 83 := (((Box.newAt _ _ _ (by first | rfl | simp)).alloc _).alloc _).ext hb1
    have B1_1 : Box w1 (w.heap.size + 1) #[.int .i64 g.op, .int .i64 g.pc, .int .i64 (gi g.R 0), .int .i64 (gi g.R 1), .int .i64 (gi g.R 2), .int .i64 (gi g.R 3), .int .i64 (gi g.R 4), .int .i64 (gi g.R 5), .int .i64 (gi g.R 6), .int .i64 (gi g.R 7), .slice ga g.S.length gc] 95 := ((Box.newAt _ _ _ (by first | rfl | simp)).alloc _).ext hb1
    have B2_1 : Box w1 (w.heap.size + 1 + 1) #[.slice none 0 0, .slice none 0 0, .bool false, .slice none 0 0, .slice none 0 0] 83 := (Box.newAt _ _ _ (by first | rfl | simp)).ext hb1
    have s1 : w.heap.size + 3 ≤ w1.heap.size := (by have h := hb1.size; simp at h; omega)
    obtain ⟨c0_0, c0_1, c0_2, c0_3, c0_4, d0_0, d0_1, d0_2, d0_3, d0_4⟩ := cells5 B0_1
    have z0 : w.heap.size < w1.heap.size := B0_1.lt
    obtain ⟨⟨c1_0, c1_1, c1_2, c1_3, c1_4, c1_5, c1_6, c1_7, c1_8, c1_9, c1_10⟩, d1_0, d1_1, d1_2, d1_3, d1_4, d1_5, d1_6, d1_7, d1_8, d1_9, d1_10⟩ := cells11 B1_1
    have z1 : w.heap.size + 1 < w1.heap.size := B1_1.lt
    obtain ⟨c2_0, c2_1, c2_2, c2_3, c2_4, d2_0, d2_1, d2_2, d2_3, d2_4⟩ := cells5 B2_1
    have z2 : w.heap.size + 1 + 1 < w1.heap.size := B2_1.lt
    go_wp2
    exact bodyPost_ret (ret_cell ((((((B2_1.setCell _).setCell _).setCell _).setCell _).setCell _).alloc _) Proofs.Try.results89 rfl Proofs.Try.underlying83 rfl (by kernel_rfl)) rfl ⟨_, rfl, (by with_reducible (repeat (first | assumption | exact Ext.refl _ | refine Ext.alloc' ?_ _ | refine Ext.store0 ?_ _ _ | refine Ext.storek ?_ _ _ _ | refine Ext.storen ?_ (by omega) | refine Ext.stores0 ?_ ?_ _ _ | refine Ext.storesk ?_ ?_ _ _ _ | refine Ext.drewN' ?_ _ | refine Ext.drew' ?_ | refine Ext.trans ?_ (by assumption)))), IsSys.mk rfl (hw.ext (by with_reducible (repeat (first | assumption | exact Ext.refl _ | refine Ext.alloc' ?_ _ | refine Ext.store0 ?_ _ _ | refine Ext.storek ?_ _ _ _ | refine Ext.storen ?_ (by omega) | refine Ext.stores0 ?_ ?_ _ _ | refine Ext.storesk ?_ ?_ _ _ _ | refine Ext.drewN' ?_ _ | refine Ext.drew' ?_ | refine Ext.trans ?_ (by assumption))))) (hg.ext (by with_reducible (repeat (first | assumption | exact Ext.refl _ | refine Ext.alloc' ?_ _ | refine Ext.store0 ?_ _ _ | refine Ext.storek ?_ _ _ _ | refine Ext.storen ?_ (by omega) | refine Ext.stores0 ?_ ?_ _ _ | refine Ext.storesk ?_ ?_ _ _ _ | refine Ext.drewN' ?_ _ | refine Ext.drew' ?_ | refine Ext.trans ?_ (by assumption))))) (IsCores.keep hc (show Ext w _ from (by with_reducible (repeat (first | assumption | exact Ext.refl _ | refine Ext.alloc' ?_ _ | refine Ext.store0 ?_ _ _ | refine Ext.storek ?_ _ _ _ | refine Ext.storen ?_ (by omega) | refine Ext.stores0 ?_ ?_ _ _ | refine Ext.storesk ?_ ?_ _ _ _ | refine Ext.drewN' ?_ _ | refine Ext.drew' ?_ | refine Ext.trans ?_ (by assumption))))).keep) (IsEvs.keep hl (show Ext w _ from (by with_reducible (repeat (first | assumption | exact Ext.refl _ | refine Ext.alloc' ?_ _ | refine Ext.store0 ?_ _ _ | refine Ext.storek ?_ _ _ _ | refine Ext.storen ?_ (by omega) | refine Ext.stores0 ?_ ?_ _ _ | refine Ext.storesk ?_ ?_ _ _ _ | refine Ext.drewN' ?_ _ | refine Ext.drew' ?_ | refine Ext.trans ?_ (by assumption))))).keep)⟩
  | some g0 =>
    obtain ⟨k, co, rfl, hck, hpos, _⟩ := top_some ht
    rw [show (topD s k).isSome = true by rw [ht]; rfl] at kt
    have hd : setS s k g = withS s k (setC co g) := doS_some ht hck
    rw [hd]
    have hk : k < s.C.length := by
      rcases Nat.lt_or_ge k s.C.length with h | h
      · exact h
      · rw [List.getElem?_eq_none h] at hck; cases hck
    have hk1 : (k : Int) < (s.C.length : Int) := by omega
    obtain ⟨k1, hlen0⟩ : ∃ k1, co.F.length = k1 + 1 := ⟨co.F.length - 1, by omega⟩
    have hk100 : k1 + 1 ≤ 100000 := by have := hFm k co hck; omega
    obtain ⟨bc, oc, af, cf, ar, cr, rfl, xc, nc, hx3, hf, hr, e0, e1, e2, e3, e4, e5, e6⟩ := IsCores.at hc hck
    have hwU := hw.up
    have hgU := hg.up
    have hcU := IsCores.less hc (M := Up N w) fun x hx hn => hn.elim id fun k => absurd k (by omega)
    have hlU := IsEvs.less hl (M := Up N w) fun x hx hn => hn.elim id fun k => absurd k (by omega)
    have hfU := IsFrames.up hf
    have hrU := hr.up
    have hNR : ∀ w1 : World, w.heap.size + 3 ≤ w1.heap.size → ¬ Bx N w.heap.size (w.heap.size + 3) (w1.heap.size + 1 + 1 + 1) := fun w1 h1 hn => hn.elim (fun hn => by have := hN _ hn; omega) fun q => by have := q.2; omega
    have hlen := Lib.hid hlen0
    clear hlen0 hd ht hck
    go_enter Proofs.Try.func89, Proofs.Try.ntmps89
    go_wp2_with (fail)
    go_at_call 82
    refine (kt _ (by with_reducible (repeat (first | assumption | exact Ext.refl _ | refine Ext.alloc' ?_ _ | refine Ext.store0 ?_ _ _ | refine Ext.storek ?_ _ _ _ | refine Ext.stores0 ?_ ?_ _ _ | refine Ext.storesk ?_ ?_ _ _ _ | refine Ext.drewN' ?_ _ | refine Ext.drew' ?_ | refine Ext.trans ?_ (by assumption))))).calls.mono ?_
    rintro e w1 ⟨_, rfl, hb1, u, rfl, hu1⟩
    obtain ⟨tf, htf⟩ : ∃ f, topF s (k : Int) = f := ⟨_, rfl⟩
    rw [htf] at hu1
    clear htf
    obtain ⟨tfa, tfc, rfl, tf8, tfs⟩ := hu1.opened
    have hE1 : Ext w w1 := (by with_reducible (repeat (first | assumption | exact Ext.refl _ | refine Ext.alloc' ?_ _ | refine Ext.store0 ?_ _ _ | refine Ext.storek ?_ _ _ _ | refine Ext.stores0 ?_ ?_ _ _ | refine Ext.storesk ?_ ?_ _ _ _ | refine Ext.drewN' ?_ _ | refine Ext.drew' ?_ | refine Ext.trans ?_ (by assumption))))
    have xc1 : bc < w1.heap.size := Nat.lt_of_lt_of_le xc hE1.size
    have e0a := cell_ext e0 hE1
    have e1a := cell_ext e1 hE1
    have e2a := cell_ext e2 hE1
    have e3a := cell_ext e3 hE1
    have e4a := cell_ext e4 hE1
    have e5a := cell_ext e5 hE1
    have e6a := cell_ext e6 hE1
    have B0_1 : Box w1 (w.heap.size) #[.slice aw s.M.W.length cw, .slice ag s.M.G.length cg, .bool s.M.bad, .slice (some ⟨bc, oc, none⟩) s.C.length cc, .slice al s.L.length cl] 83 := (((Box.newAt _ _ _ (by first | rfl | simp)).alloc _).alloc _).ext hb1
    have B1_1 : Box w1 (w.heap.size + 1) #[.int .i64 g.op, .int .i64 g.pc, .int .i64 (gi g.R 0), .int .i64 (gi g.R 1), .int .i64 (gi g.R 2), .int .i64 (gi g.R 3), .int .i64 (gi g.R 4), .int .i64 (gi g.R 5), .int .i64 (gi g.R 6), .int .i64 (gi g.R 7), .slice ga g.S.length gc] 95 := ((Box.newAt _ _ _ (by first | rfl | simp)).alloc _).ext hb1
    have B2_1 : Box w1 (w.heap.size + 1 + 1) #[.slice none 0 0, .slice none 0 0, .bool false, .slice none 0 0, .slice none 0 0] 83 := (Box.newAt _ _ _ (by first | rfl | simp)).ext hb1
    have s1 : w.heap.size + 3 ≤ w1.heap.size := (by have h := hb1.size; simp at h; omega)
    obtain ⟨c0_0, c0_1, c0_2, c0_3, c0_4, d0_0, d0_1, d0_2, d0_3, d0_4⟩ := cells5 B0_1
    have z0 : w.heap.size < w1.heap.size := B0_1.lt
    obtain ⟨⟨c1_0, c1_1, c1_2, c1_3, c1_4, c1_5, c1_6, c1_7, c1_8, c1_9, c1_10⟩, d1_0, d1_1, d1_2, d1_3, d1_4, d1_5, d1_6, d1_7, d1_8, d1_9, d1_10⟩ := cells11 B1_1
    have z1 : w.heap.size + 1 < w1.heap.size := B1_1.lt
    obtain ⟨c2_0, c2_1, c2_2, c2_3, c2_4, d2_0, d2_1, d2_2, d2_3, d2_4⟩ := cells5 B2_1
    have z2 : w.heap.size + 1 + 1 < w1.heap.size := B2_1.lt
    go_wp2_with (at_builtin; refine wpList_append_alln (k1 + 1) hlen.out (.tmp 25) (.tmp 27) rfl rfl rfl rfl rowF (by decide) (IsFrames.keep hfU (by with_reducible (repeat (first | assumption | exact Keep.refl _ _ | refine Keep.alloc ?_ _ | refine Keep.s ?_ (by first | assumption | exact Bx.mem (by omega) (by omega) | exact Up.mem (by omega)) | refine Keep.n ?_ (by omega) | refine Keep.ext ?_ (by assumption) | refine Keep.drew ?_)))) (by omega) (by omega) ?_; intro cap2 w2 cells rows hb2 hc1 hc2 hB hR hRl hRR; have hB : Box w2 (w1.heap.size + 1 + 1 + 1) cells 95 := (by simpa using hB); have B0_2 : Box w2 (w.heap.size) #[.slice aw s.M.W.length cw, .slice ag s.M.G.length cg, .bool s.M.bad, .slice (some ⟨bc, oc, none⟩) s.C.length cc, .slice al s.L.length cl] 83 := (((B0_1.alloc _).alloc _).alloc _).ext hb2; have B1_2 : Box w2 (w.heap.size + 1) #[.int .i64 g.op, .int .i64 g.pc, .int .i64 (gi g.R 0), .int .i64 (gi g.R 1), .int .i64 (gi g.R 2), .int .i64 (gi g.R 3), .int .i64 (gi g.R 4), .int .i64 (gi g.R 5), .int .i64 (gi g.R 6), .int .i64 (gi g.R 7), .slice ga g.S.length gc] 95 := (((B1_1.alloc _).alloc _).alloc _).ext hb2; have B2_2 : Box w2 (w.heap.size + 1 + 1) #[.slice none 0 0, .slice none 0 0, .bool false, .slice none 0 0, .slice none 0 0] 83 := (((B2_1.alloc _).alloc _).alloc _).ext hb2; have B3_2 : Box w2 (w1.heap.size) #[.int .i64 tf.op, .int .i64 tf.pc, .int .i64 (gi tf.R 0), .int .i64 (gi tf.R 1), .int .i64 (gi tf.R 2), .int .i64 (gi tf.R 3), .int .i64 (gi tf.R 4), .int .i64 (gi tf.R 5), .int .i64 (gi tf.R 6), .int .i64 (gi tf.R 7), .slice tfa tf.S.length tfc] 95 := (((Box.newAt _ _ _ (by first | rfl | simp)).alloc _).alloc _).ext hb2; have B4_2 : Box w2 (w1.heap.size + 1) #[.slice af co.F.length cf, .int .i64 co.V, .int .i64 co.E, .int .i64 (gi co.X 0), .int .i64 (gi co.X 1), .int .i64 (gi co.X 2), .slice ar co.Ret.length cr] 116 := ((Box.newAt _ _ _ (by first | rfl | simp)).alloc _).ext hb2; clear c0_0 c0_1 c0_2 c0_3 c0_4 d0_0 d0_1 d0_2 d0_3 d0_4 z0 c1_0 c1_1 c1_2 c1_3 c1_4 c1_5 c1_6 c1_7 c1_8 c1_9 c1_10 d1_0 d1_1 d1_2 d1_3 d1_4 d1_5 d1_6 d1_7 d1_8 d1_9 d1_10 z1 c2_0 c2_1 c2_2 c2_3 c2_4 d2_0 d2_1 d2_2 d2_3 d2_4 z2; have s2 : w1.heap.size + 3 ≤ w2.heap.size := (by have h := hb2.size; simp at h; omega); obtain ⟨c0_0, c0_1, c0_2, c0_3, c0_4, d0_0, d0_1, d0_2, d0_3, d0_4⟩ := cells5 B0_2; have z0 : w.heap.size < w2.heap.size := B0_2.lt; obtain ⟨⟨c1_0, c1_1, c1_2, c1_3, c1_4, c1_5, c1_6, c1_7, c1_8, c1_9, c1_10⟩, d1_0, d1_1, d1_2, d1_3, d1_4, d1_5, d1_6, d1_7, d1_8, d1_9, d1_10⟩ := cells11 B1_2; have z1 : w.heap.size + 1 < w2.heap.size := B1_2.lt; obtain ⟨c2_0, c2_1, c2_2, c2_3, c2_4, d2_0, d2_1, d2_2, d2_3, d2_4⟩ := cells5 B2_2; have z2 : w.heap.size + 1 + 1 < w2.heap.size := B2_2.lt; obtain ⟨⟨c3_0, c3_1, c3_2, c3_3, c3_4, c3_5, c3_6, c3_7, c3_8, c3_9, c3_10⟩, d3_0, d3_1, d3_2, d3_3, d3_4, d3_5, d3_6, d3_7, d3_8, d3_9, d3_10⟩ := cells11 B3_2; have z3 : w1.heap.size < w2.heap.size := B3_2.lt; obtain ⟨c4_0, c4_1, c4_2, c4_3, c4_4, c4_5, c4_6, d4_0, d4_1, d4_2, d4_3, d4_4, d4_5, d4_6⟩ := cells7 B4_2; have z4 : w1.heap.size + 1 < w2.heap.size := B4_2.lt; have zb := hB.lt; obtain ⟨rk, hrk⟩ := getSome (show k1 < rows.length by omega); obtain ⟨rq0, rq1, rq2, rq3, rq4, rq5, rq6, rq7, rq8, rq9, rq10, rfl⟩ := list11 (hR k1 rk hrk).1; have m0 := hB.cell (off := k1 * 11) (c := rq0) (by rw [nth_eq]; simpa using (hR k1 _ hrk).2 0 _ rfl); have m1 := hB.cell (off := k1 * 11 + 1) (c := rq1) (by rw [nth_eq]; simpa using (hR k1 _ hrk).2 1 _ rfl); have m2 := hB.cell (off := k1 * 11 + 2) (c := rq2) (by rw [nth_eq]; simpa using (hR k1 _ hrk).2 2 _ rfl); have m3 := hB.cell (off := k1 * 11 + 3) (c := rq3) (by rw [nth_eq]; simpa using (hR k1 _ hrk).2 3 _ rfl); have m4 := hB.cell (off := k1 * 11 + 4) (c := rq4) (by rw [nth_eq]; simpa using (hR k1 _ hrk).2 4 _ rfl); have m5 := hB.cell (off := k1 * 11 + 5) (c := rq5) (by rw [nth_eq]; simpa using (hR k1 _ hrk).2 5 _ rfl); have m6 := hB.cell (off := k1 * 11 + 6) (c := rq6) (by rw [nth_eq]; simpa using (hR k1 _ hrk).2 6 _ rfl); have m7 := hB.cell (off := k1 * 11 + 7) (c := rq7) (by rw [nth_eq]; simpa using (hR k1 _ hrk).2 7 _ rfl); have m8 := hB.cell (off := k1 * 11 + 8) (c := rq8) (by rw [nth_eq]; simpa using (hR k1 _ hrk).2 8 _ rfl); have m9 := hB.cell (off := k1 * 11 + 9) (c := rq9) (by rw [nth_eq]; simpa using (hR k1 _ hrk).2 9 _ rfl); have m10 := hB.cell (off := k1 * 11 + 10) (c := rq10) (by rw [nth_eq]; simpa using (hR k1 _ hrk).2 10 _ rfl); have n0 := hB.frozen (off := k1 * 11); have n1 := hB.frozen (off := k1 * 11 + 1); have n2 := hB.frozen (off := k1 * 11 + 2); have n3 := hB.frozen (off := k1 * 11 + 3); have n4 := hB.frozen (off := k1 * 11 + 4); have n5 := hB.frozen (off := k1 * 11 + 5); have n6 := hB.frozen (off := k1 * 11 + 6); have n7 := hB.frozen (off := k1 * 11 + 7); have n8 := hB.frozen (off := k1 * 11 + 8); have n9 := hB.frozen (off := k1 * 11 + 9); have n10 := hB.frozen (off := k1 * 11 + 10))
    go_at_call 92
    have y0 := RowsIn.set (sz := 11) hR hrk (o := 0) (by decide) (.int .i64 g.op)
    have y1 := RowsIn.set y0 (set_at (by first | omega | (simp; omega))) (o := 1) (by decide) (.int .i64 g.pc)
    have y2 := RowsIn.set y1 (set_at (by first | omega | (simp; omega))) (o := 2) (by decide) (.int .i64 (gi g.R 0))
    have y3 := RowsIn.set y2 (set_at (by first | omega | (simp; omega))) (o := 3) (by decide) (.int .i64 (gi g.R 1))
    have y4 := RowsIn.set y3 (set_at (by first | omega | (simp; omega))) (o := 4) (by decide) (.int .i64 (gi g.R 2))
    have y5 := RowsIn.set y4 (set_at (by first | omega | (simp; omega))) (o := 5) (by decide) (.int .i64 (gi g.R 3))
    have y6 := RowsIn.set y5 (set_at (by first | omega | (simp; omega))) (o := 6) (by decide) (.int .i64 (gi g.R 4))
    have y7 := RowsIn.set y6 (set_at (by first | omega | (simp; omega))) (o := 7) (by decide) (.int .i64 (gi g.R 5))
    have y8 := RowsIn.set y7 (set_at (by first | omega | (simp; omega))) (o := 8) (by decide) (.int .i64 (gi g.R 6))
    have y9 := RowsIn.set y8 (set_at (by first | omega | (simp; omega))) (o := 9) (by decide) (.int .i64 (gi g.R 7))
    have y10 := RowsIn.set y9 (set_at (by first | omega | (simp; omega))) (o := 10) (by decide) (.slice ga g.S.length gc)
    rw [List.set_set, List.set_set, List.set_set, List.set_set, List.set_set, List.set_set, List.set_set, List.set_set, List.set_set, List.set_set] at y10
    refine (with_ (Bx N w.heap.size (w.heap.size + 3)) _ _ s k (setC co g) _ (IsSys.bx (IsSys.mk rfl (IsInts.keep hwU (by with_reducible (repeat (first | assumption | exact Keep.refl _ _ | refine Keep.alloc ?_ _ | refine Keep.s ?_ (by first | assumption | exact Bx.mem (by omega) (by omega) | exact Up.mem (by omega)) | refine Keep.n ?_ (by omega) | refine Keep.ext ?_ (by assumption) | refine Keep.drew ?_)))) (IsInts.keep hgU (by with_reducible (repeat (first | assumption | exact Keep.refl _ _ | refine Keep.alloc ?_ _ | refine Keep.s ?_ (by first | assumption | exact Bx.mem (by omega) (by omega) | exact Up.mem (by omega)) | refine Keep.n ?_ (by omega) | refine Keep.ext ?_ (by assumption) | refine Keep.drew ?_)))) (IsCores.keep hcU (by with_reducible (repeat (first | assumption | exact Keep.refl _ _ | refine Keep.alloc ?_ _ | refine Keep.s ?_ (by first | assumption | exact Bx.mem (by omega) (by omega) | exact Up.mem (by omega)) | refine Keep.n ?_ (by omega) | refine Keep.ext ?_ (by assumption) | refine Keep.drew ?_)))) (IsEvs.keep hlU (by with_reducible (repeat (first | assumption | exact Keep.refl _ _ | refine Keep.alloc ?_ _ | refine Keep.s ?_ (by first | assumption | exact Bx.mem (by omega) (by omega) | exact Up.mem (by omega)) | refine Keep.n ?_ (by omega) | refine Keep.ext ?_ (by assumption) | refine Keep.drew ?_)))) : IsSys (Up N w) _ _ s)) (IsCoreV.mk hx3 (setC_frames hlen.out (frames_set (hi := w.heap.size + 3) ((((((((((((hB.setCell _).setCell _).setCell _).setCell _).setCell _).setCell _).setCell _).setCell _).setCell _).setCell _).setCell _).setOther (by first | omega | (simp <;> omega)) _) y10 (hRl.trans hlen.out.symm) (fun i x r h1 h2 => RF.keep (hRR i x r h1 h2) (by with_reducible (repeat (first | assumption | exact Keep.refl _ _ | refine Keep.alloc ?_ _ | refine Keep.s ?_ (by first | assumption | exact Bx.mem (by omega) (by omega) | exact Up.mem (by omega)) | refine Keep.n ?_ (by omega) | refine Keep.ext ?_ (by assumption) | refine Keep.drew ?_)))) g8 (IsInts.keep gsU (by with_reducible (repeat (first | assumption | exact Keep.refl _ _ | refine Keep.alloc ?_ _ | refine Keep.s ?_ (by first | assumption | exact Bx.mem (by omega) (by omega) | exact Up.mem (by omega)) | refine Keep.n ?_ (by omega) | refine Keep.ext ?_ (by assumption) | refine Keep.drew ?_)))) (hNR w1 (by omega)) hlen.out hc1 hc2)) (IsInts.keep (IsInts.bx hrU) (by with_reducible (repeat (first | assumption | exact Keep.refl _ _ | refine Keep.alloc ?_ _ | refine Keep.s ?_ (by first | assumption | exact Bx.mem (by omega) (by omega) | exact Up.mem (by omega)) | refine Keep.n ?_ (by omega) | refine Keep.ext ?_ (by assumption) | refine Keep.drew ?_))))) (fun b hb => (by have h := hb.elim (fun q => (by have := hN b q; omega : b < w.heap.size + 3)) (fun q => (by have := q.2; omega : b < w.heap.size + 3)); simp; omega)) hC hk).calls.mono ?_
    rintro e w3 ⟨_, rfl, hb3, hu3⟩
    obtain ⟨r1, r2, r3, r4, r5, r6, r7, r8, rfl, rW, rG, rC, rL⟩ := hu3.opened
    have B0_3 : Box w3 (w.heap.size) #[.slice aw s.M.W.length cw, .slice ag s.M.G.length cg, .bool s.M.bad, .slice (some ⟨bc, oc, none⟩) s.C.length cc, .slice al s.L.length cl] 83 := ((((((((((((B0_2.setOther (by first | omega | (simp <;> omega)) _).setOther (by first | omega | (simp <;> omega)) _).setOther (by first | omega | (simp <;> omega)) _).setOther (by first | omega | (simp <;> omega)) _).setOther (by first | omega | (simp <;> omega)) _).setOther (by first | omega | (simp <;> omega)) _).setOther (by first | omega | (simp <;> omega)) _).setOther (by first | omega | (simp <;> omega)) _).setOther (by first | omega | (simp <;> omega)) _).setOther (by first | omega | (simp <;> omega)) _).setOther (by first | omega | (simp <;> omega)) _).setOther (by first | omega | (simp <;> omega)) _).ext hb3
    have B1_3 : Box w3 (w.heap.size + 1) #[.int .i64 g.op, .int .i64 g.pc, .int .i64 (gi g.R 0), .int .i64 (gi g.R 1), .int .i64 (gi g.R 2), .int .i64 (gi g.R 3), .int .i64 (gi g.R 4), .int .i64 (gi g.R 5), .int .i64 (gi g.R 6), .int .i64 (gi g.R 7), .slice ga g.S.length gc] 95 := ((((((((((((B1_2.setOther (by first | omega | (simp <;> omega)) _).setOther (by first | omega | (simp <;> omega)) _).setOther (by first | omega | (simp <;> omega)) _).setOther (by first | omega | (simp <;> omega)) _).setOther (by first | omega | (simp <;> omega)) _).setOther (by first | omega | (simp <;> omega)) _).setOther (by first | omega | (simp <;> omega)) _).setOther (by first | omega | (simp <;> omega)) _).setOther (by first | omega | (simp <;> omega)) _).setOther (by first | omega | (simp <;> omega)) _).setOther (by first | omega | (simp <;> omega)) _).setOther (by first | omega | (simp <;> omega)) _).ext hb3
    have B2_3 : Box w3 (w.heap.size + 1 + 1) #[.slice none 0 0, .slice none 0 0, .bool false, .slice none 0 0, .slice none 0 0] 83 := ((((((((((((B2_2.setOther (by first | omega | (simp <;> omega)) _).setOther (by first | omega | (simp <;> omega)) _).setOther (by first | omega | (simp <;> omega)) _).setOther (by first | omega | (simp <;> omega)) _).setOther (by first | omega | (simp <;> omega)) _).setOther (by first | omega | (simp <;> omega)) _).setOther (by first | omega | (simp <;> omega)) _).setOther (by first | omega | (simp <;> omega)) _).setOther (by first | omega | (simp <;> omega)) _).setOther (by first | omega | (simp <;> omega)) _).setOther (by first | omega | (simp <;> omega)) _).setOther (by first | omega | (simp <;> omega)) _).ext hb3
    have B3_3 : Box w3 (w1.heap.size) #[.int .i64 tf.op, .int .i64 tf.pc, .int .i64 (gi tf.R 0), .int .i64 (gi tf.R 1), .int .i64 (gi tf.R 2), .int .i64 (gi tf.R 3), .int .i64 (gi tf.R 4), .int .i64 (gi tf.R 5), .int .i64 (gi tf.R 6), .int .i64 (gi tf.R 7), .slice tfa tf.S.length tfc] 95 := ((((((((((((B3_2.setOther (by first | omega | (simp <;> omega)) _).setOther (by first | omega | (simp <;> omega)) _).setOther (by first | omega | (simp <;> omega)) _).setOther (by first | omega | (simp <;> omega)) _).setOther (by first | omega | (simp <;> omega)) _).setOther (by first | omega | (simp <;> omega)) _).setOther (by first | omega | (simp <;> omega)) _).setOther (by first | omega | (simp <;> omega)) _).setOther (by first | omega | (simp <;> omega)) _).setOther (by first | omega | (simp <;> omega)) _).setOther (by first | omega | (simp <;> omega)) _).setOther (by first | omega | (simp <;> omega)) _).ext hb3
    have B4_3 : Box w3 (w1.heap.size + 1) #[.slice (some ⟨w1.heap.size + 1 + 1 + 1, 0, none⟩) (k1 + 1) cap2, .int .i64 co.V, .int .i64 co.E, .int .i64 (gi co.X 0), .int .i64 (gi co.X 1), .int .i64 (gi co.X 2), .slice ar co.Ret.length cr] 116 := ((((((((((((B4_2.setOther (by first | omega | (simp <;> omega)) _).setOther (by first | omega | (simp <;> omega)) _).setOther (by first | omega | (simp <;> omega)) _).setOther (by first | omega | (simp <;> omega)) _).setOther (by first | omega | (simp <;> omega)) _).setOther (by first | omega | (simp <;> omega)) _).setOther (by first | omega | (simp <;> omega)) _).setOther (by first | omega | (simp <;> omega)) _).setOther (by first | omega | (simp <;> omega)) _).setOther (by first | omega | (simp <;> omega)) _).setOther (by first | omega | (simp <;> omega)) _).setCell _).ext hb3
    clear c0_0 c0_1 c0_2 c0_3 c0_4 d0_0 d0_1 d0_2 d0_3 d0_4 z0 c1_0 c1_1 c1_2 c1_3 c1_4 c1_5 c1_6 c1_7 c1_8 c1_9 c1_10 d1_0 d1_1 d1_2 d1_3 d1_4 d1_5 d1_6 d1_7 d1_8 d1_9 d1_10 z1 c2_0 c2_1 c2_2 c2_3 c2_4 d2_0 d2_1 d2_2 d2_3 d2_4 z2 c3_0 c3_1 c3_2 c3_3 c3_4 c3_5 c3_6 c3_7 c3_8 c3_9 c3_10 d3_0 d3_1 d3_2 d3_3 d3_4 d3_5 d3_6 d3_7 d3_8 d3_9 d3_10 z3 c4_0 c4_1 c4_2 c4_3 c4_4 c4_5 c4_6 d4_0 d4_1 d4_2 d4_3 d4_4 d4_5 d4_6 z4
    have s3 : w2.heap.size ≤ w3.heap.size := (by have h := hb3.size; simp at h; omega)
    obtain ⟨c0_0, c0_1, c0_2, c0_3, c0_4, d0_0, d0_1, d0_2, d0_3, d0_4⟩ := cells5 B0_3
    have z0 : w.heap.size < w3.heap.size := B0_3.lt
    obtain ⟨⟨c1_0, c1_1, c1_2, c1_3, c1_4, c1_5, c1_6, c1_7, c1_8, c1_9, c1_10⟩, d1_0, d1_1, d1_2, d1_3, d1_4, d1_5, d1_6, d1_7, d1_8, d1_9, d1_10⟩ := cells11 B1_3
    have z1 : w.heap.size + 1 < w3.heap.size := B1_3.lt
    obtain ⟨c2_0, c2_1, c2_2, c2_3, c2_4, d2_0, d2_1, d2_2, d2_3, d2_4⟩ := cells5 B2_3
    have z2 : w.heap.size + 1 + 1 < w3.heap.size := B2_3.lt
    obtain ⟨⟨c3_0, c3_1, c3_2, c3_3, c3_4, c3_5, c3_6, c3_7, c3_8, c3_9, c3_10⟩, d3_0, d3_1, d3_2, d3_3, d3_4, d3_5, d3_6, d3_7, d3_8, d3_9, d3_10⟩ := cells11 B3_3
    have z3 : w1.heap.size < w3.heap.size := B3_3.lt
    obtain ⟨c4_0, c4_1, c4_2, c4_3, c4_4, c4_5, c4_6, d4_0, d4_1, d4_2, d4_3, d4_4, d4_5, d4_6⟩ := cells7 B4_3
    have z4 : w1.heap.size + 1 < w3.heap.size := B4_3.lt
    go_wp2
    exact bodyPost_ret (ret_cell (((((B2_3.setCell _).setCell _).setCell _).setCell _).setCell _) Proofs.Try.results89 rfl Proofs.Try.underlying83 rfl (by kernel_rfl)) rfl ⟨_, rfl, (by with_reducible (repeat (first | assumption | exact Ext.refl _ | refine Ext.alloc' ?_ _ | refine Ext.store0 ?_ _ _ | refine Ext.storek ?_ _ _ _ | refine Ext.storen ?_ (by omega) | refine Ext.stores0 ?_ ?_ _ _ | refine Ext.storesk ?_ ?_ _ _ _ | refine Ext.drewN' ?_ _ | refine Ext.drew' ?_ | refine Ext.trans ?_ (by assumption)))), IsSys.less (IsSys.keep hu3 (by with_reducible (repeat (first | assumption | exact Keep.refl _ _ | refine Keep.alloc ?_ _ | refine Keep.s ?_ (by first | assumption | exact Bx.mem (by omega) (by omega) | exact Up.mem (by omega)) | refine Keep.n ?_ (by omega) | refine Keep.ext ?_ (by assumption) | refine Keep.drew ?_)))) (fun _ _ hn => .inl hn)⟩

theorem IsFrames.bx {N : Nat → Prop} {w w' : World} {hi : Nat} {v : Value} {l : List FrameD} (h : IsFrames (Up N w) w' v l) : IsFrames (Bx N w.heap.size hi) w' v l := IsFrames.less h fun _ _ hn => Up.bx hn
theorem backC_frames {N : Nat → Prop} {w : World} {v : Value} {c : CoreD} {x y : Int} {k1 : Nat} (hl : c.F.length = k1 + 1) (h : IsFrames N w v (c.F.take k1)) : IsFrames N w v (backC c x y).F := by
  have e : (backC c x y).F = c.F.take k1 := by show c.F.take (c.F.length - 1) = _; rw [hl]; rfl
  rw [e]; exact h
set_option maxHeartbeats 1000000 in
set_option maxRecDepth 100000 in
theorem refBack_ (N : Nat → Prop) (va : Value) (s : SysD) (id v e : Int) (w : World) (h : IsSys N w va s) (hN : ∀ b, N b → b < w.heap.size) (hC : s.C.length ≤ 100000) :
    Gives Proofs.Try.prog 90 #[va, .int .i64 id, .int .i64 v, .int .i64 e] w (fun r w' => IsSys N w' r (backS s id v e)) := by
  have kt := fun (w' : World) (e : Ext w w') => refTop_ N va s id w' (h.ext e)
  have hsU := h.up
  obtain ⟨aw, cw, ag, cg, ac, cc, al, cl, rfl, hw, hg, hc, hl⟩ := h.opened
  cases ht : topD s id with
  | none =>
    rw [show (topD s id).isSome = false by rw [ht]; rfl] at kt
    have hd : backS s id v e = s := doS_none ht
    rw [hd]
    clear hd ht
    go_enter Proofs.Try.func90, Proofs.Try.ntmps90
    go_wp2_with (fail)
    go_at_call 82
    refine (kt _ (by with_reducible (repeat (first | assumption | exact Ext.refl _ | refine Ext.alloc' ?_ _ | refine Ext.store0 ?_ _ _ | refine Ext.storek ?_ _ _ _ | refine Ext.stores0 ?_ ?_ _ _ | refine Ext.storesk ?_ ?_ _ _ _ | refine Ext.drewN' ?_ _ | refine Ext.drew' ?_ | refine Ext.trans ?_ (by assumption))))).calls.mono ?_
    rintro e w1 ⟨_, rfl, hb1, u, rfl, hu1⟩
    obtain ⟨tf, htf⟩ : ∃ f, topF s id = f := ⟨_, rfl⟩
    rw [htf] at hu1
    clear htf
    obtain ⟨tfa, tfc, rfl, tf8, tfs⟩ := hu1.opened
    have B0_1 : Box w1 (w.heap.size) #[.slice aw s.M.W.length cw, .slice ag s.M.G.length cg, .bool s.M.bad, .slice ac s.C.length cc, .slice al s.L.length cl] 83 := ((Box.newAt _ _ _ (by first | rfl | simp)).alloc _).ext hb1
    have B1_1 : Box w1 (w.heap.size + 1) #[.slice none 0 0, .slice none 0 0, .bool false, .slice none 0 0, .slice none 0 0] 83 := (Box.newAt _ _ _ (by first | rfl | simp)).ext hb1
    have s1 : w.heap.size + 2 ≤ w1.heap.size := (by have h := hb1.size; simp at h; omega)
    obtain ⟨c0_0, c0_1, c0_2, c0_3, c0_4, d0_0, d0_1, d0_2, d0_3, d0_4⟩ := cells5 B0_1
    have z0 : w.heap.size < w1.heap.size := B0_1.lt
    obtain ⟨c1_0, c1_1, c1_2, c1_3, c1_4, d1_0, d1_1, d1_2, d1_3, d1_4⟩ := cells5 B1_1
    have z1 : w.heap.size + 1 < w1.heap.size := B1_1.lt
    go_wp2
    exact bodyPost_ret (ret_cell ((((((B1_1.setCell _).setCell _).setCell _).setCell _).setCell _).alloc _) Proofs.Try.results90 rfl Proofs.Try.underlying83 rfl (by kernel_rfl)) rfl ⟨_, rfl, (by with_reducible (repeat (first | assumption | exact Ext.refl _ | refine Ext.alloc' ?_ _ | refine Ext.store0 ?_ _ _ | refine Ext.storek ?_ _ _ _ | refine Ext.storen ?_ (by omega) | refine Ext.stores0 ?_ ?_ _ _ | refine Ext.storesk ?_ ?_ _ _ _ | refine Ext.drewN' ?_ _ | refine Ext.drew' ?_ | refine Ext.trans ?_ (by assumption)))), IsSys.mk rfl (hw.ext (by with_reducible (repeat (first | assumption | exact Ext.refl _ | refine Ext.alloc' ?_ _ | refine Ext.store0 ?_ _ _ | refine Ext.storek ?_ _ _ _ | refine Ext.storen ?_ (by omega) | refine Ext.stores0 ?_ ?_ _ _ | refine Ext.storesk ?_ ?_ _ _ _ | refine Ext.drewN' ?_ _ | refine Ext.drew' ?_ | refine Ext.trans ?_ (by assumption))))) (hg.ext (by with_reducible (repeat (first | assumption | exact Ext.refl _ | refine Ext.alloc' ?_ _ | refine Ext.store0 ?_ _ _ | refine Ext.storek ?_ _ _ _ | refine Ext.storen ?_ (by omega) | refine Ext.stores0 ?_ ?_ _ _ | refine Ext.storesk ?_ ?_ _ _ _ | refine Ext.drewN' ?_ _ | refine Ext.drew' ?_ | refine Ext.trans ?_ (by assumption))))) (IsCores.keep hc (show Ext w _ from (by with_reducible (repeat (first | assumption | exact Ext.refl _ | refine Ext.alloc' ?_ _ | refine Ext.store0 ?_ _ _ | refine Ext.storek ?_ _ _ _ | refine Ext.storen ?_ (by omega) | refine Ext.stores0 ?_ ?_ _ _ | refine Ext.storesk ?_ ?_ _ _ _ | refine Ext.drewN' ?_ _ | refine Ext.drew' ?_ | refine Ext.trans ?_ (by assumption))))).keep) (IsEvs.keep hl (show Ext w _ from (by with_reducible (repeat (first | assumption | exact Ext.refl _ | refine Ext.alloc' ?_ _ | refine Ext.store0 ?_ _ _ | refine Ext.storek ?_ _ _ _ | refine Ext.storen ?_ (by omega) | refine Ext.stores0 ?_ ?_ _ _ | refine Ext.storesk ?_ ?_ _ _ _ | refine Ext.drewN' ?_ _ | refine Ext.drew' ?_ | refine Ext.trans ?_ (by assumption))))).keep)⟩
  | some g0 =>
    obtain ⟨k, co, rfl, hck, hpos, _⟩ := top_some ht
    rw [show (topD s k).isSome = true by rw [ht]; rfl] at kt
    have hd : backS s k v e = withS s k (backC co v e) := doS_some ht hck
    rw [hd]
    have hk : k < s.C.length := by
      rcases Nat.lt_or_ge k s.C.length with h | h
      · exact h
      · rw [List.getElem?_eq_none h] at hck; cases hck
    have hk1 : (k : Int) < (s.C.length : Int) := by omega
    obtain ⟨k1, hlen0⟩ : ∃ k1, co.F.length = k1 + 1 := ⟨co.F.length - 1, by omega⟩
    obtain ⟨bc, oc, af, cf, ar, cr, rfl, xc, nc, hx3, hf, hr, e0, e1, e2, e3, e4, e5, e6⟩ := IsCores.at hc hck
    have hwU := hw.up
    have hgU := hg.up
    have hcU := IsCores.less hc (M := Up N w) fun x hx hn => hn.elim id fun k => absurd k (by omega)
    have hlU := IsEvs.less hl (M := Up N w) fun x hx hn => hn.elim id fun k => absurd k (by omega)
    have hfU := IsFrames.up hf
    have hrU := hr.up
    obtain ⟨hcf1, hcf2, pf, rfl⟩ : co.F.length ≤ cf ∧ cf ≤ 9223372036854775807 ∧ ∃ p, af = some p := by
      obtain ⟨a', c', e', h1, h2, h3, h4⟩ := hf
      cases e'
      refine ⟨h1, h2, ?_⟩
      cases af with
      | none => have := h3 rfl; omega
      | some p => exact ⟨p, rfl⟩
    rw [hlen0] at e0 hcf1
    have hlen := Lib.hid hlen0
    clear hlen0 hd ht hck
    go_enter Proofs.Try.func90, Proofs.Try.ntmps90
    go_wp2_with (fail)
    go_at_call 82
    refine (kt _ (by with_reducible (repeat (first | assumption | exact Ext.refl _ | refine Ext.alloc' ?_ _ | refine Ext.store0 ?_ _ _ | refine Ext.storek ?_ _ _ _ | refine Ext.stores0 ?_ ?_ _ _ | refine Ext.storesk ?_ ?_ _ _ _ | refine Ext.drewN' ?_ _ | refine Ext.drew' ?_ | refine Ext.trans ?_ (by assumption))))).calls.mono ?_
    rintro e w1 ⟨_, rfl, hb1, u, rfl, hu1⟩
    obtain ⟨tf, htf⟩ : ∃ f, topF s (k : Int) = f := ⟨_, rfl⟩
    rw [htf] at hu1
    clear htf
    obtain ⟨tfa, tfc, rfl, tf8, tfs⟩ := hu1.opened
    have hE1 : Ext w w1 := (by with_reducible (repeat (first | assumption | exact Ext.refl _ | refine Ext.alloc' ?_ _ | refine Ext.store0 ?_ _ _ | refine Ext.storek ?_ _ _ _ | refine Ext.stores0 ?_ ?_ _ _ | refine Ext.storesk ?_ ?_ _ _ _ | refine Ext.drewN' ?_ _ | refine Ext.drew' ?_ | refine Ext.trans ?_ (by assumption))))
    have xc1 : bc < w1.heap.size := Nat.lt_of_lt_of_le xc hE1.size
    have e0a := cell_ext e0 hE1
    have e1a := cell_ext e1 hE1
    have e2a := cell_ext e2 hE1
    have e3a := cell_ext e3 hE1
    have e4a := cell_ext e4 hE1
    have e5a := cell_ext e5 hE1
    have e6a := cell_ext e6 hE1
    have B0_1 : Box w1 (w.heap.size) #[.slice aw s.M.W.length cw, .slice ag s.M.G.length cg, .bool s.M.bad, .slice (some ⟨bc, oc, none⟩) s.C.length cc, .slice al s.L.length cl] 83 := ((Box.newAt _ _ _ (by first | rfl | simp)).alloc _).ext hb1
    have B1_1 : Box w1 (w.heap.size + 1) #[.slice none 0 0, .slice none 0 0, .bool false, .slice none 0 0, .slice none 0 0] 83 := (Box.newAt _ _ _ (by first | rfl | simp)).ext hb1
    have s1 : w.heap.size + 2 ≤ w1.heap.size := (by have h := hb1.size; simp at h; omega)
    obtain ⟨c0_0, c0_1, c0_2, c0_3, c0_4, d0_0, d0_1, d0_2, d0_3, d0_4⟩ := cells5 B0_1
    have z0 : w.heap.size < w1.heap.size := B0_1.lt
    obtain ⟨c1_0, c1_1, c1_2, c1_3, c1_4, d1_0, d1_1, d1_2, d1_3, d1_4⟩ := cells5 B1_1
    have z1 : w.heap.size + 1 < w1.heap.size := B1_1.lt
    go_wp2_with (fail)
    go_at_call 92
    refine (with_ (Bx N w.heap.size (w.heap.size + 2)) _ _ s k (backC co v e) _ (IsSys.bx (IsSys.mk rfl (IsInts.keep hwU (by with_reducible (repeat (first | assumption | exact Keep.refl _ _ | refine Keep.alloc ?_ _ | refine Keep.s ?_ (by first | assumption | exact Bx.mem (by omega) (by omega) | exact Up.mem (by omega)) | refine Keep.n ?_ (by omega) | refine Keep.ext ?_ (by assumption) | refine Keep.drew ?_)))) (IsInts.keep hgU (by with_reducible (repeat (first | assumption | exact Keep.refl _ _ | refine Keep.alloc ?_ _ | refine Keep.s ?_ (by first | assumption | exact Bx.mem (by omega) (by omega) | exact Up.mem (by omega)) | refine Keep.n ?_ (by omega) | refine Keep.ext ?_ (by assumption) | refine Keep.drew ?_)))) (IsCores.keep hcU (by with_reducible (repeat (first | assumption | exact Keep.refl _ _ | refine Keep.alloc ?_ _ | refine Keep.s ?_ (by first | assumption | exact Bx.mem (by omega) (by omega) | exact Up.mem (by omega)) | refine Keep.n ?_ (by omega) | refine Keep.ext ?_ (by assumption) | refine Keep.drew ?_)))) (IsEvs.keep hlU (by with_reducible (repeat (first | assumption | exact Keep.refl _ _ | refine Keep.alloc ?_ _ | refine Keep.s ?_ (by first | assumption | exact Bx.mem (by omega) (by omega) | exact Up.mem (by omega)) | refine Keep.n ?_ (by omega) | refine Keep.ext ?_ (by assumption) | refine Keep.drew ?_)))) : IsSys (Up N w) _ _ s)) (IsCoreV.mk hx3 (backC_frames hlen.out (IsSl.take (IsFrames.keep (IsFrames.bx hfU) (by with_reducible (repeat (first | assumption | exact Keep.refl _ _ | refine Keep.alloc ?_ _ | refine Keep.s ?_ (by first | assumption | exact Bx.mem (by omega) (by omega) | exact Up.mem (by omega)) | refine Keep.n ?_ (by omega) | refine Keep.ext ?_ (by assumption) | refine Keep.drew ?_)))) (m := k1) (by rw [hlen.out]; omega))) (IsInts.keep (IsInts.bx hrU) (by with_reducible (repeat (first | assumption | exact Keep.refl _ _ | refine Keep.alloc ?_ _ | refine Keep.s ?_ (by first | assumption | exact Bx.mem (by omega) (by omega) | exact Up.mem (by omega)) | refine Keep.n ?_ (by omega) | refine Keep.ext ?_ (by assumption) | refine Keep.drew ?_))))) (fun b hb => (by have h := hb.elim (fun q => (by have := hN b q; omega : b < w.heap.size + 2)) (fun q => (by have := q.2; omega : b < w.heap.size + 2)); simp; omega)) hC hk).calls.mono ?_
    rintro e w2 ⟨_, rfl, hb2, hu2⟩
    obtain ⟨r1, r2, r3, r4, r5, r6, r7, r8, rfl, rW, rG, rC, rL⟩ := hu2.opened
    have B0_2 : Box w2 (w.heap.size) #[.slice aw s.M.W.length cw, .slice ag s.M.G.length cg, .bool s.M.bad, .slice (some ⟨bc, oc, none⟩) s.C.length cc, .slice al s.L.length cl] 83 := ((B0_1.alloc _).alloc _).ext hb2
    have B1_2 : Box w2 (w.heap.size + 1) #[.slice none 0 0, .slice none 0 0, .bool false, .slice none 0 0, .slice none 0 0] 83 := ((B1_1.alloc _).alloc _).ext hb2
    have B2_2 : Box w2 (w1.heap.size) #[.int .i64 tf.op, .int .i64 tf.pc, .int .i64 (gi tf.R 0), .int .i64 (gi tf.R 1), .int .i64 (gi tf.R 2), .int .i64 (gi tf.R 3), .int .i64 (gi tf.R 4), .int .i64 (gi tf.R 5), .int .i64 (gi tf.R 6), .int .i64 (gi tf.R 7), .slice tfa tf.S.length tfc] 95 := ((Box.newAt _ _ _ (by first | rfl | simp)).alloc _).ext hb2
    have B3_2 : Box w2 (w1.heap.size + 1) #[.slice (some pf) k1 cf, .int .i64 v, .int .i64 e, .int .i64 (gi co.X 0), .int .i64 (gi co.X 1), .int .i64 (gi co.X 2), .slice ar co.Ret.length cr] 116 := (Box.newAt _ _ _ (by first | rfl | simp)).ext hb2
    clear c0_0 c0_1 c0_2 c0_3 c0_4 d0_0 d0_1 d0_2 d0_3 d0_4 z0 c1_0 c1_1 c1_2 c1_3 c1_4 d1_0 d1_1 d1_2 d1_3 d1_4 z1
    have s2 : w1.heap.size + 2 ≤ w2.heap.size := (by have h := hb2.size; simp at h; omega)
    obtain ⟨c0_0, c0_1, c0_2, c0_3, c0_4, d0_0, d0_1, d0_2, d0_3, d0_4⟩ := cells5 B0_2
    have z0 : w.heap.size < w2.heap.size := B0_2.lt
    obtain ⟨c1_0, c1_1, c1_2, c1_3, c1_4, d1_0, d1_1, d1_2, d1_3, d1_4⟩ := cells5 B1_2
    have z1 : w.heap.size + 1 < w2.heap.size := B1_2.lt
    obtain ⟨⟨c2_0, c2_1, c2_2, c2_3, c2_4, c2_5, c2_6, c2_7, c2_8, c2_9, c2_10⟩, d2_0, d2_1, d2_2, d2_3, d2_4, d2_5, d2_6, d2_7, d2_8, d2_9, d2_10⟩ := cells11 B2_2
    have z2 : w1.heap.size < w2.heap.size := B2_2.lt
    obtain ⟨c3_0, c3_1, c3_2, c3_3, c3_4, c3_5, c3_6, d3_0, d3_1, d3_2, d3_3, d3_4, d3_5, d3_6⟩ := cells7 B3_2
    have z3 : w1.heap.size + 1 < w2.heap.size := B3_2.lt
    go_wp2
    exact bodyPost_ret (ret_cell (((((B1_2.setCell _).setCell _).setCell _).setCell _).setCell _) Proofs.Try.results90 rfl Proofs.Try.underlying83 rfl (by kernel_rfl)) rfl ⟨_, rfl, (by with_reducible (repeat (first | assumption | exact Ext.refl _ | refine Ext.alloc' ?_ _ | refine Ext.store0 ?_ _ _ | refine Ext.storek ?_ _ _ _ | refine Ext.storen ?_ (by omega) | refine Ext.stores0 ?_ ?_ _ _ | refine Ext.storesk ?_ ?_ _ _ _ | refine Ext.drewN' ?_ _ | refine Ext.drew' ?_ | refine Ext.trans ?_ (by assumption)))), IsSys.less (IsSys.keep hu2 (by with_reducible (repeat (first | assumption | exact Keep.refl _ _ | refine Keep.alloc ?_ _ | refine Keep.s ?_ (by first | assumption | exact Bx.mem (by omega) (by omega) | exact Up.mem (by omega)) | refine Keep.n ?_ (by omega) | refine Keep.ext ?_ (by assumption) | refine Keep.drew ?_)))) (fun _ _ hn => .inl hn)⟩


def RI : World → Int → List Value → Prop := fun _ x cs => cs = [.int .i64 x]
theorem rowI : RowType 48 3 1 (.int .i64 0) := ⟨Proofs.Try.underlying48, by kernel_rfl, by kernel_rfl, by kernel_rfl⟩
theorem zs1 : (Value.int .i64 0).cells.size = 1 := by kernel_rfl
theorem one_int' {w : World} : ∀ x cs, RI w x cs → ∀ c ∈ cs, c.oneCell' = true := by
  rintro x cs rfl c hc
  simp at hc
  subst hc; rfl
theorem IsInts.sl {N : Nat → Prop} {w : World} {v : Value} {l : List Int} (h : IsInts N w v l) : IsSl 1 RI N w v l := by
  obtain ⟨a, cap, rfl, h1, h2, h3, h4⟩ := h
  refine ⟨a, cap, rfl, h1, h2, h3, fun i x hi => ?_⟩
  obtain ⟨b, off, e, hb, hn, hc⟩ := h4 i (list_lt hi)
  refine ⟨b, off, [.int .i64 x], e, hb, hn, rfl, fun j c hj => ?_, rfl⟩
  have hj0 : j = 0 := by have := list_lt hj; simp at this; omega
  subst hj0
  simp at hj; subst hj
  rw [Nat.mul_one, Nat.add_zero, hc]
  simp [gi, List.getD_eq_getElem?_getD, hi]
theorem IsSl.ints {N : Nat → Prop} {w : World} {v : Value} {l : List Int} (h : IsSl 1 RI N w v l) : IsInts N w v l := by
  obtain ⟨a, cap, rfl, h1, h2, h3, h4⟩ := h
  refine ⟨a, cap, rfl, h1, h2, h3, fun i hi => ?_⟩
  obtain ⟨x, hx⟩ := getSome hi
  obtain ⟨b, off, cs, e, hb, hn, hl, hc, hR⟩ := h4 i x hx
  cases hR
  refine ⟨b, off, e, hb, hn, ?_⟩
  have := hc 0 _ rfl
  rw [Nat.mul_one, Nat.add_zero] at this
  rw [this]
  simp [gi, List.getD_eq_getElem?_getD, hx]
theorem OwnSl.extW {α : Type} {sz : Nat} {e : TypeId} {R : World → α → List Value → Prop} {base : Nat} {w w' : World} {v : Value} {l : List α} (h : OwnSl sz e R base w v l) (k : Ext w w') (hR : ∀ w w' x cs, R w x cs → R w' x cs := by exact fun _ _ _ _ h => h) : OwnSl sz e R base w' v l :=
  h.keep (N := no) k.keep (fun _ _ => id) fun _ _ h => hR _ _ _ _ h
section
variable {ops : Array Oper} {rest : List Oper} {o : Oper} {a : Act} {Q : Exit → Act → World → Prop} {w : World}
theorem wpList_append_gen {α : Type} {sz : Nat} {R : World → α → List Value → Prop} {M : Nat → Prop} {v vx : Value} {l1 l2 : List α} {t e : TypeId} {z : Value} {base : Nat} (hT : RowType t e sz z) (hzs : z.cells.size = sz) (hsz : 0 < sz) (hone : ∀ x cs, R w x cs → ∀ c ∈ cs, c.oneCell' = true) (hRw : ∀ w w' x cs, R w x cs → R w' x cs)
    (s x : Operand) (hg : o.guard = none) (hop : o.op = Op.call { callee := Callee.builtin Builtin.append, args := #[s, x], argTypes := #[t, t] })
    (hs : a.eval s = v) (hx : a.eval x = vx) (h1 : OwnSl sz e R base w v l1) (h2 : IsSl sz R M w vx l2) (hl : l1.length + l2.length ≤ 100000) (hbase : base ≤ w.heap.size)
    (hK : ∀ a' n' c' w', Hid (n' = (l1 ++ l2).length) → OwnSl sz e R base w' (.slice a' n' c') (l1 ++ l2) → (∀ b cs t, Box w b cs t → b < base → Box w' b cs t) → (∀ a, Ext a w → a.heap.size ≤ base → Ext a w') → w.heap.size ≤ w'.heap.size → wpList Proofs.Try.prog ops Q rest (a.put o.dst (.slice a' n' c')) w') : wpList Proofs.Try.prog ops Q (o :: rest) a w :=
  wpList_append_osl s x hg hop hs hx hT hzs hsz h1 h2 hone (fun w' g x cs h => hRw _ _ _ _ h) hl hbase fun a' c' w' ho hgr =>
    hK a' _ c' w' (Lib.hid rfl) ho (fun b cs t hB hb => hB.keep (grown_keep (N := fun k => base ≤ k) hgr fun k hk => h1.base k hk) (by omega)) (fun a ha hsz => grown_ext hgr ha fun k hk => Nat.le_trans hsz (h1.base k hk)) hgr.size
end
theorem wrapI_ne (x : Int) : IntKind.i64.wrap (x + 1) ≠ x := by rw [IntKind.wrap_i64]; omega
theorem OwnSl.evs {N : Nat → Prop} {w : World} {base : Nat} {v : Value} {l : List EvD} (h : OwnSl 5 108 RE base w v l) (hN : ∀ b, base ≤ b → ¬ N b) : IsEvs N w v l := h.sl hN
theorem OwnSl.ints {N : Nat → Prop} {w : World} {base : Nat} {v : Value} {l : List Int} (h : OwnSl 1 3 RI base w v l) (hN : ∀ b, base ≤ b → ¬ N b) : IsInts N w v l := (h.sl hN).ints
/-- what is another one at one place isn't the same -/
theorem all2_set {α : Type} {p : α → α → Bool} : ∀ {l : List α} {k : Nat} {x y : α}, l[k]? = some x → p x y = false → all2 p l (l.set k y) = false
  | [], _, _, _, h, _ => by cases h
  | a :: l, 0, x, y, h, hp => by simp at h; subst h; simp [all2, hp]
  | a :: l, k + 1, x, y, h, hp => by
    have := all2_set (l := l) (k := k) (by simpa using h) hp
    simp [all2, this]
theorem all2_set' {α : Type} {p : α → α → Bool} : ∀ {l : List α} {k : Nat} {x y : α}, l[k]? = some x → p y x = false → all2 p (l.set k y) l = false
  | [], _, _, _, h, _ => by cases h
  | a :: l, 0, x, y, h, hp => by simp at h; subst h; simp [all2, hp]
  | a :: l, k + 1, x, y, h, hp => by
    have := all2_set' (l := l) (k := k) (by simpa using h) hp
    simp [all2, this]
end Go.Proofs.Ytcfbdfgondmkoaa
