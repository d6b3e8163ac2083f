/- Texts of this work, put together: CoD, Dat4, HzA, AtW, OwA, RoW, RoM, Stk1, Stk2, Stk3, Stk4, Stk5, Stk6. -/
import Derived.Test.YtcfbdfgondmkoaaM4
import Derived.Laws.AppendOwn
import Derived.Deep.Upon
import Derived.Deep.RegionLaw
/- Systems, by the document: With, Call, Set, Back; slices of a call's own. -/
namespace Go.Proofs.Ytcfbdfgondmkoaa
open Go Go.RowKit
set_option linter.unusedSimpArgs false
set_option linter.unusedVariables false
set_option linter.unnecessarySimpa false


theorem Box.newAt (w : World) (cs : Array Value) (t : TypeId) {b : Nat} (h : w.heap.size = b) : Box (w.alloc (.cells cs t (0, 0))) b cs t := by subst h; exact Box.new _ _ _
theorem list7 {l : List Value} (h : l.length = 7) : ∃ a b c d e f g, l = [a, b, c, d, e, f, g] := by
  match l, h with
  | [a, b, c, d, e, f, g], _ => exact ⟨a, b, c, d, e, f, g, rfl⟩
set_option maxHeartbeats 1000000 in
set_option maxRecDepth 100000 in
theorem with_ (N : Nat → Prop) (va vc : Value) (s : SysD) (k : Nat) (c : CoreD) (w : World) (h : IsSys N w va s) (hc' : IsCoreV N w vc c) (hN : ∀ b, N b → b < w.heap.size) (hC : s.C.length ≤ 100000) (hk : k < s.C.length) :
    Gives Proofs.Try.prog 92 #[va, .int .i64 k, vc] w (fun r w' => IsSys N w' r (withS s k c)) := by
  obtain ⟨aw, cw, ag, cg, ac, cc, al, cl, rfl, hw, hg, hc, hl⟩ := h.opened
  obtain ⟨af, cf, ar, cr, rfl, h3, hf, hr⟩ := hc'.opened
  have hk1 : (k : Int) < (s.C.length : Int) := by omega
  have hcb : IsCores (Bx N w.heap.size (w.heap.size + 10)) w (.slice ac s.C.length cc) s.C := IsCores.less hc (fun x hx hn => Bx.new hx hn)
  go_enter Proofs.Try.func92, Proofs.Try.ntmps92
  go_wp2_with (at_builtin; refine wpList_append_all (.tmp 8) (.tmp 10) rfl rfl rfl rfl rowC (by decide) (IsCores.keep hcb (show Ext w ((((w.alloc (.cells #[.slice aw s.M.W.length cw, .slice ag s.M.G.length cg, .bool s.M.bad, .slice ac s.C.length cc, .slice al s.L.length cl] 83 (0, 0))).alloc (.cells #[.slice af c.F.length cf, .int .i64 c.V, .int .i64 c.E, .int .i64 (gi c.X 0), .int .i64 (gi c.X 1), .int .i64 (gi c.X 2), .slice ar c.Ret.length cr] 116 (0, 0))).alloc (.cells #[.slice none 0 0, .slice none 0 0, .bool false, .slice none 0 0, .slice none 0 0] 83 (0, 0))).alloc (.cells #[] 116 (0, 0))) from exq).keep) (by omega) hC ?_; intro cap4 w4 cells rows hb4 hc1 hc2 hB hR hRl hRR; have B0 : Box w4 w.heap.size #[.slice aw s.M.W.length cw, .slice ag s.M.G.length cg, .bool s.M.bad, .slice ac s.C.length cc, .slice al s.L.length cl] 83 := ((((Box.new _ _ _).alloc _).alloc _).alloc _).ext hb4; have B1 : Box w4 (w.heap.size + 1) #[.slice af c.F.length cf, .int .i64 c.V, .int .i64 c.E, .int .i64 (gi c.X 0), .int .i64 (gi c.X 1), .int .i64 (gi c.X 2), .slice ar c.Ret.length cr] 116 := (((Box.newAt _ _ _ (by simp)).alloc _).alloc _).ext hb4; have B2 : Box w4 (w.heap.size + 1 + 1) #[.slice none 0 0, .slice none 0 0, .bool false, .slice none 0 0, .slice none 0 0] 83 := ((Box.newAt _ _ _ (by simp)).alloc _).ext hb4; have hB : Box w4 (w.heap.size + 1 + 1 + 1 + 1) cells 116 := (by simpa using hB); have hE4 : Ext w w4 := (show Ext w ((((w.alloc (.cells #[.slice aw s.M.W.length cw, .slice ag s.M.G.length cg, .bool s.M.bad, .slice ac s.C.length cc, .slice al s.L.length cl] 83 (0, 0))).alloc (.cells #[.slice af c.F.length cf, .int .i64 c.V, .int .i64 c.E, .int .i64 (gi c.X 0), .int .i64 (gi c.X 1), .int .i64 (gi c.X 2), .slice ar c.Ret.length cr] 116 (0, 0))).alloc (.cells #[.slice none 0 0, .slice none 0 0, .bool false, .slice none 0 0, .slice none 0 0] 83 (0, 0))).alloc (.cells #[] 116 (0, 0))) from exq).trans hb4; have kW : Keep (Bx N w.heap.size (w.heap.size + 10)) ((((w.alloc (.cells #[.slice aw s.M.W.length cw, .slice ag s.M.G.length cg, .bool s.M.bad, .slice ac s.C.length cc, .slice al s.L.length cl] 83 (0, 0))).alloc (.cells #[.slice af c.F.length cf, .int .i64 c.V, .int .i64 c.E, .int .i64 (gi c.X 0), .int .i64 (gi c.X 1), .int .i64 (gi c.X 2), .slice ar c.Ret.length cr] 116 (0, 0))).alloc (.cells #[.slice none 0 0, .slice none 0 0, .bool false, .slice none 0 0, .slice none 0 0] 83 (0, 0))).alloc (.cells #[] 116 (0, 0))) w4 := hb4.keep; obtain ⟨p0, p1, p2, p3, p4, d0, d1, d2, d3, d4⟩ := cells5 B0; obtain ⟨r0, r1, r2, r3, r4, r5, r6, q0, q1, q2, q3, q4, q5, q6⟩ := cells7 B1; obtain ⟨e0, e1, e2, e3, e4, f0, f1, f2, f3, f4⟩ := cells5 B2; have z0 := B0.lt; have z1 := B1.lt; have z2 := B2.lt; have zb := hB.lt; obtain ⟨rk, hrk⟩ := getSome (show k < rows.length by omega); obtain ⟨g0, g1, g2, g3, g4, g5, g6, rfl⟩ := list7 (hR k rk hrk).1; have m0 := hB.cell (off := k * 7) (c := g0) (by rw [nth_eq]; simpa using (hR k _ hrk).2 0 _ rfl); have m1 := hB.cell (off := k * 7 + 1) (c := g1) (by rw [nth_eq]; simpa using (hR k _ hrk).2 1 _ rfl); have m2 := hB.cell (off := k * 7 + 2) (c := g2) (by rw [nth_eq]; simpa using (hR k _ hrk).2 2 _ rfl); have m3 := hB.cell (off := k * 7 + 3) (c := g3) (by rw [nth_eq]; simpa using (hR k _ hrk).2 3 _ rfl); have m4 := hB.cell (off := k * 7 + 4) (c := g4) (by rw [nth_eq]; simpa using (hR k _ hrk).2 4 _ rfl); have m5 := hB.cell (off := k * 7 + 5) (c := g5) (by rw [nth_eq]; simpa using (hR k _ hrk).2 5 _ rfl); have m6 := hB.cell (off := k * 7 + 6) (c := g6) (by rw [nth_eq]; simpa using (hR k _ hrk).2 6 _ rfl); have n0 := hB.frozen (off := k * 7); have n1 := hB.frozen (off := k * 7 + 1); have n2 := hB.frozen (off := k * 7 + 2); have n3 := hB.frozen (off := k * 7 + 3); have n4 := hB.frozen (off := k * 7 + 4); have n5 := hB.frozen (off := k * 7 + 5); have n6 := hB.frozen (off := k * 7 + 6))
  have y0 := RowsIn.set (sz := 7) hR hrk (o := 0) (by decide) (.slice af c.F.length cf)
  have y1 := RowsIn.set y0 (set_at (by first | omega | (simp; omega))) (o := 1) (by decide) (.int .i64 c.V)
  have y2 := RowsIn.set y1 (set_at (by first | omega | (simp; omega))) (o := 2) (by decide) (.int .i64 c.E)
  have y3 := RowsIn.set y2 (set_at (by first | omega | (simp; omega))) (o := 3) (by decide) (.int .i64 (gi c.X 0))
  have y4 := RowsIn.set y3 (set_at (by first | omega | (simp; omega))) (o := 4) (by decide) (.int .i64 (gi c.X 1))
  have y5 := RowsIn.set y4 (set_at (by first | omega | (simp; omega))) (o := 5) (by decide) (.int .i64 (gi c.X 2))
  have y6 := RowsIn.set y5 (set_at (by first | omega | (simp; omega))) (o := 6) (by decide) (.slice ar c.Ret.length cr)
  rw [List.set_set, List.set_set, List.set_set, List.set_set, List.set_set, List.set_set] at y6
  refine bodyPost_ret (ret_cell ((((((((((((B2.setOther (by omega) _).setOther (by omega) _).setOther (by omega) _).setOther (by omega) _).setOther (by omega) _).setOther (by omega) _).setOther (by omega) _).setCell _).setCell _).setCell _).setCell _).setCell _) Proofs.Try.results92 rfl Proofs.Try.underlying83 rfl (by kernel_rfl)) rfl ⟨_, rfl, exn, ?_⟩
  refine IsSys.mk rfl (IsInts.keep hw (show Ext w _ from exn).keep) (IsInts.keep hg (show Ext w _ from exn).keep) ?_ (IsEvs.keep hl (show Ext w _ from exn).keep)
  have hrl : rows.length = s.C.length := hRl
  refine cores_of_rows (lo := w.heap.size) (hi := w.heap.size + 10) ((((((((((((hB.setCell _).setCell _).setCell _).setCell _).setCell _).setCell _).setCell _).setOther (by omega) _).setOther (by omega) _).setOther (by omega) _).setOther (by omega) _).setOther (by omega) _) y6 hrl hRR ?_ (fun hx => absurd (hN _ hx) (by omega)) ?_ hc1 hc2
  · exact (by with_reducible (repeat (first | assumption | exact Keep.refl _ _ | refine Keep.alloc ?_ _ | refine Keep.s ?_ (by first | assumption | exact Bx.mem (by omega) (by omega)) | refine Keep.n ?_ (by omega) | refine Keep.ext ?_ (by assumption) | refine Keep.drew ?_)))
  · exact ⟨h3, _, _, rfl, IsFrames.keep hf (show Ext w _ from exn).keep, IsInts.keep hr (show Ext w _ from exn).keep⟩

/-- a slice that the call made: it stands in a block from base on -/
def OwnSl {α : Type} (sz : Nat) (e : TypeId) (R : World → α → List Value → Prop) (base : Nat) (w : World) (v : Value) (l : List α) : Prop :=
  ∃ xs, w.ownsRow base e sz v l.length xs ∧ ∀ i x, l[i]? = some x → ∃ r, r.length = sz ∧ (∀ j c, r[j]? = some c → xs[i * sz + j]? = some c) ∧ R w x r
theorem list_lt {α : Type} {l : List α} {k : Nat} {x : α} (h : l[k]? = some x) : k < l.length := by
  rcases Nat.lt_or_ge k l.length with h' | h'
  · exact h'
  · rw [List.getElem?_eq_none h'] at h; cases h
theorem OwnSl.sl {α : Type} {sz : Nat} {e : TypeId} {R : World → α → List Value → Prop} {base : Nat} {w : World} {v : Value} {l : List α} (h : OwnSl sz e R base w v l) {N : Nat → Prop} (hn : ∀ b, base ≤ b → ¬ N b) : IsSl sz R N w v l := by
  obtain ⟨xs, ⟨h1, h2⟩, h3⟩ := h
  rcases h2 with ⟨rfl, h2⟩ | ⟨g, cap, cur, rfl, hb, hg, hc, hm, hs, ht⟩
  · have : l = [] := List.eq_nil_of_length_eq_zero h2
    subst this
    exact ⟨none, 0, rfl, by simp, by omega, fun _ => rfl, fun i x hi => by simp at hi⟩
  · refine ⟨_, cap, rfl, hc, by simpa [maxLen] using hm, fun e => by simp at e, fun i x hi => ?_⟩
    obtain ⟨r, r1, r2, r3⟩ := h3 i x hi
    have hB : Box w g cur e := hg
    refine ⟨g, 0, r, rfl, hB.lt, hn _ hb, r1, fun j c hj => ?_, r3⟩
    have h4 := r2 j c hj
    have h5 := list_lt h4
    rw [Nat.zero_add]
    refine hB.cell ?_
    rw [nth_eq]
    rw [← ht, List.getElem?_take] at h4
    split at h4
    · exact h4
    · cases h4
theorem OwnSl.shape {α : Type} {sz : Nat} {e : TypeId} {R : World → α → List Value → Prop} {base : Nat} {w : World} {v : Value} {l : List α} (h : OwnSl sz e R base w v l) : ∃ a c, v = .slice a l.length c ∧ l.length ≤ c ∧ c ≤ 9223372036854775807 := by
  obtain ⟨xs, ⟨h1, h2⟩, h3⟩ := h
  rcases h2 with ⟨rfl, h2⟩ | ⟨g, cap, cur, rfl, hb, hg, hc, hm, hs, ht⟩
  · exact ⟨none, 0, by rw [h2], by omega, by omega⟩
  · exact ⟨_, _, rfl, hc, by simpa [maxLen] using hm⟩
theorem OwnSl.nil {α : Type} {sz : Nat} {e : TypeId} {R : World → α → List Value → Prop} {base : Nat} {w : World} {g : Nat} (hB : Box w g #[] e) (hb : base ≤ g) : OwnSl (α := α) sz e R base w (.slice (some ⟨g, 0, none⟩) 0 0) [] :=
  ⟨[], ⟨by simp, .inr ⟨g, 0, #[], rfl, hb, hB, Nat.le_refl _, by simp [maxLen], by simp, by simp⟩⟩, fun i x hi => by simp at hi⟩
theorem OwnSl.none_ {α : Type} {sz : Nat} {e : TypeId} {R : World → α → List Value → Prop} {base : Nat} {w : World} : OwnSl (α := α) sz e R base w (.slice none 0 0) [] :=
  ⟨[], ⟨by simp, .inl ⟨rfl, rfl⟩⟩, fun i x hi => by simp at hi⟩
/-- what keeps every block but the slice's own -/
theorem grown_keep {w w' : World} {row : Option Nat} (h : w.grownBy w' row) {N : Nat → Prop} (hN : ∀ k, row = some k → N k) : Keep N w w' :=
  ⟨h.size, fun b hb hn => h.block b hb fun e => hn (hN b e.symm)⟩
theorem grown_ext {a w w' : World} {row : Option Nat} (h : w.grownBy w' row) (ha : Ext a w) (hr : ∀ k, row = some k → a.heap.size ≤ k) : Ext a w' :=
  ⟨h.os.trans ha.os, h.tape.trans ha.tape, h.output.trans ha.output, Nat.le_trans ha.size h.size, fun i hi => (h.block i (Nat.lt_of_lt_of_le hi ha.size) fun e => by have := hr i e.symm; omega).trans (ha.block i hi)⟩
theorem OwnSl.base {α : Type} {sz : Nat} {e : TypeId} {R : World → α → List Value → Prop} {base : Nat} {w : World} {v : Value} {l : List α} (h : OwnSl sz e R base w v l) : ∀ k, v.ownBlock = some k → base ≤ k := by
  obtain ⟨xs, ⟨h1, h2⟩, h3⟩ := h
  rcases h2 with ⟨rfl, h2⟩ | ⟨g, cap, cur, rfl, hb, hg, hc, hm, hs, ht⟩
  · intro k hk; cases hk
  · intro k hk; cases hk; exact hb
theorem OwnSl.keep {α : Type} {sz : Nat} {e : TypeId} {R : World → α → List Value → Prop} {base : Nat} {w w' : World} {v : Value} {l : List α} (h : OwnSl sz e R base w v l) {N : Nat → Prop} (k : Keep N w w') (hn : ∀ b, v.ownBlock = some b → ¬ N b) (hR : ∀ x cs, R w x cs → R w' x cs) : OwnSl sz e R base w' v l := by
  obtain ⟨xs, ⟨h1, h2⟩, h3⟩ := h
  refine ⟨xs, ⟨h1, ?_⟩, fun i x hi => by obtain ⟨r, r1, r2, r3⟩ := h3 i x hi; exact ⟨r, r1, r2, hR _ _ r3⟩⟩
  rcases h2 with ⟨rfl, h2⟩ | ⟨g, cap, cur, rfl, hb, hg, hc, hm, hs, ht⟩
  · exact .inl ⟨rfl, h2⟩
  · have hB : Box w g cur e := hg
    exact .inr ⟨g, cap, cur, rfl, hb, hB.keep k (hn g rfl), hc, hm, hs, ht⟩
theorem src_nil {t e : TypeId} {sz : Nat} (ht : Proofs.Try.prog.underlying t = some (.slice e)) (w : World) : Src Proofs.Try.prog sz t (.slice none 0 0) 0 [] w where
  kind := .inl ⟨e, ht⟩
  len := fun w' => by simp [Builtin.lenOf]
  cells := by simp [Builtin.firstCells]
  cellsD := by simp [Builtin.firstCells]
  newsLen := by simp
  one := fun u hu => by simp at hu
theorem run_append_osl {α : Type} {sz : Nat} {R : World → α → List Value → Prop} {N : Nat → Prop} {w : World} {v vx : Value} {l1 l2 : List α} {t ty e : TypeId} {z : Value} {base : Nat} (hT : RowType t e sz z) (hzs : z.cells.size = sz) (hsz : 0 < sz) (h1 : OwnSl sz e R base w v l1) (h2 : IsSl sz R N w vx l2)
    (hone : ∀ x cs, R w x cs → ∀ c ∈ cs, c.oneCell' = true) (hR : ∀ w', w.grownBy w' v.ownBlock → ∀ x cs, R w x cs → R w' x cs) (hl : l1.length + l2.length ≤ 100000) (hbase : base ≤ w.heap.size) :
    ∃ a' c' w', (Builtin.append_ #[t, t] ty #[v, vx]).run Proofs.Try.prog w = .ok (.slice a' (l1 ++ l2).length c') w' ∧ OwnSl sz e R base w' (.slice a' (l1 ++ l2).length c') (l1 ++ l2) ∧ w.grownBy w' v.ownBlock := by
  obtain ⟨i, hi, hz, hs, hb⟩ := hT.info
  obtain ⟨cs, k1, k2, k3, a, cap, rfl, k6, k7, k8, k9⟩ := IsSl.flat hsz h2
  have h1' := h1
  obtain ⟨xs, hown, hxs⟩ := h1
  cases a with
  | none =>
    have hc0 := k8 rfl
    subst hc0
    have : l2 = [] := List.eq_nil_of_length_eq_zero (by omega)
    subst this
    obtain ⟨av, cv, rfl, hv1, _⟩ := h1'.shape
    have := run_append_nothing (P := Proofs.Try.prog) w t t ty e i hT.slice hi av l1.length cv hv1 (.slice none 0 0) (src_nil hT.slice w)
    refine ⟨av, cv, w, ?_, ?_, ?_⟩
    · simpa using this
    · simpa using h1'
    · exact ⟨rfl, rfl, rfl, Nat.le_refl _, fun _ _ _ => rfl⟩
  | some p =>
    obtain ⟨v', w', hrun, ho, hg, _⟩ := run_append_own (P := Proofs.Try.prog) w base t ty e i z sz i.bytes hT.slice hi hz hs rfl hzs hsz v l1.length xs hown p l2.length cap cs k1 (k9 p rfl)
      (fun c hc => by obtain ⟨i, x, r, _, hr, hcr⟩ := k3 c hc; exact hone x r hr c hcr) (by simp [maxLen]; omega) (Nat.le_trans (Nat.mul_le_mul hl hb) (by decide)) hbase
    have hO : OwnSl sz e R base w' v' (l1 ++ l2) := by
      refine ⟨xs ++ cs, by rw [List.length_append]; exact ho, fun i x hi => ?_⟩
      by_cases hil : i < l1.length
      · rw [List.getElem?_append_left hil] at hi
        obtain ⟨r, r1, r2, r3⟩ := hxs i x hi
        refine ⟨r, r1, fun j c hj => ?_, hR _ hg _ _ r3⟩
        have h4 := r2 j c hj
        rw [List.getElem?_append_left (list_lt h4)]; exact h4
      · rw [List.getElem?_append_right (by omega)] at hi
        obtain ⟨r, r1, r2, r3⟩ := k2 _ x hi
        refine ⟨r, r1, fun j c hj => ?_, hR _ hg _ _ r3⟩
        have h4 := r2 j c hj
        have hxl : xs.length = l1.length * sz := hown.1
        have hle : l1.length * sz ≤ i * sz := Nat.mul_le_mul_right _ (by omega)
        rw [List.getElem?_append_right (by omega), hxl]
        rw [show i * sz + j - l1.length * sz = (i - l1.length) * sz + j by rw [Nat.sub_mul]; omega]
        exact h4
    obtain ⟨a', c', e', _⟩ := hO.shape
    subst e'
    exact ⟨a', c', w', hrun, hO, hg⟩
section
variable {ops : Array Oper} {rest : List Oper} {o : Oper} {a : Act} {Q : Exit → Act → World → Prop} {w : World}
theorem wpList_append_osl {α : Type} {sz : Nat} {R : World → α → List Value → Prop} {N : Nat → Prop} {v vx : Value} {l1 l2 : List α} {t e : TypeId} {z : Value} {base : Nat} (s x : Operand) (hg : o.guard = none) (hop : o.op = Op.call { callee := Callee.builtin Builtin.append, args := #[s, x], argTypes := #[t, t] })
    (hs : a.eval s = v) (hx : a.eval x = vx) (hT : RowType t e sz z) (hzs : z.cells.size = sz) (hsz : 0 < sz) (h1 : OwnSl sz e R base w v l1) (h2 : IsSl sz R N w vx l2)
    (hone : ∀ x cs, R w x cs → ∀ c ∈ cs, c.oneCell' = true) (hR : ∀ w', w.grownBy w' v.ownBlock → ∀ x cs, R w x cs → R w' x cs) (hl : l1.length + l2.length ≤ 100000) (hbase : base ≤ w.heap.size)
    (hK : ∀ a' c' w', OwnSl sz e R base w' (.slice a' (l1 ++ l2).length c') (l1 ++ l2) → w.grownBy w' v.ownBlock → wpList Proofs.Try.prog ops Q rest (a.put o.dst (.slice a' (l1 ++ l2).length c')) w') : wpList Proofs.Try.prog ops Q (o :: rest) a w := by
  refine wpList_plain hg fun K hK' => ?_
  obtain ⟨a', c', w', hrun, r1, r2⟩ := run_append_osl (ty := o.type) hT hzs hsz h1 h2 hone hR hl hbase
  unfold Oper.wp
  simp [execOp, hop, resolve, invoke, builtin, hs, hx, hrun, Result.andThen]
  have h3 := hK a' c' w' r1 r2
  rw [show (l1 ++ l2).length = l1.length + l2.length from List.length_append] at h3
  exact hK' _ _ h3
end
theorem one_frame {N : Nat → Prop} {w : World} : ∀ x cs, RF N w x cs → ∀ c ∈ cs, c.oneCell' = true := by
  rintro x cs ⟨_, s, rfl, hs⟩ c hc
  obtain ⟨_, _, rfl, _⟩ := hs.opened
  simp [frameCells] at hc
  rcases hc with rfl | rfl | rfl | rfl | rfl | rfl | rfl | rfl | rfl | rfl | rfl <;> rfl
theorem one_core {N : Nat → Prop} {w : World} : ∀ x cs, RC N w x cs → ∀ c ∈ cs, c.oneCell' = true := by
  rintro x cs ⟨_, f, r, rfl, hf, hr⟩ c hc
  obtain ⟨_, _, rfl, _⟩ := hr.opened
  obtain ⟨_, _, rfl, _⟩ := IsSl.opened hf
  simp [coreCells] at hc
  rcases hc with rfl | rfl | rfl | rfl | rfl | rfl | rfl <;> rfl
theorem one_ev {w : World} : ∀ x cs, RE w x cs → ∀ c ∈ cs, c.oneCell' = true := by
  rintro x cs rfl c hc
  simp at hc
  rcases hc with rfl | rfl | rfl | rfl | rfl <;> rfl
theorem zs11 : (Value.agg #[.int .i64 0, .int .i64 0, .int .i64 0, .int .i64 0, .int .i64 0, .int .i64 0, .int .i64 0, .int .i64 0, .int .i64 0, .int .i64 0, .slice none 0 0]).cells.size = 11 := by kernel_rfl
theorem zs5 : (Value.agg #[.int .i64 0, .int .i64 0, .int .i64 0, .int .i64 0, .int .i64 0]).cells.size = 5 := by kernel_rfl
theorem zs7 : zeroC.cells.size = 7 := by kernel_rfl

/-- N, and what is made from a world on -/
def Up (N : Nat → Prop) (w : World) : Nat → Prop := fun b => N b ∨ w.heap.size ≤ b
theorem Up.mem {N : Nat → Prop} {w : World} {x : Nat} (h : w.heap.size ≤ x) : Up N w x := .inr h
theorem Up.bx {N : Nat → Prop} {w : World} {hi x : Nat} (h : Bx N w.heap.size hi x) : Up N w x := h.elim .inl fun q => .inr q.1
theorem IsSys.up {N : Nat → Prop} {w : World} {v : Value} {s : SysD} (h : IsSys N w v s) : IsSys (Up N w) w v s := h.less fun _ hx hn => hn.elim id fun k => absurd k (by omega)
theorem IsInts.up {N : Nat → Prop} {w : World} {v : Value} {l : List Int} (h : IsInts N w v l) : IsInts (Up N w) w v l := h.less fun _ hx hn => hn.elim id fun k => absurd k (by omega)
theorem IsSys.bx {N : Nat → Prop} {w w' : World} {hi : Nat} {v : Value} {s : SysD} (h : IsSys (Up N w) w' v s) : IsSys (Bx N w.heap.size hi) w' v s := h.less fun _ _ hn => Up.bx hn
theorem IsInts.bx {N : Nat → Prop} {w w' : World} {hi : Nat} {v : Value} {l : List Int} (h : IsInts (Up N w) w' v l) : IsInts (Bx N w.heap.size hi) w' v l := h.less fun _ _ hn => Up.bx hn
theorem IsFrames.up {N : Nat → Prop} {w : World} {v : Value} {l : List FrameD} (h : IsFrames N w v l) : IsFrames (Up N w) w v l := IsFrames.less h fun _ hx hn => hn.elim id fun k => absurd k (by omega)
theorem OwnSl.lt {α : Type} {sz : Nat} {e : TypeId} {R : World → α → List Value → Prop} {base : Nat} {w : World} {v : Value} {l : List α} (h : OwnSl sz e R base w v l) : ∀ k, v.ownBlock = some k → k < w.heap.size := by
  obtain ⟨xs, ⟨h1, h2⟩, h3⟩ := h
  rcases h2 with ⟨rfl, h2⟩ | ⟨g, cap, cur, rfl, hb, hg, hc, hm, hs, ht⟩
  · intro k hk; cases hk
  · intro k hk; cases hk
    have hB : Box w g cur e := hg
    exact hB.lt
theorem OwnSl.extF {N : Nat → Prop} {base : Nat} {w w' : World} {v : Value} {l : List FrameD} (h : OwnSl 11 95 (RF N) base w v l) (k : Ext w w') : OwnSl 11 95 (RF N) base w' v l :=
  h.keep (N := no) k.keep (fun _ _ => id) fun _ _ h => h.keep k.keep
theorem IsSl.one {α : Type} {sz : Nat} {R : World → α → List Value → Prop} {w : World} {b : Nat} {cs : List Value} {e : TypeId} {x : α} (hB : Box w b cs.toArray e) (hs : cs.length = sz) (hR : R w x cs) : IsSl sz R no w (.slice (some ⟨b, 0, none⟩) 1 1) [x] := by
  refine ⟨_, 1, rfl, by simp, by omega, fun e => by simp at e, fun i y hi => ?_⟩
  have h0 : i = 0 := by have := list_lt hi; simp at this; omega
  subst h0
  simp at hi; subst hi
  refine ⟨b, 0, cs, rfl, hB.lt, id, hs, fun j c hj => ?_, hR⟩
  simp only [Nat.zero_mul, Nat.zero_add]
  exact hB.cell (by rw [nth_eq]; simpa using hj)
section
variable {ops : Array Oper} {rest : List Oper} {o : Oper} {a : Act} {Q : Exit → Act → World → Prop} {w : World}
theorem wpList_append_frames {N M : Nat → Prop} {v vx : Value} {l1 l2 : List FrameD} {base : Nat} (s x : Operand) (hg : o.guard = none) (hop : o.op = Op.call { callee := Callee.builtin Builtin.append, args := #[s, x], argTypes := #[114, 114] })
    (hs : a.eval s = v) (hx : a.eval x = vx) (h1 : OwnSl 11 95 (RF N) base w v l1) (h2 : IsSl 11 (RF N) M w vx l2) (hN : ∀ k, base ≤ k → N k) (hl : l1.length + l2.length ≤ 100000) (hbase : base ≤ w.heap.size)
    (hK : ∀ a' n' c' w', Hid (n' = (l1 ++ l2).length) → OwnSl 11 95 (RF N) base w' (.slice a' n' c') (l1 ++ l2) → (∀ b cs t, Box w b cs t → b < base → Box w' b cs t) → (∀ a, Ext a w → a.heap.size ≤ base → Ext a w') → w.heap.size ≤ w'.heap.size → wpList Proofs.Try.prog ops Q rest (a.put o.dst (.slice a' n' c')) w') : wpList Proofs.Try.prog ops Q (o :: rest) a w :=
  wpList_append_osl s x hg hop hs hx rowF zs11 (by decide) h1 h2 one_frame (fun w' g x cs h => RF.keep h (grown_keep g fun k hk => hN k (h1.base k hk))) hl hbase fun a' c' w' ho hgr =>
    hK a' _ c' w' (Lib.hid rfl) ho (fun b cs t hB hb => hB.keep (grown_keep (N := fun k => base ≤ k) hgr fun k hk => h1.base k hk) (by omega)) (fun a ha hsz => grown_ext hgr ha fun k hk => Nat.le_trans hsz (h1.base k hk)) hgr.size
end
theorem nil_ints (N : Nat → Prop) (w : World) : IsInts N w (.slice none 0 0) [] := ⟨none, 0, rfl, by simp, by omega, fun _ => rfl, fun i hi => by simp at hi⟩
theorem frames_set {N : Nat → Prop} {w cur : World} {hi b cap k n : Nat} {cells : Array Value} {rows : List (List Value)} {l : List FrameD} {g : FrameD} {s : Value} (hB : Box cur b cells 95) (hrows : RowsIn 11 cells (rows.set k (frameCells g s))) (hl : rows.length = l.length)
    (hR : ∀ (i : Nat) x r, l[i]? = some x → rows[i]? = some r → RF (Up N w) cur x r) (h8 : g.R.length = 8) (hs : IsInts (Up N w) cur s g.S) (hn : ¬ Bx N w.heap.size hi b) (hln : l.length = n) (hcap : n ≤ cap) (hm : cap ≤ 9223372036854775807) : IsFrames (Bx N w.heap.size hi) cur (.slice (some ⟨b, 0, none⟩) n cap) (l.set k g) := by
  subst hln
  have := IsSl.of_box (sz := 11) (R := RF (Bx N w.heap.size hi)) (N := Bx N w.heap.size hi) (cap := cap) (l := l.set k g) hB hn (by simpa using hcap) hm (fun i x hi => by
    have hil : i < l.length := by
      rcases Nat.lt_or_ge i l.length with h | h
      · exact h
      · rw [List.getElem?_eq_none (by simpa using h)] at hi; cases hi
    by_cases hik : k = i
    · subst hik
      rw [set_at hil] at hi; cases hi
      have := hrows k _ (set_at (by omega))
      exact ⟨_, this.1, this.2, h8, s, rfl, hs.less fun _ _ h => Up.bx h⟩
    · rw [List.getElem?_set_ne hik] at hi
      obtain ⟨r, hr⟩ := getSome (show i < rows.length by omega)
      have := hrows i r (by rw [List.getElem?_set_ne hik]; exact hr)
      exact ⟨r, this.1, this.2, (hR i x r hi hr).less fun _ _ h => Up.bx h⟩)
  simpa using this
section
variable {ops : Array Oper} {rest : List Oper} {o : Oper} {a : Act} {Q : Exit → Act → World → Prop} {w : World}
theorem wpList_append_alln {α : Type} {sz : Nat} {R : World → α → List Value → Prop} {N : Nat → Prop} {l : List α} {t e : TypeId} {z v : Value} {a0 : Addr} (n : Nat) (hn : l.length = n) (s x : Operand) (hg : o.guard = none) (hop : o.op = Op.call { callee := Callee.builtin Builtin.append, args := #[s, x], argTypes := #[t, t] })
    (hs : a.eval s = .slice (some a0) 0 0) (hx : a.eval x = v) (hT : RowType t e sz z) (hsz : 0 < sz) (h : IsSl sz R N w v l) (h0 : 0 < n) (hl : n ≤ 100000)
    (hK : ∀ cap w' cells rows, Ext w w' → n ≤ cap → cap ≤ 9223372036854775807 → Box w' w.heap.size cells e → RowsIn sz cells rows → rows.length = n → (∀ (i : Nat) x r, l[i]? = some x → rows[i]? = some r → R w x r) →
      wpList Proofs.Try.prog ops Q rest (a.put o.dst (.slice (some ⟨w.heap.size, 0, none⟩) n cap)) w') : wpList Proofs.Try.prog ops Q (o :: rest) a w := by
  subst hn
  exact wpList_append_all s x hg hop hs hx hT hsz h h0 hl hK
end
theorem list11 {l : List Value} (h : l.length = 11) : ∃ a b c d e f g i j k m, l = [a, b, c, d, e, f, g, i, j, k, m] := by
  match l, h with
  | [a, b, c, d, e, f, g, i, j, k, m], _ => exact ⟨a, b, c, d, e, f, g, i, j, k, m, rfl⟩

theorem IsCoreV.mk {N : Nat → Prop} {w : World} {f r : Value} {c : CoreD} (h3 : c.X.length = 3) (hf : IsFrames N w f c.F) (hr : IsInts N w r c.Ret) : IsCoreV N w (.agg #[f, .int .i64 c.V, .int .i64 c.E, .int .i64 (gi c.X 0), .int .i64 (gi c.X 1), .int .i64 (gi c.X 2), r]) c :=
  ⟨_, rfl, h3, f, r, rfl, hf, hr⟩
theorem OwnSl.frames {N : Nat → Prop} {w w1 w2 : World} {lo hi base : Nat} {v : Value} {l : List FrameD} (h : OwnSl 11 95 (RF (Up N w)) base w1 v l) (hN : ∀ b, base ≤ b → ¬ Bx N lo hi b) (k : Keep (Bx N lo hi) w1 w2) (hlo : w.heap.size ≤ lo := by omega) : IsFrames (Bx N lo hi) w2 v l := by
  have h1 : IsSl 11 (RF (Up N w)) (Bx N lo hi) w1 v l := h.sl hN
  have h2 : IsSl 11 (RF (Bx N lo hi)) (Bx N lo hi) w1 v l := IsSl.less h1 (fun _ _ h => h) fun _ _ _ h => h.less fun _ _ h => h.elim .inl fun q => .inr (Nat.le_trans hlo q.1)
  exact IsFrames.keep h2 k
set_option maxHeartbeats 1000000 in
set_option maxRecDepth 100000 in
theorem refCall_ (N : Nat → Prop) (va : Value) (s : SysD) (id op a1 b1 c1 : Int) (w : World) (h : IsSys N w va s) (hN : ∀ b, N b → b < w.heap.size) (hC : s.C.length ≤ 100000) :
    Gives Proofs.Try.prog 88 #[va, .int .i64 id, .int .i64 op, .int .i64 a1, .int .i64 b1, .int .i64 c1] w (fun r w' => IsSys N w' r (callS s id op [a1, b1, c1])) := by
  obtain ⟨aw, cw, ag, cg, ac, cc, al, cl, rfl, hw, hg, hc, hl⟩ := h.opened
  cases hh : hasD s id
  · have hd : callS s id op [a1, b1, c1] = s := by simp [callS, hh]
    rw [hd]
    by_cases q : id < 0
    · clear hh hd
      go_enter Proofs.Try.func88, Proofs.Try.ntmps88
      go_wp2
      exact bodyPost_ret (ret_cell (Box.newAt _ _ _ (by first | rfl | simp)) Proofs.Try.results88 rfl Proofs.Try.underlying83 rfl (by kernel_rfl)) rfl ⟨_, rfl, exn, IsSys.mk rfl (hw.ext exn) (hg.ext exn) (IsCores.keep hc (show Ext w _ from exn).keep) (IsEvs.keep hl (show Ext w _ from exn).keep)⟩
    · have q2 : (s.C.length : Int) ≤ id := (by simp [hasD] at hh; omega)
      clear hh hd
      go_enter Proofs.Try.func88, Proofs.Try.ntmps88
      go_wp2
      exact bodyPost_ret (ret_cell (Box.newAt _ _ _ (by first | rfl | simp)) Proofs.Try.results88 rfl Proofs.Try.underlying83 rfl (by kernel_rfl)) rfl ⟨_, rfl, exn, IsSys.mk rfl (hw.ext exn) (hg.ext exn) (IsCores.keep hc (show Ext w _ from exn).keep) (IsEvs.keep hl (show Ext w _ from exn).keep)⟩
  · obtain ⟨k, rfl⟩ : ∃ k : Nat, id = k := ⟨id.toNat, by simp [hasD] at hh; omega⟩
    have hk : k < s.C.length := by simp [hasD] at hh; omega
    have q0 : ¬ (k : Int) < 0 := by omega
    have q1 : ¬ (s.C.length : Int) ≤ (k : Int) := by omega
    have q3 : ¬ s.C.length ≤ k := by omega
    obtain ⟨co, hck⟩ := getSome hk
    obtain ⟨bc, oc, af, cf, ar, cr, rfl, xc, nc, hx3, hf, hr, e0, e1, e2, e3, e4, e5, e6⟩ := IsCores.at hc hck
    by_cases hfull : co.F.length < 40
    · have hf1 : ¬ (40 : Int) ≤ (co.F.length : Int) := by omega
      have hd : callS s k op [a1, b1, c1] = withS s k (callC co (newF op [a1, b1, c1])) := by simp [callS, hh, hck, hfull]
      rw [hd]
      have hfU := IsFrames.up hf
      have hN1 : ∀ b, w.heap.size + 1 + 1 + 1 ≤ b → ¬ Bx N w.heap.size (w.heap.size + 3) b := fun b hb hn => hn.elim (fun hn => by have := hN b hn; omega) fun q => by have := q.2; omega
      have hwB := IsInts.less hw (M := Bx N w.heap.size (w.heap.size + 3)) fun x hx hn => Bx.new hx hn
      have hgB := IsInts.less hg (M := Bx N w.heap.size (w.heap.size + 3)) fun x hx hn => Bx.new hx hn
      have hcB := IsCores.less hc (M := Bx N w.heap.size (w.heap.size + 3)) fun x hx hn => Bx.new hx hn
      have hlB := IsEvs.less hl (M := Bx N w.heap.size (w.heap.size + 3)) fun x hx hn => Bx.new hx hn
      have hrB := IsInts.less hr (M := Bx N w.heap.size (w.heap.size + 3)) fun x hx hn => Bx.new hx hn
      clear hh hd hck
      go_enter Proofs.Try.func88, Proofs.Try.ntmps88
      go_wp2_with (first | (at_builtin; refine wpList_append_frames (base := w.heap.size + 1 + 1 + 1) (.tmp 40) (.tmp 42) rfl rfl rfl rfl (OwnSl.nil (Box.newAt _ _ _ (by first | rfl | simp)) (Nat.le_refl _)) (IsFrames.keep hfU (show Ext w _ from exq).keep) (fun k hk => .inr (by omega)) (by first | omega | (simp <;> omega)) (by first | omega | (simp <;> omega)) ?_; intro fa1 fa1n fc1 w1 Hfa1 ho1 kb1 kx1 ks1; have hb1 : Ext w w1 := kx1 w exq (by omega); have B0_1 : Box w1 (w.heap.size) #[.slice aw s.M.W.length cw, .slice ag s.M.G.length cg, .bool s.M.bad, .slice (some ⟨bc, oc, none⟩) s.C.length cc, .slice al s.L.length cl] 83 := kb1 _ _ _ ((((Box.newAt _ _ _ (by first | rfl | simp)).alloc _).alloc _).alloc _) (by omega); have B1_1 : Box w1 (w.heap.size + 1) #[.slice none 0 0, .slice none 0 0, .bool false, .slice none 0 0, .slice none 0 0] 83 := kb1 _ _ _ (((Box.newAt _ _ _ (by first | rfl | simp)).alloc _).alloc _) (by omega); have B2_1 : Box w1 (w.heap.size + 1 + 1) #[.slice af co.F.length cf, .int .i64 co.V, .int .i64 co.E, .int .i64 (gi co.X 0), .int .i64 (gi co.X 1), .int .i64 (gi co.X 2), .slice ar co.Ret.length cr] 116 := kb1 _ _ _ ((Box.newAt _ _ _ (by first | rfl | simp)).alloc _) (by omega); have s1 : w.heap.size + 4 ≤ w1.heap.size := (by have h := ks1; simp at h; omega); obtain ⟨c0_0, c0_1, c0_2, c0_3, c0_4, d0_0, d0_1, d0_2, d0_3, d0_4⟩ := cells5 B0_1; have z0 : w.heap.size < w1.heap.size := B0_1.lt; obtain ⟨c1_0, c1_1, c1_2, c1_3, c1_4, d1_0, d1_1, d1_2, d1_3, d1_4⟩ := cells5 B1_1; have z1 : w.heap.size + 1 < w1.heap.size := B1_1.lt; obtain ⟨c2_0, c2_1, c2_2, c2_3, c2_4, c2_5, c2_6, d2_0, d2_1, d2_2, d2_3, d2_4, d2_5, d2_6⟩ := cells7 B2_1; have z2 : w.heap.size + 1 + 1 < w1.heap.size := B2_1.lt) | (at_builtin; refine wpList_append_frames (base := w.heap.size + 1 + 1 + 1) (.tmp 44) (.tmp 51) rfl rfl rfl rfl (OwnSl.extF ho1 exq) (IsSl.one (sz := 11) (cs := frameCells (newF op [a1, b1, c1]) (.slice none 0 0)) (Box.newAt _ _ _ rfl) rfl ⟨rfl, _, rfl, nil_ints _ _⟩) (fun k hk => .inr (by omega)) (by first | omega | (simp <;> omega)) (by first | omega | (simp <;> omega)) ?_; intro fa2 fa2n fc2 w2 Hfa2 ho2 kb2 kx2 ks2; have hb2 : Ext w w2 := kx2 w exq (by omega); have B0_2 : Box w2 (w.heap.size) #[.slice aw s.M.W.length cw, .slice ag s.M.G.length cg, .bool s.M.bad, .slice (some ⟨bc, oc, none⟩) s.C.length cc, .slice al s.L.length cl] 83 := kb2 _ _ _ (B0_1.alloc _) (by omega); have B1_2 : Box w2 (w.heap.size + 1) #[.slice none 0 0, .slice none 0 0, .bool false, .slice none 0 0, .slice none 0 0] 83 := kb2 _ _ _ (B1_1.alloc _) (by omega); have B2_2 : Box w2 (w.heap.size + 1 + 1) #[.slice af co.F.length cf, .int .i64 co.V, .int .i64 co.E, .int .i64 (gi co.X 0), .int .i64 (gi co.X 1), .int .i64 (gi co.X 2), .slice ar co.Ret.length cr] 116 := kb2 _ _ _ (B2_1.alloc _) (by omega); clear c0_0 c0_1 c0_2 c0_3 c0_4 d0_0 d0_1 d0_2 d0_3 d0_4 z0 c1_0 c1_1 c1_2 c1_3 c1_4 d1_0 d1_1 d1_2 d1_3 d1_4 z1 c2_0 c2_1 c2_2 c2_3 c2_4 c2_5 c2_6 d2_0 d2_1 d2_2 d2_3 d2_4 d2_5 d2_6 z2; have s2 : w1.heap.size + 1 ≤ w2.heap.size := (by have h := ks2; simp at h; omega); obtain ⟨c0_0, c0_1, c0_2, c0_3, c0_4, d0_0, d0_1, d0_2, d0_3, d0_4⟩ := cells5 B0_2; have z0 : w.heap.size < w2.heap.size := B0_2.lt; obtain ⟨c1_0, c1_1, c1_2, c1_3, c1_4, d1_0, d1_1, d1_2, d1_3, d1_4⟩ := cells5 B1_2; have z1 : w.heap.size + 1 < w2.heap.size := B1_2.lt; obtain ⟨c2_0, c2_1, c2_2, c2_3, c2_4, c2_5, c2_6, d2_0, d2_1, d2_2, d2_3, d2_4, d2_5, d2_6⟩ := cells7 B2_2; have z2 : w.heap.size + 1 + 1 < w2.heap.size := B2_2.lt))
      go_at_call 92
      refine (with_ (Bx N w.heap.size (w.heap.size + 3)) _ _ s k (callC co (newF op [a1, b1, c1])) _ (IsSys.mk rfl (IsInts.keep hwB (by with_reducible (repeat (first | assumption | exact Keep.refl _ _ | refine Keep.alloc ?_ _ | refine Keep.s ?_ (by first | assumption | exact Bx.mem (by omega) (by omega) | exact Up.mem (by omega)) | refine Keep.n ?_ (by omega) | refine Keep.ext ?_ (by assumption) | refine Keep.drew ?_)))) (IsInts.keep hgB (by with_reducible (repeat (first | assumption | exact Keep.refl _ _ | refine Keep.alloc ?_ _ | refine Keep.s ?_ (by first | assumption | exact Bx.mem (by omega) (by omega) | exact Up.mem (by omega)) | refine Keep.n ?_ (by omega) | refine Keep.ext ?_ (by assumption) | refine Keep.drew ?_)))) (IsCores.keep hcB (by with_reducible (repeat (first | assumption | exact Keep.refl _ _ | refine Keep.alloc ?_ _ | refine Keep.s ?_ (by first | assumption | exact Bx.mem (by omega) (by omega) | exact Up.mem (by omega)) | refine Keep.n ?_ (by omega) | refine Keep.ext ?_ (by assumption) | refine Keep.drew ?_)))) (IsEvs.keep hlB (by with_reducible (repeat (first | assumption | exact Keep.refl _ _ | refine Keep.alloc ?_ _ | refine Keep.s ?_ (by first | assumption | exact Bx.mem (by omega) (by omega) | exact Up.mem (by omega)) | refine Keep.n ?_ (by omega) | refine Keep.ext ?_ (by assumption) | refine Keep.drew ?_)))) : IsSys (Bx N w.heap.size (w.heap.size + 3)) _ _ s) (IsCoreV.mk hx3 (OwnSl.frames (lo := w.heap.size) (hi := w.heap.size + 3) ho2 hN1 (by with_reducible (repeat (first | assumption | exact Keep.refl _ _ | refine Keep.alloc ?_ _ | refine Keep.s ?_ (by first | assumption | exact Bx.mem (by omega) (by omega) | exact Up.mem (by omega)) | refine Keep.n ?_ (by omega) | refine Keep.ext ?_ (by assumption) | refine Keep.drew ?_)))) (IsInts.keep hrB (by with_reducible (repeat (first | assumption | exact Keep.refl _ _ | refine Keep.alloc ?_ _ | refine Keep.s ?_ (by first | assumption | exact Bx.mem (by omega) (by omega) | exact Up.mem (by omega)) | refine Keep.n ?_ (by omega) | refine Keep.ext ?_ (by assumption) | refine Keep.drew ?_))))) (fun b hb => (by have h := hb.elim (fun q => (by have := hN b q; omega : b < w.heap.size + 3)) (fun q => (by have := q.2; omega : b < w.heap.size + 3)); simp; omega)) hC hk).calls.mono ?_
      rintro e w3 ⟨_, rfl, hb3, hu3⟩
      obtain ⟨r1, r2, r3, r4, r5, r6, r7, r8, rfl, rW, rG, rC, rL⟩ := hu3.opened
      have B0_3 : Box w3 (w.heap.size) #[.slice aw s.M.W.length cw, .slice ag s.M.G.length cg, .bool s.M.bad, .slice (some ⟨bc, oc, none⟩) s.C.length cc, .slice al s.L.length cl] 83 := (B0_2.setOther (by first | omega | (simp <;> omega)) _).ext hb3
      have B1_3 : Box w3 (w.heap.size + 1) #[.slice none 0 0, .slice none 0 0, .bool false, .slice none 0 0, .slice none 0 0] 83 := (B1_2.setOther (by first | omega | (simp <;> omega)) _).ext hb3
      have B2_3 : Box w3 (w.heap.size + 1 + 1) #[.slice fa2 fa2n fc2, .int .i64 co.V, .int .i64 co.E, .int .i64 (gi co.X 0), .int .i64 (gi co.X 1), .int .i64 (gi co.X 2), .slice ar co.Ret.length cr] 116 := (B2_2.setCell _).ext hb3
      clear c0_0 c0_1 c0_2 c0_3 c0_4 d0_0 d0_1 d0_2 d0_3 d0_4 z0 c1_0 c1_1 c1_2 c1_3 c1_4 d1_0 d1_1 d1_2 d1_3 d1_4 z1 c2_0 c2_1 c2_2 c2_3 c2_4 c2_5 c2_6 d2_0 d2_1 d2_2 d2_3 d2_4 d2_5 d2_6 z2
      have s3 : w2.heap.size ≤ w3.heap.size := (by have h := hb3.size; simp at h; omega)
      obtain ⟨c0_0, c0_1, c0_2, c0_3, c0_4, d0_0, d0_1, d0_2, d0_3, d0_4⟩ := cells5 B0_3
      have z0 : w.heap.size < w3.heap.size := B0_3.lt
      obtain ⟨c1_0, c1_1, c1_2, c1_3, c1_4, d1_0, d1_1, d1_2, d1_3, d1_4⟩ := cells5 B1_3
      have z1 : w.heap.size + 1 < w3.heap.size := B1_3.lt
      obtain ⟨c2_0, c2_1, c2_2, c2_3, c2_4, c2_5, c2_6, d2_0, d2_1, d2_2, d2_3, d2_4, d2_5, d2_6⟩ := cells7 B2_3
      have z2 : w.heap.size + 1 + 1 < w3.heap.size := B2_3.lt
      go_wp2
      exact bodyPost_ret (ret_cell (((((B1_3.setCell _).setCell _).setCell _).setCell _).setCell _) Proofs.Try.results88 rfl Proofs.Try.underlying83 rfl (by kernel_rfl)) rfl ⟨_, rfl, exn, IsSys.less (IsSys.keep hu3 (by with_reducible (repeat (first | assumption | exact Keep.refl _ _ | refine Keep.alloc ?_ _ | refine Keep.s ?_ (by first | assumption | exact Bx.mem (by omega) (by omega) | exact Up.mem (by omega)) | refine Keep.n ?_ (by omega) | refine Keep.ext ?_ (by assumption) | refine Keep.drew ?_)))) (fun _ _ hn => .inl hn)⟩
    · have hf1 : (40 : Int) ≤ (co.F.length : Int) := by omega
      have hd : callS s k op [a1, b1, c1] = s := by simp [callS, hh, hck, hfull]
      rw [hd]
      clear hh hd hck
      go_enter Proofs.Try.func88, Proofs.Try.ntmps88
      go_wp2
      exact bodyPost_ret (ret_cell (Box.newAt _ _ _ (by first | rfl | simp)) Proofs.Try.results88 rfl Proofs.Try.underlying83 rfl (by kernel_rfl)) rfl ⟨_, rfl, exn, IsSys.mk rfl (hw.ext exn) (hg.ext exn) (IsCores.keep hc (show Ext w _ from exn).keep) (IsEvs.keep hl (show Ext w _ from exn).keep)⟩


theorem setC_frames {N : Nat → Prop} {w : World} {v : Value} {c : CoreD} {g : FrameD} {k1 : Nat} (hl : c.F.length = k1 + 1) (h : IsFrames N w v (c.F.set k1 g)) : IsFrames N w v (setC c g).F := by
  have e : (setC c g).F = c.F.set k1 g := by show c.F.set (c.F.length - 1) g = _; rw [hl]; rfl
  rw [e]; exact h
set_option maxHeartbeats 1000000 in
set_option maxRecDepth 100000 in
theorem refSet_ (N : Nat → Prop) (va vf : Value) (s : SysD) (id : Int) (g : FrameD) (w : World) (h : IsSys N w va s) (hf' : IsFrame N w vf g) (hN : ∀ b, N b → b < w.heap.size) (hC : s.C.length ≤ 100000) (hFm : ∀ (i : Nat) c, s.C[i]? = some c → c.F.length ≤ 100000) :
    Gives Proofs.Try.prog 89 #[va, .int .i64 id, vf] w (fun r w' => IsSys N w' r (setS s id g)) := by
  have kt := fun (w' : World) (e : Ext w w') => refTop_ N va s id w' (h.ext e)
  have hsU := h.up
  obtain ⟨aw, cw, ag, cg, ac, cc, al, cl, rfl, hw, hg, hc, hl⟩ := h.opened
  obtain ⟨ga, gc, rfl, g8, gs⟩ := hf'.opened
  have gsU := gs.up
  cases ht : topD s id with
  | none =>
    rw [show (topD s id).isSome = false by rw [ht]; rfl] at kt
    have hd : setS s id g = s := doS_none ht
    rw [hd]
    clear hd ht
    go_enter Proofs.Try.func89, Proofs.Try.ntmps89
    go_wp2_with (fail)
    go_at_call 82
    refine (kt _ exq).calls.mono ?_
    rintro e w1 ⟨_, rfl, hb1, u, rfl, hu1⟩
    obtain ⟨tf, htf⟩ : ∃ f, topF s id = f := ⟨_, rfl⟩
    rw [htf] at hu1
    clear htf
    obtain ⟨tfa, tfc, rfl, tf8, tfs⟩ := hu1.opened
    have B0_1 : Box w1 (w.heap.size) #[.slice aw s.M.W.length cw, .slice ag s.M.G.length cg, .bool s.M.bad, .slice ac s.C.length cc, .slice al s.L.length cl] 83 := (((Box.newAt _ _ _ (by first | rfl | simp)).alloc _).alloc _).ext hb1
    have B1_1 : Box w1 (w.heap.size + 1) #[.int .i64 g.op, .int .i64 g.pc, .int .i64 (gi g.R 0), .int .i64 (gi g.R 1), .int .i64 (gi g.R 2), .int .i64 (gi g.R 3), .int .i64 (gi g.R 4), .int .i64 (gi g.R 5), .int .i64 (gi g.R 6), .int .i64 (gi g.R 7), .slice ga g.S.length gc] 95 := ((Box.newAt _ _ _ (by first | rfl | simp)).alloc _).ext hb1
    have B2_1 : Box w1 (w.heap.size + 1 + 1) #[.slice none 0 0, .slice none 0 0, .bool false, .slice none 0 0, .slice none 0 0] 83 := (Box.newAt _ _ _ (by first | rfl | simp)).ext hb1
    have s1 : w.heap.size + 3 ≤ w1.heap.size := (by have h := hb1.size; simp at h; omega)
    obtain ⟨c0_0, c0_1, c0_2, c0_3, c0_4, d0_0, d0_1, d0_2, d0_3, d0_4⟩ := cells5 B0_1
    have z0 : w.heap.size < w1.heap.size := B0_1.lt
    obtain ⟨⟨c1_0, c1_1, c1_2, c1_3, c1_4, c1_5, c1_6, c1_7, c1_8, c1_9, c1_10⟩, d1_0, d1_1, d1_2, d1_3, d1_4, d1_5, d1_6, d1_7, d1_8, d1_9, d1_10⟩ := cells11 B1_1
    have z1 : w.heap.size + 1 < w1.heap.size := B1_1.lt
    obtain ⟨c2_0, c2_1, c2_2, c2_3, c2_4, d2_0, d2_1, d2_2, d2_3, d2_4⟩ := cells5 B2_1
    have z2 : w.heap.size + 1 + 1 < w1.heap.size := B2_1.lt
    go_wp2
    exact bodyPost_ret (ret_cell ((((((B2_1.setCell _).setCell _).setCell _).setCell _).setCell _).alloc _) Proofs.Try.results89 rfl Proofs.Try.underlying83 rfl (by kernel_rfl)) rfl ⟨_, rfl, exn, IsSys.mk rfl (hw.ext exn) (hg.ext exn) (IsCores.keep hc (show Ext w _ from exn).keep) (IsEvs.keep hl (show Ext w _ from exn).keep)⟩
  | some g0 =>
    obtain ⟨k, co, rfl, hck, hpos, _⟩ := top_some ht
    rw [show (topD s k).isSome = true by rw [ht]; rfl] at kt
    have hd : setS s k g = withS s k (setC co g) := doS_some ht hck
    rw [hd]
    have hk : k < s.C.length := by
      rcases Nat.lt_or_ge k s.C.length with h | h
      · exact h
      · rw [List.getElem?_eq_none h] at hck; cases hck
    have hk1 : (k : Int) < (s.C.length : Int) := by omega
    obtain ⟨k1, hlen0⟩ : ∃ k1, co.F.length = k1 + 1 := ⟨co.F.length - 1, by omega⟩
    have hk100 : k1 + 1 ≤ 100000 := by have := hFm k co hck; omega
    obtain ⟨bc, oc, af, cf, ar, cr, rfl, xc, nc, hx3, hf, hr, e0, e1, e2, e3, e4, e5, e6⟩ := IsCores.at hc hck
    have hwU := hw.up
    have hgU := hg.up
    have hcU := IsCores.less hc (M := Up N w) fun x hx hn => hn.elim id fun k => absurd k (by omega)
    have hlU := IsEvs.less hl (M := Up N w) fun x hx hn => hn.elim id fun k => absurd k (by omega)
    have hfU := IsFrames.up hf
    have hrU := hr.up
    have hNR : ∀ w1 : World, w.heap.size + 3 ≤ w1.heap.size → ¬ Bx N w.heap.size (w.heap.size + 3) (w1.heap.size + 1 + 1 + 1) := fun w1 h1 hn => hn.elim (fun hn => by have := hN _ hn; omega) fun q => by have := q.2; omega
    have hlen := Lib.hid hlen0
    clear hlen0 hd ht hck
    go_enter Proofs.Try.func89, Proofs.Try.ntmps89
    go_wp2_with (fail)
    go_at_call 82
    refine (kt _ exq).calls.mono ?_
    rintro e w1 ⟨_, rfl, hb1, u, rfl, hu1⟩
    obtain ⟨tf, htf⟩ : ∃ f, topF s (k : Int) = f := ⟨_, rfl⟩
    rw [htf] at hu1
    clear htf
    obtain ⟨tfa, tfc, rfl, tf8, tfs⟩ := hu1.opened
    have hE1 : Ext w w1 := exq
    have xc1 : bc < w1.heap.size := Nat.lt_of_lt_of_le xc hE1.size
    have e0a := cell_ext e0 hE1
    have e1a := cell_ext e1 hE1
    have e2a := cell_ext e2 hE1
    have e3a := cell_ext e3 hE1
    have e4a := cell_ext e4 hE1
    have e5a := cell_ext e5 hE1
    have e6a := cell_ext e6 hE1
    have B0_1 : Box w1 (w.heap.size) #[.slice aw s.M.W.length cw, .slice ag s.M.G.length cg, .bool s.M.bad, .slice (some ⟨bc, oc, none⟩) s.C.length cc, .slice al s.L.length cl] 83 := (((Box.newAt _ _ _ (by first | rfl | simp)).alloc _).alloc _).ext hb1
    have B1_1 : Box w1 (w.heap.size + 1) #[.int .i64 g.op, .int .i64 g.pc, .int .i64 (gi g.R 0), .int .i64 (gi g.R 1), .int .i64 (gi g.R 2), .int .i64 (gi g.R 3), .int .i64 (gi g.R 4), .int .i64 (gi g.R 5), .int .i64 (gi g.R 6), .int .i64 (gi g.R 7), .slice ga g.S.length gc] 95 := ((Box.newAt _ _ _ (by first | rfl | simp)).alloc _).ext hb1
    have B2_1 : Box w1 (w.heap.size + 1 + 1) #[.slice none 0 0, .slice none 0 0, .bool false, .slice none 0 0, .slice none 0 0] 83 := (Box.newAt _ _ _ (by first | rfl | simp)).ext hb1
    have s1 : w.heap.size + 3 ≤ w1.heap.size := (by have h := hb1.size; simp at h; omega)
    obtain ⟨c0_0, c0_1, c0_2, c0_3, c0_4, d0_0, d0_1, d0_2, d0_3, d0_4⟩ := cells5 B0_1
    have z0 : w.heap.size < w1.heap.size := B0_1.lt
    obtain ⟨⟨c1_0, c1_1, c1_2, c1_3, c1_4, c1_5, c1_6, c1_7, c1_8, c1_9, c1_10⟩, d1_0, d1_1, d1_2, d1_3, d1_4, d1_5, d1_6, d1_7, d1_8, d1_9, d1_10⟩ := cells11 B1_1
    have z1 : w.heap.size + 1 < w1.heap.size := B1_1.lt
    obtain ⟨c2_0, c2_1, c2_2, c2_3, c2_4, d2_0, d2_1, d2_2, d2_3, d2_4⟩ := cells5 B2_1
    have z2 : w.heap.size + 1 + 1 < w1.heap.size := B2_1.lt
    go_wp2_with (at_builtin; refine wpList_append_alln (k1 + 1) hlen.out (.tmp 25) (.tmp 27) rfl rfl rfl rfl rowF (by decide) (IsFrames.keep hfU (by with_reducible (repeat (first | assumption | exact Keep.refl _ _ | refine Keep.alloc ?_ _ | refine Keep.s ?_ (by first | assumption | exact Bx.mem (by omega) (by omega) | exact Up.mem (by omega)) | refine Keep.n ?_ (by omega) | refine Keep.ext ?_ (by assumption) | refine Keep.drew ?_)))) (by omega) (by omega) ?_; intro cap2 w2 cells rows hb2 hc1 hc2 hB hR hRl hRR; have hB : Box w2 (w1.heap.size + 1 + 1 + 1) cells 95 := (by simpa using hB); have B0_2 : Box w2 (w.heap.size) #[.slice aw s.M.W.length cw, .slice ag s.M.G.length cg, .bool s.M.bad, .slice (some ⟨bc, oc, none⟩) s.C.length cc, .slice al s.L.length cl] 83 := (((B0_1.alloc _).alloc _).alloc _).ext hb2; have B1_2 : Box w2 (w.heap.size + 1) #[.int .i64 g.op, .int .i64 g.pc, .int .i64 (gi g.R 0), .int .i64 (gi g.R 1), .int .i64 (gi g.R 2), .int .i64 (gi g.R 3), .int .i64 (gi g.R 4), .int .i64 (gi g.R 5), .int .i64 (gi g.R 6), .int .i64 (gi g.R 7), .slice ga g.S.length gc] 95 := (((B1_1.alloc _).alloc _).alloc _).ext hb2; have B2_2 : Box w2 (w.heap.size + 1 + 1) #[.slice none 0 0, .slice none 0 0, .bool false, .slice none 0 0, .slice none 0 0] 83 := (((B2_1.alloc _).alloc _).alloc _).ext hb2; have B3_2 : Box w2 (w1.heap.size) #[.int .i64 tf.op, .int .i64 tf.pc, .int .i64 (gi tf.R 0), .int .i64 (gi tf.R 1), .int .i64 (gi tf.R 2), .int .i64 (gi tf.R 3), .int .i64 (gi tf.R 4), .int .i64 (gi tf.R 5), .int .i64 (gi tf.R 6), .int .i64 (gi tf.R 7), .slice tfa tf.S.length tfc] 95 := (((Box.newAt _ _ _ (by first | rfl | simp)).alloc _).alloc _).ext hb2; have B4_2 : Box w2 (w1.heap.size + 1) #[.slice af co.F.length cf, .int .i64 co.V, .int .i64 co.E, .int .i64 (gi co.X 0), .int .i64 (gi co.X 1), .int .i64 (gi co.X 2), .slice ar co.Ret.length cr] 116 := ((Box.newAt _ _ _ (by first | rfl | simp)).alloc _).ext hb2; clear c0_0 c0_1 c0_2 c0_3 c0_4 d0_0 d0_1 d0_2 d0_3 d0_4 z0 c1_0 c1_1 c1_2 c1_3 c1_4 c1_5 c1_6 c1_7 c1_8 c1_9 c1_10 d1_0 d1_1 d1_2 d1_3 d1_4 d1_5 d1_6 d1_7 d1_8 d1_9 d1_10 z1 c2_0 c2_1 c2_2 c2_3 c2_4 d2_0 d2_1 d2_2 d2_3 d2_4 z2; have s2 : w1.heap.size + 3 ≤ w2.heap.size := (by have h := hb2.size; simp at h; omega); obtain ⟨c0_0, c0_1, c0_2, c0_3, c0_4, d0_0, d0_1, d0_2, d0_3, d0_4⟩ := cells5 B0_2; have z0 : w.heap.size < w2.heap.size := B0_2.lt; obtain ⟨⟨c1_0, c1_1, c1_2, c1_3, c1_4, c1_5, c1_6, c1_7, c1_8, c1_9, c1_10⟩, d1_0, d1_1, d1_2, d1_3, d1_4, d1_5, d1_6, d1_7, d1_8, d1_9, d1_10⟩ := cells11 B1_2; have z1 : w.heap.size + 1 < w2.heap.size := B1_2.lt; obtain ⟨c2_0, c2_1, c2_2, c2_3, c2_4, d2_0, d2_1, d2_2, d2_3, d2_4⟩ := cells5 B2_2; have z2 : w.heap.size + 1 + 1 < w2.heap.size := B2_2.lt; obtain ⟨⟨c3_0, c3_1, c3_2, c3_3, c3_4, c3_5, c3_6, c3_7, c3_8, c3_9, c3_10⟩, d3_0, d3_1, d3_2, d3_3, d3_4, d3_5, d3_6, d3_7, d3_8, d3_9, d3_10⟩ := cells11 B3_2; have z3 : w1.heap.size < w2.heap.size := B3_2.lt; obtain ⟨c4_0, c4_1, c4_2, c4_3, c4_4, c4_5, c4_6, d4_0, d4_1, d4_2, d4_3, d4_4, d4_5, d4_6⟩ := cells7 B4_2; have z4 : w1.heap.size + 1 < w2.heap.size := B4_2.lt; have zb := hB.lt; obtain ⟨rk, hrk⟩ := getSome (show k1 < rows.length by omega); obtain ⟨rq0, rq1, rq2, rq3, rq4, rq5, rq6, rq7, rq8, rq9, rq10, rfl⟩ := list11 (hR k1 rk hrk).1; have m0 := hB.cell (off := k1 * 11) (c := rq0) (by rw [nth_eq]; simpa using (hR k1 _ hrk).2 0 _ rfl); have m1 := hB.cell (off := k1 * 11 + 1) (c := rq1) (by rw [nth_eq]; simpa using (hR k1 _ hrk).2 1 _ rfl); have m2 := hB.cell (off := k1 * 11 + 2) (c := rq2) (by rw [nth_eq]; simpa using (hR k1 _ hrk).2 2 _ rfl); have m3 := hB.cell (off := k1 * 11 + 3) (c := rq3) (by rw [nth_eq]; simpa using (hR k1 _ hrk).2 3 _ rfl); have m4 := hB.cell (off := k1 * 11 + 4) (c := rq4) (by rw [nth_eq]; simpa using (hR k1 _ hrk).2 4 _ rfl); have m5 := hB.cell (off := k1 * 11 + 5) (c := rq5) (by rw [nth_eq]; simpa using (hR k1 _ hrk).2 5 _ rfl); have m6 := hB.cell (off := k1 * 11 + 6) (c := rq6) (by rw [nth_eq]; simpa using (hR k1 _ hrk).2 6 _ rfl); have m7 := hB.cell (off := k1 * 11 + 7) (c := rq7) (by rw [nth_eq]; simpa using (hR k1 _ hrk).2 7 _ rfl); have m8 := hB.cell (off := k1 * 11 + 8) (c := rq8) (by rw [nth_eq]; simpa using (hR k1 _ hrk).2 8 _ rfl); have m9 := hB.cell (off := k1 * 11 + 9) (c := rq9) (by rw [nth_eq]; simpa using (hR k1 _ hrk).2 9 _ rfl); have m10 := hB.cell (off := k1 * 11 + 10) (c := rq10) (by rw [nth_eq]; simpa using (hR k1 _ hrk).2 10 _ rfl); have n0 := hB.frozen (off := k1 * 11); have n1 := hB.frozen (off := k1 * 11 + 1); have n2 := hB.frozen (off := k1 * 11 + 2); have n3 := hB.frozen (off := k1 * 11 + 3); have n4 := hB.frozen (off := k1 * 11 + 4); have n5 := hB.frozen (off := k1 * 11 + 5); have n6 := hB.frozen (off := k1 * 11 + 6); have n7 := hB.frozen (off := k1 * 11 + 7); have n8 := hB.frozen (off := k1 * 11 + 8); have n9 := hB.frozen (off := k1 * 11 + 9); have n10 := hB.frozen (off := k1 * 11 + 10))
    go_at_call 92
    have y0 := RowsIn.set (sz := 11) hR hrk (o := 0) (by decide) (.int .i64 g.op)
    have y1 := RowsIn.set y0 (set_at (by first | omega | (simp; omega))) (o := 1) (by decide) (.int .i64 g.pc)
    have y2 := RowsIn.set y1 (set_at (by first | omega | (simp; omega))) (o := 2) (by decide) (.int .i64 (gi g.R 0))
    have y3 := RowsIn.set y2 (set_at (by first | omega | (simp; omega))) (o := 3) (by decide) (.int .i64 (gi g.R 1))
    have y4 := RowsIn.set y3 (set_at (by first | omega | (simp; omega))) (o := 4) (by decide) (.int .i64 (gi g.R 2))
    have y5 := RowsIn.set y4 (set_at (by first | omega | (simp; omega))) (o := 5) (by decide) (.int .i64 (gi g.R 3))
    have y6 := RowsIn.set y5 (set_at (by first | omega | (simp; omega))) (o := 6) (by decide) (.int .i64 (gi g.R 4))
    have y7 := RowsIn.set y6 (set_at (by first | omega | (simp; omega))) (o := 7) (by decide) (.int .i64 (gi g.R 5))
    have y8 := RowsIn.set y7 (set_at (by first | omega | (simp; omega))) (o := 8) (by decide) (.int .i64 (gi g.R 6))
    have y9 := RowsIn.set y8 (set_at (by first | omega | (simp; omega))) (o := 9) (by decide) (.int .i64 (gi g.R 7))
    have y10 := RowsIn.set y9 (set_at (by first | omega | (simp; omega))) (o := 10) (by decide) (.slice ga g.S.length gc)
    rw [List.set_set, List.set_set, List.set_set, List.set_set, List.set_set, List.set_set, List.set_set, List.set_set, List.set_set, List.set_set] at y10
    refine (with_ (Bx N w.heap.size (w.heap.size + 3)) _ _ s k (setC co g) _ (IsSys.bx (IsSys.mk rfl (IsInts.keep hwU (by with_reducible (repeat (first | assumption | exact Keep.refl _ _ | refine Keep.alloc ?_ _ | refine Keep.s ?_ (by first | assumption | exact Bx.mem (by omega) (by omega) | exact Up.mem (by omega)) | refine Keep.n ?_ (by omega) | refine Keep.ext ?_ (by assumption) | refine Keep.drew ?_)))) (IsInts.keep hgU (by with_reducible (repeat (first | assumption | exact Keep.refl _ _ | refine Keep.alloc ?_ _ | refine Keep.s ?_ (by first | assumption | exact Bx.mem (by omega) (by omega) | exact Up.mem (by omega)) | refine Keep.n ?_ (by omega) | refine Keep.ext ?_ (by assumption) | refine Keep.drew ?_)))) (IsCores.keep hcU (by with_reducible (repeat (first | assumption | exact Keep.refl _ _ | refine Keep.alloc ?_ _ | refine Keep.s ?_ (by first | assumption | exact Bx.mem (by omega) (by omega) | exact Up.mem (by omega)) | refine Keep.n ?_ (by omega) | refine Keep.ext ?_ (by assumption) | refine Keep.drew ?_)))) (IsEvs.keep hlU (by with_reducible (repeat (first | assumption | exact Keep.refl _ _ | refine Keep.alloc ?_ _ | refine Keep.s ?_ (by first | assumption | exact Bx.mem (by omega) (by omega) | exact Up.mem (by omega)) | refine Keep.n ?_ (by omega) | refine Keep.ext ?_ (by assumption) | refine Keep.drew ?_)))) : IsSys (Up N w) _ _ s)) (IsCoreV.mk hx3 (setC_frames hlen.out (frames_set (hi := w.heap.size + 3) ((((((((((((hB.setCell _).setCell _).setCell _).setCell _).setCell _).setCell _).setCell _).setCell _).setCell _).setCell _).setCell _).setOther (by first | omega | (simp <;> omega)) _) y10 (hRl.trans hlen.out.symm) (fun i x r h1 h2 => RF.keep (hRR i x r h1 h2) (by with_reducible (repeat (first | assumption | exact Keep.refl _ _ | refine Keep.alloc ?_ _ | refine Keep.s ?_ (by first | assumption | exact Bx.mem (by omega) (by omega) | exact Up.mem (by omega)) | refine Keep.n ?_ (by omega) | refine Keep.ext ?_ (by assumption) | refine Keep.drew ?_)))) g8 (IsInts.keep gsU (by with_reducible (repeat (first | assumption | exact Keep.refl _ _ | refine Keep.alloc ?_ _ | refine Keep.s ?_ (by first | assumption | exact Bx.mem (by omega) (by omega) | exact Up.mem (by omega)) | refine Keep.n ?_ (by omega) | refine Keep.ext ?_ (by assumption) | refine Keep.drew ?_)))) (hNR w1 (by omega)) hlen.out hc1 hc2)) (IsInts.keep (IsInts.bx hrU) (by with_reducible (repeat (first | assumption | exact Keep.refl _ _ | refine Keep.alloc ?_ _ | refine Keep.s ?_ (by first | assumption | exact Bx.mem (by omega) (by omega) | exact Up.mem (by omega)) | refine Keep.n ?_ (by omega) | refine Keep.ext ?_ (by assumption) | refine Keep.drew ?_))))) (fun b hb => (by have h := hb.elim (fun q => (by have := hN b q; omega : b < w.heap.size + 3)) (fun q => (by have := q.2; omega : b < w.heap.size + 3)); simp; omega)) hC hk).calls.mono ?_
    rintro e w3 ⟨_, rfl, hb3, hu3⟩
    obtain ⟨r1, r2, r3, r4, r5, r6, r7, r8, rfl, rW, rG, rC, rL⟩ := hu3.opened
    have B0_3 : Box w3 (w.heap.size) #[.slice aw s.M.W.length cw, .slice ag s.M.G.length cg, .bool s.M.bad, .slice (some ⟨bc, oc, none⟩) s.C.length cc, .slice al s.L.length cl] 83 := ((((((((((((B0_2.setOther (by first | omega | (simp <;> omega)) _).setOther (by first | omega | (simp <;> omega)) _).setOther (by first | omega | (simp <;> omega)) _).setOther (by first | omega | (simp <;> omega)) _).setOther (by first | omega | (simp <;> omega)) _).setOther (by first | omega | (simp <;> omega)) _).setOther (by first | omega | (simp <;> omega)) _).setOther (by first | omega | (simp <;> omega)) _).setOther (by first | omega | (simp <;> omega)) _).setOther (by first | omega | (simp <;> omega)) _).setOther (by first | omega | (simp <;> omega)) _).setOther (by first | omega | (simp <;> omega)) _).ext hb3
    have B1_3 : Box w3 (w.heap.size + 1) #[.int .i64 g.op, .int .i64 g.pc, .int .i64 (gi g.R 0), .int .i64 (gi g.R 1), .int .i64 (gi g.R 2), .int .i64 (gi g.R 3), .int .i64 (gi g.R 4), .int .i64 (gi g.R 5), .int .i64 (gi g.R 6), .int .i64 (gi g.R 7), .slice ga g.S.length gc] 95 := ((((((((((((B1_2.setOther (by first | omega | (simp <;> omega)) _).setOther (by first | omega | (simp <;> omega)) _).setOther (by first | omega | (simp <;> omega)) _).setOther (by first | omega | (simp <;> omega)) _).setOther (by first | omega | (simp <;> omega)) _).setOther (by first | omega | (simp <;> omega)) _).setOther (by first | omega | (simp <;> omega)) _).setOther (by first | omega | (simp <;> omega)) _).setOther (by first | omega | (simp <;> omega)) _).setOther (by first | omega | (simp <;> omega)) _).setOther (by first | omega | (simp <;> omega)) _).setOther (by first | omega | (simp <;> omega)) _).ext hb3
    have B2_3 : Box w3 (w.heap.size + 1 + 1) #[.slice none 0 0, .slice none 0 0, .bool false, .slice none 0 0, .slice none 0 0] 83 := ((((((((((((B2_2.setOther (by first | omega | (simp <;> omega)) _).setOther (by first | omega | (simp <;> omega)) _).setOther (by first | omega | (simp <;> omega)) _).setOther (by first | omega | (simp <;> omega)) _).setOther (by first | omega | (simp <;> omega)) _).setOther (by first | omega | (simp <;> omega)) _).setOther (by first | omega | (simp <;> omega)) _).setOther (by first | omega | (simp <;> omega)) _).setOther (by first | omega | (simp <;> omega)) _).setOther (by first | omega | (simp <;> omega)) _).setOther (by first | omega | (simp <;> omega)) _).setOther (by first | omega | (simp <;> omega)) _).ext hb3
    have B3_3 : Box w3 (w1.heap.size) #[.int .i64 tf.op, .int .i64 tf.pc, .int .i64 (gi tf.R 0), .int .i64 (gi tf.R 1), .int .i64 (gi tf.R 2), .int .i64 (gi tf.R 3), .int .i64 (gi tf.R 4), .int .i64 (gi tf.R 5), .int .i64 (gi tf.R 6), .int .i64 (gi tf.R 7), .slice tfa tf.S.length tfc] 95 := ((((((((((((B3_2.setOther (by first | omega | (simp <;> omega)) _).setOther (by first | omega | (simp <;> omega)) _).setOther (by first | omega | (simp <;> omega)) _).setOther (by first | omega | (simp <;> omega)) _).setOther (by first | omega | (simp <;> omega)) _).setOther (by first | omega | (simp <;> omega)) _).setOther (by first | omega | (simp <;> omega)) _).setOther (by first | omega | (simp <;> omega)) _).setOther (by first | omega | (simp <;> omega)) _).setOther (by first | omega | (simp <;> omega)) _).setOther (by first | omega | (simp <;> omega)) _).setOther (by first | omega | (simp <;> omega)) _).ext hb3
    have B4_3 : Box w3 (w1.heap.size + 1) #[.slice (some ⟨w1.heap.size + 1 + 1 + 1, 0, none⟩) (k1 + 1) cap2, .int .i64 co.V, .int .i64 co.E, .int .i64 (gi co.X 0), .int .i64 (gi co.X 1), .int .i64 (gi co.X 2), .slice ar co.Ret.length cr] 116 := ((((((((((((B4_2.setOther (by first | omega | (simp <;> omega)) _).setOther (by first | omega | (simp <;> omega)) _).setOther (by first | omega | (simp <;> omega)) _).setOther (by first | omega | (simp <;> omega)) _).setOther (by first | omega | (simp <;> omega)) _).setOther (by first | omega | (simp <;> omega)) _).setOther (by first | omega | (simp <;> omega)) _).setOther (by first | omega | (simp <;> omega)) _).setOther (by first | omega | (simp <;> omega)) _).setOther (by first | omega | (simp <;> omega)) _).setOther (by first | omega | (simp <;> omega)) _).setCell _).ext hb3
    clear c0_0 c0_1 c0_2 c0_3 c0_4 d0_0 d0_1 d0_2 d0_3 d0_4 z0 c1_0 c1_1 c1_2 c1_3 c1_4 c1_5 c1_6 c1_7 c1_8 c1_9 c1_10 d1_0 d1_1 d1_2 d1_3 d1_4 d1_5 d1_6 d1_7 d1_8 d1_9 d1_10 z1 c2_0 c2_1 c2_2 c2_3 c2_4 d2_0 d2_1 d2_2 d2_3 d2_4 z2 c3_0 c3_1 c3_2 c3_3 c3_4 c3_5 c3_6 c3_7 c3_8 c3_9 c3_10 d3_0 d3_1 d3_2 d3_3 d3_4 d3_5 d3_6 d3_7 d3_8 d3_9 d3_10 z3 c4_0 c4_1 c4_2 c4_3 c4_4 c4_5 c4_6 d4_0 d4_1 d4_2 d4_3 d4_4 d4_5 d4_6 z4
    have s3 : w2.heap.size ≤ w3.heap.size := (by have h := hb3.size; simp at h; omega)
    obtain ⟨c0_0, c0_1, c0_2, c0_3, c0_4, d0_0, d0_1, d0_2, d0_3, d0_4⟩ := cells5 B0_3
    have z0 : w.heap.size < w3.heap.size := B0_3.lt
    obtain ⟨⟨c1_0, c1_1, c1_2, c1_3, c1_4, c1_5, c1_6, c1_7, c1_8, c1_9, c1_10⟩, d1_0, d1_1, d1_2, d1_3, d1_4, d1_5, d1_6, d1_7, d1_8, d1_9, d1_10⟩ := cells11 B1_3
    have z1 : w.heap.size + 1 < w3.heap.size := B1_3.lt
    obtain ⟨c2_0, c2_1, c2_2, c2_3, c2_4, d2_0, d2_1, d2_2, d2_3, d2_4⟩ := cells5 B2_3
    have z2 : w.heap.size + 1 + 1 < w3.heap.size := B2_3.lt
    obtain ⟨⟨c3_0, c3_1, c3_2, c3_3, c3_4, c3_5, c3_6, c3_7, c3_8, c3_9, c3_10⟩, d3_0, d3_1, d3_2, d3_3, d3_4, d3_5, d3_6, d3_7, d3_8, d3_9, d3_10⟩ := cells11 B3_3
    have z3 : w1.heap.size < w3.heap.size := B3_3.lt
    obtain ⟨c4_0, c4_1, c4_2, c4_3, c4_4, c4_5, c4_6, d4_0, d4_1, d4_2, d4_3, d4_4, d4_5, d4_6⟩ := cells7 B4_3
    have z4 : w1.heap.size + 1 < w3.heap.size := B4_3.lt
    go_wp2
    exact bodyPost_ret (ret_cell (((((B2_3.setCell _).setCell _).setCell _).setCell _).setCell _) Proofs.Try.results89 rfl Proofs.Try.underlying83 rfl (by kernel_rfl)) rfl ⟨_, rfl, exn, IsSys.less (IsSys.keep hu3 (by with_reducible (repeat (first | assumption | exact Keep.refl _ _ | refine Keep.alloc ?_ _ | refine Keep.s ?_ (by first | assumption | exact Bx.mem (by omega) (by omega) | exact Up.mem (by omega)) | refine Keep.n ?_ (by omega) | refine Keep.ext ?_ (by assumption) | refine Keep.drew ?_)))) (fun _ _ hn => .inl hn)⟩

theorem IsFrames.bx {N : Nat → Prop} {w w' : World} {hi : Nat} {v : Value} {l : List FrameD} (h : IsFrames (Up N w) w' v l) : IsFrames (Bx N w.heap.size hi) w' v l := IsFrames.less h fun _ _ hn => Up.bx hn
theorem backC_frames {N : Nat → Prop} {w : World} {v : Value} {c : CoreD} {x y : Int} {k1 : Nat} (hl : c.F.length = k1 + 1) (h : IsFrames N w v (c.F.take k1)) : IsFrames N w v (backC c x y).F := by
  have e : (backC c x y).F = c.F.take k1 := by show c.F.take (c.F.length - 1) = _; rw [hl]; rfl
  rw [e]; exact h
set_option maxHeartbeats 1000000 in
set_option maxRecDepth 100000 in
theorem refBack_ (N : Nat → Prop) (va : Value) (s : SysD) (id v e : Int) (w : World) (h : IsSys N w va s) (hN : ∀ b, N b → b < w.heap.size) (hC : s.C.length ≤ 100000) :
    Gives Proofs.Try.prog 90 #[va, .int .i64 id, .int .i64 v, .int .i64 e] w (fun r w' => IsSys N w' r (backS s id v e)) := by
  have kt := fun (w' : World) (e : Ext w w') => refTop_ N va s id w' (h.ext e)
  have hsU := h.up
  obtain ⟨aw, cw, ag, cg, ac, cc, al, cl, rfl, hw, hg, hc, hl⟩ := h.opened
  cases ht : topD s id with
  | none =>
    rw [show (topD s id).isSome = false by rw [ht]; rfl] at kt
    have hd : backS s id v e = s := doS_none ht
    rw [hd]
    clear hd ht
    go_enter Proofs.Try.func90, Proofs.Try.ntmps90
    go_wp2_with (fail)
    go_at_call 82
    refine (kt _ exq).calls.mono ?_
    rintro e w1 ⟨_, rfl, hb1, u, rfl, hu1⟩
    obtain ⟨tf, htf⟩ : ∃ f, topF s id = f := ⟨_, rfl⟩
    rw [htf] at hu1
    clear htf
    obtain ⟨tfa, tfc, rfl, tf8, tfs⟩ := hu1.opened
    have B0_1 : Box w1 (w.heap.size) #[.slice aw s.M.W.length cw, .slice ag s.M.G.length cg, .bool s.M.bad, .slice ac s.C.length cc, .slice al s.L.length cl] 83 := ((Box.newAt _ _ _ (by first | rfl | simp)).alloc _).ext hb1
    have B1_1 : Box w1 (w.heap.size + 1) #[.slice none 0 0, .slice none 0 0, .bool false, .slice none 0 0, .slice none 0 0] 83 := (Box.newAt _ _ _ (by first | rfl | simp)).ext hb1
    have s1 : w.heap.size + 2 ≤ w1.heap.size := (by have h := hb1.size; simp at h; omega)
    obtain ⟨c0_0, c0_1, c0_2, c0_3, c0_4, d0_0, d0_1, d0_2, d0_3, d0_4⟩ := cells5 B0_1
    have z0 : w.heap.size < w1.heap.size := B0_1.lt
    obtain ⟨c1_0, c1_1, c1_2, c1_3, c1_4, d1_0, d1_1, d1_2, d1_3, d1_4⟩ := cells5 B1_1
    have z1 : w.heap.size + 1 < w1.heap.size := B1_1.lt
    go_wp2
    exact bodyPost_ret (ret_cell ((((((B1_1.setCell _).setCell _).setCell _).setCell _).setCell _).alloc _) Proofs.Try.results90 rfl Proofs.Try.underlying83 rfl (by kernel_rfl)) rfl ⟨_, rfl, exn, IsSys.mk rfl (hw.ext exn) (hg.ext exn) (IsCores.keep hc (show Ext w _ from exn).keep) (IsEvs.keep hl (show Ext w _ from exn).keep)⟩
  | some g0 =>
    obtain ⟨k, co, rfl, hck, hpos, _⟩ := top_some ht
    rw [show (topD s k).isSome = true by rw [ht]; rfl] at kt
    have hd : backS s k v e = withS s k (backC co v e) := doS_some ht hck
    rw [hd]
    have hk : k < s.C.length := by
      rcases Nat.lt_or_ge k s.C.length with h | h
      · exact h
      · rw [List.getElem?_eq_none h] at hck; cases hck
    have hk1 : (k : Int) < (s.C.length : Int) := by omega
    obtain ⟨k1, hlen0⟩ : ∃ k1, co.F.length = k1 + 1 := ⟨co.F.length - 1, by omega⟩
    obtain ⟨bc, oc, af, cf, ar, cr, rfl, xc, nc, hx3, hf, hr, e0, e1, e2, e3, e4, e5, e6⟩ := IsCores.at hc hck
    have hwU := hw.up
    have hgU := hg.up
    have hcU := IsCores.less hc (M := Up N w) fun x hx hn => hn.elim id fun k => absurd k (by omega)
    have hlU := IsEvs.less hl (M := Up N w) fun x hx hn => hn.elim id fun k => absurd k (by omega)
    have hfU := IsFrames.up hf
    have hrU := hr.up
    obtain ⟨hcf1, hcf2, pf, rfl⟩ : co.F.length ≤ cf ∧ cf ≤ 9223372036854775807 ∧ ∃ p, af = some p := by
      obtain ⟨a', c', e', h1, h2, h3, h4⟩ := hf
      cases e'
      refine ⟨h1, h2, ?_⟩
      cases af with
      | none => have := h3 rfl; omega
      | some p => exact ⟨p, rfl⟩
    rw [hlen0] at e0 hcf1
    have hlen := Lib.hid hlen0
    clear hlen0 hd ht hck
    go_enter Proofs.Try.func90, Proofs.Try.ntmps90
    go_wp2_with (fail)
    go_at_call 82
    refine (kt _ exq).calls.mono ?_
    rintro e w1 ⟨_, rfl, hb1, u, rfl, hu1⟩
    obtain ⟨tf, htf⟩ : ∃ f, topF s (k : Int) = f := ⟨_, rfl⟩
    rw [htf] at hu1
    clear htf
    obtain ⟨tfa, tfc, rfl, tf8, tfs⟩ := hu1.opened
    have hE1 : Ext w w1 := exq
    have xc1 : bc < w1.heap.size := Nat.lt_of_lt_of_le xc hE1.size
    have e0a := cell_ext e0 hE1
    have e1a := cell_ext e1 hE1
    have e2a := cell_ext e2 hE1
    have e3a := cell_ext e3 hE1
    have e4a := cell_ext e4 hE1
    have e5a := cell_ext e5 hE1
    have e6a := cell_ext e6 hE1
    have B0_1 : Box w1 (w.heap.size) #[.slice aw s.M.W.length cw, .slice ag s.M.G.length cg, .bool s.M.bad, .slice (some ⟨bc, oc, none⟩) s.C.length cc, .slice al s.L.length cl] 83 := ((Box.newAt _ _ _ (by first | rfl | simp)).alloc _).ext hb1
    have B1_1 : Box w1 (w.heap.size + 1) #[.slice none 0 0, .slice none 0 0, .bool false, .slice none 0 0, .slice none 0 0] 83 := (Box.newAt _ _ _ (by first | rfl | simp)).ext hb1
    have s1 : w.heap.size + 2 ≤ w1.heap.size := (by have h := hb1.size; simp at h; omega)
    obtain ⟨c0_0, c0_1, c0_2, c0_3, c0_4, d0_0, d0_1, d0_2, d0_3, d0_4⟩ := cells5 B0_1
    have z0 : w.heap.size < w1.heap.size := B0_1.lt
    obtain ⟨c1_0, c1_1, c1_2, c1_3, c1_4, d1_0, d1_1, d1_2, d1_3, d1_4⟩ := cells5 B1_1
    have z1 : w.heap.size + 1 < w1.heap.size := B1_1.lt
    go_wp2_with (fail)
    go_at_call 92
    refine (with_ (Bx N w.heap.size (w.heap.size + 2)) _ _ s k (backC co v e) _ (IsSys.bx (IsSys.mk rfl (IsInts.keep hwU (by with_reducible (repeat (first | assumption | exact Keep.refl _ _ | refine Keep.alloc ?_ _ | refine Keep.s ?_ (by first | assumption | exact Bx.mem (by omega) (by omega) | exact Up.mem (by omega)) | refine Keep.n ?_ (by omega) | refine Keep.ext ?_ (by assumption) | refine Keep.drew ?_)))) (IsInts.keep hgU (by with_reducible (repeat (first | assumption | exact Keep.refl _ _ | refine Keep.alloc ?_ _ | refine Keep.s ?_ (by first | assumption | exact Bx.mem (by omega) (by omega) | exact Up.mem (by omega)) | refine Keep.n ?_ (by omega) | refine Keep.ext ?_ (by assumption) | refine Keep.drew ?_)))) (IsCores.keep hcU (by with_reducible (repeat (first | assumption | exact Keep.refl _ _ | refine Keep.alloc ?_ _ | refine Keep.s ?_ (by first | assumption | exact Bx.mem (by omega) (by omega) | exact Up.mem (by omega)) | refine Keep.n ?_ (by omega) | refine Keep.ext ?_ (by assumption) | refine Keep.drew ?_)))) (IsEvs.keep hlU (by with_reducible (repeat (first | assumption | exact Keep.refl _ _ | refine Keep.alloc ?_ _ | refine Keep.s ?_ (by first | assumption | exact Bx.mem (by omega) (by omega) | exact Up.mem (by omega)) | refine Keep.n ?_ (by omega) | refine Keep.ext ?_ (by assumption) | refine Keep.drew ?_)))) : IsSys (Up N w) _ _ s)) (IsCoreV.mk hx3 (backC_frames hlen.out (IsSl.take (IsFrames.keep (IsFrames.bx hfU) (by with_reducible (repeat (first | assumption | exact Keep.refl _ _ | refine Keep.alloc ?_ _ | refine Keep.s ?_ (by first | assumption | exact Bx.mem (by omega) (by omega) | exact Up.mem (by omega)) | refine Keep.n ?_ (by omega) | refine Keep.ext ?_ (by assumption) | refine Keep.drew ?_)))) (m := k1) (by rw [hlen.out]; omega))) (IsInts.keep (IsInts.bx hrU) (by with_reducible (repeat (first | assumption | exact Keep.refl _ _ | refine Keep.alloc ?_ _ | refine Keep.s ?_ (by first | assumption | exact Bx.mem (by omega) (by omega) | exact Up.mem (by omega)) | refine Keep.n ?_ (by omega) | refine Keep.ext ?_ (by assumption) | refine Keep.drew ?_))))) (fun b hb => (by have h := hb.elim (fun q => (by have := hN b q; omega : b < w.heap.size + 2)) (fun q => (by have := q.2; omega : b < w.heap.size + 2)); simp; omega)) hC hk).calls.mono ?_
    rintro e w2 ⟨_, rfl, hb2, hu2⟩
    obtain ⟨r1, r2, r3, r4, r5, r6, r7, r8, rfl, rW, rG, rC, rL⟩ := hu2.opened
    have B0_2 : Box w2 (w.heap.size) #[.slice aw s.M.W.length cw, .slice ag s.M.G.length cg, .bool s.M.bad, .slice (some ⟨bc, oc, none⟩) s.C.length cc, .slice al s.L.length cl] 83 := ((B0_1.alloc _).alloc _).ext hb2
    have B1_2 : Box w2 (w.heap.size + 1) #[.slice none 0 0, .slice none 0 0, .bool false, .slice none 0 0, .slice none 0 0] 83 := ((B1_1.alloc _).alloc _).ext hb2
    have B2_2 : Box w2 (w1.heap.size) #[.int .i64 tf.op, .int .i64 tf.pc, .int .i64 (gi tf.R 0), .int .i64 (gi tf.R 1), .int .i64 (gi tf.R 2), .int .i64 (gi tf.R 3), .int .i64 (gi tf.R 4), .int .i64 (gi tf.R 5), .int .i64 (gi tf.R 6), .int .i64 (gi tf.R 7), .slice tfa tf.S.length tfc] 95 := ((Box.newAt _ _ _ (by first | rfl | simp)).alloc _).ext hb2
    have B3_2 : Box w2 (w1.heap.size + 1) #[.slice (some pf) k1 cf, .int .i64 v, .int .i64 e, .int .i64 (gi co.X 0), .int .i64 (gi co.X 1), .int .i64 (gi co.X 2), .slice ar co.Ret.length cr] 116 := (Box.newAt _ _ _ (by first | rfl | simp)).ext hb2
    clear c0_0 c0_1 c0_2 c0_3 c0_4 d0_0 d0_1 d0_2 d0_3 d0_4 z0 c1_0 c1_1 c1_2 c1_3 c1_4 d1_0 d1_1 d1_2 d1_3 d1_4 z1
    have s2 : w1.heap.size + 2 ≤ w2.heap.size := (by have h := hb2.size; simp at h; omega)
    obtain ⟨c0_0, c0_1, c0_2, c0_3, c0_4, d0_0, d0_1, d0_2, d0_3, d0_4⟩ := cells5 B0_2
    have z0 : w.heap.size < w2.heap.size := B0_2.lt
    obtain ⟨c1_0, c1_1, c1_2, c1_3, c1_4, d1_0, d1_1, d1_2, d1_3, d1_4⟩ := cells5 B1_2
    have z1 : w.heap.size + 1 < w2.heap.size := B1_2.lt
    obtain ⟨⟨c2_0, c2_1, c2_2, c2_3, c2_4, c2_5, c2_6, c2_7, c2_8, c2_9, c2_10⟩, d2_0, d2_1, d2_2, d2_3, d2_4, d2_5, d2_6, d2_7, d2_8, d2_9, d2_10⟩ := cells11 B2_2
    have z2 : w1.heap.size < w2.heap.size := B2_2.lt
    obtain ⟨c3_0, c3_1, c3_2, c3_3, c3_4, c3_5, c3_6, d3_0, d3_1, d3_2, d3_3, d3_4, d3_5, d3_6⟩ := cells7 B3_2
    have z3 : w1.heap.size + 1 < w2.heap.size := B3_2.lt
    go_wp2
    exact bodyPost_ret (ret_cell (((((B1_2.setCell _).setCell _).setCell _).setCell _).setCell _) Proofs.Try.results90 rfl Proofs.Try.underlying83 rfl (by kernel_rfl)) rfl ⟨_, rfl, exn, IsSys.less (IsSys.keep hu2 (by with_reducible (repeat (first | assumption | exact Keep.refl _ _ | refine Keep.alloc ?_ _ | refine Keep.s ?_ (by first | assumption | exact Bx.mem (by omega) (by omega) | exact Up.mem (by omega)) | refine Keep.n ?_ (by omega) | refine Keep.ext ?_ (by assumption) | refine Keep.drew ?_)))) (fun _ _ hn => .inl hn)⟩


def RI : World → Int → List Value → Prop := fun _ x cs => cs = [.int .i64 x]
theorem rowI : RowType 48 3 1 (.int .i64 0) := ⟨Proofs.Try.underlying48, by kernel_rfl, by kernel_rfl, by kernel_rfl⟩
theorem zs1 : (Value.int .i64 0).cells.size = 1 := by kernel_rfl
theorem one_int' {w : World} : ∀ x cs, RI w x cs → ∀ c ∈ cs, c.oneCell' = true := by
  rintro x cs rfl c hc
  simp at hc
  subst hc; rfl
theorem IsInts.sl {N : Nat → Prop} {w : World} {v : Value} {l : List Int} (h : IsInts N w v l) : IsSl 1 RI N w v l := by
  obtain ⟨a, cap, rfl, h1, h2, h3, h4⟩ := h
  refine ⟨a, cap, rfl, h1, h2, h3, fun i x hi => ?_⟩
  obtain ⟨b, off, e, hb, hn, hc⟩ := h4 i (list_lt hi)
  refine ⟨b, off, [.int .i64 x], e, hb, hn, rfl, fun j c hj => ?_, rfl⟩
  have hj0 : j = 0 := by have := list_lt hj; simp at this; omega
  subst hj0
  simp at hj; subst hj
  rw [Nat.mul_one, Nat.add_zero, hc]
  simp [gi, List.getD_eq_getElem?_getD, hi]
theorem IsSl.ints {N : Nat → Prop} {w : World} {v : Value} {l : List Int} (h : IsSl 1 RI N w v l) : IsInts N w v l := by
  obtain ⟨a, cap, rfl, h1, h2, h3, h4⟩ := h
  refine ⟨a, cap, rfl, h1, h2, h3, fun i hi => ?_⟩
  obtain ⟨x, hx⟩ := getSome hi
  obtain ⟨b, off, cs, e, hb, hn, hl, hc, hR⟩ := h4 i x hx
  cases hR
  refine ⟨b, off, e, hb, hn, ?_⟩
  have := hc 0 _ rfl
  rw [Nat.mul_one, Nat.add_zero] at this
  rw [this]
  simp [gi, List.getD_eq_getElem?_getD, hx]
theorem OwnSl.extW {α : Type} {sz : Nat} {e : TypeId} {R : World → α → List Value → Prop} {base : Nat} {w w' : World} {v : Value} {l : List α} (h : OwnSl sz e R base w v l) (k : Ext w w') (hR : ∀ w w' x cs, R w x cs → R w' x cs := by exact fun _ _ _ _ h => h) : OwnSl sz e R base w' v l :=
  h.keep (N := no) k.keep (fun _ _ => id) fun _ _ h => hR _ _ _ _ h
section
variable {ops : Array Oper} {rest : List Oper} {o : Oper} {a : Act} {Q : Exit → Act → World → Prop} {w : World}
theorem wpList_append_gen {α : Type} {sz : Nat} {R : World → α → List Value → Prop} {M : Nat → Prop} {v vx : Value} {l1 l2 : List α} {t e : TypeId} {z : Value} {base : Nat} (hT : RowType t e sz z) (hzs : z.cells.size = sz) (hsz : 0 < sz) (hone : ∀ x cs, R w x cs → ∀ c ∈ cs, c.oneCell' = true) (hRw : ∀ w w' x cs, R w x cs → R w' x cs)
    (s x : Operand) (hg : o.guard = none) (hop : o.op = Op.call { callee := Callee.builtin Builtin.append, args := #[s, x], argTypes := #[t, t] })
    (hs : a.eval s = v) (hx : a.eval x = vx) (h1 : OwnSl sz e R base w v l1) (h2 : IsSl sz R M w vx l2) (hl : l1.length + l2.length ≤ 100000) (hbase : base ≤ w.heap.size)
    (hK : ∀ a' n' c' w', Hid (n' = (l1 ++ l2).length) → OwnSl sz e R base w' (.slice a' n' c') (l1 ++ l2) → (∀ b cs t, Box w b cs t → b < base → Box w' b cs t) → (∀ a, Ext a w → a.heap.size ≤ base → Ext a w') → w.heap.size ≤ w'.heap.size → wpList Proofs.Try.prog ops Q rest (a.put o.dst (.slice a' n' c')) w') : wpList Proofs.Try.prog ops Q (o :: rest) a w :=
  wpList_append_osl s x hg hop hs hx hT hzs hsz h1 h2 hone (fun w' g x cs h => hRw _ _ _ _ h) hl hbase fun a' c' w' ho hgr =>
    hK a' _ c' w' (Lib.hid rfl) ho (fun b cs t hB hb => hB.keep (grown_keep (N := fun k => base ≤ k) hgr fun k hk => h1.base k hk) (by omega)) (fun a ha hsz => grown_ext hgr ha fun k hk => Nat.le_trans hsz (h1.base k hk)) hgr.size
end
theorem wrapI_ne (x : Int) : IntKind.i64.wrap (x + 1) ≠ x := by rw [IntKind.wrap_i64]; omega
theorem OwnSl.evs {N : Nat → Prop} {w : World} {base : Nat} {v : Value} {l : List EvD} (h : OwnSl 5 108 RE base w v l) (hN : ∀ b, base ≤ b → ¬ N b) : IsEvs N w v l := h.sl hN
theorem OwnSl.ints {N : Nat → Prop} {w : World} {base : Nat} {v : Value} {l : List Int} (h : OwnSl 1 3 RI base w v l) (hN : ∀ b, base ≤ b → ¬ N b) : IsInts N w v l := (h.sl hN).ints
/-- what is another one at one place isn't the same -/
theorem all2_set {α : Type} {p : α → α → Bool} : ∀ {l : List α} {k : Nat} {x y : α}, l[k]? = some x → p x y = false → all2 p l (l.set k y) = false
  | [], _, _, _, h, _ => by cases h
  | a :: l, 0, x, y, h, hp => by simp at h; subst h; simp [all2, hp]
  | a :: l, k + 1, x, y, h, hp => by
    have := all2_set (l := l) (k := k) (by simpa using h) hp
    simp [all2, this]
theorem all2_set' {α : Type} {p : α → α → Bool} : ∀ {l : List α} {k : Nat} {x y : α}, l[k]? = some x → p y x = false → all2 p (l.set k y) l = false
  | [], _, _, _, h, _ => by cases h
  | a :: l, 0, x, y, h, hp => by simp at h; subst h; simp [all2, hp]
  | a :: l, k + 1, x, y, h, hp => by
    have := all2_set' (l := l) (k := k) (by simpa using h) hp
    simp [all2, this]
end Go.Proofs.Ytcfbdfgondmkoaa
/- Steps of the stack and of the slots, as data. -/
namespace Go.Proofs.Ytcfbdfgondmkoaa
open Go Go.RowKit

def idx (x : Int) : Int := x / 2 % 1048576
def tagI (x : Int) : Int := x / 2097152 % 1099511627776
/-- where a node's cell of the list stands -/
def linkAt (p : Int) : Int := wrap64 (128 + 4 * (p - 1))
def memS (s : SysD) (m : Arena) : SysD := { s with M := m }
def pcF (f : FrameD) (pc : Int) : FrameD := { f with pc := pc }
def regF (f : FrameD) (j : Nat) (v : Int) : FrameD := { f with R := f.R.set j v }
def onS (s : SysD) (id : Int) (m : Arena) (f : FrameD) (pc : Int) : SysD := setS (memS s m) id (pcF f pc)
def popS (s : SysD) (id : Int) (f : FrameD) : SysD :=
  if f.pc = 0 then
    if idx (loadD s.M 0) = 0 then backS (logD (memS s (touchD s.M 0)) id 9 0 0 0) id 0 2
    else onS s id (touchD s.M 0) (regF f 0 (loadD s.M 0)) 1
  else if f.pc = 1 then onS s id (touchD s.M (linkAt (idx (gi f.R 0)))) (regF f 1 (loadD s.M (linkAt (idx (gi f.R 0))))) 2
  else if f.pc = 2 then
    if casIs s.M 0 (gi f.R 0) then backS (memS s (turnMD (casD s.M 0 (gi f.R 0) (nextW (gi f.R 0) (gi f.R 1) 0)) (idx (gi f.R 0)) 1)) id (idx (gi f.R 0)) 0
    else onS s id (casD s.M 0 (gi f.R 0) (nextW (gi f.R 0) (gi f.R 1) 0)) f 0
  else s
def pushS (s : SysD) (id : Int) (f : FrameD) : SysD :=
  if f.pc = 0 then onS s id (touchD s.M 0) (regF f 1 (loadD s.M 0)) 1
  else if f.pc = 1 then onS s id (storeD s.M (linkAt (gi f.R 0)) (idx (gi f.R 1))) f 2
  else if f.pc = 2 then
    if casIs s.M 0 (gi f.R 1) then backS (memS s (turnMD (casD s.M 0 (gi f.R 1) (nextW (gi f.R 1) (gi f.R 0) 0)) (gi f.R 0) 0)) id (gi f.R 0) 0
    else onS s id (casD s.M 0 (gi f.R 1) (nextW (gi f.R 1) (gi f.R 0) 0)) f 0
  else s
def step4 (s : SysD) (id : Int) : SysD :=
  match topD s id with
  | some f => if f.op = 1 then popS s id f else if f.op = 2 then pushS s id f else s
  | none => s
def own4 (op : Int) : Bool := decide (op = 1) || decide (op = 2)
/-- the arena when the nodes from i on are still to be laid in -/
def fillL (n : Nat) : Nat → Nat → Arena → Arena
  | 0, _, m => m
  | k + 1, i, m => fillL n k (i + 1) (storeD m (linkAt i) (if i = n then 0 else (i : Int) + 1))
def fillD (m : Arena) : Arena := storeD (fillL (m.G.length - 1) (m.G.length - 1) 1 m) 0 2
def walkF (m : Arena) : Nat → Int → List Int → List Int × Bool
  | 0, _, _ => ([], false)
  | k + 1, p, out => if p = 0 then (out, true) else if p < 0 ∨ (m.G.length : Int) ≤ p ∨ p ∈ out then ([], false) else walkF m k (loadD m (linkAt p)) (out ++ [p])
def walkD (m : Arena) : List Int × Bool := walkF m (m.G.length + 1) (idx (loadD m 0)) []
def new4 (c n : Int) : SysD := if newSE c n = 0 then memS (newS c n) (fillD (newD n)) else newS c n

def placeD (id slot : Int) : Int := wrap64 (8 + 3 * id + slot)
def own5 (op : Int) : Bool := decide (op = 3) || decide (op = 4)
def protS (s : SysD) (id : Int) (f : FrameD) : SysD :=
  if f.pc = 1 then onS s id (storeD s.M (placeD id (gi f.R 1)) (idx (gi f.R 2))) f 2
  else if f.pc = 0 then
    if idx (loadD s.M (gi f.R 0)) = 0 then backS (memS s (touchD s.M (gi f.R 0))) id (loadD s.M (gi f.R 0)) 0
    else onS s id (touchD s.M (gi f.R 0)) (regF f 2 (loadD s.M (gi f.R 0))) 1
  else if f.pc = 2 then
    if loadD s.M (gi f.R 0) = gi f.R 2 ∨ idx (loadD s.M (gi f.R 0)) = 0 then backS (memS s (touchD s.M (gi f.R 0))) id (loadD s.M (gi f.R 0)) 0
    else onS s id (touchD s.M (gi f.R 0)) (regF (regF f 3 (loadD s.M (gi f.R 0))) 2 (loadD s.M (gi f.R 0))) 1
  else s
def clearS (s : SysD) (id : Int) (f : FrameD) : SysD :=
  if f.pc = 2 then backS (memS s (storeD s.M (placeD id f.pc) 0)) id 0 0
  else onS s id (storeD s.M (placeD id f.pc) 0) f (f.pc + 1)
def step5 (s : SysD) (id : Int) : SysD :=
  match topD s id with
  | some f => if f.op = 3 then protS s id f else if f.op = 4 ∧ 0 ≤ f.pc ∧ f.pc ≤ 2 then clearS s id f else s
  | none => s
/-- which nodes are named: by the slots of so many cores -/
def namedD (s : SysD) : List Bool := ((List.range s.M.G.length).map fun (p : Nat) => decide (0 < p) && ((s.M.W.drop 8).take (3 * s.C.length)).any fun x => x == (p : Int))

theorem wrapI_in {x : Int} (h : -9223372036854775808 ≤ x) (h' : x ≤ 9223372036854775807) : wrap64 x = x := by unfold wrap64; omega
theorem linkAt_in {p : Int} (h : -1000000000 ≤ p) (h' : p ≤ 1000000000) : linkAt p = 128 + 4 * (p - 1) := by unfold linkAt; exact wrapI_in (by omega) (by omega)
theorem idx_lo (x : Int) : 0 ≤ idx x ∧ idx x < 1048576 := by unfold idx; omega
end Go.Proofs.Ytcfbdfgondmkoaa
/- Steps' parts: another arena; a frame at a step; slots' places. -/
namespace Go.Proofs.Ytcfbdfgondmkoaa
open Go Go.RowKit
set_option linter.unusedSimpArgs false
set_option linter.unusedVariables false
set_option linter.unnecessarySimpa false

theorem box_putOther {w : World} {b k : Nat} {o : Obj} {cs : Array Value} {t : TypeId} (h : Box w k cs t) (hn : b ≠ k) : Box (put w b o) k cs t := (put_other hn).trans h
def isSysN (N : Nat → Prop) (s : SysD) : GP := fun v w => IsSys N w v s
theorem stable_isSysN (N : Nat → Prop) (s : SysD) : Stable (isSysN N s) := fun _ _ _ h hx => IsSys.ext h hx
def isMemN (N : Nat → Prop) (m : Arena) : GP := fun v w => IsMem N w v m
theorem stable_isMemN (N : Nat → Prop) (m : Arena) : Stable (isMemN N m) := fun _ _ _ h hx => IsMem.keep h hx.keep
theorem IsMem.up {N : Nat → Prop} {w : World} {v : Value} {m : Arena} (h : IsMem N w v m) : IsMem (Up N w) w v m := h.less fun _ hx hn => hn.elim id fun k => absurd k (by omega)
theorem IsFrame.up {N : Nat → Prop} {w : World} {v : Value} {f : FrameD} (h : IsFrame N w v f) : IsFrame (Up N w) w v f := h.less fun _ hx hn => hn.elim id fun k => absurd k (by omega)
theorem IsMem.bxn {N : Nat → Prop} {w : World} {hi : Nat} {v : Value} {m : Arena} (h : IsMem N w v m) : IsMem (Bx N w.heap.size hi) w v m := h.less fun _ hx hn => Bx.new hx hn
theorem IsInts.bxn {N : Nat → Prop} {w : World} {hi : Nat} {v : Value} {l : List Int} (h : IsInts N w v l) : IsInts (Bx N w.heap.size hi) w v l := h.less fun _ hx hn => Bx.new hx hn
theorem IsSys.bxn {N : Nat → Prop} {w : World} {hi : Nat} {v : Value} {s : SysD} (h : IsSys N w v s) : IsSys (Bx N w.heap.size hi) w v s := h.less fun _ hx hn => Bx.new hx hn
theorem IsFrame.bxn {N : Nat → Prop} {w : World} {hi : Nat} {v : Value} {f : FrameD} (h : IsFrame N w v f) : IsFrame (Bx N w.heap.size hi) w v f := h.less fun _ hx hn => Bx.new hx hn
theorem IsFrame.mk {N : Nat → Prop} {w : World} {f : FrameD} {s : Value} (h8 : f.R.length = 8) (hs : IsInts N w s f.S) : IsFrame N w (.agg #[.int .i64 f.op, .int .i64 f.pc, .int .i64 (gi f.R 0), .int .i64 (gi f.R 1), .int .i64 (gi f.R 2), .int .i64 (gi f.R 3), .int .i64 (gi f.R 4), .int .i64 (gi f.R 5), .int .i64 (gi f.R 6), .int .i64 (gi f.R 7), s]) f :=
  ⟨_, rfl, h8, s, rfl, hs⟩
theorem Bx.le {N : Nat → Prop} {w cur : World} {n : Nat} (hN : ∀ b, N b → b < w.heap.size) (h : w.heap.size + n ≤ cur.heap.size) : ∀ b, Bx N w.heap.size (w.heap.size + n) b → b < cur.heap.size :=
  fun b hb => hb.elim (fun q => by have := hN b q; omega) fun q => by have := q.2; omega
set_option maxHeartbeats 1000000 in
set_option maxRecDepth 100000 in
theorem refMem_ (N : Nat → Prop) (va vm : Value) (s : SysD) (m : Arena) (w : World) (h : IsSys N w va s) (hm : IsMem N w vm m) : Gives Proofs.Try.prog 103 #[va, vm] w (fun r w' => IsSys N w' r (memS s m)) := by
  obtain ⟨aw, cw, ag, cg, ac, cc, al, cl, rfl, hw, hg, hc, hl⟩ := h.opened
  obtain ⟨bw, dw, bg, dg, rfl, mw, mg⟩ := hm.opened
  go_enter Proofs.Try.func103, Proofs.Try.ntmps103
  go_wp2
  exact bodyPost_ret (ret_cell (cs := #[.slice bw m.W.length dw, .slice bg m.G.length dg, .bool m.bad, .slice ac s.C.length cc, .slice al s.L.length cl]) (Box.newAt _ _ _ (by first | rfl | simp)) Proofs.Try.results103 rfl Proofs.Try.underlying83 rfl (by kernel_rfl)) rfl ⟨_, rfl, exn, IsSys.mk rfl (IsInts.keep mw keq) (IsInts.keep mg keq) (IsCores.keep hc keq) (IsEvs.keep hl keq)⟩
theorem place_ (id k : Int) (w : World) (h0 : 0 ≤ id) (h1 : id ≤ 100) : Gives Proofs.Try.prog 94 #[.int .i64 id, .int .i64 k] w (eqv (.int .i64 (placeD id k))) := by
  go_enter Proofs.Try.func94, Proofs.Try.ntmps94
  go_wp2
  go_ret
  exact ⟨_, rfl, exq, by unfold placeD; first | rfl | (simp only [eqv, wrap64]; congr 1; omega)⟩
theorem refPlace_ (id k : Int) (w : World) (h0 : 0 ≤ id) (h1 : id ≤ 100) : Gives Proofs.Try.prog 95 #[.int .i64 id, .int .i64 k] w (eqv (.int .i64 (placeD id k))) := by
  go_enter Proofs.Try.func95, Proofs.Try.ntmps95
  go_wp2
  go_ret
  exact ⟨_, rfl, exq, by unfold placeD; first | rfl | (simp only [eqv, wrap64]; congr 1; omega)⟩
theorem own5_ (op : Int) (w : World) : Gives Proofs.Try.prog 96 #[.int .i64 op] w (eqv (.bool (own5 op))) := by
  by_cases h1 : op = 3
  · subst h1
    go_enter Proofs.Try.func96, Proofs.Try.ntmps96
    go_wp2
    go_ret
    exact ⟨_, rfl, exq, by simp [own5, eqv]⟩
  · have q1 : (op == 3) = false := by simpa using h1
    by_cases h2 : op = 4
    · subst h2
      go_enter Proofs.Try.func96, Proofs.Try.ntmps96
      go_wp2
      go_ret
      exact ⟨_, rfl, exq, by simp [own5, eqv]⟩
    · have q2 : (op == 4) = false := by simpa using h2
      go_enter Proofs.Try.func96, Proofs.Try.ntmps96
      go_wp2
      go_ret
      exact ⟨_, rfl, exq, by simp [own5, eqv, h1, h2]⟩
theorem refOwn5_ (op : Int) (w : World) : Gives Proofs.Try.prog 97 #[.int .i64 op] w (eqv (.bool (own5 op))) := by
  by_cases h1 : op = 3
  · subst h1
    go_enter Proofs.Try.func97, Proofs.Try.ntmps97
    go_wp2
    go_ret
    exact ⟨_, rfl, exq, by simp [own5, eqv]⟩
  · have q1 : (op == 3) = false := by simpa using h1
    by_cases h2 : op = 4
    · subst h2
      go_enter Proofs.Try.func97, Proofs.Try.ntmps97
      go_wp2
      go_ret
      exact ⟨_, rfl, exq, by simp [own5, eqv]⟩
    · have q2 : (op == 4) = false := by simpa using h2
      go_enter Proofs.Try.func97, Proofs.Try.ntmps97
      go_wp2
      go_ret
      exact ⟨_, rfl, exq, by simp [own5, eqv, h1, h2]⟩
theorem own4_ (op : Int) (w : World) : Gives Proofs.Try.prog 107 #[.int .i64 op] w (eqv (.bool (own4 op))) := by
  by_cases h1 : op = 1
  · subst h1
    go_enter Proofs.Try.func107, Proofs.Try.ntmps107
    go_wp2
    go_ret
    exact ⟨_, rfl, exq, by simp [own4, eqv]⟩
  · have q1 : (op == 1) = false := by simpa using h1
    by_cases h2 : op = 2
    · subst h2
      go_enter Proofs.Try.func107, Proofs.Try.ntmps107
      go_wp2
      go_ret
      exact ⟨_, rfl, exq, by simp [own4, eqv]⟩
    · have q2 : (op == 2) = false := by simpa using h2
      go_enter Proofs.Try.func107, Proofs.Try.ntmps107
      go_wp2
      go_ret
      exact ⟨_, rfl, exq, by simp [own4, eqv, h1, h2]⟩
theorem refOwn4_ (op : Int) (w : World) : Gives Proofs.Try.prog 108 #[.int .i64 op] w (eqv (.bool (own4 op))) := by
  by_cases h1 : op = 1
  · subst h1
    go_enter Proofs.Try.func108, Proofs.Try.ntmps108
    go_wp2
    go_ret
    exact ⟨_, rfl, exq, by simp [own4, eqv]⟩
  · have q1 : (op == 1) = false := by simpa using h1
    by_cases h2 : op = 2
    · subst h2
      go_enter Proofs.Try.func108, Proofs.Try.ntmps108
      go_wp2
      go_ret
      exact ⟨_, rfl, exq, by simp [own4, eqv]⟩
    · have q2 : (op == 2) = false := by simpa using h2
      go_enter Proofs.Try.func108, Proofs.Try.ntmps108
      go_wp2
      go_ret
      exact ⟨_, rfl, exq, by simp [own4, eqv, h1, h2]⟩
set_option maxHeartbeats 1000000 in
set_option maxRecDepth 100000 in
theorem on_ (N : Nat → Prop) (va vf : Value) (s : SysD) (id pc : Int) (f : FrameD) (w : World) (h : IsSys N w va s) (hf : IsFrame N w vf f) (hN : ∀ b, N b → b < w.heap.size) (hC : s.C.length ≤ 100000) (hFm : ∀ (i : Nat) c, s.C[i]? = some c → c.F.length ≤ 100000) :
    Gives Proofs.Try.prog 149 #[va, .int .i64 id, vf, .int .i64 pc] w (fun r w' => IsSys N w' r (setS s id (pcF f pc))) := by
  obtain ⟨aw, cw, ag, cg, ac, cc, al, cl, rfl, hw, hg, hc, hl⟩ := h.opened
  obtain ⟨ga, gc, rfl, f8, fs⟩ := hf.opened
  go_enter Proofs.Try.func149, Proofs.Try.ntmps149
  go_wp2_with (fail)
  go_at_call 85
  refine (set_ (Bx N w.heap.size (w.heap.size + 3)) _ _ s id (pcF f pc) _ (IsSys.mk rfl (IsInts.keep (IsInts.bxn hw) keq) (IsInts.keep (IsInts.bxn hg) keq) (IsCores.keep (IsCores.less hc fun _ hx hn => Bx.new hx hn) keq) (IsEvs.keep (IsEvs.less hl fun _ hx hn => Bx.new hx hn) keq) : IsSys (Bx N w.heap.size (w.heap.size + 3)) _ _ s) (IsFrame.mk (f := pcF f pc) f8 (IsInts.keep (IsInts.bxn fs) keq)) (Bx.le hN (by simp)) hC hFm).calls.mono ?_
  rintro e w1 ⟨_, rfl, hb1, hu1⟩
  obtain ⟨r1, r2, r3, r4, r5, r6, r7, r8, rfl, rW, rG, rC, rL⟩ := hu1.opened
  have B0_1 : Box w1 (w.heap.size) #[.slice aw s.M.W.length cw, .slice ag s.M.G.length cg, .bool s.M.bad, .slice ac s.C.length cc, .slice al s.L.length cl] 83 := (((Box.newAt _ _ _ (by first | rfl | simp)).alloc _).alloc _).ext hb1
  have B1_1 : Box w1 (w.heap.size + 1) #[.int .i64 f.op, .int .i64 pc, .int .i64 (gi f.R 0), .int .i64 (gi f.R 1), .int .i64 (gi f.R 2), .int .i64 (gi f.R 3), .int .i64 (gi f.R 4), .int .i64 (gi f.R 5), .int .i64 (gi f.R 6), .int .i64 (gi f.R 7), .slice ga f.S.length gc] 95 := ((Box.newAt _ _ _ (by first | rfl | simp)).alloc _).ext hb1
  have B2_1 : Box w1 (w.heap.size + 1 + 1) #[.slice none 0 0, .slice none 0 0, .bool false, .slice none 0 0, .slice none 0 0] 83 := (Box.newAt _ _ _ (by first | rfl | simp)).ext hb1
  have s1 : w.heap.size + 3 ≤ w1.heap.size := (by have h := hb1.size; first | omega | (simp at h; omega))
  obtain ⟨c0_0, c0_1, c0_2, c0_3, c0_4, d0_0, d0_1, d0_2, d0_3, d0_4⟩ := cells5 B0_1
  have z0 : w.heap.size < w1.heap.size := B0_1.lt
  obtain ⟨⟨c1_0, c1_1, c1_2, c1_3, c1_4, c1_5, c1_6, c1_7, c1_8, c1_9, c1_10⟩, d1_0, d1_1, d1_2, d1_3, d1_4, d1_5, d1_6, d1_7, d1_8, d1_9, d1_10⟩ := cells11 B1_1
  have z1 : w.heap.size + 1 < w1.heap.size := B1_1.lt
  obtain ⟨c2_0, c2_1, c2_2, c2_3, c2_4, d2_0, d2_1, d2_2, d2_3, d2_4⟩ := cells5 B2_1
  have z2 : w.heap.size + 1 + 1 < w1.heap.size := B2_1.lt
  go_wp2
  exact bodyPost_ret (ret_cell (cs := #[.slice r1 (setS s id (pcF f pc)).M.W.length r2, .slice r3 (setS s id (pcF f pc)).M.G.length r4, .bool (setS s id (pcF f pc)).M.bad, .slice r5 (setS s id (pcF f pc)).C.length r6, .slice r7 (setS s id (pcF f pc)).L.length r8]) (((((B2_1.setCell _).setCell _).setCell _).setCell _).setCell _) Proofs.Try.results149 rfl Proofs.Try.underlying83 rfl (by kernel_rfl)) rfl ⟨_, rfl, exn, IsSys.less (IsSys.keep hu1 keq) (fun _ _ hn => .inl hn)⟩
set_option maxHeartbeats 1000000 in
set_option maxRecDepth 100000 in
theorem on4_ (N : Nat → Prop) (va vf : Value) (s : SysD) (id pc : Int) (f : FrameD) (w : World) (h : IsSys N w va s) (hf : IsFrame N w vf f) (hN : ∀ b, N b → b < w.heap.size) (hC : s.C.length ≤ 100000) (hFm : ∀ (i : Nat) c, s.C[i]? = some c → c.F.length ≤ 100000) :
    Gives Proofs.Try.prog 165 #[va, .int .i64 id, vf, .int .i64 pc] w (fun r w' => IsSys N w' r (setS s id (pcF f pc))) := by
  obtain ⟨aw, cw, ag, cg, ac, cc, al, cl, rfl, hw, hg, hc, hl⟩ := h.opened
  obtain ⟨ga, gc, rfl, f8, fs⟩ := hf.opened
  go_enter Proofs.Try.func165, Proofs.Try.ntmps165
  go_wp2_with (fail)
  go_at_call 85
  refine (set_ (Bx N w.heap.size (w.heap.size + 3)) _ _ s id (pcF f pc) _ (IsSys.mk rfl (IsInts.keep (IsInts.bxn hw) keq) (IsInts.keep (IsInts.bxn hg) keq) (IsCores.keep (IsCores.less hc fun _ hx hn => Bx.new hx hn) keq) (IsEvs.keep (IsEvs.less hl fun _ hx hn => Bx.new hx hn) keq) : IsSys (Bx N w.heap.size (w.heap.size + 3)) _ _ s) (IsFrame.mk (f := pcF f pc) f8 (IsInts.keep (IsInts.bxn fs) keq)) (Bx.le hN (by simp)) hC hFm).calls.mono ?_
  rintro e w1 ⟨_, rfl, hb1, hu1⟩
  obtain ⟨r1, r2, r3, r4, r5, r6, r7, r8, rfl, rW, rG, rC, rL⟩ := hu1.opened
  have B0_1 : Box w1 (w.heap.size) #[.slice aw s.M.W.length cw, .slice ag s.M.G.length cg, .bool s.M.bad, .slice ac s.C.length cc, .slice al s.L.length cl] 83 := (((Box.newAt _ _ _ (by first | rfl | simp)).alloc _).alloc _).ext hb1
  have B1_1 : Box w1 (w.heap.size + 1) #[.int .i64 f.op, .int .i64 pc, .int .i64 (gi f.R 0), .int .i64 (gi f.R 1), .int .i64 (gi f.R 2), .int .i64 (gi f.R 3), .int .i64 (gi f.R 4), .int .i64 (gi f.R 5), .int .i64 (gi f.R 6), .int .i64 (gi f.R 7), .slice ga f.S.length gc] 95 := ((Box.newAt _ _ _ (by first | rfl | simp)).alloc _).ext hb1
  have B2_1 : Box w1 (w.heap.size + 1 + 1) #[.slice none 0 0, .slice none 0 0, .bool false, .slice none 0 0, .slice none 0 0] 83 := (Box.newAt _ _ _ (by first | rfl | simp)).ext hb1
  have s1 : w.heap.size + 3 ≤ w1.heap.size := (by have h := hb1.size; first | omega | (simp at h; omega))
  obtain ⟨c0_0, c0_1, c0_2, c0_3, c0_4, d0_0, d0_1, d0_2, d0_3, d0_4⟩ := cells5 B0_1
  have z0 : w.heap.size < w1.heap.size := B0_1.lt
  obtain ⟨⟨c1_0, c1_1, c1_2, c1_3, c1_4, c1_5, c1_6, c1_7, c1_8, c1_9, c1_10⟩, d1_0, d1_1, d1_2, d1_3, d1_4, d1_5, d1_6, d1_7, d1_8, d1_9, d1_10⟩ := cells11 B1_1
  have z1 : w.heap.size + 1 < w1.heap.size := B1_1.lt
  obtain ⟨c2_0, c2_1, c2_2, c2_3, c2_4, d2_0, d2_1, d2_2, d2_3, d2_4⟩ := cells5 B2_1
  have z2 : w.heap.size + 1 + 1 < w1.heap.size := B2_1.lt
  go_wp2
  exact bodyPost_ret (ret_cell (cs := #[.slice r1 (setS s id (pcF f pc)).M.W.length r2, .slice r3 (setS s id (pcF f pc)).M.G.length r4, .bool (setS s id (pcF f pc)).M.bad, .slice r5 (setS s id (pcF f pc)).C.length r6, .slice r7 (setS s id (pcF f pc)).L.length r8]) (((((B2_1.setCell _).setCell _).setCell _).setCell _).setCell _) Proofs.Try.results165 rfl Proofs.Try.underlying83 rfl (by kernel_rfl)) rfl ⟨_, rfl, exn, IsSys.less (IsSys.keep hu1 keq) (fun _ _ hn => .inl hn)⟩
set_option maxHeartbeats 1000000 in
set_option maxRecDepth 100000 in
theorem refOn_ (N : Nat → Prop) (va vm vf : Value) (s : SysD) (id pc : Int) (m : Arena) (f : FrameD) (w : World) (h : IsSys N w va s) (hm : IsMem N w vm m) (hf : IsFrame N w vf f) (hN : ∀ b, N b → b < w.heap.size) (hC : s.C.length ≤ 100000) (hFm : ∀ (i : Nat) c, s.C[i]? = some c → c.F.length ≤ 100000) :
    Gives Proofs.Try.prog 151 #[va, .int .i64 id, vm, vf, .int .i64 pc] w (fun r w' => IsSys N w' r (onS s id m f pc)) := by
  obtain ⟨aw, cw, ag, cg, ac, cc, al, cl, rfl, hw, hg, hc, hl⟩ := h.opened
  obtain ⟨bw, dw, bg, dg, rfl, mw, mg⟩ := hm.opened
  obtain ⟨ga, gc, rfl, f8, fs⟩ := hf.opened
  go_enter Proofs.Try.func151, Proofs.Try.ntmps151
  go_wp2_with (fail)
  obtain ⟨W2, hW⟩ : ∃ W, W = ((((w.alloc (.cells #[.slice aw s.M.W.length cw, .slice ag s.M.G.length cg, .bool s.M.bad, .slice ac s.C.length cc, .slice al s.L.length cl] 83 (0, 0))).alloc (.cells #[.slice bw m.W.length dw, .slice bg m.G.length dg, .bool m.bad] 50 (0, 0))).alloc (.cells #[.int .i64 f.op, .int .i64 pc, .int .i64 (gi f.R 0), .int .i64 (gi f.R 1), .int .i64 (gi f.R 2), .int .i64 (gi f.R 3), .int .i64 (gi f.R 4), .int .i64 (gi f.R 5), .int .i64 (gi f.R 6), .int .i64 (gi f.R 7), .slice ga f.S.length gc] 95 (0, 0))).alloc (.cells #[.slice none 0 0, .slice none 0 0, .bool false, .slice none 0 0, .slice none 0 0] 83 (0, 0))) := ⟨_, rfl⟩
  have hX2 : Ext w W2 := by rw [hW]; exact exn
  have hK2 : Keep (Bx N w.heap.size (w.heap.size + 4)) w W2 := by rw [hW]; exact keq
  have D0_2 : Box ((((w.alloc (.cells #[.slice aw s.M.W.length cw, .slice ag s.M.G.length cg, .bool s.M.bad, .slice ac s.C.length cc, .slice al s.L.length cl] 83 (0, 0))).alloc (.cells #[.slice bw m.W.length dw, .slice bg m.G.length dg, .bool m.bad] 50 (0, 0))).alloc (.cells #[.int .i64 f.op, .int .i64 pc, .int .i64 (gi f.R 0), .int .i64 (gi f.R 1), .int .i64 (gi f.R 2), .int .i64 (gi f.R 3), .int .i64 (gi f.R 4), .int .i64 (gi f.R 5), .int .i64 (gi f.R 6), .int .i64 (gi f.R 7), .slice ga f.S.length gc] 95 (0, 0))).alloc (.cells #[.slice none 0 0, .slice none 0 0, .bool false, .slice none 0 0, .slice none 0 0] 83 (0, 0))) (w.heap.size) #[.slice aw s.M.W.length cw, .slice ag s.M.G.length cg, .bool s.M.bad, .slice ac s.C.length cc, .slice al s.L.length cl] 83 := ((((Box.newAt _ _ _ (by first | rfl | simp)).alloc _).alloc _).alloc _)
  rw [← hW] at D0_2
  have D1_2 : Box ((((w.alloc (.cells #[.slice aw s.M.W.length cw, .slice ag s.M.G.length cg, .bool s.M.bad, .slice ac s.C.length cc, .slice al s.L.length cl] 83 (0, 0))).alloc (.cells #[.slice bw m.W.length dw, .slice bg m.G.length dg, .bool m.bad] 50 (0, 0))).alloc (.cells #[.int .i64 f.op, .int .i64 pc, .int .i64 (gi f.R 0), .int .i64 (gi f.R 1), .int .i64 (gi f.R 2), .int .i64 (gi f.R 3), .int .i64 (gi f.R 4), .int .i64 (gi f.R 5), .int .i64 (gi f.R 6), .int .i64 (gi f.R 7), .slice ga f.S.length gc] 95 (0, 0))).alloc (.cells #[.slice none 0 0, .slice none 0 0, .bool false, .slice none 0 0, .slice none 0 0] 83 (0, 0))) (w.heap.size + 1) #[.slice bw m.W.length dw, .slice bg m.G.length dg, .bool m.bad] 50 := (((Box.newAt _ _ _ (by first | rfl | simp)).alloc _).alloc _)
  rw [← hW] at D1_2
  have D2_2 : Box ((((w.alloc (.cells #[.slice aw s.M.W.length cw, .slice ag s.M.G.length cg, .bool s.M.bad, .slice ac s.C.length cc, .slice al s.L.length cl] 83 (0, 0))).alloc (.cells #[.slice bw m.W.length dw, .slice bg m.G.length dg, .bool m.bad] 50 (0, 0))).alloc (.cells #[.int .i64 f.op, .int .i64 pc, .int .i64 (gi f.R 0), .int .i64 (gi f.R 1), .int .i64 (gi f.R 2), .int .i64 (gi f.R 3), .int .i64 (gi f.R 4), .int .i64 (gi f.R 5), .int .i64 (gi f.R 6), .int .i64 (gi f.R 7), .slice ga f.S.length gc] 95 (0, 0))).alloc (.cells #[.slice none 0 0, .slice none 0 0, .bool false, .slice none 0 0, .slice none 0 0] 83 (0, 0))) (w.heap.size + 1 + 1) #[.int .i64 f.op, .int .i64 pc, .int .i64 (gi f.R 0), .int .i64 (gi f.R 1), .int .i64 (gi f.R 2), .int .i64 (gi f.R 3), .int .i64 (gi f.R 4), .int .i64 (gi f.R 5), .int .i64 (gi f.R 6), .int .i64 (gi f.R 7), .slice ga f.S.length gc] 95 := ((Box.newAt _ _ _ (by first | rfl | simp)).alloc _)
  rw [← hW] at D2_2
  have D3_2 : Box ((((w.alloc (.cells #[.slice aw s.M.W.length cw, .slice ag s.M.G.length cg, .bool s.M.bad, .slice ac s.C.length cc, .slice al s.L.length cl] 83 (0, 0))).alloc (.cells #[.slice bw m.W.length dw, .slice bg m.G.length dg, .bool m.bad] 50 (0, 0))).alloc (.cells #[.int .i64 f.op, .int .i64 pc, .int .i64 (gi f.R 0), .int .i64 (gi f.R 1), .int .i64 (gi f.R 2), .int .i64 (gi f.R 3), .int .i64 (gi f.R 4), .int .i64 (gi f.R 5), .int .i64 (gi f.R 6), .int .i64 (gi f.R 7), .slice ga f.S.length gc] 95 (0, 0))).alloc (.cells #[.slice none 0 0, .slice none 0 0, .bool false, .slice none 0 0, .slice none 0 0] 83 (0, 0))) (w.heap.size + 1 + 1 + 1) #[.slice none 0 0, .slice none 0 0, .bool false, .slice none 0 0, .slice none 0 0] 83 := (Box.newAt _ _ _ (by first | rfl | simp))
  rw [← hW] at D3_2
  have y2 : w.heap.size + 4 ≤ W2.heap.size := by rw [hW]; simp
  rw [← hW]
  clear hW
  have aS : IsSys (Bx N w.heap.size (w.heap.size + 4)) W2 (.agg #[.slice aw s.M.W.length cw, .slice ag s.M.G.length cg, .bool s.M.bad, .slice ac s.C.length cc, .slice al s.L.length cl]) s := (IsSys.bxn h).keep (hK2)
  have aM : IsMem (Bx N w.heap.size (w.heap.size + 4)) W2 (.agg #[.slice bw m.W.length dw, .slice bg m.G.length dg, .bool m.bad]) m := (IsMem.bxn hm).keep hK2
  have aF : IsFrame (Bx N w.heap.size (w.heap.size + 4)) W2 (.agg #[.int .i64 f.op, .int .i64 pc, .int .i64 (gi f.R 0), .int .i64 (gi f.R 1), .int .i64 (gi f.R 2), .int .i64 (gi f.R 3), .int .i64 (gi f.R 4), .int .i64 (gi f.R 5), .int .i64 (gi f.R 6), .int .i64 (gi f.R 7), .slice ga f.S.length gc]) (pcF f pc) := IsFrame.mk (f := pcF f pc) f8 ((IsInts.bxn fs).keep hK2)
  apply region_lit2 (T := [6]) (L := []) (X := [w.heap.size + 1 + 1 + 1]) (G := [eqv _, eqv _, isSysN (Bx N w.heap.size (w.heap.size + 4)) (memS s m), eqv _, eqv _, isSysN (Bx N w.heap.size (w.heap.size + 4)) (setS (memS s m) id (pcF f pc)), anyG])
  case hm => kernel_rfl
  case hop =>
    refine ⟨?_, ?_, ?_, ?_, ?_, ?_, ?_, trivial⟩
    · intro a wa hs hf hd
      have t5 := hf.off 5 (by kernel_rfl) rfl
      exact plain_ rfl (yes_eqv (o_load5 rfl Proofs.Try.underlying83 rfl (by kernel_rfl) t5 ((D0_2.since hs rfl).cell rfl) ((D0_2.since hs rfl).cell rfl) ((D0_2.since hs rfl).cell rfl) ((D0_2.since hs rfl).cell rfl) ((D0_2.since hs rfl).cell rfl)) rfl)
    · intro a wa hs hf hd
      have t7 := hf.off 7 (by kernel_rfl) rfl
      exact plain_ rfl (yes_eqv (o_load3 rfl Proofs.Try.underlying50 rfl (by kernel_rfl) t7 ((D1_2.since hs rfl).cell rfl) ((D1_2.since hs rfl).cell rfl) ((D1_2.since hs rfl).cell rfl)) rfl)
    · intro a wa hs hf hd
      have t13 : a.eval (.tmp 13) = _ := hd.at 0 13 (by kernel_rfl)
      have t14 : a.eval (.tmp 14) = _ := hd.at 1 14 (by kernel_rfl)
      exact plain_ rfl (yes_gives (refMem_ _ _ _ s m _ (aS.ext (Since.to_ext hs)) (aM.keep (Since.to_ext hs).keep)) rfl rfl Proofs.Try.func103 (by kernel_rfl) (by kernel_rfl) (by simp only [List.map_toArray, List.map_cons, List.map_nil, t13, t14]) rfl)
    · intro a wa hs hf hd
      have t1 := hf.off 1 (by kernel_rfl) rfl
      exact plain_ rfl (yes_eqv (o_move rfl t1) rfl)
    · intro a wa hs hf hd
      have t8 := hf.off 8 (by kernel_rfl) rfl
      exact plain_ rfl (yes_eqv (o_load11 rfl Proofs.Try.underlying95 rfl (by kernel_rfl) t8 ((D2_2.since hs rfl).cell rfl) ((D2_2.since hs rfl).cell rfl) ((D2_2.since hs rfl).cell rfl) ((D2_2.since hs rfl).cell rfl) ((D2_2.since hs rfl).cell rfl) ((D2_2.since hs rfl).cell rfl) ((D2_2.since hs rfl).cell rfl) ((D2_2.since hs rfl).cell rfl) ((D2_2.since hs rfl).cell rfl) ((D2_2.since hs rfl).cell rfl) ((D2_2.since hs rfl).cell rfl)) rfl)
    · intro a wa hs hf hd
      have t15 := hd.at 2 15 (by kernel_rfl)
      have t16 : a.eval (.tmp 16) = _ := hd.at 3 16 (by kernel_rfl)
      have t17 : a.eval (.tmp 17) = _ := hd.at 4 17 (by kernel_rfl)
      exact plain_ rfl (yes_gives (refSet_ _ _ _ (memS s m) id (pcF f pc) _ t15 (aF.ext (Since.to_ext hs)) (Bx.le hN (by have := (Since.to_ext hs).size; omega)) hC hFm) rfl rfl Proofs.Try.func89 (by kernel_rfl) (by kernel_rfl) (by simp only [List.map_toArray, List.map_cons, List.map_nil, t15, t16, t17]) rfl)
    · intro a wb wa hs1 hs hf hd hrun
      have t10 := hf.off 10 (by kernel_rfl) rfl
      have t18 := hd.at 5 18 (by kernel_rfl)
      subst hrun
      have q18 : IsSys (Bx N w.heap.size (w.heap.size + 4)) _ (a.eval (.tmp 18)) (setS (memS s m) id (pcF f pc)) := t18
      obtain ⟨r1, r2, r3, r4, r5, r6, r7, r8, hv, _⟩ := q18.opened
      exact ⟨_, o_store rfl t10 hv ((D3_2.since hs1 rfl)) (by kernel_rfl) (by simp [Value.cells, Value.oneCell']) (by first | (simp [Value.cells]; done) | (simp [Value.cells]; omega)) rfl, Since.put hs (.inr (by simp))⟩
  case hG => exact ⟨stable_eqv _, stable_eqv _, stable_isSysN _ _, stable_eqv _, stable_eqv _, stable_isSysN _ _, stable_any, trivial⟩
  case hc => kernel_rfl
  case hfin =>
    intro v2 hs2
    rintro _ rfl _ rfl r2 hr2 _ rfl _ rfl r5 hr5
    obtain ⟨r1, r2, r3, r4, r5, r6, r7, r8, rfl, rW, rG, rC, rL⟩ := IsSys.opened hr5
    rintro v2w ⟨o1, v1, ho1, hr1, rfl⟩
    cases ho1
    simp only [Act.put, List.setIfInBounds_toArray, List.set_cons_zero, List.set_cons_succ] at hr1 ⊢
    cases (hr1.symm.trans (o_store (v := .agg #[.slice r1 (setS (memS s m) id (pcF f pc)).M.W.length r2, .slice r3 (setS (memS s m) id (pcF f pc)).M.G.length r4, .bool (setS (memS s m) id (pcF f pc)).M.bad, .slice r5 (setS (memS s m) id (pcF f pc)).C.length r6, .slice r7 (setS (memS s m) id (pcF f pc)).L.length r8]) (new := #[.slice r1 (setS (memS s m) id (pcF f pc)).M.W.length r2, .slice r3 (setS (memS s m) id (pcF f pc)).M.G.length r4, .bool (setS (memS s m) id (pcF f pc)).M.bad, .slice r5 (setS (memS s m) id (pcF f pc)).C.length r6, .slice r7 (setS (memS s m) id (pcF f pc)).L.length r8]) rfl rfl rfl ((D3_2.since hs2 rfl)) (by kernel_rfl) (by simp [Value.cells, Value.oneCell']) (by first | (simp [Value.cells]; done) | (simp [Value.cells]; omega)) (by first | rfl | kernel_rfl)))
    obtain ⟨w1, hw1⟩ : ∃ x, x = (put v2 (w.heap.size + 1 + 1 + 1) (.cells #[.slice r1 (setS (memS s m) id (pcF f pc)).M.W.length r2, .slice r3 (setS (memS s m) id (pcF f pc)).M.G.length r4, .bool (setS (memS s m) id (pcF f pc)).M.bad, .slice r5 (setS (memS s m) id (pcF f pc)).C.length r6, .slice r7 (setS (memS s m) id (pcF f pc)).L.length r8] 83 (0, 0))) := ⟨_, rfl⟩
    have hW1 : Ext W2 v2 := Since.to_ext hs2
    have hb1 : Ext w w1 := by rw [hw1]; exact Since.to_ext ((Since.of_ext (hX2.trans hW1)).put (.inl (by have := hX2.size; omega)))
    have hk1 : Keep (Bx N w.heap.size (w.heap.size + 4)) w w1 := by rw [hw1]; exact ((hK2.ext hW1).put _ _ (.inr (Bx.mem (by omega) (by omega))))
    have hq1 : Keep (Bx N w.heap.size (w.heap.size + 4)) v2 w1 := by rw [hw1]; exact ((Keep.refl _ _).put _ _ (.inr (Bx.mem (by omega) (by omega))))
    have B0_1 : Box w1 (w.heap.size) #[.slice aw s.M.W.length cw, .slice ag s.M.G.length cg, .bool s.M.bad, .slice ac s.C.length cc, .slice al s.L.length cl] 83 := by rw [hw1]; exact (box_putOther (D0_2.since hs2 rfl) (by omega))
    have B1_1 : Box w1 (w.heap.size + 1) #[.slice bw m.W.length dw, .slice bg m.G.length dg, .bool m.bad] 50 := by rw [hw1]; exact (box_putOther (D1_2.since hs2 rfl) (by omega))
    have B2_1 : Box w1 (w.heap.size + 1 + 1) #[.int .i64 f.op, .int .i64 pc, .int .i64 (gi f.R 0), .int .i64 (gi f.R 1), .int .i64 (gi f.R 2), .int .i64 (gi f.R 3), .int .i64 (gi f.R 4), .int .i64 (gi f.R 5), .int .i64 (gi f.R 6), .int .i64 (gi f.R 7), .slice ga f.S.length gc] 95 := by rw [hw1]; exact (box_putOther (D2_2.since hs2 rfl) (by omega))
    have B3_1 : Box w1 (w.heap.size + 1 + 1 + 1) #[.slice r1 (setS (memS s m) id (pcF f pc)).M.W.length r2, .slice r3 (setS (memS s m) id (pcF f pc)).M.G.length r4, .bool (setS (memS s m) id (pcF f pc)).M.bad, .slice r5 (setS (memS s m) id (pcF f pc)).C.length r6, .slice r7 (setS (memS s m) id (pcF f pc)).L.length r8] 83 := by rw [hw1]; exact (D3_2.since hs2 rfl).put
    have s1 : W2.heap.size ≤ w1.heap.size := by rw [hw1]; have := hW1.size; simpa [put] using this
    rw [← hw1]
    clear hw1
    obtain ⟨c0_0, c0_1, c0_2, c0_3, c0_4, d0_0, d0_1, d0_2, d0_3, d0_4⟩ := cells5 B0_1
    have z0 : w.heap.size < w1.heap.size := B0_1.lt
    obtain ⟨c1_0, c1_1, c1_2, d1_0, d1_1, d1_2⟩ := cells3 B1_1
    have z1 : w.heap.size + 1 < w1.heap.size := B1_1.lt
    obtain ⟨⟨c2_0, c2_1, c2_2, c2_3, c2_4, c2_5, c2_6, c2_7, c2_8, c2_9, c2_10⟩, d2_0, d2_1, d2_2, d2_3, d2_4, d2_5, d2_6, d2_7, d2_8, d2_9, d2_10⟩ := cells11 B2_1
    have z2 : w.heap.size + 1 + 1 < w1.heap.size := B2_1.lt
    obtain ⟨c3_0, c3_1, c3_2, c3_3, c3_4, d3_0, d3_1, d3_2, d3_3, d3_4⟩ := cells5 B3_1
    have z3 : w.heap.size + 1 + 1 + 1 < w1.heap.size := B3_1.lt
    have hu1 : IsSys (Bx N w.heap.size (w.heap.size + 4)) w1 (.agg #[.slice r1 (setS (memS s m) id (pcF f pc)).M.W.length r2, .slice r3 (setS (memS s m) id (pcF f pc)).M.G.length r4, .bool (setS (memS s m) id (pcF f pc)).M.bad, .slice r5 (setS (memS s m) id (pcF f pc)).C.length r6, .slice r7 (setS (memS s m) id (pcF f pc)).L.length r8]) (setS (memS s m) id (pcF f pc)) := IsSys.keep (IsSys.mk rfl rW rG rC rL : IsSys (Bx N w.heap.size (w.heap.size + 4)) v2 _ (setS (memS s m) id (pcF f pc))) hq1
    clear hq1
    go_wp2
    exact bodyPost_ret (ret_cell (cs := #[.slice r1 (setS (memS s m) id (pcF f pc)).M.W.length r2, .slice r3 (setS (memS s m) id (pcF f pc)).M.G.length r4, .bool (setS (memS s m) id (pcF f pc)).M.bad, .slice r5 (setS (memS s m) id (pcF f pc)).C.length r6, .slice r7 (setS (memS s m) id (pcF f pc)).L.length r8]) B3_1 Proofs.Try.results151 rfl Proofs.Try.underlying83 rfl (by kernel_rfl)) rfl ⟨_, rfl, exn, IsSys.less (IsSys.keep hu1 keq) (fun _ _ hn => .inl hn)⟩
theorem list8 {l : List Int} (h : l.length = 8) : ∃ a b c d e f g i, l = [a, b, c, d, e, f, g, i] := by
  match l, h with
  | [a, b, c, d, e, f, g, i], _ => exact ⟨a, b, c, d, e, f, g, i, rfl⟩
theorem IsFrame.lit {N : Nat → Prop} {w : World} {v : Value} {f : FrameD} (h : IsFrame N w v f) : ∃ op pc q0 q1 q2 q3 q4 q5 q6 q7 S a c, f = ⟨op, pc, [q0, q1, q2, q3, q4, q5, q6, q7], S⟩ ∧ v = .agg #[.int .i64 op, .int .i64 pc, .int .i64 q0, .int .i64 q1, .int .i64 q2, .int .i64 q3, .int .i64 q4, .int .i64 q5, .int .i64 q6, .int .i64 q7, .slice a S.length c] ∧ IsInts N w (.slice a S.length c) S := by
  obtain ⟨a, c, rfl, h8, hs⟩ := h.opened
  obtain ⟨op, pc, R, S⟩ := f
  obtain ⟨q0, q1, q2, q3, q4, q5, q6, q7, rfl⟩ := list8 h8
  exact ⟨op, pc, q0, q1, q2, q3, q4, q5, q6, q7, S, a, c, rfl, rfl, hs⟩
theorem IsFrame.ofLit {N : Nat → Prop} {w : World} {op pc q0 q1 q2 q3 q4 q5 q6 q7 : Int} {S : List Int} {s : Value} (hs : IsInts N w s S) : IsFrame N w (.agg #[.int .i64 op, .int .i64 pc, .int .i64 q0, .int .i64 q1, .int .i64 q2, .int .i64 q3, .int .i64 q4, .int .i64 q5, .int .i64 q6, .int .i64 q7, s]) ⟨op, pc, [q0, q1, q2, q3, q4, q5, q6, q7], S⟩ :=
  ⟨_, rfl, rfl, s, rfl, hs⟩
theorem idx_ (x : Int) (w : World) : Gives Proofs.Try.prog 41 #[.int .i64 x] w (eqv (.int .i64 (idx x))) := index_ x w
theorem refIdx_ (x : Int) (w : World) : Gives Proofs.Try.prog 42 #[.int .i64 x] w (eqv (.int .i64 (idx x))) := refIndex_ x w
theorem zero50 : ∀ (j : Nat) c, (#[.slice none 0 0, .slice none 0 0, .bool false] : Array Value)[j]? = some c → ∀ x, c ≠ .int .i64 x := by
  intro j c h x e
  subst e
  match j, h with
  | 0, h => simp at h
  | 1, h => simp at h
  | 2, h => simp at h
  | n + 3, h => simp at h
theorem IsInts.putNew {N : Nat → Prop} {w : World} {v : Value} {l : List Int} {k : Nat} {cs : Array Value} {t : TypeId} {o : Obj} (h : IsInts N w v l) (hB : Box w k cs t) (hc : ∀ (j : Nat) c, cs[j]? = some c → ∀ x, c ≠ .int .i64 x) : IsInts N (put w k o) v l := by
  obtain ⟨a, cap, rfl, h1, h2, h3, h4⟩ := h
  refine ⟨a, cap, rfl, h1, h2, h3, fun i hi => ?_⟩
  obtain ⟨b, off, e, hb, hn, hcell⟩ := h4 i hi
  refine ⟨b, off, e, by rw [put_size]; exact hb, hn, ?_⟩
  by_cases hbk : k = b
  · subst hbk
    exfalso
    have hB' : w.heap[k]? = some (.cells cs t (0, 0)) := hB
    have h5 : w.cell? ⟨k, off + i, none⟩ = cs[off + i]? := by simp [World.cell?, hB']
    rw [h5] at hcell
    exact hc _ _ hcell _ rfl
  · exact (World.cell?_of_block (a := ⟨b, off + i, none⟩) (put_other hbk)).trans hcell
theorem IsCores.bxn {N : Nat → Prop} {w : World} {hi : Nat} {v : Value} {l : List CoreD} (h : IsCores N w v l) : IsCores (Bx N w.heap.size hi) w v l := IsCores.less h fun _ hx hn => Bx.new hx hn
theorem IsEvs.bxn {N : Nat → Prop} {w : World} {hi : Nat} {v : Value} {l : List EvD} (h : IsEvs N w v l) : IsEvs (Bx N w.heap.size hi) w v l := IsEvs.less h fun _ hx hn => Bx.new hx hn
theorem IsFrame.litv {N : Nat → Prop} {w : World} {v : Value} {op pc q0 q1 q2 q3 q4 q5 q6 q7 : Int} {S : List Int} (h : IsFrame N w v ⟨op, pc, [q0, q1, q2, q3, q4, q5, q6, q7], S⟩) : ∃ a c, v = .agg #[.int .i64 op, .int .i64 pc, .int .i64 q0, .int .i64 q1, .int .i64 q2, .int .i64 q3, .int .i64 q4, .int .i64 q5, .int .i64 q6, .int .i64 q7, .slice a S.length c] ∧ IsInts N w (.slice a S.length c) S := by
  obtain ⟨a, c, e, _, hs⟩ := h.opened
  exact ⟨a, c, e, hs⟩
theorem IsSys.top8 {N : Nat → Prop} {w : World} {v : Value} {s : SysD} (h : IsSys N w v s) {id : Int} : ∀ f, topD s id = some f → f.R.length = 8 := by
  intro f ht
  obtain ⟨k, c, rfl, hck, hpos, hf⟩ := top_some ht
  obtain ⟨aw, cw, ag, cg, ac, cc, al, cl, rfl, hw, hg, hc, hl⟩ := h.opened
  obtain ⟨bc, oc, af, cf, ar, cr, e, xc, nc, hx3, hf', hr, _⟩ := IsCores.at hc hck
  obtain ⟨b, off, s', e', h1, h2, h8, _⟩ := IsFrames.at hf' hf
  exact h8
end Go.Proofs.Ytcfbdfgondmkoaa
/- Where a node's link stands, of any number; pairs of an arena and a value. -/
namespace Go.Proofs.Ytcfbdfgondmkoaa
open Go Go.RowKit
set_option linter.unusedSimpArgs false
set_option linter.unusedVariables false
set_option linter.unnecessarySimpa false

theorem linkAt_lo (p : Int) : -9223372036854775808 ≤ linkAt p ∧ linkAt p ≤ 9223372036854775807 := by unfold linkAt wrap64; omega
def isTupN (N : Nat → Prop) (m : Arena) (x : Value) : GP := fun v w => ∃ u, v = .tuple #[u, x] ∧ IsMem N w u m
theorem stable_isTupN (N : Nat → Prop) (m : Arena) (x : Value) : Stable (isTupN N m x) := fun _ _ _ ⟨u, h1, h2⟩ hx => ⟨u, h1, IsMem.keep h2 hx.keep⟩
theorem atw_ (p : Int) (w : World) : Gives Proofs.Try.prog 57 #[.int .i64 p, .int .i64 0] w (eqv (.int .i64 (linkAt p))) := by
  go_enter Proofs.Try.func57, Proofs.Try.ntmps57
  go_wp2
  go_ret
  exact ⟨_, rfl, exq, by show Value.int .i64 (wrap64 (wrap64 (128 + wrap64 (4 * wrap64 (p - 1))))) = Value.int .i64 (linkAt p); congr 1; unfold linkAt wrap64; omega⟩
theorem refAtw_ (p : Int) (w : World) : Gives Proofs.Try.prog 58 #[.int .i64 p, .int .i64 0] w (eqv (.int .i64 (linkAt p))) := by
  go_enter Proofs.Try.func58, Proofs.Try.ntmps58
  go_wp2
  go_ret
  exact ⟨_, rfl, exq, by show Value.int .i64 (wrap64 (wrap64 (128 + wrap64 (4 * wrap64 (p - 1))))) = Value.int .i64 (linkAt p); congr 1; unfold linkAt wrap64; omega⟩
end Go.Proofs.Ytcfbdfgondmkoaa
/- A slice of integers that the call made, and of which it may have cut off a head: append in place or anew. -/
namespace Go.Proofs.Ytcfbdfgondmkoaa
open Go Go.RowKit
set_option linter.unusedSimpArgs false
set_option linter.unusedVariables false
set_option linter.unnecessarySimpa false

def OwnAt (base : Nat) (w : World) (v : Value) (l : List Int) : Prop :=
  v = .slice none 0 0 ∧ l = [] ∨ ∃ g o cap cur, v = .slice (some ⟨g, o, none⟩) l.length cap ∧ base ≤ g ∧ Box w g cur 3 ∧ l.length ≤ cap ∧ cap ≤ maxLen ∧ o + cap ≤ cur.size ∧ ∀ i, i < l.length → cur[o + i]? = some (.int .i64 (gi l i))
theorem OwnAt.ints {base : Nat} {w : World} {v : Value} {l : List Int} (h : OwnAt base w v l) {N : Nat → Prop} (hn : ∀ b, base ≤ b → ¬ N b) : IsSl 1 RI N w v l := by
  rcases h with ⟨rfl, rfl⟩ | ⟨g, o, cap, cur, rfl, hb, hg, hc, hm, hs, hx⟩
  · exact ⟨none, 0, rfl, by simp, by omega, fun _ => rfl, fun i x hi => by simp at hi⟩
  · refine ⟨_, cap, rfl, hc, by simpa [maxLen] using hm, fun e => by simp at e, fun i x hi => ?_⟩
    have hil := list_lt hi
    have h1 := hx i hil
    refine ⟨g, o, [.int .i64 (gi l i)], rfl, hg.lt, hn _ hb, rfl, fun j c hj => ?_, ?_⟩
    · cases j with
      | zero =>
        simp at hj
        subst hj
        refine hg.cell ?_
        rw [nth_eq]
        simpa using h1
      | succ j => simp at hj
    · show _ = _
      unfold gi
      simp [hi]
theorem OwnAt.keep {base : Nat} {w w' : World} {v : Value} {l : List Int} (h : OwnAt base w v l) {N : Nat → Prop} (k : Keep N w w') (hn : ∀ b, v.ownBlock = some b → ¬ N b) : OwnAt base w' v l := by
  rcases h with ⟨rfl, rfl⟩ | ⟨g, o, cap, cur, rfl, hb, hg, hc, hm, hs, hx⟩
  · exact .inl ⟨rfl, rfl⟩
  · exact .inr ⟨g, o, cap, cur, rfl, hb, hg.keep k (hn g rfl), hc, hm, hs, hx⟩
theorem gi_snoc_lt {l : List Int} {x : Int} {i : Nat} (h : i < l.length) : gi (l ++ [x]) i = gi l i := by unfold gi; simp [List.getElem?_append_left h]
theorem gi_snoc_eq {l : List Int} {x : Int} : gi (l ++ [x]) l.length = x := by unfold gi; simp
/-- a head cut off, at the edge of the row -/
theorem OwnAt.drop0 {base : Nat} {w : World} {g o n : Nat} {l : List Int} (h : OwnAt base w (.slice (some ⟨g, o, none⟩) n 1) l) (h0 : 0 < l.length) : OwnAt base w (.slice (some ⟨g, o, none⟩) (n - 1) 0) (l.drop 1) := by
  rcases h with ⟨h, _⟩ | ⟨g', o', cap', cur, he, hb, hg, hc, hm, hs, hx⟩
  · cases h
  · cases he
    have h1 : (l.drop 1).length = 0 := by simp; omega
    refine .inr ⟨g, o, 0, cur, by rw [h1, show l.length - 1 = 0 by omega], hb, hg, by omega, by simp [maxLen], by omega, fun i hi => by omega⟩
/-- a head cut off -/
theorem OwnAt.drop1 {base : Nat} {w : World} {g o n cap : Nat} {l : List Int} (h : OwnAt base w (.slice (some ⟨g, o, none⟩) n cap) l) (h0 : 0 < l.length) : n = l.length ∧ OwnAt base w (.slice (some ⟨g, o + 1, none⟩) (n - 1) (cap - 1)) (l.drop 1) := by
  rcases h with ⟨h, _⟩ | ⟨g', o', cap', cur, he, hb, hg, hc, hm, hs, hx⟩
  · cases h
  · cases he
    refine ⟨rfl, .inr ⟨g, o + 1, cap - 1, cur, by simp, hb, hg, by simp; omega, by omega, by omega, fun i hi => ?_⟩⟩
    simp at hi
    have := hx (i + 1) (by omega)
    rw [show o + 1 + i = o + (i + 1) by omega, this]
    unfold gi
    simp [List.getElem?_drop, Nat.add_comm]
set_option maxHeartbeats 1000000 in
theorem run_append_at {base : Nat} {w : World} {v : Value} {l : List Int} {ad : Addr} {c : Nat} {x : Int} {ty : TypeId} (h : OwnAt base w v l) (hx : w.cell? ad = some (.int .i64 x)) (hl : l.length ≤ 100000) (hbase : base ≤ w.heap.size) :
    ∃ g o c' w', (Builtin.append_ #[48, 48] ty #[v, .slice (some ad) 1 c]).run Proofs.Try.prog w = .ok (.slice (some ⟨g, o, none⟩) (l.length + 1) c') w' ∧ OwnAt base w' (.slice (some ⟨g, o, none⟩) (l.length + 1) c') (l ++ [x]) ∧ w.grownBy w' v.ownBlock ∧ (v.ownBlock = some g ∨ g = w.heap.size) := by
  obtain ⟨i, hi, hz, hs, hb⟩ := rowI.info
  have src : Src Proofs.Try.prog i.size 48 (.slice (some ad) 1 c) 1 [.int .i64 x] w := Src.ofSlice w rowI.slice ad 1 c [.int .i64 x] (by rw [hs]; rfl) (fun j u hj => by
    cases j with
    | zero => simp at hj; subst hj; cases ad; simpa [Addr.add] using hx
    | succ j => simp at hj) (by simp [Value.oneCell'])
  have hbytes : ∀ n, n ≤ 100001 → n * i.bytes ≤ 140737488355328 := fun n hn => Nat.le_trans (Nat.mul_le_mul hn hb) (by decide)
  have grow : ∀ (bs : Option Addr) (cap : Nat) (olds : List Value), (Builtin.firstCells i.size l.length (.slice bs l.length cap)).run Proofs.Try.prog w.drew = .ok olds.toArray w.drew → olds.length = l.length → (∀ k, k < l.length → olds[k]? = some (.int .i64 (gi l k))) → cap < l.length + 1 →
      ∃ c' w', (Builtin.append_ #[48, 48] ty #[.slice bs l.length cap, .slice (some ad) 1 c]).run Proofs.Try.prog w = .ok (.slice (some ⟨w.heap.size, 0, none⟩) (l.length + 1) c') w' ∧ OwnAt base w' (.slice (some ⟨w.heap.size, 0, none⟩) (l.length + 1) c') (l ++ [x]) ∧ (∀ row, w.grownBy w' row) := by
    intro bs cap olds h1 h2 h3 h4
    have hr := run_append_grow_src (P := Proofs.Try.prog) w 48 48 ty 3 i (.int .i64 0) rowI.slice hi hz bs l.length cap olds h1 (.slice (some ad) 1 c) 1 [.int .i64 x] src h4 (by omega) (growslice_fits (by omega) (hbytes _ (by omega)))
    refine ⟨_, _, hr, .inr ⟨w.heap.size, 0, _, _, by simp, hbase, heap_alloc_new w.drew _, by simpa using grownCap_ge w (l.length + 1) cap 3, grownCap_le_maxLen w (l.length + 1) cap 3 (by simp [maxLen]; omega), ?_, fun k hk => ?_⟩, fun row => ⟨rfl, rfl, rfl, by simp, fun k hk _ => heap_alloc_old w.drew _ (by simpa using hk)⟩⟩
    · have hge := grownCap_ge w (l.length + 1) cap 3
      simp [size_zeroCells, h2, Value.cells]
      omega
    · simp at hk
      rw [Nat.zero_add, Array.getElem?_append_left (by simp [h2]; omega)]
      by_cases hkl : k < l.length
      · rw [gi_snoc_lt hkl]
        simp [List.getElem?_append_left, h2, hkl]
        have := h3 k hkl
        rw [List.getElem?_eq_getElem (by omega)] at this
        simpa using this
      · obtain rfl : k = l.length := by omega
        rw [gi_snoc_eq]
        simp [h2]
  rcases h with ⟨rfl, rfl⟩ | ⟨g, o, cap, cur, rfl, hbg, hg, hc, hm, hsz, hcur⟩
  · obtain ⟨c', w', r1, r2, r3⟩ := grow none 0 [] (run_firstCells_none _ _ _ _ _) rfl (fun k hk => by simp at hk) (by simp)
    exact ⟨_, _, c', w', r1, r2, r3 _, .inr rfl⟩
  · by_cases hroom : l.length + 1 ≤ cap
    · have hlt : o + l.length < cur.size := by omega
      obtain ⟨y, hy⟩ : ∃ y, cur[o + l.length]? = some y := ⟨cur[o + l.length], by simp [hlt]⟩
      have hr := run_append_room_src (P := Proofs.Try.prog) w 48 48 ty 3 i rowI.slice hi g o l.length cap (.slice (some ad) 1 c) 1 [.int .i64 x] src hroom
        (fun j hj => by
          obtain rfl : j = 0 := by simpa using hj
          rw [hs, hg.cell (c := y) (by rw [nth_eq]; simpa using hy)]; rfl)
        (fun j hj => hg.frozen)
      refine ⟨g, o, cap, _, hr, .inr ⟨g, o, cap, _, by simp, hbg, Box.setCells [.int .i64 x] cur (o + l.length * i.size) w hg, by simpa using hroom, hm, ?_, fun k hk => ?_⟩, ?_, .inl rfl⟩
      · simpa [splice] using hsz
      · simp at hk
        rw [hs, Nat.mul_one, splice_get _ _ _ _ (by simp; omega)]
        by_cases hkl : k < l.length
        · rw [if_neg (by omega), gi_snoc_lt hkl]; exact hcur k hkl
        · obtain rfl : k = l.length := by omega
          rw [if_pos (by simp), gi_snoc_eq]; simp
      · have hkp : Keep (fun b => b = g) w (w.setCells g (o + l.length * i.size) [.int .i64 x]) := Keep.s (Keep.refl _ _) rfl
        exact ⟨rfl, rfl, rfl, hkp.1, fun k hk hne => hkp.2 k hk (fun e => hne (by rw [e]; rfl))⟩
    · obtain ⟨c', w', r1, r2, r3⟩ := grow (some ⟨g, o, none⟩) cap ((List.range l.length).map fun k => .int .i64 (gi l k)) (run_firstCells_some (P := Proofs.Try.prog) w.drew i.size l.length ⟨g, o, none⟩ l.length cap _ (by simp [hs]) (fun j u hj => by
          have hjl := list_lt hj
          simp at hjl
          have e : u = .int .i64 (gi l j) := by simp [hjl] at hj; exact hj.symm
          subst e
          have : w.cell? ⟨g, o + j, none⟩ = some (.int .i64 (gi l j)) := hg.cell (by rw [nth_eq]; simpa using hcur j hjl)
          by_cases h0 : j = 0
          · subst h0; simpa [Addr.add] using this
          · simpa [Addr.add, h0] using this)) (by simp) (fun k hk => by simp [hk]) (by omega)
      exact ⟨_, _, c', w', r1, r2, r3 _, .inr rfl⟩
set_option maxRecDepth 100000 in
/-- append of one number as one step of a region that draws its order (go_region_law) -/
theorem step_append_at {ops : Array Oper} {o : Oper} {a : Act} {w : World} {K : Act → World → Prop} {Q : Exit → Act → World → Prop} {E : Prop}
    (hg : o.guard = none) (s x : Operand) (hop : o.op = Op.call { callee := Callee.builtin Builtin.append, args := #[s, x], argTypes := #[48, 48] }) (base : Nat) (v : Value) (l : List Int) (ad : Addr) (c : Nat) (n : Int) (hs : a.eval s = v) (hx : a.eval x = .slice (some ad) 1 c)
    (h : OwnAt base w v l) (hn : w.cell? ad = some (.int .i64 n)) (hl : l.length ≤ 100000) (hbase : base ≤ w.heap.size)
    (hK : ∀ g off c' w', OwnAt base w' (.slice (some ⟨g, off, none⟩) (l.length + 1) c') (l ++ [n]) → w.grownBy w' v.ownBlock → (v.ownBlock = some g ∨ g = w.heap.size) → K (a.put o.dst (.slice (some ⟨g, off, none⟩) (l.length + 1) c')) w') :
    if Region.wanted o (yielded ops a.tmps) = true then Oper.wp Proofs.Try.prog o a w K Q else E := by
  have hw : Region.wanted o (yielded ops a.tmps) = true := by simp [Region.wanted, hg]
  rw [if_pos hw]
  obtain ⟨g, off, c', w', hrun, r1, r2, r3⟩ := run_append_at (ty := o.type) h hn hl hbase
  unfold Oper.wp execOp
  simp only [hop, resolve, invoke, builtin, Sem.run_bind, Sem.run_pure, Result.andThen_ok, List.map_toArray, List.map_cons, List.map_nil, hs, hx]
  erw [hrun]
  exact hK _ _ _ _ r1 r2 r3
end Go.Proofs.Ytcfbdfgondmkoaa
/- A slice of slices of integers, each row of the call's own. -/
namespace Go.Proofs.Ytcfbdfgondmkoaa
open Go Go.RowKit
set_option linter.unusedSimpArgs false
set_option linter.unusedVariables false
set_option linter.unnecessarySimpa false

theorem OwnAt.base {base : Nat} {w : World} {v : Value} {l : List Int} (h : OwnAt base w v l) : ∀ b, v.ownBlock = some b → base ≤ b ∧ b < w.heap.size := by
  rcases h with ⟨rfl, rfl⟩ | ⟨g, o, cap, cur, rfl, hb, hg, hc, hm, hs, hx⟩
  · intro b hb; cases hb
  · intro b hb'; cases hb'; exact ⟨hb, hg.lt⟩
theorem OwnAt.ext {base : Nat} {w w' : World} {v : Value} {l : List Int} (h : OwnAt base w v l) (k : Ext w w') : OwnAt base w' v l := h.keep (N := no) k.keep (fun _ _ h => h)
def NR (T RB : Nat) (vs : Array Value) (b : Nat) : Prop := b = T ∨ b = RB ∨ ∃ (i : Nat) (v : Value), vs[i]? = some v ∧ v.ownBlock = some b
structure IsRows (base RB : Nat) (w : World) (vs : Array Value) (own : List (List Int)) : Prop where
  box : Box w RB vs 48
  size : vs.size = own.length
  row : ∀ (i : Nat) l, own[i]? = some l → ∃ v, vs[i]? = some v ∧ OwnAt base w v l
  apart : ∀ (i j : Nat) vi vj b, i ≠ j → vs[i]? = some vi → vs[j]? = some vj → vi.ownBlock = some b → vj.ownBlock ≠ some b
  rb : RB < base
section
variable {base RB T : Nat} {w w' : World} {vs : Array Value} {own : List (List Int)}
theorem IsRows.keep (h : IsRows base RB w vs own) {N : Nat → Prop} (k : Keep N w w') (hn : ¬ N RB) (hb : ∀ b, base ≤ b → ¬ N b) : IsRows base RB w' vs own where
  box := h.box.keep k hn
  size := h.size
  row := fun i l hi => by obtain ⟨v, h1, h2⟩ := h.row i l hi; exact ⟨v, h1, h2.keep k fun b hv => hb b (h2.base b hv).1⟩
  apart := h.apart
  rb := h.rb
theorem IsRows.ext (h : IsRows base RB w vs own) (k : Ext w w') : IsRows base RB w' vs own := h.keep (N := no) k.keep (fun h => h) (fun _ _ h => h)
theorem IsRows.at (h : IsRows base RB w vs own) {i : Nat} {v : Value} (hv : vs[i]? = some v) : ∃ l, own[i]? = some l ∧ OwnAt base w v l := by
  have hi : i < own.length := by rw [← h.size]; exact (Array.getElem?_eq_some_iff.1 hv).1
  obtain ⟨v', h1, h2⟩ := h.row i own[i] (List.getElem?_eq_getElem hi)
  rw [hv] at h1
  cases h1
  exact ⟨_, List.getElem?_eq_getElem hi, h2⟩
/-- no block of the rows is none's -/
theorem IsRows.lt (h : IsRows base RB w vs own) (hT : T < w.heap.size) : ∀ b, NR T RB vs b → b < w.heap.size := by
  rintro b (rfl | rfl | ⟨i, v, hv, hb⟩)
  · exact hT
  · exact h.box.lt
  · obtain ⟨l, _, h2⟩ := h.at hv
    exact (h2.base b hb).2
variable {i : Nat} {v v' : Value} {l l' : List Int}
/-- a row is another one: it stands where it stood, or in a block that is new -/
theorem IsRows.turn (h : IsRows base RB w vs own) (hv : vs[i]? = some v) (hg : w.grownBy w' v.ownBlock) (hv' : OwnAt base w' v' l') (hb : ∀ b, v'.ownBlock = some b → v.ownBlock = some b ∨ w.heap.size ≤ b) :
    IsRows base RB (w'.setCell ⟨RB, i, none⟩ v') (vs.setIfInBounds i v') (own.set i l') := by
  obtain ⟨l, hl, hO⟩ := h.at hv
  have hi : i < vs.size := (Array.getElem?_eq_some_iff.1 hv).1
  have kg : Keep (fun b => v.ownBlock = some b) w w' := grown_keep hg fun k e => e
  have ks : Keep (fun b => b = RB) w' (w'.setCell ⟨RB, i, none⟩ v') := (Keep.refl _ _).s rfl
  have hrb : v.ownBlock ≠ some RB := fun e => by have := (hO.base _ e).1; have := h.rb; omega
  have hget : ∀ (j : Nat) u, (vs.setIfInBounds i v')[j]? = some u → j = i ∧ u = v' ∨ j ≠ i ∧ vs[j]? = some u := by
    intro j u hu
    rw [Array.getElem?_setIfInBounds] at hu
    by_cases hij : i = j
    · rw [if_pos hij] at hu
      simp [← hij, hi] at hu
      exact .inl ⟨hij.symm, hu.symm⟩
    · rw [if_neg hij] at hu
      exact .inr ⟨fun e => hij e.symm, hu⟩
  have hfar : ∀ (j : Nat) u b, j ≠ i → vs[j]? = some u → u.ownBlock = some b → v'.ownBlock ≠ some b := by
    intro j u b hj hu hub hvb
    rcases hb b hvb with h1 | h1
    · exact h.apart i j v u b (Ne.symm hj) hv hu h1 hub
    · obtain ⟨_, _, hO2⟩ := h.at hu
      have := (hO2.base b hub).2
      omega
  refine ⟨(h.box.keep kg hrb).setCell v', by simp [h.size], fun j m hm => ?_, fun j1 j2 u1 u2 b hj h1 h2 hb1 hb2 => ?_, h.rb⟩
  · by_cases hji : j = i
    · subst hji
      have hj2 : j < own.length := by rw [← h.size]; exact hi
      rw [List.getElem?_set_self hj2] at hm
      cases hm
      refine ⟨v', by simp [hi], hv'.keep ks fun b hb1 e => ?_⟩
      have := (hv'.base b hb1).1
      have := h.rb
      omega
    · rw [List.getElem?_set_ne (Ne.symm hji)] at hm
      obtain ⟨u, hu, hOu⟩ := h.row j m hm
      refine ⟨u, by rw [Array.getElem?_setIfInBounds, if_neg (Ne.symm hji)]; exact hu, (hOu.keep kg fun b hb1 e => ?_).keep ks fun b hb1 e => ?_⟩
      · exact h.apart i j v u b (Ne.symm hji) hv hu e hb1
      · have := (hOu.base b hb1).1
        have := h.rb
        omega
  · rcases hget j1 u1 h1 with ⟨e1, rfl⟩ | ⟨e1, h1'⟩ <;> rcases hget j2 u2 h2 with ⟨e2, rfl⟩ | ⟨e2, h2'⟩
    · omega
    · exact hfar j2 u2 b e2 h2' hb2 hb1
    · exact hfar j1 u1 b e1 h1' hb1 hb2
    · exact h.apart j1 j2 u1 u2 b hj h1' h2' hb1 hb2
theorem IsRows.turnKeep (h : IsRows base RB w vs own) (hv : vs[i]? = some v) (hg : w.grownBy w' v.ownBlock) : Keep (NR T RB vs) w (w'.setCell ⟨RB, i, none⟩ v') :=
  (grown_keep hg fun k e => .inr (.inr ⟨i, v, hv, e⟩) : Keep (NR T RB vs) w w').s (.inr (.inl rfl))
theorem IsRows.turnLess (hv : vs[i]? = some v) (hb : ∀ b, v'.ownBlock = some b → v.ownBlock = some b ∨ w.heap.size ≤ b) : ∀ b, b < w.heap.size → NR T RB (vs.setIfInBounds i v') b → NR T RB vs b := by
  rintro b hbw (h | h | ⟨j, u, hu, hub⟩)
  · exact .inl h
  · exact .inr (.inl h)
  · rw [Array.getElem?_setIfInBounds] at hu
    by_cases hij : i = j
    · rw [if_pos hij] at hu
      split at hu
      · cases hu
        rcases hb b hub with h1 | h1
        · exact .inr (.inr ⟨i, v, hv, h1⟩)
        · omega
      · cases hu
    · rw [if_neg hij] at hu
      exact .inr (.inr ⟨j, u, hu, hub⟩)
end
end Go.Proofs.Ytcfbdfgondmkoaa
/- A slice of slices, made. -/
namespace Go.Proofs.Ytcfbdfgondmkoaa
open Go Go.RowKit
set_option linter.unusedSimpArgs false
set_option linter.unusedVariables false
set_option linter.unnecessarySimpa false

def nils (n : Nat) : Array Value := madeCells (Value.slice none 0 0).cells (n * 1)
theorem nils_size (n : Nat) : (nils n).size = n := by simp [nils, madeCells]
theorem nils_get {n i : Nat} (h : i < n) : (nils n)[i]? = some (.slice none 0 0) := by
  simp [nils, madeCells, h, Value.cells, Nat.mod_one]
@[go_sem] theorem run_mk136 (n : Nat) (h : n ≤ 100000) (w : World) : (Instr.makeSlice 136 (.int .i64 n) (.int .i64 n)).run Proofs.Try.prog w = .ok (.slice (some ⟨w.heap.size, 0, none⟩) n n) (w.alloc (.cells (nils n) 48)) := by
  cases hi : Proofs.Try.prog.info? 48 with
  | none => exact absurd (show (Proofs.Try.prog.info? 48).isSome = true by kernel_rfl) (by rw [hi]; simp)
  | some i =>
    have hz : i.zero = some (.slice none 0 0) := by
      have : (Proofs.Try.prog.info? 48).bind (·.zero) = some (.slice none 0 0) := by kernel_rfl
      rw [hi] at this; exact this
    have hs : i.size = 1 := by
      have : (Proofs.Try.prog.info? 48).map (·.size) = some 1 := by kernel_rfl
      rw [hi] at this; simpa using this
    have hb : i.bytes ≤ 1000 := by
      have : (Proofs.Try.prog.info? 48).map (fun i => decide (i.bytes ≤ 1000)) = some true := by kernel_rfl
      rw [hi] at this; simpa using this
    have hbn : (i.bytes : Int) * n ≤ 281474976710656 := by
      have h1 : i.bytes * n ≤ 100000000 := Nat.mul_le_mul hb h
      have h2 := Int.ofNat_le.2 h1
      rw [Int.natCast_mul] at h2
      exact Int.le_trans h2 (by decide)
    have := run_make (P := Proofs.Try.prog) w 136 48 i _ Proofs.Try.underlying136 hi hz .i64 .i64 n n (by omega) (Int.le_refl _) hbn (by omega)
    rw [hs] at this
    simpa [nils] using this
theorem IsRows.made {base RB n : Nat} {w : World} (hB : Box w RB (nils n) 48) (hb : RB < base) : IsRows base RB w (nils n) (List.replicate n []) where
  box := hB
  size := by simp [nils_size]
  row := fun i l hi => by
    have hin := list_lt hi
    simp at hin
    rw [List.getElem?_replicate, if_pos hin] at hi
    cases hi
    exact ⟨_, nils_get hin, .inl ⟨rfl, rfl⟩⟩
  apart := fun i j vi vj b hij hi hj hb => by
    have hin : i < n := by have := (Array.getElem?_eq_some_iff.1 hi).1; rwa [nils_size] at this
    rw [nils_get hin] at hi
    cases hi
    cases hb
  rb := hb
end Go.Proofs.Ytcfbdfgondmkoaa
/- The stack's law, plain: what a step of a core does, where each core is at one op at most. -/
namespace Go.Proofs.Ytcfbdfgondmkoaa
open Go Go.RowKit
set_option linter.unusedSimpArgs false
set_option linter.unusedVariables false
set_option linter.unnecessarySimpa false

theorem word_idx (t i : Int) (_ : 0 ≤ i) (_ : i < 1048576) : idx (word t i 0) = i := by unfold idx word; omega
theorem word_tagI (t i : Int) (_ : 0 ≤ t) (_ : t < 1099511627776) : tagI (word t i 0) = t := by unfold tagI word; omega
def lk (p : Int) : Nat := (128 + 4 * (p - 1)).toNat
theorem gi_set_eq {l : List Int} {i : Nat} (v : Int) (h : i < l.length) : gi (l.set i v) i = v := by simp [gi, h]
theorem gi_set_ne {l : List Int} {i j : Nat} (v : Int) (h : i ≠ j) : gi (l.set i v) j = gi l j := by simp [gi, h]
theorem nodeD_link {n : Nat} {p : Int} (h : 1 ≤ p) : nodeD n (128 + 4 * (p - 1)) = 0 := by
  unfold nodeD
  rw [if_pos (by omega)]
theorem nodeD_0 (n : Nat) : nodeD n 0 = 0 := by unfold nodeD; rw [if_pos (by omega)]
/-- the cells that the list's steps touch: the head, and the nodes' links -/
def Cell (n : Nat) (x : Int) : Prop := x = 0 ∨ ∃ p : Int, 1 ≤ p ∧ p ≤ n ∧ x = 128 + 4 * (p - 1)
theorem Cell.link {n : Nat} {p : Int} (h : 1 ≤ p) (h' : p ≤ n) : Cell n (128 + 4 * (p - 1)) := .inr ⟨p, h, h', rfl⟩
theorem Cell.clean {n : Nat} {x : Int} {m : Arena} (h : Cell n x) (hW : m.W.length = 128 + 4 * n) (hb : m.bad = false) : outside m x = false ∧ badAt m x = false := by
  have h1 : outside m x = false := by
    rcases h with rfl | ⟨p, h3, h4, rfl⟩
    · simp [outside, hW]; omega
    · simp [outside, hW]; omega
  refine ⟨h1, ?_⟩
  have h2 : freeAt m x = false := by
    unfold freeAt
    rcases h with rfl | ⟨p, h3, h4, rfl⟩
    · rw [nodeD_0]; simp
    · rw [nodeD_link h3]; simp
  simp [badAt, hb, h1, h2]
theorem touch_clean {n : Nat} {x : Int} {m : Arena} (h : Cell n x) (hW : m.W.length = 128 + 4 * n) (hb : m.bad = false) : touchD m x = m := by
  unfold touchD
  rw [(h.clean hW hb).2, ← hb]
theorem load_clean {n : Nat} {x : Int} {m : Arena} (h : Cell n x) (hW : m.W.length = 128 + 4 * n) (hb : m.bad = false) : loadD m x = gi m.W x.toNat := by
  unfold loadD
  rw [(h.clean hW hb).1]; rfl
theorem store_clean {n : Nat} {x v : Int} {m : Arena} (h : Cell n x) (hW : m.W.length = 128 + 4 * n) (hb : m.bad = false) : storeD m x v = { m with W := m.W.set x.toNat v } := by
  unfold storeD
  rw [(h.clean hW hb).1, (h.clean hW hb).2]; simp [hb]
theorem casIs_0 {n : Nat} {m : Arena} (hW : m.W.length = 128 + 4 * n) (hb : m.bad = false) (old : Int) : casIs m 0 old = (gi m.W 0 == old) := by
  unfold casIs
  rw [(Cell.clean (n := n) (.inl rfl) hW hb).1]; rfl
theorem casD_yes {n : Nat} {m : Arena} (hW : m.W.length = 128 + 4 * n) (hb : m.bad = false) {old new : Int} (h : gi m.W 0 = old) : casD m 0 old new = { m with W := m.W.set 0 new } := by
  unfold casD
  rw [casIs_0 hW hb, h]
  simp only [BEq.rfl, if_true]
  exact store_clean (n := n) (.inl rfl) hW hb
theorem casD_no {n : Nat} {m : Arena} (hW : m.W.length = 128 + 4 * n) (hb : m.bad = false) {old new : Int} (h : gi m.W 0 ≠ old) : casD m 0 old new = m := by
  unfold casD
  rw [casIs_0 hW hb]
  have : (gi m.W 0 == old) = false := by simpa using h
  rw [this]
  exact touch_clean (n := n) (.inl rfl) hW hb

theorem sum_set {α : Type} (f : α → Nat) : ∀ (l : List α) (i : Nat) (x y : α), l[i]? = some y → ((l.set i x).map f).sum + f y = (l.map f).sum + f x
  | [], _, _, _, h => by cases h
  | a :: l, 0, x, y, h => by
    simp at h; subst h
    simp; omega
  | a :: l, i + 1, x, y, h => by
    have := sum_set f l i x y (by simpa using h)
    simp only [List.set_cons_succ, List.map_cons, List.sum_cons]; omega
theorem sum_at {α : Type} (f : α → Nat) : ∀ (l : List α) (i : Nat) (y : α), l[i]? = some y → f y ≤ (l.map f).sum
  | [], _, _, h => by cases h
  | a :: l, 0, y, h => by
    simp at h; subst h
    simp
  | a :: l, i + 1, y, h => by
    have := sum_at f l i y (by simpa using h)
    simp; omega
theorem sum_two {α : Type} (f : α → Nat) : ∀ (l : List α) (i j : Nat) (x y : α), i ≠ j → l[i]? = some x → l[j]? = some y → f x + f y ≤ (l.map f).sum
  | [], _, _, _, _, _, h, _ => by cases h
  | a :: l, 0, 0, _, _, h, _, _ => by cases h rfl
  | a :: l, 0, j + 1, x, y, _, h, h' => by
    simp at h; subst h
    have := sum_at f l j y (by simpa using h')
    simp; omega
  | a :: l, i + 1, 0, x, y, _, h, h' => by
    simp at h'; subst h'
    have := sum_at f l i x (by simpa using h)
    simp; omega
  | a :: l, i + 1, j + 1, x, y, hn, h, h' => by
    have := sum_two f l i j x y (by omega) (by simpa using h) (by simpa using h')
    simp; omega

/-- is a core at a push of this node? -/
def pushC (p : Int) (c : CoreD) : Nat := match c.F with
  | [f] => if f.op = 2 ∧ gi f.R 0 = p then 1 else 0
  | _ => 0
def held (p : Int) (own : List (List Int)) (cs : List CoreD) : Nat := (own.map (List.count p)).sum + (cs.map (pushC p)).sum
def PopOk (n T : Nat) (W : List Int) (f : FrameD) : Prop :=
  f.op = 1 ∧ (f.pc = 0 ∨ (f.pc = 1 ∨ f.pc = 2) ∧ tagI (gi f.R 0) ≤ T ∧ 1 ≤ idx (gi f.R 0) ∧ idx (gi f.R 0) ≤ n ∧ (f.pc = 2 → gi f.R 0 = gi W 0 → gi f.R 1 = gi W (lk (idx (gi f.R 0)))))
def PushOk (n T : Nat) (W : List Int) (f : FrameD) : Prop :=
  f.op = 2 ∧ 1 ≤ gi f.R 0 ∧ gi f.R 0 ≤ n ∧ (f.pc = 0 ∨ (f.pc = 1 ∨ f.pc = 2) ∧ tagI (gi f.R 1) ≤ T ∧ (f.pc = 2 → gi W (lk (gi f.R 0)) = idx (gi f.R 1)))
def FrOk (n T : Nat) (W : List Int) (f : FrameD) : Prop := f.R.length = 8 ∧ (PopOk n T W f ∨ PushOk n T W f)
def CoreOk (n T : Nat) (W : List Int) (c : CoreD) : Prop := c.F = [] ∨ ∃ f, c.F = [f] ∧ FrOk n T W f
/-- from a head, a list's nodes one behind the other -/
def Chain (n : Nat) (W : List Int) : Int → List Int → Prop
  | p, [] => p = 0
  | p, q :: l => p = q ∧ 1 ≤ q ∧ q ≤ n ∧ Chain n W (gi W (lk q)) l
theorem Chain.mem {n : Nat} {W : List Int} : ∀ {L : List Int} {p q : Int}, Chain n W p L → q ∈ L → 1 ≤ q ∧ q ≤ n
  | [], _, _, _, h => by cases h
  | r :: l, p, q, ⟨_, h1, h2, h3⟩, h => by
    rcases List.mem_cons.1 h with rfl | h
    · exact ⟨h1, h2⟩
    · exact Chain.mem h3 h
theorem Chain.keep {n : Nat} {W W' : List Int} : ∀ {L : List Int} {p : Int}, Chain n W p L → (∀ q, q ∈ L → gi W' (lk q) = gi W (lk q)) → Chain n W' p L
  | [], _, h, _ => h
  | r :: l, p, ⟨h0, h1, h2, h3⟩, h => ⟨h0, h1, h2, by rw [h r (by simp)]; exact h3.keep fun q hq => h q (by simp [hq])⟩
/-- what stands where cores pop and push -/
structure Inv (c n T : Nat) (s : SysD) (own : List (List Int)) (X L : List Int) : Prop where
  n1 : 1 ≤ n
  n2 : n ≤ 200
  lc : s.C.length = c
  lo : own.length = c
  lW : s.M.W.length = 128 + 4 * n
  lG : s.M.G.length = n + 1
  ok : s.M.bad = false
  tag : tagI (gi s.M.W 0) = T
  chain : Chain n s.M.W (idx (gi s.M.W 0)) L
  cores : ∀ (i : Nat) cc, s.C[i]? = some cc → CoreOk n T s.M.W cc
  all : ∀ p, L.count p + held p own s.C + X.count p = if 1 ≤ p ∧ p ≤ n then 1 else 0
  free : ∀ p : Int, 1 ≤ p → p ≤ n → gi s.M.G p.toNat = if p ∈ L then 0 else 1

theorem lk_pos (p : Int) (h : 1 ≤ p) : lk p ≠ 0 := by unfold lk; omega
theorem lk_inj {p q : Int} (hp : 1 ≤ p) (hq : 1 ≤ q) (h : lk p = lk q) : p = q := by unfold lk at h; omega
theorem link_lk {p : Int} (h : 1 ≤ p) (h' : p ≤ 200) : linkAt p = 128 + 4 * (p - 1) := linkAt_in (by omega) (by omega)
theorem top_at {s : SysD} {k : Nat} {cc : CoreD} (h : s.C[k]? = some cc) : topD s k = cc.F[cc.F.length - 1]? := by
  have hk : k < s.C.length := by
    rcases Nat.lt_or_ge k s.C.length with h' | h'
    · exact h'
    · rw [List.getElem?_eq_none h'] at h; cases h
  unfold topD hasD
  rw [if_pos (by simp; omega)]
  simp [h]
theorem do_at {s : SysD} {k : Nat} {cc : CoreD} {f : FrameD} (h : s.C[k]? = some cc) (hf : cc.F = [f]) (g : CoreD → CoreD) : doS s k g = { s with C := s.C.set k (g cc) } := by
  unfold doS
  rw [top_at h, hf]
  simp [h, withS]
theorem on_at {s : SysD} {k : Nat} {cc : CoreD} {f : FrameD} (h : s.C[k]? = some cc) (hf : cc.F = [f]) (m : Arena) (g : FrameD) (pc : Int) : onS s k m g pc = { M := m, C := s.C.set k { cc with F := [pcF g pc] }, L := s.L } := by
  unfold onS setS
  rw [do_at (s := memS s m) h hf]
  simp [memS, setC, hf]
theorem back_at {s : SysD} {k : Nat} {cc : CoreD} {f : FrameD} (h : s.C[k]? = some cc) (hf : cc.F = [f]) (v e : Int) : backS s k v e = { s with C := s.C.set k { cc with F := [], V := v, E := e } } := by
  unfold backS
  rw [do_at h hf]
  simp [backC, hf]
theorem backm_at {s : SysD} {k : Nat} {cc : CoreD} {f : FrameD} (h : s.C[k]? = some cc) (hf : cc.F = [f]) (m : Arena) (v e : Int) : backS (memS s m) k v e = { M := m, C := s.C.set k { cc with F := [], V := v, E := e }, L := s.L } :=
  back_at (s := memS s m) h hf v e
theorem call_at {s : SysD} {k : Nat} {cc : CoreD} (h : s.C[k]? = some cc) (hf : cc.F = []) (op : Int) (l : List Int) : callS s k op l = { s with C := s.C.set k { cc with F := [newF op l] } } := by
  have hk : k < s.C.length := by
    rcases Nat.lt_or_ge k s.C.length with h' | h'
    · exact h'
    · rw [List.getElem?_eq_none h'] at h; cases h
  unfold callS hasD
  rw [if_pos (by simp; omega)]
  simp [h, hf, withS, callC]
end Go.Proofs.Ytcfbdfgondmkoaa
/- The stack's law, plain: a step of a core keeps what stands. -/
namespace Go.Proofs.Ytcfbdfgondmkoaa
open Go Go.RowKit
set_option linter.unusedSimpArgs false
set_option linter.unusedVariables false
set_option linter.unnecessarySimpa false
set_option linter.unusedVariables false

theorem get_lt {α : Type} {l : List α} {k : Nat} {x : α} (h : l[k]? = some x) : k < l.length := by
  rcases Nat.lt_or_ge k l.length with h' | h'
  · exact h'
  · rw [List.getElem?_eq_none h'] at h; cases h
theorem set_get {α : Type} {l : List α} {k i : Nat} {x y : α} (hk : k < l.length) (h : (l.set k x)[i]? = some y) : i = k ∧ y = x ∨ i ≠ k ∧ l[i]? = some y := by
  rw [List.getElem?_set] at h
  by_cases hi : k = i
  · subst hi; rw [if_pos rfl, if_pos hk] at h; left; exact ⟨rfl, (by simpa using h.symm)⟩
  · rw [if_neg hi] at h; right; exact ⟨fun e => hi e.symm, h⟩
theorem held_set {p : Int} {own : List (List Int)} {cs : List CoreD} {k : Nat} {cc cc' : CoreD} (h : cs[k]? = some cc) : held p own (cs.set k cc') + pushC p cc = held p own cs + pushC p cc' := by
  have := sum_set (pushC p) cs k cc' cc h
  unfold held; omega
theorem pushC_one {p : Int} {c : CoreD} {f : FrameD} (h : c.F = [f]) : pushC p c = if f.op = 2 ∧ gi f.R 0 = p then 1 else 0 := by unfold pushC; rw [h]
theorem pushC_nil {p : Int} {c : CoreD} (h : c.F = []) : pushC p c = 0 := by unfold pushC; rw [h]

section
variable {c n T : Nat} {s : SysD} {own : List (List Int)} {X L : List Int} {k : Nat} {cc : CoreD} {f : FrameD}
theorem Inv.core (I : Inv c n T s own X L) (hk : s.C[k]? = some cc) {cc' : CoreD} (hok : CoreOk n T s.M.W cc') (hc : ∀ p, pushC p cc' = pushC p cc) (ll : List EvD) : Inv c n T { M := s.M, C := s.C.set k cc', L := ll } own X L where
  n1 := I.n1
  n2 := I.n2
  lc := by simpa using I.lc
  lo := I.lo
  lW := I.lW
  lG := I.lG
  ok := I.ok
  tag := I.tag
  chain := I.chain
  cores := fun i ci hi => by
    rcases set_get (get_lt hk) hi with ⟨_, rfl⟩ | ⟨_, h⟩
    · exact hok
    · exact I.cores i ci h
  all := fun p => by
    have h1 := held_set (p := p) (own := own) (cc' := cc') hk
    have h2 := I.all p
    rw [hc p] at h1
    show L.count p + held p own (s.C.set k cc') + X.count p = _
    rw [← h2]; omega
  free := I.free
theorem Inv.nodup (I : Inv c n T s own X L) (p : Int) : L.count p ≤ 1 := by
  have := I.all p
  split at this <;> omega
/-- the head, if there is one -/
theorem Inv.head (I : Inv c n T s own X L) (h : 1 ≤ idx (gi s.M.W 0)) : ∃ L', L = idx (gi s.M.W 0) :: L' := by
  have := I.chain
  cases L with
  | nil => exact absurd this (by unfold Chain; omega)
  | cons q l => exact ⟨l, by rw [this.1]⟩
theorem Inv.none (I : Inv c n T s own X L) (h : idx (gi s.M.W 0) = 0) : L = [] := by
  have := I.chain
  cases L with
  | nil => rfl
  | cons q l => obtain ⟨h1, h2, _⟩ := this; omega
theorem tag_lo (x : Int) : 0 ≤ tagI x := by unfold tagI; omega

theorem PopOk.grow {T' : Nat} {W W' : List Int} (h : PopOk n T W f) (hT : T ≤ T') (hW : (∀ q, 1 ≤ q → q = idx (gi W 0) → gi W' (lk q) = gi W (lk q)) ∧ gi W' 0 = gi W 0 ∨ tagI (gi W' 0) = T + 1) : PopOk n T' W' f := by
  obtain ⟨h0, h1⟩ := h
  refine ⟨h0, ?_⟩
  rcases h1 with h1 | ⟨h1, h2, h3, h4, h5⟩
  · exact .inl h1
  · refine .inr ⟨h1, by omega, h3, h4, fun hp he => ?_⟩
    rcases hW with ⟨ha, hb⟩ | ha
    · rw [hb] at he
      rw [h5 hp he, ha _ h3 (by rw [he])]
    · rw [he, ha] at h2; omega
theorem PushOk.grow {T' : Nat} {W W' : List Int} (h : PushOk n T W f) (hT : T ≤ T') (hW : gi W' (lk (gi f.R 0)) = gi W (lk (gi f.R 0))) : PushOk n T' W' f := by
  obtain ⟨h0, h1, h2, h3⟩ := h
  refine ⟨h0, h1, h2, ?_⟩
  rcases h3 with h3 | ⟨h3, h4, h5⟩
  · exact .inl h3
  · exact .inr ⟨h3, by omega, fun hp => by rw [hW, h5 hp]⟩

/-- what a step that ends nothing leaves -/
def Goes (s s' : SysD) (k : Nat) (f g : FrameD) : Prop :=
  g.op = f.op ∧ gi s'.M.W 0 = gi s.M.W 0 ∧ s'.L = s.L ∧
  (f.pc = 0 ∧ g.pc = 1 ∧ gi g.R (if f.op = 1 then 0 else 1) = gi s.M.W 0 ∨ f.pc = 1 ∧ g.pc = 2 ∧ gi g.R (if f.op = 1 then 0 else 1) = gi f.R (if f.op = 1 then 0 else 1) ∨ f.pc = 2 ∧ g.pc = 0 ∧ gi f.R (if f.op = 1 then 0 else 1) ≠ gi s.M.W 0)
def Stepped (c n T : Nat) (s s' : SysD) (own : List (List Int)) (L : List Int) (k : Nat) (f : FrameD) (cc' : CoreD) : Prop :=
  (∃ g, cc'.F = [g] ∧ Goes s s' k f g ∧ Inv c n T s' own [] L ∧ (f.op = 1 → f.pc = 0 → L ≠ [])) ∨
  (cc'.F = [] ∧ cc'.E = 0 ∧ f.op = 1 ∧ f.pc = 2 ∧ s'.L = s.L ∧ ∃ L', L = cc'.V :: L' ∧ Inv c n (T + 1) s' own [cc'.V] L') ∨
  (cc'.F = [] ∧ cc'.E = 0 ∧ f.op = 2 ∧ f.pc = 2 ∧ s'.L = s.L ∧ cc'.V = gi f.R 0 ∧ Inv c n (T + 1) s' own [] (gi f.R 0 :: L)) ∨
  (cc'.F = [] ∧ cc'.E = 2 ∧ f.op = 1 ∧ f.pc = 0 ∧ L = [] ∧ s'.L.length = s.L.length + 1 ∧ s'.M = s.M ∧ Inv c n T s' own [] [])

theorem gi_set8 {l : List Int} {i j : Nat} {v : Int} (hl : l.length = 8) (hi : i < 8) : gi (l.set i v) j = if i = j then v else gi l j := by
  by_cases h : i = j
  · subst h; rw [if_pos rfl]; exact gi_set_eq v (by omega)
  · rw [if_neg h]; exact gi_set_ne v h
theorem count_cons_self' (p : Int) (l : List Int) : (p :: l).count p = l.count p + 1 := by simp
theorem count_cons_if (p q : Int) (l : List Int) : (p :: l).count q = l.count q + if p = q then 1 else 0 := by
  by_cases h : p = q
  · subst h; simp
  · rw [if_neg h, List.count_cons_of_ne h]; rfl

theorem step_pop (I : Inv c n T s own [] L) (hk : s.C[k]? = some cc) (hf : cc.F = [f]) (hT : T < 1000000) (h8 : f.R.length = 8) (hp : PopOk n T s.M.W f) :
    ∃ cc', (popS s k f).C = s.C.set k cc' ∧ Stepped c n T s (popS s k f) own L k f cc' := by
  have hW := I.lW
  have hb := I.ok
  have n1 := I.n1
  have n2 := I.n2
  have hkl := get_lt hk
  obtain ⟨hop, hp⟩ := hp
  have c0 : Cell n 0 := .inl rfl
  have hpush : ∀ p, pushC p cc = 0 := fun p => by rw [pushC_one hf, if_neg (by omega)]
  have hnone : ∀ p (g : FrameD), g.op = 1 → ∀ cx : CoreD, cx.F = [g] → pushC p cx = 0 := fun p g hg cx hx => by rw [pushC_one hx, if_neg (by omega)]
  unfold popS
  rcases hp with h0 | ⟨h12, ht, hi1, hi2, hnext⟩
  · rw [if_pos h0, load_clean c0 hW hb, touch_clean c0 hW hb]
    rw [show (0 : Int).toNat = 0 from rfl]
    by_cases hz : idx (gi s.M.W 0) = 0
    · rw [if_pos hz]
      have hL := I.none hz
      have hh : hasD s (k : Int) = true := by simp [hasD]; omega
      have hlog : logD (memS s s.M) k 9 0 0 0 = { s with L := s.L ++ [⟨(k : Int), 9, 0, 0, 0⟩] } := by
        unfold logD
        rw [show hasD (memS s s.M) (k : Int) = true from hh]
        rfl
      rw [hlog, back_at (s := { s with L := s.L ++ [⟨(k : Int), 9, 0, 0, 0⟩] }) hk hf]
      refine ⟨_, rfl, .inr (.inr (.inr ⟨rfl, rfl, hop, h0, hL, by simp, rfl, ?_⟩))⟩
      subst hL
      exact I.core hk (.inl rfl) (fun p => by rw [pushC_nil rfl, hpush]) _
    · rw [if_neg hz, on_at hk hf]
      refine ⟨_, rfl, .inl ⟨_, rfl, ⟨rfl, rfl, rfl, .inl ⟨h0, rfl, ?_⟩⟩, ?_, fun _ _ e => ?_⟩⟩
      · rw [if_pos hop]; show gi (f.R.set 0 _) 0 = _; rw [gi_set8 h8 (by decide)]; rfl
      · refine I.core hk (.inr ⟨_, rfl, ?_, .inl ⟨by exact hop, .inr ?_⟩⟩) (fun p => ?_) _
        · simpa [pcF, regF] using h8
        · refine ⟨.inl ?_, ?_, ?_, ?_, ?_⟩
          · rfl
          · show tagI (gi (f.R.set 0 _) 0) ≤ _; rw [gi_set8 h8 (by decide), if_pos rfl, I.tag]; omega
          · show 1 ≤ idx (gi (f.R.set 0 _) 0); rw [gi_set8 h8 (by decide), if_pos rfl]; have := idx_lo (gi s.M.W 0); omega
          · show idx (gi (f.R.set 0 _) 0) ≤ _
            rw [gi_set8 h8 (by decide), if_pos rfl]
            obtain ⟨L', hL'⟩ := I.head (by have := idx_lo (gi s.M.W 0); omega)
            exact (I.chain.mem (q := idx (gi s.M.W 0)) (by rw [hL']; simp)).2
          · intro h; exact absurd (show (1 : Int) = 2 from h) (by decide)
        · rw [hnone p _ (by exact hop) _ rfl, hpush]
      · have := I.chain
        rw [e] at this
        exact hz this
  · have hlk : linkAt (idx (gi f.R 0)) = 128 + 4 * (idx (gi f.R 0) - 1) := link_lk hi1 (by omega)
    have c1 : Cell n (linkAt (idx (gi f.R 0))) := by rw [hlk]; exact Cell.link hi1 hi2
    rcases h12 with h1 | h2
    · rw [if_neg (by omega), if_pos h1, load_clean c1 hW hb, touch_clean c1 hW hb, on_at hk hf]
      have hn : (linkAt (idx (gi f.R 0))).toNat = lk (idx (gi f.R 0)) := by rw [hlk]; rfl
      rw [hn]
      refine ⟨_, rfl, .inl ⟨_, rfl, ⟨rfl, rfl, rfl, .inr (.inl ⟨h1, rfl, ?_⟩)⟩, ?_, fun _ e => by omega⟩⟩
      · rw [if_pos hop]; show gi (f.R.set 1 _) 0 = _; rw [gi_set8 h8 (by decide)]; rfl
      · refine I.core hk (.inr ⟨_, rfl, ?_, .inl ⟨by exact hop, .inr ?_⟩⟩) (fun p => ?_) _
        · simpa [pcF, regF] using h8
        · refine ⟨.inr ?_, ?_, ?_, ?_, fun _ _ => ?_⟩
          · rfl
          · show tagI (gi (f.R.set 1 _) 0) ≤ _; rw [gi_set8 h8 (by decide)]; exact ht
          · show 1 ≤ idx (gi (f.R.set 1 _) 0); rw [gi_set8 h8 (by decide)]; exact hi1
          · show idx (gi (f.R.set 1 _) 0) ≤ _; rw [gi_set8 h8 (by decide)]; exact hi2
          · show gi (f.R.set 1 _) 1 = gi s.M.W (lk (idx (gi (f.R.set 1 _) 0)))
            rw [gi_set8 h8 (by decide), gi_set8 h8 (by decide)]; rfl
        · rw [hnone p _ (by exact hop) _ rfl, hpush]
    · rw [if_neg (by omega), if_neg (by omega), if_pos h2, casIs_0 hW hb]
      by_cases heq : gi s.M.W 0 = gi f.R 0
      · have hbeq : (gi s.M.W 0 == gi f.R 0) = true := by rw [heq]; exact BEq.rfl
        rw [if_pos hbeq, casD_yes hW hb heq]
        have hh : idx (gi s.M.W 0) = idx (gi f.R 0) := by rw [heq]
        obtain ⟨L', hL'⟩ := I.head (by rw [hh]; exact hi1)
        rw [hh] at hL'
        have hch := I.chain
        rw [hL'] at hch
        obtain ⟨_, _, _, hch⟩ := hch
        have hnx := hnext h2 heq.symm
        have hm : gi s.M.G (idx (gi f.R 0)).toNat = 0 := by rw [I.free _ hi1 hi2, if_pos (by rw [hL']; simp)]
        have hturn : turnMD { s.M with W := s.M.W.set 0 (nextW (gi f.R 0) (gi f.R 1) 0) } (idx (gi f.R 0)) 1 = { W := s.M.W.set 0 (nextW (gi f.R 0) (gi f.R 1) 0), G := s.M.G.set (idx (gi f.R 0)).toNat 1, bad := s.M.bad } := by
          have : turnIs { s.M with W := s.M.W.set 0 (nextW (gi f.R 0) (gi f.R 1) 0) } (idx (gi f.R 0)) 1 = true := by
            unfold turnIs
            show (decide (1 ≤ idx (gi f.R 0) ∧ idx (gi f.R 0) < s.M.G.length) && turnD (gi s.M.G (idx (gi f.R 0)).toNat) 1) = true
            rw [hm, I.lG]
            simp [turnD, pairEq]; omega
          unfold turnMD
          rw [if_pos this]
        rw [hturn, backm_at hk hf]
        have hnlo : 0 ≤ gi f.R 1 ∧ gi f.R 1 < 1048576 := by
          rw [hnx]
          cases L' with
          | nil => have : gi s.M.W (lk (idx (gi f.R 0))) = 0 := hch; omega
          | cons q l => obtain ⟨e, q1, q2, _⟩ := hch; omega
        have htl := tag_lo (gi f.R 0)
        have hW0 : gi (s.M.W.set 0 (nextW (gi f.R 0) (gi f.R 1) 0)) 0 = nextW (gi f.R 0) (gi f.R 1) 0 := gi_set_eq _ (by omega)
        have htag : tagI (nextW (gi f.R 0) (gi f.R 1) 0) = T + 1 := by
          show tagI (word (tagI (gi f.R 0) + 1) _ 0) = _
          have e : tagI (gi f.R 0) = T := by rw [← heq, I.tag]
          rw [word_tagI _ _ (by omega) (by omega)]; omega
        have hidx : idx (nextW (gi f.R 0) (gi f.R 1) 0) = gi f.R 1 := word_idx _ _ hnlo.1 hnlo.2
        have hlks : ∀ q, 1 ≤ q → gi (s.M.W.set 0 (nextW (gi f.R 0) (gi f.R 1) 0)) (lk q) = gi s.M.W (lk q) := fun q hq => gi_set_ne _ (Ne.symm (lk_pos q hq))
        refine ⟨_, rfl, .inr (.inl ⟨rfl, rfl, hop, h2, rfl, L', hL', ?_⟩)⟩
        exact {
          n1 := n1, n2 := n2, lc := by simpa [memS] using I.lc, lo := I.lo
          lW := by simpa [memS] using hW
          lG := by simpa [memS] using I.lG
          ok := hb
          tag := by show tagI (gi (s.M.W.set 0 _) 0) = _; rw [hW0, htag]; rfl
          chain := by
            show Chain n (s.M.W.set 0 _) (idx (gi (s.M.W.set 0 _) 0)) L'
            rw [hW0, hidx]
            have e := hch.keep fun q hq => hlks q (hch.mem hq).1
            rw [← hnx] at e
            exact e
          cores := fun i ci hi => by
            rcases set_get hkl hi with ⟨_, rfl⟩ | ⟨_, h⟩
            · exact .inl rfl
            · rcases I.cores i ci h with h | ⟨g, hg, g8, hg'⟩
              · exact .inl h
              · refine .inr ⟨g, hg, g8, hg'.elim (fun h => .inl (h.grow (Nat.le_succ _) (.inr (by show tagI (gi (s.M.W.set 0 _) 0) = _; rw [hW0, htag])))) (fun h => .inr (h.grow (Nat.le_succ _) (hlks _ h.2.1)))⟩
          all := fun p => by
            have h1 := held_set (p := p) (own := own) (cc' := { cc with F := [], V := idx (gi f.R 0), E := 0 }) hk
            rw [hpush, pushC_nil rfl] at h1
            have h2 := I.all p
            rw [hL', count_cons_if] at h2
            show L'.count p + held p own (s.C.set k _) + List.count p [idx (gi f.R 0)] = _
            rw [count_cons_if, ← h2]
            simp at h1 ⊢
            omega
          free := fun p hp1 hp2 => by
            show gi (s.M.G.set (idx (gi f.R 0)).toNat 1) p.toNat = _
            have hn := I.nodup (idx (gi f.R 0))
            rw [hL', count_cons_if, if_pos rfl] at hn
            by_cases he : idx (gi f.R 0) = p
            · rw [he, gi_set_eq _ (by rw [I.lG]; omega), if_neg]
              rw [← he]
              exact List.count_eq_zero.1 (by omega)
            · rw [gi_set_ne _ (by omega), I.free p hp1 hp2, hL']
              simp [Ne.symm he] }
      · have hbeq : (gi s.M.W 0 == gi f.R 0) = false := by simpa using heq
        rw [if_neg (by rw [hbeq]; decide), casD_no hW hb heq, on_at hk hf]
        refine ⟨_, rfl, .inl ⟨_, rfl, ⟨rfl, rfl, rfl, .inr (.inr ⟨h2, rfl, by rw [if_pos hop]; exact Ne.symm heq⟩)⟩, ?_, fun _ e => by omega⟩⟩
        refine I.core hk (.inr ⟨_, rfl, by exact h8, .inl ⟨by exact hop, .inl ?_⟩⟩) (fun p => ?_) _
        · rfl
        · rw [hnone p _ (by exact hop) _ rfl, hpush]
theorem step_push (I : Inv c n T s own [] L) (hk : s.C[k]? = some cc) (hf : cc.F = [f]) (hT : T < 1000000) (h8 : f.R.length = 8) (hp : PushOk n T s.M.W f) :
    ∃ cc', (pushS s k f).C = s.C.set k cc' ∧ Stepped c n T s (pushS s k f) own L k f cc' := by
  have hW := I.lW
  have hb := I.ok
  have n1 := I.n1
  have n2 := I.n2
  have hkl := get_lt hk
  obtain ⟨hop, hp1, hp2, hp⟩ := hp
  have c0 : Cell n 0 := .inl rfl
  have hpush : ∀ p, pushC p cc = if gi f.R 0 = p then 1 else 0 := fun p => by rw [pushC_one hf]; simp [hop]
  have hsome : ∀ p (g : FrameD), g.op = 2 → ∀ cx : CoreD, cx.F = [g] → pushC p cx = if gi g.R 0 = p then 1 else 0 := fun p g hg cx hx => by rw [pushC_one hx]; simp [hg]
  have hop1 : ¬ f.op = 1 := by omega
  have hheld : 1 ≤ held (gi f.R 0) own s.C := by
    have := sum_at (pushC (gi f.R 0)) s.C k cc hk
    rw [hpush, if_pos rfl] at this
    unfold held; omega
  have hnotin : gi f.R 0 ∉ L := by
    have := I.all (gi f.R 0)
    rw [if_pos ⟨hp1, hp2⟩] at this
    exact List.count_eq_zero.1 (by omega)
  unfold pushS
  rcases hp with h0 | ⟨h12, ht, hnext⟩
  · rw [if_pos h0, load_clean c0 hW hb, touch_clean c0 hW hb]
    rw [show (0 : Int).toNat = 0 from rfl]
    rw [on_at hk hf]
    refine ⟨_, rfl, .inl ⟨_, rfl, ⟨rfl, rfl, rfl, .inl ⟨h0, rfl, ?_⟩⟩, ?_, fun e _ => by omega⟩⟩
    · rw [if_neg hop1]; show gi (f.R.set 1 _) 1 = _; rw [gi_set8 h8 (by decide)]; rfl
    · refine I.core hk (.inr ⟨_, rfl, ?_, .inr ⟨by exact hop, ?_, ?_, .inr ⟨.inl ?_, ?_, ?_⟩⟩⟩) (fun p => ?_) _
      · simpa [pcF, regF] using h8
      · show 1 ≤ gi (f.R.set 1 _) 0; rw [gi_set8 h8 (by decide)]; exact hp1
      · show gi (f.R.set 1 _) 0 ≤ _; rw [gi_set8 h8 (by decide)]; exact hp2
      · rfl
      · show tagI (gi (f.R.set 1 _) 1) ≤ _; rw [gi_set8 h8 (by decide), if_pos rfl, I.tag]; omega
      · intro h; exact absurd (show (1 : Int) = 2 from h) (by decide)
      · rw [hsome p _ (by exact hop) _ rfl, hpush]
        show (if gi (f.R.set 1 _) 0 = p then 1 else 0) = _
        rw [gi_set8 h8 (by decide)]; rfl
  · have hlk : linkAt (gi f.R 0) = 128 + 4 * (gi f.R 0 - 1) := link_lk hp1 (by omega)
    have c1 : Cell n (linkAt (gi f.R 0)) := by rw [hlk]; exact Cell.link hp1 hp2
    rcases h12 with h1 | h2
    · rw [if_neg (by omega), if_pos h1, store_clean c1 hW hb]
      have hn : (linkAt (gi f.R 0)).toNat = lk (gi f.R 0) := by rw [hlk]; rfl
      rw [hn, on_at hk hf]
      have hW0 : gi (s.M.W.set (lk (gi f.R 0)) (idx (gi f.R 1))) 0 = gi s.M.W 0 := gi_set_ne _ (lk_pos _ hp1)
      have hlt : lk (gi f.R 0) < s.M.W.length := by unfold lk; omega
      refine ⟨_, rfl, .inl ⟨_, rfl, ⟨rfl, hW0, rfl, .inr (.inl ⟨h1, rfl, ?_⟩)⟩, ?_, fun e _ => by omega⟩⟩
      · rw [if_neg hop1]; rfl
      · exact {
          n1 := n1, n2 := n2, lc := by simpa using I.lc, lo := I.lo
          lW := by simpa using hW
          lG := I.lG
          ok := hb
          tag := by show tagI (gi (s.M.W.set _ _) 0) = _; rw [hW0, I.tag]
          chain := by
            show Chain n (s.M.W.set _ _) (idx (gi (s.M.W.set _ _) 0)) L
            rw [hW0]
            exact I.chain.keep fun q hq => gi_set_ne _ fun e => hnotin (by rw [lk_inj hp1 (I.chain.mem hq).1 e]; exact hq)
          cores := fun i ci hi => by
            rcases set_get hkl hi with ⟨_, rfl⟩ | ⟨hne, h⟩
            · refine .inr ⟨_, rfl, by exact h8, .inr ⟨by exact hop, by exact hp1, by exact hp2, .inr ⟨.inr rfl, by exact ht, fun _ => ?_⟩⟩⟩
              exact gi_set_eq _ hlt
            · rcases I.cores i ci h with h | ⟨g, hg, g8, hg'⟩
              · exact .inl h
              · refine .inr ⟨g, hg, g8, hg'.elim (fun h => .inl (h.grow (Nat.le_refl _) (.inl ⟨fun q hq e => ?_, hW0⟩))) (fun h' => .inr (h'.grow (Nat.le_refl _) ?_))⟩
                · refine gi_set_ne _ fun e' => hnotin ?_
                  rw [lk_inj hp1 hq e', e]
                  obtain ⟨L', hL'⟩ := I.head (by omega)
                  rw [hL']; simp
                · refine gi_set_ne _ fun e' => ?_
                  have e2 := lk_inj hp1 h'.2.1 e'
                  have := sum_two (pushC (gi f.R 0)) s.C i k ci cc hne h hk
                  rw [pushC_one hg, hpush, if_pos rfl, if_pos ⟨h'.1, e2.symm⟩] at this
                  have h3 := I.all (gi f.R 0)
                  rw [if_pos ⟨hp1, hp2⟩] at h3
                  unfold held at h3; omega
          all := fun p => by
            have h1 := held_set (p := p) (own := own) (cc' := { cc with F := [pcF f 2] }) hk
            rw [hpush, hsome p (pcF f 2) hop _ rfl] at h1
            have h2 := I.all p
            show L.count p + held p own (s.C.set k _) + List.count p [] = _
            rw [← h2]
            have e : (if gi (pcF f 2).R 0 = p then 1 else 0) = if gi f.R 0 = p then 1 else 0 := rfl
            rw [e] at h1
            omega
          free := I.free }
    · rw [if_neg (by omega), if_neg (by omega), if_pos h2, casIs_0 hW hb]
      by_cases heq : gi s.M.W 0 = gi f.R 1
      · have hbeq : (gi s.M.W 0 == gi f.R 1) = true := by rw [heq]; exact BEq.rfl
        rw [if_pos hbeq, casD_yes hW hb heq]
        have hnx := hnext h2
        have hm : gi s.M.G (gi f.R 0).toNat = 1 := by rw [I.free _ hp1 hp2, if_neg hnotin]
        have hturn : turnMD { s.M with W := s.M.W.set 0 (nextW (gi f.R 1) (gi f.R 0) 0) } (gi f.R 0) 0 = { W := s.M.W.set 0 (nextW (gi f.R 1) (gi f.R 0) 0), G := s.M.G.set (gi f.R 0).toNat 0, bad := s.M.bad } := by
          have : turnIs { s.M with W := s.M.W.set 0 (nextW (gi f.R 1) (gi f.R 0) 0) } (gi f.R 0) 0 = true := by
            unfold turnIs
            show (decide (1 ≤ gi f.R 0 ∧ gi f.R 0 < s.M.G.length) && turnD (gi s.M.G (gi f.R 0).toNat) 0) = true
            rw [hm, I.lG]
            simp [turnD, pairEq]; omega
          unfold turnMD
          rw [if_pos this]
        rw [hturn, backm_at hk hf]
        have htl := tag_lo (gi f.R 1)
        have hW0 : gi (s.M.W.set 0 (nextW (gi f.R 1) (gi f.R 0) 0)) 0 = nextW (gi f.R 1) (gi f.R 0) 0 := gi_set_eq _ (by omega)
        have htag : tagI (nextW (gi f.R 1) (gi f.R 0) 0) = T + 1 := by
          show tagI (word (tagI (gi f.R 1) + 1) _ 0) = _
          have e : tagI (gi f.R 1) = T := by rw [← heq, I.tag]
          rw [word_tagI _ _ (by omega) (by omega)]; omega
        have hidx : idx (nextW (gi f.R 1) (gi f.R 0) 0) = gi f.R 0 := word_idx _ _ (by omega) (by omega)
        have hlks : ∀ q, 1 ≤ q → gi (s.M.W.set 0 (nextW (gi f.R 1) (gi f.R 0) 0)) (lk q) = gi s.M.W (lk q) := fun q hq => gi_set_ne _ (Ne.symm (lk_pos q hq))
        refine ⟨_, rfl, .inr (.inr (.inl ⟨rfl, rfl, hop, h2, rfl, rfl, ?_⟩))⟩
        exact {
          n1 := n1, n2 := n2, lc := by simpa [memS] using I.lc, lo := I.lo
          lW := by simpa [memS] using hW
          lG := by simpa [memS] using I.lG
          ok := hb
          tag := by show tagI (gi (s.M.W.set 0 _) 0) = _; rw [hW0, htag]; rfl
          chain := by
            show Chain n (s.M.W.set 0 _) (idx (gi (s.M.W.set 0 _) 0)) (gi f.R 0 :: L)
            rw [hW0, hidx]
            refine ⟨rfl, hp1, hp2, ?_⟩
            rw [hlks _ hp1, hnx]
            have e := I.chain.keep fun q hq => hlks q (I.chain.mem hq).1
            rw [heq] at e
            exact e
          cores := fun i ci hi => by
            rcases set_get hkl hi with ⟨_, rfl⟩ | ⟨_, h⟩
            · exact .inl rfl
            · rcases I.cores i ci h with h | ⟨g, hg, g8, hg'⟩
              · exact .inl h
              · refine .inr ⟨g, hg, g8, hg'.elim (fun h => .inl (h.grow (Nat.le_succ _) (.inr (by show tagI (gi (s.M.W.set 0 _) 0) = _; rw [hW0, htag])))) (fun h => .inr (h.grow (Nat.le_succ _) (hlks _ h.2.1)))⟩
          all := fun p => by
            have h1 := held_set (p := p) (own := own) (cc' := { cc with F := [], V := gi f.R 0, E := 0 }) hk
            rw [hpush, pushC_nil rfl] at h1
            have h2 := I.all p
            show List.count p (gi f.R 0 :: L) + held p own (s.C.set k _) + List.count p [] = _
            rw [count_cons_if, ← h2]
            simp at h1 ⊢
            omega
          free := fun p h1 h2 => by
            show gi (s.M.G.set (gi f.R 0).toNat 0) p.toNat = _
            by_cases he : gi f.R 0 = p
            · rw [he, gi_set_eq _ (by rw [I.lG]; omega), if_pos (by simp)]
            · rw [gi_set_ne _ (by omega), I.free p h1 h2]
              simp [Ne.symm he] }
      · have hbeq : (gi s.M.W 0 == gi f.R 1) = false := by simpa using heq
        rw [if_neg (by rw [hbeq]; decide), casD_no hW hb heq, on_at hk hf]
        refine ⟨_, rfl, .inl ⟨_, rfl, ⟨rfl, rfl, rfl, .inr (.inr ⟨h2, rfl, by rw [if_neg hop1]; exact Ne.symm heq⟩)⟩, ?_, fun e _ => by omega⟩⟩
        refine I.core hk (.inr ⟨_, rfl, by exact h8, .inr ⟨by exact hop, by exact hp1, by exact hp2, .inl ?_⟩⟩) (fun p => ?_) _
        · rfl
        · rw [hsome p _ (by exact hop) _ rfl, hpush]; rfl
theorem step_inv (I : Inv c n T s own [] L) (hk : s.C[k]? = some cc) (hf : cc.F = [f]) (hT : T < 1000000) :
    ∃ cc', (step4 s k).C = s.C.set k cc' ∧ Stepped c n T s (step4 s k) own L k f cc' := by
  have ht : topD s k = some f := by rw [top_at hk, hf]; rfl
  rcases I.cores k cc hk with h | ⟨g, hg, h8, hok⟩
  · rw [hf] at h; cases h
  · obtain rfl : f = g := by rw [hf] at hg; simpa using hg
    unfold step4
    rw [ht]
    rcases hok with h | h
    · have := step_pop I hk hf hT h8 h
      simpa [h.1] using this
    · have := step_push I hk hf hT h8 h
      simpa [h.1] using this
end
end Go.Proofs.Ytcfbdfgondmkoaa
/- The stack's law, plain: a filled arena; the list that is walked; cores that pop and push by picks. -/
namespace Go.Proofs.Ytcfbdfgondmkoaa
open Go Go.RowKit
set_option linter.unusedSimpArgs false
set_option linter.unusedVariables false
set_option linter.unnecessarySimpa false
set_option linter.unusedVariables false

theorem Cell.safe {n : Nat} {x : Int} {m : Arena} (h : Cell n x) (hW : m.W.length = 128 + 4 * n) : outside m x = false ∧ badAt m x = m.bad := by
  have h1 : outside m x = false := by
    rcases h with rfl | ⟨p, h3, h4, rfl⟩
    · simp [outside, hW]; omega
    · simp [outside, hW]; omega
  refine ⟨h1, ?_⟩
  have h2 : freeAt m x = false := by
    unfold freeAt
    rcases h with rfl | ⟨p, h3, h4, rfl⟩
    · rw [nodeD_0]; simp
    · rw [nodeD_link h3]; simp
  simp [badAt, h1, h2]
theorem store_safe {n : Nat} {x v : Int} {m : Arena} (h : Cell n x) (hW : m.W.length = 128 + 4 * n) : storeD m x v = { m with W := m.W.set x.toNat v } := by
  unfold storeD
  rw [(h.safe hW).1, (h.safe hW).2]; rfl
theorem load_safe {n : Nat} {x : Int} {m : Arena} (h : Cell n x) (hW : m.W.length = 128 + 4 * n) : loadD m x = gi m.W x.toNat := by
  unfold loadD
  rw [(h.safe hW).1]; rfl
/-- what a node's link tells in a filled arena -/
def nextOf (n i : Nat) : Int := if i = n then 0 else (i : Int) + 1
theorem fillL_spec {n : Nat} (hn : n ≤ 200) : ∀ (k i : Nat) (m : Arena), i + k = n + 1 → 1 ≤ i → m.W.length = 128 + 4 * n → ∃ W', fillL n k i m = { m with W := W' } ∧ W'.length = 128 + 4 * n ∧
    (∀ p : Nat, i ≤ p → p ≤ n → gi W' (lk p) = nextOf n p) ∧ (∀ x, (∀ p : Nat, i ≤ p → p ≤ n → x ≠ lk p) → gi W' x = gi m.W x)
  | 0, i, m, h1, h2, h3 => ⟨m.W, rfl, h3, fun p _ _ => by omega, fun _ _ => rfl⟩
  | k + 1, i, m, h1, h2, h3 => by
    have hl : linkAt (i : Int) = 128 + 4 * ((i : Int) - 1) := link_lk (by omega) (by omega)
    have hs : storeD m (linkAt i) (nextOf n i) = { m with W := m.W.set (lk i) (nextOf n i) } := by
      rw [store_safe (n := n) (by rw [hl]; exact Cell.link (by omega) (by omega)) h3, hl]; rfl
    obtain ⟨W', e, h4, h5, h6⟩ := fillL_spec hn k (i + 1) { m with W := m.W.set (lk i) (nextOf n i) } (by omega) (by omega) (by simpa using h3)
    refine ⟨W', ?_, h4, fun p hp hq => ?_, fun x hx => ?_⟩
    · unfold fillL
      show fillL n k (i + 1) (storeD m (linkAt i) (nextOf n i)) = _
      rw [hs, e]
    · by_cases hpi : p = i
      · subst hpi
        rw [h6 _ fun q h7 h8 e => by have := lk_inj (by omega) (by omega) e; omega]
        exact gi_set_eq _ (by unfold lk; omega)
      · exact h5 p (by omega) hq
    · rw [h6 x fun p hp hq => hx p (by omega) hq]
      exact gi_set_ne _ (Ne.symm (hx i (Nat.le_refl _) (by omega)))
theorem fill_spec {n : Nat} {m : Arena} (hn : n ≤ 200) (hG : m.G.length = n + 1) (hW : m.W.length = 128 + 4 * n) : ∃ W', fillD m = { m with W := W' } ∧ W'.length = 128 + 4 * n ∧ gi W' 0 = 2 ∧ ∀ p : Nat, 1 ≤ p → p ≤ n → gi W' (lk p) = nextOf n p := by
  obtain ⟨W', e, h1, h2, _⟩ := fillL_spec hn n 1 m (by omega) (by omega) hW
  refine ⟨W'.set 0 2, ?_, by simpa using h1, gi_set_eq _ (by omega), fun p hp hq => ?_⟩
  · unfold fillD
    rw [show m.G.length - 1 = n by omega, e]
    exact store_safe (n := n) (.inl rfl) h1
  · rw [gi_set_ne _ (Ne.symm (lk_pos _ (by omega)))]; exact h2 p hp hq
theorem set_same {l : List Int} {i : Nat} {v : Int} (h : gi l i = v) : l.set i v = l := by
  apply List.ext_getElem (by simp)
  intro j h1 h2
  rw [List.getElem_set]
  split
  · rename_i e; subst e
    rw [← h]; simp [gi, h2]
  · rfl
theorem fillL_same {n : Nat} (hn : n ≤ 200) : ∀ (k i : Nat) (m : Arena), i + k = n + 1 → 1 ≤ i → m.W.length = 128 + 4 * n → (∀ p : Nat, i ≤ p → p ≤ n → gi m.W (lk p) = nextOf n p) → fillL n k i m = m
  | 0, i, m, h1, h2, h3, h4 => rfl
  | k + 1, i, m, h1, h2, h3, h4 => by
    have hl : linkAt (i : Int) = 128 + 4 * ((i : Int) - 1) := link_lk (by omega) (by omega)
    have hs : storeD m (linkAt i) (nextOf n i) = m := by
      rw [store_safe (n := n) (by rw [hl]; exact Cell.link (by omega) (by omega)) h3, hl]
      show { m with W := m.W.set (lk i) (nextOf n i) } = m
      rw [set_same (h4 i (Nat.le_refl _) (by omega))]
    unfold fillL
    show fillL n k (i + 1) (storeD m (linkAt i) (nextOf n i)) = _
    rw [hs]
    exact fillL_same hn k (i + 1) m (by omega) (by omega) h3 fun p hp hq => h4 p (by omega) hq
theorem fill_twice {n : Nat} {m : Arena} (hn : n ≤ 200) (hG : m.G.length = n + 1) (hW : m.W.length = 128 + 4 * n) : fillD (fillD m) = fillD m := by
  obtain ⟨W', e, h1, h2, h3⟩ := fill_spec hn hG hW
  rw [e]
  unfold fillD
  show storeD (fillL (m.G.length - 1) (m.G.length - 1) 1 { m with W := W' }) 0 2 = _
  rw [show m.G.length - 1 = n by omega, fillL_same hn n 1 { m with W := W' } (by omega) (by omega) h1 h3, store_safe (n := n) (.inl rfl) h1]
  show { m with W := W'.set 0 2 } = _
  rw [set_same h2]
/-- so many numbers from one on -/
def upl : Nat → Nat → List Int
  | 0, _ => []
  | k + 1, i => (i : Int) :: upl k (i + 1)
theorem upl_length : ∀ (k i : Nat), (upl k i).length = k
  | 0, _ => rfl
  | k + 1, i => by simp [upl, upl_length k]
theorem upl_get : ∀ (k i j : Nat), j < k → gi (upl k i) j = (i : Int) + j
  | 0, _, _, h => by omega
  | k + 1, i, 0, h => by simp [upl, gi]
  | k + 1, i, j + 1, h => by
    have := upl_get k (i + 1) j (by omega)
    simp [upl, gi] at this ⊢
    rw [this]; omega
theorem upl_count : ∀ (k i : Nat) (p : Int), (upl k i).count p = if (i : Int) ≤ p ∧ p < i + k then 1 else 0
  | 0, i, p => by simp [upl]
  | k + 1, i, p => by
    rw [upl, count_cons_if, upl_count k (i + 1) p]
    split <;> split <;> split <;> omega
theorem upl_chain {n : Nat} {W : List Int} (h : ∀ p : Nat, 1 ≤ p → p ≤ n → gi W (lk p) = nextOf n p) : ∀ (k i : Nat), 1 ≤ i → i + k = n + 1 → Chain n W (if k = 0 then 0 else i) (upl k i)
  | 0, i, _, _ => by simp [upl, Chain]
  | k + 1, i, h1, h2 => by
    refine ⟨by simp, by omega, by omega, ?_⟩
    rw [h i h1 (by omega)]
    have := upl_chain h k (i + 1) (by omega) (by omega)
    unfold nextOf
    by_cases hk : k = 0
    · rw [if_pos hk] at this; rw [if_pos (by omega)]; exact this
    · rw [if_neg hk] at this; rw [if_neg (by omega)]; simpa using this
theorem pigeon : ∀ (n : Nat) (L : List Int), (∀ p, L.count p ≤ 1) → (∀ p, p ∈ L → 1 ≤ p ∧ p ≤ n) → L.length ≤ n
  | 0, [], _, _ => by simp
  | 0, a :: l, _, h => by have := h a (by simp); omega
  | n + 1, L, h1, h2 => by
    have h3 : ∀ p, (L.erase (n + 1 : Nat)).count p ≤ 1 := fun p => by
      by_cases e : p = ((n + 1 : Nat) : Int)
      · subst e; rw [List.count_erase_self]; have := h1 ((n + 1 : Nat) : Int); omega
      · rw [List.count_erase_of_ne e]; exact h1 p
    have h4 : ∀ p, p ∈ L.erase ((n + 1 : Nat) : Int) → 1 ≤ p ∧ p ≤ n := fun p hp => by
      have hpL := List.mem_of_mem_erase hp
      have := h2 p hpL
      refine ⟨this.1, ?_⟩
      have : p ≠ ((n + 1 : Nat) : Int) := fun e => by
        subst e
        have h5 : 0 < (L.erase ((n + 1 : Nat) : Int)).count ((n + 1 : Nat) : Int) := List.count_pos_iff.2 hp
        rw [List.count_erase_self] at h5
        have := h1 ((n + 1 : Nat) : Int)
        omega
      omega
    have := pigeon n _ h3 h4
    have h5 : L.length ≤ (L.erase ((n + 1 : Nat) : Int)).length + 1 := by
      rw [List.length_erase]; split <;> omega
    omega
theorem walkF_chain {n : Nat} {m : Arena} (hn : n ≤ 200) (hG : m.G.length = n + 1) (hW : m.W.length = 128 + 4 * n) : ∀ (L : List Int) (p : Int) (k : Nat) (out : List Int), Chain n m.W p L → L.length < k → (∀ q, (out ++ L).count q ≤ 1) → walkF m k p out = (out ++ L, true)
  | [], p, 0, out, _, h, _ => by simp at h
  | [], p, k + 1, out, h, _, _ => by
    obtain rfl : p = 0 := h
    unfold walkF; simp
  | q :: l, p, 0, out, _, h, _ => by simp at h
  | q :: l, p, k + 1, out, ⟨e, h1, h2, h3⟩, hl, hc => by
    subst e
    have h4 : p ∉ out := fun hp => by
      have h5 := List.count_pos_iff.2 hp
      have := hc p
      rw [List.count_append, count_cons_if, if_pos rfl] at this
      omega
    have hlink : linkAt p = 128 + 4 * (p - 1) := link_lk h1 (by omega)
    have hld : loadD m (linkAt p) = gi m.W (lk p) := by rw [load_safe (n := n) (by rw [hlink]; exact Cell.link h1 h2) hW, hlink]; rfl
    unfold walkF
    rw [if_neg (by omega), if_neg (by rw [hG]; simp [h4]; omega), hld]
    have := walkF_chain hn hG hW l (gi m.W (lk p)) k (out ++ [p]) h3 (by simpa using hl) (by simpa using hc)
    rw [this]; simp
theorem walk_chain {n : Nat} {m : Arena} {L : List Int} (hn : n ≤ 200) (hG : m.G.length = n + 1) (hW : m.W.length = 128 + 4 * n) (h : Chain n m.W (idx (gi m.W 0)) L) (hc : ∀ q, L.count q ≤ 1) : walkD m = (L, true) := by
  unfold walkD
  rw [load_safe (n := n) (.inl rfl) hW]
  have := pigeon n L hc fun p hp => h.mem hp
  exact walkF_chain hn hG hW L _ _ [] h (by omega) (by simpa using hc)
theorem fill_walk {n : Nat} {m : Arena} (h1 : 1 ≤ n) (hn : n ≤ 200) (hG : m.G.length = n + 1) (hW : m.W.length = 128 + 4 * n) : walkD (fillD m) = (upl n 1, true) := by
  obtain ⟨W', e, h2, h3, h4⟩ := fill_spec hn hG hW
  rw [e]
  refine walk_chain (m := { m with W := W' }) hn hG h2 ?_ fun q => ?_
  · show Chain n W' (idx (gi W' 0)) _
    rw [h3]
    have := upl_chain h4 n 1 (by omega) (by omega)
    rw [if_neg (by omega)] at this
    exact this
  · rw [upl_count]; split <;> omega
end Go.Proofs.Ytcfbdfgondmkoaa
/- The stack's law, plain: cores that pop and push by picks. -/
namespace Go.Proofs.Ytcfbdfgondmkoaa
open Go Go.RowKit
set_option linter.unusedSimpArgs false
set_option linter.unusedVariables false
set_option linter.unnecessarySimpa false
set_option linter.unusedVariables false

def gl (own : List (List Int)) (i : Nat) : List Int := own.getD i []
def lastC (s : SysD) (i : Nat) : CoreD := (s.C[i]?).getD core0
/-- a core that is at nothing pops, or pushes the first node that it has -/
def begin4 (s : SysD) (own : List (List Int)) (i : Nat) (pk : Int) : SysD × List (List Int) :=
  if (topD s i).isSome then (s, own)
  else if 0 < (gl own i).length ∧ pk / 8 % 2 = 1 then (callS s i 2 [gi (gl own i) 0, 0, 0], own.set i ((gl own i).drop 1))
  else (callS s i 1 [0, 0, 0], own)
def endOwn (s : SysD) (f : FrameD) (i : Nat) (own : List (List Int)) : List (List Int) :=
  if (lastC s i).F.length = 0 ∧ f.op = 1 ∧ (lastC s i).E = 0 then own.set i (gl own i ++ [(lastC s i).V]) else own
def play1 (c : Nat) (st : SysD × List (List Int)) (pk : Int) : SysD × List (List Int) :=
  let i := (pk % c).toNat
  let b := begin4 st.1 st.2 i pk
  (step4 b.1 i, endOwn (step4 b.1 i) (topF b.1 i) i b.2)
def playD (c n : Nat) (picks : List Int) : SysD × List (List Int) := picks.foldl (play1 c) (new4 c n, List.replicate c [])

def reg (f : FrameD) : Int := gi f.R (if f.op = 1 then 0 else 1)
def FreshC (w0 : Int) (c : CoreD) : Prop := c.F = [] ∨ ∃ f, c.F = [f] ∧ (f.pc = 0 ∨ reg f = w0)
def PlayInv (c n k : Nat) (st : SysD × List (List Int)) : Prop :=
  ∃ T L, T ≤ k ∧ Inv c n T st.1 st.2 [] L ∧ st.1.L.length ≤ k ∧ ∃ (j : Nat) (cj : CoreD), st.1.C[j]? = some cj ∧ FreshC (gi st.1.M.W 0) cj

theorem sum_own_set {own : List (List Int)} {i : Nat} {o : List Int} (h : own[i]? = some o) (x : List Int) (p : Int) : ((own.set i x).map (List.count p)).sum + o.count p = (own.map (List.count p)).sum + x.count p := sum_set (List.count p) own i x o h
theorem inv_own {c n T : Nat} {s : SysD} {own own' : List (List Int)} {X L : List Int} (I : Inv c n T s own X L) (hl : own'.length = own.length) {X' : List Int} (h : ∀ p, (own'.map (List.count p)).sum + X'.count p = (own.map (List.count p)).sum + X.count p) : Inv c n T s own' X' L :=
  { I with
    lo := hl.trans I.lo
    all := fun p => by
      have h1 := I.all p
      have h2 := h p
      unfold held at h1 ⊢
      rw [← h1]; omega }
theorem getSome' {α : Type} {l : List α} {i : Nat} (h : i < l.length) : ∃ x, l[i]? = some x := ⟨l[i], List.getElem?_eq_getElem h⟩
theorem gl_some {own : List (List Int)} {i : Nat} {o : List Int} (h : own[i]? = some o) : gl own i = o := by unfold gl; simp [List.getD_eq_getElem?_getD, h]
theorem lastC_some {s : SysD} {i : Nat} {c : CoreD} (h : s.C[i]? = some c) : lastC s i = c := by unfold lastC; rw [h]; rfl
theorem newF_reg (op a b c : Int) : gi (newF op [a, b, c]).R 0 = a := rfl

/-- behind the beginning: the core is at one op -/
theorem begin_inv {c n T : Nat} {s : SysD} {own : List (List Int)} {L : List Int} (I : Inv c n T s own [] L) {i : Nat} (hi : i < c) (pk : Int) :
    ∃ cc f, (begin4 s own i pk).1.C[i]? = some cc ∧ cc.F = [f] ∧ Inv c n T (begin4 s own i pk).1 (begin4 s own i pk).2 [] L ∧ (begin4 s own i pk).1.L = s.L ∧ (begin4 s own i pk).1.M = s.M ∧
      (∀ j, j ≠ i → (begin4 s own i pk).1.C[j]? = s.C[j]?) ∧ topF (begin4 s own i pk).1 i = f ∧ (∀ ci w0, s.C[i]? = some ci → FreshC w0 ci → FreshC w0 cc) := by
  obtain ⟨cc, hcc⟩ := getSome' (show i < s.C.length by rw [I.lc]; exact hi)
  obtain ⟨o, ho⟩ := getSome' (show i < own.length by rw [I.lo]; exact hi)
  rcases I.cores i cc hcc with h0 | ⟨f, hf, hok⟩
  · have ht : topD s i = none := by rw [top_at hcc, h0]; rfl
    unfold begin4
    rw [ht, gl_some ho, if_neg (by simp)]
    have hki : i < s.C.length := get_lt hcc
    by_cases hb : 0 < o.length ∧ pk / 8 % 2 = 1
    · rw [if_pos hb, call_at hcc h0]
      obtain ⟨p, l, rfl⟩ : ∃ p l, o = p :: l := by
        cases o with
        | nil => simp at hb
        | cons p l => exact ⟨p, l, rfl⟩
      have hg0 : gi (p :: l) 0 = p := rfl
      rw [hg0]
      have hp : 1 ≤ p ∧ p ≤ n := by
        have h1 := I.all p
        have h2 := sum_at (List.count p) own i _ ho
        rw [count_cons_if, if_pos rfl] at h2
        unfold held at h1
        split at h1
        · assumption
        · omega
      have hget : (s.C.set i { cc with F := [newF 2 [p, 0, 0]] })[i]? = some { cc with F := [newF 2 [p, 0, 0]] } := by simp [hki]
      refine ⟨_, _, hget, rfl, ?_, rfl, rfl, fun j hj => by simp [Ne.symm hj], ?_, fun _ _ _ _ => .inr ⟨_, rfl, .inl rfl⟩⟩
      · exact {
          n1 := I.n1, n2 := I.n2, lc := by simpa using I.lc, lo := by simpa using I.lo
          lW := I.lW, lG := I.lG, ok := I.ok, tag := I.tag, chain := I.chain
          cores := fun j cj hj => by
            rcases set_get hki hj with ⟨_, rfl⟩ | ⟨_, h⟩
            · exact .inr ⟨_, rfl, rfl, .inr ⟨rfl, hp.1, hp.2, .inl rfl⟩⟩
            · exact I.cores j cj h
          all := fun q => by
            have h1 := held_set (p := q) (own := own) (cc' := { cc with F := [newF 2 [p, 0, 0]] }) hcc
            rw [pushC_nil h0, pushC_one rfl] at h1
            have h2 := I.all q
            have h3 := sum_own_set ho l q
            rw [count_cons_if] at h3
            have e : (if (newF 2 [p, 0, 0]).op = 2 ∧ gi (newF 2 [p, 0, 0]).R 0 = q then 1 else 0) = if p = q then 1 else 0 := by
              rw [newF_reg]; simp [newF]
            rw [e] at h1
            show L.count q + held q (own.set i (List.drop 1 (p :: l))) (s.C.set i _) + List.count q [] = _
            rw [← h2, List.drop_one, List.tail_cons]
            unfold held at h1 ⊢
            omega
          free := I.free }
      · unfold topF; rw [top_at hget]; rfl
    · rw [if_neg hb, call_at hcc h0]
      have hget : (s.C.set i { cc with F := [newF 1 [0, 0, 0]] })[i]? = some { cc with F := [newF 1 [0, 0, 0]] } := by simp [hki]
      refine ⟨_, _, hget, rfl, ?_, rfl, rfl, fun j hj => by simp [Ne.symm hj], ?_, fun _ _ _ _ => .inr ⟨_, rfl, .inl rfl⟩⟩
      · exact I.core hcc (.inr ⟨_, rfl, rfl, .inl ⟨rfl, .inl rfl⟩⟩) (fun p => by rw [pushC_nil h0, pushC_one rfl]; simp [newF]) _
      · unfold topF; rw [top_at hget]; rfl
  · have ht : topD s i = some f := by rw [top_at hcc, hf]; rfl
    unfold begin4
    rw [ht, if_pos (by rfl)]
    exact ⟨cc, f, hcc, hf, I, rfl, rfl, fun _ _ => rfl, by unfold topF; rw [ht]; rfl, fun ci w0 h h' => by rw [hcc] at h; cases h; exact h'⟩

theorem play1_inv {c n k : Nat} {st : SysD × List (List Int)} (hc : 1 ≤ c) (hk : k < 1000) (h : PlayInv c n k st) (pk : Int) : PlayInv c n (k + 1) (play1 c st pk) := by
  obtain ⟨s, own⟩ := st
  obtain ⟨T, L, hT, I, hL, j, cj, hj, hfr⟩ := h
  have hi : (pk % (c : Int)).toNat < c := by have := Int.emod_lt_of_pos pk (show (0 : Int) < c by omega); have := Int.emod_nonneg pk (show (c : Int) ≠ 0 by omega); omega
  obtain ⟨cc, f, hcc, hf, I1, e1, e2, e3, e4, e5⟩ := begin_inv I hi pk
  unfold play1
  show PlayInv c n (k + 1) (step4 (begin4 s own (pk % (c : Int)).toNat pk).1 ((pk % (c : Int)).toNat : Nat), endOwn (step4 (begin4 s own (pk % (c : Int)).toNat pk).1 ((pk % (c : Int)).toNat : Nat)) (topF (begin4 s own (pk % (c : Int)).toNat pk).1 ((pk % (c : Int)).toNat : Nat)) (pk % (c : Int)).toNat (begin4 s own (pk % (c : Int)).toNat pk).2)
  rw [e4]
  generalize hiv : (pk % (c : Int)).toNat = i at *
  generalize begin4 s own i pk = b at *
  obtain ⟨s1, own1⟩ := b
  obtain ⟨cc', hC, hst⟩ := step_inv I1 hcc hf (by omega)
  have hki : i < s1.C.length := get_lt hcc
  have hget : (step4 s1 i).C[i]? = some cc' := by rw [hC]; simp [hki]
  obtain ⟨o, ho⟩ := getSome' (show i < own1.length by rw [I1.lo]; exact hi)
  have e1' : s1.L = s.L := e1
  have hL' : s.L.length ≤ k := hL
  have e2' : s1.M = s.M := e2
  have hoth : ∀ j, j ≠ i → (step4 s1 i).C[j]? = s.C[j]? := fun j hj => by
    rw [hC, List.getElem?_set_ne (Ne.symm hj)]; exact e3 j hj
  unfold endOwn
  show PlayInv c n (k + 1) (step4 s1 i, if (lastC (step4 s1 i) i).F.length = 0 ∧ f.op = 1 ∧ (lastC (step4 s1 i) i).E = 0 then own1.set i (gl own1 i ++ [(lastC (step4 s1 i) i).V]) else own1)
  rw [lastC_some hget, gl_some ho]
  rcases hst with ⟨g, hg, ⟨g1, g2, g3, g4⟩, I2, _⟩ | ⟨h1, h2, h3, h4, h5, L', h6, I2⟩ | ⟨h1, h2, h3, h4, h5, h6, I2⟩ | ⟨h1, h2, h3, h4, h5, h6, h7, I2⟩
  · rw [if_neg (by simp [hg])]
    refine ⟨T, L, by omega, I2, by rw [show (step4 s1 i).L = s1.L from g3, e1']; omega, ?_⟩
    by_cases hji : j = i
    · subst hji
      refine ⟨j, cc', hget, .inr ⟨g, hg, ?_⟩⟩
      have hf1 := e5 cj _ hj hfr
      show g.pc = 0 ∨ reg g = gi (step4 s1 j).M.W 0
      rw [g2]
      unfold reg
      rw [g1]
      rcases hf1 with h | ⟨f', hf', h⟩
      · rw [hf] at h; cases h
      · obtain rfl : f = f' := by rw [hf] at hf'; simpa using hf'
        rcases g4 with ⟨_, _, h7⟩ | ⟨h7, _, h8⟩ | ⟨_, h7, _⟩
        · exact .inr h7
        · rcases h with h | h
          · omega
          · right; rw [h8]; unfold reg at h; rw [h, e2']
        · exact .inl h7
    · refine ⟨j, cj, by rw [hoth j hji]; exact hj, ?_⟩
      show FreshC (gi (step4 s1 i).M.W 0) cj
      rw [g2, e2']; exact hfr
  · rw [if_pos ⟨by simp [h1], h3, h2⟩]
    refine ⟨T + 1, L', by omega, ?_, by rw [show (step4 s1 i).L = s1.L from h5, e1']; omega, i, cc', hget, .inl h1⟩
    refine inv_own I2 (by simp) fun p => ?_
    have := sum_own_set ho (o ++ [cc'.V]) p
    rw [List.count_append] at this
    simp at this ⊢
    omega
  · rw [if_neg (by omega)]
    exact ⟨T + 1, _, by omega, I2, by rw [show (step4 s1 i).L = s1.L from h5, e1']; omega, i, cc', hget, .inl h1⟩
  · rw [if_neg (by omega)]
    exact ⟨T, _, by omega, I2, by rw [show (step4 s1 i).L.length = s1.L.length + 1 from h6, e1']; omega, i, cc', hget, .inl h1⟩

theorem new4_inv {c n : Nat} (hc : 1 ≤ c) (hc' : c ≤ 8) (hn : 1 ≤ n) (hn' : n ≤ 200) : PlayInv c n 0 (new4 c n, List.replicate c []) := by
  have hnew : newD n = ⟨List.replicate (128 + 4 * n) 0, List.replicate (n + 1) 0, false⟩ := by unfold newD; rw [if_pos (by omega)]; simp
  have hs : newIs c n = true := by unfold newIs; simp; omega
  have hS : newS c n = ⟨newD n, List.replicate c core0, []⟩ := by unfold newS; rw [hs]; simp
  have hE : newSE c n = 0 := by unfold newSE; rw [hs]; rfl
  obtain ⟨W', e, h1, h2, h3⟩ := fill_spec (m := newD n) hn' (by rw [hnew]; simp) (by rw [hnew]; simp)
  have h4 : new4 c n = ⟨{ newD n with W := W' }, List.replicate c core0, []⟩ := by unfold new4; rw [if_pos hE, hS, e]; rfl
  rw [h4]
  refine ⟨0, upl n 1, Nat.le_refl _, ?_, by simp, 0, core0, by show (List.replicate c core0)[0]? = _; rw [List.getElem?_replicate, if_pos (by omega)], .inl rfl⟩
  have hz : ∀ p : Int, ((List.replicate c ([] : List Int)).map (List.count p)).sum = 0 := fun p => by simp
  have hz2 : ∀ p : Int, ((List.replicate c core0).map (pushC p)).sum = 0 := fun p => by
    simp [pushC, core0]
  exact {
    n1 := hn, n2 := hn', lc := by simp, lo := by simp
    lW := h1, lG := by rw [hnew]; simp, ok := by rw [hnew]
    tag := by show tagI (gi W' 0) = _; rw [h2]; rfl
    chain := by
      show Chain n W' (idx (gi W' 0)) _
      rw [h2]
      have := upl_chain h3 n 1 (by omega) (by omega)
      rw [if_neg (by omega)] at this
      exact this
    cores := fun i ci hi => by
      have := List.mem_of_getElem? hi
      rw [List.mem_replicate] at this
      exact .inl (by rw [this.2]; rfl)
    all := fun p => by
      unfold held
      rw [hz, hz2, upl_count]
      simp
      split <;> split <;> omega
    free := fun p h5 h6 => by
      rw [if_pos]
      · show gi (newD n).G _ = 0
        rw [hnew]
        simp [gi, List.getD_eq_getElem?_getD, List.getElem?_replicate]; split <;> rfl
      · apply List.count_pos_iff.1
        rw [upl_count, if_pos (by omega)]; decide }
theorem play_from {c n : Nat} (hc : 1 ≤ c) : ∀ (l : List Int) (k : Nat) (st : SysD × List (List Int)), k + l.length ≤ 1000 → PlayInv c n k st → PlayInv c n (k + l.length) (l.foldl (play1 c) st)
  | [], k, st, _, h => h
  | p :: l, k, st, hk, h => by
    have := play_from hc l (k + 1) (play1 c st p) (by simp at hk; omega) (play1_inv hc (by simp at hk; omega) h p)
    simp only [List.length_cons, List.foldl_cons]
    rw [show k + (l.length + 1) = k + 1 + l.length by omega]; exact this
theorem play_inv {c n : Nat} (hc : 1 ≤ c) (hc' : c ≤ 8) (hn : 1 ≤ n) (hn' : n ≤ 200) (l : List Int) (hl : l.length ≤ 1000) : PlayInv c n l.length (playD c n l) := by
  have := play_from hc l 0 _ (by omega) (new4_inv hc hc' hn hn')
  rw [Nat.zero_add] at this
  exact this
end Go.Proofs.Ytcfbdfgondmkoaa
/- The stack's law, plain: what the statements ask. -/
namespace Go.Proofs.Ytcfbdfgondmkoaa
open Go Go.RowKit
set_option linter.unusedSimpArgs false
set_option linter.unusedVariables false
set_option linter.unnecessarySimpa false
set_option linter.unusedVariables false

section
variable {c n T : Nat} {s : SysD} {own : List (List Int)} {X L : List Int}
theorem Inv.walk (I : Inv c n T s own X L) : walkD s.M = (L, true) := walk_chain I.n2 I.lG I.lW I.chain I.nodup
theorem Inv.at (I : Inv c n T s own [] L) {p : Int} (h1 : 1 ≤ p) (h2 : p ≤ n) :
    held p own s.C ≤ 1 ∧ (L.elem p = decide (held p own s.C = 0)) ∧ (L.elem p = decide (gi s.M.G p.toNat = 0)) ∧ (L.elem p = false → gi s.M.G p.toNat = 1) := by
  have ha := I.all p
  rw [if_pos ⟨h1, h2⟩] at ha
  have hg := I.free p h1 h2
  by_cases hp : p ∈ L
  · have := List.count_pos_iff.2 hp
    rw [if_pos hp] at hg
    have he : L.elem p = true := by simpa using hp
    rw [he]
    have h0 : held p own s.C = 0 := by simp at ha; omega
    simp [hg, h0]
  · have := List.count_eq_zero.2 hp
    rw [if_neg hp] at hg
    have he : L.elem p = false := by simpa using hp
    rw [he]
    have h0 : held p own s.C = 1 := by simp at ha; omega
    simp [hg, h0]
theorem Inv.count (I : Inv c n T s own X L) : countD s.M.G 1 0 = 0 ↔ L = [] := by
  unfold countD
  have hG := I.lG
  rw [List.count_eq_zero]
  constructor
  · intro h
    cases L with
    | nil => rfl
    | cons q l =>
      exfalso
      obtain ⟨h1, h2⟩ := I.chain.mem (q := q) (by simp)
      have h3 := I.free q h1 h2
      rw [if_pos (by simp)] at h3
      apply h
      rw [List.mem_iff_getElem?]
      refine ⟨q.toNat - 1, ?_⟩
      rw [List.getElem?_drop, show 1 + (q.toNat - 1) = q.toNat by omega]
      unfold gi at h3
      rw [List.getD_eq_getElem?_getD] at h3
      obtain ⟨x, hx⟩ := getSome' (show q.toNat < s.M.G.length by omega)
      rw [hx] at h3 ⊢
      simpa using h3
  · intro h hm
    subst h
    rw [List.mem_iff_getElem?] at hm
    obtain ⟨i, hi⟩ := hm
    rw [List.getElem?_drop] at hi
    have hlt := get_lt hi
    have h3 := I.free ((1 + i : Nat) : Int) (by omega) (by omega)
    rw [if_neg (by simp)] at h3
    unfold gi at h3
    rw [List.getD_eq_getElem?_getD] at h3
    rw [show ((1 + i : Nat) : Int).toNat = 1 + i by omega, hi] at h3
    simp at h3
theorem Inv.top (I : Inv c n T s own X L) {i : Nat} {cc : CoreD} (h : s.C[i]? = some cc) : (topD s i = Option.none ∧ cc.F = []) ∨ ∃ f, topD s i = some f ∧ cc.F = [f] ∧ FrOk n T s.M.W f := by
  rcases I.cores i cc h with h0 | ⟨f, hf, hok⟩
  · exact .inl ⟨by rw [top_at h, h0]; rfl, h0⟩
  · exact .inr ⟨f, by rw [top_at h, hf]; rfl, hf, hok⟩
/-- the step of a core that is at nothing -/
theorem step4_idle {i : Nat} (h : topD s i = Option.none) : step4 s i = s := by unfold step4; rw [h]
/-- a pop's first step ends just where no node is free -/
theorem full_step (I : Inv c n T s own [] L) {i : Nat} {cc : CoreD} {f : FrameD} (hk : s.C[i]? = some cc) (hf : cc.F = [f]) (hT : T < 1000000) (hop : f.op = 1) (hpc : f.pc = 0) :
    ∃ cc', (step4 s i).C = s.C.set i cc' ∧ ((countD s.M.G 1 0 = 0 ∧ cc'.F = [] ∧ cc'.E = 2 ∧ (step4 s i).L.length = s.L.length + 1) ∨ (countD s.M.G 1 0 ≠ 0 ∧ cc'.F.length = 1)) := by
  obtain ⟨cc', hC, hst⟩ := step_inv I hk hf hT
  refine ⟨cc', hC, ?_⟩
  rcases hst with ⟨g, hg, _, _, h1⟩ | ⟨_, _, _, h4, _⟩ | ⟨_, _, _, h4, _⟩ | ⟨h1, h2, _, _, h5, h6, _⟩
  · exact .inr ⟨fun h => h1 hop hpc (I.count.1 h), by rw [hg]; rfl⟩
  · omega
  · omega
  · exact .inl ⟨I.count.2 h5, h1, h2, h6⟩
/-- the head's tag behind a step -/
theorem tag_step (I : Inv c n T s own [] L) {i : Nat} {cc : CoreD} {f : FrameD} (hk : s.C[i]? = some cc) (hf : cc.F = [f]) (hT : T < 1000000) :
    ∃ cc', (step4 s i).C = s.C.set i cc' ∧ (step4 s i).M.W.length = s.M.W.length ∧
      ((cc'.F = [] ∧ cc'.E = 0 ∧ tagI (gi (step4 s i).M.W 0) = tagI (gi s.M.W 0) + 1) ∨ ((cc'.F.length = 1 ∨ cc'.F = [] ∧ cc'.E = 2) ∧ gi (step4 s i).M.W 0 = gi s.M.W 0)) := by
  obtain ⟨cc', hC, hst⟩ := step_inv I hk hf hT
  refine ⟨cc', hC, ?_⟩
  rcases hst with ⟨g, hg, h0, I2, h1⟩ | ⟨h1, h2, _, h4, _, _, _, I2⟩ | ⟨h1, h2, _, h4, _, _, I2⟩ | ⟨h1, h2, _, _, h5, h6, h7, I2⟩
  · exact ⟨by rw [I2.lW, I.lW], .inr ⟨.inl (by rw [hg]; rfl), h0.2.1⟩⟩
  · exact ⟨by rw [I2.lW, I.lW], .inl ⟨h1, h2, by rw [I2.tag, I.tag]; rfl⟩⟩
  · exact ⟨by rw [I2.lW, I.lW], .inl ⟨h1, h2, by rw [I2.tag, I.tag]; rfl⟩⟩
  · exact ⟨by rw [h7], .inr ⟨.inr ⟨h1, h2⟩, by rw [h7]⟩⟩
end

/-- one round: each core takes a step, till one ends -/
def freeIn (c : Nat) (t : Int) : Nat → Nat → SysD → SysD × Bool
  | 0, _, s => (s, false)
  | k + 1, i, s => if (topD (step4 s (((i : Int) + t) % c).toNat) (((i : Int) + t) % c).toNat).isSome then freeIn c t k (i + 1) (step4 s (((i : Int) + t) % c).toNat) else (step4 s (((i : Int) + t) % c).toNat, true)
def freeOut (c : Nat) : List Int → SysD → SysD × Bool
  | [], s => (s, false)
  | t :: ts, s => if (freeIn c t c 0 s).2 then ((freeIn c t c 0 s).1, true) else freeOut c ts (freeIn c t c 0 s).1
/-- a core at an op that nothing disturbed: so many steps from its end -/
def Near (s : SysD) (j r : Nat) : Prop := ∃ cc f, s.C[j]? = some cc ∧ cc.F = [f] ∧ ((f.pc = 0 ∧ r = 3) ∨ (f.pc = 1 ∧ reg f = gi s.M.W 0 ∧ r = 2) ∨ (f.pc = 2 ∧ reg f = gi s.M.W 0 ∧ r = 1))
def Busy (c n T : Nat) (s : SysD) (own : List (List Int)) : Prop := (∃ L, Inv c n T s own [] L) ∧ ∀ (i : Nat) cc, s.C[i]? = some cc → cc.F.length = 1
theorem busy_step {c n T : Nat} {s : SysD} {own : List (List Int)} {i j r : Nat} (hB : Busy c n T s own) (hN : Near s j r) (hi : i < c) (hT : T < 1000000) :
    (topD (step4 s i) i).isSome = false ∨ (topD (step4 s i) i).isSome = true ∧ Busy c n T (step4 s i) own ∧ Near (step4 s i) j (if i = j then r - 1 else r) ∧ (i = j → 1 < r) := by
  obtain ⟨⟨L, I⟩, hall⟩ := hB
  obtain ⟨cc, hcc⟩ := getSome' (show i < s.C.length by rw [I.lc]; exact hi)
  obtain ⟨f, hf⟩ : ∃ f, cc.F = [f] := List.length_eq_one_iff.1 (hall i cc hcc)
  obtain ⟨cc', hC, hst⟩ := step_inv I hcc hf hT
  have hki := get_lt hcc
  have hget : (step4 s i).C[i]? = some cc' := by rw [hC]; simp [hki]
  have hoth : ∀ q, q ≠ i → (step4 s i).C[q]? = s.C[q]? := fun q hq => by rw [hC, List.getElem?_set_ne (Ne.symm hq)]
  have hno : cc'.F = [] → (topD (step4 s i) i).isSome = false := fun h => by rw [top_at hget, h]; rfl
  rcases hst with ⟨g, hg, ⟨g1, g2, g3, g4⟩, I2, _⟩ | ⟨h1, _⟩ | ⟨h1, _⟩ | ⟨h1, _⟩
  · right
    refine ⟨by rw [top_at hget, hg]; rfl, ⟨⟨L, I2⟩, fun q cq hq => ?_⟩, ?_⟩
    · by_cases hqi : q = i
      · subst hqi; rw [hget] at hq; cases hq; rw [hg]; rfl
      · rw [hoth q hqi] at hq; exact hall q cq hq
    · obtain ⟨cj, fj, hj, hfj, hn⟩ := hN
      by_cases hij : i = j
      · subst hij
        rw [hcc] at hj; cases hj
        obtain rfl : f = fj := by rw [hf] at hfj; simpa using hfj
        rw [if_pos rfl]
        have hreg : reg g = gi g.R (if f.op = 1 then 0 else 1) := by unfold reg; rw [g1]
        rcases hn with ⟨n1, rfl⟩ | ⟨n1, n2, rfl⟩ | ⟨n1, n2, rfl⟩
        · rcases g4 with ⟨_, g5, g6⟩ | ⟨g5, _⟩ | ⟨g5, _⟩
          · exact ⟨⟨cc', g, hget, hg, .inr (.inl ⟨g5, by rw [hreg, g6, g2], rfl⟩)⟩, fun _ => by omega⟩
          · omega
          · omega
        · rcases g4 with ⟨g5, _⟩ | ⟨_, g5, g6⟩ | ⟨g5, _⟩
          · omega
          · exact ⟨⟨cc', g, hget, hg, .inr (.inr ⟨g5, by rw [hreg, g6, g2]; exact n2, rfl⟩)⟩, fun _ => by omega⟩
          · omega
        · rcases g4 with ⟨g5, _⟩ | ⟨g5, _⟩ | ⟨_, _, g6⟩
          · omega
          · omega
          · exact absurd n2 g6
      · rw [if_neg hij]
        exact ⟨⟨cj, fj, by rw [hoth j (Ne.symm hij)]; exact hj, hfj, by rw [g2]; exact hn⟩, fun h => absurd h hij⟩
  · exact .inl (hno h1)
  · exact .inl (hno h1)
  · exact .inl (hno h1)
theorem near_lo {s : SysD} {j r : Nat} (h : Near s j r) : 1 ≤ r := by
  obtain ⟨_, _, _, _, h⟩ := h
  rcases h with ⟨_, rfl⟩ | ⟨_, _, rfl⟩ | ⟨_, _, rfl⟩ <;> omega
/-- a round, from its i-th turn on: it ends, or core j is one step nearer, if it was still to come -/
theorem freeIn_near {c n T : Nat} {own : List (List Int)} {j : Nat} {t : Int} (hc : 1 ≤ c) (hT : T < 1000000) : ∀ (k i r : Nat) (s : SysD), Busy c n T s own → Near s j r →
    (freeIn c t k i s).2 = true ∨ (freeIn c t k i s).2 = false ∧ Busy c n T (freeIn c t k i s).1 own ∧ ∃ r', Near (freeIn c t k i s).1 j r' ∧ r' ≤ r ∧ ((∃ q, i ≤ q ∧ q < i + k ∧ (((q : Int) + t) % c).toNat = j) → r' < r)
  | 0, i, r, s, hB, hN => .inr ⟨rfl, hB, r, hN, Nat.le_refl _, fun ⟨q, h1, h2, _⟩ => by omega⟩
  | k + 1, i, r, s, hB, hN => by
    have hi : (((i : Int) + t) % c).toNat < c := by have := Int.emod_lt_of_pos ((i : Int) + t) (show (0 : Int) < c by omega); have := Int.emod_nonneg ((i : Int) + t) (show (c : Int) ≠ 0 by omega); omega
    unfold freeIn
    rcases busy_step hB hN hi hT with h | ⟨h1, h2, h3, h4⟩
    · rw [if_neg (by rw [h]; decide)]; exact .inl rfl
    · rw [if_pos h1]
      rcases freeIn_near (t := t) hc hT k (i + 1) _ _ h2 h3 with h | ⟨h5, h6, r', h7, h8, h9⟩
      · exact .inl h
      · refine .inr ⟨h5, h6, r', h7, ?_, fun ⟨q, q1, q2, q3⟩ => ?_⟩
        · split at h8 <;> omega
        · have hlo := near_lo h7
          by_cases hq : q = i
          · subst hq
            rw [if_pos q3] at h8 
            have := h4 q3
            omega
          · have := h9 ⟨q, by omega, by omega, q3⟩
            split at this <;> omega
theorem turn_hits {c j : Nat} (hj : j < c) (t : Int) : ∃ q : Nat, 0 ≤ q ∧ q < 0 + c ∧ (((q : Int) + t) % c).toNat = j := by
  have h1 := Int.emod_lt_of_pos ((j : Int) - t) (show (0 : Int) < c by omega)
  have h2 := Int.emod_nonneg ((j : Int) - t) (show (c : Int) ≠ 0 by omega)
  refine ⟨(((j : Int) - t) % c).toNat, by omega, by omega, ?_⟩
  rw [Int.toNat_of_nonneg h2, Int.emod_add_emod]
  rw [show (j : Int) - t + t = j by omega, Int.emod_eq_of_lt (by omega) (by omega)]
  rfl
theorem freeOut_ends {c n T : Nat} {own : List (List Int)} {j : Nat} (hc : 1 ≤ c) (hj : j < c) (hT : T < 1000000) : ∀ (ts : List Int) (r : Nat) (s : SysD), Busy c n T s own → Near s j r → r ≤ ts.length → (freeOut c ts s).2 = true
  | [], r, s, _, hN, h => by have := near_lo hN; simp at h; omega
  | t :: ts, r, s, hB, hN, h => by
    unfold freeOut
    rcases freeIn_near (t := t) hc hT c 0 r s hB hN with h1 | ⟨h1, h2, r', h3, _, h4⟩
    · rw [if_pos h1]
    · rw [if_neg (by rw [h1]; decide)]
      have := h4 (turn_hits hj t)
      exact freeOut_ends hc hj hT ts r' _ h2 h3 (by simp at h; omega)
/-- PROGRESS -/
theorem free_plain {c n k : Nat} {st : SysD × List (List Int)} (hc : 1 ≤ c) (hk : k ≤ 1000) (h : PlayInv c n k st) (hbusy : ∀ i, i < c → (topD st.1 i).isSome = true) (ts : List Int) (hts : ts.length = 4) : (freeOut c ts st.1).2 = true := by
  obtain ⟨T, L, hT, I, _, j, cj, hj, hfr⟩ := h
  have hB : Busy c n T st.1 st.2 := ⟨⟨L, I⟩, fun i cc hi => by
    have hlt := get_lt hi
    rw [I.lc] at hlt
    have := hbusy i hlt
    rcases I.top hi with ⟨h1, _⟩ | ⟨f, _, h2, _⟩
    · rw [h1] at this; cases this
    · rw [h2]; rfl⟩
  have hlt := get_lt hj
  rw [I.lc] at hlt
  rcases hfr with h | ⟨f, hf, h⟩
  · have := hB.2 j cj hj
    rw [h] at this; cases this
  · rcases I.cores j cj hj with h0 | ⟨g, hg, _, hok⟩
    · rw [hf] at h0; cases h0
    · obtain rfl : f = g := by rw [hf] at hg; simpa using hg
      have hpc : f.pc = 0 ∨ f.pc = 1 ∨ f.pc = 2 := by
        rcases hok with ⟨_, h | ⟨h, _⟩⟩ | ⟨_, _, _, h | ⟨h, _⟩⟩ <;> omega
      have : ∃ r, r ≤ 3 ∧ Near st.1 j r := by
        rcases hpc with h1 | h1 | h1
        · exact ⟨3, by omega, cj, f, hj, hf, .inl ⟨h1, rfl⟩⟩
        · exact ⟨2, by omega, cj, f, hj, hf, .inr (.inl ⟨h1, h.resolve_left (by omega), rfl⟩)⟩
        · exact ⟨1, by omega, cj, f, hj, hf, .inr (.inr ⟨h1, h.resolve_left (by omega), rfl⟩)⟩
      obtain ⟨r, hr, hN⟩ := this
      exact freeOut_ends hc hlt (by omega) ts r st.1 hB hN (by omega)
end Go.Proofs.Ytcfbdfgondmkoaa
/- The stack's law, plain: a core that is alone. -/
namespace Go.Proofs.Ytcfbdfgondmkoaa
open Go Go.RowKit
set_option linter.unusedSimpArgs false
set_option linter.unusedVariables false
set_option linter.unnecessarySimpa false
set_option linter.unusedVariables false

def three4 (s : SysD) : SysD := step4 (step4 (step4 s 0) 0) 0
def pop3 (s : SysD) : SysD := three4 (callS s 0 1 [0, 0, 0])
def push3 (s : SysD) (p : Int) : SysD := three4 (callS s 0 2 [p, 0, 0])
/-- the one core, at nothing -/
def Idle (s : SysD) : Prop := ∃ cc, s.C[0]? = some cc ∧ cc.F = []
section
variable {n T : Nat} {s : SysD} {own : List (List Int)} {L : List Int}
theorem set0 {α : Type} {l : List α} (h : l.length = 1) (x : α) : (l.set 0 x)[0]? = some x := by simp [h]
theorem one_list {α : Type} {l : List α} {x : α} (h : l.length = 1) (hx : l[0]? = some x) : l = [x] := by
  obtain ⟨y, rfl⟩ := List.length_eq_one_iff.1 h
  simpa using hx
/-- a step that goes on, alone -/
theorem alone_goes (I : Inv 1 n T s own [] L) (hT : T < 1000000) {cc : CoreD} {f : FrameD} (hk : s.C[0]? = some cc) (hf : cc.F = [f]) {v : Int} (hpc : f.pc = 0 ∧ ¬ (f.op = 1 ∧ L = []) ∧ v = gi s.M.W 0 ∨ f.pc = 1 ∧ v = reg f) :
    ∃ cc' g, (step4 s 0).C[0]? = some cc' ∧ cc'.F = [g] ∧ g.op = f.op ∧ g.pc = f.pc + 1 ∧ reg g = v ∧ gi (step4 s 0).M.W 0 = gi s.M.W 0 ∧ (step4 s 0).L = s.L ∧ Inv 1 n T (step4 s 0) own [] L := by
  obtain ⟨cc', hC, hst⟩ := step_inv (k := 0) I hk hf hT
  have hget : (step4 s 0).C[0]? = some cc' := by
    have : (step4 s ((0 : Nat) : Int)).C[0]? = some cc' := by rw [hC]; exact set0 I.lc _
    exact this
  rcases hst with ⟨g, hg, ⟨g1, g2, g3, g4⟩, I2, _⟩ | ⟨_, _, _, h, _⟩ | ⟨_, _, _, h, _⟩ | ⟨_, _, h1, h2, h3, _⟩
  · refine ⟨cc', g, hget, hg, g1, ?_, ?_, g2, g3, I2⟩
    · rcases g4 with ⟨h1, h2, _⟩ | ⟨h1, h2, _⟩ | ⟨h1, _⟩ <;> omega
    · unfold reg
      rw [g1]
      rcases g4 with ⟨h1, _, h2⟩ | ⟨h1, _, h2⟩ | ⟨h1, _⟩
      · rcases hpc with ⟨_, _, h3⟩ | ⟨h3, _⟩
        · rw [h2, h3]
        · omega
      · rcases hpc with ⟨h3, _⟩ | ⟨_, h3⟩
        · omega
        · rw [h2, h3]; rfl
      · rcases hpc with ⟨h3, _⟩ | ⟨h3, _⟩ <;> omega
  · rcases hpc with ⟨h3, _⟩ | ⟨h3, _⟩ <;> omega
  · rcases hpc with ⟨h3, _⟩ | ⟨h3, _⟩ <;> omega
  · rcases hpc with ⟨_, h4, _⟩ | ⟨h4, _⟩
    · exact absurd ⟨h1, h3⟩ h4
    · omega
theorem call_inv (I : Inv 1 n T s own [] L) (hi : Idle s) {op : Int} {l : List Int} {own' : List (List Int)} (hl : own'.length = 1) (hok : CoreOk n T s.M.W { core0 with F := [newF op l] }) (h : ∀ p, (own'.map (List.count p)).sum + pushC p { core0 with F := [newF op l] } = (own.map (List.count p)).sum) :
    Inv 1 n T (callS s 0 op l) own' [] L ∧ ∃ cc, (callS s 0 op l).C[0]? = some cc ∧ cc.F = [newF op l] ∧ (callS s 0 op l).M = s.M ∧ (callS s 0 op l).L = s.L := by
  obtain ⟨cc, hcc, h0⟩ := hi
  have e : callS s 0 op l = { s with C := s.C.set 0 { cc with F := [newF op l] } } := call_at (k := 0) hcc h0 op l
  rw [e]
  have hk := get_lt hcc
  have hpc : ∀ p, pushC p { cc with F := [newF op l] } = pushC p { core0 with F := [newF op l] } := fun p => rfl
  refine ⟨?_, _, set0 I.lc _, rfl, rfl, rfl⟩
  exact { I with
    lc := by simpa using I.lc
    lo := hl
    cores := fun i ci hi => by
      rcases set_get hk hi with ⟨_, rfl⟩ | ⟨_, h⟩
      · rcases hok with h | ⟨f, hf, h⟩
        · cases h
        · exact .inr ⟨f, hf, h⟩
      · exact I.cores i ci h
    all := fun p => by
      have h1 := held_set (p := p) (own := own') (cc' := { cc with F := [newF op l] }) hcc
      rw [pushC_nil h0, hpc] at h1
      have h2 := I.all p
      have h3 := h p
      show L.count p + held p own' (s.C.set 0 _) + List.count p [] = _
      rw [← h2]
      unfold held at h1 ⊢
      omega }
theorem alone_pop {o : List Int} {q : Int} (I : Inv 1 n T s [o] [] (q :: L)) (hT : T < 1000000) (hi : Idle s) :
    Inv 1 n (T + 1) (pop3 s) [o ++ [q]] [] L ∧ (∃ cc, (pop3 s).C[0]? = some cc ∧ cc.F = [] ∧ cc.V = q ∧ cc.E = 0) ∧ (pop3 s).L = s.L := by
  obtain ⟨I0, c0, h0, hf0, hM0, hL0⟩ := call_inv I hi (op := 1) (l := [0, 0, 0]) (own' := [o]) rfl (.inr ⟨_, rfl, rfl, .inl ⟨rfl, .inl rfl⟩⟩) (fun p => by simp [pushC, newF])
  unfold pop3 three4
  obtain ⟨c1, f1, h1, hf1, ho1, hp1, hr1, hW1, hL1, I1⟩ := alone_goes I0 hT h0 hf0 (v := gi (callS s 0 1 [0, 0, 0]).M.W 0) (.inl ⟨rfl, (fun h => (by have := h.2; simp at this)), rfl⟩)
  obtain ⟨c2, f2, h2, hf2, ho2, hp2, hr2, hW2, hL2, I2⟩ := alone_goes I1 hT h1 hf1 (.inr ⟨hp1, rfl⟩)
  have hop : f2.op = 1 := by rw [ho2, ho1]; rfl
  have hpc : f2.pc = 2 := by rw [hp2, hp1]; rfl
  have hreg : reg f2 = gi (step4 (step4 (callS s 0 1 [0, 0, 0]) 0) 0).M.W 0 := by rw [hr2, hr1, hW2, hW1]
  obtain ⟨c3, hC, hst⟩ := step_inv (k := 0) I2 h2 hf2 hT
  have hget : (step4 (step4 (step4 (callS s 0 1 [0, 0, 0]) 0) 0) 0).C[0]? = some c3 := by
    have : (step4 (step4 (step4 (callS s 0 1 [0, 0, 0]) 0) 0) ((0 : Nat) : Int)).C[0]? = some c3 := by rw [hC]; exact set0 I2.lc _
    exact this
  rcases hst with ⟨g, hg, ⟨g1, g2, g3, g4⟩, _, _⟩ | ⟨e1, e2, e3, e4, e5, L', e6, I3⟩ | ⟨_, _, h, _⟩ | ⟨_, _, _, h, _⟩
  · rcases g4 with ⟨h, _⟩ | ⟨h, _⟩ | ⟨_, _, h⟩
    · omega
    · omega
    · exact absurd hreg h
  · cases e6
    refine ⟨inv_own (own' := [o ++ [c3.V]]) (X' := []) I3 rfl (fun p => by simp), ⟨c3, hget, e1, rfl, e2⟩, ?_⟩
    have e5' : (step4 (step4 (step4 (callS s 0 1 [0, 0, 0]) 0) 0) 0).L = _ := e5
    rw [e5', hL2, hL1, hL0]
  · omega
  · omega
theorem alone_full {o : List Int} (I : Inv 1 n T s [o] [] []) (hT : T < 1000000) (hi : Idle s) :
    Inv 1 n T (pop3 s) [o] [] [] ∧ (∃ cc, (pop3 s).C[0]? = some cc ∧ cc.F = [] ∧ cc.E = 2) ∧ (pop3 s).L.length = s.L.length + 1 := by
  obtain ⟨I0, c0, h0, hf0, hM0, hL0⟩ := call_inv I hi (op := 1) (l := [0, 0, 0]) (own' := [o]) rfl (.inr ⟨_, rfl, rfl, .inl ⟨rfl, .inl rfl⟩⟩) (fun p => by simp [pushC, newF])
  unfold pop3 three4
  obtain ⟨c3, hC, hst⟩ := step_inv (k := 0) I0 h0 hf0 hT
  have hget : (step4 (callS s 0 1 [0, 0, 0]) 0).C[0]? = some c3 := by
    have : (step4 (callS s 0 1 [0, 0, 0]) ((0 : Nat) : Int)).C[0]? = some c3 := by rw [hC]; exact set0 I0.lc _
    exact this
  rcases hst with ⟨g, hg, _, _, h⟩ | ⟨_, _, _, h, _⟩ | ⟨_, _, h, _⟩ | ⟨e1, e2, _, _, _, e6, _, I3⟩
  · exact absurd rfl (h rfl rfl)
  · cases h
  · cases h
  · have ht : topD (step4 (callS s 0 1 [0, 0, 0]) 0) 0 = Option.none := by
      have := top_at (k := 0) hget
      rw [e1] at this; exact this
    have hn : step4 (step4 (callS s 0 1 [0, 0, 0]) 0) 0 = step4 (callS s 0 1 [0, 0, 0]) 0 := step4_idle (i := 0) ht
    rw [hn, hn]
    refine ⟨I3, ⟨c3, hget, e1, e2⟩, ?_⟩
    have e6' : (step4 (callS s 0 1 [0, 0, 0]) 0).L.length = _ := e6
    rw [e6', hL0]
theorem alone_push {o : List Int} {q : Int} (I : Inv 1 n T s [q :: o] [] L) (hT : T < 1000000) (hi : Idle s) :
    Inv 1 n (T + 1) (push3 s q) [o] [] (q :: L) ∧ Idle (push3 s q) ∧ (push3 s q).L = s.L := by
  have hq : 1 ≤ q ∧ q ≤ n := by
    have h1 := I.all q
    unfold held at h1
    simp at h1
    split at h1
    · assumption
    · omega
  obtain ⟨I0, c0, h0, hf0, hM0, hL0⟩ := call_inv I hi (op := 2) (l := [q, 0, 0]) (own' := [o]) rfl (.inr ⟨_, rfl, rfl, .inr ⟨rfl, hq.1, hq.2, .inl rfl⟩⟩) (fun p => by
    rw [pushC_one rfl]
    have : (if (newF 2 [q, 0, 0]).op = 2 ∧ gi (newF 2 [q, 0, 0]).R 0 = p then 1 else 0) = if q = p then 1 else 0 := by rw [newF_reg]; simp [newF]
    rw [this]
    simp [count_cons_if])
  unfold push3 three4
  obtain ⟨c1, f1, h1, hf1, ho1, hp1, hr1, hW1, hL1, I1⟩ := alone_goes I0 hT h0 hf0 (v := gi (callS s 0 2 [q, 0, 0]).M.W 0) (.inl ⟨rfl, (fun h => (by have h' : (2 : Int) = 1 := h.1; omega)), rfl⟩)
  obtain ⟨c2, f2, h2, hf2, ho2, hp2, hr2, hW2, hL2, I2⟩ := alone_goes I1 hT h1 hf1 (.inr ⟨hp1, rfl⟩)
  have hop : f2.op = 2 := by rw [ho2, ho1]; rfl
  have hpc : f2.pc = 2 := by rw [hp2, hp1]; rfl
  have hreg : reg f2 = gi (step4 (step4 (callS s 0 2 [q, 0, 0]) 0) 0).M.W 0 := by rw [hr2, hr1, hW2, hW1]
  obtain ⟨c3, hC, hst⟩ := step_inv (k := 0) I2 h2 hf2 hT
  have hget : (step4 (step4 (step4 (callS s 0 2 [q, 0, 0]) 0) 0) 0).C[0]? = some c3 := by
    have : (step4 (step4 (step4 (callS s 0 2 [q, 0, 0]) 0) 0) ((0 : Nat) : Int)).C[0]? = some c3 := by rw [hC]; exact set0 I2.lc _
    exact this
  rcases hst with ⟨g, hg, ⟨g1, g2, g3, g4⟩, _, _⟩ | ⟨_, _, h, _⟩ | ⟨e1, e2, e3, e4, e5, e6, I3⟩ | ⟨_, _, h, _⟩
  · rcases g4 with ⟨h, _⟩ | ⟨h, _⟩ | ⟨_, _, h⟩
    · omega
    · omega
    · exact absurd hreg h
  · omega
  · have e5' : (step4 (step4 (step4 (callS s 0 2 [q, 0, 0]) 0) 0) 0).L = _ := e5
    have hr0 : gi f2.R 0 = q := by
      have h4 := I0.all q
      have h5 := I2.all q
      unfold held at h4 h5
      rw [one_list I0.lc h0] at h4
      rw [one_list I2.lc h2] at h5
      have h6 : pushC q c0 = 1 := by rw [pushC_one hf0, if_pos ⟨rfl, rfl⟩]
      simp only [List.map_cons, List.map_nil, List.sum_cons, List.sum_nil] at h4 h5
      have h7 : pushC q c2 = 1 := by omega
      rw [pushC_one hf2] at h7
      by_cases h8 : f2.op = 2 ∧ gi f2.R 0 = q
      · exact h8.2
      · rw [if_neg h8] at h7; cases h7
    rw [hr0] at I3
    exact ⟨I3, ⟨c3, hget, e1⟩, by rw [e5', hL2, hL1, hL0]⟩
  · omega
end
/-- so many pops, one behind the other -/
def pops : Nat → SysD → SysD
  | 0, s => s
  | k + 1, s => pop3 (pops k s)
def pushes : Nat → SysD → SysD
  | 0, s => s
  | k + 1, s => push3 (pushes k s) (k + 1 : Nat)
def dnl : Nat → List Int
  | 0 => []
  | k + 1 => ((k + 1 : Nat) : Int) :: dnl k
theorem dnl_get : ∀ (k i : Nat), i < k → gi (dnl k) i = (k : Int) - i
  | 0, _, h => by omega
  | k + 1, 0, _ => by simp [dnl, gi]
  | k + 1, i + 1, h => by
    have := dnl_get k i (by omega)
    simp [dnl, gi] at this ⊢
    rw [this]; omega
theorem dnl_length : ∀ k, (dnl k).length = k
  | 0 => rfl
  | k + 1 => by simp [dnl, dnl_length k]
theorem upl_snoc : ∀ (k i : Nat), upl (k + 1) i = upl k i ++ [((i + k : Nat) : Int)]
  | 0, i => by simp [upl]
  | k + 1, i => by
    rw [upl, upl_snoc k (i + 1), upl]
    simp; omega
theorem new4_one {n : Nat} (hn : 1 ≤ n) (hn' : n ≤ 200) : Inv 1 n 0 (new4 1 n) [[]] [] (upl n 1) ∧ Idle (new4 1 n) ∧ (new4 1 n).L = [] := by
  obtain ⟨T, L, hT, I, hL, _⟩ := new4_inv (c := 1) (by decide) (by decide) hn hn'
  obtain rfl : T = 0 := by omega
  have hnew : newD n = ⟨List.replicate (128 + 4 * n) 0, List.replicate (n + 1) 0, false⟩ := by unfold newD; rw [if_pos (by omega)]; simp
  have hs : newIs ((1 : Nat) : Int) n = true := by unfold newIs; simp; omega
  have hS : newS ((1 : Nat) : Int) n = ⟨newD n, List.replicate 1 core0, []⟩ := by unfold newS; rw [hs]; simp
  have hE : newSE ((1 : Nat) : Int) n = 0 := by unfold newSE; rw [hs]; rfl
  have h4 : new4 ((1 : Nat) : Int) n = memS ⟨newD n, List.replicate 1 core0, []⟩ (fillD (newD n)) := by unfold new4; rw [if_pos hE, hS]
  have hw := I.walk
  have hM : (new4 ((1 : Nat) : Int) n).M = fillD (newD n) := by rw [h4]; rfl
  have hw2 := fill_walk (m := newD n) hn hn' (by rw [hnew]; simp) (by rw [hnew]; simp)
  have hw3 : walkD (new4 ((1 : Nat) : Int) n).M = (L, true) := hw
  rw [hM, hw2] at hw3
  obtain rfl : upl n 1 = L := by injection hw3
  refine ⟨I, ⟨core0, ?_, rfl⟩, List.eq_nil_of_length_eq_zero (by simpa using hL)⟩
  show (new4 ((1 : Nat) : Int) n).C[0]? = _
  rw [h4]; rfl
/-- the nodes come in order -/
theorem pops_inv {n : Nat} (hn : 1 ≤ n) (hn' : n ≤ 200) : ∀ k, k ≤ n → Inv 1 n k (pops k (new4 1 n)) [upl k 1] [] (upl (n - k) (k + 1)) ∧ (pops k (new4 1 n)).L = [] ∧ ∃ cc, (pops k (new4 1 n)).C[0]? = some cc ∧ cc.F = [] ∧ (0 < k → cc.V = (k : Int) ∧ cc.E = 0)
  | 0, _ => by
    obtain ⟨I, ⟨cc, h1, h2⟩, h3⟩ := new4_one hn hn'
    exact ⟨I, h3, cc, h1, h2, fun h => absurd h (by decide)⟩
  | k + 1, hk => by
    obtain ⟨I, h1, cc, h2, h3, _⟩ := pops_inv hn hn' k (by omega)
    have e : upl (n - k) (k + 1) = ((k + 1 : Nat) : Int) :: upl (n - (k + 1)) (k + 1 + 1) := by
      rw [show n - k = n - (k + 1) + 1 by omega]; rfl
    rw [e] at I
    obtain ⟨I', ⟨c', h4, h5, h6, h7⟩, h8⟩ := alone_pop I (by omega) ⟨cc, h2, h3⟩
    rw [show upl k 1 ++ [((k + 1 : Nat) : Int)] = upl (k + 1) 1 by rw [upl_snoc, Nat.add_comm 1 k]] at I'
    exact ⟨I', h8.trans h1, c', h4, h5, fun _ => ⟨h6, h7⟩⟩
theorem upl_shift (m k : Nat) : upl (m + 1) k = (k : Int) :: upl m (k + 1) := rfl
theorem pushes_inv {n : Nat} (hn : 1 ≤ n) (hn' : n ≤ 200) : ∀ k, k ≤ n → Inv 1 n (n + k) (pushes k (pops (n + 1) (new4 1 n))) [upl (n - k) (k + 1)] [] (dnl k) ∧ (pushes k (pops (n + 1) (new4 1 n))).L.length = 1 ∧ Idle (pushes k (pops (n + 1) (new4 1 n)))
  | 0, _ => by
    obtain ⟨I, h1, cc, h2, h3, _⟩ := pops_inv hn hn' n (Nat.le_refl _)
    rw [Nat.sub_self] at I
    obtain ⟨I', ⟨c', h4, h5, h6⟩, h7⟩ := alone_full I (by omega) ⟨cc, h2, h3⟩
    exact ⟨I', by show (pop3 (pops n (new4 1 n))).L.length = _; rw [h7, h1]; rfl, c', h4, h5⟩
  | k + 1, hk => by
    obtain ⟨I, h1, h2⟩ := pushes_inv hn hn' k (by omega)
    rw [show n - k = n - (k + 1) + 1 by omega, upl_shift] at I
    obtain ⟨I', h3, h4⟩ := alone_push I (by omega) h2
    exact ⟨I', by show (push3 _ _).L.length = _; rw [h4, h1], h3⟩
theorem last_full {n : Nat} (hn : 1 ≤ n) (hn' : n ≤ 200) : ∃ cc, (pops (n + 1) (new4 1 n)).C[0]? = some cc ∧ cc.F = [] ∧ cc.E = 2 := by
  obtain ⟨I, h1, cc, h2, h3, _⟩ := pops_inv hn hn' n (Nat.le_refl _)
  rw [Nat.sub_self] at I
  exact (alone_full I (by omega) ⟨cc, h2, h3⟩).2.1
end Go.Proofs.Ytcfbdfgondmkoaa
