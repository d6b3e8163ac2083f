/- Texts of this work, put together: CoD, Dat4, HzA, AtW, StB. -/
import Derived.Test.YtcfbdfgondmkoaaM4
import Derived.Laws.AppendOwn
import Derived.Deep.Upon
/- Systems, by the document: With, Call, Set, Back; slices of a call's own. -/
namespace Go.Proofs.Ytcfbdfgondmkoaa
open Go Go.RowKit
set_option linter.unusedSimpArgs false
set_option linter.unusedVariables false
set_option linter.unnecessarySimpa false


theorem Box.newAt (w : World) (cs : Array Value) (t : TypeId) {b : Nat} (h : w.heap.size = b) : Box (w.alloc (.cells cs t (0, 0))) b cs t := by subst h; exact Box.new _ _ _
theorem list7 {l : List Value} (h : l.length = 7) : ∃ a b c d e f g, l = [a, b, c, d, e, f, g] := by
  match l, h with
  | [a, b, c, d, e, f, g], _ => exact ⟨a, b, c, d, e, f, g, rfl⟩
set_option maxHeartbeats 1000000 in
set_option maxRecDepth 100000 in
theorem with_ (N : Nat → Prop) (va vc : Value) (s : SysD) (k : Nat) (c : CoreD) (w : World) (h : IsSys N w va s) (hc' : IsCoreV N w vc c) (hN : ∀ b, N b → b < w.heap.size) (hC : s.C.length ≤ 100000) (hk : k < s.C.length) :
    Gives Proofs.Try.prog 92 #[va, .int .i64 k, vc] w (fun r w' => IsSys N w' r (withS s k c)) := by
  obtain ⟨aw, cw, ag, cg, ac, cc, al, cl, rfl, hw, hg, hc, hl⟩ := h.opened
  obtain ⟨af, cf, ar, cr, rfl, h3, hf, hr⟩ := hc'.opened
  have hk1 : (k : Int) < (s.C.length : Int) := by omega
  have hcb : IsCores (Bx N w.heap.size (w.heap.size + 10)) w (.slice ac s.C.length cc) s.C := IsCores.less hc (fun x hx hn => Bx.new hx hn)
  go_enter Proofs.Try.func92, Proofs.Try.ntmps92
  go_wp2_with (at_builtin; refine wpList_append_all (.tmp 8) (.tmp 10) rfl rfl rfl rfl rowC (by decide) (IsCores.keep hcb (show Ext w ((((w.alloc (.cells #[.slice aw s.M.W.length cw, .slice ag s.M.G.length cg, .bool s.M.bad, .slice ac s.C.length cc, .slice al s.L.length cl] 83 (0, 0))).alloc (.cells #[.slice af c.F.length cf, .int .i64 c.V, .int .i64 c.E, .int .i64 (gi c.X 0), .int .i64 (gi c.X 1), .int .i64 (gi c.X 2), .slice ar c.Ret.length cr] 116 (0, 0))).alloc (.cells #[.slice none 0 0, .slice none 0 0, .bool false, .slice none 0 0, .slice none 0 0] 83 (0, 0))).alloc (.cells #[] 116 (0, 0))) from exq).keep) (by omega) hC ?_; intro cap4 w4 cells rows hb4 hc1 hc2 hB hR hRl hRR; have B0 : Box w4 w.heap.size #[.slice aw s.M.W.length cw, .slice ag s.M.G.length cg, .bool s.M.bad, .slice ac s.C.length cc, .slice al s.L.length cl] 83 := ((((Box.new _ _ _).alloc _).alloc _).alloc _).ext hb4; have B1 : Box w4 (w.heap.size + 1) #[.slice af c.F.length cf, .int .i64 c.V, .int .i64 c.E, .int .i64 (gi c.X 0), .int .i64 (gi c.X 1), .int .i64 (gi c.X 2), .slice ar c.Ret.length cr] 116 := (((Box.newAt _ _ _ (by simp)).alloc _).alloc _).ext hb4; have B2 : Box w4 (w.heap.size + 1 + 1) #[.slice none 0 0, .slice none 0 0, .bool false, .slice none 0 0, .slice none 0 0] 83 := ((Box.newAt _ _ _ (by simp)).alloc _).ext hb4; have hB : Box w4 (w.heap.size + 1 + 1 + 1 + 1) cells 116 := (by simpa using hB); have hE4 : Ext w w4 := (show Ext w ((((w.alloc (.cells #[.slice aw s.M.W.length cw, .slice ag s.M.G.length cg, .bool s.M.bad, .slice ac s.C.length cc, .slice al s.L.length cl] 83 (0, 0))).alloc (.cells #[.slice af c.F.length cf, .int .i64 c.V, .int .i64 c.E, .int .i64 (gi c.X 0), .int .i64 (gi c.X 1), .int .i64 (gi c.X 2), .slice ar c.Ret.length cr] 116 (0, 0))).alloc (.cells #[.slice none 0 0, .slice none 0 0, .bool false, .slice none 0 0, .slice none 0 0] 83 (0, 0))).alloc (.cells #[] 116 (0, 0))) from exq).trans hb4; have kW : Keep (Bx N w.heap.size (w.heap.size + 10)) ((((w.alloc (.cells #[.slice aw s.M.W.length cw, .slice ag s.M.G.length cg, .bool s.M.bad, .slice ac s.C.length cc, .slice al s.L.length cl] 83 (0, 0))).alloc (.cells #[.slice af c.F.length cf, .int .i64 c.V, .int .i64 c.E, .int .i64 (gi c.X 0), .int .i64 (gi c.X 1), .int .i64 (gi c.X 2), .slice ar c.Ret.length cr] 116 (0, 0))).alloc (.cells #[.slice none 0 0, .slice none 0 0, .bool false, .slice none 0 0, .slice none 0 0] 83 (0, 0))).alloc (.cells #[] 116 (0, 0))) w4 := hb4.keep; obtain ⟨p0, p1, p2, p3, p4, d0, d1, d2, d3, d4⟩ := cells5 B0; obtain ⟨r0, r1, r2, r3, r4, r5, r6, q0, q1, q2, q3, q4, q5, q6⟩ := cells7 B1; obtain ⟨e0, e1, e2, e3, e4, f0, f1, f2, f3, f4⟩ := cells5 B2; have z0 := B0.lt; have z1 := B1.lt; have z2 := B2.lt; have zb := hB.lt; obtain ⟨rk, hrk⟩ := getSome (show k < rows.length by omega); obtain ⟨g0, g1, g2, g3, g4, g5, g6, rfl⟩ := list7 (hR k rk hrk).1; have m0 := hB.cell (off := k * 7) (c := g0) (by rw [nth_eq]; simpa using (hR k _ hrk).2 0 _ rfl); have m1 := hB.cell (off := k * 7 + 1) (c := g1) (by rw [nth_eq]; simpa using (hR k _ hrk).2 1 _ rfl); have m2 := hB.cell (off := k * 7 + 2) (c := g2) (by rw [nth_eq]; simpa using (hR k _ hrk).2 2 _ rfl); have m3 := hB.cell (off := k * 7 + 3) (c := g3) (by rw [nth_eq]; simpa using (hR k _ hrk).2 3 _ rfl); have m4 := hB.cell (off := k * 7 + 4) (c := g4) (by rw [nth_eq]; simpa using (hR k _ hrk).2 4 _ rfl); have m5 := hB.cell (off := k * 7 + 5) (c := g5) (by rw [nth_eq]; simpa using (hR k _ hrk).2 5 _ rfl); have m6 := hB.cell (off := k * 7 + 6) (c := g6) (by rw [nth_eq]; simpa using (hR k _ hrk).2 6 _ rfl); have n0 := hB.frozen (off := k * 7); have n1 := hB.frozen (off := k * 7 + 1); have n2 := hB.frozen (off := k * 7 + 2); have n3 := hB.frozen (off := k * 7 + 3); have n4 := hB.frozen (off := k * 7 + 4); have n5 := hB.frozen (off := k * 7 + 5); have n6 := hB.frozen (off := k * 7 + 6))
  have y0 := RowsIn.set (sz := 7) hR hrk (o := 0) (by decide) (.slice af c.F.length cf)
  have y1 := RowsIn.set y0 (set_at (by first | omega | (simp; omega))) (o := 1) (by decide) (.int .i64 c.V)
  have y2 := RowsIn.set y1 (set_at (by first | omega | (simp; omega))) (o := 2) (by decide) (.int .i64 c.E)
  have y3 := RowsIn.set y2 (set_at (by first | omega | (simp; omega))) (o := 3) (by decide) (.int .i64 (gi c.X 0))
  have y4 := RowsIn.set y3 (set_at (by first | omega | (simp; omega))) (o := 4) (by decide) (.int .i64 (gi c.X 1))
  have y5 := RowsIn.set y4 (set_at (by first | omega | (simp; omega))) (o := 5) (by decide) (.int .i64 (gi c.X 2))
  have y6 := RowsIn.set y5 (set_at (by first | omega | (simp; omega))) (o := 6) (by decide) (.slice ar c.Ret.length cr)
  rw [List.set_set, List.set_set, List.set_set, List.set_set, List.set_set, List.set_set] at y6
  refine bodyPost_ret (ret_cell ((((((((((((B2.setOther (by omega) _).setOther (by omega) _).setOther (by omega) _).setOther (by omega) _).setOther (by omega) _).setOther (by omega) _).setOther (by omega) _).setCell _).setCell _).setCell _).setCell _).setCell _) Proofs.Try.results92 rfl Proofs.Try.underlying83 rfl (by kernel_rfl)) rfl ⟨_, rfl, exn, ?_⟩
  refine IsSys.mk rfl (IsInts.keep hw (show Ext w _ from exn).keep) (IsInts.keep hg (show Ext w _ from exn).keep) ?_ (IsEvs.keep hl (show Ext w _ from exn).keep)
  have hrl : rows.length = s.C.length := hRl
  refine cores_of_rows (lo := w.heap.size) (hi := w.heap.size + 10) ((((((((((((hB.setCell _).setCell _).setCell _).setCell _).setCell _).setCell _).setCell _).setOther (by omega) _).setOther (by omega) _).setOther (by omega) _).setOther (by omega) _).setOther (by omega) _) y6 hrl hRR ?_ (fun hx => absurd (hN _ hx) (by omega)) ?_ hc1 hc2
  · exact (by with_reducible (repeat (first | assumption | exact Keep.refl _ _ | refine Keep.alloc ?_ _ | refine Keep.s ?_ (by first | assumption | exact Bx.mem (by omega) (by omega)) | refine Keep.n ?_ (by omega) | refine Keep.ext ?_ (by assumption) | refine Keep.drew ?_)))
  · exact ⟨h3, _, _, rfl, IsFrames.keep hf (show Ext w _ from exn).keep, IsInts.keep hr (show Ext w _ from exn).keep⟩

/-- a slice that the call made: it stands in a block from base on -/
def OwnSl {α : Type} (sz : Nat) (e : TypeId) (R : World → α → List Value → Prop) (base : Nat) (w : World) (v : Value) (l : List α) : Prop :=
  ∃ xs, w.ownsRow base e sz v l.length xs ∧ ∀ i x, l[i]? = some x → ∃ r, r.length = sz ∧ (∀ j c, r[j]? = some c → xs[i * sz + j]? = some c) ∧ R w x r
theorem list_lt {α : Type} {l : List α} {k : Nat} {x : α} (h : l[k]? = some x) : k < l.length := by
  rcases Nat.lt_or_ge k l.length with h' | h'
  · exact h'
  · rw [List.getElem?_eq_none h'] at h; cases h
theorem OwnSl.sl {α : Type} {sz : Nat} {e : TypeId} {R : World → α → List Value → Prop} {base : Nat} {w : World} {v : Value} {l : List α} (h : OwnSl sz e R base w v l) {N : Nat → Prop} (hn : ∀ b, base ≤ b → ¬ N b) : IsSl sz R N w v l := by
  obtain ⟨xs, ⟨h1, h2⟩, h3⟩ := h
  rcases h2 with ⟨rfl, h2⟩ | ⟨g, cap, cur, rfl, hb, hg, hc, hm, hs, ht⟩
  · have : l = [] := List.eq_nil_of_length_eq_zero h2
    subst this
    exact ⟨none, 0, rfl, by simp, by omega, fun _ => rfl, fun i x hi => by simp at hi⟩
  · refine ⟨_, cap, rfl, hc, by simpa [maxLen] using hm, fun e => by simp at e, fun i x hi => ?_⟩
    obtain ⟨r, r1, r2, r3⟩ := h3 i x hi
    have hB : Box w g cur e := hg
    refine ⟨g, 0, r, rfl, hB.lt, hn _ hb, r1, fun j c hj => ?_, r3⟩
    have h4 := r2 j c hj
    have h5 := list_lt h4
    rw [Nat.zero_add]
    refine hB.cell ?_
    rw [nth_eq]
    rw [← ht, List.getElem?_take] at h4
    split at h4
    · exact h4
    · cases h4
theorem OwnSl.shape {α : Type} {sz : Nat} {e : TypeId} {R : World → α → List Value → Prop} {base : Nat} {w : World} {v : Value} {l : List α} (h : OwnSl sz e R base w v l) : ∃ a c, v = .slice a l.length c ∧ l.length ≤ c ∧ c ≤ 9223372036854775807 := by
  obtain ⟨xs, ⟨h1, h2⟩, h3⟩ := h
  rcases h2 with ⟨rfl, h2⟩ | ⟨g, cap, cur, rfl, hb, hg, hc, hm, hs, ht⟩
  · exact ⟨none, 0, by rw [h2], by omega, by omega⟩
  · exact ⟨_, _, rfl, hc, by simpa [maxLen] using hm⟩
theorem OwnSl.nil {α : Type} {sz : Nat} {e : TypeId} {R : World → α → List Value → Prop} {base : Nat} {w : World} {g : Nat} (hB : Box w g #[] e) (hb : base ≤ g) : OwnSl (α := α) sz e R base w (.slice (some ⟨g, 0, none⟩) 0 0) [] :=
  ⟨[], ⟨by simp, .inr ⟨g, 0, #[], rfl, hb, hB, Nat.le_refl _, by simp [maxLen], by simp, by simp⟩⟩, fun i x hi => by simp at hi⟩
theorem OwnSl.none_ {α : Type} {sz : Nat} {e : TypeId} {R : World → α → List Value → Prop} {base : Nat} {w : World} : OwnSl (α := α) sz e R base w (.slice none 0 0) [] :=
  ⟨[], ⟨by simp, .inl ⟨rfl, rfl⟩⟩, fun i x hi => by simp at hi⟩
/-- what keeps every block but the slice's own -/
theorem grown_keep {w w' : World} {row : Option Nat} (h : w.grownBy w' row) {N : Nat → Prop} (hN : ∀ k, row = some k → N k) : Keep N w w' :=
  ⟨h.size, fun b hb hn => h.block b hb fun e => hn (hN b e.symm)⟩
theorem grown_ext {a w w' : World} {row : Option Nat} (h : w.grownBy w' row) (ha : Ext a w) (hr : ∀ k, row = some k → a.heap.size ≤ k) : Ext a w' :=
  ⟨h.os.trans ha.os, h.tape.trans ha.tape, h.output.trans ha.output, Nat.le_trans ha.size h.size, fun i hi => (h.block i (Nat.lt_of_lt_of_le hi ha.size) fun e => by have := hr i e.symm; omega).trans (ha.block i hi)⟩
theorem OwnSl.base {α : Type} {sz : Nat} {e : TypeId} {R : World → α → List Value → Prop} {base : Nat} {w : World} {v : Value} {l : List α} (h : OwnSl sz e R base w v l) : ∀ k, v.ownBlock = some k → base ≤ k := by
  obtain ⟨xs, ⟨h1, h2⟩, h3⟩ := h
  rcases h2 with ⟨rfl, h2⟩ | ⟨g, cap, cur, rfl, hb, hg, hc, hm, hs, ht⟩
  · intro k hk; cases hk
  · intro k hk; cases hk; exact hb
theorem OwnSl.keep {α : Type} {sz : Nat} {e : TypeId} {R : World → α → List Value → Prop} {base : Nat} {w w' : World} {v : Value} {l : List α} (h : OwnSl sz e R base w v l) {N : Nat → Prop} (k : Keep N w w') (hn : ∀ b, v.ownBlock = some b → ¬ N b) (hR : ∀ x cs, R w x cs → R w' x cs) : OwnSl sz e R base w' v l := by
  obtain ⟨xs, ⟨h1, h2⟩, h3⟩ := h
  refine ⟨xs, ⟨h1, ?_⟩, fun i x hi => by obtain ⟨r, r1, r2, r3⟩ := h3 i x hi; exact ⟨r, r1, r2, hR _ _ r3⟩⟩
  rcases h2 with ⟨rfl, h2⟩ | ⟨g, cap, cur, rfl, hb, hg, hc, hm, hs, ht⟩
  · exact .inl ⟨rfl, h2⟩
  · have hB : Box w g cur e := hg
    exact .inr ⟨g, cap, cur, rfl, hb, hB.keep k (hn g rfl), hc, hm, hs, ht⟩
theorem src_nil {t e : TypeId} {sz : Nat} (ht : Proofs.Try.prog.underlying t = some (.slice e)) (w : World) : Src Proofs.Try.prog sz t (.slice none 0 0) 0 [] w where
  kind := .inl ⟨e, ht⟩
  len := fun w' => by simp [Builtin.lenOf]
  cells := by simp [Builtin.firstCells]
  cellsD := by simp [Builtin.firstCells]
  newsLen := by simp
  one := fun u hu => by simp at hu
theorem run_append_osl {α : Type} {sz : Nat} {R : World → α → List Value → Prop} {N : Nat → Prop} {w : World} {v vx : Value} {l1 l2 : List α} {t ty e : TypeId} {z : Value} {base : Nat} (hT : RowType t e sz z) (hzs : z.cells.size = sz) (hsz : 0 < sz) (h1 : OwnSl sz e R base w v l1) (h2 : IsSl sz R N w vx l2)
    (hone : ∀ x cs, R w x cs → ∀ c ∈ cs, c.oneCell' = true) (hR : ∀ w', w.grownBy w' v.ownBlock → ∀ x cs, R w x cs → R w' x cs) (hl : l1.length + l2.length ≤ 100000) (hbase : base ≤ w.heap.size) :
    ∃ a' c' w', (Builtin.append_ #[t, t] ty #[v, vx]).run Proofs.Try.prog w = .ok (.slice a' (l1 ++ l2).length c') w' ∧ OwnSl sz e R base w' (.slice a' (l1 ++ l2).length c') (l1 ++ l2) ∧ w.grownBy w' v.ownBlock := by
  obtain ⟨i, hi, hz, hs, hb⟩ := hT.info
  obtain ⟨cs, k1, k2, k3, a, cap, rfl, k6, k7, k8, k9⟩ := IsSl.flat hsz h2
  have h1' := h1
  obtain ⟨xs, hown, hxs⟩ := h1
  cases a with
  | none =>
    have hc0 := k8 rfl
    subst hc0
    have : l2 = [] := List.eq_nil_of_length_eq_zero (by omega)
    subst this
    obtain ⟨av, cv, rfl, hv1, _⟩ := h1'.shape
    have := run_append_nothing (P := Proofs.Try.prog) w t t ty e i hT.slice hi av l1.length cv hv1 (.slice none 0 0) (src_nil hT.slice w)
    refine ⟨av, cv, w, ?_, ?_, ?_⟩
    · simpa using this
    · simpa using h1'
    · exact ⟨rfl, rfl, rfl, Nat.le_refl _, fun _ _ _ => rfl⟩
  | some p =>
    obtain ⟨v', w', hrun, ho, hg, _⟩ := run_append_own (P := Proofs.Try.prog) w base t ty e i z sz i.bytes hT.slice hi hz hs rfl hzs hsz v l1.length xs hown p l2.length cap cs k1 (k9 p rfl)
      (fun c hc => by obtain ⟨i, x, r, _, hr, hcr⟩ := k3 c hc; exact hone x r hr c hcr) (by simp [maxLen]; omega) (Nat.le_trans (Nat.mul_le_mul hl hb) (by decide)) hbase
    have hO : OwnSl sz e R base w' v' (l1 ++ l2) := by
      refine ⟨xs ++ cs, by rw [List.length_append]; exact ho, fun i x hi => ?_⟩
      by_cases hil : i < l1.length
      · rw [List.getElem?_append_left hil] at hi
        obtain ⟨r, r1, r2, r3⟩ := hxs i x hi
        refine ⟨r, r1, fun j c hj => ?_, hR _ hg _ _ r3⟩
        have h4 := r2 j c hj
        rw [List.getElem?_append_left (list_lt h4)]; exact h4
      · rw [List.getElem?_append_right (by omega)] at hi
        obtain ⟨r, r1, r2, r3⟩ := k2 _ x hi
        refine ⟨r, r1, fun j c hj => ?_, hR _ hg _ _ r3⟩
        have h4 := r2 j c hj
        have hxl : xs.length = l1.length * sz := hown.1
        have hle : l1.length * sz ≤ i * sz := Nat.mul_le_mul_right _ (by omega)
        rw [List.getElem?_append_right (by omega), hxl]
        rw [show i * sz + j - l1.length * sz = (i - l1.length) * sz + j by rw [Nat.sub_mul]; omega]
        exact h4
    obtain ⟨a', c', e', _⟩ := hO.shape
    subst e'
    exact ⟨a', c', w', hrun, hO, hg⟩
section
variable {ops : Array Oper} {rest : List Oper} {o : Oper} {a : Act} {Q : Exit → Act → World → Prop} {w : World}
theorem wpList_append_osl {α : Type} {sz : Nat} {R : World → α → List Value → Prop} {N : Nat → Prop} {v vx : Value} {l1 l2 : List α} {t e : TypeId} {z : Value} {base : Nat} (s x : Operand) (hg : o.guard = none) (hop : o.op = Op.call { callee := Callee.builtin Builtin.append, args := #[s, x], argTypes := #[t, t] })
    (hs : a.eval s = v) (hx : a.eval x = vx) (hT : RowType t e sz z) (hzs : z.cells.size = sz) (hsz : 0 < sz) (h1 : OwnSl sz e R base w v l1) (h2 : IsSl sz R N w vx l2)
    (hone : ∀ x cs, R w x cs → ∀ c ∈ cs, c.oneCell' = true) (hR : ∀ w', w.grownBy w' v.ownBlock → ∀ x cs, R w x cs → R w' x cs) (hl : l1.length + l2.length ≤ 100000) (hbase : base ≤ w.heap.size)
    (hK : ∀ a' c' w', OwnSl sz e R base w' (.slice a' (l1 ++ l2).length c') (l1 ++ l2) → w.grownBy w' v.ownBlock → wpList Proofs.Try.prog ops Q rest (a.put o.dst (.slice a' (l1 ++ l2).length c')) w') : wpList Proofs.Try.prog ops Q (o :: rest) a w := by
  refine wpList_plain hg fun K hK' => ?_
  obtain ⟨a', c', w', hrun, r1, r2⟩ := run_append_osl (ty := o.type) hT hzs hsz h1 h2 hone hR hl hbase
  unfold Oper.wp
  simp [execOp, hop, resolve, invoke, builtin, hs, hx, hrun, Result.andThen]
  have h3 := hK a' c' w' r1 r2
  rw [show (l1 ++ l2).length = l1.length + l2.length from List.length_append] at h3
  exact hK' _ _ h3
end
theorem one_frame {N : Nat → Prop} {w : World} : ∀ x cs, RF N w x cs → ∀ c ∈ cs, c.oneCell' = true := by
  rintro x cs ⟨_, s, rfl, hs⟩ c hc
  obtain ⟨_, _, rfl, _⟩ := hs.opened
  simp [frameCells] at hc
  rcases hc with rfl | rfl | rfl | rfl | rfl | rfl | rfl | rfl | rfl | rfl | rfl <;> rfl
theorem one_core {N : Nat → Prop} {w : World} : ∀ x cs, RC N w x cs → ∀ c ∈ cs, c.oneCell' = true := by
  rintro x cs ⟨_, f, r, rfl, hf, hr⟩ c hc
  obtain ⟨_, _, rfl, _⟩ := hr.opened
  obtain ⟨_, _, rfl, _⟩ := IsSl.opened hf
  simp [coreCells] at hc
  rcases hc with rfl | rfl | rfl | rfl | rfl | rfl | rfl <;> rfl
theorem one_ev {w : World} : ∀ x cs, RE w x cs → ∀ c ∈ cs, c.oneCell' = true := by
  rintro x cs rfl c hc
  simp at hc
  rcases hc with rfl | rfl | rfl | rfl | rfl <;> rfl
theorem zs11 : (Value.agg #[.int .i64 0, .int .i64 0, .int .i64 0, .int .i64 0, .int .i64 0, .int .i64 0, .int .i64 0, .int .i64 0, .int .i64 0, .int .i64 0, .slice none 0 0]).cells.size = 11 := by kernel_rfl
theorem zs5 : (Value.agg #[.int .i64 0, .int .i64 0, .int .i64 0, .int .i64 0, .int .i64 0]).cells.size = 5 := by kernel_rfl
theorem zs7 : zeroC.cells.size = 7 := by kernel_rfl

/-- N, and what is made from a world on -/
def Up (N : Nat → Prop) (w : World) : Nat → Prop := fun b => N b ∨ w.heap.size ≤ b
theorem Up.mem {N : Nat → Prop} {w : World} {x : Nat} (h : w.heap.size ≤ x) : Up N w x := .inr h
theorem Up.bx {N : Nat → Prop} {w : World} {hi x : Nat} (h : Bx N w.heap.size hi x) : Up N w x := h.elim .inl fun q => .inr q.1
theorem IsSys.up {N : Nat → Prop} {w : World} {v : Value} {s : SysD} (h : IsSys N w v s) : IsSys (Up N w) w v s := h.less fun _ hx hn => hn.elim id fun k => absurd k (by omega)
theorem IsInts.up {N : Nat → Prop} {w : World} {v : Value} {l : List Int} (h : IsInts N w v l) : IsInts (Up N w) w v l := h.less fun _ hx hn => hn.elim id fun k => absurd k (by omega)
theorem IsSys.bx {N : Nat → Prop} {w w' : World} {hi : Nat} {v : Value} {s : SysD} (h : IsSys (Up N w) w' v s) : IsSys (Bx N w.heap.size hi) w' v s := h.less fun _ _ hn => Up.bx hn
theorem IsInts.bx {N : Nat → Prop} {w w' : World} {hi : Nat} {v : Value} {l : List Int} (h : IsInts (Up N w) w' v l) : IsInts (Bx N w.heap.size hi) w' v l := h.less fun _ _ hn => Up.bx hn
theorem IsFrames.up {N : Nat → Prop} {w : World} {v : Value} {l : List FrameD} (h : IsFrames N w v l) : IsFrames (Up N w) w v l := IsFrames.less h fun _ hx hn => hn.elim id fun k => absurd k (by omega)
theorem OwnSl.lt {α : Type} {sz : Nat} {e : TypeId} {R : World → α → List Value → Prop} {base : Nat} {w : World} {v : Value} {l : List α} (h : OwnSl sz e R base w v l) : ∀ k, v.ownBlock = some k → k < w.heap.size := by
  obtain ⟨xs, ⟨h1, h2⟩, h3⟩ := h
  rcases h2 with ⟨rfl, h2⟩ | ⟨g, cap, cur, rfl, hb, hg, hc, hm, hs, ht⟩
  · intro k hk; cases hk
  · intro k hk; cases hk
    have hB : Box w g cur e := hg
    exact hB.lt
theorem OwnSl.extF {N : Nat → Prop} {base : Nat} {w w' : World} {v : Value} {l : List FrameD} (h : OwnSl 11 95 (RF N) base w v l) (k : Ext w w') : OwnSl 11 95 (RF N) base w' v l :=
  h.keep (N := no) k.keep (fun _ _ => id) fun _ _ h => h.keep k.keep
theorem IsSl.one {α : Type} {sz : Nat} {R : World → α → List Value → Prop} {w : World} {b : Nat} {cs : List Value} {e : TypeId} {x : α} (hB : Box w b cs.toArray e) (hs : cs.length = sz) (hR : R w x cs) : IsSl sz R no w (.slice (some ⟨b, 0, none⟩) 1 1) [x] := by
  refine ⟨_, 1, rfl, by simp, by omega, fun e => by simp at e, fun i y hi => ?_⟩
  have h0 : i = 0 := by have := list_lt hi; simp at this; omega
  subst h0
  simp at hi; subst hi
  refine ⟨b, 0, cs, rfl, hB.lt, id, hs, fun j c hj => ?_, hR⟩
  simp only [Nat.zero_mul, Nat.zero_add]
  exact hB.cell (by rw [nth_eq]; simpa using hj)
section
variable {ops : Array Oper} {rest : List Oper} {o : Oper} {a : Act} {Q : Exit → Act → World → Prop} {w : World}
theorem wpList_append_frames {N M : Nat → Prop} {v vx : Value} {l1 l2 : List FrameD} {base : Nat} (s x : Operand) (hg : o.guard = none) (hop : o.op = Op.call { callee := Callee.builtin Builtin.append, args := #[s, x], argTypes := #[114, 114] })
    (hs : a.eval s = v) (hx : a.eval x = vx) (h1 : OwnSl 11 95 (RF N) base w v l1) (h2 : IsSl 11 (RF N) M w vx l2) (hN : ∀ k, base ≤ k → N k) (hl : l1.length + l2.length ≤ 100000) (hbase : base ≤ w.heap.size)
    (hK : ∀ a' n' c' w', Hid (n' = (l1 ++ l2).length) → OwnSl 11 95 (RF N) base w' (.slice a' n' c') (l1 ++ l2) → (∀ b cs t, Box w b cs t → b < base → Box w' b cs t) → (∀ a, Ext a w → a.heap.size ≤ base → Ext a w') → w.heap.size ≤ w'.heap.size → wpList Proofs.Try.prog ops Q rest (a.put o.dst (.slice a' n' c')) w') : wpList Proofs.Try.prog ops Q (o :: rest) a w :=
  wpList_append_osl s x hg hop hs hx rowF zs11 (by decide) h1 h2 one_frame (fun w' g x cs h => RF.keep h (grown_keep g fun k hk => hN k (h1.base k hk))) hl hbase fun a' c' w' ho hgr =>
    hK a' _ c' w' (Lib.hid rfl) ho (fun b cs t hB hb => hB.keep (grown_keep (N := fun k => base ≤ k) hgr fun k hk => h1.base k hk) (by omega)) (fun a ha hsz => grown_ext hgr ha fun k hk => Nat.le_trans hsz (h1.base k hk)) hgr.size
end
theorem nil_ints (N : Nat → Prop) (w : World) : IsInts N w (.slice none 0 0) [] := ⟨none, 0, rfl, by simp, by omega, fun _ => rfl, fun i hi => by simp at hi⟩
theorem frames_set {N : Nat → Prop} {w cur : World} {hi b cap k n : Nat} {cells : Array Value} {rows : List (List Value)} {l : List FrameD} {g : FrameD} {s : Value} (hB : Box cur b cells 95) (hrows : RowsIn 11 cells (rows.set k (frameCells g s))) (hl : rows.length = l.length)
    (hR : ∀ (i : Nat) x r, l[i]? = some x → rows[i]? = some r → RF (Up N w) cur x r) (h8 : g.R.length = 8) (hs : IsInts (Up N w) cur s g.S) (hn : ¬ Bx N w.heap.size hi b) (hln : l.length = n) (hcap : n ≤ cap) (hm : cap ≤ 9223372036854775807) : IsFrames (Bx N w.heap.size hi) cur (.slice (some ⟨b, 0, none⟩) n cap) (l.set k g) := by
  subst hln
  have := IsSl.of_box (sz := 11) (R := RF (Bx N w.heap.size hi)) (N := Bx N w.heap.size hi) (cap := cap) (l := l.set k g) hB hn (by simpa using hcap) hm (fun i x hi => by
    have hil : i < l.length := by
      rcases Nat.lt_or_ge i l.length with h | h
      · exact h
      · rw [List.getElem?_eq_none (by simpa using h)] at hi; cases hi
    by_cases hik : k = i
    · subst hik
      rw [set_at hil] at hi; cases hi
      have := hrows k _ (set_at (by omega))
      exact ⟨_, this.1, this.2, h8, s, rfl, hs.less fun _ _ h => Up.bx h⟩
    · rw [List.getElem?_set_ne hik] at hi
      obtain ⟨r, hr⟩ := getSome (show i < rows.length by omega)
      have := hrows i r (by rw [List.getElem?_set_ne hik]; exact hr)
      exact ⟨r, this.1, this.2, (hR i x r hi hr).less fun _ _ h => Up.bx h⟩)
  simpa using this
section
variable {ops : Array Oper} {rest : List Oper} {o : Oper} {a : Act} {Q : Exit → Act → World → Prop} {w : World}
theorem wpList_append_alln {α : Type} {sz : Nat} {R : World → α → List Value → Prop} {N : Nat → Prop} {l : List α} {t e : TypeId} {z v : Value} {a0 : Addr} (n : Nat) (hn : l.length = n) (s x : Operand) (hg : o.guard = none) (hop : o.op = Op.call { callee := Callee.builtin Builtin.append, args := #[s, x], argTypes := #[t, t] })
    (hs : a.eval s = .slice (some a0) 0 0) (hx : a.eval x = v) (hT : RowType t e sz z) (hsz : 0 < sz) (h : IsSl sz R N w v l) (h0 : 0 < n) (hl : n ≤ 100000)
    (hK : ∀ cap w' cells rows, Ext w w' → n ≤ cap → cap ≤ 9223372036854775807 → Box w' w.heap.size cells e → RowsIn sz cells rows → rows.length = n → (∀ (i : Nat) x r, l[i]? = some x → rows[i]? = some r → R w x r) →
      wpList Proofs.Try.prog ops Q rest (a.put o.dst (.slice (some ⟨w.heap.size, 0, none⟩) n cap)) w') : wpList Proofs.Try.prog ops Q (o :: rest) a w := by
  subst hn
  exact wpList_append_all s x hg hop hs hx hT hsz h h0 hl hK
end
theorem list11 {l : List Value} (h : l.length = 11) : ∃ a b c d e f g i j k m, l = [a, b, c, d, e, f, g, i, j, k, m] := by
  match l, h with
  | [a, b, c, d, e, f, g, i, j, k, m], _ => exact ⟨a, b, c, d, e, f, g, i, j, k, m, rfl⟩

theorem IsCoreV.mk {N : Nat → Prop} {w : World} {f r : Value} {c : CoreD} (h3 : c.X.length = 3) (hf : IsFrames N w f c.F) (hr : IsInts N w r c.Ret) : IsCoreV N w (.agg #[f, .int .i64 c.V, .int .i64 c.E, .int .i64 (gi c.X 0), .int .i64 (gi c.X 1), .int .i64 (gi c.X 2), r]) c :=
  ⟨_, rfl, h3, f, r, rfl, hf, hr⟩
theorem OwnSl.frames {N : Nat → Prop} {w w1 w2 : World} {lo hi base : Nat} {v : Value} {l : List FrameD} (h : OwnSl 11 95 (RF (Up N w)) base w1 v l) (hN : ∀ b, base ≤ b → ¬ Bx N lo hi b) (k : Keep (Bx N lo hi) w1 w2) (hlo : w.heap.size ≤ lo := by omega) : IsFrames (Bx N lo hi) w2 v l := by
  have h1 : IsSl 11 (RF (Up N w)) (Bx N lo hi) w1 v l := h.sl hN
  have h2 : IsSl 11 (RF (Bx N lo hi)) (Bx N lo hi) w1 v l := IsSl.less h1 (fun _ _ h => h) fun _ _ _ h => h.less fun _ _ h => h.elim .inl fun q => .inr (Nat.le_trans hlo q.1)
  exact IsFrames.keep h2 k
set_option maxHeartbeats 1000000 in
set_option maxRecDepth 100000 in
theorem refCall_ (N : Nat → Prop) (va : Value) (s : SysD) (id op a1 b1 c1 : Int) (w : World) (h : IsSys N w va s) (hN : ∀ b, N b → b < w.heap.size) (hC : s.C.length ≤ 100000) :
    Gives Proofs.Try.prog 88 #[va, .int .i64 id, .int .i64 op, .int .i64 a1, .int .i64 b1, .int .i64 c1] w (fun r w' => IsSys N w' r (callS s id op [a1, b1, c1])) := by
  obtain ⟨aw, cw, ag, cg, ac, cc, al, cl, rfl, hw, hg, hc, hl⟩ := h.opened
  cases hh : hasD s id
  · have hd : callS s id op [a1, b1, c1] = s := by simp [callS, hh]
    rw [hd]
    by_cases q : id < 0
    · clear hh hd
      go_enter Proofs.Try.func88, Proofs.Try.ntmps88
      go_wp2
      exact bodyPost_ret (ret_cell (Box.newAt _ _ _ (by first | rfl | simp)) Proofs.Try.results88 rfl Proofs.Try.underlying83 rfl (by kernel_rfl)) rfl ⟨_, rfl, exn, IsSys.mk rfl (hw.ext exn) (hg.ext exn) (IsCores.keep hc (show Ext w _ from exn).keep) (IsEvs.keep hl (show Ext w _ from exn).keep)⟩
    · have q2 : (s.C.length : Int) ≤ id := (by simp [hasD] at hh; omega)
      clear hh hd
      go_enter Proofs.Try.func88, Proofs.Try.ntmps88
      go_wp2
      exact bodyPost_ret (ret_cell (Box.newAt _ _ _ (by first | rfl | simp)) Proofs.Try.results88 rfl Proofs.Try.underlying83 rfl (by kernel_rfl)) rfl ⟨_, rfl, exn, IsSys.mk rfl (hw.ext exn) (hg.ext exn) (IsCores.keep hc (show Ext w _ from exn).keep) (IsEvs.keep hl (show Ext w _ from exn).keep)⟩
  · obtain ⟨k, rfl⟩ : ∃ k : Nat, id = k := ⟨id.toNat, by simp [hasD] at hh; omega⟩
    have hk : k < s.C.length := by simp [hasD] at hh; omega
    have q0 : ¬ (k : Int) < 0 := by omega
    have q1 : ¬ (s.C.length : Int) ≤ (k : Int) := by omega
    have q3 : ¬ s.C.length ≤ k := by omega
    obtain ⟨co, hck⟩ := getSome hk
    obtain ⟨bc, oc, af, cf, ar, cr, rfl, xc, nc, hx3, hf, hr, e0, e1, e2, e3, e4, e5, e6⟩ := IsCores.at hc hck
    by_cases hfull : co.F.length < 40
    · have hf1 : ¬ (40 : Int) ≤ (co.F.length : Int) := by omega
      have hd : callS s k op [a1, b1, c1] = withS s k (callC co (newF op [a1, b1, c1])) := by simp [callS, hh, hck, hfull]
      rw [hd]
      have hfU := IsFrames.up hf
      have hN1 : ∀ b, w.heap.size + 1 + 1 + 1 ≤ b → ¬ Bx N w.heap.size (w.heap.size + 3) b := fun b hb hn => hn.elim (fun hn => by have := hN b hn; omega) fun q => by have := q.2; omega
      have hwB := IsInts.less hw (M := Bx N w.heap.size (w.heap.size + 3)) fun x hx hn => Bx.new hx hn
      have hgB := IsInts.less hg (M := Bx N w.heap.size (w.heap.size + 3)) fun x hx hn => Bx.new hx hn
      have hcB := IsCores.less hc (M := Bx N w.heap.size (w.heap.size + 3)) fun x hx hn => Bx.new hx hn
      have hlB := IsEvs.less hl (M := Bx N w.heap.size (w.heap.size + 3)) fun x hx hn => Bx.new hx hn
      have hrB := IsInts.less hr (M := Bx N w.heap.size (w.heap.size + 3)) fun x hx hn => Bx.new hx hn
      clear hh hd hck
      go_enter Proofs.Try.func88, Proofs.Try.ntmps88
      go_wp2_with (first | (at_builtin; refine wpList_append_frames (base := w.heap.size + 1 + 1 + 1) (.tmp 40) (.tmp 42) rfl rfl rfl rfl (OwnSl.nil (Box.newAt _ _ _ (by first | rfl | simp)) (Nat.le_refl _)) (IsFrames.keep hfU (show Ext w _ from exq).keep) (fun k hk => .inr (by omega)) (by first | omega | (simp <;> omega)) (by first | omega | (simp <;> omega)) ?_; intro fa1 fa1n fc1 w1 Hfa1 ho1 kb1 kx1 ks1; have hb1 : Ext w w1 := kx1 w exq (by omega); have B0_1 : Box w1 (w.heap.size) #[.slice aw s.M.W.length cw, .slice ag s.M.G.length cg, .bool s.M.bad, .slice (some ⟨bc, oc, none⟩) s.C.length cc, .slice al s.L.length cl] 83 := kb1 _ _ _ ((((Box.newAt _ _ _ (by first | rfl | simp)).alloc _).alloc _).alloc _) (by omega); have B1_1 : Box w1 (w.heap.size + 1) #[.slice none 0 0, .slice none 0 0, .bool false, .slice none 0 0, .slice none 0 0] 83 := kb1 _ _ _ (((Box.newAt _ _ _ (by first | rfl | simp)).alloc _).alloc _) (by omega); have B2_1 : Box w1 (w.heap.size + 1 + 1) #[.slice af co.F.length cf, .int .i64 co.V, .int .i64 co.E, .int .i64 (gi co.X 0), .int .i64 (gi co.X 1), .int .i64 (gi co.X 2), .slice ar co.Ret.length cr] 116 := kb1 _ _ _ ((Box.newAt _ _ _ (by first | rfl | simp)).alloc _) (by omega); have s1 : w.heap.size + 4 ≤ w1.heap.size := (by have h := ks1; simp at h; omega); obtain ⟨c0_0, c0_1, c0_2, c0_3, c0_4, d0_0, d0_1, d0_2, d0_3, d0_4⟩ := cells5 B0_1; have z0 : w.heap.size < w1.heap.size := B0_1.lt; obtain ⟨c1_0, c1_1, c1_2, c1_3, c1_4, d1_0, d1_1, d1_2, d1_3, d1_4⟩ := cells5 B1_1; have z1 : w.heap.size + 1 < w1.heap.size := B1_1.lt; obtain ⟨c2_0, c2_1, c2_2, c2_3, c2_4, c2_5, c2_6, d2_0, d2_1, d2_2, d2_3, d2_4, d2_5, d2_6⟩ := cells7 B2_1; have z2 : w.heap.size + 1 + 1 < w1.heap.size := B2_1.lt) | (at_builtin; refine wpList_append_frames (base := w.heap.size + 1 + 1 + 1) (.tmp 44) (.tmp 51) rfl rfl rfl rfl (OwnSl.extF ho1 exq) (IsSl.one (sz := 11) (cs := frameCells (newF op [a1, b1, c1]) (.slice none 0 0)) (Box.newAt _ _ _ rfl) rfl ⟨rfl, _, rfl, nil_ints _ _⟩) (fun k hk => .inr (by omega)) (by first | omega | (simp <;> omega)) (by first | omega | (simp <;> omega)) ?_; intro fa2 fa2n fc2 w2 Hfa2 ho2 kb2 kx2 ks2; have hb2 : Ext w w2 := kx2 w exq (by omega); have B0_2 : Box w2 (w.heap.size) #[.slice aw s.M.W.length cw, .slice ag s.M.G.length cg, .bool s.M.bad, .slice (some ⟨bc, oc, none⟩) s.C.length cc, .slice al s.L.length cl] 83 := kb2 _ _ _ (B0_1.alloc _) (by omega); have B1_2 : Box w2 (w.heap.size + 1) #[.slice none 0 0, .slice none 0 0, .bool false, .slice none 0 0, .slice none 0 0] 83 := kb2 _ _ _ (B1_1.alloc _) (by omega); have B2_2 : Box w2 (w.heap.size + 1 + 1) #[.slice af co.F.length cf, .int .i64 co.V, .int .i64 co.E, .int .i64 (gi co.X 0), .int .i64 (gi co.X 1), .int .i64 (gi co.X 2), .slice ar co.Ret.length cr] 116 := kb2 _ _ _ (B2_1.alloc _) (by omega); clear c0_0 c0_1 c0_2 c0_3 c0_4 d0_0 d0_1 d0_2 d0_3 d0_4 z0 c1_0 c1_1 c1_2 c1_3 c1_4 d1_0 d1_1 d1_2 d1_3 d1_4 z1 c2_0 c2_1 c2_2 c2_3 c2_4 c2_5 c2_6 d2_0 d2_1 d2_2 d2_3 d2_4 d2_5 d2_6 z2; have s2 : w1.heap.size + 1 ≤ w2.heap.size := (by have h := ks2; simp at h; omega); obtain ⟨c0_0, c0_1, c0_2, c0_3, c0_4, d0_0, d0_1, d0_2, d0_3, d0_4⟩ := cells5 B0_2; have z0 : w.heap.size < w2.heap.size := B0_2.lt; obtain ⟨c1_0, c1_1, c1_2, c1_3, c1_4, d1_0, d1_1, d1_2, d1_3, d1_4⟩ := cells5 B1_2; have z1 : w.heap.size + 1 < w2.heap.size := B1_2.lt; obtain ⟨c2_0, c2_1, c2_2, c2_3, c2_4, c2_5, c2_6, d2_0, d2_1, d2_2, d2_3, d2_4, d2_5, d2_6⟩ := cells7 B2_2; have z2 : w.heap.size + 1 + 1 < w2.heap.size := B2_2.lt))
      go_at_call 92
      refine (with_ (Bx N w.heap.size (w.heap.size + 3)) _ _ s k (callC co (newF op [a1, b1, c1])) _ (IsSys.mk rfl (IsInts.keep hwB (by with_reducible (repeat (first | assumption | exact Keep.refl _ _ | refine Keep.alloc ?_ _ | refine Keep.s ?_ (by first | assumption | exact Bx.mem (by omega) (by omega) | exact Up.mem (by omega)) | refine Keep.n ?_ (by omega) | refine Keep.ext ?_ (by assumption) | refine Keep.drew ?_)))) (IsInts.keep hgB (by with_reducible (repeat (first | assumption | exact Keep.refl _ _ | refine Keep.alloc ?_ _ | refine Keep.s ?_ (by first | assumption | exact Bx.mem (by omega) (by omega) | exact Up.mem (by omega)) | refine Keep.n ?_ (by omega) | refine Keep.ext ?_ (by assumption) | refine Keep.drew ?_)))) (IsCores.keep hcB (by with_reducible (repeat (first | assumption | exact Keep.refl _ _ | refine Keep.alloc ?_ _ | refine Keep.s ?_ (by first | assumption | exact Bx.mem (by omega) (by omega) | exact Up.mem (by omega)) | refine Keep.n ?_ (by omega) | refine Keep.ext ?_ (by assumption) | refine Keep.drew ?_)))) (IsEvs.keep hlB (by with_reducible (repeat (first | assumption | exact Keep.refl _ _ | refine Keep.alloc ?_ _ | refine Keep.s ?_ (by first | assumption | exact Bx.mem (by omega) (by omega) | exact Up.mem (by omega)) | refine Keep.n ?_ (by omega) | refine Keep.ext ?_ (by assumption) | refine Keep.drew ?_)))) : IsSys (Bx N w.heap.size (w.heap.size + 3)) _ _ s) (IsCoreV.mk hx3 (OwnSl.frames (lo := w.heap.size) (hi := w.heap.size + 3) ho2 hN1 (by with_reducible (repeat (first | assumption | exact Keep.refl _ _ | refine Keep.alloc ?_ _ | refine Keep.s ?_ (by first | assumption | exact Bx.mem (by omega) (by omega) | exact Up.mem (by omega)) | refine Keep.n ?_ (by omega) | refine Keep.ext ?_ (by assumption) | refine Keep.drew ?_)))) (IsInts.keep hrB (by with_reducible (repeat (first | assumption | exact Keep.refl _ _ | refine Keep.alloc ?_ _ | refine Keep.s ?_ (by first | assumption | exact Bx.mem (by omega) (by omega) | exact Up.mem (by omega)) | refine Keep.n ?_ (by omega) | refine Keep.ext ?_ (by assumption) | refine Keep.drew ?_))))) (fun b hb => (by have h := hb.elim (fun q => (by have := hN b q; omega : b < w.heap.size + 3)) (fun q => (by have := q.2; omega : b < w.heap.size + 3)); simp; omega)) hC hk).calls.mono ?_
      rintro e w3 ⟨_, rfl, hb3, hu3⟩
      obtain ⟨r1, r2, r3, r4, r5, r6, r7, r8, rfl, rW, rG, rC, rL⟩ := hu3.opened
      have B0_3 : Box w3 (w.heap.size) #[.slice aw s.M.W.length cw, .slice ag s.M.G.length cg, .bool s.M.bad, .slice (some ⟨bc, oc, none⟩) s.C.length cc, .slice al s.L.length cl] 83 := (B0_2.setOther (by first | omega | (simp <;> omega)) _).ext hb3
      have B1_3 : Box w3 (w.heap.size + 1) #[.slice none 0 0, .slice none 0 0, .bool false, .slice none 0 0, .slice none 0 0] 83 := (B1_2.setOther (by first | omega | (simp <;> omega)) _).ext hb3
      have B2_3 : Box w3 (w.heap.size + 1 + 1) #[.slice fa2 fa2n fc2, .int .i64 co.V, .int .i64 co.E, .int .i64 (gi co.X 0), .int .i64 (gi co.X 1), .int .i64 (gi co.X 2), .slice ar co.Ret.length cr] 116 := (B2_2.setCell _).ext hb3
      clear c0_0 c0_1 c0_2 c0_3 c0_4 d0_0 d0_1 d0_2 d0_3 d0_4 z0 c1_0 c1_1 c1_2 c1_3 c1_4 d1_0 d1_1 d1_2 d1_3 d1_4 z1 c2_0 c2_1 c2_2 c2_3 c2_4 c2_5 c2_6 d2_0 d2_1 d2_2 d2_3 d2_4 d2_5 d2_6 z2
      have s3 : w2.heap.size ≤ w3.heap.size := (by have h := hb3.size; simp at h; omega)
      obtain ⟨c0_0, c0_1, c0_2, c0_3, c0_4, d0_0, d0_1, d0_2, d0_3, d0_4⟩ := cells5 B0_3
      have z0 : w.heap.size < w3.heap.size := B0_3.lt
      obtain ⟨c1_0, c1_1, c1_2, c1_3, c1_4, d1_0, d1_1, d1_2, d1_3, d1_4⟩ := cells5 B1_3
      have z1 : w.heap.size + 1 < w3.heap.size := B1_3.lt
      obtain ⟨c2_0, c2_1, c2_2, c2_3, c2_4, c2_5, c2_6, d2_0, d2_1, d2_2, d2_3, d2_4, d2_5, d2_6⟩ := cells7 B2_3
      have z2 : w.heap.size + 1 + 1 < w3.heap.size := B2_3.lt
      go_wp2
      exact bodyPost_ret (ret_cell (((((B1_3.setCell _).setCell _).setCell _).setCell _).setCell _) Proofs.Try.results88 rfl Proofs.Try.underlying83 rfl (by kernel_rfl)) rfl ⟨_, rfl, exn, IsSys.less (IsSys.keep hu3 (by with_reducible (repeat (first | assumption | exact Keep.refl _ _ | refine Keep.alloc ?_ _ | refine Keep.s ?_ (by first | assumption | exact Bx.mem (by omega) (by omega) | exact Up.mem (by omega)) | refine Keep.n ?_ (by omega) | refine Keep.ext ?_ (by assumption) | refine Keep.drew ?_)))) (fun _ _ hn => .inl hn)⟩
    · have hf1 : (40 : Int) ≤ (co.F.length : Int) := by omega
      have hd : callS s k op [a1, b1, c1] = s := by simp [callS, hh, hck, hfull]
      rw [hd]
      clear hh hd hck
      go_enter Proofs.Try.func88, Proofs.Try.ntmps88
      go_wp2
      exact bodyPost_ret (ret_cell (Box.newAt _ _ _ (by first | rfl | simp)) Proofs.Try.results88 rfl Proofs.Try.underlying83 rfl (by kernel_rfl)) rfl ⟨_, rfl, exn, IsSys.mk rfl (hw.ext exn) (hg.ext exn) (IsCores.keep hc (show Ext w _ from exn).keep) (IsEvs.keep hl (show Ext w _ from exn).keep)⟩


theorem setC_frames {N : Nat → Prop} {w : World} {v : Value} {c : CoreD} {g : FrameD} {k1 : Nat} (hl : c.F.length = k1 + 1) (h : IsFrames N w v (c.F.set k1 g)) : IsFrames N w v (setC c g).F := by
  have e : (setC c g).F = c.F.set k1 g := by show c.F.set (c.F.length - 1) g = _; rw [hl]; rfl
  rw [e]; exact h
set_option maxHeartbeats 1000000 in
set_option maxRecDepth 100000 in
theorem refSet_ (N : Nat → Prop) (va vf : Value) (s : SysD) (id : Int) (g : FrameD) (w : World) (h : IsSys N w va s) (hf' : IsFrame N w vf g) (hN : ∀ b, N b → b < w.heap.size) (hC : s.C.length ≤ 100000) (hFm : ∀ (i : Nat) c, s.C[i]? = some c → c.F.length ≤ 100000) :
    Gives Proofs.Try.prog 89 #[va, .int .i64 id, vf] w (fun r w' => IsSys N w' r (setS s id g)) := by
  have kt := fun (w' : World) (e : Ext w w') => refTop_ N va s id w' (h.ext e)
  have hsU := h.up
  obtain ⟨aw, cw, ag, cg, ac, cc, al, cl, rfl, hw, hg, hc, hl⟩ := h.opened
  obtain ⟨ga, gc, rfl, g8, gs⟩ := hf'.opened
  have gsU := gs.up
  cases ht : topD s id with
  | none =>
    rw [show (topD s id).isSome = false by rw [ht]; rfl] at kt
    have hd : setS s id g = s := doS_none ht
    rw [hd]
    clear hd ht
    go_enter Proofs.Try.func89, Proofs.Try.ntmps89
    go_wp2_with (fail)
    go_at_call 82
    refine (kt _ exq).calls.mono ?_
    rintro e w1 ⟨_, rfl, hb1, u, rfl, hu1⟩
    obtain ⟨tf, htf⟩ : ∃ f, topF s id = f := ⟨_, rfl⟩
    rw [htf] at hu1
    clear htf
    obtain ⟨tfa, tfc, rfl, tf8, tfs⟩ := hu1.opened
    have B0_1 : Box w1 (w.heap.size) #[.slice aw s.M.W.length cw, .slice ag s.M.G.length cg, .bool s.M.bad, .slice ac s.C.length cc, .slice al s.L.length cl] 83 := (((Box.newAt _ _ _ (by first | rfl | simp)).alloc _).alloc _).ext hb1
    have B1_1 : Box w1 (w.heap.size + 1) #[.int .i64 g.op, .int .i64 g.pc, .int .i64 (gi g.R 0), .int .i64 (gi g.R 1), .int .i64 (gi g.R 2), .int .i64 (gi g.R 3), .int .i64 (gi g.R 4), .int .i64 (gi g.R 5), .int .i64 (gi g.R 6), .int .i64 (gi g.R 7), .slice ga g.S.length gc] 95 := ((Box.newAt _ _ _ (by first | rfl | simp)).alloc _).ext hb1
    have B2_1 : Box w1 (w.heap.size + 1 + 1) #[.slice none 0 0, .slice none 0 0, .bool false, .slice none 0 0, .slice none 0 0] 83 := (Box.newAt _ _ _ (by first | rfl | simp)).ext hb1
    have s1 : w.heap.size + 3 ≤ w1.heap.size := (by have h := hb1.size; simp at h; omega)
    obtain ⟨c0_0, c0_1, c0_2, c0_3, c0_4, d0_0, d0_1, d0_2, d0_3, d0_4⟩ := cells5 B0_1
    have z0 : w.heap.size < w1.heap.size := B0_1.lt
    obtain ⟨⟨c1_0, c1_1, c1_2, c1_3, c1_4, c1_5, c1_6, c1_7, c1_8, c1_9, c1_10⟩, d1_0, d1_1, d1_2, d1_3, d1_4, d1_5, d1_6, d1_7, d1_8, d1_9, d1_10⟩ := cells11 B1_1
    have z1 : w.heap.size + 1 < w1.heap.size := B1_1.lt
    obtain ⟨c2_0, c2_1, c2_2, c2_3, c2_4, d2_0, d2_1, d2_2, d2_3, d2_4⟩ := cells5 B2_1
    have z2 : w.heap.size + 1 + 1 < w1.heap.size := B2_1.lt
    go_wp2
    exact bodyPost_ret (ret_cell ((((((B2_1.setCell _).setCell _).setCell _).setCell _).setCell _).alloc _) Proofs.Try.results89 rfl Proofs.Try.underlying83 rfl (by kernel_rfl)) rfl ⟨_, rfl, exn, IsSys.mk rfl (hw.ext exn) (hg.ext exn) (IsCores.keep hc (show Ext w _ from exn).keep) (IsEvs.keep hl (show Ext w _ from exn).keep)⟩
  | some g0 =>
    obtain ⟨k, co, rfl, hck, hpos, _⟩ := top_some ht
    rw [show (topD s k).isSome = true by rw [ht]; rfl] at kt
    have hd : setS s k g = withS s k (setC co g) := doS_some ht hck
    rw [hd]
    have hk : k < s.C.length := by
      rcases Nat.lt_or_ge k s.C.length with h | h
      · exact h
      · rw [List.getElem?_eq_none h] at hck; cases hck
    have hk1 : (k : Int) < (s.C.length : Int) := by omega
    obtain ⟨k1, hlen0⟩ : ∃ k1, co.F.length = k1 + 1 := ⟨co.F.length - 1, by omega⟩
    have hk100 : k1 + 1 ≤ 100000 := by have := hFm k co hck; omega
    obtain ⟨bc, oc, af, cf, ar, cr, rfl, xc, nc, hx3, hf, hr, e0, e1, e2, e3, e4, e5, e6⟩ := IsCores.at hc hck
    have hwU := hw.up
    have hgU := hg.up
    have hcU := IsCores.less hc (M := Up N w) fun x hx hn => hn.elim id fun k => absurd k (by omega)
    have hlU := IsEvs.less hl (M := Up N w) fun x hx hn => hn.elim id fun k => absurd k (by omega)
    have hfU := IsFrames.up hf
    have hrU := hr.up
    have hNR : ∀ w1 : World, w.heap.size + 3 ≤ w1.heap.size → ¬ Bx N w.heap.size (w.heap.size + 3) (w1.heap.size + 1 + 1 + 1) := fun w1 h1 hn => hn.elim (fun hn => by have := hN _ hn; omega) fun q => by have := q.2; omega
    have hlen := Lib.hid hlen0
    clear hlen0 hd ht hck
    go_enter Proofs.Try.func89, Proofs.Try.ntmps89
    go_wp2_with (fail)
    go_at_call 82
    refine (kt _ exq).calls.mono ?_
    rintro e w1 ⟨_, rfl, hb1, u, rfl, hu1⟩
    obtain ⟨tf, htf⟩ : ∃ f, topF s (k : Int) = f := ⟨_, rfl⟩
    rw [htf] at hu1
    clear htf
    obtain ⟨tfa, tfc, rfl, tf8, tfs⟩ := hu1.opened
    have hE1 : Ext w w1 := exq
    have xc1 : bc < w1.heap.size := Nat.lt_of_lt_of_le xc hE1.size
    have e0a := cell_ext e0 hE1
    have e1a := cell_ext e1 hE1
    have e2a := cell_ext e2 hE1
    have e3a := cell_ext e3 hE1
    have e4a := cell_ext e4 hE1
    have e5a := cell_ext e5 hE1
    have e6a := cell_ext e6 hE1
    have B0_1 : Box w1 (w.heap.size) #[.slice aw s.M.W.length cw, .slice ag s.M.G.length cg, .bool s.M.bad, .slice (some ⟨bc, oc, none⟩) s.C.length cc, .slice al s.L.length cl] 83 := (((Box.newAt _ _ _ (by first | rfl | simp)).alloc _).alloc _).ext hb1
    have B1_1 : Box w1 (w.heap.size + 1) #[.int .i64 g.op, .int .i64 g.pc, .int .i64 (gi g.R 0), .int .i64 (gi g.R 1), .int .i64 (gi g.R 2), .int .i64 (gi g.R 3), .int .i64 (gi g.R 4), .int .i64 (gi g.R 5), .int .i64 (gi g.R 6), .int .i64 (gi g.R 7), .slice ga g.S.length gc] 95 := ((Box.newAt _ _ _ (by first | rfl | simp)).alloc _).ext hb1
    have B2_1 : Box w1 (w.heap.size + 1 + 1) #[.slice none 0 0, .slice none 0 0, .bool false, .slice none 0 0, .slice none 0 0] 83 := (Box.newAt _ _ _ (by first | rfl | simp)).ext hb1
    have s1 : w.heap.size + 3 ≤ w1.heap.size := (by have h := hb1.size; simp at h; omega)
    obtain ⟨c0_0, c0_1, c0_2, c0_3, c0_4, d0_0, d0_1, d0_2, d0_3, d0_4⟩ := cells5 B0_1
    have z0 : w.heap.size < w1.heap.size := B0_1.lt
    obtain ⟨⟨c1_0, c1_1, c1_2, c1_3, c1_4, c1_5, c1_6, c1_7, c1_8, c1_9, c1_10⟩, d1_0, d1_1, d1_2, d1_3, d1_4, d1_5, d1_6, d1_7, d1_8, d1_9, d1_10⟩ := cells11 B1_1
    have z1 : w.heap.size + 1 < w1.heap.size := B1_1.lt
    obtain ⟨c2_0, c2_1, c2_2, c2_3, c2_4, d2_0, d2_1, d2_2, d2_3, d2_4⟩ := cells5 B2_1
    have z2 : w.heap.size + 1 + 1 < w1.heap.size := B2_1.lt
    go_wp2_with (at_builtin; refine wpList_append_alln (k1 + 1) hlen.out (.tmp 25) (.tmp 27) rfl rfl rfl rfl rowF (by decide) (IsFrames.keep hfU (by with_reducible (repeat (first | assumption | exact Keep.refl _ _ | refine Keep.alloc ?_ _ | refine Keep.s ?_ (by first | assumption | exact Bx.mem (by omega) (by omega) | exact Up.mem (by omega)) | refine Keep.n ?_ (by omega) | refine Keep.ext ?_ (by assumption) | refine Keep.drew ?_)))) (by omega) (by omega) ?_; intro cap2 w2 cells rows hb2 hc1 hc2 hB hR hRl hRR; have hB : Box w2 (w1.heap.size + 1 + 1 + 1) cells 95 := (by simpa using hB); have B0_2 : Box w2 (w.heap.size) #[.slice aw s.M.W.length cw, .slice ag s.M.G.length cg, .bool s.M.bad, .slice (some ⟨bc, oc, none⟩) s.C.length cc, .slice al s.L.length cl] 83 := (((B0_1.alloc _).alloc _).alloc _).ext hb2; have B1_2 : Box w2 (w.heap.size + 1) #[.int .i64 g.op, .int .i64 g.pc, .int .i64 (gi g.R 0), .int .i64 (gi g.R 1), .int .i64 (gi g.R 2), .int .i64 (gi g.R 3), .int .i64 (gi g.R 4), .int .i64 (gi g.R 5), .int .i64 (gi g.R 6), .int .i64 (gi g.R 7), .slice ga g.S.length gc] 95 := (((B1_1.alloc _).alloc _).alloc _).ext hb2; have B2_2 : Box w2 (w.heap.size + 1 + 1) #[.slice none 0 0, .slice none 0 0, .bool false, .slice none 0 0, .slice none 0 0] 83 := (((B2_1.alloc _).alloc _).alloc _).ext hb2; have B3_2 : Box w2 (w1.heap.size) #[.int .i64 tf.op, .int .i64 tf.pc, .int .i64 (gi tf.R 0), .int .i64 (gi tf.R 1), .int .i64 (gi tf.R 2), .int .i64 (gi tf.R 3), .int .i64 (gi tf.R 4), .int .i64 (gi tf.R 5), .int .i64 (gi tf.R 6), .int .i64 (gi tf.R 7), .slice tfa tf.S.length tfc] 95 := (((Box.newAt _ _ _ (by first | rfl | simp)).alloc _).alloc _).ext hb2; have B4_2 : Box w2 (w1.heap.size + 1) #[.slice af co.F.length cf, .int .i64 co.V, .int .i64 co.E, .int .i64 (gi co.X 0), .int .i64 (gi co.X 1), .int .i64 (gi co.X 2), .slice ar co.Ret.length cr] 116 := ((Box.newAt _ _ _ (by first | rfl | simp)).alloc _).ext hb2; clear c0_0 c0_1 c0_2 c0_3 c0_4 d0_0 d0_1 d0_2 d0_3 d0_4 z0 c1_0 c1_1 c1_2 c1_3 c1_4 c1_5 c1_6 c1_7 c1_8 c1_9 c1_10 d1_0 d1_1 d1_2 d1_3 d1_4 d1_5 d1_6 d1_7 d1_8 d1_9 d1_10 z1 c2_0 c2_1 c2_2 c2_3 c2_4 d2_0 d2_1 d2_2 d2_3 d2_4 z2; have s2 : w1.heap.size + 3 ≤ w2.heap.size := (by have h := hb2.size; simp at h; omega); obtain ⟨c0_0, c0_1, c0_2, c0_3, c0_4, d0_0, d0_1, d0_2, d0_3, d0_4⟩ := cells5 B0_2; have z0 : w.heap.size < w2.heap.size := B0_2.lt; obtain ⟨⟨c1_0, c1_1, c1_2, c1_3, c1_4, c1_5, c1_6, c1_7, c1_8, c1_9, c1_10⟩, d1_0, d1_1, d1_2, d1_3, d1_4, d1_5, d1_6, d1_7, d1_8, d1_9, d1_10⟩ := cells11 B1_2; have z1 : w.heap.size + 1 < w2.heap.size := B1_2.lt; obtain ⟨c2_0, c2_1, c2_2, c2_3, c2_4, d2_0, d2_1, d2_2, d2_3, d2_4⟩ := cells5 B2_2; have z2 : w.heap.size + 1 + 1 < w2.heap.size := B2_2.lt; obtain ⟨⟨c3_0, c3_1, c3_2, c3_3, c3_4, c3_5, c3_6, c3_7, c3_8, c3_9, c3_10⟩, d3_0, d3_1, d3_2, d3_3, d3_4, d3_5, d3_6, d3_7, d3_8, d3_9, d3_10⟩ := cells11 B3_2; have z3 : w1.heap.size < w2.heap.size := B3_2.lt; obtain ⟨c4_0, c4_1, c4_2, c4_3, c4_4, c4_5, c4_6, d4_0, d4_1, d4_2, d4_3, d4_4, d4_5, d4_6⟩ := cells7 B4_2; have z4 : w1.heap.size + 1 < w2.heap.size := B4_2.lt; have zb := hB.lt; obtain ⟨rk, hrk⟩ := getSome (show k1 < rows.length by omega); obtain ⟨rq0, rq1, rq2, rq3, rq4, rq5, rq6, rq7, rq8, rq9, rq10, rfl⟩ := list11 (hR k1 rk hrk).1; have m0 := hB.cell (off := k1 * 11) (c := rq0) (by rw [nth_eq]; simpa using (hR k1 _ hrk).2 0 _ rfl); have m1 := hB.cell (off := k1 * 11 + 1) (c := rq1) (by rw [nth_eq]; simpa using (hR k1 _ hrk).2 1 _ rfl); have m2 := hB.cell (off := k1 * 11 + 2) (c := rq2) (by rw [nth_eq]; simpa using (hR k1 _ hrk).2 2 _ rfl); have m3 := hB.cell (off := k1 * 11 + 3) (c := rq3) (by rw [nth_eq]; simpa using (hR k1 _ hrk).2 3 _ rfl); have m4 := hB.cell (off := k1 * 11 + 4) (c := rq4) (by rw [nth_eq]; simpa using (hR k1 _ hrk).2 4 _ rfl); have m5 := hB.cell (off := k1 * 11 + 5) (c := rq5) (by rw [nth_eq]; simpa using (hR k1 _ hrk).2 5 _ rfl); have m6 := hB.cell (off := k1 * 11 + 6) (c := rq6) (by rw [nth_eq]; simpa using (hR k1 _ hrk).2 6 _ rfl); have m7 := hB.cell (off := k1 * 11 + 7) (c := rq7) (by rw [nth_eq]; simpa using (hR k1 _ hrk).2 7 _ rfl); have m8 := hB.cell (off := k1 * 11 + 8) (c := rq8) (by rw [nth_eq]; simpa using (hR k1 _ hrk).2 8 _ rfl); have m9 := hB.cell (off := k1 * 11 + 9) (c := rq9) (by rw [nth_eq]; simpa using (hR k1 _ hrk).2 9 _ rfl); have m10 := hB.cell (off := k1 * 11 + 10) (c := rq10) (by rw [nth_eq]; simpa using (hR k1 _ hrk).2 10 _ rfl); have n0 := hB.frozen (off := k1 * 11); have n1 := hB.frozen (off := k1 * 11 + 1); have n2 := hB.frozen (off := k1 * 11 + 2); have n3 := hB.frozen (off := k1 * 11 + 3); have n4 := hB.frozen (off := k1 * 11 + 4); have n5 := hB.frozen (off := k1 * 11 + 5); have n6 := hB.frozen (off := k1 * 11 + 6); have n7 := hB.frozen (off := k1 * 11 + 7); have n8 := hB.frozen (off := k1 * 11 + 8); have n9 := hB.frozen (off := k1 * 11 + 9); have n10 := hB.frozen (off := k1 * 11 + 10))
    go_at_call 92
    have y0 := RowsIn.set (sz := 11) hR hrk (o := 0) (by decide) (.int .i64 g.op)
    have y1 := RowsIn.set y0 (set_at (by first | omega | (simp; omega))) (o := 1) (by decide) (.int .i64 g.pc)
    have y2 := RowsIn.set y1 (set_at (by first | omega | (simp; omega))) (o := 2) (by decide) (.int .i64 (gi g.R 0))
    have y3 := RowsIn.set y2 (set_at (by first | omega | (simp; omega))) (o := 3) (by decide) (.int .i64 (gi g.R 1))
    have y4 := RowsIn.set y3 (set_at (by first | omega | (simp; omega))) (o := 4) (by decide) (.int .i64 (gi g.R 2))
    have y5 := RowsIn.set y4 (set_at (by first | omega | (simp; omega))) (o := 5) (by decide) (.int .i64 (gi g.R 3))
    have y6 := RowsIn.set y5 (set_at (by first | omega | (simp; omega))) (o := 6) (by decide) (.int .i64 (gi g.R 4))
    have y7 := RowsIn.set y6 (set_at (by first | omega | (simp; omega))) (o := 7) (by decide) (.int .i64 (gi g.R 5))
    have y8 := RowsIn.set y7 (set_at (by first | omega | (simp; omega))) (o := 8) (by decide) (.int .i64 (gi g.R 6))
    have y9 := RowsIn.set y8 (set_at (by first | omega | (simp; omega))) (o := 9) (by decide) (.int .i64 (gi g.R 7))
    have y10 := RowsIn.set y9 (set_at (by first | omega | (simp; omega))) (o := 10) (by decide) (.slice ga g.S.length gc)
    rw [List.set_set, List.set_set, List.set_set, List.set_set, List.set_set, List.set_set, List.set_set, List.set_set, List.set_set, List.set_set] at y10
    refine (with_ (Bx N w.heap.size (w.heap.size + 3)) _ _ s k (setC co g) _ (IsSys.bx (IsSys.mk rfl (IsInts.keep hwU (by with_reducible (repeat (first | assumption | exact Keep.refl _ _ | refine Keep.alloc ?_ _ | refine Keep.s ?_ (by first | assumption | exact Bx.mem (by omega) (by omega) | exact Up.mem (by omega)) | refine Keep.n ?_ (by omega) | refine Keep.ext ?_ (by assumption) | refine Keep.drew ?_)))) (IsInts.keep hgU (by with_reducible (repeat (first | assumption | exact Keep.refl _ _ | refine Keep.alloc ?_ _ | refine Keep.s ?_ (by first | assumption | exact Bx.mem (by omega) (by omega) | exact Up.mem (by omega)) | refine Keep.n ?_ (by omega) | refine Keep.ext ?_ (by assumption) | refine Keep.drew ?_)))) (IsCores.keep hcU (by with_reducible (repeat (first | assumption | exact Keep.refl _ _ | refine Keep.alloc ?_ _ | refine Keep.s ?_ (by first | assumption | exact Bx.mem (by omega) (by omega) | exact Up.mem (by omega)) | refine Keep.n ?_ (by omega) | refine Keep.ext ?_ (by assumption) | refine Keep.drew ?_)))) (IsEvs.keep hlU (by with_reducible (repeat (first | assumption | exact Keep.refl _ _ | refine Keep.alloc ?_ _ | refine Keep.s ?_ (by first | assumption | exact Bx.mem (by omega) (by omega) | exact Up.mem (by omega)) | refine Keep.n ?_ (by omega) | refine Keep.ext ?_ (by assumption) | refine Keep.drew ?_)))) : IsSys (Up N w) _ _ s)) (IsCoreV.mk hx3 (setC_frames hlen.out (frames_set (hi := w.heap.size + 3) ((((((((((((hB.setCell _).setCell _).setCell _).setCell _).setCell _).setCell _).setCell _).setCell _).setCell _).setCell _).setCell _).setOther (by first | omega | (simp <;> omega)) _) y10 (hRl.trans hlen.out.symm) (fun i x r h1 h2 => RF.keep (hRR i x r h1 h2) (by with_reducible (repeat (first | assumption | exact Keep.refl _ _ | refine Keep.alloc ?_ _ | refine Keep.s ?_ (by first | assumption | exact Bx.mem (by omega) (by omega) | exact Up.mem (by omega)) | refine Keep.n ?_ (by omega) | refine Keep.ext ?_ (by assumption) | refine Keep.drew ?_)))) g8 (IsInts.keep gsU (by with_reducible (repeat (first | assumption | exact Keep.refl _ _ | refine Keep.alloc ?_ _ | refine Keep.s ?_ (by first | assumption | exact Bx.mem (by omega) (by omega) | exact Up.mem (by omega)) | refine Keep.n ?_ (by omega) | refine Keep.ext ?_ (by assumption) | refine Keep.drew ?_)))) (hNR w1 (by omega)) hlen.out hc1 hc2)) (IsInts.keep (IsInts.bx hrU) (by with_reducible (repeat (first | assumption | exact Keep.refl _ _ | refine Keep.alloc ?_ _ | refine Keep.s ?_ (by first | assumption | exact Bx.mem (by omega) (by omega) | exact Up.mem (by omega)) | refine Keep.n ?_ (by omega) | refine Keep.ext ?_ (by assumption) | refine Keep.drew ?_))))) (fun b hb => (by have h := hb.elim (fun q => (by have := hN b q; omega : b < w.heap.size + 3)) (fun q => (by have := q.2; omega : b < w.heap.size + 3)); simp; omega)) hC hk).calls.mono ?_
    rintro e w3 ⟨_, rfl, hb3, hu3⟩
    obtain ⟨r1, r2, r3, r4, r5, r6, r7, r8, rfl, rW, rG, rC, rL⟩ := hu3.opened
    have B0_3 : Box w3 (w.heap.size) #[.slice aw s.M.W.length cw, .slice ag s.M.G.length cg, .bool s.M.bad, .slice (some ⟨bc, oc, none⟩) s.C.length cc, .slice al s.L.length cl] 83 := ((((((((((((B0_2.setOther (by first | omega | (simp <;> omega)) _).setOther (by first | omega | (simp <;> omega)) _).setOther (by first | omega | (simp <;> omega)) _).setOther (by first | omega | (simp <;> omega)) _).setOther (by first | omega | (simp <;> omega)) _).setOther (by first | omega | (simp <;> omega)) _).setOther (by first | omega | (simp <;> omega)) _).setOther (by first | omega | (simp <;> omega)) _).setOther (by first | omega | (simp <;> omega)) _).setOther (by first | omega | (simp <;> omega)) _).setOther (by first | omega | (simp <;> omega)) _).setOther (by first | omega | (simp <;> omega)) _).ext hb3
    have B1_3 : Box w3 (w.heap.size + 1) #[.int .i64 g.op, .int .i64 g.pc, .int .i64 (gi g.R 0), .int .i64 (gi g.R 1), .int .i64 (gi g.R 2), .int .i64 (gi g.R 3), .int .i64 (gi g.R 4), .int .i64 (gi g.R 5), .int .i64 (gi g.R 6), .int .i64 (gi g.R 7), .slice ga g.S.length gc] 95 := ((((((((((((B1_2.setOther (by first | omega | (simp <;> omega)) _).setOther (by first | omega | (simp <;> omega)) _).setOther (by first | omega | (simp <;> omega)) _).setOther (by first | omega | (simp <;> omega)) _).setOther (by first | omega | (simp <;> omega)) _).setOther (by first | omega | (simp <;> omega)) _).setOther (by first | omega | (simp <;> omega)) _).setOther (by first | omega | (simp <;> omega)) _).setOther (by first | omega | (simp <;> omega)) _).setOther (by first | omega | (simp <;> omega)) _).setOther (by first | omega | (simp <;> omega)) _).setOther (by first | omega | (simp <;> omega)) _).ext hb3
    have B2_3 : Box w3 (w.heap.size + 1 + 1) #[.slice none 0 0, .slice none 0 0, .bool false, .slice none 0 0, .slice none 0 0] 83 := ((((((((((((B2_2.setOther (by first | omega | (simp <;> omega)) _).setOther (by first | omega | (simp <;> omega)) _).setOther (by first | omega | (simp <;> omega)) _).setOther (by first | omega | (simp <;> omega)) _).setOther (by first | omega | (simp <;> omega)) _).setOther (by first | omega | (simp <;> omega)) _).setOther (by first | omega | (simp <;> omega)) _).setOther (by first | omega | (simp <;> omega)) _).setOther (by first | omega | (simp <;> omega)) _).setOther (by first | omega | (simp <;> omega)) _).setOther (by first | omega | (simp <;> omega)) _).setOther (by first | omega | (simp <;> omega)) _).ext hb3
    have B3_3 : Box w3 (w1.heap.size) #[.int .i64 tf.op, .int .i64 tf.pc, .int .i64 (gi tf.R 0), .int .i64 (gi tf.R 1), .int .i64 (gi tf.R 2), .int .i64 (gi tf.R 3), .int .i64 (gi tf.R 4), .int .i64 (gi tf.R 5), .int .i64 (gi tf.R 6), .int .i64 (gi tf.R 7), .slice tfa tf.S.length tfc] 95 := ((((((((((((B3_2.setOther (by first | omega | (simp <;> omega)) _).setOther (by first | omega | (simp <;> omega)) _).setOther (by first | omega | (simp <;> omega)) _).setOther (by first | omega | (simp <;> omega)) _).setOther (by first | omega | (simp <;> omega)) _).setOther (by first | omega | (simp <;> omega)) _).setOther (by first | omega | (simp <;> omega)) _).setOther (by first | omega | (simp <;> omega)) _).setOther (by first | omega | (simp <;> omega)) _).setOther (by first | omega | (simp <;> omega)) _).setOther (by first | omega | (simp <;> omega)) _).setOther (by first | omega | (simp <;> omega)) _).ext hb3
    have B4_3 : Box w3 (w1.heap.size + 1) #[.slice (some ⟨w1.heap.size + 1 + 1 + 1, 0, none⟩) (k1 + 1) cap2, .int .i64 co.V, .int .i64 co.E, .int .i64 (gi co.X 0), .int .i64 (gi co.X 1), .int .i64 (gi co.X 2), .slice ar co.Ret.length cr] 116 := ((((((((((((B4_2.setOther (by first | omega | (simp <;> omega)) _).setOther (by first | omega | (simp <;> omega)) _).setOther (by first | omega | (simp <;> omega)) _).setOther (by first | omega | (simp <;> omega)) _).setOther (by first | omega | (simp <;> omega)) _).setOther (by first | omega | (simp <;> omega)) _).setOther (by first | omega | (simp <;> omega)) _).setOther (by first | omega | (simp <;> omega)) _).setOther (by first | omega | (simp <;> omega)) _).setOther (by first | omega | (simp <;> omega)) _).setOther (by first | omega | (simp <;> omega)) _).setCell _).ext hb3
    clear c0_0 c0_1 c0_2 c0_3 c0_4 d0_0 d0_1 d0_2 d0_3 d0_4 z0 c1_0 c1_1 c1_2 c1_3 c1_4 c1_5 c1_6 c1_7 c1_8 c1_9 c1_10 d1_0 d1_1 d1_2 d1_3 d1_4 d1_5 d1_6 d1_7 d1_8 d1_9 d1_10 z1 c2_0 c2_1 c2_2 c2_3 c2_4 d2_0 d2_1 d2_2 d2_3 d2_4 z2 c3_0 c3_1 c3_2 c3_3 c3_4 c3_5 c3_6 c3_7 c3_8 c3_9 c3_10 d3_0 d3_1 d3_2 d3_3 d3_4 d3_5 d3_6 d3_7 d3_8 d3_9 d3_10 z3 c4_0 c4_1 c4_2 c4_3 c4_4 c4_5 c4_6 d4_0 d4_1 d4_2 d4_3 d4_4 d4_5 d4_6 z4
    have s3 : w2.heap.size ≤ w3.heap.size := (by have h := hb3.size; simp at h; omega)
    obtain ⟨c0_0, c0_1, c0_2, c0_3, c0_4, d0_0, d0_1, d0_2, d0_3, d0_4⟩ := cells5 B0_3
    have z0 : w.heap.size < w3.heap.size := B0_3.lt
    obtain ⟨⟨c1_0, c1_1, c1_2, c1_3, c1_4, c1_5, c1_6, c1_7, c1_8, c1_9, c1_10⟩, d1_0, d1_1, d1_2, d1_3, d1_4, d1_5, d1_6, d1_7, d1_8, d1_9, d1_10⟩ := cells11 B1_3
    have z1 : w.heap.size + 1 < w3.heap.size := B1_3.lt
    obtain ⟨c2_0, c2_1, c2_2, c2_3, c2_4, d2_0, d2_1, d2_2, d2_3, d2_4⟩ := cells5 B2_3
    have z2 : w.heap.size + 1 + 1 < w3.heap.size := B2_3.lt
    obtain ⟨⟨c3_0, c3_1, c3_2, c3_3, c3_4, c3_5, c3_6, c3_7, c3_8, c3_9, c3_10⟩, d3_0, d3_1, d3_2, d3_3, d3_4, d3_5, d3_6, d3_7, d3_8, d3_9, d3_10⟩ := cells11 B3_3
    have z3 : w1.heap.size < w3.heap.size := B3_3.lt
    obtain ⟨c4_0, c4_1, c4_2, c4_3, c4_4, c4_5, c4_6, d4_0, d4_1, d4_2, d4_3, d4_4, d4_5, d4_6⟩ := cells7 B4_3
    have z4 : w1.heap.size + 1 < w3.heap.size := B4_3.lt
    go_wp2
    exact bodyPost_ret (ret_cell (((((B2_3.setCell _).setCell _).setCell _).setCell _).setCell _) Proofs.Try.results89 rfl Proofs.Try.underlying83 rfl (by kernel_rfl)) rfl ⟨_, rfl, exn, IsSys.less (IsSys.keep hu3 (by with_reducible (repeat (first | assumption | exact Keep.refl _ _ | refine Keep.alloc ?_ _ | refine Keep.s ?_ (by first | assumption | exact Bx.mem (by omega) (by omega) | exact Up.mem (by omega)) | refine Keep.n ?_ (by omega) | refine Keep.ext ?_ (by assumption) | refine Keep.drew ?_)))) (fun _ _ hn => .inl hn)⟩

theorem IsFrames.bx {N : Nat → Prop} {w w' : World} {hi : Nat} {v : Value} {l : List FrameD} (h : IsFrames (Up N w) w' v l) : IsFrames (Bx N w.heap.size hi) w' v l := IsFrames.less h fun _ _ hn => Up.bx hn
theorem backC_frames {N : Nat → Prop} {w : World} {v : Value} {c : CoreD} {x y : Int} {k1 : Nat} (hl : c.F.length = k1 + 1) (h : IsFrames N w v (c.F.take k1)) : IsFrames N w v (backC c x y).F := by
  have e : (backC c x y).F = c.F.take k1 := by show c.F.take (c.F.length - 1) = _; rw [hl]; rfl
  rw [e]; exact h
set_option maxHeartbeats 1000000 in
set_option maxRecDepth 100000 in
theorem refBack_ (N : Nat → Prop) (va : Value) (s : SysD) (id v e : Int) (w : World) (h : IsSys N w va s) (hN : ∀ b, N b → b < w.heap.size) (hC : s.C.length ≤ 100000) :
    Gives Proofs.Try.prog 90 #[va, .int .i64 id, .int .i64 v, .int .i64 e] w (fun r w' => IsSys N w' r (backS s id v e)) := by
  have kt := fun (w' : World) (e : Ext w w') => refTop_ N va s id w' (h.ext e)
  have hsU := h.up
  obtain ⟨aw, cw, ag, cg, ac, cc, al, cl, rfl, hw, hg, hc, hl⟩ := h.opened
  cases ht : topD s id with
  | none =>
    rw [show (topD s id).isSome = false by rw [ht]; rfl] at kt
    have hd : backS s id v e = s := doS_none ht
    rw [hd]
    clear hd ht
    go_enter Proofs.Try.func90, Proofs.Try.ntmps90
    go_wp2_with (fail)
    go_at_call 82
    refine (kt _ exq).calls.mono ?_
    rintro e w1 ⟨_, rfl, hb1, u, rfl, hu1⟩
    obtain ⟨tf, htf⟩ : ∃ f, topF s id = f := ⟨_, rfl⟩
    rw [htf] at hu1
    clear htf
    obtain ⟨tfa, tfc, rfl, tf8, tfs⟩ := hu1.opened
    have B0_1 : Box w1 (w.heap.size) #[.slice aw s.M.W.length cw, .slice ag s.M.G.length cg, .bool s.M.bad, .slice ac s.C.length cc, .slice al s.L.length cl] 83 := ((Box.newAt _ _ _ (by first | rfl | simp)).alloc _).ext hb1
    have B1_1 : Box w1 (w.heap.size + 1) #[.slice none 0 0, .slice none 0 0, .bool false, .slice none 0 0, .slice none 0 0] 83 := (Box.newAt _ _ _ (by first | rfl | simp)).ext hb1
    have s1 : w.heap.size + 2 ≤ w1.heap.size := (by have h := hb1.size; simp at h; omega)
    obtain ⟨c0_0, c0_1, c0_2, c0_3, c0_4, d0_0, d0_1, d0_2, d0_3, d0_4⟩ := cells5 B0_1
    have z0 : w.heap.size < w1.heap.size := B0_1.lt
    obtain ⟨c1_0, c1_1, c1_2, c1_3, c1_4, d1_0, d1_1, d1_2, d1_3, d1_4⟩ := cells5 B1_1
    have z1 : w.heap.size + 1 < w1.heap.size := B1_1.lt
    go_wp2
    exact bodyPost_ret (ret_cell ((((((B1_1.setCell _).setCell _).setCell _).setCell _).setCell _).alloc _) Proofs.Try.results90 rfl Proofs.Try.underlying83 rfl (by kernel_rfl)) rfl ⟨_, rfl, exn, IsSys.mk rfl (hw.ext exn) (hg.ext exn) (IsCores.keep hc (show Ext w _ from exn).keep) (IsEvs.keep hl (show Ext w _ from exn).keep)⟩
  | some g0 =>
    obtain ⟨k, co, rfl, hck, hpos, _⟩ := top_some ht
    rw [show (topD s k).isSome = true by rw [ht]; rfl] at kt
    have hd : backS s k v e = withS s k (backC co v e) := doS_some ht hck
    rw [hd]
    have hk : k < s.C.length := by
      rcases Nat.lt_or_ge k s.C.length with h | h
      · exact h
      · rw [List.getElem?_eq_none h] at hck; cases hck
    have hk1 : (k : Int) < (s.C.length : Int) := by omega
    obtain ⟨k1, hlen0⟩ : ∃ k1, co.F.length = k1 + 1 := ⟨co.F.length - 1, by omega⟩
    obtain ⟨bc, oc, af, cf, ar, cr, rfl, xc, nc, hx3, hf, hr, e0, e1, e2, e3, e4, e5, e6⟩ := IsCores.at hc hck
    have hwU := hw.up
    have hgU := hg.up
    have hcU := IsCores.less hc (M := Up N w) fun x hx hn => hn.elim id fun k => absurd k (by omega)
    have hlU := IsEvs.less hl (M := Up N w) fun x hx hn => hn.elim id fun k => absurd k (by omega)
    have hfU := IsFrames.up hf
    have hrU := hr.up
    obtain ⟨hcf1, hcf2, pf, rfl⟩ : co.F.length ≤ cf ∧ cf ≤ 9223372036854775807 ∧ ∃ p, af = some p := by
      obtain ⟨a', c', e', h1, h2, h3, h4⟩ := hf
      cases e'
      refine ⟨h1, h2, ?_⟩
      cases af with
      | none => have := h3 rfl; omega
      | some p => exact ⟨p, rfl⟩
    rw [hlen0] at e0 hcf1
    have hlen := Lib.hid hlen0
    clear hlen0 hd ht hck
    go_enter Proofs.Try.func90, Proofs.Try.ntmps90
    go_wp2_with (fail)
    go_at_call 82
    refine (kt _ exq).calls.mono ?_
    rintro e w1 ⟨_, rfl, hb1, u, rfl, hu1⟩
    obtain ⟨tf, htf⟩ : ∃ f, topF s (k : Int) = f := ⟨_, rfl⟩
    rw [htf] at hu1
    clear htf
    obtain ⟨tfa, tfc, rfl, tf8, tfs⟩ := hu1.opened
    have hE1 : Ext w w1 := exq
    have xc1 : bc < w1.heap.size := Nat.lt_of_lt_of_le xc hE1.size
    have e0a := cell_ext e0 hE1
    have e1a := cell_ext e1 hE1
    have e2a := cell_ext e2 hE1
    have e3a := cell_ext e3 hE1
    have e4a := cell_ext e4 hE1
    have e5a := cell_ext e5 hE1
    have e6a := cell_ext e6 hE1
    have B0_1 : Box w1 (w.heap.size) #[.slice aw s.M.W.length cw, .slice ag s.M.G.length cg, .bool s.M.bad, .slice (some ⟨bc, oc, none⟩) s.C.length cc, .slice al s.L.length cl] 83 := ((Box.newAt _ _ _ (by first | rfl | simp)).alloc _).ext hb1
    have B1_1 : Box w1 (w.heap.size + 1) #[.slice none 0 0, .slice none 0 0, .bool false, .slice none 0 0, .slice none 0 0] 83 := (Box.newAt _ _ _ (by first | rfl | simp)).ext hb1
    have s1 : w.heap.size + 2 ≤ w1.heap.size := (by have h := hb1.size; simp at h; omega)
    obtain ⟨c0_0, c0_1, c0_2, c0_3, c0_4, d0_0, d0_1, d0_2, d0_3, d0_4⟩ := cells5 B0_1
    have z0 : w.heap.size < w1.heap.size := B0_1.lt
    obtain ⟨c1_0, c1_1, c1_2, c1_3, c1_4, d1_0, d1_1, d1_2, d1_3, d1_4⟩ := cells5 B1_1
    have z1 : w.heap.size + 1 < w1.heap.size := B1_1.lt
    go_wp2_with (fail)
    go_at_call 92
    refine (with_ (Bx N w.heap.size (w.heap.size + 2)) _ _ s k (backC co v e) _ (IsSys.bx (IsSys.mk rfl (IsInts.keep hwU (by with_reducible (repeat (first | assumption | exact Keep.refl _ _ | refine Keep.alloc ?_ _ | refine Keep.s ?_ (by first | assumption | exact Bx.mem (by omega) (by omega) | exact Up.mem (by omega)) | refine Keep.n ?_ (by omega) | refine Keep.ext ?_ (by assumption) | refine Keep.drew ?_)))) (IsInts.keep hgU (by with_reducible (repeat (first | assumption | exact Keep.refl _ _ | refine Keep.alloc ?_ _ | refine Keep.s ?_ (by first | assumption | exact Bx.mem (by omega) (by omega) | exact Up.mem (by omega)) | refine Keep.n ?_ (by omega) | refine Keep.ext ?_ (by assumption) | refine Keep.drew ?_)))) (IsCores.keep hcU (by with_reducible (repeat (first | assumption | exact Keep.refl _ _ | refine Keep.alloc ?_ _ | refine Keep.s ?_ (by first | assumption | exact Bx.mem (by omega) (by omega) | exact Up.mem (by omega)) | refine Keep.n ?_ (by omega) | refine Keep.ext ?_ (by assumption) | refine Keep.drew ?_)))) (IsEvs.keep hlU (by with_reducible (repeat (first | assumption | exact Keep.refl _ _ | refine Keep.alloc ?_ _ | refine Keep.s ?_ (by first | assumption | exact Bx.mem (by omega) (by omega) | exact Up.mem (by omega)) | refine Keep.n ?_ (by omega) | refine Keep.ext ?_ (by assumption) | refine Keep.drew ?_)))) : IsSys (Up N w) _ _ s)) (IsCoreV.mk hx3 (backC_frames hlen.out (IsSl.take (IsFrames.keep (IsFrames.bx hfU) (by with_reducible (repeat (first | assumption | exact Keep.refl _ _ | refine Keep.alloc ?_ _ | refine Keep.s ?_ (by first | assumption | exact Bx.mem (by omega) (by omega) | exact Up.mem (by omega)) | refine Keep.n ?_ (by omega) | refine Keep.ext ?_ (by assumption) | refine Keep.drew ?_)))) (m := k1) (by rw [hlen.out]; omega))) (IsInts.keep (IsInts.bx hrU) (by with_reducible (repeat (first | assumption | exact Keep.refl _ _ | refine Keep.alloc ?_ _ | refine Keep.s ?_ (by first | assumption | exact Bx.mem (by omega) (by omega) | exact Up.mem (by omega)) | refine Keep.n ?_ (by omega) | refine Keep.ext ?_ (by assumption) | refine Keep.drew ?_))))) (fun b hb => (by have h := hb.elim (fun q => (by have := hN b q; omega : b < w.heap.size + 2)) (fun q => (by have := q.2; omega : b < w.heap.size + 2)); simp; omega)) hC hk).calls.mono ?_
    rintro e w2 ⟨_, rfl, hb2, hu2⟩
    obtain ⟨r1, r2, r3, r4, r5, r6, r7, r8, rfl, rW, rG, rC, rL⟩ := hu2.opened
    have B0_2 : Box w2 (w.heap.size) #[.slice aw s.M.W.length cw, .slice ag s.M.G.length cg, .bool s.M.bad, .slice (some ⟨bc, oc, none⟩) s.C.length cc, .slice al s.L.length cl] 83 := ((B0_1.alloc _).alloc _).ext hb2
    have B1_2 : Box w2 (w.heap.size + 1) #[.slice none 0 0, .slice none 0 0, .bool false, .slice none 0 0, .slice none 0 0] 83 := ((B1_1.alloc _).alloc _).ext hb2
    have B2_2 : Box w2 (w1.heap.size) #[.int .i64 tf.op, .int .i64 tf.pc, .int .i64 (gi tf.R 0), .int .i64 (gi tf.R 1), .int .i64 (gi tf.R 2), .int .i64 (gi tf.R 3), .int .i64 (gi tf.R 4), .int .i64 (gi tf.R 5), .int .i64 (gi tf.R 6), .int .i64 (gi tf.R 7), .slice tfa tf.S.length tfc] 95 := ((Box.newAt _ _ _ (by first | rfl | simp)).alloc _).ext hb2
    have B3_2 : Box w2 (w1.heap.size + 1) #[.slice (some pf) k1 cf, .int .i64 v, .int .i64 e, .int .i64 (gi co.X 0), .int .i64 (gi co.X 1), .int .i64 (gi co.X 2), .slice ar co.Ret.length cr] 116 := (Box.newAt _ _ _ (by first | rfl | simp)).ext hb2
    clear c0_0 c0_1 c0_2 c0_3 c0_4 d0_0 d0_1 d0_2 d0_3 d0_4 z0 c1_0 c1_1 c1_2 c1_3 c1_4 d1_0 d1_1 d1_2 d1_3 d1_4 z1
    have s2 : w1.heap.size + 2 ≤ w2.heap.size := (by have h := hb2.size; simp at h; omega)
    obtain ⟨c0_0, c0_1, c0_2, c0_3, c0_4, d0_0, d0_1, d0_2, d0_3, d0_4⟩ := cells5 B0_2
    have z0 : w.heap.size < w2.heap.size := B0_2.lt
    obtain ⟨c1_0, c1_1, c1_2, c1_3, c1_4, d1_0, d1_1, d1_2, d1_3, d1_4⟩ := cells5 B1_2
    have z1 : w.heap.size + 1 < w2.heap.size := B1_2.lt
    obtain ⟨⟨c2_0, c2_1, c2_2, c2_3, c2_4, c2_5, c2_6, c2_7, c2_8, c2_9, c2_10⟩, d2_0, d2_1, d2_2, d2_3, d2_4, d2_5, d2_6, d2_7, d2_8, d2_9, d2_10⟩ := cells11 B2_2
    have z2 : w1.heap.size < w2.heap.size := B2_2.lt
    obtain ⟨c3_0, c3_1, c3_2, c3_3, c3_4, c3_5, c3_6, d3_0, d3_1, d3_2, d3_3, d3_4, d3_5, d3_6⟩ := cells7 B3_2
    have z3 : w1.heap.size + 1 < w2.heap.size := B3_2.lt
    go_wp2
    exact bodyPost_ret (ret_cell (((((B1_2.setCell _).setCell _).setCell _).setCell _).setCell _) Proofs.Try.results90 rfl Proofs.Try.underlying83 rfl (by kernel_rfl)) rfl ⟨_, rfl, exn, IsSys.less (IsSys.keep hu2 (by with_reducible (repeat (first | assumption | exact Keep.refl _ _ | refine Keep.alloc ?_ _ | refine Keep.s ?_ (by first | assumption | exact Bx.mem (by omega) (by omega) | exact Up.mem (by omega)) | refine Keep.n ?_ (by omega) | refine Keep.ext ?_ (by assumption) | refine Keep.drew ?_)))) (fun _ _ hn => .inl hn)⟩


def RI : World → Int → List Value → Prop := fun _ x cs => cs = [.int .i64 x]
theorem rowI : RowType 48 3 1 (.int .i64 0) := ⟨Proofs.Try.underlying48, by kernel_rfl, by kernel_rfl, by kernel_rfl⟩
theorem zs1 : (Value.int .i64 0).cells.size = 1 := by kernel_rfl
theorem one_int' {w : World} : ∀ x cs, RI w x cs → ∀ c ∈ cs, c.oneCell' = true := by
  rintro x cs rfl c hc
  simp at hc
  subst hc; rfl
theorem IsInts.sl {N : Nat → Prop} {w : World} {v : Value} {l : List Int} (h : IsInts N w v l) : IsSl 1 RI N w v l := by
  obtain ⟨a, cap, rfl, h1, h2, h3, h4⟩ := h
  refine ⟨a, cap, rfl, h1, h2, h3, fun i x hi => ?_⟩
  obtain ⟨b, off, e, hb, hn, hc⟩ := h4 i (list_lt hi)
  refine ⟨b, off, [.int .i64 x], e, hb, hn, rfl, fun j c hj => ?_, rfl⟩
  have hj0 : j = 0 := by have := list_lt hj; simp at this; omega
  subst hj0
  simp at hj; subst hj
  rw [Nat.mul_one, Nat.add_zero, hc]
  simp [gi, List.getD_eq_getElem?_getD, hi]
theorem IsSl.ints {N : Nat → Prop} {w : World} {v : Value} {l : List Int} (h : IsSl 1 RI N w v l) : IsInts N w v l := by
  obtain ⟨a, cap, rfl, h1, h2, h3, h4⟩ := h
  refine ⟨a, cap, rfl, h1, h2, h3, fun i hi => ?_⟩
  obtain ⟨x, hx⟩ := getSome hi
  obtain ⟨b, off, cs, e, hb, hn, hl, hc, hR⟩ := h4 i x hx
  cases hR
  refine ⟨b, off, e, hb, hn, ?_⟩
  have := hc 0 _ rfl
  rw [Nat.mul_one, Nat.add_zero] at this
  rw [this]
  simp [gi, List.getD_eq_getElem?_getD, hx]
theorem OwnSl.extW {α : Type} {sz : Nat} {e : TypeId} {R : World → α → List Value → Prop} {base : Nat} {w w' : World} {v : Value} {l : List α} (h : OwnSl sz e R base w v l) (k : Ext w w') (hR : ∀ w w' x cs, R w x cs → R w' x cs := by exact fun _ _ _ _ h => h) : OwnSl sz e R base w' v l :=
  h.keep (N := no) k.keep (fun _ _ => id) fun _ _ h => hR _ _ _ _ h
section
variable {ops : Array Oper} {rest : List Oper} {o : Oper} {a : Act} {Q : Exit → Act → World → Prop} {w : World}
theorem wpList_append_gen {α : Type} {sz : Nat} {R : World → α → List Value → Prop} {M : Nat → Prop} {v vx : Value} {l1 l2 : List α} {t e : TypeId} {z : Value} {base : Nat} (hT : RowType t e sz z) (hzs : z.cells.size = sz) (hsz : 0 < sz) (hone : ∀ x cs, R w x cs → ∀ c ∈ cs, c.oneCell' = true) (hRw : ∀ w w' x cs, R w x cs → R w' x cs)
    (s x : Operand) (hg : o.guard = none) (hop : o.op = Op.call { callee := Callee.builtin Builtin.append, args := #[s, x], argTypes := #[t, t] })
    (hs : a.eval s = v) (hx : a.eval x = vx) (h1 : OwnSl sz e R base w v l1) (h2 : IsSl sz R M w vx l2) (hl : l1.length + l2.length ≤ 100000) (hbase : base ≤ w.heap.size)
    (hK : ∀ a' n' c' w', Hid (n' = (l1 ++ l2).length) → OwnSl sz e R base w' (.slice a' n' c') (l1 ++ l2) → (∀ b cs t, Box w b cs t → b < base → Box w' b cs t) → (∀ a, Ext a w → a.heap.size ≤ base → Ext a w') → w.heap.size ≤ w'.heap.size → wpList Proofs.Try.prog ops Q rest (a.put o.dst (.slice a' n' c')) w') : wpList Proofs.Try.prog ops Q (o :: rest) a w :=
  wpList_append_osl s x hg hop hs hx hT hzs hsz h1 h2 hone (fun w' g x cs h => hRw _ _ _ _ h) hl hbase fun a' c' w' ho hgr =>
    hK a' _ c' w' (Lib.hid rfl) ho (fun b cs t hB hb => hB.keep (grown_keep (N := fun k => base ≤ k) hgr fun k hk => h1.base k hk) (by omega)) (fun a ha hsz => grown_ext hgr ha fun k hk => Nat.le_trans hsz (h1.base k hk)) hgr.size
end
theorem wrapI_ne (x : Int) : IntKind.i64.wrap (x + 1) ≠ x := by rw [IntKind.wrap_i64]; omega
theorem OwnSl.evs {N : Nat → Prop} {w : World} {base : Nat} {v : Value} {l : List EvD} (h : OwnSl 5 108 RE base w v l) (hN : ∀ b, base ≤ b → ¬ N b) : IsEvs N w v l := h.sl hN
theorem OwnSl.ints {N : Nat → Prop} {w : World} {base : Nat} {v : Value} {l : List Int} (h : OwnSl 1 3 RI base w v l) (hN : ∀ b, base ≤ b → ¬ N b) : IsInts N w v l := (h.sl hN).ints
/-- what is another one at one place isn't the same -/
theorem all2_set {α : Type} {p : α → α → Bool} : ∀ {l : List α} {k : Nat} {x y : α}, l[k]? = some x → p x y = false → all2 p l (l.set k y) = false
  | [], _, _, _, h, _ => by cases h
  | a :: l, 0, x, y, h, hp => by simp at h; subst h; simp [all2, hp]
  | a :: l, k + 1, x, y, h, hp => by
    have := all2_set (l := l) (k := k) (by simpa using h) hp
    simp [all2, this]
theorem all2_set' {α : Type} {p : α → α → Bool} : ∀ {l : List α} {k : Nat} {x y : α}, l[k]? = some x → p y x = false → all2 p (l.set k y) l = false
  | [], _, _, _, h, _ => by cases h
  | a :: l, 0, x, y, h, hp => by simp at h; subst h; simp [all2, hp]
  | a :: l, k + 1, x, y, h, hp => by
    have := all2_set' (l := l) (k := k) (by simpa using h) hp
    simp [all2, this]
end Go.Proofs.Ytcfbdfgondmkoaa
/- Steps of the stack and of the slots, as data. -/
namespace Go.Proofs.Ytcfbdfgondmkoaa
open Go Go.RowKit

def idx (x : Int) : Int := x / 2 % 1048576
def tagI (x : Int) : Int := x / 2097152 % 1099511627776
/-- where a node's cell of the list stands -/
def linkAt (p : Int) : Int := wrap64 (128 + 4 * (p - 1))
def memS (s : SysD) (m : Arena) : SysD := { s with M := m }
def pcF (f : FrameD) (pc : Int) : FrameD := { f with pc := pc }
def regF (f : FrameD) (j : Nat) (v : Int) : FrameD := { f with R := f.R.set j v }
def onS (s : SysD) (id : Int) (m : Arena) (f : FrameD) (pc : Int) : SysD := setS (memS s m) id (pcF f pc)
def popS (s : SysD) (id : Int) (f : FrameD) : SysD :=
  if f.pc = 0 then
    if idx (loadD s.M 0) = 0 then backS (logD (memS s (touchD s.M 0)) id 9 0 0 0) id 0 2
    else onS s id (touchD s.M 0) (regF f 0 (loadD s.M 0)) 1
  else if f.pc = 1 then onS s id (touchD s.M (linkAt (idx (gi f.R 0)))) (regF f 1 (loadD s.M (linkAt (idx (gi f.R 0))))) 2
  else if f.pc = 2 then
    if casIs s.M 0 (gi f.R 0) then backS (memS s (turnMD (casD s.M 0 (gi f.R 0) (nextW (gi f.R 0) (gi f.R 1) 0)) (idx (gi f.R 0)) 1)) id (idx (gi f.R 0)) 0
    else onS s id (casD s.M 0 (gi f.R 0) (nextW (gi f.R 0) (gi f.R 1) 0)) f 0
  else s
def pushS (s : SysD) (id : Int) (f : FrameD) : SysD :=
  if f.pc = 0 then onS s id (touchD s.M 0) (regF f 1 (loadD s.M 0)) 1
  else if f.pc = 1 then onS s id (storeD s.M (linkAt (gi f.R 0)) (idx (gi f.R 1))) f 2
  else if f.pc = 2 then
    if casIs s.M 0 (gi f.R 1) then backS (memS s (turnMD (casD s.M 0 (gi f.R 1) (nextW (gi f.R 1) (gi f.R 0) 0)) (gi f.R 0) 0)) id (gi f.R 0) 0
    else onS s id (casD s.M 0 (gi f.R 1) (nextW (gi f.R 1) (gi f.R 0) 0)) f 0
  else s
def step4 (s : SysD) (id : Int) : SysD :=
  match topD s id with
  | some f => if f.op = 1 then popS s id f else if f.op = 2 then pushS s id f else s
  | none => s
def own4 (op : Int) : Bool := decide (op = 1) || decide (op = 2)
/-- the arena when the nodes from i on are still to be laid in -/
def fillL (n : Nat) : Nat → Nat → Arena → Arena
  | 0, _, m => m
  | k + 1, i, m => fillL n k (i + 1) (storeD m (linkAt i) (if i = n then 0 else (i : Int) + 1))
def fillD (m : Arena) : Arena := storeD (fillL (m.G.length - 1) (m.G.length - 1) 1 m) 0 2
def walkF (m : Arena) : Nat → Int → List Int → List Int × Bool
  | 0, _, _ => ([], false)
  | k + 1, p, out => if p = 0 then (out, true) else if p < 0 ∨ (m.G.length : Int) ≤ p ∨ p ∈ out then ([], false) else walkF m k (loadD m (linkAt p)) (out ++ [p])
def walkD (m : Arena) : List Int × Bool := walkF m (m.G.length + 1) (idx (loadD m 0)) []
def new4 (c n : Int) : SysD := if newSE c n = 0 then memS (newS c n) (fillD (newD n)) else newS c n

def placeD (id slot : Int) : Int := wrap64 (8 + 3 * id + slot)
def own5 (op : Int) : Bool := decide (op = 3) || decide (op = 4)
def protS (s : SysD) (id : Int) (f : FrameD) : SysD :=
  if f.pc = 1 then onS s id (storeD s.M (placeD id (gi f.R 1)) (idx (gi f.R 2))) f 2
  else if f.pc = 0 then
    if idx (loadD s.M (gi f.R 0)) = 0 then backS (memS s (touchD s.M (gi f.R 0))) id (loadD s.M (gi f.R 0)) 0
    else onS s id (touchD s.M (gi f.R 0)) (regF f 2 (loadD s.M (gi f.R 0))) 1
  else if f.pc = 2 then
    if loadD s.M (gi f.R 0) = gi f.R 2 ∨ idx (loadD s.M (gi f.R 0)) = 0 then backS (memS s (touchD s.M (gi f.R 0))) id (loadD s.M (gi f.R 0)) 0
    else onS s id (touchD s.M (gi f.R 0)) (regF (regF f 3 (loadD s.M (gi f.R 0))) 2 (loadD s.M (gi f.R 0))) 1
  else s
def clearS (s : SysD) (id : Int) (f : FrameD) : SysD :=
  if f.pc = 2 then backS (memS s (storeD s.M (placeD id f.pc) 0)) id 0 0
  else onS s id (storeD s.M (placeD id f.pc) 0) f (f.pc + 1)
def step5 (s : SysD) (id : Int) : SysD :=
  match topD s id with
  | some f => if f.op = 3 then protS s id f else if f.op = 4 ∧ 0 ≤ f.pc ∧ f.pc ≤ 2 then clearS s id f else s
  | none => s
/-- which nodes are named: by the slots of so many cores -/
def namedD (s : SysD) : List Bool := ((List.range s.M.G.length).map fun (p : Nat) => decide (0 < p) && ((s.M.W.drop 8).take (3 * s.C.length)).any fun x => x == (p : Int))

theorem wrapI_in {x : Int} (h : -9223372036854775808 ≤ x) (h' : x ≤ 9223372036854775807) : wrap64 x = x := by unfold wrap64; omega
theorem linkAt_in {p : Int} (h : -1000000000 ≤ p) (h' : p ≤ 1000000000) : linkAt p = 128 + 4 * (p - 1) := by unfold linkAt; exact wrapI_in (by omega) (by omega)
theorem idx_lo (x : Int) : 0 ≤ idx x ∧ idx x < 1048576 := by unfold idx; omega
end Go.Proofs.Ytcfbdfgondmkoaa
/- Steps' parts: another arena; a frame at a step; slots' places. -/
namespace Go.Proofs.Ytcfbdfgondmkoaa
open Go Go.RowKit
set_option linter.unusedSimpArgs false
set_option linter.unusedVariables false
set_option linter.unnecessarySimpa false

theorem box_putOther {w : World} {b k : Nat} {o : Obj} {cs : Array Value} {t : TypeId} (h : Box w k cs t) (hn : b ≠ k) : Box (put w b o) k cs t := (put_other hn).trans h
def isSysN (N : Nat → Prop) (s : SysD) : GP := fun v w => IsSys N w v s
theorem stable_isSysN (N : Nat → Prop) (s : SysD) : Stable (isSysN N s) := fun _ _ _ h hx => IsSys.ext h hx
def isMemN (N : Nat → Prop) (m : Arena) : GP := fun v w => IsMem N w v m
theorem stable_isMemN (N : Nat → Prop) (m : Arena) : Stable (isMemN N m) := fun _ _ _ h hx => IsMem.keep h hx.keep
theorem IsMem.up {N : Nat → Prop} {w : World} {v : Value} {m : Arena} (h : IsMem N w v m) : IsMem (Up N w) w v m := h.less fun _ hx hn => hn.elim id fun k => absurd k (by omega)
theorem IsFrame.up {N : Nat → Prop} {w : World} {v : Value} {f : FrameD} (h : IsFrame N w v f) : IsFrame (Up N w) w v f := h.less fun _ hx hn => hn.elim id fun k => absurd k (by omega)
theorem IsMem.bxn {N : Nat → Prop} {w : World} {hi : Nat} {v : Value} {m : Arena} (h : IsMem N w v m) : IsMem (Bx N w.heap.size hi) w v m := h.less fun _ hx hn => Bx.new hx hn
theorem IsInts.bxn {N : Nat → Prop} {w : World} {hi : Nat} {v : Value} {l : List Int} (h : IsInts N w v l) : IsInts (Bx N w.heap.size hi) w v l := h.less fun _ hx hn => Bx.new hx hn
theorem IsSys.bxn {N : Nat → Prop} {w : World} {hi : Nat} {v : Value} {s : SysD} (h : IsSys N w v s) : IsSys (Bx N w.heap.size hi) w v s := h.less fun _ hx hn => Bx.new hx hn
theorem IsFrame.bxn {N : Nat → Prop} {w : World} {hi : Nat} {v : Value} {f : FrameD} (h : IsFrame N w v f) : IsFrame (Bx N w.heap.size hi) w v f := h.less fun _ hx hn => Bx.new hx hn
theorem IsFrame.mk {N : Nat → Prop} {w : World} {f : FrameD} {s : Value} (h8 : f.R.length = 8) (hs : IsInts N w s f.S) : IsFrame N w (.agg #[.int .i64 f.op, .int .i64 f.pc, .int .i64 (gi f.R 0), .int .i64 (gi f.R 1), .int .i64 (gi f.R 2), .int .i64 (gi f.R 3), .int .i64 (gi f.R 4), .int .i64 (gi f.R 5), .int .i64 (gi f.R 6), .int .i64 (gi f.R 7), s]) f :=
  ⟨_, rfl, h8, s, rfl, hs⟩
theorem Bx.le {N : Nat → Prop} {w cur : World} {n : Nat} (hN : ∀ b, N b → b < w.heap.size) (h : w.heap.size + n ≤ cur.heap.size) : ∀ b, Bx N w.heap.size (w.heap.size + n) b → b < cur.heap.size :=
  fun b hb => hb.elim (fun q => by have := hN b q; omega) fun q => by have := q.2; omega
set_option maxHeartbeats 1000000 in
set_option maxRecDepth 100000 in
theorem refMem_ (N : Nat → Prop) (va vm : Value) (s : SysD) (m : Arena) (w : World) (h : IsSys N w va s) (hm : IsMem N w vm m) : Gives Proofs.Try.prog 103 #[va, vm] w (fun r w' => IsSys N w' r (memS s m)) := by
  obtain ⟨aw, cw, ag, cg, ac, cc, al, cl, rfl, hw, hg, hc, hl⟩ := h.opened
  obtain ⟨bw, dw, bg, dg, rfl, mw, mg⟩ := hm.opened
  go_enter Proofs.Try.func103, Proofs.Try.ntmps103
  go_wp2
  exact bodyPost_ret (ret_cell (cs := #[.slice bw m.W.length dw, .slice bg m.G.length dg, .bool m.bad, .slice ac s.C.length cc, .slice al s.L.length cl]) (Box.newAt _ _ _ (by first | rfl | simp)) Proofs.Try.results103 rfl Proofs.Try.underlying83 rfl (by kernel_rfl)) rfl ⟨_, rfl, exn, IsSys.mk rfl (IsInts.keep mw keq) (IsInts.keep mg keq) (IsCores.keep hc keq) (IsEvs.keep hl keq)⟩
theorem place_ (id k : Int) (w : World) (h0 : 0 ≤ id) (h1 : id ≤ 100) : Gives Proofs.Try.prog 94 #[.int .i64 id, .int .i64 k] w (eqv (.int .i64 (placeD id k))) := by
  go_enter Proofs.Try.func94, Proofs.Try.ntmps94
  go_wp2
  go_ret
  exact ⟨_, rfl, exq, by unfold placeD; first | rfl | (simp only [eqv, wrap64]; congr 1; omega)⟩
theorem refPlace_ (id k : Int) (w : World) (h0 : 0 ≤ id) (h1 : id ≤ 100) : Gives Proofs.Try.prog 95 #[.int .i64 id, .int .i64 k] w (eqv (.int .i64 (placeD id k))) := by
  go_enter Proofs.Try.func95, Proofs.Try.ntmps95
  go_wp2
  go_ret
  exact ⟨_, rfl, exq, by unfold placeD; first | rfl | (simp only [eqv, wrap64]; congr 1; omega)⟩
theorem own5_ (op : Int) (w : World) : Gives Proofs.Try.prog 96 #[.int .i64 op] w (eqv (.bool (own5 op))) := by
  by_cases h1 : op = 3
  · subst h1
    go_enter Proofs.Try.func96, Proofs.Try.ntmps96
    go_wp2
    go_ret
    exact ⟨_, rfl, exq, by simp [own5, eqv]⟩
  · have q1 : (op == 3) = false := by simpa using h1
    by_cases h2 : op = 4
    · subst h2
      go_enter Proofs.Try.func96, Proofs.Try.ntmps96
      go_wp2
      go_ret
      exact ⟨_, rfl, exq, by simp [own5, eqv]⟩
    · have q2 : (op == 4) = false := by simpa using h2
      go_enter Proofs.Try.func96, Proofs.Try.ntmps96
      go_wp2
      go_ret
      exact ⟨_, rfl, exq, by simp [own5, eqv, h1, h2]⟩
theorem refOwn5_ (op : Int) (w : World) : Gives Proofs.Try.prog 97 #[.int .i64 op] w (eqv (.bool (own5 op))) := by
  by_cases h1 : op = 3
  · subst h1
    go_enter Proofs.Try.func97, Proofs.Try.ntmps97
    go_wp2
    go_ret
    exact ⟨_, rfl, exq, by simp [own5, eqv]⟩
  · have q1 : (op == 3) = false := by simpa using h1
    by_cases h2 : op = 4
    · subst h2
      go_enter Proofs.Try.func97, Proofs.Try.ntmps97
      go_wp2
      go_ret
      exact ⟨_, rfl, exq, by simp [own5, eqv]⟩
    · have q2 : (op == 4) = false := by simpa using h2
      go_enter Proofs.Try.func97, Proofs.Try.ntmps97
      go_wp2
      go_ret
      exact ⟨_, rfl, exq, by simp [own5, eqv, h1, h2]⟩
theorem own4_ (op : Int) (w : World) : Gives Proofs.Try.prog 107 #[.int .i64 op] w (eqv (.bool (own4 op))) := by
  by_cases h1 : op = 1
  · subst h1
    go_enter Proofs.Try.func107, Proofs.Try.ntmps107
    go_wp2
    go_ret
    exact ⟨_, rfl, exq, by simp [own4, eqv]⟩
  · have q1 : (op == 1) = false := by simpa using h1
    by_cases h2 : op = 2
    · subst h2
      go_enter Proofs.Try.func107, Proofs.Try.ntmps107
      go_wp2
      go_ret
      exact ⟨_, rfl, exq, by simp [own4, eqv]⟩
    · have q2 : (op == 2) = false := by simpa using h2
      go_enter Proofs.Try.func107, Proofs.Try.ntmps107
      go_wp2
      go_ret
      exact ⟨_, rfl, exq, by simp [own4, eqv, h1, h2]⟩
theorem refOwn4_ (op : Int) (w : World) : Gives Proofs.Try.prog 108 #[.int .i64 op] w (eqv (.bool (own4 op))) := by
  by_cases h1 : op = 1
  · subst h1
    go_enter Proofs.Try.func108, Proofs.Try.ntmps108
    go_wp2
    go_ret
    exact ⟨_, rfl, exq, by simp [own4, eqv]⟩
  · have q1 : (op == 1) = false := by simpa using h1
    by_cases h2 : op = 2
    · subst h2
      go_enter Proofs.Try.func108, Proofs.Try.ntmps108
      go_wp2
      go_ret
      exact ⟨_, rfl, exq, by simp [own4, eqv]⟩
    · have q2 : (op == 2) = false := by simpa using h2
      go_enter Proofs.Try.func108, Proofs.Try.ntmps108
      go_wp2
      go_ret
      exact ⟨_, rfl, exq, by simp [own4, eqv, h1, h2]⟩
set_option maxHeartbeats 1000000 in
set_option maxRecDepth 100000 in
theorem on_ (N : Nat → Prop) (va vf : Value) (s : SysD) (id pc : Int) (f : FrameD) (w : World) (h : IsSys N w va s) (hf : IsFrame N w vf f) (hN : ∀ b, N b → b < w.heap.size) (hC : s.C.length ≤ 100000) (hFm : ∀ (i : Nat) c, s.C[i]? = some c → c.F.length ≤ 100000) :
    Gives Proofs.Try.prog 149 #[va, .int .i64 id, vf, .int .i64 pc] w (fun r w' => IsSys N w' r (setS s id (pcF f pc))) := by
  obtain ⟨aw, cw, ag, cg, ac, cc, al, cl, rfl, hw, hg, hc, hl⟩ := h.opened
  obtain ⟨ga, gc, rfl, f8, fs⟩ := hf.opened
  go_enter Proofs.Try.func149, Proofs.Try.ntmps149
  go_wp2_with (fail)
  go_at_call 85
  refine (set_ (Bx N w.heap.size (w.heap.size + 3)) _ _ s id (pcF f pc) _ (IsSys.mk rfl (IsInts.keep (IsInts.bxn hw) keq) (IsInts.keep (IsInts.bxn hg) keq) (IsCores.keep (IsCores.less hc fun _ hx hn => Bx.new hx hn) keq) (IsEvs.keep (IsEvs.less hl fun _ hx hn => Bx.new hx hn) keq) : IsSys (Bx N w.heap.size (w.heap.size + 3)) _ _ s) (IsFrame.mk (f := pcF f pc) f8 (IsInts.keep (IsInts.bxn fs) keq)) (Bx.le hN (by simp)) hC hFm).calls.mono ?_
  rintro e w1 ⟨_, rfl, hb1, hu1⟩
  obtain ⟨r1, r2, r3, r4, r5, r6, r7, r8, rfl, rW, rG, rC, rL⟩ := hu1.opened
  have B0_1 : Box w1 (w.heap.size) #[.slice aw s.M.W.length cw, .slice ag s.M.G.length cg, .bool s.M.bad, .slice ac s.C.length cc, .slice al s.L.length cl] 83 := (((Box.newAt _ _ _ (by first | rfl | simp)).alloc _).alloc _).ext hb1
  have B1_1 : Box w1 (w.heap.size + 1) #[.int .i64 f.op, .int .i64 pc, .int .i64 (gi f.R 0), .int .i64 (gi f.R 1), .int .i64 (gi f.R 2), .int .i64 (gi f.R 3), .int .i64 (gi f.R 4), .int .i64 (gi f.R 5), .int .i64 (gi f.R 6), .int .i64 (gi f.R 7), .slice ga f.S.length gc] 95 := ((Box.newAt _ _ _ (by first | rfl | simp)).alloc _).ext hb1
  have B2_1 : Box w1 (w.heap.size + 1 + 1) #[.slice none 0 0, .slice none 0 0, .bool false, .slice none 0 0, .slice none 0 0] 83 := (Box.newAt _ _ _ (by first | rfl | simp)).ext hb1
  have s1 : w.heap.size + 3 ≤ w1.heap.size := (by have h := hb1.size; first | omega | (simp at h; omega))
  obtain ⟨c0_0, c0_1, c0_2, c0_3, c0_4, d0_0, d0_1, d0_2, d0_3, d0_4⟩ := cells5 B0_1
  have z0 : w.heap.size < w1.heap.size := B0_1.lt
  obtain ⟨⟨c1_0, c1_1, c1_2, c1_3, c1_4, c1_5, c1_6, c1_7, c1_8, c1_9, c1_10⟩, d1_0, d1_1, d1_2, d1_3, d1_4, d1_5, d1_6, d1_7, d1_8, d1_9, d1_10⟩ := cells11 B1_1
  have z1 : w.heap.size + 1 < w1.heap.size := B1_1.lt
  obtain ⟨c2_0, c2_1, c2_2, c2_3, c2_4, d2_0, d2_1, d2_2, d2_3, d2_4⟩ := cells5 B2_1
  have z2 : w.heap.size + 1 + 1 < w1.heap.size := B2_1.lt
  go_wp2
  exact bodyPost_ret (ret_cell (cs := #[.slice r1 (setS s id (pcF f pc)).M.W.length r2, .slice r3 (setS s id (pcF f pc)).M.G.length r4, .bool (setS s id (pcF f pc)).M.bad, .slice r5 (setS s id (pcF f pc)).C.length r6, .slice r7 (setS s id (pcF f pc)).L.length r8]) (((((B2_1.setCell _).setCell _).setCell _).setCell _).setCell _) Proofs.Try.results149 rfl Proofs.Try.underlying83 rfl (by kernel_rfl)) rfl ⟨_, rfl, exn, IsSys.less (IsSys.keep hu1 keq) (fun _ _ hn => .inl hn)⟩
set_option maxHeartbeats 1000000 in
set_option maxRecDepth 100000 in
theorem on4_ (N : Nat → Prop) (va vf : Value) (s : SysD) (id pc : Int) (f : FrameD) (w : World) (h : IsSys N w va s) (hf : IsFrame N w vf f) (hN : ∀ b, N b → b < w.heap.size) (hC : s.C.length ≤ 100000) (hFm : ∀ (i : Nat) c, s.C[i]? = some c → c.F.length ≤ 100000) :
    Gives Proofs.Try.prog 165 #[va, .int .i64 id, vf, .int .i64 pc] w (fun r w' => IsSys N w' r (setS s id (pcF f pc))) := by
  obtain ⟨aw, cw, ag, cg, ac, cc, al, cl, rfl, hw, hg, hc, hl⟩ := h.opened
  obtain ⟨ga, gc, rfl, f8, fs⟩ := hf.opened
  go_enter Proofs.Try.func165, Proofs.Try.ntmps165
  go_wp2_with (fail)
  go_at_call 85
  refine (set_ (Bx N w.heap.size (w.heap.size + 3)) _ _ s id (pcF f pc) _ (IsSys.mk rfl (IsInts.keep (IsInts.bxn hw) keq) (IsInts.keep (IsInts.bxn hg) keq) (IsCores.keep (IsCores.less hc fun _ hx hn => Bx.new hx hn) keq) (IsEvs.keep (IsEvs.less hl fun _ hx hn => Bx.new hx hn) keq) : IsSys (Bx N w.heap.size (w.heap.size + 3)) _ _ s) (IsFrame.mk (f := pcF f pc) f8 (IsInts.keep (IsInts.bxn fs) keq)) (Bx.le hN (by simp)) hC hFm).calls.mono ?_
  rintro e w1 ⟨_, rfl, hb1, hu1⟩
  obtain ⟨r1, r2, r3, r4, r5, r6, r7, r8, rfl, rW, rG, rC, rL⟩ := hu1.opened
  have B0_1 : Box w1 (w.heap.size) #[.slice aw s.M.W.length cw, .slice ag s.M.G.length cg, .bool s.M.bad, .slice ac s.C.length cc, .slice al s.L.length cl] 83 := (((Box.newAt _ _ _ (by first | rfl | simp)).alloc _).alloc _).ext hb1
  have B1_1 : Box w1 (w.heap.size + 1) #[.int .i64 f.op, .int .i64 pc, .int .i64 (gi f.R 0), .int .i64 (gi f.R 1), .int .i64 (gi f.R 2), .int .i64 (gi f.R 3), .int .i64 (gi f.R 4), .int .i64 (gi f.R 5), .int .i64 (gi f.R 6), .int .i64 (gi f.R 7), .slice ga f.S.length gc] 95 := ((Box.newAt _ _ _ (by first | rfl | simp)).alloc _).ext hb1
  have B2_1 : Box w1 (w.heap.size + 1 + 1) #[.slice none 0 0, .slice none 0 0, .bool false, .slice none 0 0, .slice none 0 0] 83 := (Box.newAt _ _ _ (by first | rfl | simp)).ext hb1
  have s1 : w.heap.size + 3 ≤ w1.heap.size := (by have h := hb1.size; first | omega | (simp at h; omega))
  obtain ⟨c0_0, c0_1, c0_2, c0_3, c0_4, d0_0, d0_1, d0_2, d0_3, d0_4⟩ := cells5 B0_1
  have z0 : w.heap.size < w1.heap.size := B0_1.lt
  obtain ⟨⟨c1_0, c1_1, c1_2, c1_3, c1_4, c1_5, c1_6, c1_7, c1_8, c1_9, c1_10⟩, d1_0, d1_1, d1_2, d1_3, d1_4, d1_5, d1_6, d1_7, d1_8, d1_9, d1_10⟩ := cells11 B1_1
  have z1 : w.heap.size + 1 < w1.heap.size := B1_1.lt
  obtain ⟨c2_0, c2_1, c2_2, c2_3, c2_4, d2_0, d2_1, d2_2, d2_3, d2_4⟩ := cells5 B2_1
  have z2 : w.heap.size + 1 + 1 < w1.heap.size := B2_1.lt
  go_wp2
  exact bodyPost_ret (ret_cell (cs := #[.slice r1 (setS s id (pcF f pc)).M.W.length r2, .slice r3 (setS s id (pcF f pc)).M.G.length r4, .bool (setS s id (pcF f pc)).M.bad, .slice r5 (setS s id (pcF f pc)).C.length r6, .slice r7 (setS s id (pcF f pc)).L.length r8]) (((((B2_1.setCell _).setCell _).setCell _).setCell _).setCell _) Proofs.Try.results165 rfl Proofs.Try.underlying83 rfl (by kernel_rfl)) rfl ⟨_, rfl, exn, IsSys.less (IsSys.keep hu1 keq) (fun _ _ hn => .inl hn)⟩
set_option maxHeartbeats 1000000 in
set_option maxRecDepth 100000 in
theorem refOn_ (N : Nat → Prop) (va vm vf : Value) (s : SysD) (id pc : Int) (m : Arena) (f : FrameD) (w : World) (h : IsSys N w va s) (hm : IsMem N w vm m) (hf : IsFrame N w vf f) (hN : ∀ b, N b → b < w.heap.size) (hC : s.C.length ≤ 100000) (hFm : ∀ (i : Nat) c, s.C[i]? = some c → c.F.length ≤ 100000) :
    Gives Proofs.Try.prog 151 #[va, .int .i64 id, vm, vf, .int .i64 pc] w (fun r w' => IsSys N w' r (onS s id m f pc)) := by
  obtain ⟨aw, cw, ag, cg, ac, cc, al, cl, rfl, hw, hg, hc, hl⟩ := h.opened
  obtain ⟨bw, dw, bg, dg, rfl, mw, mg⟩ := hm.opened
  obtain ⟨ga, gc, rfl, f8, fs⟩ := hf.opened
  go_enter Proofs.Try.func151, Proofs.Try.ntmps151
  go_wp2_with (fail)
  obtain ⟨W2, hW⟩ : ∃ W, W = ((((w.alloc (.cells #[.slice aw s.M.W.length cw, .slice ag s.M.G.length cg, .bool s.M.bad, .slice ac s.C.length cc, .slice al s.L.length cl] 83 (0, 0))).alloc (.cells #[.slice bw m.W.length dw, .slice bg m.G.length dg, .bool m.bad] 50 (0, 0))).alloc (.cells #[.int .i64 f.op, .int .i64 pc, .int .i64 (gi f.R 0), .int .i64 (gi f.R 1), .int .i64 (gi f.R 2), .int .i64 (gi f.R 3), .int .i64 (gi f.R 4), .int .i64 (gi f.R 5), .int .i64 (gi f.R 6), .int .i64 (gi f.R 7), .slice ga f.S.length gc] 95 (0, 0))).alloc (.cells #[.slice none 0 0, .slice none 0 0, .bool false, .slice none 0 0, .slice none 0 0] 83 (0, 0))) := ⟨_, rfl⟩
  have hX2 : Ext w W2 := by rw [hW]; exact exn
  have hK2 : Keep (Bx N w.heap.size (w.heap.size + 4)) w W2 := by rw [hW]; exact keq
  have D0_2 : Box ((((w.alloc (.cells #[.slice aw s.M.W.length cw, .slice ag s.M.G.length cg, .bool s.M.bad, .slice ac s.C.length cc, .slice al s.L.length cl] 83 (0, 0))).alloc (.cells #[.slice bw m.W.length dw, .slice bg m.G.length dg, .bool m.bad] 50 (0, 0))).alloc (.cells #[.int .i64 f.op, .int .i64 pc, .int .i64 (gi f.R 0), .int .i64 (gi f.R 1), .int .i64 (gi f.R 2), .int .i64 (gi f.R 3), .int .i64 (gi f.R 4), .int .i64 (gi f.R 5), .int .i64 (gi f.R 6), .int .i64 (gi f.R 7), .slice ga f.S.length gc] 95 (0, 0))).alloc (.cells #[.slice none 0 0, .slice none 0 0, .bool false, .slice none 0 0, .slice none 0 0] 83 (0, 0))) (w.heap.size) #[.slice aw s.M.W.length cw, .slice ag s.M.G.length cg, .bool s.M.bad, .slice ac s.C.length cc, .slice al s.L.length cl] 83 := ((((Box.newAt _ _ _ (by first | rfl | simp)).alloc _).alloc _).alloc _)
  rw [← hW] at D0_2
  have D1_2 : Box ((((w.alloc (.cells #[.slice aw s.M.W.length cw, .slice ag s.M.G.length cg, .bool s.M.bad, .slice ac s.C.length cc, .slice al s.L.length cl] 83 (0, 0))).alloc (.cells #[.slice bw m.W.length dw, .slice bg m.G.length dg, .bool m.bad] 50 (0, 0))).alloc (.cells #[.int .i64 f.op, .int .i64 pc, .int .i64 (gi f.R 0), .int .i64 (gi f.R 1), .int .i64 (gi f.R 2), .int .i64 (gi f.R 3), .int .i64 (gi f.R 4), .int .i64 (gi f.R 5), .int .i64 (gi f.R 6), .int .i64 (gi f.R 7), .slice ga f.S.length gc] 95 (0, 0))).alloc (.cells #[.slice none 0 0, .slice none 0 0, .bool false, .slice none 0 0, .slice none 0 0] 83 (0, 0))) (w.heap.size + 1) #[.slice bw m.W.length dw, .slice bg m.G.length dg, .bool m.bad] 50 := (((Box.newAt _ _ _ (by first | rfl | simp)).alloc _).alloc _)
  rw [← hW] at D1_2
  have D2_2 : Box ((((w.alloc (.cells #[.slice aw s.M.W.length cw, .slice ag s.M.G.length cg, .bool s.M.bad, .slice ac s.C.length cc, .slice al s.L.length cl] 83 (0, 0))).alloc (.cells #[.slice bw m.W.length dw, .slice bg m.G.length dg, .bool m.bad] 50 (0, 0))).alloc (.cells #[.int .i64 f.op, .int .i64 pc, .int .i64 (gi f.R 0), .int .i64 (gi f.R 1), .int .i64 (gi f.R 2), .int .i64 (gi f.R 3), .int .i64 (gi f.R 4), .int .i64 (gi f.R 5), .int .i64 (gi f.R 6), .int .i64 (gi f.R 7), .slice ga f.S.length gc] 95 (0, 0))).alloc (.cells #[.slice none 0 0, .slice none 0 0, .bool false, .slice none 0 0, .slice none 0 0] 83 (0, 0))) (w.heap.size + 1 + 1) #[.int .i64 f.op, .int .i64 pc, .int .i64 (gi f.R 0), .int .i64 (gi f.R 1), .int .i64 (gi f.R 2), .int .i64 (gi f.R 3), .int .i64 (gi f.R 4), .int .i64 (gi f.R 5), .int .i64 (gi f.R 6), .int .i64 (gi f.R 7), .slice ga f.S.length gc] 95 := ((Box.newAt _ _ _ (by first | rfl | simp)).alloc _)
  rw [← hW] at D2_2
  have D3_2 : Box ((((w.alloc (.cells #[.slice aw s.M.W.length cw, .slice ag s.M.G.length cg, .bool s.M.bad, .slice ac s.C.length cc, .slice al s.L.length cl] 83 (0, 0))).alloc (.cells #[.slice bw m.W.length dw, .slice bg m.G.length dg, .bool m.bad] 50 (0, 0))).alloc (.cells #[.int .i64 f.op, .int .i64 pc, .int .i64 (gi f.R 0), .int .i64 (gi f.R 1), .int .i64 (gi f.R 2), .int .i64 (gi f.R 3), .int .i64 (gi f.R 4), .int .i64 (gi f.R 5), .int .i64 (gi f.R 6), .int .i64 (gi f.R 7), .slice ga f.S.length gc] 95 (0, 0))).alloc (.cells #[.slice none 0 0, .slice none 0 0, .bool false, .slice none 0 0, .slice none 0 0] 83 (0, 0))) (w.heap.size + 1 + 1 + 1) #[.slice none 0 0, .slice none 0 0, .bool false, .slice none 0 0, .slice none 0 0] 83 := (Box.newAt _ _ _ (by first | rfl | simp))
  rw [← hW] at D3_2
  have y2 : w.heap.size + 4 ≤ W2.heap.size := by rw [hW]; simp
  rw [← hW]
  clear hW
  have aS : IsSys (Bx N w.heap.size (w.heap.size + 4)) W2 (.agg #[.slice aw s.M.W.length cw, .slice ag s.M.G.length cg, .bool s.M.bad, .slice ac s.C.length cc, .slice al s.L.length cl]) s := (IsSys.bxn h).keep (hK2)
  have aM : IsMem (Bx N w.heap.size (w.heap.size + 4)) W2 (.agg #[.slice bw m.W.length dw, .slice bg m.G.length dg, .bool m.bad]) m := (IsMem.bxn hm).keep hK2
  have aF : IsFrame (Bx N w.heap.size (w.heap.size + 4)) W2 (.agg #[.int .i64 f.op, .int .i64 pc, .int .i64 (gi f.R 0), .int .i64 (gi f.R 1), .int .i64 (gi f.R 2), .int .i64 (gi f.R 3), .int .i64 (gi f.R 4), .int .i64 (gi f.R 5), .int .i64 (gi f.R 6), .int .i64 (gi f.R 7), .slice ga f.S.length gc]) (pcF f pc) := IsFrame.mk (f := pcF f pc) f8 ((IsInts.bxn fs).keep hK2)
  apply region_lit2 (T := [6]) (L := []) (X := [w.heap.size + 1 + 1 + 1]) (G := [eqv _, eqv _, isSysN (Bx N w.heap.size (w.heap.size + 4)) (memS s m), eqv _, eqv _, isSysN (Bx N w.heap.size (w.heap.size + 4)) (setS (memS s m) id (pcF f pc)), anyG])
  case hm => kernel_rfl
  case hop =>
    refine ⟨?_, ?_, ?_, ?_, ?_, ?_, ?_, trivial⟩
    · intro a wa hs hf hd
      have t5 := hf.off 5 (by kernel_rfl) rfl
      exact plain_ rfl (yes_eqv (o_load5 rfl Proofs.Try.underlying83 rfl (by kernel_rfl) t5 ((D0_2.since hs rfl).cell rfl) ((D0_2.since hs rfl).cell rfl) ((D0_2.since hs rfl).cell rfl) ((D0_2.since hs rfl).cell rfl) ((D0_2.since hs rfl).cell rfl)) rfl)
    · intro a wa hs hf hd
      have t7 := hf.off 7 (by kernel_rfl) rfl
      exact plain_ rfl (yes_eqv (o_load3 rfl Proofs.Try.underlying50 rfl (by kernel_rfl) t7 ((D1_2.since hs rfl).cell rfl) ((D1_2.since hs rfl).cell rfl) ((D1_2.since hs rfl).cell rfl)) rfl)
    · intro a wa hs hf hd
      have t13 : a.eval (.tmp 13) = _ := hd.at 0 13 (by kernel_rfl)
      have t14 : a.eval (.tmp 14) = _ := hd.at 1 14 (by kernel_rfl)
      exact plain_ rfl (yes_gives (refMem_ _ _ _ s m _ (aS.ext (Since.to_ext hs)) (aM.keep (Since.to_ext hs).keep)) rfl rfl Proofs.Try.func103 (by kernel_rfl) (by kernel_rfl) (by simp only [List.map_toArray, List.map_cons, List.map_nil, t13, t14]) rfl)
    · intro a wa hs hf hd
      have t1 := hf.off 1 (by kernel_rfl) rfl
      exact plain_ rfl (yes_eqv (o_move rfl t1) rfl)
    · intro a wa hs hf hd
      have t8 := hf.off 8 (by kernel_rfl) rfl
      exact plain_ rfl (yes_eqv (o_load11 rfl Proofs.Try.underlying95 rfl (by kernel_rfl) t8 ((D2_2.since hs rfl).cell rfl) ((D2_2.since hs rfl).cell rfl) ((D2_2.since hs rfl).cell rfl) ((D2_2.since hs rfl).cell rfl) ((D2_2.since hs rfl).cell rfl) ((D2_2.since hs rfl).cell rfl) ((D2_2.since hs rfl).cell rfl) ((D2_2.since hs rfl).cell rfl) ((D2_2.since hs rfl).cell rfl) ((D2_2.since hs rfl).cell rfl) ((D2_2.since hs rfl).cell rfl)) rfl)
    · intro a wa hs hf hd
      have t15 := hd.at 2 15 (by kernel_rfl)
      have t16 : a.eval (.tmp 16) = _ := hd.at 3 16 (by kernel_rfl)
      have t17 : a.eval (.tmp 17) = _ := hd.at 4 17 (by kernel_rfl)
      exact plain_ rfl (yes_gives (refSet_ _ _ _ (memS s m) id (pcF f pc) _ t15 (aF.ext (Since.to_ext hs)) (Bx.le hN (by have := (Since.to_ext hs).size; omega)) hC hFm) rfl rfl Proofs.Try.func89 (by kernel_rfl) (by kernel_rfl) (by simp only [List.map_toArray, List.map_cons, List.map_nil, t15, t16, t17]) rfl)
    · intro a wb wa hs1 hs hf hd hrun
      have t10 := hf.off 10 (by kernel_rfl) rfl
      have t18 := hd.at 5 18 (by kernel_rfl)
      subst hrun
      have q18 : IsSys (Bx N w.heap.size (w.heap.size + 4)) _ (a.eval (.tmp 18)) (setS (memS s m) id (pcF f pc)) := t18
      obtain ⟨r1, r2, r3, r4, r5, r6, r7, r8, hv, _⟩ := q18.opened
      exact ⟨_, o_store rfl t10 hv ((D3_2.since hs1 rfl)) (by kernel_rfl) (by simp [Value.cells, Value.oneCell']) (by first | (simp [Value.cells]; done) | (simp [Value.cells]; omega)) rfl, Since.put hs (.inr (by simp))⟩
  case hG => exact ⟨stable_eqv _, stable_eqv _, stable_isSysN _ _, stable_eqv _, stable_eqv _, stable_isSysN _ _, stable_any, trivial⟩
  case hc => kernel_rfl
  case hfin =>
    intro v2 hs2
    rintro _ rfl _ rfl r2 hr2 _ rfl _ rfl r5 hr5
    obtain ⟨r1, r2, r3, r4, r5, r6, r7, r8, rfl, rW, rG, rC, rL⟩ := IsSys.opened hr5
    rintro v2w ⟨o1, v1, ho1, hr1, rfl⟩
    cases ho1
    simp only [Act.put, List.setIfInBounds_toArray, List.set_cons_zero, List.set_cons_succ] at hr1 ⊢
    cases (hr1.symm.trans (o_store (v := .agg #[.slice r1 (setS (memS s m) id (pcF f pc)).M.W.length r2, .slice r3 (setS (memS s m) id (pcF f pc)).M.G.length r4, .bool (setS (memS s m) id (pcF f pc)).M.bad, .slice r5 (setS (memS s m) id (pcF f pc)).C.length r6, .slice r7 (setS (memS s m) id (pcF f pc)).L.length r8]) (new := #[.slice r1 (setS (memS s m) id (pcF f pc)).M.W.length r2, .slice r3 (setS (memS s m) id (pcF f pc)).M.G.length r4, .bool (setS (memS s m) id (pcF f pc)).M.bad, .slice r5 (setS (memS s m) id (pcF f pc)).C.length r6, .slice r7 (setS (memS s m) id (pcF f pc)).L.length r8]) rfl rfl rfl ((D3_2.since hs2 rfl)) (by kernel_rfl) (by simp [Value.cells, Value.oneCell']) (by first | (simp [Value.cells]; done) | (simp [Value.cells]; omega)) (by first | rfl | kernel_rfl)))
    obtain ⟨w1, hw1⟩ : ∃ x, x = (put v2 (w.heap.size + 1 + 1 + 1) (.cells #[.slice r1 (setS (memS s m) id (pcF f pc)).M.W.length r2, .slice r3 (setS (memS s m) id (pcF f pc)).M.G.length r4, .bool (setS (memS s m) id (pcF f pc)).M.bad, .slice r5 (setS (memS s m) id (pcF f pc)).C.length r6, .slice r7 (setS (memS s m) id (pcF f pc)).L.length r8] 83 (0, 0))) := ⟨_, rfl⟩
    have hW1 : Ext W2 v2 := Since.to_ext hs2
    have hb1 : Ext w w1 := by rw [hw1]; exact Since.to_ext ((Since.of_ext (hX2.trans hW1)).put (.inl (by have := hX2.size; omega)))
    have hk1 : Keep (Bx N w.heap.size (w.heap.size + 4)) w w1 := by rw [hw1]; exact ((hK2.ext hW1).put _ _ (.inr (Bx.mem (by omega) (by omega))))
    have hq1 : Keep (Bx N w.heap.size (w.heap.size + 4)) v2 w1 := by rw [hw1]; exact ((Keep.refl _ _).put _ _ (.inr (Bx.mem (by omega) (by omega))))
    have B0_1 : Box w1 (w.heap.size) #[.slice aw s.M.W.length cw, .slice ag s.M.G.length cg, .bool s.M.bad, .slice ac s.C.length cc, .slice al s.L.length cl] 83 := by rw [hw1]; exact (box_putOther (D0_2.since hs2 rfl) (by omega))
    have B1_1 : Box w1 (w.heap.size + 1) #[.slice bw m.W.length dw, .slice bg m.G.length dg, .bool m.bad] 50 := by rw [hw1]; exact (box_putOther (D1_2.since hs2 rfl) (by omega))
    have B2_1 : Box w1 (w.heap.size + 1 + 1) #[.int .i64 f.op, .int .i64 pc, .int .i64 (gi f.R 0), .int .i64 (gi f.R 1), .int .i64 (gi f.R 2), .int .i64 (gi f.R 3), .int .i64 (gi f.R 4), .int .i64 (gi f.R 5), .int .i64 (gi f.R 6), .int .i64 (gi f.R 7), .slice ga f.S.length gc] 95 := by rw [hw1]; exact (box_putOther (D2_2.since hs2 rfl) (by omega))
    have B3_1 : Box w1 (w.heap.size + 1 + 1 + 1) #[.slice r1 (setS (memS s m) id (pcF f pc)).M.W.length r2, .slice r3 (setS (memS s m) id (pcF f pc)).M.G.length r4, .bool (setS (memS s m) id (pcF f pc)).M.bad, .slice r5 (setS (memS s m) id (pcF f pc)).C.length r6, .slice r7 (setS (memS s m) id (pcF f pc)).L.length r8] 83 := by rw [hw1]; exact (D3_2.since hs2 rfl).put
    have s1 : W2.heap.size ≤ w1.heap.size := by rw [hw1]; have := hW1.size; simpa [put] using this
    rw [← hw1]
    clear hw1
    obtain ⟨c0_0, c0_1, c0_2, c0_3, c0_4, d0_0, d0_1, d0_2, d0_3, d0_4⟩ := cells5 B0_1
    have z0 : w.heap.size < w1.heap.size := B0_1.lt
    obtain ⟨c1_0, c1_1, c1_2, d1_0, d1_1, d1_2⟩ := cells3 B1_1
    have z1 : w.heap.size + 1 < w1.heap.size := B1_1.lt
    obtain ⟨⟨c2_0, c2_1, c2_2, c2_3, c2_4, c2_5, c2_6, c2_7, c2_8, c2_9, c2_10⟩, d2_0, d2_1, d2_2, d2_3, d2_4, d2_5, d2_6, d2_7, d2_8, d2_9, d2_10⟩ := cells11 B2_1
    have z2 : w.heap.size + 1 + 1 < w1.heap.size := B2_1.lt
    obtain ⟨c3_0, c3_1, c3_2, c3_3, c3_4, d3_0, d3_1, d3_2, d3_3, d3_4⟩ := cells5 B3_1
    have z3 : w.heap.size + 1 + 1 + 1 < w1.heap.size := B3_1.lt
    have hu1 : IsSys (Bx N w.heap.size (w.heap.size + 4)) w1 (.agg #[.slice r1 (setS (memS s m) id (pcF f pc)).M.W.length r2, .slice r3 (setS (memS s m) id (pcF f pc)).M.G.length r4, .bool (setS (memS s m) id (pcF f pc)).M.bad, .slice r5 (setS (memS s m) id (pcF f pc)).C.length r6, .slice r7 (setS (memS s m) id (pcF f pc)).L.length r8]) (setS (memS s m) id (pcF f pc)) := IsSys.keep (IsSys.mk rfl rW rG rC rL : IsSys (Bx N w.heap.size (w.heap.size + 4)) v2 _ (setS (memS s m) id (pcF f pc))) hq1
    clear hq1
    go_wp2
    exact bodyPost_ret (ret_cell (cs := #[.slice r1 (setS (memS s m) id (pcF f pc)).M.W.length r2, .slice r3 (setS (memS s m) id (pcF f pc)).M.G.length r4, .bool (setS (memS s m) id (pcF f pc)).M.bad, .slice r5 (setS (memS s m) id (pcF f pc)).C.length r6, .slice r7 (setS (memS s m) id (pcF f pc)).L.length r8]) B3_1 Proofs.Try.results151 rfl Proofs.Try.underlying83 rfl (by kernel_rfl)) rfl ⟨_, rfl, exn, IsSys.less (IsSys.keep hu1 keq) (fun _ _ hn => .inl hn)⟩
theorem list8 {l : List Int} (h : l.length = 8) : ∃ a b c d e f g i, l = [a, b, c, d, e, f, g, i] := by
  match l, h with
  | [a, b, c, d, e, f, g, i], _ => exact ⟨a, b, c, d, e, f, g, i, rfl⟩
theorem IsFrame.lit {N : Nat → Prop} {w : World} {v : Value} {f : FrameD} (h : IsFrame N w v f) : ∃ op pc q0 q1 q2 q3 q4 q5 q6 q7 S a c, f = ⟨op, pc, [q0, q1, q2, q3, q4, q5, q6, q7], S⟩ ∧ v = .agg #[.int .i64 op, .int .i64 pc, .int .i64 q0, .int .i64 q1, .int .i64 q2, .int .i64 q3, .int .i64 q4, .int .i64 q5, .int .i64 q6, .int .i64 q7, .slice a S.length c] ∧ IsInts N w (.slice a S.length c) S := by
  obtain ⟨a, c, rfl, h8, hs⟩ := h.opened
  obtain ⟨op, pc, R, S⟩ := f
  obtain ⟨q0, q1, q2, q3, q4, q5, q6, q7, rfl⟩ := list8 h8
  exact ⟨op, pc, q0, q1, q2, q3, q4, q5, q6, q7, S, a, c, rfl, rfl, hs⟩
theorem IsFrame.ofLit {N : Nat → Prop} {w : World} {op pc q0 q1 q2 q3 q4 q5 q6 q7 : Int} {S : List Int} {s : Value} (hs : IsInts N w s S) : IsFrame N w (.agg #[.int .i64 op, .int .i64 pc, .int .i64 q0, .int .i64 q1, .int .i64 q2, .int .i64 q3, .int .i64 q4, .int .i64 q5, .int .i64 q6, .int .i64 q7, s]) ⟨op, pc, [q0, q1, q2, q3, q4, q5, q6, q7], S⟩ :=
  ⟨_, rfl, rfl, s, rfl, hs⟩
theorem idx_ (x : Int) (w : World) : Gives Proofs.Try.prog 41 #[.int .i64 x] w (eqv (.int .i64 (idx x))) := index_ x w
theorem refIdx_ (x : Int) (w : World) : Gives Proofs.Try.prog 42 #[.int .i64 x] w (eqv (.int .i64 (idx x))) := refIndex_ x w
theorem zero50 : ∀ (j : Nat) c, (#[.slice none 0 0, .slice none 0 0, .bool false] : Array Value)[j]? = some c → ∀ x, c ≠ .int .i64 x := by
  intro j c h x e
  subst e
  match j, h with
  | 0, h => simp at h
  | 1, h => simp at h
  | 2, h => simp at h
  | n + 3, h => simp at h
theorem IsInts.putNew {N : Nat → Prop} {w : World} {v : Value} {l : List Int} {k : Nat} {cs : Array Value} {t : TypeId} {o : Obj} (h : IsInts N w v l) (hB : Box w k cs t) (hc : ∀ (j : Nat) c, cs[j]? = some c → ∀ x, c ≠ .int .i64 x) : IsInts N (put w k o) v l := by
  obtain ⟨a, cap, rfl, h1, h2, h3, h4⟩ := h
  refine ⟨a, cap, rfl, h1, h2, h3, fun i hi => ?_⟩
  obtain ⟨b, off, e, hb, hn, hcell⟩ := h4 i hi
  refine ⟨b, off, e, by rw [put_size]; exact hb, hn, ?_⟩
  by_cases hbk : k = b
  · subst hbk
    exfalso
    have hB' : w.heap[k]? = some (.cells cs t (0, 0)) := hB
    have h5 : w.cell? ⟨k, off + i, none⟩ = cs[off + i]? := by simp [World.cell?, hB']
    rw [h5] at hcell
    exact hc _ _ hcell _ rfl
  · exact (World.cell?_of_block (a := ⟨b, off + i, none⟩) (put_other hbk)).trans hcell
theorem IsCores.bxn {N : Nat → Prop} {w : World} {hi : Nat} {v : Value} {l : List CoreD} (h : IsCores N w v l) : IsCores (Bx N w.heap.size hi) w v l := IsCores.less h fun _ hx hn => Bx.new hx hn
theorem IsEvs.bxn {N : Nat → Prop} {w : World} {hi : Nat} {v : Value} {l : List EvD} (h : IsEvs N w v l) : IsEvs (Bx N w.heap.size hi) w v l := IsEvs.less h fun _ hx hn => Bx.new hx hn
theorem IsFrame.litv {N : Nat → Prop} {w : World} {v : Value} {op pc q0 q1 q2 q3 q4 q5 q6 q7 : Int} {S : List Int} (h : IsFrame N w v ⟨op, pc, [q0, q1, q2, q3, q4, q5, q6, q7], S⟩) : ∃ a c, v = .agg #[.int .i64 op, .int .i64 pc, .int .i64 q0, .int .i64 q1, .int .i64 q2, .int .i64 q3, .int .i64 q4, .int .i64 q5, .int .i64 q6, .int .i64 q7, .slice a S.length c] ∧ IsInts N w (.slice a S.length c) S := by
  obtain ⟨a, c, e, _, hs⟩ := h.opened
  exact ⟨a, c, e, hs⟩
theorem IsSys.top8 {N : Nat → Prop} {w : World} {v : Value} {s : SysD} (h : IsSys N w v s) {id : Int} : ∀ f, topD s id = some f → f.R.length = 8 := by
  intro f ht
  obtain ⟨k, c, rfl, hck, hpos, hf⟩ := top_some ht
  obtain ⟨aw, cw, ag, cg, ac, cc, al, cl, rfl, hw, hg, hc, hl⟩ := h.opened
  obtain ⟨bc, oc, af, cf, ar, cr, e, xc, nc, hx3, hf', hr, _⟩ := IsCores.at hc hck
  obtain ⟨b, off, s', e', h1, h2, h8, _⟩ := IsFrames.at hf' hf
  exact h8
end Go.Proofs.Ytcfbdfgondmkoaa
/- Where a node's link stands, of any number; pairs of an arena and a value. -/
namespace Go.Proofs.Ytcfbdfgondmkoaa
open Go Go.RowKit
set_option linter.unusedSimpArgs false
set_option linter.unusedVariables false
set_option linter.unnecessarySimpa false

theorem linkAt_lo (p : Int) : -9223372036854775808 ≤ linkAt p ∧ linkAt p ≤ 9223372036854775807 := by unfold linkAt wrap64; omega
def isTupN (N : Nat → Prop) (m : Arena) (x : Value) : GP := fun v w => ∃ u, v = .tuple #[u, x] ∧ IsMem N w u m
theorem stable_isTupN (N : Nat → Prop) (m : Arena) (x : Value) : Stable (isTupN N m x) := fun _ _ _ ⟨u, h1, h2⟩ hx => ⟨u, h1, IsMem.keep h2 hx.keep⟩
theorem atw_ (p : Int) (w : World) : Gives Proofs.Try.prog 57 #[.int .i64 p, .int .i64 0] w (eqv (.int .i64 (linkAt p))) := by
  go_enter Proofs.Try.func57, Proofs.Try.ntmps57
  go_wp2
  go_ret
  exact ⟨_, rfl, exq, by show Value.int .i64 (wrap64 (wrap64 (128 + wrap64 (4 * wrap64 (p - 1))))) = Value.int .i64 (linkAt p); congr 1; unfold linkAt wrap64; omega⟩
theorem refAtw_ (p : Int) (w : World) : Gives Proofs.Try.prog 58 #[.int .i64 p, .int .i64 0] w (eqv (.int .i64 (linkAt p))) := by
  go_enter Proofs.Try.func58, Proofs.Try.ntmps58
  go_wp2
  go_ret
  exact ⟨_, rfl, exq, by show Value.int .i64 (wrap64 (wrap64 (128 + wrap64 (4 * wrap64 (p - 1))))) = Value.int .i64 (linkAt p); congr 1; unfold linkAt wrap64; omega⟩
end Go.Proofs.Ytcfbdfgondmkoaa
/- A step of a core at the list of free nodes: pop and push. -/
namespace Go.Proofs.Ytcfbdfgondmkoaa
open Go Go.RowKit
set_option linter.unusedSimpArgs false
set_option linter.unusedVariables false
set_option linter.unnecessarySimpa false

theorem logD_C (s : SysD) (id kind a b v : Int) : (logD s id kind a b v).C = s.C := by unfold logD; split <;> rfl
set_option maxHeartbeats 1000000 in
set_option maxRecDepth 100000 in
theorem pop_z0 (N : Nat → Prop) (s : SysD) (id op q0 q1 q2 q3 q4 q5 q6 q7 : Int) (fS : List Int) (aw ag ac al ga : Option Addr) (cw cg cc cl gc : Nat) (w : World) (hw : IsInts N w (.slice aw s.M.W.length cw) s.M.W) (hg : IsInts N w (.slice ag s.M.G.length cg) s.M.G) (hc : IsCores N w (.slice ac s.C.length cc) s.C) (hl : IsEvs N w (.slice al s.L.length cl) s.L) (fs : IsInts N w (.slice ga fS.length gc) fS)
    (hN : ∀ b, N b → b < w.heap.size) (hC : s.C.length ≤ 100000) (hFm : ∀ (i : Nat) c, s.C[i]? = some c → c.F.length ≤ 100000) (hfit : Fits s.M) (hL : s.L.length ≤ 100000) (hi : (idx (loadD s.M 0) == 0) = true) :
    Gives Proofs.Try.prog 152 #[.agg #[.slice aw s.M.W.length cw, .slice ag s.M.G.length cg, .bool s.M.bad, .slice ac s.C.length cc, .slice al s.L.length cl], .int .i64 id, .agg #[.int .i64 op, .int .i64 0, .int .i64 q0, .int .i64 q1, .int .i64 q2, .int .i64 q3, .int .i64 q4, .int .i64 q5, .int .i64 q6, .int .i64 q7, .slice ga fS.length gc]] w (fun r w' => IsSys N w' r (backS (logD (memS s (touchD s.M 0)) id 9 0 0 0) id 0 2)) := by
  have hwB := hw.bxn (hi := w.heap.size + 3)
  have hgB := hg.bxn (hi := w.heap.size + 3)
  have hcB := hc.bxn (hi := w.heap.size + 3)
  have hlB := hl.bxn (hi := w.heap.size + 3)
  have fsB := fs.bxn (hi := w.heap.size + 3)
  obtain ⟨m1, hm1⟩ : ∃ m, touchD s.M 0 = m := ⟨_, rfl⟩
  obtain ⟨v, hv⟩ : ∃ x, loadD s.M 0 = x := ⟨_, rfl⟩
  have kl : ∀ (w' : World) (va : Value), IsMem (Bx N w.heap.size (w.heap.size + 3)) w' va s.M → w.heap.size + 3 ≤ w'.heap.size → Gives Proofs.Try.prog 64 #[va, .int .i64 (0)] w' (fun r w' => ∃ u, r = .tuple #[u, .int .i64 v] ∧ IsMem (Bx N w.heap.size (w.heap.size + 3)) w' u m1) := fun w' va hm hsz => by
    have := memLoad_ (Bx N w.heap.size (w.heap.size + 3)) va s.M (0) w' hm hfit (Bx.le hN hsz) (by decide) (by decide)
    rw [hm1, hv] at this; exact this
  rw [hm1]
  try rw [hv]
  rw [hv] at hi
  clear hm1 hv
  go_enter Proofs.Try.func152, Proofs.Try.ntmps152
  go_wp2_with (fail)
  go_at_call 64
  refine (kl _ _ (IsMem.mk rfl (IsInts.keep hwB keq) (IsInts.keep hgB keq)) (by first | omega | (simp <;> omega))).calls.mono ?_
  rintro e w1 ⟨_, rfl, hb1, u, rfl, hu1⟩
  obtain ⟨u1, u2, u3, u4, rfl, mw, mg⟩ := hu1.opened
  have B0_1 : Box w1 (w.heap.size) #[.slice aw s.M.W.length cw, .slice ag s.M.G.length cg, .bool s.M.bad, .slice ac s.C.length cc, .slice al s.L.length cl] 83 := (((Box.newAt _ _ _ (by first | rfl | simp)).alloc _).alloc _).ext hb1
  have B1_1 : Box w1 (w.heap.size + 1) #[.int .i64 op, .int .i64 0, .int .i64 q0, .int .i64 q1, .int .i64 q2, .int .i64 q3, .int .i64 q4, .int .i64 q5, .int .i64 q6, .int .i64 q7, .slice ga fS.length gc] 95 := ((Box.newAt _ _ _ (by first | rfl | simp)).alloc _).ext hb1
  have B2_1 : Box w1 (w.heap.size + 1 + 1) #[.slice none 0 0, .slice none 0 0, .bool false, .slice none 0 0, .slice none 0 0] 83 := (Box.newAt _ _ _ (by first | rfl | simp)).ext hb1
  have s1 : w.heap.size + 3 ≤ w1.heap.size := (by have h := hb1.size; first | omega | (simp at h; omega))
  obtain ⟨c0_0, c0_1, c0_2, c0_3, c0_4, d0_0, d0_1, d0_2, d0_3, d0_4⟩ := cells5 B0_1
  have z0 : w.heap.size < w1.heap.size := B0_1.lt
  obtain ⟨⟨c1_0, c1_1, c1_2, c1_3, c1_4, c1_5, c1_6, c1_7, c1_8, c1_9, c1_10⟩, d1_0, d1_1, d1_2, d1_3, d1_4, d1_5, d1_6, d1_7, d1_8, d1_9, d1_10⟩ := cells11 B1_1
  have z1 : w.heap.size + 1 < w1.heap.size := B1_1.lt
  obtain ⟨c2_0, c2_1, c2_2, c2_3, c2_4, d2_0, d2_1, d2_2, d2_3, d2_4⟩ := cells5 B2_1
  have z2 : w.heap.size + 1 + 1 < w1.heap.size := B2_1.lt
  go_wp2_with (fail)
  go_at_call 41
  refine (idx_ v _).calls.mono ?_
  rintro e w2 ⟨_, rfl, hb2, rfl⟩
  have B0_2 : Box w2 (w.heap.size) #[.slice u1 m1.W.length u2, .slice u3 m1.G.length u4, .bool m1.bad, .slice ac s.C.length cc, .slice al s.L.length cl] 83 := ((((B0_1.setCell _).setCell _).setCell _).setOther (by first | omega | (simp <;> omega)) _).ext hb2
  have B1_2 : Box w2 (w.heap.size + 1) #[.int .i64 op, .int .i64 0, .int .i64 v, .int .i64 q1, .int .i64 q2, .int .i64 q3, .int .i64 q4, .int .i64 q5, .int .i64 q6, .int .i64 q7, .slice ga fS.length gc] 95 := ((((B1_1.setOther (by first | omega | (simp <;> omega)) _).setOther (by first | omega | (simp <;> omega)) _).setOther (by first | omega | (simp <;> omega)) _).setCell _).ext hb2
  have B2_2 : Box w2 (w.heap.size + 1 + 1) #[.slice none 0 0, .slice none 0 0, .bool false, .slice none 0 0, .slice none 0 0] 83 := ((((B2_1.setOther (by first | omega | (simp <;> omega)) _).setOther (by first | omega | (simp <;> omega)) _).setOther (by first | omega | (simp <;> omega)) _).setOther (by first | omega | (simp <;> omega)) _).ext hb2
  clear c0_0 c0_1 c0_2 c0_3 c0_4 d0_0 d0_1 d0_2 d0_3 d0_4 z0 c1_0 c1_1 c1_2 c1_3 c1_4 c1_5 c1_6 c1_7 c1_8 c1_9 c1_10 d1_0 d1_1 d1_2 d1_3 d1_4 d1_5 d1_6 d1_7 d1_8 d1_9 d1_10 z1 c2_0 c2_1 c2_2 c2_3 c2_4 d2_0 d2_1 d2_2 d2_3 d2_4 z2
  have s2 : w1.heap.size ≤ w2.heap.size := (by have h := hb2.size; first | omega | (simp at h; omega))
  obtain ⟨c0_0, c0_1, c0_2, c0_3, c0_4, d0_0, d0_1, d0_2, d0_3, d0_4⟩ := cells5 B0_2
  have z0 : w.heap.size < w2.heap.size := B0_2.lt
  obtain ⟨⟨c1_0, c1_1, c1_2, c1_3, c1_4, c1_5, c1_6, c1_7, c1_8, c1_9, c1_10⟩, d1_0, d1_1, d1_2, d1_3, d1_4, d1_5, d1_6, d1_7, d1_8, d1_9, d1_10⟩ := cells11 B1_2
  have z1 : w.heap.size + 1 < w2.heap.size := B1_2.lt
  obtain ⟨c2_0, c2_1, c2_2, c2_3, c2_4, d2_0, d2_1, d2_2, d2_3, d2_4⟩ := cells5 B2_2
  have z2 : w.heap.size + 1 + 1 < w2.heap.size := B2_2.lt
  go_wp2_with (fail)
  go_at_call 87
  refine (log_ (Bx N w.heap.size (w.heap.size + 3)) _ (memS s m1) id 9 0 0 0 _ (IsSys.mk rfl (IsInts.keep mw keq) (IsInts.keep mg keq) (IsCores.keep hcB keq) (IsEvs.keep hlB keq) : IsSys (Bx N w.heap.size (w.heap.size + 3)) _ _ (memS s m1)) (Bx.le hN (by first | omega | (simp <;> omega))) hL).calls.mono ?_
  rintro e w3 ⟨_, rfl, hb3, ht⟩
  obtain ⟨t1, t2, t3, t4, t5, t6, t7, t8, rfl, tW, tG, tC, tL⟩ := ht.opened
  have B0_3 : Box w3 (w.heap.size) #[.slice u1 m1.W.length u2, .slice u3 m1.G.length u4, .bool m1.bad, .slice ac s.C.length cc, .slice al s.L.length cl] 83 := B0_2.ext hb3
  have B1_3 : Box w3 (w.heap.size + 1) #[.int .i64 op, .int .i64 0, .int .i64 v, .int .i64 q1, .int .i64 q2, .int .i64 q3, .int .i64 q4, .int .i64 q5, .int .i64 q6, .int .i64 q7, .slice ga fS.length gc] 95 := B1_2.ext hb3
  have B2_3 : Box w3 (w.heap.size + 1 + 1) #[.slice none 0 0, .slice none 0 0, .bool false, .slice none 0 0, .slice none 0 0] 83 := B2_2.ext hb3
  clear c0_0 c0_1 c0_2 c0_3 c0_4 d0_0 d0_1 d0_2 d0_3 d0_4 z0 c1_0 c1_1 c1_2 c1_3 c1_4 c1_5 c1_6 c1_7 c1_8 c1_9 c1_10 d1_0 d1_1 d1_2 d1_3 d1_4 d1_5 d1_6 d1_7 d1_8 d1_9 d1_10 z1 c2_0 c2_1 c2_2 c2_3 c2_4 d2_0 d2_1 d2_2 d2_3 d2_4 z2
  have s3 : w2.heap.size ≤ w3.heap.size := (by have h := hb3.size; first | omega | (simp at h; omega))
  obtain ⟨c0_0, c0_1, c0_2, c0_3, c0_4, d0_0, d0_1, d0_2, d0_3, d0_4⟩ := cells5 B0_3
  have z0 : w.heap.size < w3.heap.size := B0_3.lt
  obtain ⟨⟨c1_0, c1_1, c1_2, c1_3, c1_4, c1_5, c1_6, c1_7, c1_8, c1_9, c1_10⟩, d1_0, d1_1, d1_2, d1_3, d1_4, d1_5, d1_6, d1_7, d1_8, d1_9, d1_10⟩ := cells11 B1_3
  have z1 : w.heap.size + 1 < w3.heap.size := B1_3.lt
  obtain ⟨c2_0, c2_1, c2_2, c2_3, c2_4, d2_0, d2_1, d2_2, d2_3, d2_4⟩ := cells5 B2_3
  have z2 : w.heap.size + 1 + 1 < w3.heap.size := B2_3.lt
  go_wp2_with (fail)
  go_at_call 86
  refine (back_ (Bx N w.heap.size (w.heap.size + 3)) _ (logD (memS s m1) id 9 0 0 0) id 0 2 _ (IsSys.mk rfl (IsInts.keep tW keq) (IsInts.keep tG keq) (IsCores.keep tC keq) (IsEvs.keep tL keq) : IsSys (Bx N w.heap.size (w.heap.size + 3)) _ _ (logD (memS s m1) id 9 0 0 0)) (Bx.le hN (by first | omega | (simp <;> omega))) (by rw [logD_C]; exact hC)).calls.mono ?_
  rintro e w4 ⟨_, rfl, hb4, hu4⟩
  obtain ⟨r1, r2, r3, r4, r5, r6, r7, r8, rfl, rW, rG, rC, rL⟩ := hu4.opened
  have B0_4 : Box w4 (w.heap.size) #[.slice u1 m1.W.length u2, .slice u3 m1.G.length u4, .bool m1.bad, .slice ac s.C.length cc, .slice al s.L.length cl] 83 := B0_3.ext hb4
  have B1_4 : Box w4 (w.heap.size + 1) #[.int .i64 op, .int .i64 0, .int .i64 v, .int .i64 q1, .int .i64 q2, .int .i64 q3, .int .i64 q4, .int .i64 q5, .int .i64 q6, .int .i64 q7, .slice ga fS.length gc] 95 := B1_3.ext hb4
  have B2_4 : Box w4 (w.heap.size + 1 + 1) #[.slice none 0 0, .slice none 0 0, .bool false, .slice none 0 0, .slice none 0 0] 83 := B2_3.ext hb4
  clear c0_0 c0_1 c0_2 c0_3 c0_4 d0_0 d0_1 d0_2 d0_3 d0_4 z0 c1_0 c1_1 c1_2 c1_3 c1_4 c1_5 c1_6 c1_7 c1_8 c1_9 c1_10 d1_0 d1_1 d1_2 d1_3 d1_4 d1_5 d1_6 d1_7 d1_8 d1_9 d1_10 z1 c2_0 c2_1 c2_2 c2_3 c2_4 d2_0 d2_1 d2_2 d2_3 d2_4 z2
  have s4 : w3.heap.size ≤ w4.heap.size := (by have h := hb4.size; first | omega | (simp at h; omega))
  obtain ⟨c0_0, c0_1, c0_2, c0_3, c0_4, d0_0, d0_1, d0_2, d0_3, d0_4⟩ := cells5 B0_4
  have z0 : w.heap.size < w4.heap.size := B0_4.lt
  obtain ⟨⟨c1_0, c1_1, c1_2, c1_3, c1_4, c1_5, c1_6, c1_7, c1_8, c1_9, c1_10⟩, d1_0, d1_1, d1_2, d1_3, d1_4, d1_5, d1_6, d1_7, d1_8, d1_9, d1_10⟩ := cells11 B1_4
  have z1 : w.heap.size + 1 < w4.heap.size := B1_4.lt
  obtain ⟨c2_0, c2_1, c2_2, c2_3, c2_4, d2_0, d2_1, d2_2, d2_3, d2_4⟩ := cells5 B2_4
  have z2 : w.heap.size + 1 + 1 < w4.heap.size := B2_4.lt
  go_wp2
  exact bodyPost_ret (ret_cell (cs := #[.slice r1 (backS (logD (memS s m1) id 9 0 0 0) id 0 2).M.W.length r2, .slice r3 (backS (logD (memS s m1) id 9 0 0 0) id 0 2).M.G.length r4, .bool (backS (logD (memS s m1) id 9 0 0 0) id 0 2).M.bad, .slice r5 (backS (logD (memS s m1) id 9 0 0 0) id 0 2).C.length r6, .slice r7 (backS (logD (memS s m1) id 9 0 0 0) id 0 2).L.length r8]) (((((B2_4.setCell _).setCell _).setCell _).setCell _).setCell _) Proofs.Try.results152 rfl Proofs.Try.underlying83 rfl (by kernel_rfl)) rfl ⟨_, rfl, exn, IsSys.less (IsSys.keep hu4 keq) (fun _ _ hn => .inl hn)⟩
set_option maxHeartbeats 1000000 in
set_option maxRecDepth 100000 in
theorem pop_n0 (N : Nat → Prop) (s : SysD) (id op q0 q1 q2 q3 q4 q5 q6 q7 : Int) (fS : List Int) (aw ag ac al ga : Option Addr) (cw cg cc cl gc : Nat) (w : World) (hw : IsInts N w (.slice aw s.M.W.length cw) s.M.W) (hg : IsInts N w (.slice ag s.M.G.length cg) s.M.G) (hc : IsCores N w (.slice ac s.C.length cc) s.C) (hl : IsEvs N w (.slice al s.L.length cl) s.L) (fs : IsInts N w (.slice ga fS.length gc) fS)
    (hN : ∀ b, N b → b < w.heap.size) (hC : s.C.length ≤ 100000) (hFm : ∀ (i : Nat) c, s.C[i]? = some c → c.F.length ≤ 100000) (hfit : Fits s.M) (hi : (idx (loadD s.M 0) == 0) = false) :
    Gives Proofs.Try.prog 152 #[.agg #[.slice aw s.M.W.length cw, .slice ag s.M.G.length cg, .bool s.M.bad, .slice ac s.C.length cc, .slice al s.L.length cl], .int .i64 id, .agg #[.int .i64 op, .int .i64 0, .int .i64 q0, .int .i64 q1, .int .i64 q2, .int .i64 q3, .int .i64 q4, .int .i64 q5, .int .i64 q6, .int .i64 q7, .slice ga fS.length gc]] w (fun r w' => IsSys N w' r (onS s id (touchD s.M 0) ⟨op, 0, [loadD s.M 0, q1, q2, q3, q4, q5, q6, q7], fS⟩ 1)) := by
  have hwB := hw.bxn (hi := w.heap.size + 3)
  have hgB := hg.bxn (hi := w.heap.size + 3)
  have hcB := hc.bxn (hi := w.heap.size + 3)
  have hlB := hl.bxn (hi := w.heap.size + 3)
  have fsB := fs.bxn (hi := w.heap.size + 3)
  obtain ⟨m1, hm1⟩ : ∃ m, touchD s.M 0 = m := ⟨_, rfl⟩
  obtain ⟨v, hv⟩ : ∃ x, loadD s.M 0 = x := ⟨_, rfl⟩
  have kl : ∀ (w' : World) (va : Value), IsMem (Bx N w.heap.size (w.heap.size + 3)) w' va s.M → w.heap.size + 3 ≤ w'.heap.size → Gives Proofs.Try.prog 64 #[va, .int .i64 (0)] w' (fun r w' => ∃ u, r = .tuple #[u, .int .i64 v] ∧ IsMem (Bx N w.heap.size (w.heap.size + 3)) w' u m1) := fun w' va hm hsz => by
    have := memLoad_ (Bx N w.heap.size (w.heap.size + 3)) va s.M (0) w' hm hfit (Bx.le hN hsz) (by decide) (by decide)
    rw [hm1, hv] at this; exact this
  rw [hm1]
  try rw [hv]
  rw [hv] at hi
  clear hm1 hv
  go_enter Proofs.Try.func152, Proofs.Try.ntmps152
  go_wp2_with (fail)
  go_at_call 64
  refine (kl _ _ (IsMem.mk rfl (IsInts.keep hwB keq) (IsInts.keep hgB keq)) (by first | omega | (simp <;> omega))).calls.mono ?_
  rintro e w1 ⟨_, rfl, hb1, u, rfl, hu1⟩
  obtain ⟨u1, u2, u3, u4, rfl, mw, mg⟩ := hu1.opened
  have B0_1 : Box w1 (w.heap.size) #[.slice aw s.M.W.length cw, .slice ag s.M.G.length cg, .bool s.M.bad, .slice ac s.C.length cc, .slice al s.L.length cl] 83 := (((Box.newAt _ _ _ (by first | rfl | simp)).alloc _).alloc _).ext hb1
  have B1_1 : Box w1 (w.heap.size + 1) #[.int .i64 op, .int .i64 0, .int .i64 q0, .int .i64 q1, .int .i64 q2, .int .i64 q3, .int .i64 q4, .int .i64 q5, .int .i64 q6, .int .i64 q7, .slice ga fS.length gc] 95 := ((Box.newAt _ _ _ (by first | rfl | simp)).alloc _).ext hb1
  have B2_1 : Box w1 (w.heap.size + 1 + 1) #[.slice none 0 0, .slice none 0 0, .bool false, .slice none 0 0, .slice none 0 0] 83 := (Box.newAt _ _ _ (by first | rfl | simp)).ext hb1
  have s1 : w.heap.size + 3 ≤ w1.heap.size := (by have h := hb1.size; first | omega | (simp at h; omega))
  obtain ⟨c0_0, c0_1, c0_2, c0_3, c0_4, d0_0, d0_1, d0_2, d0_3, d0_4⟩ := cells5 B0_1
  have z0 : w.heap.size < w1.heap.size := B0_1.lt
  obtain ⟨⟨c1_0, c1_1, c1_2, c1_3, c1_4, c1_5, c1_6, c1_7, c1_8, c1_9, c1_10⟩, d1_0, d1_1, d1_2, d1_3, d1_4, d1_5, d1_6, d1_7, d1_8, d1_9, d1_10⟩ := cells11 B1_1
  have z1 : w.heap.size + 1 < w1.heap.size := B1_1.lt
  obtain ⟨c2_0, c2_1, c2_2, c2_3, c2_4, d2_0, d2_1, d2_2, d2_3, d2_4⟩ := cells5 B2_1
  have z2 : w.heap.size + 1 + 1 < w1.heap.size := B2_1.lt
  go_wp2_with (fail)
  go_at_call 41
  refine (idx_ v _).calls.mono ?_
  rintro e w2 ⟨_, rfl, hb2, rfl⟩
  have B0_2 : Box w2 (w.heap.size) #[.slice u1 m1.W.length u2, .slice u3 m1.G.length u4, .bool m1.bad, .slice ac s.C.length cc, .slice al s.L.length cl] 83 := ((((B0_1.setCell _).setCell _).setCell _).setOther (by first | omega | (simp <;> omega)) _).ext hb2
  have B1_2 : Box w2 (w.heap.size + 1) #[.int .i64 op, .int .i64 0, .int .i64 v, .int .i64 q1, .int .i64 q2, .int .i64 q3, .int .i64 q4, .int .i64 q5, .int .i64 q6, .int .i64 q7, .slice ga fS.length gc] 95 := ((((B1_1.setOther (by first | omega | (simp <;> omega)) _).setOther (by first | omega | (simp <;> omega)) _).setOther (by first | omega | (simp <;> omega)) _).setCell _).ext hb2
  have B2_2 : Box w2 (w.heap.size + 1 + 1) #[.slice none 0 0, .slice none 0 0, .bool false, .slice none 0 0, .slice none 0 0] 83 := ((((B2_1.setOther (by first | omega | (simp <;> omega)) _).setOther (by first | omega | (simp <;> omega)) _).setOther (by first | omega | (simp <;> omega)) _).setOther (by first | omega | (simp <;> omega)) _).ext hb2
  clear c0_0 c0_1 c0_2 c0_3 c0_4 d0_0 d0_1 d0_2 d0_3 d0_4 z0 c1_0 c1_1 c1_2 c1_3 c1_4 c1_5 c1_6 c1_7 c1_8 c1_9 c1_10 d1_0 d1_1 d1_2 d1_3 d1_4 d1_5 d1_6 d1_7 d1_8 d1_9 d1_10 z1 c2_0 c2_1 c2_2 c2_3 c2_4 d2_0 d2_1 d2_2 d2_3 d2_4 z2
  have s2 : w1.heap.size ≤ w2.heap.size := (by have h := hb2.size; first | omega | (simp at h; omega))
  obtain ⟨c0_0, c0_1, c0_2, c0_3, c0_4, d0_0, d0_1, d0_2, d0_3, d0_4⟩ := cells5 B0_2
  have z0 : w.heap.size < w2.heap.size := B0_2.lt
  obtain ⟨⟨c1_0, c1_1, c1_2, c1_3, c1_4, c1_5, c1_6, c1_7, c1_8, c1_9, c1_10⟩, d1_0, d1_1, d1_2, d1_3, d1_4, d1_5, d1_6, d1_7, d1_8, d1_9, d1_10⟩ := cells11 B1_2
  have z1 : w.heap.size + 1 < w2.heap.size := B1_2.lt
  obtain ⟨c2_0, c2_1, c2_2, c2_3, c2_4, d2_0, d2_1, d2_2, d2_3, d2_4⟩ := cells5 B2_2
  have z2 : w.heap.size + 1 + 1 < w2.heap.size := B2_2.lt
  go_wp2_with (fail)
  go_at_call 165
  refine (on4_ (Bx N w.heap.size (w.heap.size + 3)) _ _ (memS s m1) id 1 ⟨op, 0, [v, q1, q2, q3, q4, q5, q6, q7], fS⟩ _ (IsSys.mk rfl (IsInts.keep mw keq) (IsInts.keep mg keq) (IsCores.keep hcB keq) (IsEvs.keep hlB keq) : IsSys (Bx N w.heap.size (w.heap.size + 3)) _ _ (memS s m1)) (IsFrame.ofLit (IsInts.keep fsB keq) : IsFrame _ _ _ ⟨op, 0, [v, q1, q2, q3, q4, q5, q6, q7], fS⟩) (Bx.le hN (by first | omega | (simp <;> omega))) hC hFm).calls.mono ?_
  rintro e w3 ⟨_, rfl, hb3, hu3⟩
  obtain ⟨r1, r2, r3, r4, r5, r6, r7, r8, rfl, rW, rG, rC, rL⟩ := hu3.opened
  have B0_3 : Box w3 (w.heap.size) #[.slice u1 m1.W.length u2, .slice u3 m1.G.length u4, .bool m1.bad, .slice ac s.C.length cc, .slice al s.L.length cl] 83 := B0_2.ext hb3
  have B1_3 : Box w3 (w.heap.size + 1) #[.int .i64 op, .int .i64 0, .int .i64 v, .int .i64 q1, .int .i64 q2, .int .i64 q3, .int .i64 q4, .int .i64 q5, .int .i64 q6, .int .i64 q7, .slice ga fS.length gc] 95 := B1_2.ext hb3
  have B2_3 : Box w3 (w.heap.size + 1 + 1) #[.slice none 0 0, .slice none 0 0, .bool false, .slice none 0 0, .slice none 0 0] 83 := B2_2.ext hb3
  clear c0_0 c0_1 c0_2 c0_3 c0_4 d0_0 d0_1 d0_2 d0_3 d0_4 z0 c1_0 c1_1 c1_2 c1_3 c1_4 c1_5 c1_6 c1_7 c1_8 c1_9 c1_10 d1_0 d1_1 d1_2 d1_3 d1_4 d1_5 d1_6 d1_7 d1_8 d1_9 d1_10 z1 c2_0 c2_1 c2_2 c2_3 c2_4 d2_0 d2_1 d2_2 d2_3 d2_4 z2
  have s3 : w2.heap.size ≤ w3.heap.size := (by have h := hb3.size; first | omega | (simp at h; omega))
  obtain ⟨c0_0, c0_1, c0_2, c0_3, c0_4, d0_0, d0_1, d0_2, d0_3, d0_4⟩ := cells5 B0_3
  have z0 : w.heap.size < w3.heap.size := B0_3.lt
  obtain ⟨⟨c1_0, c1_1, c1_2, c1_3, c1_4, c1_5, c1_6, c1_7, c1_8, c1_9, c1_10⟩, d1_0, d1_1, d1_2, d1_3, d1_4, d1_5, d1_6, d1_7, d1_8, d1_9, d1_10⟩ := cells11 B1_3
  have z1 : w.heap.size + 1 < w3.heap.size := B1_3.lt
  obtain ⟨c2_0, c2_1, c2_2, c2_3, c2_4, d2_0, d2_1, d2_2, d2_3, d2_4⟩ := cells5 B2_3
  have z2 : w.heap.size + 1 + 1 < w3.heap.size := B2_3.lt
  go_wp2
  exact bodyPost_ret (ret_cell (cs := #[.slice r1 (setS (memS s m1) id (pcF ⟨op, 0, [v, q1, q2, q3, q4, q5, q6, q7], fS⟩ 1)).M.W.length r2, .slice r3 (setS (memS s m1) id (pcF ⟨op, 0, [v, q1, q2, q3, q4, q5, q6, q7], fS⟩ 1)).M.G.length r4, .bool (setS (memS s m1) id (pcF ⟨op, 0, [v, q1, q2, q3, q4, q5, q6, q7], fS⟩ 1)).M.bad, .slice r5 (setS (memS s m1) id (pcF ⟨op, 0, [v, q1, q2, q3, q4, q5, q6, q7], fS⟩ 1)).C.length r6, .slice r7 (setS (memS s m1) id (pcF ⟨op, 0, [v, q1, q2, q3, q4, q5, q6, q7], fS⟩ 1)).L.length r8]) (((((B2_3.setCell _).setCell _).setCell _).setCell _).setCell _) Proofs.Try.results152 rfl Proofs.Try.underlying83 rfl (by kernel_rfl)) rfl ⟨_, rfl, exn, IsSys.less (IsSys.keep hu3 keq) (fun _ _ hn => .inl hn)⟩
set_option maxHeartbeats 1000000 in
set_option maxRecDepth 100000 in
theorem pop_1 (N : Nat → Prop) (s : SysD) (id op q0 q1 q2 q3 q4 q5 q6 q7 : Int) (fS : List Int) (aw ag ac al ga : Option Addr) (cw cg cc cl gc : Nat) (w : World) (hw : IsInts N w (.slice aw s.M.W.length cw) s.M.W) (hg : IsInts N w (.slice ag s.M.G.length cg) s.M.G) (hc : IsCores N w (.slice ac s.C.length cc) s.C) (hl : IsEvs N w (.slice al s.L.length cl) s.L) (fs : IsInts N w (.slice ga fS.length gc) fS)
    (hN : ∀ b, N b → b < w.heap.size) (hC : s.C.length ≤ 100000) (hFm : ∀ (i : Nat) c, s.C[i]? = some c → c.F.length ≤ 100000) (hfit : Fits s.M)  :
    Gives Proofs.Try.prog 152 #[.agg #[.slice aw s.M.W.length cw, .slice ag s.M.G.length cg, .bool s.M.bad, .slice ac s.C.length cc, .slice al s.L.length cl], .int .i64 id, .agg #[.int .i64 op, .int .i64 1, .int .i64 q0, .int .i64 q1, .int .i64 q2, .int .i64 q3, .int .i64 q4, .int .i64 q5, .int .i64 q6, .int .i64 q7, .slice ga fS.length gc]] w (fun r w' => IsSys N w' r (onS s id (touchD s.M (linkAt (idx q0))) ⟨op, 1, [q0, loadD s.M (linkAt (idx q0)), q2, q3, q4, q5, q6, q7], fS⟩ 2)) := by
  have hwB := hw.bxn (hi := w.heap.size + 3)
  have hgB := hg.bxn (hi := w.heap.size + 3)
  have hcB := hc.bxn (hi := w.heap.size + 3)
  have hlB := hl.bxn (hi := w.heap.size + 3)
  have fsB := fs.bxn (hi := w.heap.size + 3)
  obtain ⟨m1, hm1⟩ : ∃ m, touchD s.M (linkAt (idx q0)) = m := ⟨_, rfl⟩
  obtain ⟨v, hv⟩ : ∃ x, loadD s.M (linkAt (idx q0)) = x := ⟨_, rfl⟩
  have kl : ∀ (w' : World) (va : Value), IsMem (Bx N w.heap.size (w.heap.size + 3)) w' va s.M → w.heap.size + 3 ≤ w'.heap.size → Gives Proofs.Try.prog 64 #[va, .int .i64 ((linkAt (idx q0)))] w' (fun r w' => ∃ u, r = .tuple #[u, .int .i64 v] ∧ IsMem (Bx N w.heap.size (w.heap.size + 3)) w' u m1) := fun w' va hm hsz => by
    have := memLoad_ (Bx N w.heap.size (w.heap.size + 3)) va s.M ((linkAt (idx q0))) w' hm hfit (Bx.le hN hsz) (linkAt_lo _).1 (linkAt_lo _).2
    rw [hm1, hv] at this; exact this
  rw [hm1]
  try rw [hv]
  clear hm1 hv
  go_enter Proofs.Try.func152, Proofs.Try.ntmps152
  go_wp2_with (fail)
  obtain ⟨W8, hW⟩ : ∃ W, W = (((w.alloc (.cells #[.slice aw s.M.W.length cw, .slice ag s.M.G.length cg, .bool s.M.bad, .slice ac s.C.length cc, .slice al s.L.length cl] 83 (0, 0))).alloc (.cells #[.int .i64 op, .int .i64 1, .int .i64 q0, .int .i64 q1, .int .i64 q2, .int .i64 q3, .int .i64 q4, .int .i64 q5, .int .i64 q6, .int .i64 q7, .slice ga fS.length gc] 95 (0, 0))).alloc (.cells #[.slice none 0 0, .slice none 0 0, .bool false, .slice none 0 0, .slice none 0 0] 83 (0, 0))) := ⟨_, rfl⟩
  have hX8 : Ext w W8 := by rw [hW]; exact exn
  have hK8 : Keep (Bx N w.heap.size (w.heap.size + 3)) w W8 := by rw [hW]; exact keq
  have D0_8 : Box (((w.alloc (.cells #[.slice aw s.M.W.length cw, .slice ag s.M.G.length cg, .bool s.M.bad, .slice ac s.C.length cc, .slice al s.L.length cl] 83 (0, 0))).alloc (.cells #[.int .i64 op, .int .i64 1, .int .i64 q0, .int .i64 q1, .int .i64 q2, .int .i64 q3, .int .i64 q4, .int .i64 q5, .int .i64 q6, .int .i64 q7, .slice ga fS.length gc] 95 (0, 0))).alloc (.cells #[.slice none 0 0, .slice none 0 0, .bool false, .slice none 0 0, .slice none 0 0] 83 (0, 0))) (w.heap.size) #[.slice aw s.M.W.length cw, .slice ag s.M.G.length cg, .bool s.M.bad, .slice ac s.C.length cc, .slice al s.L.length cl] 83 := (((Box.newAt _ _ _ (by first | rfl | simp)).alloc _).alloc _)
  rw [← hW] at D0_8
  have D1_8 : Box (((w.alloc (.cells #[.slice aw s.M.W.length cw, .slice ag s.M.G.length cg, .bool s.M.bad, .slice ac s.C.length cc, .slice al s.L.length cl] 83 (0, 0))).alloc (.cells #[.int .i64 op, .int .i64 1, .int .i64 q0, .int .i64 q1, .int .i64 q2, .int .i64 q3, .int .i64 q4, .int .i64 q5, .int .i64 q6, .int .i64 q7, .slice ga fS.length gc] 95 (0, 0))).alloc (.cells #[.slice none 0 0, .slice none 0 0, .bool false, .slice none 0 0, .slice none 0 0] 83 (0, 0))) (w.heap.size + 1) #[.int .i64 op, .int .i64 1, .int .i64 q0, .int .i64 q1, .int .i64 q2, .int .i64 q3, .int .i64 q4, .int .i64 q5, .int .i64 q6, .int .i64 q7, .slice ga fS.length gc] 95 := ((Box.newAt _ _ _ (by first | rfl | simp)).alloc _)
  rw [← hW] at D1_8
  have D2_8 : Box (((w.alloc (.cells #[.slice aw s.M.W.length cw, .slice ag s.M.G.length cg, .bool s.M.bad, .slice ac s.C.length cc, .slice al s.L.length cl] 83 (0, 0))).alloc (.cells #[.int .i64 op, .int .i64 1, .int .i64 q0, .int .i64 q1, .int .i64 q2, .int .i64 q3, .int .i64 q4, .int .i64 q5, .int .i64 q6, .int .i64 q7, .slice ga fS.length gc] 95 (0, 0))).alloc (.cells #[.slice none 0 0, .slice none 0 0, .bool false, .slice none 0 0, .slice none 0 0] 83 (0, 0))) (w.heap.size + 1 + 1) #[.slice none 0 0, .slice none 0 0, .bool false, .slice none 0 0, .slice none 0 0] 83 := (Box.newAt _ _ _ (by first | rfl | simp))
  rw [← hW] at D2_8
  have y8 : w.heap.size + 3 ≤ W8.heap.size := by rw [hW]; simp
  rw [← hW]
  clear hW
  have aM : IsMem (Bx N w.heap.size (w.heap.size + 3)) W8 (.agg #[.slice aw s.M.W.length cw, .slice ag s.M.G.length cg, .bool s.M.bad]) s.M := (IsMem.mk rfl hwB hgB : IsMem (Bx N w.heap.size (w.heap.size + 3)) w _ s.M).keep ((Keep.refl _ _).ext hX8)
  apply region_lit2 (T := [12, 15]) (L := [10, 13, 14]) (X := [w.heap.size, w.heap.size + 1]) (G := [eqv _, eqv _, eqv _, eqv _, eqv _, eqv _, eqv _, isTupN (Bx N w.heap.size (w.heap.size + 3)) m1 (.int .i64 v), isTupN (Bx N w.heap.size (w.heap.size + 3)) m1 (.int .i64 v), isMemN (Bx N w.heap.size (w.heap.size + 3)) m1, eqv (.int .i64 v), eqv _, anyG, eqv _, eqv _, anyG])
  case hm => kernel_rfl
  case hop =>
    refine ⟨?_, ?_, ?_, ?_, ?_, ?_, ?_, ?_, ?_, ?_, ?_, ?_, ?_, ?_, ?_, ?_, trivial⟩
    · intro a wa hs hf hd
      have t3 := hf.off 3 (by kernel_rfl) rfl
      exact plain_ rfl (yes_eqv (o_fieldAddr rfl Proofs.Try.underlying83 rfl rfl (by kernel_rfl) t3) rfl)
    · intro a wa hs hf hd
      have t40 : a.eval (.tmp 40) = _ := hd.at 0 40 (by kernel_rfl)
      exact plain_ rfl (yes_eqv (o_load3 rfl Proofs.Try.underlying50 rfl (by kernel_rfl) t40 ((D0_8.since hs rfl).cell rfl) ((D0_8.since hs rfl).cell rfl) ((D0_8.since hs rfl).cell rfl)) rfl)
    · intro a wa hs hf hd
      have t5 := hf.off 5 (by kernel_rfl) rfl
      exact plain_ rfl (yes_eqv (o_fieldAddr rfl Proofs.Try.underlying95 rfl rfl (by kernel_rfl) t5) rfl)
    · intro a wa hs hf hd
      have t42 : a.eval (.tmp 42) = _ := hd.at 2 42 (by kernel_rfl)
      exact plain_ rfl (yes_eqv (o_indexAddrA (sz := 1) rfl Proofs.Try.underlying93 (by kernel_rfl) t42 rfl (by decide) (by decide)) rfl)
    · intro a wa hs hf hd
      have t43 : a.eval (.tmp 43) = _ := hd.at 3 43 (by kernel_rfl)
      exact plain_ rfl (yes_eqv (o_load1 rfl Proofs.Try.underlying3 rfl t43 ((D1_8.since hs rfl).cell rfl)) rfl)
    · intro a wa hs hf hd
      have t44 : a.eval (.tmp 44) = _ := hd.at 4 44 (by kernel_rfl)
      exact plain_ rfl (yes_gives (idx_ q0 _) rfl rfl Proofs.Try.func41 (by kernel_rfl) (by kernel_rfl) (by simp only [List.map_toArray, List.map_cons, List.map_nil, t44]) rfl)
    · intro a wa hs hf hd
      have t45 : a.eval (.tmp 45) = _ := hd.at 5 45 (by kernel_rfl)
      exact plain_ rfl (yes_gives (atw_ (idx q0) _) rfl rfl Proofs.Try.func57 (by kernel_rfl) (by kernel_rfl) (by simp only [List.map_toArray, List.map_cons, List.map_nil, eval_const, t45]) rfl)
    · intro a wa hs hf hd
      have t41 : a.eval (.tmp 41) = _ := hd.at 1 41 (by kernel_rfl)
      have t46 : a.eval (.tmp 46) = _ := hd.at 6 46 (by kernel_rfl)
      exact plain_ rfl (yes_gives (kl _ _ (aM.keep (Since.to_ext hs).keep) (by have := (Since.to_ext hs).size; have := hX8.size; omega)) rfl rfl Proofs.Try.func64 (by kernel_rfl) (by kernel_rfl) (by simp only [List.map_toArray, List.map_cons, List.map_nil, t41, t46]) rfl)
    · intro a wa hs hf hd
      have t47 := hd.at 7 47 (by kernel_rfl)
      obtain ⟨u, hu, hm⟩ := t47
      exact plain_ rfl (yes_val (runs_ok (o_move rfl hu)) (Ext.refl _) ⟨u, rfl, hm⟩ rfl)
    · intro a wa hs hf hd
      have t39 := hd.at 8 39 (by kernel_rfl)
      obtain ⟨u, hu, hm⟩ := t39
      exact plain_ rfl (yes_val (runs_ok (o_extract rfl hu rfl)) (Ext.refl _) hm rfl)
    · intro a wb wa hs1 hs hf hd
      have t39 := hd.at 8 39 (by kernel_rfl)
      obtain ⟨u, hu, hm⟩ := t39
      exact plain_ rfl (late_eqv (o_extract rfl hu rfl) rfl)
    · intro a wa hs hf hd
      have t3 := hf.off 3 (by kernel_rfl) rfl
      exact plain_ rfl (yes_eqv (o_fieldAddr rfl Proofs.Try.underlying83 rfl rfl (by kernel_rfl) t3) rfl)
    · intro a wb wa hs1 hs hf hd hrun
      have t50 : a.eval (.tmp 50) = _ := hd.at 11 50 (by kernel_rfl)
      have t48 := hd.at 9 48 (by kernel_rfl)
      subst hrun
      have q18 : IsMem (Bx N w.heap.size (w.heap.size + 3)) _ (a.eval (.tmp 48)) m1 := t48
      obtain ⟨u1, u2, u3, u4, hv, _⟩ := q18.opened
      exact ⟨_, o_store rfl t50 hv ((D0_8.since hs1 rfl)) (by kernel_rfl) (by simp [Value.cells, Value.oneCell']) (by first | (simp [Value.cells]; done) | (simp [Value.cells]; omega)) rfl, Since.put hs (.inr (by simp))⟩
    · intro a wb wa hs1 hs hf hd
      have t5 := hf.off 5 (by kernel_rfl) rfl
      exact plain_ rfl (late_eqv (o_fieldAddr rfl Proofs.Try.underlying95 rfl rfl (by kernel_rfl) t5) rfl)
    · intro a wb wa hs1 hs hf hd
      have t51 : a.eval (.tmp 51) = _ := hd.at 13 51 (by kernel_rfl)
      exact plain_ rfl (late_eqv (o_indexAddrA (sz := 1) rfl Proofs.Try.underlying93 (by kernel_rfl) t51 rfl (by decide) (by decide)) rfl)
    · intro a wb wa hs1 hs hf hd hrun
      have t52 : a.eval (.tmp 52) = _ := hd.at 14 52 (by kernel_rfl)
      have t49 : a.eval (.tmp 49) = _ := hd.at 10 49 (by kernel_rfl)
      have t50 : a.eval (.tmp 50) = _ := hd.at 11 50 (by kernel_rfl)
      have t48 := hd.at 9 48 (by kernel_rfl)
      obtain ⟨o1, v1, ho1, hr1, rfl⟩ := hrun
      cases ho1
      have q18 : IsMem (Bx N w.heap.size (w.heap.size + 3)) _ (a.eval (.tmp 48)) m1 := t48
      obtain ⟨u1, u2, u3, u4, hv, _⟩ := q18.opened
      cases (hr1.symm.trans (o_store (v := .agg #[.slice u1 m1.W.length u2, .slice u3 m1.G.length u4, .bool m1.bad]) (new := #[.slice u1 m1.W.length u2, .slice u3 m1.G.length u4, .bool m1.bad, .slice ac s.C.length cc, .slice al s.L.length cl]) rfl t50 hv ((D0_8.since hs1 rfl)) (by kernel_rfl) (by simp [Value.cells, Value.oneCell']) (by first | (simp [Value.cells]; done) | (simp [Value.cells]; omega)) rfl))
      exact ⟨_, o_store rfl t52 t49 ((box_putOther (D1_8.since hs1 rfl) (by omega))) (by kernel_rfl) (by simp [Value.cells, Value.oneCell']) (by first | (simp [Value.cells]; done) | (simp [Value.cells]; omega)) rfl, Since.put hs (.inr (by simp))⟩
  case hG => exact ⟨stable_eqv _, stable_eqv _, stable_eqv _, stable_eqv _, stable_eqv _, stable_eqv _, stable_eqv _, stable_isTupN _ _ _, stable_isTupN _ _ _, stable_isMemN _ _, stable_eqv _, stable_eqv _, stable_any, stable_eqv _, stable_eqv _, stable_any, trivial⟩
  case hc => kernel_rfl
  case hfin =>
    intro v8 hs8
    rintro _ rfl _ rfl _ rfl _ rfl _ rfl _ rfl _ rfl _ ⟨p7, rfl, h7⟩ _ ⟨p8, rfl, h8⟩ p9 h9 _ rfl _ rfl _ rfl _ rfl
    obtain ⟨u1, u2, u3, u4, rfl, uw, ug⟩ := IsMem.opened h9
    rintro v8w ⟨o1, v1, ho1, hr1, o2, v2, ho2, hr2, rfl⟩
    cases ho1
    cases ho2
    simp only [Act.put, List.setIfInBounds_toArray, List.set_cons_zero, List.set_cons_succ] at hr1 hr2 ⊢
    cases (hr1.symm.trans (o_store (v := .agg #[.slice u1 m1.W.length u2, .slice u3 m1.G.length u4, .bool m1.bad]) (new := #[.slice u1 m1.W.length u2, .slice u3 m1.G.length u4, .bool m1.bad, .slice ac s.C.length cc, .slice al s.L.length cl]) rfl rfl rfl ((D0_8.since hs8 rfl)) (by kernel_rfl) (by simp [Value.cells, Value.oneCell']) (by first | (simp [Value.cells]; done) | (simp [Value.cells]; omega)) (by first | rfl | kernel_rfl)))
    cases (hr2.symm.trans (o_store (v := .int .i64 v) (new := #[.int .i64 op, .int .i64 1, .int .i64 q0, .int .i64 v, .int .i64 q2, .int .i64 q3, .int .i64 q4, .int .i64 q5, .int .i64 q6, .int .i64 q7, .slice ga fS.length gc]) rfl rfl rfl ((box_putOther (D1_8.since hs8 rfl) (by omega))) (by kernel_rfl) (by simp [Value.cells, Value.oneCell']) (by first | (simp [Value.cells]; done) | (simp [Value.cells]; omega)) (by first | rfl | kernel_rfl)))
    obtain ⟨w1, hw1⟩ : ∃ x, x = (put (put v8 w.heap.size (.cells #[.slice u1 m1.W.length u2, .slice u3 m1.G.length u4, .bool m1.bad, .slice ac s.C.length cc, .slice al s.L.length cl] 83 (0, 0))) (w.heap.size + 1) (.cells #[.int .i64 op, .int .i64 1, .int .i64 q0, .int .i64 v, .int .i64 q2, .int .i64 q3, .int .i64 q4, .int .i64 q5, .int .i64 q6, .int .i64 q7, .slice ga fS.length gc] 95 (0, 0))) := ⟨_, rfl⟩
    have hW1 : Ext W8 v8 := Since.to_ext hs8
    have hb1 : Ext w w1 := by rw [hw1]; exact Since.to_ext (((Since.of_ext (hX8.trans hW1)).put (.inl (by have := hX8.size; omega))).put (.inl (by have := hX8.size; omega)))
    have hk1 : Keep (Bx N w.heap.size (w.heap.size + 3)) w w1 := by rw [hw1]; exact (((hK8.ext hW1).put _ _ (.inr (Bx.mem (by omega) (by omega)))).put _ _ (.inr (Bx.mem (by omega) (by omega))))
    have hq1 : Keep (Bx N w.heap.size (w.heap.size + 3)) v8 w1 := by rw [hw1]; exact (((Keep.refl _ _).put _ _ (.inr (Bx.mem (by omega) (by omega)))).put _ _ (.inr (Bx.mem (by omega) (by omega))))
    have B0_1 : Box w1 (w.heap.size) #[.slice u1 m1.W.length u2, .slice u3 m1.G.length u4, .bool m1.bad, .slice ac s.C.length cc, .slice al s.L.length cl] 83 := by rw [hw1]; exact (box_putOther (D0_8.since hs8 rfl).put (by omega))
    have B1_1 : Box w1 (w.heap.size + 1) #[.int .i64 op, .int .i64 1, .int .i64 q0, .int .i64 v, .int .i64 q2, .int .i64 q3, .int .i64 q4, .int .i64 q5, .int .i64 q6, .int .i64 q7, .slice ga fS.length gc] 95 := by rw [hw1]; exact (box_putOther (D1_8.since hs8 rfl) (by omega)).put
    have B2_1 : Box w1 (w.heap.size + 1 + 1) #[.slice none 0 0, .slice none 0 0, .bool false, .slice none 0 0, .slice none 0 0] 83 := by rw [hw1]; exact (box_putOther (box_putOther (D2_8.since hs8 rfl) (by omega)) (by omega))
    have s1 : W8.heap.size ≤ w1.heap.size := by rw [hw1]; have := hW1.size; simpa [put] using this
    rw [← hw1]
    clear hw1
    obtain ⟨c0_0, c0_1, c0_2, c0_3, c0_4, d0_0, d0_1, d0_2, d0_3, d0_4⟩ := cells5 B0_1
    have z0 : w.heap.size < w1.heap.size := B0_1.lt
    obtain ⟨⟨c1_0, c1_1, c1_2, c1_3, c1_4, c1_5, c1_6, c1_7, c1_8, c1_9, c1_10⟩, d1_0, d1_1, d1_2, d1_3, d1_4, d1_5, d1_6, d1_7, d1_8, d1_9, d1_10⟩ := cells11 B1_1
    have z1 : w.heap.size + 1 < w1.heap.size := B1_1.lt
    obtain ⟨c2_0, c2_1, c2_2, c2_3, c2_4, d2_0, d2_1, d2_2, d2_3, d2_4⟩ := cells5 B2_1
    have z2 : w.heap.size + 1 + 1 < w1.heap.size := B2_1.lt
    have mw := IsInts.keep uw hq1
    have mg := IsInts.keep ug hq1
    clear hq1
    go_wp2_with (fail)
    go_at_call 165
    refine (on4_ (Bx N w.heap.size (w.heap.size + 3)) _ _ (memS s m1) id 2 ⟨op, 1, [q0, v, q2, q3, q4, q5, q6, q7], fS⟩ _ (IsSys.mk rfl (IsInts.keep mw keq) (IsInts.keep mg keq) (IsCores.keep hcB keq) (IsEvs.keep hlB keq) : IsSys (Bx N w.heap.size (w.heap.size + 3)) _ _ (memS s m1)) (IsFrame.ofLit (IsInts.keep fsB keq) : IsFrame _ _ _ ⟨op, 1, [q0, v, q2, q3, q4, q5, q6, q7], fS⟩) (Bx.le hN (by first | omega | (simp <;> omega))) hC hFm).calls.mono ?_
    rintro e w2 ⟨_, rfl, hb2, hu2⟩
    obtain ⟨r1, r2, r3, r4, r5, r6, r7, r8, rfl, rW, rG, rC, rL⟩ := hu2.opened
    have B0_2 : Box w2 (w.heap.size) #[.slice u1 m1.W.length u2, .slice u3 m1.G.length u4, .bool m1.bad, .slice ac s.C.length cc, .slice al s.L.length cl] 83 := B0_1.ext hb2
    have B1_2 : Box w2 (w.heap.size + 1) #[.int .i64 op, .int .i64 1, .int .i64 q0, .int .i64 v, .int .i64 q2, .int .i64 q3, .int .i64 q4, .int .i64 q5, .int .i64 q6, .int .i64 q7, .slice ga fS.length gc] 95 := B1_1.ext hb2
    have B2_2 : Box w2 (w.heap.size + 1 + 1) #[.slice none 0 0, .slice none 0 0, .bool false, .slice none 0 0, .slice none 0 0] 83 := B2_1.ext hb2
    clear c0_0 c0_1 c0_2 c0_3 c0_4 d0_0 d0_1 d0_2 d0_3 d0_4 z0 c1_0 c1_1 c1_2 c1_3 c1_4 c1_5 c1_6 c1_7 c1_8 c1_9 c1_10 d1_0 d1_1 d1_2 d1_3 d1_4 d1_5 d1_6 d1_7 d1_8 d1_9 d1_10 z1 c2_0 c2_1 c2_2 c2_3 c2_4 d2_0 d2_1 d2_2 d2_3 d2_4 z2
    have s2 : w1.heap.size ≤ w2.heap.size := (by have h := hb2.size; first | omega | (simp at h; omega))
    obtain ⟨c0_0, c0_1, c0_2, c0_3, c0_4, d0_0, d0_1, d0_2, d0_3, d0_4⟩ := cells5 B0_2
    have z0 : w.heap.size < w2.heap.size := B0_2.lt
    obtain ⟨⟨c1_0, c1_1, c1_2, c1_3, c1_4, c1_5, c1_6, c1_7, c1_8, c1_9, c1_10⟩, d1_0, d1_1, d1_2, d1_3, d1_4, d1_5, d1_6, d1_7, d1_8, d1_9, d1_10⟩ := cells11 B1_2
    have z1 : w.heap.size + 1 < w2.heap.size := B1_2.lt
    obtain ⟨c2_0, c2_1, c2_2, c2_3, c2_4, d2_0, d2_1, d2_2, d2_3, d2_4⟩ := cells5 B2_2
    have z2 : w.heap.size + 1 + 1 < w2.heap.size := B2_2.lt
    go_wp2
    exact bodyPost_ret (ret_cell (cs := #[.slice r1 (setS (memS s m1) id (pcF ⟨op, 1, [q0, v, q2, q3, q4, q5, q6, q7], fS⟩ 2)).M.W.length r2, .slice r3 (setS (memS s m1) id (pcF ⟨op, 1, [q0, v, q2, q3, q4, q5, q6, q7], fS⟩ 2)).M.G.length r4, .bool (setS (memS s m1) id (pcF ⟨op, 1, [q0, v, q2, q3, q4, q5, q6, q7], fS⟩ 2)).M.bad, .slice r5 (setS (memS s m1) id (pcF ⟨op, 1, [q0, v, q2, q3, q4, q5, q6, q7], fS⟩ 2)).C.length r6, .slice r7 (setS (memS s m1) id (pcF ⟨op, 1, [q0, v, q2, q3, q4, q5, q6, q7], fS⟩ 2)).L.length r8]) (((((B2_2.setCell _).setCell _).setCell _).setCell _).setCell _) Proofs.Try.results152 rfl Proofs.Try.underlying83 rfl (by kernel_rfl)) rfl ⟨_, rfl, exn, IsSys.less (IsSys.keep hu2 keq) (fun _ _ hn => .inl hn)⟩
set_option maxHeartbeats 1000000 in
set_option maxRecDepth 100000 in
theorem pop_y2 (N : Nat → Prop) (s : SysD) (id op q0 q1 q2 q3 q4 q5 q6 q7 : Int) (fS : List Int) (aw ag ac al ga : Option Addr) (cw cg cc cl gc : Nat) (w : World) (hw : IsInts N w (.slice aw s.M.W.length cw) s.M.W) (hg : IsInts N w (.slice ag s.M.G.length cg) s.M.G) (hc : IsCores N w (.slice ac s.C.length cc) s.C) (hl : IsEvs N w (.slice al s.L.length cl) s.L) (fs : IsInts N w (.slice ga fS.length gc) fS)
    (hN : ∀ b, N b → b < w.heap.size) (hC : s.C.length ≤ 100000) (hFm : ∀ (i : Nat) c, s.C[i]? = some c → c.F.length ≤ 100000) (hfit : Fits s.M) (hcas : casIs s.M 0 q0 = true) (hfit1 : Fits (casD s.M 0 q0 (nextW q0 q1 0))) :
    Gives Proofs.Try.prog 152 #[.agg #[.slice aw s.M.W.length cw, .slice ag s.M.G.length cg, .bool s.M.bad, .slice ac s.C.length cc, .slice al s.L.length cl], .int .i64 id, .agg #[.int .i64 op, .int .i64 2, .int .i64 q0, .int .i64 q1, .int .i64 q2, .int .i64 q3, .int .i64 q4, .int .i64 q5, .int .i64 q6, .int .i64 q7, .slice ga fS.length gc]] w (fun r w' => IsSys N w' r (backS (memS s (turnMD (casD s.M 0 q0 (nextW q0 q1 0)) (idx q0) 1)) id (idx q0) 0)) := by
  have hwB := hw.bxn (hi := w.heap.size + 3)
  have hgB := hg.bxn (hi := w.heap.size + 3)
  have hcB := hc.bxn (hi := w.heap.size + 3)
  have hlB := hl.bxn (hi := w.heap.size + 3)
  have fsB := fs.bxn (hi := w.heap.size + 3)
  obtain ⟨m1, hm1⟩ : ∃ m, casD s.M 0 q0 (nextW q0 q1 0) = m := ⟨_, rfl⟩
  obtain ⟨nw, hnw⟩ : ∃ n, (nextW q0 q1 0) = n := ⟨_, rfl⟩
  have kx : ∀ w' : World, Gives Proofs.Try.prog 47 #[.int .i64 q0, .int .i64 q1, .int .i64 0] w' (eqv (.int .i64 nw)) := fun w' => by have := next_ q0 q1 0 w'; rw [hnw] at this; exact this
  have ks : ∀ (w' : World) (va : Value), IsMem (Bx N w.heap.size (w.heap.size + 3)) w' va s.M → w.heap.size + 3 ≤ w'.heap.size → Gives Proofs.Try.prog 66 #[va, .int .i64 0, .int .i64 q0, .int .i64 nw] w' (fun r w' => ∃ u, r = .tuple #[u, .bool true] ∧ IsMem (Bx N w.heap.size (w.heap.size + 3)) w' u m1) := fun w' va hm hsz => by
    have := memCas_ (Bx N w.heap.size (w.heap.size + 3)) va s.M 0 q0 (nextW q0 q1 0) w' hm hfit (Bx.le hN hsz) (by decide) (by decide)
    rw [hm1, hcas, hnw] at this; exact this
  rw [hm1] at hfit1
  obtain ⟨m2, hm2⟩ : ∃ m, turnMD m1 (idx q0) 1 = m := ⟨_, rfl⟩
  have kt : ∀ (w' : World) (va : Value), IsMem (Bx N w.heap.size (w.heap.size + 3)) w' va m1 → w.heap.size + 3 ≤ w'.heap.size → Gives Proofs.Try.prog 70 #[va, .int .i64 (idx q0), .int .i64 1] w' (fun r w' => IsMem (Bx N w.heap.size (w.heap.size + 3)) w' r m2) := fun w' va hm hsz => by
    have := memTurn_ (Bx N w.heap.size (w.heap.size + 3)) va m1 (idx q0) 1 w' hm hfit1 (Bx.le hN hsz)
    rw [hm2] at this; exact this
  rw [hm1, hm2]
  clear hm1 hm2 hnw
  go_enter Proofs.Try.func152, Proofs.Try.ntmps152
  go_wp2_with (fail)
  obtain ⟨W11, hW⟩ : ∃ W, W = (((w.alloc (.cells #[.slice aw s.M.W.length cw, .slice ag s.M.G.length cg, .bool s.M.bad, .slice ac s.C.length cc, .slice al s.L.length cl] 83 (0, 0))).alloc (.cells #[.int .i64 op, .int .i64 2, .int .i64 q0, .int .i64 q1, .int .i64 q2, .int .i64 q3, .int .i64 q4, .int .i64 q5, .int .i64 q6, .int .i64 q7, .slice ga fS.length gc] 95 (0, 0))).alloc (.cells #[.slice none 0 0, .slice none 0 0, .bool false, .slice none 0 0, .slice none 0 0] 83 (0, 0))) := ⟨_, rfl⟩
  have hX11 : Ext w W11 := by rw [hW]; exact exn
  have hK11 : Keep (Bx N w.heap.size (w.heap.size + 3)) w W11 := by rw [hW]; exact keq
  have D0_11 : Box (((w.alloc (.cells #[.slice aw s.M.W.length cw, .slice ag s.M.G.length cg, .bool s.M.bad, .slice ac s.C.length cc, .slice al s.L.length cl] 83 (0, 0))).alloc (.cells #[.int .i64 op, .int .i64 2, .int .i64 q0, .int .i64 q1, .int .i64 q2, .int .i64 q3, .int .i64 q4, .int .i64 q5, .int .i64 q6, .int .i64 q7, .slice ga fS.length gc] 95 (0, 0))).alloc (.cells #[.slice none 0 0, .slice none 0 0, .bool false, .slice none 0 0, .slice none 0 0] 83 (0, 0))) (w.heap.size) #[.slice aw s.M.W.length cw, .slice ag s.M.G.length cg, .bool s.M.bad, .slice ac s.C.length cc, .slice al s.L.length cl] 83 := (((Box.newAt _ _ _ (by first | rfl | simp)).alloc _).alloc _)
  rw [← hW] at D0_11
  have D1_11 : Box (((w.alloc (.cells #[.slice aw s.M.W.length cw, .slice ag s.M.G.length cg, .bool s.M.bad, .slice ac s.C.length cc, .slice al s.L.length cl] 83 (0, 0))).alloc (.cells #[.int .i64 op, .int .i64 2, .int .i64 q0, .int .i64 q1, .int .i64 q2, .int .i64 q3, .int .i64 q4, .int .i64 q5, .int .i64 q6, .int .i64 q7, .slice ga fS.length gc] 95 (0, 0))).alloc (.cells #[.slice none 0 0, .slice none 0 0, .bool false, .slice none 0 0, .slice none 0 0] 83 (0, 0))) (w.heap.size + 1) #[.int .i64 op, .int .i64 2, .int .i64 q0, .int .i64 q1, .int .i64 q2, .int .i64 q3, .int .i64 q4, .int .i64 q5, .int .i64 q6, .int .i64 q7, .slice ga fS.length gc] 95 := ((Box.newAt _ _ _ (by first | rfl | simp)).alloc _)
  rw [← hW] at D1_11
  have D2_11 : Box (((w.alloc (.cells #[.slice aw s.M.W.length cw, .slice ag s.M.G.length cg, .bool s.M.bad, .slice ac s.C.length cc, .slice al s.L.length cl] 83 (0, 0))).alloc (.cells #[.int .i64 op, .int .i64 2, .int .i64 q0, .int .i64 q1, .int .i64 q2, .int .i64 q3, .int .i64 q4, .int .i64 q5, .int .i64 q6, .int .i64 q7, .slice ga fS.length gc] 95 (0, 0))).alloc (.cells #[.slice none 0 0, .slice none 0 0, .bool false, .slice none 0 0, .slice none 0 0] 83 (0, 0))) (w.heap.size + 1 + 1) #[.slice none 0 0, .slice none 0 0, .bool false, .slice none 0 0, .slice none 0 0] 83 := (Box.newAt _ _ _ (by first | rfl | simp))
  rw [← hW] at D2_11
  have y11 : w.heap.size + 3 ≤ W11.heap.size := by rw [hW]; simp
  rw [← hW]
  clear hW
  have aM : IsMem (Bx N w.heap.size (w.heap.size + 3)) W11 (.agg #[.slice aw s.M.W.length cw, .slice ag s.M.G.length cg, .bool s.M.bad]) s.M := (IsMem.mk rfl hwB hgB : IsMem (Bx N w.heap.size (w.heap.size + 3)) w _ s.M).keep ((Keep.refl _ _).ext hX11)
  apply region_lit2 (T := [17]) (L := [15, 18]) (X := []) (G := [eqv _, eqv _, eqv _, eqv _, eqv _, eqv _, eqv _, eqv _, eqv _, eqv _, eqv _, eqv _, isTupN (Bx N w.heap.size (w.heap.size + 3)) m1 (.bool true), isTupN (Bx N w.heap.size (w.heap.size + 3)) m1 (.bool true), isMemN (Bx N w.heap.size (w.heap.size + 3)) m1, eqv (.bool true), isNew W11.heap.size #[.slice none 0 0, .slice none 0 0, .bool false] 50, anyG, eqv _])
  case hm => kernel_rfl
  case hop =>
    refine ⟨?_, ?_, ?_, ?_, ?_, ?_, ?_, ?_, ?_, ?_, ?_, ?_, ?_, ?_, ?_, ?_, ?_, ?_, ?_, trivial⟩
    · intro a wa hs hf hd
      have t3 := hf.off 3 (by kernel_rfl) rfl
      exact plain_ rfl (yes_eqv (o_fieldAddr rfl Proofs.Try.underlying83 rfl rfl (by kernel_rfl) t3) rfl)
    · intro a wa hs hf hd
      have t60 : a.eval (.tmp 60) = _ := hd.at 0 60 (by kernel_rfl)
      exact plain_ rfl (yes_eqv (o_load3 rfl Proofs.Try.underlying50 rfl (by kernel_rfl) t60 ((D0_11.since hs rfl).cell rfl) ((D0_11.since hs rfl).cell rfl) ((D0_11.since hs rfl).cell rfl)) rfl)
    · intro a wa hs hf hd
      have t5 := hf.off 5 (by kernel_rfl) rfl
      exact plain_ rfl (yes_eqv (o_fieldAddr rfl Proofs.Try.underlying95 rfl rfl (by kernel_rfl) t5) rfl)
    · intro a wa hs hf hd
      have t62 : a.eval (.tmp 62) = _ := hd.at 2 62 (by kernel_rfl)
      exact plain_ rfl (yes_eqv (o_indexAddrA (sz := 1) rfl Proofs.Try.underlying93 (by kernel_rfl) t62 rfl (by decide) (by decide)) rfl)
    · intro a wa hs hf hd
      have t63 : a.eval (.tmp 63) = _ := hd.at 3 63 (by kernel_rfl)
      exact plain_ rfl (yes_eqv (o_load1 rfl Proofs.Try.underlying3 rfl t63 ((D1_11.since hs rfl).cell rfl)) rfl)
    · intro a wa hs hf hd
      have t5 := hf.off 5 (by kernel_rfl) rfl
      exact plain_ rfl (yes_eqv (o_fieldAddr rfl Proofs.Try.underlying95 rfl rfl (by kernel_rfl) t5) rfl)
    · intro a wa hs hf hd
      have t65 : a.eval (.tmp 65) = _ := hd.at 5 65 (by kernel_rfl)
      exact plain_ rfl (yes_eqv (o_indexAddrA (sz := 1) rfl Proofs.Try.underlying93 (by kernel_rfl) t65 rfl (by decide) (by decide)) rfl)
    · intro a wa hs hf hd
      have t66 : a.eval (.tmp 66) = _ := hd.at 6 66 (by kernel_rfl)
      exact plain_ rfl (yes_eqv (o_load1 rfl Proofs.Try.underlying3 rfl t66 ((D1_11.since hs rfl).cell rfl)) rfl)
    · intro a wa hs hf hd
      have t5 := hf.off 5 (by kernel_rfl) rfl
      exact plain_ rfl (yes_eqv (o_fieldAddr rfl Proofs.Try.underlying95 rfl rfl (by kernel_rfl) t5) rfl)
    · intro a wa hs hf hd
      have t68 : a.eval (.tmp 68) = _ := hd.at 8 68 (by kernel_rfl)
      exact plain_ rfl (yes_eqv (o_indexAddrA (sz := 1) rfl Proofs.Try.underlying93 (by kernel_rfl) t68 rfl (by decide) (by decide)) rfl)
    · intro a wa hs hf hd
      have t69 : a.eval (.tmp 69) = _ := hd.at 9 69 (by kernel_rfl)
      exact plain_ rfl (yes_eqv (o_load1 rfl Proofs.Try.underlying3 rfl t69 ((D1_11.since hs rfl).cell rfl)) rfl)
    · intro a wa hs hf hd
      have t67 : a.eval (.tmp 67) = _ := hd.at 7 67 (by kernel_rfl)
      have t70 : a.eval (.tmp 70) = _ := hd.at 10 70 (by kernel_rfl)
      exact plain_ rfl (yes_gives (kx _) rfl rfl Proofs.Try.func47 (by kernel_rfl) (by kernel_rfl) (by simp only [List.map_toArray, List.map_cons, List.map_nil, eval_const, t67, t70]) rfl)
    · intro a wa hs hf hd
      have t61 : a.eval (.tmp 61) = _ := hd.at 1 61 (by kernel_rfl)
      have t64 : a.eval (.tmp 64) = _ := hd.at 4 64 (by kernel_rfl)
      have t71 : a.eval (.tmp 71) = _ := hd.at 11 71 (by kernel_rfl)
      exact plain_ rfl (yes_gives (ks _ _ (aM.keep (Since.to_ext hs).keep) (by have := (Since.to_ext hs).size; have := hX11.size; omega)) rfl rfl Proofs.Try.func66 (by kernel_rfl) (by kernel_rfl) (by simp only [List.map_toArray, List.map_cons, List.map_nil, eval_const, t61, t64, t71]) rfl)
    · intro a wa hs hf hd
      have t72 := hd.at 12 72 (by kernel_rfl)
      obtain ⟨u, hu, hm⟩ := t72
      exact plain_ rfl (yes_val (runs_ok (o_move rfl hu)) (Ext.refl _) ⟨u, rfl, hm⟩ rfl)
    · intro a wa hs hf hd
      have t59 := hd.at 13 59 (by kernel_rfl)
      obtain ⟨u, hu, hm⟩ := t59
      exact plain_ rfl (yes_val (runs_ok (o_extract rfl hu rfl)) (Ext.refl _) hm rfl)
    · intro a wb wa hs1 hs hf hd
      have t59 := hd.at 13 59 (by kernel_rfl)
      obtain ⟨u, hu, hm⟩ := t59
      exact plain_ rfl (late_eqv (o_extract rfl hu rfl) rfl)
    · intro a wa hs hf hd
      exact plain_ rfl (yes_new (z := .agg #[.slice none 0 0, .slice none 0 0, .bool false]) rfl (by kernel_rfl) (by kernel_rfl) rfl hs.size)
    · intro a wb wa hs1 hs hf hd hrun
      have t7 := hd.at 16 7 (by kernel_rfl)
      have t73 := hd.at 14 73 (by kernel_rfl)
      subst hrun
      have q18 : IsMem (Bx N w.heap.size (w.heap.size + 3)) _ (a.eval (.tmp 73)) m1 := t73
      obtain ⟨u1, u2, u3, u4, hv, _⟩ := q18.opened
      obtain ⟨bk, hp, hk, hBk⟩ := t7
      exact ⟨_, o_store rfl hp hv hBk (by kernel_rfl) (by simp [Value.cells, Value.oneCell']) (by first | (simp [Value.cells]; done) | (simp [Value.cells]; omega)) rfl, Since.put hs (.inl hk)⟩
    · intro a wb wa hs1 hs hf hd
      have t74 : a.eval (.tmp 74) = _ := hd.at 15 74 (by kernel_rfl)
      exact plain_ rfl (late_eqv (o_assign rfl t74) rfl)
  case hG => exact ⟨stable_eqv _, stable_eqv _, stable_eqv _, stable_eqv _, stable_eqv _, stable_eqv _, stable_eqv _, stable_eqv _, stable_eqv _, stable_eqv _, stable_eqv _, stable_eqv _, stable_isTupN _ _ _, stable_isTupN _ _ _, stable_isMemN _ _, stable_eqv _, stable_isNew _ _ _, stable_any, stable_eqv _, trivial⟩
  case hc => kernel_rfl
  case hfin =>
    intro v11 hs11
    rintro _ rfl _ rfl _ rfl _ rfl _ rfl _ rfl _ rfl _ rfl _ rfl _ rfl _ rfl _ rfl _ ⟨p12, rfl, h12⟩ _ ⟨p13, rfl, h13⟩ p14 h14 _ rfl _ ⟨bn16, rfl, hbn16, hBn16⟩ _ rfl
    obtain ⟨u1, u2, u3, u4, rfl, uw, ug⟩ := IsMem.opened h14
    rintro v11w ⟨o1, v1, ho1, hr1, rfl⟩
    cases ho1
    simp only [Act.put, List.setIfInBounds_toArray, List.set_cons_zero, List.set_cons_succ] at hr1 ⊢
    cases (hr1.symm.trans (o_store (v := .agg #[.slice u1 m1.W.length u2, .slice u3 m1.G.length u4, .bool m1.bad]) (new := #[.slice u1 m1.W.length u2, .slice u3 m1.G.length u4, .bool m1.bad]) rfl rfl rfl ((hBn16)) (by kernel_rfl) (by simp [Value.cells, Value.oneCell']) (by first | (simp [Value.cells]; done) | (simp [Value.cells]; omega)) (by first | rfl | kernel_rfl)))
    obtain ⟨w1, hw1⟩ : ∃ x, x = (put v11 bn16 (.cells #[.slice u1 m1.W.length u2, .slice u3 m1.G.length u4, .bool m1.bad] 50 (0, 0))) := ⟨_, rfl⟩
    have hW1 : Ext W11 v11 := Since.to_ext hs11
    have hb1 : Ext w w1 := by rw [hw1]; exact Since.to_ext ((Since.of_ext (hX11.trans hW1)).put (.inl (by have := hX11.size; omega)))
    have hk1 : Keep (Bx N w.heap.size (w.heap.size + 3)) w w1 := by rw [hw1]; exact ((hK11.ext hW1).put _ _ (.inl (by omega)))
    have hq1 : ∀ M v l, IsInts M v11 v l → IsInts M w1 v l := by intro M v l h; rw [hw1]; exact h.putNew hBn16 zero50
    have B0_1 : Box w1 (w.heap.size) #[.slice aw s.M.W.length cw, .slice ag s.M.G.length cg, .bool s.M.bad, .slice ac s.C.length cc, .slice al s.L.length cl] 83 := by rw [hw1]; exact (box_putOther (D0_11.since hs11 rfl) (by omega))
    have B1_1 : Box w1 (w.heap.size + 1) #[.int .i64 op, .int .i64 2, .int .i64 q0, .int .i64 q1, .int .i64 q2, .int .i64 q3, .int .i64 q4, .int .i64 q5, .int .i64 q6, .int .i64 q7, .slice ga fS.length gc] 95 := by rw [hw1]; exact (box_putOther (D1_11.since hs11 rfl) (by omega))
    have B2_1 : Box w1 (w.heap.size + 1 + 1) #[.slice none 0 0, .slice none 0 0, .bool false, .slice none 0 0, .slice none 0 0] 83 := by rw [hw1]; exact (box_putOther (D2_11.since hs11 rfl) (by omega))
    have BN11_16_1 : Box w1 (bn16) #[.slice u1 m1.W.length u2, .slice u3 m1.G.length u4, .bool m1.bad] 50 := by rw [hw1]; exact (hBn16).put
    have s1 : W11.heap.size ≤ w1.heap.size := by rw [hw1]; have := hW1.size; simpa [put] using this
    rw [← hw1]
    clear hw1
    obtain ⟨c0_0, c0_1, c0_2, c0_3, c0_4, d0_0, d0_1, d0_2, d0_3, d0_4⟩ := cells5 B0_1
    have z0 : w.heap.size < w1.heap.size := B0_1.lt
    obtain ⟨⟨c1_0, c1_1, c1_2, c1_3, c1_4, c1_5, c1_6, c1_7, c1_8, c1_9, c1_10⟩, d1_0, d1_1, d1_2, d1_3, d1_4, d1_5, d1_6, d1_7, d1_8, d1_9, d1_10⟩ := cells11 B1_1
    have z1 : w.heap.size + 1 < w1.heap.size := B1_1.lt
    obtain ⟨c2_0, c2_1, c2_2, c2_3, c2_4, d2_0, d2_1, d2_2, d2_3, d2_4⟩ := cells5 B2_1
    have z2 : w.heap.size + 1 + 1 < w1.heap.size := B2_1.lt
    obtain ⟨cN11_16_0, cN11_16_1, cN11_16_2, dN11_16_0, dN11_16_1, dN11_16_2⟩ := cells3 BN11_16_1
    have zN11_16 : bn16 < w1.heap.size := BN11_16_1.lt
    have mw := hq1 _ _ _ uw
    have mg := hq1 _ _ _ ug
    clear hq1
    go_wp2_with (fail)
    go_at_call 41
    refine (idx_ q0 _).calls.mono ?_
    rintro e w2 ⟨_, rfl, hb2, rfl⟩
    have B0_2 : Box w2 (w.heap.size) #[.slice u1 m1.W.length u2, .slice u3 m1.G.length u4, .bool m1.bad, .slice ac s.C.length cc, .slice al s.L.length cl] 83 := (((B0_1.setCell _).setCell _).setCell _).ext hb2
    have B1_2 : Box w2 (w.heap.size + 1) #[.int .i64 op, .int .i64 2, .int .i64 q0, .int .i64 q1, .int .i64 q2, .int .i64 q3, .int .i64 q4, .int .i64 q5, .int .i64 q6, .int .i64 q7, .slice ga fS.length gc] 95 := (((B1_1.setOther (by first | omega | (simp <;> omega)) _).setOther (by first | omega | (simp <;> omega)) _).setOther (by first | omega | (simp <;> omega)) _).ext hb2
    have B2_2 : Box w2 (w.heap.size + 1 + 1) #[.slice none 0 0, .slice none 0 0, .bool false, .slice none 0 0, .slice none 0 0] 83 := (((B2_1.setOther (by first | omega | (simp <;> omega)) _).setOther (by first | omega | (simp <;> omega)) _).setOther (by first | omega | (simp <;> omega)) _).ext hb2
    have BN11_16_2 : Box w2 (bn16) #[.slice u1 m1.W.length u2, .slice u3 m1.G.length u4, .bool m1.bad] 50 := (((BN11_16_1.setOther (by first | omega | (simp <;> omega)) _).setOther (by first | omega | (simp <;> omega)) _).setOther (by first | omega | (simp <;> omega)) _).ext hb2
    clear c0_0 c0_1 c0_2 c0_3 c0_4 d0_0 d0_1 d0_2 d0_3 d0_4 z0 c1_0 c1_1 c1_2 c1_3 c1_4 c1_5 c1_6 c1_7 c1_8 c1_9 c1_10 d1_0 d1_1 d1_2 d1_3 d1_4 d1_5 d1_6 d1_7 d1_8 d1_9 d1_10 z1 c2_0 c2_1 c2_2 c2_3 c2_4 d2_0 d2_1 d2_2 d2_3 d2_4 z2 cN11_16_0 cN11_16_1 cN11_16_2 dN11_16_0 dN11_16_1 dN11_16_2 zN11_16
    have s2 : w1.heap.size ≤ w2.heap.size := (by have h := hb2.size; first | omega | (simp at h; omega))
    obtain ⟨c0_0, c0_1, c0_2, c0_3, c0_4, d0_0, d0_1, d0_2, d0_3, d0_4⟩ := cells5 B0_2
    have z0 : w.heap.size < w2.heap.size := B0_2.lt
    obtain ⟨⟨c1_0, c1_1, c1_2, c1_3, c1_4, c1_5, c1_6, c1_7, c1_8, c1_9, c1_10⟩, d1_0, d1_1, d1_2, d1_3, d1_4, d1_5, d1_6, d1_7, d1_8, d1_9, d1_10⟩ := cells11 B1_2
    have z1 : w.heap.size + 1 < w2.heap.size := B1_2.lt
    obtain ⟨c2_0, c2_1, c2_2, c2_3, c2_4, d2_0, d2_1, d2_2, d2_3, d2_4⟩ := cells5 B2_2
    have z2 : w.heap.size + 1 + 1 < w2.heap.size := B2_2.lt
    obtain ⟨cN11_16_0, cN11_16_1, cN11_16_2, dN11_16_0, dN11_16_1, dN11_16_2⟩ := cells3 BN11_16_2
    have zN11_16 : bn16 < w2.heap.size := BN11_16_2.lt
    go_wp2_with (fail)
    go_at_call 70
    refine (kt _ _ (IsMem.mk rfl (IsInts.keep mw keq) (IsInts.keep mg keq) : IsMem (Bx N w.heap.size (w.heap.size + 3)) _ _ m1) (by first | omega | (simp <;> omega))).calls.mono ?_
    rintro e w3 ⟨_, rfl, hb3, hu3⟩
    obtain ⟨n1, n2, n3, n4, rfl, nw2, ng2⟩ := hu3.opened
    have B0_3 : Box w3 (w.heap.size) #[.slice u1 m1.W.length u2, .slice u3 m1.G.length u4, .bool m1.bad, .slice ac s.C.length cc, .slice al s.L.length cl] 83 := B0_2.ext hb3
    have B1_3 : Box w3 (w.heap.size + 1) #[.int .i64 op, .int .i64 2, .int .i64 q0, .int .i64 q1, .int .i64 q2, .int .i64 q3, .int .i64 q4, .int .i64 q5, .int .i64 q6, .int .i64 q7, .slice ga fS.length gc] 95 := B1_2.ext hb3
    have B2_3 : Box w3 (w.heap.size + 1 + 1) #[.slice none 0 0, .slice none 0 0, .bool false, .slice none 0 0, .slice none 0 0] 83 := B2_2.ext hb3
    have BN11_16_3 : Box w3 (bn16) #[.slice u1 m1.W.length u2, .slice u3 m1.G.length u4, .bool m1.bad] 50 := BN11_16_2.ext hb3
    clear c0_0 c0_1 c0_2 c0_3 c0_4 d0_0 d0_1 d0_2 d0_3 d0_4 z0 c1_0 c1_1 c1_2 c1_3 c1_4 c1_5 c1_6 c1_7 c1_8 c1_9 c1_10 d1_0 d1_1 d1_2 d1_3 d1_4 d1_5 d1_6 d1_7 d1_8 d1_9 d1_10 z1 c2_0 c2_1 c2_2 c2_3 c2_4 d2_0 d2_1 d2_2 d2_3 d2_4 z2 cN11_16_0 cN11_16_1 cN11_16_2 dN11_16_0 dN11_16_1 dN11_16_2 zN11_16
    have s3 : w2.heap.size ≤ w3.heap.size := (by have h := hb3.size; first | omega | (simp at h; omega))
    obtain ⟨c0_0, c0_1, c0_2, c0_3, c0_4, d0_0, d0_1, d0_2, d0_3, d0_4⟩ := cells5 B0_3
    have z0 : w.heap.size < w3.heap.size := B0_3.lt
    obtain ⟨⟨c1_0, c1_1, c1_2, c1_3, c1_4, c1_5, c1_6, c1_7, c1_8, c1_9, c1_10⟩, d1_0, d1_1, d1_2, d1_3, d1_4, d1_5, d1_6, d1_7, d1_8, d1_9, d1_10⟩ := cells11 B1_3
    have z1 : w.heap.size + 1 < w3.heap.size := B1_3.lt
    obtain ⟨c2_0, c2_1, c2_2, c2_3, c2_4, d2_0, d2_1, d2_2, d2_3, d2_4⟩ := cells5 B2_3
    have z2 : w.heap.size + 1 + 1 < w3.heap.size := B2_3.lt
    obtain ⟨cN11_16_0, cN11_16_1, cN11_16_2, dN11_16_0, dN11_16_1, dN11_16_2⟩ := cells3 BN11_16_3
    have zN11_16 : bn16 < w3.heap.size := BN11_16_3.lt
    go_wp2_with (fail)
    go_at_call 86
    refine (back_ (Bx N w.heap.size (w.heap.size + 3)) _ (memS s m2) id (idx q0) 0 _ (IsSys.mk rfl (IsInts.keep nw2 keq) (IsInts.keep ng2 keq) (IsCores.keep hcB keq) (IsEvs.keep hlB keq) : IsSys (Bx N w.heap.size (w.heap.size + 3)) _ _ (memS s m2)) (Bx.le hN (by first | omega | (simp <;> omega))) hC).calls.mono ?_
    rintro e w4 ⟨_, rfl, hb4, hu4⟩
    obtain ⟨r1, r2, r3, r4, r5, r6, r7, r8, rfl, rW, rG, rC, rL⟩ := hu4.opened
    have B0_4 : Box w4 (w.heap.size) #[.slice n1 m2.W.length n2, .slice n3 m2.G.length n4, .bool m2.bad, .slice ac s.C.length cc, .slice al s.L.length cl] 83 := (((B0_3.setCell _).setCell _).setCell _).ext hb4
    have B1_4 : Box w4 (w.heap.size + 1) #[.int .i64 op, .int .i64 2, .int .i64 q0, .int .i64 q1, .int .i64 q2, .int .i64 q3, .int .i64 q4, .int .i64 q5, .int .i64 q6, .int .i64 q7, .slice ga fS.length gc] 95 := (((B1_3.setOther (by first | omega | (simp <;> omega)) _).setOther (by first | omega | (simp <;> omega)) _).setOther (by first | omega | (simp <;> omega)) _).ext hb4
    have B2_4 : Box w4 (w.heap.size + 1 + 1) #[.slice none 0 0, .slice none 0 0, .bool false, .slice none 0 0, .slice none 0 0] 83 := (((B2_3.setOther (by first | omega | (simp <;> omega)) _).setOther (by first | omega | (simp <;> omega)) _).setOther (by first | omega | (simp <;> omega)) _).ext hb4
    have BN11_16_4 : Box w4 (bn16) #[.slice u1 m1.W.length u2, .slice u3 m1.G.length u4, .bool m1.bad] 50 := (((BN11_16_3.setOther (by first | omega | (simp <;> omega)) _).setOther (by first | omega | (simp <;> omega)) _).setOther (by first | omega | (simp <;> omega)) _).ext hb4
    clear c0_0 c0_1 c0_2 c0_3 c0_4 d0_0 d0_1 d0_2 d0_3 d0_4 z0 c1_0 c1_1 c1_2 c1_3 c1_4 c1_5 c1_6 c1_7 c1_8 c1_9 c1_10 d1_0 d1_1 d1_2 d1_3 d1_4 d1_5 d1_6 d1_7 d1_8 d1_9 d1_10 z1 c2_0 c2_1 c2_2 c2_3 c2_4 d2_0 d2_1 d2_2 d2_3 d2_4 z2 cN11_16_0 cN11_16_1 cN11_16_2 dN11_16_0 dN11_16_1 dN11_16_2 zN11_16
    have s4 : w3.heap.size ≤ w4.heap.size := (by have h := hb4.size; first | omega | (simp at h; omega))
    obtain ⟨c0_0, c0_1, c0_2, c0_3, c0_4, d0_0, d0_1, d0_2, d0_3, d0_4⟩ := cells5 B0_4
    have z0 : w.heap.size < w4.heap.size := B0_4.lt
    obtain ⟨⟨c1_0, c1_1, c1_2, c1_3, c1_4, c1_5, c1_6, c1_7, c1_8, c1_9, c1_10⟩, d1_0, d1_1, d1_2, d1_3, d1_4, d1_5, d1_6, d1_7, d1_8, d1_9, d1_10⟩ := cells11 B1_4
    have z1 : w.heap.size + 1 < w4.heap.size := B1_4.lt
    obtain ⟨c2_0, c2_1, c2_2, c2_3, c2_4, d2_0, d2_1, d2_2, d2_3, d2_4⟩ := cells5 B2_4
    have z2 : w.heap.size + 1 + 1 < w4.heap.size := B2_4.lt
    obtain ⟨cN11_16_0, cN11_16_1, cN11_16_2, dN11_16_0, dN11_16_1, dN11_16_2⟩ := cells3 BN11_16_4
    have zN11_16 : bn16 < w4.heap.size := BN11_16_4.lt
    go_wp2
    exact bodyPost_ret (ret_cell (cs := #[.slice r1 (backS (memS s m2) id (idx q0) 0).M.W.length r2, .slice r3 (backS (memS s m2) id (idx q0) 0).M.G.length r4, .bool (backS (memS s m2) id (idx q0) 0).M.bad, .slice r5 (backS (memS s m2) id (idx q0) 0).C.length r6, .slice r7 (backS (memS s m2) id (idx q0) 0).L.length r8]) (((((B2_4.setCell _).setCell _).setCell _).setCell _).setCell _) Proofs.Try.results152 rfl Proofs.Try.underlying83 rfl (by kernel_rfl)) rfl ⟨_, rfl, exn, IsSys.less (IsSys.keep hu4 keq) (fun _ _ hn => .inl hn)⟩
set_option maxHeartbeats 1000000 in
set_option maxRecDepth 100000 in
theorem pop_n2 (N : Nat → Prop) (s : SysD) (id op q0 q1 q2 q3 q4 q5 q6 q7 : Int) (fS : List Int) (aw ag ac al ga : Option Addr) (cw cg cc cl gc : Nat) (w : World) (hw : IsInts N w (.slice aw s.M.W.length cw) s.M.W) (hg : IsInts N w (.slice ag s.M.G.length cg) s.M.G) (hc : IsCores N w (.slice ac s.C.length cc) s.C) (hl : IsEvs N w (.slice al s.L.length cl) s.L) (fs : IsInts N w (.slice ga fS.length gc) fS)
    (hN : ∀ b, N b → b < w.heap.size) (hC : s.C.length ≤ 100000) (hFm : ∀ (i : Nat) c, s.C[i]? = some c → c.F.length ≤ 100000) (hfit : Fits s.M) (hcas : casIs s.M 0 q0 = false) :
    Gives Proofs.Try.prog 152 #[.agg #[.slice aw s.M.W.length cw, .slice ag s.M.G.length cg, .bool s.M.bad, .slice ac s.C.length cc, .slice al s.L.length cl], .int .i64 id, .agg #[.int .i64 op, .int .i64 2, .int .i64 q0, .int .i64 q1, .int .i64 q2, .int .i64 q3, .int .i64 q4, .int .i64 q5, .int .i64 q6, .int .i64 q7, .slice ga fS.length gc]] w (fun r w' => IsSys N w' r (onS s id (casD s.M 0 q0 (nextW q0 q1 0)) ⟨op, 2, [q0, q1, q2, q3, q4, q5, q6, q7], fS⟩ 0)) := by
  have hwB := hw.bxn (hi := w.heap.size + 3)
  have hgB := hg.bxn (hi := w.heap.size + 3)
  have hcB := hc.bxn (hi := w.heap.size + 3)
  have hlB := hl.bxn (hi := w.heap.size + 3)
  have fsB := fs.bxn (hi := w.heap.size + 3)
  obtain ⟨m1, hm1⟩ : ∃ m, casD s.M 0 q0 (nextW q0 q1 0) = m := ⟨_, rfl⟩
  obtain ⟨nw, hnw⟩ : ∃ n, (nextW q0 q1 0) = n := ⟨_, rfl⟩
  have kx : ∀ w' : World, Gives Proofs.Try.prog 47 #[.int .i64 q0, .int .i64 q1, .int .i64 0] w' (eqv (.int .i64 nw)) := fun w' => by have := next_ q0 q1 0 w'; rw [hnw] at this; exact this
  have ks : ∀ (w' : World) (va : Value), IsMem (Bx N w.heap.size (w.heap.size + 3)) w' va s.M → w.heap.size + 3 ≤ w'.heap.size → Gives Proofs.Try.prog 66 #[va, .int .i64 0, .int .i64 q0, .int .i64 nw] w' (fun r w' => ∃ u, r = .tuple #[u, .bool false] ∧ IsMem (Bx N w.heap.size (w.heap.size + 3)) w' u m1) := fun w' va hm hsz => by
    have := memCas_ (Bx N w.heap.size (w.heap.size + 3)) va s.M 0 q0 (nextW q0 q1 0) w' hm hfit (Bx.le hN hsz) (by decide) (by decide)
    rw [hm1, hcas, hnw] at this; exact this
  rw [hm1]
  clear hm1 hnw
  go_enter Proofs.Try.func152, Proofs.Try.ntmps152
  go_wp2_with (fail)
  obtain ⟨W11, hW⟩ : ∃ W, W = (((w.alloc (.cells #[.slice aw s.M.W.length cw, .slice ag s.M.G.length cg, .bool s.M.bad, .slice ac s.C.length cc, .slice al s.L.length cl] 83 (0, 0))).alloc (.cells #[.int .i64 op, .int .i64 2, .int .i64 q0, .int .i64 q1, .int .i64 q2, .int .i64 q3, .int .i64 q4, .int .i64 q5, .int .i64 q6, .int .i64 q7, .slice ga fS.length gc] 95 (0, 0))).alloc (.cells #[.slice none 0 0, .slice none 0 0, .bool false, .slice none 0 0, .slice none 0 0] 83 (0, 0))) := ⟨_, rfl⟩
  have hX11 : Ext w W11 := by rw [hW]; exact exn
  have hK11 : Keep (Bx N w.heap.size (w.heap.size + 3)) w W11 := by rw [hW]; exact keq
  have D0_11 : Box (((w.alloc (.cells #[.slice aw s.M.W.length cw, .slice ag s.M.G.length cg, .bool s.M.bad, .slice ac s.C.length cc, .slice al s.L.length cl] 83 (0, 0))).alloc (.cells #[.int .i64 op, .int .i64 2, .int .i64 q0, .int .i64 q1, .int .i64 q2, .int .i64 q3, .int .i64 q4, .int .i64 q5, .int .i64 q6, .int .i64 q7, .slice ga fS.length gc] 95 (0, 0))).alloc (.cells #[.slice none 0 0, .slice none 0 0, .bool false, .slice none 0 0, .slice none 0 0] 83 (0, 0))) (w.heap.size) #[.slice aw s.M.W.length cw, .slice ag s.M.G.length cg, .bool s.M.bad, .slice ac s.C.length cc, .slice al s.L.length cl] 83 := (((Box.newAt _ _ _ (by first | rfl | simp)).alloc _).alloc _)
  rw [← hW] at D0_11
  have D1_11 : Box (((w.alloc (.cells #[.slice aw s.M.W.length cw, .slice ag s.M.G.length cg, .bool s.M.bad, .slice ac s.C.length cc, .slice al s.L.length cl] 83 (0, 0))).alloc (.cells #[.int .i64 op, .int .i64 2, .int .i64 q0, .int .i64 q1, .int .i64 q2, .int .i64 q3, .int .i64 q4, .int .i64 q5, .int .i64 q6, .int .i64 q7, .slice ga fS.length gc] 95 (0, 0))).alloc (.cells #[.slice none 0 0, .slice none 0 0, .bool false, .slice none 0 0, .slice none 0 0] 83 (0, 0))) (w.heap.size + 1) #[.int .i64 op, .int .i64 2, .int .i64 q0, .int .i64 q1, .int .i64 q2, .int .i64 q3, .int .i64 q4, .int .i64 q5, .int .i64 q6, .int .i64 q7, .slice ga fS.length gc] 95 := ((Box.newAt _ _ _ (by first | rfl | simp)).alloc _)
  rw [← hW] at D1_11
  have D2_11 : Box (((w.alloc (.cells #[.slice aw s.M.W.length cw, .slice ag s.M.G.length cg, .bool s.M.bad, .slice ac s.C.length cc, .slice al s.L.length cl] 83 (0, 0))).alloc (.cells #[.int .i64 op, .int .i64 2, .int .i64 q0, .int .i64 q1, .int .i64 q2, .int .i64 q3, .int .i64 q4, .int .i64 q5, .int .i64 q6, .int .i64 q7, .slice ga fS.length gc] 95 (0, 0))).alloc (.cells #[.slice none 0 0, .slice none 0 0, .bool false, .slice none 0 0, .slice none 0 0] 83 (0, 0))) (w.heap.size + 1 + 1) #[.slice none 0 0, .slice none 0 0, .bool false, .slice none 0 0, .slice none 0 0] 83 := (Box.newAt _ _ _ (by first | rfl | simp))
  rw [← hW] at D2_11
  have y11 : w.heap.size + 3 ≤ W11.heap.size := by rw [hW]; simp
  rw [← hW]
  clear hW
  have aM : IsMem (Bx N w.heap.size (w.heap.size + 3)) W11 (.agg #[.slice aw s.M.W.length cw, .slice ag s.M.G.length cg, .bool s.M.bad]) s.M := (IsMem.mk rfl hwB hgB : IsMem (Bx N w.heap.size (w.heap.size + 3)) w _ s.M).keep ((Keep.refl _ _).ext hX11)
  apply region_lit2 (T := [17]) (L := [15, 18]) (X := []) (G := [eqv _, eqv _, eqv _, eqv _, eqv _, eqv _, eqv _, eqv _, eqv _, eqv _, eqv _, eqv _, isTupN (Bx N w.heap.size (w.heap.size + 3)) m1 (.bool false), isTupN (Bx N w.heap.size (w.heap.size + 3)) m1 (.bool false), isMemN (Bx N w.heap.size (w.heap.size + 3)) m1, eqv (.bool false), isNew W11.heap.size #[.slice none 0 0, .slice none 0 0, .bool false] 50, anyG, eqv _])
  case hm => kernel_rfl
  case hop =>
    refine ⟨?_, ?_, ?_, ?_, ?_, ?_, ?_, ?_, ?_, ?_, ?_, ?_, ?_, ?_, ?_, ?_, ?_, ?_, ?_, trivial⟩
    · intro a wa hs hf hd
      have t3 := hf.off 3 (by kernel_rfl) rfl
      exact plain_ rfl (yes_eqv (o_fieldAddr rfl Proofs.Try.underlying83 rfl rfl (by kernel_rfl) t3) rfl)
    · intro a wa hs hf hd
      have t60 : a.eval (.tmp 60) = _ := hd.at 0 60 (by kernel_rfl)
      exact plain_ rfl (yes_eqv (o_load3 rfl Proofs.Try.underlying50 rfl (by kernel_rfl) t60 ((D0_11.since hs rfl).cell rfl) ((D0_11.since hs rfl).cell rfl) ((D0_11.since hs rfl).cell rfl)) rfl)
    · intro a wa hs hf hd
      have t5 := hf.off 5 (by kernel_rfl) rfl
      exact plain_ rfl (yes_eqv (o_fieldAddr rfl Proofs.Try.underlying95 rfl rfl (by kernel_rfl) t5) rfl)
    · intro a wa hs hf hd
      have t62 : a.eval (.tmp 62) = _ := hd.at 2 62 (by kernel_rfl)
      exact plain_ rfl (yes_eqv (o_indexAddrA (sz := 1) rfl Proofs.Try.underlying93 (by kernel_rfl) t62 rfl (by decide) (by decide)) rfl)
    · intro a wa hs hf hd
      have t63 : a.eval (.tmp 63) = _ := hd.at 3 63 (by kernel_rfl)
      exact plain_ rfl (yes_eqv (o_load1 rfl Proofs.Try.underlying3 rfl t63 ((D1_11.since hs rfl).cell rfl)) rfl)
    · intro a wa hs hf hd
      have t5 := hf.off 5 (by kernel_rfl) rfl
      exact plain_ rfl (yes_eqv (o_fieldAddr rfl Proofs.Try.underlying95 rfl rfl (by kernel_rfl) t5) rfl)
    · intro a wa hs hf hd
      have t65 : a.eval (.tmp 65) = _ := hd.at 5 65 (by kernel_rfl)
      exact plain_ rfl (yes_eqv (o_indexAddrA (sz := 1) rfl Proofs.Try.underlying93 (by kernel_rfl) t65 rfl (by decide) (by decide)) rfl)
    · intro a wa hs hf hd
      have t66 : a.eval (.tmp 66) = _ := hd.at 6 66 (by kernel_rfl)
      exact plain_ rfl (yes_eqv (o_load1 rfl Proofs.Try.underlying3 rfl t66 ((D1_11.since hs rfl).cell rfl)) rfl)
    · intro a wa hs hf hd
      have t5 := hf.off 5 (by kernel_rfl) rfl
      exact plain_ rfl (yes_eqv (o_fieldAddr rfl Proofs.Try.underlying95 rfl rfl (by kernel_rfl) t5) rfl)
    · intro a wa hs hf hd
      have t68 : a.eval (.tmp 68) = _ := hd.at 8 68 (by kernel_rfl)
      exact plain_ rfl (yes_eqv (o_indexAddrA (sz := 1) rfl Proofs.Try.underlying93 (by kernel_rfl) t68 rfl (by decide) (by decide)) rfl)
    · intro a wa hs hf hd
      have t69 : a.eval (.tmp 69) = _ := hd.at 9 69 (by kernel_rfl)
      exact plain_ rfl (yes_eqv (o_load1 rfl Proofs.Try.underlying3 rfl t69 ((D1_11.since hs rfl).cell rfl)) rfl)
    · intro a wa hs hf hd
      have t67 : a.eval (.tmp 67) = _ := hd.at 7 67 (by kernel_rfl)
      have t70 : a.eval (.tmp 70) = _ := hd.at 10 70 (by kernel_rfl)
      exact plain_ rfl (yes_gives (kx _) rfl rfl Proofs.Try.func47 (by kernel_rfl) (by kernel_rfl) (by simp only [List.map_toArray, List.map_cons, List.map_nil, eval_const, t67, t70]) rfl)
    · intro a wa hs hf hd
      have t61 : a.eval (.tmp 61) = _ := hd.at 1 61 (by kernel_rfl)
      have t64 : a.eval (.tmp 64) = _ := hd.at 4 64 (by kernel_rfl)
      have t71 : a.eval (.tmp 71) = _ := hd.at 11 71 (by kernel_rfl)
      exact plain_ rfl (yes_gives (ks _ _ (aM.keep (Since.to_ext hs).keep) (by have := (Since.to_ext hs).size; have := hX11.size; omega)) rfl rfl Proofs.Try.func66 (by kernel_rfl) (by kernel_rfl) (by simp only [List.map_toArray, List.map_cons, List.map_nil, eval_const, t61, t64, t71]) rfl)
    · intro a wa hs hf hd
      have t72 := hd.at 12 72 (by kernel_rfl)
      obtain ⟨u, hu, hm⟩ := t72
      exact plain_ rfl (yes_val (runs_ok (o_move rfl hu)) (Ext.refl _) ⟨u, rfl, hm⟩ rfl)
    · intro a wa hs hf hd
      have t59 := hd.at 13 59 (by kernel_rfl)
      obtain ⟨u, hu, hm⟩ := t59
      exact plain_ rfl (yes_val (runs_ok (o_extract rfl hu rfl)) (Ext.refl _) hm rfl)
    · intro a wb wa hs1 hs hf hd
      have t59 := hd.at 13 59 (by kernel_rfl)
      obtain ⟨u, hu, hm⟩ := t59
      exact plain_ rfl (late_eqv (o_extract rfl hu rfl) rfl)
    · intro a wa hs hf hd
      exact plain_ rfl (yes_new (z := .agg #[.slice none 0 0, .slice none 0 0, .bool false]) rfl (by kernel_rfl) (by kernel_rfl) rfl hs.size)
    · intro a wb wa hs1 hs hf hd hrun
      have t7 := hd.at 16 7 (by kernel_rfl)
      have t73 := hd.at 14 73 (by kernel_rfl)
      subst hrun
      have q18 : IsMem (Bx N w.heap.size (w.heap.size + 3)) _ (a.eval (.tmp 73)) m1 := t73
      obtain ⟨u1, u2, u3, u4, hv, _⟩ := q18.opened
      obtain ⟨bk, hp, hk, hBk⟩ := t7
      exact ⟨_, o_store rfl hp hv hBk (by kernel_rfl) (by simp [Value.cells, Value.oneCell']) (by first | (simp [Value.cells]; done) | (simp [Value.cells]; omega)) rfl, Since.put hs (.inl hk)⟩
    · intro a wb wa hs1 hs hf hd
      have t74 : a.eval (.tmp 74) = _ := hd.at 15 74 (by kernel_rfl)
      exact plain_ rfl (late_eqv (o_assign rfl t74) rfl)
  case hG => exact ⟨stable_eqv _, stable_eqv _, stable_eqv _, stable_eqv _, stable_eqv _, stable_eqv _, stable_eqv _, stable_eqv _, stable_eqv _, stable_eqv _, stable_eqv _, stable_eqv _, stable_isTupN _ _ _, stable_isTupN _ _ _, stable_isMemN _ _, stable_eqv _, stable_isNew _ _ _, stable_any, stable_eqv _, trivial⟩
  case hc => kernel_rfl
  case hfin =>
    intro v11 hs11
    rintro _ rfl _ rfl _ rfl _ rfl _ rfl _ rfl _ rfl _ rfl _ rfl _ rfl _ rfl _ rfl _ ⟨p12, rfl, h12⟩ _ ⟨p13, rfl, h13⟩ p14 h14 _ rfl _ ⟨bn16, rfl, hbn16, hBn16⟩ _ rfl
    obtain ⟨u1, u2, u3, u4, rfl, uw, ug⟩ := IsMem.opened h14
    rintro v11w ⟨o1, v1, ho1, hr1, rfl⟩
    cases ho1
    simp only [Act.put, List.setIfInBounds_toArray, List.set_cons_zero, List.set_cons_succ] at hr1 ⊢
    cases (hr1.symm.trans (o_store (v := .agg #[.slice u1 m1.W.length u2, .slice u3 m1.G.length u4, .bool m1.bad]) (new := #[.slice u1 m1.W.length u2, .slice u3 m1.G.length u4, .bool m1.bad]) rfl rfl rfl ((hBn16)) (by kernel_rfl) (by simp [Value.cells, Value.oneCell']) (by first | (simp [Value.cells]; done) | (simp [Value.cells]; omega)) (by first | rfl | kernel_rfl)))
    obtain ⟨w1, hw1⟩ : ∃ x, x = (put v11 bn16 (.cells #[.slice u1 m1.W.length u2, .slice u3 m1.G.length u4, .bool m1.bad] 50 (0, 0))) := ⟨_, rfl⟩
    have hW1 : Ext W11 v11 := Since.to_ext hs11
    have hb1 : Ext w w1 := by rw [hw1]; exact Since.to_ext ((Since.of_ext (hX11.trans hW1)).put (.inl (by have := hX11.size; omega)))
    have hk1 : Keep (Bx N w.heap.size (w.heap.size + 3)) w w1 := by rw [hw1]; exact ((hK11.ext hW1).put _ _ (.inl (by omega)))
    have hq1 : ∀ M v l, IsInts M v11 v l → IsInts M w1 v l := by intro M v l h; rw [hw1]; exact h.putNew hBn16 zero50
    have B0_1 : Box w1 (w.heap.size) #[.slice aw s.M.W.length cw, .slice ag s.M.G.length cg, .bool s.M.bad, .slice ac s.C.length cc, .slice al s.L.length cl] 83 := by rw [hw1]; exact (box_putOther (D0_11.since hs11 rfl) (by omega))
    have B1_1 : Box w1 (w.heap.size + 1) #[.int .i64 op, .int .i64 2, .int .i64 q0, .int .i64 q1, .int .i64 q2, .int .i64 q3, .int .i64 q4, .int .i64 q5, .int .i64 q6, .int .i64 q7, .slice ga fS.length gc] 95 := by rw [hw1]; exact (box_putOther (D1_11.since hs11 rfl) (by omega))
    have B2_1 : Box w1 (w.heap.size + 1 + 1) #[.slice none 0 0, .slice none 0 0, .bool false, .slice none 0 0, .slice none 0 0] 83 := by rw [hw1]; exact (box_putOther (D2_11.since hs11 rfl) (by omega))
    have BN11_16_1 : Box w1 (bn16) #[.slice u1 m1.W.length u2, .slice u3 m1.G.length u4, .bool m1.bad] 50 := by rw [hw1]; exact (hBn16).put
    have s1 : W11.heap.size ≤ w1.heap.size := by rw [hw1]; have := hW1.size; simpa [put] using this
    rw [← hw1]
    clear hw1
    obtain ⟨c0_0, c0_1, c0_2, c0_3, c0_4, d0_0, d0_1, d0_2, d0_3, d0_4⟩ := cells5 B0_1
    have z0 : w.heap.size < w1.heap.size := B0_1.lt
    obtain ⟨⟨c1_0, c1_1, c1_2, c1_3, c1_4, c1_5, c1_6, c1_7, c1_8, c1_9, c1_10⟩, d1_0, d1_1, d1_2, d1_3, d1_4, d1_5, d1_6, d1_7, d1_8, d1_9, d1_10⟩ := cells11 B1_1
    have z1 : w.heap.size + 1 < w1.heap.size := B1_1.lt
    obtain ⟨c2_0, c2_1, c2_2, c2_3, c2_4, d2_0, d2_1, d2_2, d2_3, d2_4⟩ := cells5 B2_1
    have z2 : w.heap.size + 1 + 1 < w1.heap.size := B2_1.lt
    obtain ⟨cN11_16_0, cN11_16_1, cN11_16_2, dN11_16_0, dN11_16_1, dN11_16_2⟩ := cells3 BN11_16_1
    have zN11_16 : bn16 < w1.heap.size := BN11_16_1.lt
    have mw := hq1 _ _ _ uw
    have mg := hq1 _ _ _ ug
    clear hq1
    go_wp2_with (fail)
    go_at_call 165
    refine (on4_ (Bx N w.heap.size (w.heap.size + 3)) _ _ (memS s m1) id 0 ⟨op, 2, [q0, q1, q2, q3, q4, q5, q6, q7], fS⟩ _ (IsSys.mk rfl (IsInts.keep mw keq) (IsInts.keep mg keq) (IsCores.keep hcB keq) (IsEvs.keep hlB keq) : IsSys (Bx N w.heap.size (w.heap.size + 3)) _ _ (memS s m1)) (IsFrame.ofLit (IsInts.keep fsB keq) : IsFrame _ _ _ ⟨op, 2, [q0, q1, q2, q3, q4, q5, q6, q7], fS⟩) (Bx.le hN (by first | omega | (simp <;> omega))) hC hFm).calls.mono ?_
    rintro e w2 ⟨_, rfl, hb2, hu2⟩
    obtain ⟨r1, r2, r3, r4, r5, r6, r7, r8, rfl, rW, rG, rC, rL⟩ := hu2.opened
    have B0_2 : Box w2 (w.heap.size) #[.slice u1 m1.W.length u2, .slice u3 m1.G.length u4, .bool m1.bad, .slice ac s.C.length cc, .slice al s.L.length cl] 83 := (((B0_1.setCell _).setCell _).setCell _).ext hb2
    have B1_2 : Box w2 (w.heap.size + 1) #[.int .i64 op, .int .i64 2, .int .i64 q0, .int .i64 q1, .int .i64 q2, .int .i64 q3, .int .i64 q4, .int .i64 q5, .int .i64 q6, .int .i64 q7, .slice ga fS.length gc] 95 := (((B1_1.setOther (by first | omega | (simp <;> omega)) _).setOther (by first | omega | (simp <;> omega)) _).setOther (by first | omega | (simp <;> omega)) _).ext hb2
    have B2_2 : Box w2 (w.heap.size + 1 + 1) #[.slice none 0 0, .slice none 0 0, .bool false, .slice none 0 0, .slice none 0 0] 83 := (((B2_1.setOther (by first | omega | (simp <;> omega)) _).setOther (by first | omega | (simp <;> omega)) _).setOther (by first | omega | (simp <;> omega)) _).ext hb2
    have BN11_16_2 : Box w2 (bn16) #[.slice u1 m1.W.length u2, .slice u3 m1.G.length u4, .bool m1.bad] 50 := (((BN11_16_1.setOther (by first | omega | (simp <;> omega)) _).setOther (by first | omega | (simp <;> omega)) _).setOther (by first | omega | (simp <;> omega)) _).ext hb2
    clear c0_0 c0_1 c0_2 c0_3 c0_4 d0_0 d0_1 d0_2 d0_3 d0_4 z0 c1_0 c1_1 c1_2 c1_3 c1_4 c1_5 c1_6 c1_7 c1_8 c1_9 c1_10 d1_0 d1_1 d1_2 d1_3 d1_4 d1_5 d1_6 d1_7 d1_8 d1_9 d1_10 z1 c2_0 c2_1 c2_2 c2_3 c2_4 d2_0 d2_1 d2_2 d2_3 d2_4 z2 cN11_16_0 cN11_16_1 cN11_16_2 dN11_16_0 dN11_16_1 dN11_16_2 zN11_16
    have s2 : w1.heap.size ≤ w2.heap.size := (by have h := hb2.size; first | omega | (simp at h; omega))
    obtain ⟨c0_0, c0_1, c0_2, c0_3, c0_4, d0_0, d0_1, d0_2, d0_3, d0_4⟩ := cells5 B0_2
    have z0 : w.heap.size < w2.heap.size := B0_2.lt
    obtain ⟨⟨c1_0, c1_1, c1_2, c1_3, c1_4, c1_5, c1_6, c1_7, c1_8, c1_9, c1_10⟩, d1_0, d1_1, d1_2, d1_3, d1_4, d1_5, d1_6, d1_7, d1_8, d1_9, d1_10⟩ := cells11 B1_2
    have z1 : w.heap.size + 1 < w2.heap.size := B1_2.lt
    obtain ⟨c2_0, c2_1, c2_2, c2_3, c2_4, d2_0, d2_1, d2_2, d2_3, d2_4⟩ := cells5 B2_2
    have z2 : w.heap.size + 1 + 1 < w2.heap.size := B2_2.lt
    obtain ⟨cN11_16_0, cN11_16_1, cN11_16_2, dN11_16_0, dN11_16_1, dN11_16_2⟩ := cells3 BN11_16_2
    have zN11_16 : bn16 < w2.heap.size := BN11_16_2.lt
    go_wp2
    exact bodyPost_ret (ret_cell (cs := #[.slice r1 (setS (memS s m1) id (pcF ⟨op, 2, [q0, q1, q2, q3, q4, q5, q6, q7], fS⟩ 0)).M.W.length r2, .slice r3 (setS (memS s m1) id (pcF ⟨op, 2, [q0, q1, q2, q3, q4, q5, q6, q7], fS⟩ 0)).M.G.length r4, .bool (setS (memS s m1) id (pcF ⟨op, 2, [q0, q1, q2, q3, q4, q5, q6, q7], fS⟩ 0)).M.bad, .slice r5 (setS (memS s m1) id (pcF ⟨op, 2, [q0, q1, q2, q3, q4, q5, q6, q7], fS⟩ 0)).C.length r6, .slice r7 (setS (memS s m1) id (pcF ⟨op, 2, [q0, q1, q2, q3, q4, q5, q6, q7], fS⟩ 0)).L.length r8]) (((((B2_2.setCell _).setCell _).setCell _).setCell _).setCell _) Proofs.Try.results152 rfl Proofs.Try.underlying83 rfl (by kernel_rfl)) rfl ⟨_, rfl, exn, IsSys.less (IsSys.keep hu2 keq) (fun _ _ hn => .inl hn)⟩
set_option maxHeartbeats 1000000 in
set_option maxRecDepth 100000 in
theorem pop_o (N : Nat → Prop) (s : SysD) (id op pc q0 q1 q2 q3 q4 q5 q6 q7 : Int) (fS : List Int) (aw ag ac al ga : Option Addr) (cw cg cc cl gc : Nat) (w : World) (hw : IsInts N w (.slice aw s.M.W.length cw) s.M.W) (hg : IsInts N w (.slice ag s.M.G.length cg) s.M.G) (hc : IsCores N w (.slice ac s.C.length cc) s.C) (hl : IsEvs N w (.slice al s.L.length cl) s.L) (fs : IsInts N w (.slice ga fS.length gc) fS)
    (hN : ∀ b, N b → b < w.heap.size) (hC : s.C.length ≤ 100000) (hFm : ∀ (i : Nat) c, s.C[i]? = some c → c.F.length ≤ 100000) (hfit : Fits s.M) (p0 : (pc == 0) = false) (p1 : (pc == 1) = false) (p2 : (pc == 2) = false) (p3 : (pc != 0) = true) (p4 : (pc != 2) = true) :
    Gives Proofs.Try.prog 152 #[.agg #[.slice aw s.M.W.length cw, .slice ag s.M.G.length cg, .bool s.M.bad, .slice ac s.C.length cc, .slice al s.L.length cl], .int .i64 id, .agg #[.int .i64 op, .int .i64 pc, .int .i64 q0, .int .i64 q1, .int .i64 q2, .int .i64 q3, .int .i64 q4, .int .i64 q5, .int .i64 q6, .int .i64 q7, .slice ga fS.length gc]] w (fun r w' => IsSys N w' r (s)) := by
  have hwB := hw.bxn (hi := w.heap.size + 3)
  have hgB := hg.bxn (hi := w.heap.size + 3)
  have hcB := hc.bxn (hi := w.heap.size + 3)
  have hlB := hl.bxn (hi := w.heap.size + 3)
  have fsB := fs.bxn (hi := w.heap.size + 3)
  go_enter Proofs.Try.func152, Proofs.Try.ntmps152
  go_wp2
  exact bodyPost_ret (ret_cell (cs := #[.slice aw s.M.W.length cw, .slice ag s.M.G.length cg, .bool s.M.bad, .slice ac s.C.length cc, .slice al s.L.length cl]) (Box.newAt _ _ _ (by first | rfl | simp)) Proofs.Try.results152 rfl Proofs.Try.underlying83 rfl (by kernel_rfl)) rfl ⟨_, rfl, exn, IsSys.mk rfl (hw.ext exn) (hg.ext exn) (IsCores.keep hc (show Ext w _ from exn).keep) (IsEvs.keep hl (show Ext w _ from exn).keep)⟩
set_option maxHeartbeats 1000000 in
set_option maxRecDepth 100000 in
theorem push_n0 (N : Nat → Prop) (s : SysD) (id op q0 q1 q2 q3 q4 q5 q6 q7 : Int) (fS : List Int) (aw ag ac al ga : Option Addr) (cw cg cc cl gc : Nat) (w : World) (hw : IsInts N w (.slice aw s.M.W.length cw) s.M.W) (hg : IsInts N w (.slice ag s.M.G.length cg) s.M.G) (hc : IsCores N w (.slice ac s.C.length cc) s.C) (hl : IsEvs N w (.slice al s.L.length cl) s.L) (fs : IsInts N w (.slice ga fS.length gc) fS)
    (hN : ∀ b, N b → b < w.heap.size) (hC : s.C.length ≤ 100000) (hFm : ∀ (i : Nat) c, s.C[i]? = some c → c.F.length ≤ 100000) (hfit : Fits s.M)  :
    Gives Proofs.Try.prog 153 #[.agg #[.slice aw s.M.W.length cw, .slice ag s.M.G.length cg, .bool s.M.bad, .slice ac s.C.length cc, .slice al s.L.length cl], .int .i64 id, .agg #[.int .i64 op, .int .i64 0, .int .i64 q0, .int .i64 q1, .int .i64 q2, .int .i64 q3, .int .i64 q4, .int .i64 q5, .int .i64 q6, .int .i64 q7, .slice ga fS.length gc]] w (fun r w' => IsSys N w' r (onS s id (touchD s.M 0) ⟨op, 0, [q0, loadD s.M 0, q2, q3, q4, q5, q6, q7], fS⟩ 1)) := by
  have hwB := hw.bxn (hi := w.heap.size + 3)
  have hgB := hg.bxn (hi := w.heap.size + 3)
  have hcB := hc.bxn (hi := w.heap.size + 3)
  have hlB := hl.bxn (hi := w.heap.size + 3)
  have fsB := fs.bxn (hi := w.heap.size + 3)
  obtain ⟨m1, hm1⟩ : ∃ m, touchD s.M 0 = m := ⟨_, rfl⟩
  obtain ⟨v, hv⟩ : ∃ x, loadD s.M 0 = x := ⟨_, rfl⟩
  have kl : ∀ (w' : World) (va : Value), IsMem (Bx N w.heap.size (w.heap.size + 3)) w' va s.M → w.heap.size + 3 ≤ w'.heap.size → Gives Proofs.Try.prog 64 #[va, .int .i64 (0)] w' (fun r w' => ∃ u, r = .tuple #[u, .int .i64 v] ∧ IsMem (Bx N w.heap.size (w.heap.size + 3)) w' u m1) := fun w' va hm hsz => by
    have := memLoad_ (Bx N w.heap.size (w.heap.size + 3)) va s.M (0) w' hm hfit (Bx.le hN hsz) (by decide) (by decide)
    rw [hm1, hv] at this; exact this
  rw [hm1]
  try rw [hv]
  clear hm1 hv
  go_enter Proofs.Try.func153, Proofs.Try.ntmps153
  go_wp2_with (fail)
  go_at_call 64
  refine (kl _ _ (IsMem.mk rfl (IsInts.keep hwB keq) (IsInts.keep hgB keq)) (by first | omega | (simp <;> omega))).calls.mono ?_
  rintro e w1 ⟨_, rfl, hb1, u, rfl, hu1⟩
  obtain ⟨u1, u2, u3, u4, rfl, mw, mg⟩ := hu1.opened
  have B0_1 : Box w1 (w.heap.size) #[.slice aw s.M.W.length cw, .slice ag s.M.G.length cg, .bool s.M.bad, .slice ac s.C.length cc, .slice al s.L.length cl] 83 := (((Box.newAt _ _ _ (by first | rfl | simp)).alloc _).alloc _).ext hb1
  have B1_1 : Box w1 (w.heap.size + 1) #[.int .i64 op, .int .i64 0, .int .i64 q0, .int .i64 q1, .int .i64 q2, .int .i64 q3, .int .i64 q4, .int .i64 q5, .int .i64 q6, .int .i64 q7, .slice ga fS.length gc] 95 := ((Box.newAt _ _ _ (by first | rfl | simp)).alloc _).ext hb1
  have B2_1 : Box w1 (w.heap.size + 1 + 1) #[.slice none 0 0, .slice none 0 0, .bool false, .slice none 0 0, .slice none 0 0] 83 := (Box.newAt _ _ _ (by first | rfl | simp)).ext hb1
  have s1 : w.heap.size + 3 ≤ w1.heap.size := (by have h := hb1.size; first | omega | (simp at h; omega))
  obtain ⟨c0_0, c0_1, c0_2, c0_3, c0_4, d0_0, d0_1, d0_2, d0_3, d0_4⟩ := cells5 B0_1
  have z0 : w.heap.size < w1.heap.size := B0_1.lt
  obtain ⟨⟨c1_0, c1_1, c1_2, c1_3, c1_4, c1_5, c1_6, c1_7, c1_8, c1_9, c1_10⟩, d1_0, d1_1, d1_2, d1_3, d1_4, d1_5, d1_6, d1_7, d1_8, d1_9, d1_10⟩ := cells11 B1_1
  have z1 : w.heap.size + 1 < w1.heap.size := B1_1.lt
  obtain ⟨c2_0, c2_1, c2_2, c2_3, c2_4, d2_0, d2_1, d2_2, d2_3, d2_4⟩ := cells5 B2_1
  have z2 : w.heap.size + 1 + 1 < w1.heap.size := B2_1.lt
  go_wp2_with (fail)
  go_at_call 165
  refine (on4_ (Bx N w.heap.size (w.heap.size + 3)) _ _ (memS s m1) id 1 ⟨op, 0, [q0, v, q2, q3, q4, q5, q6, q7], fS⟩ _ (IsSys.mk rfl (IsInts.keep mw keq) (IsInts.keep mg keq) (IsCores.keep hcB keq) (IsEvs.keep hlB keq) : IsSys (Bx N w.heap.size (w.heap.size + 3)) _ _ (memS s m1)) (IsFrame.ofLit (IsInts.keep fsB keq) : IsFrame _ _ _ ⟨op, 0, [q0, v, q2, q3, q4, q5, q6, q7], fS⟩) (Bx.le hN (by first | omega | (simp <;> omega))) hC hFm).calls.mono ?_
  rintro e w2 ⟨_, rfl, hb2, hu2⟩
  obtain ⟨r1, r2, r3, r4, r5, r6, r7, r8, rfl, rW, rG, rC, rL⟩ := hu2.opened
  have B0_2 : Box w2 (w.heap.size) #[.slice u1 m1.W.length u2, .slice u3 m1.G.length u4, .bool m1.bad, .slice ac s.C.length cc, .slice al s.L.length cl] 83 := ((((B0_1.setCell _).setCell _).setCell _).setOther (by first | omega | (simp <;> omega)) _).ext hb2
  have B1_2 : Box w2 (w.heap.size + 1) #[.int .i64 op, .int .i64 0, .int .i64 q0, .int .i64 v, .int .i64 q2, .int .i64 q3, .int .i64 q4, .int .i64 q5, .int .i64 q6, .int .i64 q7, .slice ga fS.length gc] 95 := ((((B1_1.setOther (by first | omega | (simp <;> omega)) _).setOther (by first | omega | (simp <;> omega)) _).setOther (by first | omega | (simp <;> omega)) _).setCell _).ext hb2
  have B2_2 : Box w2 (w.heap.size + 1 + 1) #[.slice none 0 0, .slice none 0 0, .bool false, .slice none 0 0, .slice none 0 0] 83 := ((((B2_1.setOther (by first | omega | (simp <;> omega)) _).setOther (by first | omega | (simp <;> omega)) _).setOther (by first | omega | (simp <;> omega)) _).setOther (by first | omega | (simp <;> omega)) _).ext hb2
  clear c0_0 c0_1 c0_2 c0_3 c0_4 d0_0 d0_1 d0_2 d0_3 d0_4 z0 c1_0 c1_1 c1_2 c1_3 c1_4 c1_5 c1_6 c1_7 c1_8 c1_9 c1_10 d1_0 d1_1 d1_2 d1_3 d1_4 d1_5 d1_6 d1_7 d1_8 d1_9 d1_10 z1 c2_0 c2_1 c2_2 c2_3 c2_4 d2_0 d2_1 d2_2 d2_3 d2_4 z2
  have s2 : w1.heap.size ≤ w2.heap.size := (by have h := hb2.size; first | omega | (simp at h; omega))
  obtain ⟨c0_0, c0_1, c0_2, c0_3, c0_4, d0_0, d0_1, d0_2, d0_3, d0_4⟩ := cells5 B0_2
  have z0 : w.heap.size < w2.heap.size := B0_2.lt
  obtain ⟨⟨c1_0, c1_1, c1_2, c1_3, c1_4, c1_5, c1_6, c1_7, c1_8, c1_9, c1_10⟩, d1_0, d1_1, d1_2, d1_3, d1_4, d1_5, d1_6, d1_7, d1_8, d1_9, d1_10⟩ := cells11 B1_2
  have z1 : w.heap.size + 1 < w2.heap.size := B1_2.lt
  obtain ⟨c2_0, c2_1, c2_2, c2_3, c2_4, d2_0, d2_1, d2_2, d2_3, d2_4⟩ := cells5 B2_2
  have z2 : w.heap.size + 1 + 1 < w2.heap.size := B2_2.lt
  go_wp2
  exact bodyPost_ret (ret_cell (cs := #[.slice r1 (setS (memS s m1) id (pcF ⟨op, 0, [q0, v, q2, q3, q4, q5, q6, q7], fS⟩ 1)).M.W.length r2, .slice r3 (setS (memS s m1) id (pcF ⟨op, 0, [q0, v, q2, q3, q4, q5, q6, q7], fS⟩ 1)).M.G.length r4, .bool (setS (memS s m1) id (pcF ⟨op, 0, [q0, v, q2, q3, q4, q5, q6, q7], fS⟩ 1)).M.bad, .slice r5 (setS (memS s m1) id (pcF ⟨op, 0, [q0, v, q2, q3, q4, q5, q6, q7], fS⟩ 1)).C.length r6, .slice r7 (setS (memS s m1) id (pcF ⟨op, 0, [q0, v, q2, q3, q4, q5, q6, q7], fS⟩ 1)).L.length r8]) (((((B2_2.setCell _).setCell _).setCell _).setCell _).setCell _) Proofs.Try.results153 rfl Proofs.Try.underlying83 rfl (by kernel_rfl)) rfl ⟨_, rfl, exn, IsSys.less (IsSys.keep hu2 keq) (fun _ _ hn => .inl hn)⟩
set_option maxHeartbeats 1000000 in
set_option maxRecDepth 100000 in
theorem push_1 (N : Nat → Prop) (s : SysD) (id op q0 q1 q2 q3 q4 q5 q6 q7 : Int) (fS : List Int) (aw ag ac al ga : Option Addr) (cw cg cc cl gc : Nat) (w : World) (hw : IsInts N w (.slice aw s.M.W.length cw) s.M.W) (hg : IsInts N w (.slice ag s.M.G.length cg) s.M.G) (hc : IsCores N w (.slice ac s.C.length cc) s.C) (hl : IsEvs N w (.slice al s.L.length cl) s.L) (fs : IsInts N w (.slice ga fS.length gc) fS)
    (hN : ∀ b, N b → b < w.heap.size) (hC : s.C.length ≤ 100000) (hFm : ∀ (i : Nat) c, s.C[i]? = some c → c.F.length ≤ 100000) (hfit : Fits s.M)  :
    Gives Proofs.Try.prog 153 #[.agg #[.slice aw s.M.W.length cw, .slice ag s.M.G.length cg, .bool s.M.bad, .slice ac s.C.length cc, .slice al s.L.length cl], .int .i64 id, .agg #[.int .i64 op, .int .i64 1, .int .i64 q0, .int .i64 q1, .int .i64 q2, .int .i64 q3, .int .i64 q4, .int .i64 q5, .int .i64 q6, .int .i64 q7, .slice ga fS.length gc]] w (fun r w' => IsSys N w' r (onS s id (storeD s.M (linkAt q0) (idx q1)) ⟨op, 1, [q0, q1, q2, q3, q4, q5, q6, q7], fS⟩ 2)) := by
  have hwB := hw.bxn (hi := w.heap.size + 3)
  have hgB := hg.bxn (hi := w.heap.size + 3)
  have hcB := hc.bxn (hi := w.heap.size + 3)
  have hlB := hl.bxn (hi := w.heap.size + 3)
  have fsB := fs.bxn (hi := w.heap.size + 3)
  obtain ⟨m1, hm1⟩ : ∃ m, storeD s.M (linkAt q0) (idx q1) = m := ⟨_, rfl⟩
  have ks : ∀ (w' : World) (va : Value), IsMem (Bx N w.heap.size (w.heap.size + 3)) w' va s.M → w.heap.size + 3 ≤ w'.heap.size → Gives Proofs.Try.prog 68 #[va, .int .i64 (linkAt q0), .int .i64 (idx q1)] w' (fun r w' => IsMem (Bx N w.heap.size (w.heap.size + 3)) w' r m1) := fun w' va hm hsz => by
    have := memStore_ (Bx N w.heap.size (w.heap.size + 3)) va s.M (linkAt q0) (idx q1) w' hm hfit (Bx.le hN hsz) (linkAt_lo _).1 (linkAt_lo _).2
    rw [hm1] at this; exact this
  rw [hm1]
  clear hm1
  go_enter Proofs.Try.func153, Proofs.Try.ntmps153
  go_wp2_with (fail)
  obtain ⟨W6, hW⟩ : ∃ W, W = (((w.alloc (.cells #[.slice aw s.M.W.length cw, .slice ag s.M.G.length cg, .bool s.M.bad, .slice ac s.C.length cc, .slice al s.L.length cl] 83 (0, 0))).alloc (.cells #[.int .i64 op, .int .i64 1, .int .i64 q0, .int .i64 q1, .int .i64 q2, .int .i64 q3, .int .i64 q4, .int .i64 q5, .int .i64 q6, .int .i64 q7, .slice ga fS.length gc] 95 (0, 0))).alloc (.cells #[.slice none 0 0, .slice none 0 0, .bool false, .slice none 0 0, .slice none 0 0] 83 (0, 0))) := ⟨_, rfl⟩
  have hX6 : Ext w W6 := by rw [hW]; exact exn
  have hK6 : Keep (Bx N w.heap.size (w.heap.size + 3)) w W6 := by rw [hW]; exact keq
  have D0_6 : Box (((w.alloc (.cells #[.slice aw s.M.W.length cw, .slice ag s.M.G.length cg, .bool s.M.bad, .slice ac s.C.length cc, .slice al s.L.length cl] 83 (0, 0))).alloc (.cells #[.int .i64 op, .int .i64 1, .int .i64 q0, .int .i64 q1, .int .i64 q2, .int .i64 q3, .int .i64 q4, .int .i64 q5, .int .i64 q6, .int .i64 q7, .slice ga fS.length gc] 95 (0, 0))).alloc (.cells #[.slice none 0 0, .slice none 0 0, .bool false, .slice none 0 0, .slice none 0 0] 83 (0, 0))) (w.heap.size) #[.slice aw s.M.W.length cw, .slice ag s.M.G.length cg, .bool s.M.bad, .slice ac s.C.length cc, .slice al s.L.length cl] 83 := (((Box.newAt _ _ _ (by first | rfl | simp)).alloc _).alloc _)
  rw [← hW] at D0_6
  have D1_6 : Box (((w.alloc (.cells #[.slice aw s.M.W.length cw, .slice ag s.M.G.length cg, .bool s.M.bad, .slice ac s.C.length cc, .slice al s.L.length cl] 83 (0, 0))).alloc (.cells #[.int .i64 op, .int .i64 1, .int .i64 q0, .int .i64 q1, .int .i64 q2, .int .i64 q3, .int .i64 q4, .int .i64 q5, .int .i64 q6, .int .i64 q7, .slice ga fS.length gc] 95 (0, 0))).alloc (.cells #[.slice none 0 0, .slice none 0 0, .bool false, .slice none 0 0, .slice none 0 0] 83 (0, 0))) (w.heap.size + 1) #[.int .i64 op, .int .i64 1, .int .i64 q0, .int .i64 q1, .int .i64 q2, .int .i64 q3, .int .i64 q4, .int .i64 q5, .int .i64 q6, .int .i64 q7, .slice ga fS.length gc] 95 := ((Box.newAt _ _ _ (by first | rfl | simp)).alloc _)
  rw [← hW] at D1_6
  have D2_6 : Box (((w.alloc (.cells #[.slice aw s.M.W.length cw, .slice ag s.M.G.length cg, .bool s.M.bad, .slice ac s.C.length cc, .slice al s.L.length cl] 83 (0, 0))).alloc (.cells #[.int .i64 op, .int .i64 1, .int .i64 q0, .int .i64 q1, .int .i64 q2, .int .i64 q3, .int .i64 q4, .int .i64 q5, .int .i64 q6, .int .i64 q7, .slice ga fS.length gc] 95 (0, 0))).alloc (.cells #[.slice none 0 0, .slice none 0 0, .bool false, .slice none 0 0, .slice none 0 0] 83 (0, 0))) (w.heap.size + 1 + 1) #[.slice none 0 0, .slice none 0 0, .bool false, .slice none 0 0, .slice none 0 0] 83 := (Box.newAt _ _ _ (by first | rfl | simp))
  rw [← hW] at D2_6
  have y6 : w.heap.size + 3 ≤ W6.heap.size := by rw [hW]; simp
  rw [← hW]
  clear hW
  have aM : IsMem (Bx N w.heap.size (w.heap.size + 3)) W6 (.agg #[.slice aw s.M.W.length cw, .slice ag s.M.G.length cg, .bool s.M.bad]) s.M := (IsMem.mk rfl hwB hgB : IsMem (Bx N w.heap.size (w.heap.size + 3)) w _ s.M).keep ((Keep.refl _ _).ext hX6)
  apply region_lit2 (T := [12]) (L := []) (X := [w.heap.size]) (G := [eqv _, eqv _, eqv _, eqv _, eqv _, eqv _, eqv _, eqv _, eqv _, eqv _, isMemN (Bx N w.heap.size (w.heap.size + 3)) m1, eqv _, anyG])
  case hm => kernel_rfl
  case hop =>
    refine ⟨?_, ?_, ?_, ?_, ?_, ?_, ?_, ?_, ?_, ?_, ?_, ?_, ?_, trivial⟩
    · intro a wa hs hf hd
      have t3 := hf.off 3 (by kernel_rfl) rfl
      exact plain_ rfl (yes_eqv (o_fieldAddr rfl Proofs.Try.underlying83 rfl rfl (by kernel_rfl) t3) rfl)
    · intro a wa hs hf hd
      have t28 : a.eval (.tmp 28) = _ := hd.at 0 28 (by kernel_rfl)
      exact plain_ rfl (yes_eqv (o_load3 rfl Proofs.Try.underlying50 rfl (by kernel_rfl) t28 ((D0_6.since hs rfl).cell rfl) ((D0_6.since hs rfl).cell rfl) ((D0_6.since hs rfl).cell rfl)) rfl)
    · intro a wa hs hf hd
      have t5 := hf.off 5 (by kernel_rfl) rfl
      exact plain_ rfl (yes_eqv (o_fieldAddr rfl Proofs.Try.underlying95 rfl rfl (by kernel_rfl) t5) rfl)
    · intro a wa hs hf hd
      have t30 : a.eval (.tmp 30) = _ := hd.at 2 30 (by kernel_rfl)
      exact plain_ rfl (yes_eqv (o_indexAddrA (sz := 1) rfl Proofs.Try.underlying93 (by kernel_rfl) t30 rfl (by decide) (by decide)) rfl)
    · intro a wa hs hf hd
      have t31 : a.eval (.tmp 31) = _ := hd.at 3 31 (by kernel_rfl)
      exact plain_ rfl (yes_eqv (o_load1 rfl Proofs.Try.underlying3 rfl t31 ((D1_6.since hs rfl).cell rfl)) rfl)
    · intro a wa hs hf hd
      have t32 : a.eval (.tmp 32) = _ := hd.at 4 32 (by kernel_rfl)
      exact plain_ rfl (yes_gives (atw_ q0 _) rfl rfl Proofs.Try.func57 (by kernel_rfl) (by kernel_rfl) (by simp only [List.map_toArray, List.map_cons, List.map_nil, eval_const, t32]) rfl)
    · intro a wa hs hf hd
      have t5 := hf.off 5 (by kernel_rfl) rfl
      exact plain_ rfl (yes_eqv (o_fieldAddr rfl Proofs.Try.underlying95 rfl rfl (by kernel_rfl) t5) rfl)
    · intro a wa hs hf hd
      have t34 : a.eval (.tmp 34) = _ := hd.at 6 34 (by kernel_rfl)
      exact plain_ rfl (yes_eqv (o_indexAddrA (sz := 1) rfl Proofs.Try.underlying93 (by kernel_rfl) t34 rfl (by decide) (by decide)) rfl)
    · intro a wa hs hf hd
      have t35 : a.eval (.tmp 35) = _ := hd.at 7 35 (by kernel_rfl)
      exact plain_ rfl (yes_eqv (o_load1 rfl Proofs.Try.underlying3 rfl t35 ((D1_6.since hs rfl).cell rfl)) rfl)
    · intro a wa hs hf hd
      have t36 : a.eval (.tmp 36) = _ := hd.at 8 36 (by kernel_rfl)
      exact plain_ rfl (yes_gives (idx_ q1 _) rfl rfl Proofs.Try.func41 (by kernel_rfl) (by kernel_rfl) (by simp only [List.map_toArray, List.map_cons, List.map_nil, t36]) rfl)
    · intro a wa hs hf hd
      have t29 : a.eval (.tmp 29) = _ := hd.at 1 29 (by kernel_rfl)
      have t33 : a.eval (.tmp 33) = _ := hd.at 5 33 (by kernel_rfl)
      have t37 : a.eval (.tmp 37) = _ := hd.at 9 37 (by kernel_rfl)
      exact plain_ rfl (yes_gives (ks _ _ (aM.keep (Since.to_ext hs).keep) (by have := (Since.to_ext hs).size; have := hX6.size; omega)) rfl rfl Proofs.Try.func68 (by kernel_rfl) (by kernel_rfl) (by simp only [List.map_toArray, List.map_cons, List.map_nil, t29, t33, t37]) rfl)
    · intro a wa hs hf hd
      have t3 := hf.off 3 (by kernel_rfl) rfl
      exact plain_ rfl (yes_eqv (o_fieldAddr rfl Proofs.Try.underlying83 rfl rfl (by kernel_rfl) t3) rfl)
    · intro a wb wa hs1 hs hf hd hrun
      have t39 : a.eval (.tmp 39) = _ := hd.at 11 39 (by kernel_rfl)
      have t38 := hd.at 10 38 (by kernel_rfl)
      subst hrun
      have q18 : IsMem (Bx N w.heap.size (w.heap.size + 3)) _ (a.eval (.tmp 38)) m1 := t38
      obtain ⟨u1, u2, u3, u4, hv, _⟩ := q18.opened
      exact ⟨_, o_store rfl t39 hv ((D0_6.since hs1 rfl)) (by kernel_rfl) (by simp [Value.cells, Value.oneCell']) (by first | (simp [Value.cells]; done) | (simp [Value.cells]; omega)) rfl, Since.put hs (.inr (by simp))⟩
  case hG => exact ⟨stable_eqv _, stable_eqv _, stable_eqv _, stable_eqv _, stable_eqv _, stable_eqv _, stable_eqv _, stable_eqv _, stable_eqv _, stable_eqv _, stable_isMemN _ _, stable_eqv _, stable_any, trivial⟩
  case hc => kernel_rfl
  case hfin =>
    intro v6 hs6
    rintro _ rfl _ rfl _ rfl _ rfl _ rfl _ rfl _ rfl _ rfl _ rfl _ rfl r11 hr11 _ rfl
    obtain ⟨u1, u2, u3, u4, rfl, mw0, mg0⟩ := IsMem.opened hr11
    rintro v6w ⟨o1, v1, ho1, hr1, rfl⟩
    cases ho1
    simp only [Act.put, List.setIfInBounds_toArray, List.set_cons_zero, List.set_cons_succ] at hr1 ⊢
    cases (hr1.symm.trans (o_store (v := .agg #[.slice u1 m1.W.length u2, .slice u3 m1.G.length u4, .bool m1.bad]) (new := #[.slice u1 m1.W.length u2, .slice u3 m1.G.length u4, .bool m1.bad, .slice ac s.C.length cc, .slice al s.L.length cl]) rfl rfl rfl ((D0_6.since hs6 rfl)) (by kernel_rfl) (by simp [Value.cells, Value.oneCell']) (by first | (simp [Value.cells]; done) | (simp [Value.cells]; omega)) (by first | rfl | kernel_rfl)))
    obtain ⟨w1, hw1⟩ : ∃ x, x = (put v6 w.heap.size (.cells #[.slice u1 m1.W.length u2, .slice u3 m1.G.length u4, .bool m1.bad, .slice ac s.C.length cc, .slice al s.L.length cl] 83 (0, 0))) := ⟨_, rfl⟩
    have hW1 : Ext W6 v6 := Since.to_ext hs6
    have hb1 : Ext w w1 := by rw [hw1]; exact Since.to_ext ((Since.of_ext (hX6.trans hW1)).put (.inl (by have := hX6.size; omega)))
    have hk1 : Keep (Bx N w.heap.size (w.heap.size + 3)) w w1 := by rw [hw1]; exact ((hK6.ext hW1).put _ _ (.inr (Bx.mem (by omega) (by omega))))
    have hq1 : Keep (Bx N w.heap.size (w.heap.size + 3)) v6 w1 := by rw [hw1]; exact ((Keep.refl _ _).put _ _ (.inr (Bx.mem (by omega) (by omega))))
    have B0_1 : Box w1 (w.heap.size) #[.slice u1 m1.W.length u2, .slice u3 m1.G.length u4, .bool m1.bad, .slice ac s.C.length cc, .slice al s.L.length cl] 83 := by rw [hw1]; exact (D0_6.since hs6 rfl).put
    have B1_1 : Box w1 (w.heap.size + 1) #[.int .i64 op, .int .i64 1, .int .i64 q0, .int .i64 q1, .int .i64 q2, .int .i64 q3, .int .i64 q4, .int .i64 q5, .int .i64 q6, .int .i64 q7, .slice ga fS.length gc] 95 := by rw [hw1]; exact (box_putOther (D1_6.since hs6 rfl) (by omega))
    have B2_1 : Box w1 (w.heap.size + 1 + 1) #[.slice none 0 0, .slice none 0 0, .bool false, .slice none 0 0, .slice none 0 0] 83 := by rw [hw1]; exact (box_putOther (D2_6.since hs6 rfl) (by omega))
    have s1 : W6.heap.size ≤ w1.heap.size := by rw [hw1]; have := hW1.size; simpa [put] using this
    rw [← hw1]
    clear hw1
    obtain ⟨c0_0, c0_1, c0_2, c0_3, c0_4, d0_0, d0_1, d0_2, d0_3, d0_4⟩ := cells5 B0_1
    have z0 : w.heap.size < w1.heap.size := B0_1.lt
    obtain ⟨⟨c1_0, c1_1, c1_2, c1_3, c1_4, c1_5, c1_6, c1_7, c1_8, c1_9, c1_10⟩, d1_0, d1_1, d1_2, d1_3, d1_4, d1_5, d1_6, d1_7, d1_8, d1_9, d1_10⟩ := cells11 B1_1
    have z1 : w.heap.size + 1 < w1.heap.size := B1_1.lt
    obtain ⟨c2_0, c2_1, c2_2, c2_3, c2_4, d2_0, d2_1, d2_2, d2_3, d2_4⟩ := cells5 B2_1
    have z2 : w.heap.size + 1 + 1 < w1.heap.size := B2_1.lt
    have mw := IsInts.keep mw0 hq1
    have mg := IsInts.keep mg0 hq1
    clear hq1
    go_wp2_with (fail)
    go_at_call 165
    refine (on4_ (Bx N w.heap.size (w.heap.size + 3)) _ _ (memS s m1) id 2 ⟨op, 1, [q0, q1, q2, q3, q4, q5, q6, q7], fS⟩ _ (IsSys.mk rfl (IsInts.keep mw keq) (IsInts.keep mg keq) (IsCores.keep hcB keq) (IsEvs.keep hlB keq) : IsSys (Bx N w.heap.size (w.heap.size + 3)) _ _ (memS s m1)) (IsFrame.ofLit (IsInts.keep fsB keq) : IsFrame _ _ _ ⟨op, 1, [q0, q1, q2, q3, q4, q5, q6, q7], fS⟩) (Bx.le hN (by first | omega | (simp <;> omega))) hC hFm).calls.mono ?_
    rintro e w2 ⟨_, rfl, hb2, hu2⟩
    obtain ⟨r1, r2, r3, r4, r5, r6, r7, r8, rfl, rW, rG, rC, rL⟩ := hu2.opened
    have B0_2 : Box w2 (w.heap.size) #[.slice u1 m1.W.length u2, .slice u3 m1.G.length u4, .bool m1.bad, .slice ac s.C.length cc, .slice al s.L.length cl] 83 := B0_1.ext hb2
    have B1_2 : Box w2 (w.heap.size + 1) #[.int .i64 op, .int .i64 1, .int .i64 q0, .int .i64 q1, .int .i64 q2, .int .i64 q3, .int .i64 q4, .int .i64 q5, .int .i64 q6, .int .i64 q7, .slice ga fS.length gc] 95 := B1_1.ext hb2
    have B2_2 : Box w2 (w.heap.size + 1 + 1) #[.slice none 0 0, .slice none 0 0, .bool false, .slice none 0 0, .slice none 0 0] 83 := B2_1.ext hb2
    clear c0_0 c0_1 c0_2 c0_3 c0_4 d0_0 d0_1 d0_2 d0_3 d0_4 z0 c1_0 c1_1 c1_2 c1_3 c1_4 c1_5 c1_6 c1_7 c1_8 c1_9 c1_10 d1_0 d1_1 d1_2 d1_3 d1_4 d1_5 d1_6 d1_7 d1_8 d1_9 d1_10 z1 c2_0 c2_1 c2_2 c2_3 c2_4 d2_0 d2_1 d2_2 d2_3 d2_4 z2
    have s2 : w1.heap.size ≤ w2.heap.size := (by have h := hb2.size; first | omega | (simp at h; omega))
    obtain ⟨c0_0, c0_1, c0_2, c0_3, c0_4, d0_0, d0_1, d0_2, d0_3, d0_4⟩ := cells5 B0_2
    have z0 : w.heap.size < w2.heap.size := B0_2.lt
    obtain ⟨⟨c1_0, c1_1, c1_2, c1_3, c1_4, c1_5, c1_6, c1_7, c1_8, c1_9, c1_10⟩, d1_0, d1_1, d1_2, d1_3, d1_4, d1_5, d1_6, d1_7, d1_8, d1_9, d1_10⟩ := cells11 B1_2
    have z1 : w.heap.size + 1 < w2.heap.size := B1_2.lt
    obtain ⟨c2_0, c2_1, c2_2, c2_3, c2_4, d2_0, d2_1, d2_2, d2_3, d2_4⟩ := cells5 B2_2
    have z2 : w.heap.size + 1 + 1 < w2.heap.size := B2_2.lt
    go_wp2
    exact bodyPost_ret (ret_cell (cs := #[.slice r1 (setS (memS s m1) id (pcF ⟨op, 1, [q0, q1, q2, q3, q4, q5, q6, q7], fS⟩ 2)).M.W.length r2, .slice r3 (setS (memS s m1) id (pcF ⟨op, 1, [q0, q1, q2, q3, q4, q5, q6, q7], fS⟩ 2)).M.G.length r4, .bool (setS (memS s m1) id (pcF ⟨op, 1, [q0, q1, q2, q3, q4, q5, q6, q7], fS⟩ 2)).M.bad, .slice r5 (setS (memS s m1) id (pcF ⟨op, 1, [q0, q1, q2, q3, q4, q5, q6, q7], fS⟩ 2)).C.length r6, .slice r7 (setS (memS s m1) id (pcF ⟨op, 1, [q0, q1, q2, q3, q4, q5, q6, q7], fS⟩ 2)).L.length r8]) (((((B2_2.setCell _).setCell _).setCell _).setCell _).setCell _) Proofs.Try.results153 rfl Proofs.Try.underlying83 rfl (by kernel_rfl)) rfl ⟨_, rfl, exn, IsSys.less (IsSys.keep hu2 keq) (fun _ _ hn => .inl hn)⟩
set_option maxHeartbeats 1000000 in
set_option maxRecDepth 100000 in
theorem push_y2 (N : Nat → Prop) (s : SysD) (id op q0 q1 q2 q3 q4 q5 q6 q7 : Int) (fS : List Int) (aw ag ac al ga : Option Addr) (cw cg cc cl gc : Nat) (w : World) (hw : IsInts N w (.slice aw s.M.W.length cw) s.M.W) (hg : IsInts N w (.slice ag s.M.G.length cg) s.M.G) (hc : IsCores N w (.slice ac s.C.length cc) s.C) (hl : IsEvs N w (.slice al s.L.length cl) s.L) (fs : IsInts N w (.slice ga fS.length gc) fS)
    (hN : ∀ b, N b → b < w.heap.size) (hC : s.C.length ≤ 100000) (hFm : ∀ (i : Nat) c, s.C[i]? = some c → c.F.length ≤ 100000) (hfit : Fits s.M) (hcas : casIs s.M 0 q1 = true) (hfit1 : Fits (casD s.M 0 q1 (nextW q1 q0 0))) :
    Gives Proofs.Try.prog 153 #[.agg #[.slice aw s.M.W.length cw, .slice ag s.M.G.length cg, .bool s.M.bad, .slice ac s.C.length cc, .slice al s.L.length cl], .int .i64 id, .agg #[.int .i64 op, .int .i64 2, .int .i64 q0, .int .i64 q1, .int .i64 q2, .int .i64 q3, .int .i64 q4, .int .i64 q5, .int .i64 q6, .int .i64 q7, .slice ga fS.length gc]] w (fun r w' => IsSys N w' r (backS (memS s (turnMD (casD s.M 0 q1 (nextW q1 q0 0)) q0 0)) id q0 0)) := by
  have hwB := hw.bxn (hi := w.heap.size + 3)
  have hgB := hg.bxn (hi := w.heap.size + 3)
  have hcB := hc.bxn (hi := w.heap.size + 3)
  have hlB := hl.bxn (hi := w.heap.size + 3)
  have fsB := fs.bxn (hi := w.heap.size + 3)
  obtain ⟨m1, hm1⟩ : ∃ m, casD s.M 0 q1 (nextW q1 q0 0) = m := ⟨_, rfl⟩
  obtain ⟨nw, hnw⟩ : ∃ n, (nextW q1 q0 0) = n := ⟨_, rfl⟩
  have kx : ∀ w' : World, Gives Proofs.Try.prog 47 #[.int .i64 q1, .int .i64 q0, .int .i64 0] w' (eqv (.int .i64 nw)) := fun w' => by have := next_ q1 q0 0 w'; rw [hnw] at this; exact this
  have ks : ∀ (w' : World) (va : Value), IsMem (Bx N w.heap.size (w.heap.size + 3)) w' va s.M → w.heap.size + 3 ≤ w'.heap.size → Gives Proofs.Try.prog 66 #[va, .int .i64 0, .int .i64 q1, .int .i64 nw] w' (fun r w' => ∃ u, r = .tuple #[u, .bool true] ∧ IsMem (Bx N w.heap.size (w.heap.size + 3)) w' u m1) := fun w' va hm hsz => by
    have := memCas_ (Bx N w.heap.size (w.heap.size + 3)) va s.M 0 q1 (nextW q1 q0 0) w' hm hfit (Bx.le hN hsz) (by decide) (by decide)
    rw [hm1, hcas, hnw] at this; exact this
  rw [hm1] at hfit1
  obtain ⟨m2, hm2⟩ : ∃ m, turnMD m1 q0 0 = m := ⟨_, rfl⟩
  have kt : ∀ (w' : World) (va : Value), IsMem (Bx N w.heap.size (w.heap.size + 3)) w' va m1 → w.heap.size + 3 ≤ w'.heap.size → Gives Proofs.Try.prog 70 #[va, .int .i64 q0, .int .i64 0] w' (fun r w' => IsMem (Bx N w.heap.size (w.heap.size + 3)) w' r m2) := fun w' va hm hsz => by
    have := memTurn_ (Bx N w.heap.size (w.heap.size + 3)) va m1 q0 0 w' hm hfit1 (Bx.le hN hsz)
    rw [hm2] at this; exact this
  rw [hm1, hm2]
  clear hm1 hm2 hnw
  go_enter Proofs.Try.func153, Proofs.Try.ntmps153
  go_wp2_with (fail)
  obtain ⟨W9, hW⟩ : ∃ W, W = (((w.alloc (.cells #[.slice aw s.M.W.length cw, .slice ag s.M.G.length cg, .bool s.M.bad, .slice ac s.C.length cc, .slice al s.L.length cl] 83 (0, 0))).alloc (.cells #[.int .i64 op, .int .i64 2, .int .i64 q0, .int .i64 q1, .int .i64 q2, .int .i64 q3, .int .i64 q4, .int .i64 q5, .int .i64 q6, .int .i64 q7, .slice ga fS.length gc] 95 (0, 0))).alloc (.cells #[.slice none 0 0, .slice none 0 0, .bool false, .slice none 0 0, .slice none 0 0] 83 (0, 0))) := ⟨_, rfl⟩
  have hX9 : Ext w W9 := by rw [hW]; exact exn
  have hK9 : Keep (Bx N w.heap.size (w.heap.size + 3)) w W9 := by rw [hW]; exact keq
  have D0_9 : Box (((w.alloc (.cells #[.slice aw s.M.W.length cw, .slice ag s.M.G.length cg, .bool s.M.bad, .slice ac s.C.length cc, .slice al s.L.length cl] 83 (0, 0))).alloc (.cells #[.int .i64 op, .int .i64 2, .int .i64 q0, .int .i64 q1, .int .i64 q2, .int .i64 q3, .int .i64 q4, .int .i64 q5, .int .i64 q6, .int .i64 q7, .slice ga fS.length gc] 95 (0, 0))).alloc (.cells #[.slice none 0 0, .slice none 0 0, .bool false, .slice none 0 0, .slice none 0 0] 83 (0, 0))) (w.heap.size) #[.slice aw s.M.W.length cw, .slice ag s.M.G.length cg, .bool s.M.bad, .slice ac s.C.length cc, .slice al s.L.length cl] 83 := (((Box.newAt _ _ _ (by first | rfl | simp)).alloc _).alloc _)
  rw [← hW] at D0_9
  have D1_9 : Box (((w.alloc (.cells #[.slice aw s.M.W.length cw, .slice ag s.M.G.length cg, .bool s.M.bad, .slice ac s.C.length cc, .slice al s.L.length cl] 83 (0, 0))).alloc (.cells #[.int .i64 op, .int .i64 2, .int .i64 q0, .int .i64 q1, .int .i64 q2, .int .i64 q3, .int .i64 q4, .int .i64 q5, .int .i64 q6, .int .i64 q7, .slice ga fS.length gc] 95 (0, 0))).alloc (.cells #[.slice none 0 0, .slice none 0 0, .bool false, .slice none 0 0, .slice none 0 0] 83 (0, 0))) (w.heap.size + 1) #[.int .i64 op, .int .i64 2, .int .i64 q0, .int .i64 q1, .int .i64 q2, .int .i64 q3, .int .i64 q4, .int .i64 q5, .int .i64 q6, .int .i64 q7, .slice ga fS.length gc] 95 := ((Box.newAt _ _ _ (by first | rfl | simp)).alloc _)
  rw [← hW] at D1_9
  have D2_9 : Box (((w.alloc (.cells #[.slice aw s.M.W.length cw, .slice ag s.M.G.length cg, .bool s.M.bad, .slice ac s.C.length cc, .slice al s.L.length cl] 83 (0, 0))).alloc (.cells #[.int .i64 op, .int .i64 2, .int .i64 q0, .int .i64 q1, .int .i64 q2, .int .i64 q3, .int .i64 q4, .int .i64 q5, .int .i64 q6, .int .i64 q7, .slice ga fS.length gc] 95 (0, 0))).alloc (.cells #[.slice none 0 0, .slice none 0 0, .bool false, .slice none 0 0, .slice none 0 0] 83 (0, 0))) (w.heap.size + 1 + 1) #[.slice none 0 0, .slice none 0 0, .bool false, .slice none 0 0, .slice none 0 0] 83 := (Box.newAt _ _ _ (by first | rfl | simp))
  rw [← hW] at D2_9
  have y9 : w.heap.size + 3 ≤ W9.heap.size := by rw [hW]; simp
  rw [← hW]
  clear hW
  have aM : IsMem (Bx N w.heap.size (w.heap.size + 3)) W9 (.agg #[.slice aw s.M.W.length cw, .slice ag s.M.G.length cg, .bool s.M.bad]) s.M := (IsMem.mk rfl hwB hgB : IsMem (Bx N w.heap.size (w.heap.size + 3)) w _ s.M).keep ((Keep.refl _ _).ext hX9)
  apply region_lit2 (T := [17]) (L := [15, 18]) (X := []) (G := [eqv _, eqv _, eqv _, eqv _, eqv _, eqv _, eqv _, eqv _, eqv _, eqv _, eqv _, eqv _, isTupN (Bx N w.heap.size (w.heap.size + 3)) m1 (.bool true), isTupN (Bx N w.heap.size (w.heap.size + 3)) m1 (.bool true), isMemN (Bx N w.heap.size (w.heap.size + 3)) m1, eqv (.bool true), isNew W9.heap.size #[.slice none 0 0, .slice none 0 0, .bool false] 50, anyG, eqv _])
  case hm => kernel_rfl
  case hop =>
    refine ⟨?_, ?_, ?_, ?_, ?_, ?_, ?_, ?_, ?_, ?_, ?_, ?_, ?_, ?_, ?_, ?_, ?_, ?_, ?_, trivial⟩
    · intro a wa hs hf hd
      have t3 := hf.off 3 (by kernel_rfl) rfl
      exact plain_ rfl (yes_eqv (o_fieldAddr rfl Proofs.Try.underlying83 rfl rfl (by kernel_rfl) t3) rfl)
    · intro a wa hs hf hd
      have t47 : a.eval (.tmp 47) = _ := hd.at 0 47 (by kernel_rfl)
      exact plain_ rfl (yes_eqv (o_load3 rfl Proofs.Try.underlying50 rfl (by kernel_rfl) t47 ((D0_9.since hs rfl).cell rfl) ((D0_9.since hs rfl).cell rfl) ((D0_9.since hs rfl).cell rfl)) rfl)
    · intro a wa hs hf hd
      have t5 := hf.off 5 (by kernel_rfl) rfl
      exact plain_ rfl (yes_eqv (o_fieldAddr rfl Proofs.Try.underlying95 rfl rfl (by kernel_rfl) t5) rfl)
    · intro a wa hs hf hd
      have t49 : a.eval (.tmp 49) = _ := hd.at 2 49 (by kernel_rfl)
      exact plain_ rfl (yes_eqv (o_indexAddrA (sz := 1) rfl Proofs.Try.underlying93 (by kernel_rfl) t49 rfl (by decide) (by decide)) rfl)
    · intro a wa hs hf hd
      have t50 : a.eval (.tmp 50) = _ := hd.at 3 50 (by kernel_rfl)
      exact plain_ rfl (yes_eqv (o_load1 rfl Proofs.Try.underlying3 rfl t50 ((D1_9.since hs rfl).cell rfl)) rfl)
    · intro a wa hs hf hd
      have t5 := hf.off 5 (by kernel_rfl) rfl
      exact plain_ rfl (yes_eqv (o_fieldAddr rfl Proofs.Try.underlying95 rfl rfl (by kernel_rfl) t5) rfl)
    · intro a wa hs hf hd
      have t52 : a.eval (.tmp 52) = _ := hd.at 5 52 (by kernel_rfl)
      exact plain_ rfl (yes_eqv (o_indexAddrA (sz := 1) rfl Proofs.Try.underlying93 (by kernel_rfl) t52 rfl (by decide) (by decide)) rfl)
    · intro a wa hs hf hd
      have t53 : a.eval (.tmp 53) = _ := hd.at 6 53 (by kernel_rfl)
      exact plain_ rfl (yes_eqv (o_load1 rfl Proofs.Try.underlying3 rfl t53 ((D1_9.since hs rfl).cell rfl)) rfl)
    · intro a wa hs hf hd
      have t5 := hf.off 5 (by kernel_rfl) rfl
      exact plain_ rfl (yes_eqv (o_fieldAddr rfl Proofs.Try.underlying95 rfl rfl (by kernel_rfl) t5) rfl)
    · intro a wa hs hf hd
      have t55 : a.eval (.tmp 55) = _ := hd.at 8 55 (by kernel_rfl)
      exact plain_ rfl (yes_eqv (o_indexAddrA (sz := 1) rfl Proofs.Try.underlying93 (by kernel_rfl) t55 rfl (by decide) (by decide)) rfl)
    · intro a wa hs hf hd
      have t56 : a.eval (.tmp 56) = _ := hd.at 9 56 (by kernel_rfl)
      exact plain_ rfl (yes_eqv (o_load1 rfl Proofs.Try.underlying3 rfl t56 ((D1_9.since hs rfl).cell rfl)) rfl)
    · intro a wa hs hf hd
      have t54 : a.eval (.tmp 54) = _ := hd.at 7 54 (by kernel_rfl)
      have t57 : a.eval (.tmp 57) = _ := hd.at 10 57 (by kernel_rfl)
      exact plain_ rfl (yes_gives (kx _) rfl rfl Proofs.Try.func47 (by kernel_rfl) (by kernel_rfl) (by simp only [List.map_toArray, List.map_cons, List.map_nil, eval_const, t54, t57]) rfl)
    · intro a wa hs hf hd
      have t48 : a.eval (.tmp 48) = _ := hd.at 1 48 (by kernel_rfl)
      have t51 : a.eval (.tmp 51) = _ := hd.at 4 51 (by kernel_rfl)
      have t58 : a.eval (.tmp 58) = _ := hd.at 11 58 (by kernel_rfl)
      exact plain_ rfl (yes_gives (ks _ _ (aM.keep (Since.to_ext hs).keep) (by have := (Since.to_ext hs).size; have := hX9.size; omega)) rfl rfl Proofs.Try.func66 (by kernel_rfl) (by kernel_rfl) (by simp only [List.map_toArray, List.map_cons, List.map_nil, eval_const, t48, t51, t58]) rfl)
    · intro a wa hs hf hd
      have t59 := hd.at 12 59 (by kernel_rfl)
      obtain ⟨u, hu, hm⟩ := t59
      exact plain_ rfl (yes_val (runs_ok (o_move rfl hu)) (Ext.refl _) ⟨u, rfl, hm⟩ rfl)
    · intro a wa hs hf hd
      have t46 := hd.at 13 46 (by kernel_rfl)
      obtain ⟨u, hu, hm⟩ := t46
      exact plain_ rfl (yes_val (runs_ok (o_extract rfl hu rfl)) (Ext.refl _) hm rfl)
    · intro a wb wa hs1 hs hf hd
      have t46 := hd.at 13 46 (by kernel_rfl)
      obtain ⟨u, hu, hm⟩ := t46
      exact plain_ rfl (late_eqv (o_extract rfl hu rfl) rfl)
    · intro a wa hs hf hd
      exact plain_ rfl (yes_new (z := .agg #[.slice none 0 0, .slice none 0 0, .bool false]) rfl (by kernel_rfl) (by kernel_rfl) rfl hs.size)
    · intro a wb wa hs1 hs hf hd hrun
      have t7 := hd.at 16 7 (by kernel_rfl)
      have t60 := hd.at 14 60 (by kernel_rfl)
      subst hrun
      have q18 : IsMem (Bx N w.heap.size (w.heap.size + 3)) _ (a.eval (.tmp 60)) m1 := t60
      obtain ⟨u1, u2, u3, u4, hv, _⟩ := q18.opened
      obtain ⟨bk, hp, hk, hBk⟩ := t7
      exact ⟨_, o_store rfl hp hv hBk (by kernel_rfl) (by simp [Value.cells, Value.oneCell']) (by first | (simp [Value.cells]; done) | (simp [Value.cells]; omega)) rfl, Since.put hs (.inl hk)⟩
    · intro a wb wa hs1 hs hf hd
      have t61 : a.eval (.tmp 61) = _ := hd.at 15 61 (by kernel_rfl)
      exact plain_ rfl (late_eqv (o_assign rfl t61) rfl)
  case hG => exact ⟨stable_eqv _, stable_eqv _, stable_eqv _, stable_eqv _, stable_eqv _, stable_eqv _, stable_eqv _, stable_eqv _, stable_eqv _, stable_eqv _, stable_eqv _, stable_eqv _, stable_isTupN _ _ _, stable_isTupN _ _ _, stable_isMemN _ _, stable_eqv _, stable_isNew _ _ _, stable_any, stable_eqv _, trivial⟩
  case hc => kernel_rfl
  case hfin =>
    intro v9 hs9
    rintro _ rfl _ rfl _ rfl _ rfl _ rfl _ rfl _ rfl _ rfl _ rfl _ rfl _ rfl _ rfl _ ⟨p12, rfl, h12⟩ _ ⟨p13, rfl, h13⟩ p14 h14 _ rfl _ ⟨bn16, rfl, hbn16, hBn16⟩ _ rfl
    obtain ⟨u1, u2, u3, u4, rfl, uw, ug⟩ := IsMem.opened h14
    rintro v9w ⟨o1, v1, ho1, hr1, rfl⟩
    cases ho1
    simp only [Act.put, List.setIfInBounds_toArray, List.set_cons_zero, List.set_cons_succ] at hr1 ⊢
    cases (hr1.symm.trans (o_store (v := .agg #[.slice u1 m1.W.length u2, .slice u3 m1.G.length u4, .bool m1.bad]) (new := #[.slice u1 m1.W.length u2, .slice u3 m1.G.length u4, .bool m1.bad]) rfl rfl rfl ((hBn16)) (by kernel_rfl) (by simp [Value.cells, Value.oneCell']) (by first | (simp [Value.cells]; done) | (simp [Value.cells]; omega)) (by first | rfl | kernel_rfl)))
    obtain ⟨w1, hw1⟩ : ∃ x, x = (put v9 bn16 (.cells #[.slice u1 m1.W.length u2, .slice u3 m1.G.length u4, .bool m1.bad] 50 (0, 0))) := ⟨_, rfl⟩
    have hW1 : Ext W9 v9 := Since.to_ext hs9
    have hb1 : Ext w w1 := by rw [hw1]; exact Since.to_ext ((Since.of_ext (hX9.trans hW1)).put (.inl (by have := hX9.size; omega)))
    have hk1 : Keep (Bx N w.heap.size (w.heap.size + 3)) w w1 := by rw [hw1]; exact ((hK9.ext hW1).put _ _ (.inl (by omega)))
    have hq1 : ∀ M v l, IsInts M v9 v l → IsInts M w1 v l := by intro M v l h; rw [hw1]; exact h.putNew hBn16 zero50
    have B0_1 : Box w1 (w.heap.size) #[.slice aw s.M.W.length cw, .slice ag s.M.G.length cg, .bool s.M.bad, .slice ac s.C.length cc, .slice al s.L.length cl] 83 := by rw [hw1]; exact (box_putOther (D0_9.since hs9 rfl) (by omega))
    have B1_1 : Box w1 (w.heap.size + 1) #[.int .i64 op, .int .i64 2, .int .i64 q0, .int .i64 q1, .int .i64 q2, .int .i64 q3, .int .i64 q4, .int .i64 q5, .int .i64 q6, .int .i64 q7, .slice ga fS.length gc] 95 := by rw [hw1]; exact (box_putOther (D1_9.since hs9 rfl) (by omega))
    have B2_1 : Box w1 (w.heap.size + 1 + 1) #[.slice none 0 0, .slice none 0 0, .bool false, .slice none 0 0, .slice none 0 0] 83 := by rw [hw1]; exact (box_putOther (D2_9.since hs9 rfl) (by omega))
    have BN9_16_1 : Box w1 (bn16) #[.slice u1 m1.W.length u2, .slice u3 m1.G.length u4, .bool m1.bad] 50 := by rw [hw1]; exact (hBn16).put
    have s1 : W9.heap.size ≤ w1.heap.size := by rw [hw1]; have := hW1.size; simpa [put] using this
    rw [← hw1]
    clear hw1
    obtain ⟨c0_0, c0_1, c0_2, c0_3, c0_4, d0_0, d0_1, d0_2, d0_3, d0_4⟩ := cells5 B0_1
    have z0 : w.heap.size < w1.heap.size := B0_1.lt
    obtain ⟨⟨c1_0, c1_1, c1_2, c1_3, c1_4, c1_5, c1_6, c1_7, c1_8, c1_9, c1_10⟩, d1_0, d1_1, d1_2, d1_3, d1_4, d1_5, d1_6, d1_7, d1_8, d1_9, d1_10⟩ := cells11 B1_1
    have z1 : w.heap.size + 1 < w1.heap.size := B1_1.lt
    obtain ⟨c2_0, c2_1, c2_2, c2_3, c2_4, d2_0, d2_1, d2_2, d2_3, d2_4⟩ := cells5 B2_1
    have z2 : w.heap.size + 1 + 1 < w1.heap.size := B2_1.lt
    obtain ⟨cN9_16_0, cN9_16_1, cN9_16_2, dN9_16_0, dN9_16_1, dN9_16_2⟩ := cells3 BN9_16_1
    have zN9_16 : bn16 < w1.heap.size := BN9_16_1.lt
    have mw := hq1 _ _ _ uw
    have mg := hq1 _ _ _ ug
    clear hq1
    go_wp2_with (fail)
    go_at_call 70
    refine (kt _ _ (IsMem.mk rfl (IsInts.keep mw keq) (IsInts.keep mg keq) : IsMem (Bx N w.heap.size (w.heap.size + 3)) _ _ m1) (by first | omega | (simp <;> omega))).calls.mono ?_
    rintro e w2 ⟨_, rfl, hb2, hu2⟩
    obtain ⟨n1, n2, n3, n4, rfl, nw2, ng2⟩ := hu2.opened
    have B0_2 : Box w2 (w.heap.size) #[.slice u1 m1.W.length u2, .slice u3 m1.G.length u4, .bool m1.bad, .slice ac s.C.length cc, .slice al s.L.length cl] 83 := (((B0_1.setCell _).setCell _).setCell _).ext hb2
    have B1_2 : Box w2 (w.heap.size + 1) #[.int .i64 op, .int .i64 2, .int .i64 q0, .int .i64 q1, .int .i64 q2, .int .i64 q3, .int .i64 q4, .int .i64 q5, .int .i64 q6, .int .i64 q7, .slice ga fS.length gc] 95 := (((B1_1.setOther (by first | omega | (simp <;> omega)) _).setOther (by first | omega | (simp <;> omega)) _).setOther (by first | omega | (simp <;> omega)) _).ext hb2
    have B2_2 : Box w2 (w.heap.size + 1 + 1) #[.slice none 0 0, .slice none 0 0, .bool false, .slice none 0 0, .slice none 0 0] 83 := (((B2_1.setOther (by first | omega | (simp <;> omega)) _).setOther (by first | omega | (simp <;> omega)) _).setOther (by first | omega | (simp <;> omega)) _).ext hb2
    have BN9_16_2 : Box w2 (bn16) #[.slice u1 m1.W.length u2, .slice u3 m1.G.length u4, .bool m1.bad] 50 := (((BN9_16_1.setOther (by first | omega | (simp <;> omega)) _).setOther (by first | omega | (simp <;> omega)) _).setOther (by first | omega | (simp <;> omega)) _).ext hb2
    clear c0_0 c0_1 c0_2 c0_3 c0_4 d0_0 d0_1 d0_2 d0_3 d0_4 z0 c1_0 c1_1 c1_2 c1_3 c1_4 c1_5 c1_6 c1_7 c1_8 c1_9 c1_10 d1_0 d1_1 d1_2 d1_3 d1_4 d1_5 d1_6 d1_7 d1_8 d1_9 d1_10 z1 c2_0 c2_1 c2_2 c2_3 c2_4 d2_0 d2_1 d2_2 d2_3 d2_4 z2 cN9_16_0 cN9_16_1 cN9_16_2 dN9_16_0 dN9_16_1 dN9_16_2 zN9_16
    have s2 : w1.heap.size ≤ w2.heap.size := (by have h := hb2.size; first | omega | (simp at h; omega))
    obtain ⟨c0_0, c0_1, c0_2, c0_3, c0_4, d0_0, d0_1, d0_2, d0_3, d0_4⟩ := cells5 B0_2
    have z0 : w.heap.size < w2.heap.size := B0_2.lt
    obtain ⟨⟨c1_0, c1_1, c1_2, c1_3, c1_4, c1_5, c1_6, c1_7, c1_8, c1_9, c1_10⟩, d1_0, d1_1, d1_2, d1_3, d1_4, d1_5, d1_6, d1_7, d1_8, d1_9, d1_10⟩ := cells11 B1_2
    have z1 : w.heap.size + 1 < w2.heap.size := B1_2.lt
    obtain ⟨c2_0, c2_1, c2_2, c2_3, c2_4, d2_0, d2_1, d2_2, d2_3, d2_4⟩ := cells5 B2_2
    have z2 : w.heap.size + 1 + 1 < w2.heap.size := B2_2.lt
    obtain ⟨cN9_16_0, cN9_16_1, cN9_16_2, dN9_16_0, dN9_16_1, dN9_16_2⟩ := cells3 BN9_16_2
    have zN9_16 : bn16 < w2.heap.size := BN9_16_2.lt
    go_wp2_with (fail)
    go_at_call 86
    refine (back_ (Bx N w.heap.size (w.heap.size + 3)) _ (memS s m2) id q0 0 _ (IsSys.mk rfl (IsInts.keep nw2 keq) (IsInts.keep ng2 keq) (IsCores.keep hcB keq) (IsEvs.keep hlB keq) : IsSys (Bx N w.heap.size (w.heap.size + 3)) _ _ (memS s m2)) (Bx.le hN (by first | omega | (simp <;> omega))) hC).calls.mono ?_
    rintro e w3 ⟨_, rfl, hb3, hu3⟩
    obtain ⟨r1, r2, r3, r4, r5, r6, r7, r8, rfl, rW, rG, rC, rL⟩ := hu3.opened
    have B0_3 : Box w3 (w.heap.size) #[.slice n1 m2.W.length n2, .slice n3 m2.G.length n4, .bool m2.bad, .slice ac s.C.length cc, .slice al s.L.length cl] 83 := (((B0_2.setCell _).setCell _).setCell _).ext hb3
    have B1_3 : Box w3 (w.heap.size + 1) #[.int .i64 op, .int .i64 2, .int .i64 q0, .int .i64 q1, .int .i64 q2, .int .i64 q3, .int .i64 q4, .int .i64 q5, .int .i64 q6, .int .i64 q7, .slice ga fS.length gc] 95 := (((B1_2.setOther (by first | omega | (simp <;> omega)) _).setOther (by first | omega | (simp <;> omega)) _).setOther (by first | omega | (simp <;> omega)) _).ext hb3
    have B2_3 : Box w3 (w.heap.size + 1 + 1) #[.slice none 0 0, .slice none 0 0, .bool false, .slice none 0 0, .slice none 0 0] 83 := (((B2_2.setOther (by first | omega | (simp <;> omega)) _).setOther (by first | omega | (simp <;> omega)) _).setOther (by first | omega | (simp <;> omega)) _).ext hb3
    have BN9_16_3 : Box w3 (bn16) #[.slice u1 m1.W.length u2, .slice u3 m1.G.length u4, .bool m1.bad] 50 := (((BN9_16_2.setOther (by first | omega | (simp <;> omega)) _).setOther (by first | omega | (simp <;> omega)) _).setOther (by first | omega | (simp <;> omega)) _).ext hb3
    clear c0_0 c0_1 c0_2 c0_3 c0_4 d0_0 d0_1 d0_2 d0_3 d0_4 z0 c1_0 c1_1 c1_2 c1_3 c1_4 c1_5 c1_6 c1_7 c1_8 c1_9 c1_10 d1_0 d1_1 d1_2 d1_3 d1_4 d1_5 d1_6 d1_7 d1_8 d1_9 d1_10 z1 c2_0 c2_1 c2_2 c2_3 c2_4 d2_0 d2_1 d2_2 d2_3 d2_4 z2 cN9_16_0 cN9_16_1 cN9_16_2 dN9_16_0 dN9_16_1 dN9_16_2 zN9_16
    have s3 : w2.heap.size ≤ w3.heap.size := (by have h := hb3.size; first | omega | (simp at h; omega))
    obtain ⟨c0_0, c0_1, c0_2, c0_3, c0_4, d0_0, d0_1, d0_2, d0_3, d0_4⟩ := cells5 B0_3
    have z0 : w.heap.size < w3.heap.size := B0_3.lt
    obtain ⟨⟨c1_0, c1_1, c1_2, c1_3, c1_4, c1_5, c1_6, c1_7, c1_8, c1_9, c1_10⟩, d1_0, d1_1, d1_2, d1_3, d1_4, d1_5, d1_6, d1_7, d1_8, d1_9, d1_10⟩ := cells11 B1_3
    have z1 : w.heap.size + 1 < w3.heap.size := B1_3.lt
    obtain ⟨c2_0, c2_1, c2_2, c2_3, c2_4, d2_0, d2_1, d2_2, d2_3, d2_4⟩ := cells5 B2_3
    have z2 : w.heap.size + 1 + 1 < w3.heap.size := B2_3.lt
    obtain ⟨cN9_16_0, cN9_16_1, cN9_16_2, dN9_16_0, dN9_16_1, dN9_16_2⟩ := cells3 BN9_16_3
    have zN9_16 : bn16 < w3.heap.size := BN9_16_3.lt
    go_wp2
    exact bodyPost_ret (ret_cell (cs := #[.slice r1 (backS (memS s m2) id q0 0).M.W.length r2, .slice r3 (backS (memS s m2) id q0 0).M.G.length r4, .bool (backS (memS s m2) id q0 0).M.bad, .slice r5 (backS (memS s m2) id q0 0).C.length r6, .slice r7 (backS (memS s m2) id q0 0).L.length r8]) (((((B2_3.setCell _).setCell _).setCell _).setCell _).setCell _) Proofs.Try.results153 rfl Proofs.Try.underlying83 rfl (by kernel_rfl)) rfl ⟨_, rfl, exn, IsSys.less (IsSys.keep hu3 keq) (fun _ _ hn => .inl hn)⟩
set_option maxHeartbeats 1000000 in
set_option maxRecDepth 100000 in
theorem push_n2 (N : Nat → Prop) (s : SysD) (id op q0 q1 q2 q3 q4 q5 q6 q7 : Int) (fS : List Int) (aw ag ac al ga : Option Addr) (cw cg cc cl gc : Nat) (w : World) (hw : IsInts N w (.slice aw s.M.W.length cw) s.M.W) (hg : IsInts N w (.slice ag s.M.G.length cg) s.M.G) (hc : IsCores N w (.slice ac s.C.length cc) s.C) (hl : IsEvs N w (.slice al s.L.length cl) s.L) (fs : IsInts N w (.slice ga fS.length gc) fS)
    (hN : ∀ b, N b → b < w.heap.size) (hC : s.C.length ≤ 100000) (hFm : ∀ (i : Nat) c, s.C[i]? = some c → c.F.length ≤ 100000) (hfit : Fits s.M) (hcas : casIs s.M 0 q1 = false) :
    Gives Proofs.Try.prog 153 #[.agg #[.slice aw s.M.W.length cw, .slice ag s.M.G.length cg, .bool s.M.bad, .slice ac s.C.length cc, .slice al s.L.length cl], .int .i64 id, .agg #[.int .i64 op, .int .i64 2, .int .i64 q0, .int .i64 q1, .int .i64 q2, .int .i64 q3, .int .i64 q4, .int .i64 q5, .int .i64 q6, .int .i64 q7, .slice ga fS.length gc]] w (fun r w' => IsSys N w' r (onS s id (casD s.M 0 q1 (nextW q1 q0 0)) ⟨op, 2, [q0, q1, q2, q3, q4, q5, q6, q7], fS⟩ 0)) := by
  have hwB := hw.bxn (hi := w.heap.size + 3)
  have hgB := hg.bxn (hi := w.heap.size + 3)
  have hcB := hc.bxn (hi := w.heap.size + 3)
  have hlB := hl.bxn (hi := w.heap.size + 3)
  have fsB := fs.bxn (hi := w.heap.size + 3)
  obtain ⟨m1, hm1⟩ : ∃ m, casD s.M 0 q1 (nextW q1 q0 0) = m := ⟨_, rfl⟩
  obtain ⟨nw, hnw⟩ : ∃ n, (nextW q1 q0 0) = n := ⟨_, rfl⟩
  have kx : ∀ w' : World, Gives Proofs.Try.prog 47 #[.int .i64 q1, .int .i64 q0, .int .i64 0] w' (eqv (.int .i64 nw)) := fun w' => by have := next_ q1 q0 0 w'; rw [hnw] at this; exact this
  have ks : ∀ (w' : World) (va : Value), IsMem (Bx N w.heap.size (w.heap.size + 3)) w' va s.M → w.heap.size + 3 ≤ w'.heap.size → Gives Proofs.Try.prog 66 #[va, .int .i64 0, .int .i64 q1, .int .i64 nw] w' (fun r w' => ∃ u, r = .tuple #[u, .bool false] ∧ IsMem (Bx N w.heap.size (w.heap.size + 3)) w' u m1) := fun w' va hm hsz => by
    have := memCas_ (Bx N w.heap.size (w.heap.size + 3)) va s.M 0 q1 (nextW q1 q0 0) w' hm hfit (Bx.le hN hsz) (by decide) (by decide)
    rw [hm1, hcas, hnw] at this; exact this
  rw [hm1]
  clear hm1 hnw
  go_enter Proofs.Try.func153, Proofs.Try.ntmps153
  go_wp2_with (fail)
  obtain ⟨W9, hW⟩ : ∃ W, W = (((w.alloc (.cells #[.slice aw s.M.W.length cw, .slice ag s.M.G.length cg, .bool s.M.bad, .slice ac s.C.length cc, .slice al s.L.length cl] 83 (0, 0))).alloc (.cells #[.int .i64 op, .int .i64 2, .int .i64 q0, .int .i64 q1, .int .i64 q2, .int .i64 q3, .int .i64 q4, .int .i64 q5, .int .i64 q6, .int .i64 q7, .slice ga fS.length gc] 95 (0, 0))).alloc (.cells #[.slice none 0 0, .slice none 0 0, .bool false, .slice none 0 0, .slice none 0 0] 83 (0, 0))) := ⟨_, rfl⟩
  have hX9 : Ext w W9 := by rw [hW]; exact exn
  have hK9 : Keep (Bx N w.heap.size (w.heap.size + 3)) w W9 := by rw [hW]; exact keq
  have D0_9 : Box (((w.alloc (.cells #[.slice aw s.M.W.length cw, .slice ag s.M.G.length cg, .bool s.M.bad, .slice ac s.C.length cc, .slice al s.L.length cl] 83 (0, 0))).alloc (.cells #[.int .i64 op, .int .i64 2, .int .i64 q0, .int .i64 q1, .int .i64 q2, .int .i64 q3, .int .i64 q4, .int .i64 q5, .int .i64 q6, .int .i64 q7, .slice ga fS.length gc] 95 (0, 0))).alloc (.cells #[.slice none 0 0, .slice none 0 0, .bool false, .slice none 0 0, .slice none 0 0] 83 (0, 0))) (w.heap.size) #[.slice aw s.M.W.length cw, .slice ag s.M.G.length cg, .bool s.M.bad, .slice ac s.C.length cc, .slice al s.L.length cl] 83 := (((Box.newAt _ _ _ (by first | rfl | simp)).alloc _).alloc _)
  rw [← hW] at D0_9
  have D1_9 : Box (((w.alloc (.cells #[.slice aw s.M.W.length cw, .slice ag s.M.G.length cg, .bool s.M.bad, .slice ac s.C.length cc, .slice al s.L.length cl] 83 (0, 0))).alloc (.cells #[.int .i64 op, .int .i64 2, .int .i64 q0, .int .i64 q1, .int .i64 q2, .int .i64 q3, .int .i64 q4, .int .i64 q5, .int .i64 q6, .int .i64 q7, .slice ga fS.length gc] 95 (0, 0))).alloc (.cells #[.slice none 0 0, .slice none 0 0, .bool false, .slice none 0 0, .slice none 0 0] 83 (0, 0))) (w.heap.size + 1) #[.int .i64 op, .int .i64 2, .int .i64 q0, .int .i64 q1, .int .i64 q2, .int .i64 q3, .int .i64 q4, .int .i64 q5, .int .i64 q6, .int .i64 q7, .slice ga fS.length gc] 95 := ((Box.newAt _ _ _ (by first | rfl | simp)).alloc _)
  rw [← hW] at D1_9
  have D2_9 : Box (((w.alloc (.cells #[.slice aw s.M.W.length cw, .slice ag s.M.G.length cg, .bool s.M.bad, .slice ac s.C.length cc, .slice al s.L.length cl] 83 (0, 0))).alloc (.cells #[.int .i64 op, .int .i64 2, .int .i64 q0, .int .i64 q1, .int .i64 q2, .int .i64 q3, .int .i64 q4, .int .i64 q5, .int .i64 q6, .int .i64 q7, .slice ga fS.length gc] 95 (0, 0))).alloc (.cells #[.slice none 0 0, .slice none 0 0, .bool false, .slice none 0 0, .slice none 0 0] 83 (0, 0))) (w.heap.size + 1 + 1) #[.slice none 0 0, .slice none 0 0, .bool false, .slice none 0 0, .slice none 0 0] 83 := (Box.newAt _ _ _ (by first | rfl | simp))
  rw [← hW] at D2_9
  have y9 : w.heap.size + 3 ≤ W9.heap.size := by rw [hW]; simp
  rw [← hW]
  clear hW
  have aM : IsMem (Bx N w.heap.size (w.heap.size + 3)) W9 (.agg #[.slice aw s.M.W.length cw, .slice ag s.M.G.length cg, .bool s.M.bad]) s.M := (IsMem.mk rfl hwB hgB : IsMem (Bx N w.heap.size (w.heap.size + 3)) w _ s.M).keep ((Keep.refl _ _).ext hX9)
  apply region_lit2 (T := [17]) (L := [15, 18]) (X := []) (G := [eqv _, eqv _, eqv _, eqv _, eqv _, eqv _, eqv _, eqv _, eqv _, eqv _, eqv _, eqv _, isTupN (Bx N w.heap.size (w.heap.size + 3)) m1 (.bool false), isTupN (Bx N w.heap.size (w.heap.size + 3)) m1 (.bool false), isMemN (Bx N w.heap.size (w.heap.size + 3)) m1, eqv (.bool false), isNew W9.heap.size #[.slice none 0 0, .slice none 0 0, .bool false] 50, anyG, eqv _])
  case hm => kernel_rfl
  case hop =>
    refine ⟨?_, ?_, ?_, ?_, ?_, ?_, ?_, ?_, ?_, ?_, ?_, ?_, ?_, ?_, ?_, ?_, ?_, ?_, ?_, trivial⟩
    · intro a wa hs hf hd
      have t3 := hf.off 3 (by kernel_rfl) rfl
      exact plain_ rfl (yes_eqv (o_fieldAddr rfl Proofs.Try.underlying83 rfl rfl (by kernel_rfl) t3) rfl)
    · intro a wa hs hf hd
      have t47 : a.eval (.tmp 47) = _ := hd.at 0 47 (by kernel_rfl)
      exact plain_ rfl (yes_eqv (o_load3 rfl Proofs.Try.underlying50 rfl (by kernel_rfl) t47 ((D0_9.since hs rfl).cell rfl) ((D0_9.since hs rfl).cell rfl) ((D0_9.since hs rfl).cell rfl)) rfl)
    · intro a wa hs hf hd
      have t5 := hf.off 5 (by kernel_rfl) rfl
      exact plain_ rfl (yes_eqv (o_fieldAddr rfl Proofs.Try.underlying95 rfl rfl (by kernel_rfl) t5) rfl)
    · intro a wa hs hf hd
      have t49 : a.eval (.tmp 49) = _ := hd.at 2 49 (by kernel_rfl)
      exact plain_ rfl (yes_eqv (o_indexAddrA (sz := 1) rfl Proofs.Try.underlying93 (by kernel_rfl) t49 rfl (by decide) (by decide)) rfl)
    · intro a wa hs hf hd
      have t50 : a.eval (.tmp 50) = _ := hd.at 3 50 (by kernel_rfl)
      exact plain_ rfl (yes_eqv (o_load1 rfl Proofs.Try.underlying3 rfl t50 ((D1_9.since hs rfl).cell rfl)) rfl)
    · intro a wa hs hf hd
      have t5 := hf.off 5 (by kernel_rfl) rfl
      exact plain_ rfl (yes_eqv (o_fieldAddr rfl Proofs.Try.underlying95 rfl rfl (by kernel_rfl) t5) rfl)
    · intro a wa hs hf hd
      have t52 : a.eval (.tmp 52) = _ := hd.at 5 52 (by kernel_rfl)
      exact plain_ rfl (yes_eqv (o_indexAddrA (sz := 1) rfl Proofs.Try.underlying93 (by kernel_rfl) t52 rfl (by decide) (by decide)) rfl)
    · intro a wa hs hf hd
      have t53 : a.eval (.tmp 53) = _ := hd.at 6 53 (by kernel_rfl)
      exact plain_ rfl (yes_eqv (o_load1 rfl Proofs.Try.underlying3 rfl t53 ((D1_9.since hs rfl).cell rfl)) rfl)
    · intro a wa hs hf hd
      have t5 := hf.off 5 (by kernel_rfl) rfl
      exact plain_ rfl (yes_eqv (o_fieldAddr rfl Proofs.Try.underlying95 rfl rfl (by kernel_rfl) t5) rfl)
    · intro a wa hs hf hd
      have t55 : a.eval (.tmp 55) = _ := hd.at 8 55 (by kernel_rfl)
      exact plain_ rfl (yes_eqv (o_indexAddrA (sz := 1) rfl Proofs.Try.underlying93 (by kernel_rfl) t55 rfl (by decide) (by decide)) rfl)
    · intro a wa hs hf hd
      have t56 : a.eval (.tmp 56) = _ := hd.at 9 56 (by kernel_rfl)
      exact plain_ rfl (yes_eqv (o_load1 rfl Proofs.Try.underlying3 rfl t56 ((D1_9.since hs rfl).cell rfl)) rfl)
    · intro a wa hs hf hd
      have t54 : a.eval (.tmp 54) = _ := hd.at 7 54 (by kernel_rfl)
      have t57 : a.eval (.tmp 57) = _ := hd.at 10 57 (by kernel_rfl)
      exact plain_ rfl (yes_gives (kx _) rfl rfl Proofs.Try.func47 (by kernel_rfl) (by kernel_rfl) (by simp only [List.map_toArray, List.map_cons, List.map_nil, eval_const, t54, t57]) rfl)
    · intro a wa hs hf hd
      have t48 : a.eval (.tmp 48) = _ := hd.at 1 48 (by kernel_rfl)
      have t51 : a.eval (.tmp 51) = _ := hd.at 4 51 (by kernel_rfl)
      have t58 : a.eval (.tmp 58) = _ := hd.at 11 58 (by kernel_rfl)
      exact plain_ rfl (yes_gives (ks _ _ (aM.keep (Since.to_ext hs).keep) (by have := (Since.to_ext hs).size; have := hX9.size; omega)) rfl rfl Proofs.Try.func66 (by kernel_rfl) (by kernel_rfl) (by simp only [List.map_toArray, List.map_cons, List.map_nil, eval_const, t48, t51, t58]) rfl)
    · intro a wa hs hf hd
      have t59 := hd.at 12 59 (by kernel_rfl)
      obtain ⟨u, hu, hm⟩ := t59
      exact plain_ rfl (yes_val (runs_ok (o_move rfl hu)) (Ext.refl _) ⟨u, rfl, hm⟩ rfl)
    · intro a wa hs hf hd
      have t46 := hd.at 13 46 (by kernel_rfl)
      obtain ⟨u, hu, hm⟩ := t46
      exact plain_ rfl (yes_val (runs_ok (o_extract rfl hu rfl)) (Ext.refl _) hm rfl)
    · intro a wb wa hs1 hs hf hd
      have t46 := hd.at 13 46 (by kernel_rfl)
      obtain ⟨u, hu, hm⟩ := t46
      exact plain_ rfl (late_eqv (o_extract rfl hu rfl) rfl)
    · intro a wa hs hf hd
      exact plain_ rfl (yes_new (z := .agg #[.slice none 0 0, .slice none 0 0, .bool false]) rfl (by kernel_rfl) (by kernel_rfl) rfl hs.size)
    · intro a wb wa hs1 hs hf hd hrun
      have t7 := hd.at 16 7 (by kernel_rfl)
      have t60 := hd.at 14 60 (by kernel_rfl)
      subst hrun
      have q18 : IsMem (Bx N w.heap.size (w.heap.size + 3)) _ (a.eval (.tmp 60)) m1 := t60
      obtain ⟨u1, u2, u3, u4, hv, _⟩ := q18.opened
      obtain ⟨bk, hp, hk, hBk⟩ := t7
      exact ⟨_, o_store rfl hp hv hBk (by kernel_rfl) (by simp [Value.cells, Value.oneCell']) (by first | (simp [Value.cells]; done) | (simp [Value.cells]; omega)) rfl, Since.put hs (.inl hk)⟩
    · intro a wb wa hs1 hs hf hd
      have t61 : a.eval (.tmp 61) = _ := hd.at 15 61 (by kernel_rfl)
      exact plain_ rfl (late_eqv (o_assign rfl t61) rfl)
  case hG => exact ⟨stable_eqv _, stable_eqv _, stable_eqv _, stable_eqv _, stable_eqv _, stable_eqv _, stable_eqv _, stable_eqv _, stable_eqv _, stable_eqv _, stable_eqv _, stable_eqv _, stable_isTupN _ _ _, stable_isTupN _ _ _, stable_isMemN _ _, stable_eqv _, stable_isNew _ _ _, stable_any, stable_eqv _, trivial⟩
  case hc => kernel_rfl
  case hfin =>
    intro v9 hs9
    rintro _ rfl _ rfl _ rfl _ rfl _ rfl _ rfl _ rfl _ rfl _ rfl _ rfl _ rfl _ rfl _ ⟨p12, rfl, h12⟩ _ ⟨p13, rfl, h13⟩ p14 h14 _ rfl _ ⟨bn16, rfl, hbn16, hBn16⟩ _ rfl
    obtain ⟨u1, u2, u3, u4, rfl, uw, ug⟩ := IsMem.opened h14
    rintro v9w ⟨o1, v1, ho1, hr1, rfl⟩
    cases ho1
    simp only [Act.put, List.setIfInBounds_toArray, List.set_cons_zero, List.set_cons_succ] at hr1 ⊢
    cases (hr1.symm.trans (o_store (v := .agg #[.slice u1 m1.W.length u2, .slice u3 m1.G.length u4, .bool m1.bad]) (new := #[.slice u1 m1.W.length u2, .slice u3 m1.G.length u4, .bool m1.bad]) rfl rfl rfl ((hBn16)) (by kernel_rfl) (by simp [Value.cells, Value.oneCell']) (by first | (simp [Value.cells]; done) | (simp [Value.cells]; omega)) (by first | rfl | kernel_rfl)))
    obtain ⟨w1, hw1⟩ : ∃ x, x = (put v9 bn16 (.cells #[.slice u1 m1.W.length u2, .slice u3 m1.G.length u4, .bool m1.bad] 50 (0, 0))) := ⟨_, rfl⟩
    have hW1 : Ext W9 v9 := Since.to_ext hs9
    have hb1 : Ext w w1 := by rw [hw1]; exact Since.to_ext ((Since.of_ext (hX9.trans hW1)).put (.inl (by have := hX9.size; omega)))
    have hk1 : Keep (Bx N w.heap.size (w.heap.size + 3)) w w1 := by rw [hw1]; exact ((hK9.ext hW1).put _ _ (.inl (by omega)))
    have hq1 : ∀ M v l, IsInts M v9 v l → IsInts M w1 v l := by intro M v l h; rw [hw1]; exact h.putNew hBn16 zero50
    have B0_1 : Box w1 (w.heap.size) #[.slice aw s.M.W.length cw, .slice ag s.M.G.length cg, .bool s.M.bad, .slice ac s.C.length cc, .slice al s.L.length cl] 83 := by rw [hw1]; exact (box_putOther (D0_9.since hs9 rfl) (by omega))
    have B1_1 : Box w1 (w.heap.size + 1) #[.int .i64 op, .int .i64 2, .int .i64 q0, .int .i64 q1, .int .i64 q2, .int .i64 q3, .int .i64 q4, .int .i64 q5, .int .i64 q6, .int .i64 q7, .slice ga fS.length gc] 95 := by rw [hw1]; exact (box_putOther (D1_9.since hs9 rfl) (by omega))
    have B2_1 : Box w1 (w.heap.size + 1 + 1) #[.slice none 0 0, .slice none 0 0, .bool false, .slice none 0 0, .slice none 0 0] 83 := by rw [hw1]; exact (box_putOther (D2_9.since hs9 rfl) (by omega))
    have BN9_16_1 : Box w1 (bn16) #[.slice u1 m1.W.length u2, .slice u3 m1.G.length u4, .bool m1.bad] 50 := by rw [hw1]; exact (hBn16).put
    have s1 : W9.heap.size ≤ w1.heap.size := by rw [hw1]; have := hW1.size; simpa [put] using this
    rw [← hw1]
    clear hw1
    obtain ⟨c0_0, c0_1, c0_2, c0_3, c0_4, d0_0, d0_1, d0_2, d0_3, d0_4⟩ := cells5 B0_1
    have z0 : w.heap.size < w1.heap.size := B0_1.lt
    obtain ⟨⟨c1_0, c1_1, c1_2, c1_3, c1_4, c1_5, c1_6, c1_7, c1_8, c1_9, c1_10⟩, d1_0, d1_1, d1_2, d1_3, d1_4, d1_5, d1_6, d1_7, d1_8, d1_9, d1_10⟩ := cells11 B1_1
    have z1 : w.heap.size + 1 < w1.heap.size := B1_1.lt
    obtain ⟨c2_0, c2_1, c2_2, c2_3, c2_4, d2_0, d2_1, d2_2, d2_3, d2_4⟩ := cells5 B2_1
    have z2 : w.heap.size + 1 + 1 < w1.heap.size := B2_1.lt
    obtain ⟨cN9_16_0, cN9_16_1, cN9_16_2, dN9_16_0, dN9_16_1, dN9_16_2⟩ := cells3 BN9_16_1
    have zN9_16 : bn16 < w1.heap.size := BN9_16_1.lt
    have mw := hq1 _ _ _ uw
    have mg := hq1 _ _ _ ug
    clear hq1
    go_wp2_with (fail)
    go_at_call 165
    refine (on4_ (Bx N w.heap.size (w.heap.size + 3)) _ _ (memS s m1) id 0 ⟨op, 2, [q0, q1, q2, q3, q4, q5, q6, q7], fS⟩ _ (IsSys.mk rfl (IsInts.keep mw keq) (IsInts.keep mg keq) (IsCores.keep hcB keq) (IsEvs.keep hlB keq) : IsSys (Bx N w.heap.size (w.heap.size + 3)) _ _ (memS s m1)) (IsFrame.ofLit (IsInts.keep fsB keq) : IsFrame _ _ _ ⟨op, 2, [q0, q1, q2, q3, q4, q5, q6, q7], fS⟩) (Bx.le hN (by first | omega | (simp <;> omega))) hC hFm).calls.mono ?_
    rintro e w2 ⟨_, rfl, hb2, hu2⟩
    obtain ⟨r1, r2, r3, r4, r5, r6, r7, r8, rfl, rW, rG, rC, rL⟩ := hu2.opened
    have B0_2 : Box w2 (w.heap.size) #[.slice u1 m1.W.length u2, .slice u3 m1.G.length u4, .bool m1.bad, .slice ac s.C.length cc, .slice al s.L.length cl] 83 := (((B0_1.setCell _).setCell _).setCell _).ext hb2
    have B1_2 : Box w2 (w.heap.size + 1) #[.int .i64 op, .int .i64 2, .int .i64 q0, .int .i64 q1, .int .i64 q2, .int .i64 q3, .int .i64 q4, .int .i64 q5, .int .i64 q6, .int .i64 q7, .slice ga fS.length gc] 95 := (((B1_1.setOther (by first | omega | (simp <;> omega)) _).setOther (by first | omega | (simp <;> omega)) _).setOther (by first | omega | (simp <;> omega)) _).ext hb2
    have B2_2 : Box w2 (w.heap.size + 1 + 1) #[.slice none 0 0, .slice none 0 0, .bool false, .slice none 0 0, .slice none 0 0] 83 := (((B2_1.setOther (by first | omega | (simp <;> omega)) _).setOther (by first | omega | (simp <;> omega)) _).setOther (by first | omega | (simp <;> omega)) _).ext hb2
    have BN9_16_2 : Box w2 (bn16) #[.slice u1 m1.W.length u2, .slice u3 m1.G.length u4, .bool m1.bad] 50 := (((BN9_16_1.setOther (by first | omega | (simp <;> omega)) _).setOther (by first | omega | (simp <;> omega)) _).setOther (by first | omega | (simp <;> omega)) _).ext hb2
    clear c0_0 c0_1 c0_2 c0_3 c0_4 d0_0 d0_1 d0_2 d0_3 d0_4 z0 c1_0 c1_1 c1_2 c1_3 c1_4 c1_5 c1_6 c1_7 c1_8 c1_9 c1_10 d1_0 d1_1 d1_2 d1_3 d1_4 d1_5 d1_6 d1_7 d1_8 d1_9 d1_10 z1 c2_0 c2_1 c2_2 c2_3 c2_4 d2_0 d2_1 d2_2 d2_3 d2_4 z2 cN9_16_0 cN9_16_1 cN9_16_2 dN9_16_0 dN9_16_1 dN9_16_2 zN9_16
    have s2 : w1.heap.size ≤ w2.heap.size := (by have h := hb2.size; first | omega | (simp at h; omega))
    obtain ⟨c0_0, c0_1, c0_2, c0_3, c0_4, d0_0, d0_1, d0_2, d0_3, d0_4⟩ := cells5 B0_2
    have z0 : w.heap.size < w2.heap.size := B0_2.lt
    obtain ⟨⟨c1_0, c1_1, c1_2, c1_3, c1_4, c1_5, c1_6, c1_7, c1_8, c1_9, c1_10⟩, d1_0, d1_1, d1_2, d1_3, d1_4, d1_5, d1_6, d1_7, d1_8, d1_9, d1_10⟩ := cells11 B1_2
    have z1 : w.heap.size + 1 < w2.heap.size := B1_2.lt
    obtain ⟨c2_0, c2_1, c2_2, c2_3, c2_4, d2_0, d2_1, d2_2, d2_3, d2_4⟩ := cells5 B2_2
    have z2 : w.heap.size + 1 + 1 < w2.heap.size := B2_2.lt
    obtain ⟨cN9_16_0, cN9_16_1, cN9_16_2, dN9_16_0, dN9_16_1, dN9_16_2⟩ := cells3 BN9_16_2
    have zN9_16 : bn16 < w2.heap.size := BN9_16_2.lt
    go_wp2
    exact bodyPost_ret (ret_cell (cs := #[.slice r1 (setS (memS s m1) id (pcF ⟨op, 2, [q0, q1, q2, q3, q4, q5, q6, q7], fS⟩ 0)).M.W.length r2, .slice r3 (setS (memS s m1) id (pcF ⟨op, 2, [q0, q1, q2, q3, q4, q5, q6, q7], fS⟩ 0)).M.G.length r4, .bool (setS (memS s m1) id (pcF ⟨op, 2, [q0, q1, q2, q3, q4, q5, q6, q7], fS⟩ 0)).M.bad, .slice r5 (setS (memS s m1) id (pcF ⟨op, 2, [q0, q1, q2, q3, q4, q5, q6, q7], fS⟩ 0)).C.length r6, .slice r7 (setS (memS s m1) id (pcF ⟨op, 2, [q0, q1, q2, q3, q4, q5, q6, q7], fS⟩ 0)).L.length r8]) (((((B2_2.setCell _).setCell _).setCell _).setCell _).setCell _) Proofs.Try.results153 rfl Proofs.Try.underlying83 rfl (by kernel_rfl)) rfl ⟨_, rfl, exn, IsSys.less (IsSys.keep hu2 keq) (fun _ _ hn => .inl hn)⟩
set_option maxHeartbeats 1000000 in
set_option maxRecDepth 100000 in
theorem push_o (N : Nat → Prop) (s : SysD) (id op pc q0 q1 q2 q3 q4 q5 q6 q7 : Int) (fS : List Int) (aw ag ac al ga : Option Addr) (cw cg cc cl gc : Nat) (w : World) (hw : IsInts N w (.slice aw s.M.W.length cw) s.M.W) (hg : IsInts N w (.slice ag s.M.G.length cg) s.M.G) (hc : IsCores N w (.slice ac s.C.length cc) s.C) (hl : IsEvs N w (.slice al s.L.length cl) s.L) (fs : IsInts N w (.slice ga fS.length gc) fS)
    (hN : ∀ b, N b → b < w.heap.size) (hC : s.C.length ≤ 100000) (hFm : ∀ (i : Nat) c, s.C[i]? = some c → c.F.length ≤ 100000) (hfit : Fits s.M) (p0 : (pc == 0) = false) (p1 : (pc == 1) = false) (p2 : (pc == 2) = false) (p3 : (pc != 0) = true) (p4 : (pc != 2) = true) :
    Gives Proofs.Try.prog 153 #[.agg #[.slice aw s.M.W.length cw, .slice ag s.M.G.length cg, .bool s.M.bad, .slice ac s.C.length cc, .slice al s.L.length cl], .int .i64 id, .agg #[.int .i64 op, .int .i64 pc, .int .i64 q0, .int .i64 q1, .int .i64 q2, .int .i64 q3, .int .i64 q4, .int .i64 q5, .int .i64 q6, .int .i64 q7, .slice ga fS.length gc]] w (fun r w' => IsSys N w' r (s)) := by
  have hwB := hw.bxn (hi := w.heap.size + 3)
  have hgB := hg.bxn (hi := w.heap.size + 3)
  have hcB := hc.bxn (hi := w.heap.size + 3)
  have hlB := hl.bxn (hi := w.heap.size + 3)
  have fsB := fs.bxn (hi := w.heap.size + 3)
  go_enter Proofs.Try.func153, Proofs.Try.ntmps153
  go_wp2
  exact bodyPost_ret (ret_cell (cs := #[.slice aw s.M.W.length cw, .slice ag s.M.G.length cg, .bool s.M.bad, .slice ac s.C.length cc, .slice al s.L.length cl]) (Box.newAt _ _ _ (by first | rfl | simp)) Proofs.Try.results153 rfl Proofs.Try.underlying83 rfl (by kernel_rfl)) rfl ⟨_, rfl, exn, IsSys.mk rfl (hw.ext exn) (hg.ext exn) (IsCores.keep hc (show Ext w _ from exn).keep) (IsEvs.keep hl (show Ext w _ from exn).keep)⟩
theorem fits_cas {m : Arena} {x old new : Int} (h : Fits m) : Fits (casD m x old new) := by
  unfold casD
  split
  · unfold storeD Fits
    split
    · exact h
    · simpa [Fits] using h
  · exact h
theorem pop_ (N : Nat → Prop) (va vf : Value) (s : SysD) (id : Int) (f : FrameD) (w : World) (h : IsSys N w va s) (hf : IsFrame N w vf f) (hN : ∀ b, N b → b < w.heap.size) (hC : s.C.length ≤ 100000) (hFm : ∀ (i : Nat) c, s.C[i]? = some c → c.F.length ≤ 100000) (hfit : Fits s.M) (hL : s.L.length ≤ 100000) :
    Gives Proofs.Try.prog 152 #[va, .int .i64 id, vf] w (fun r w' => IsSys N w' r (popS s id f)) := by
  obtain ⟨aw, cw, ag, cg, ac, cc, al, cl, rfl, hw, hg, hc, hl⟩ := h.opened
  obtain ⟨op, pc, q0, q1, q2, q3, q4, q5, q6, q7, S, ga, gc, rfl, rfl, fs⟩ := hf.lit
  by_cases h0 : pc = 0
  · subst h0
    have e : popS s id ⟨op, 0, [q0, q1, q2, q3, q4, q5, q6, q7], S⟩ = if idx (loadD s.M 0) = 0 then backS (logD (memS s (touchD s.M 0)) id 9 0 0 0) id 0 2 else onS s id (touchD s.M 0) ⟨op, 0, [loadD s.M 0, q1, q2, q3, q4, q5, q6, q7], S⟩ 1 := rfl
    by_cases hi : idx (loadD s.M 0) = 0
    · rw [e, if_pos hi]
      exact pop_z0 N s id op q0 q1 q2 q3 q4 q5 q6 q7 S aw ag ac al ga cw cg cc cl gc w hw hg hc hl fs hN hC hFm hfit hL (by simpa using hi)
    · rw [e, if_neg hi]
      exact pop_n0 N s id op q0 q1 q2 q3 q4 q5 q6 q7 S aw ag ac al ga cw cg cc cl gc w hw hg hc hl fs hN hC hFm hfit (by simpa using hi)
  · by_cases h1 : pc = 1
    · subst h1
      exact pop_1 N s id op q0 q1 q2 q3 q4 q5 q6 q7 S aw ag ac al ga cw cg cc cl gc w hw hg hc hl fs hN hC hFm hfit
    · by_cases h2 : pc = 2
      · subst h2
        have e : popS s id ⟨op, 2, [q0, q1, q2, q3, q4, q5, q6, q7], S⟩ = if casIs s.M 0 q0 then backS (memS s (turnMD (casD s.M 0 q0 (nextW q0 q1 0)) (idx q0) 1)) id (idx q0) 0 else onS s id (casD s.M 0 q0 (nextW q0 q1 0)) ⟨op, 2, [q0, q1, q2, q3, q4, q5, q6, q7], S⟩ 0 := rfl
        cases hcas : casIs s.M 0 q0 with
        | true =>
          rw [e, if_pos hcas]
          exact pop_y2 N s id op q0 q1 q2 q3 q4 q5 q6 q7 S aw ag ac al ga cw cg cc cl gc w hw hg hc hl fs hN hC hFm hfit hcas (fits_cas hfit)
        | false =>
          rw [e, if_neg (by rw [hcas]; decide)]
          exact pop_n2 N s id op q0 q1 q2 q3 q4 q5 q6 q7 S aw ag ac al ga cw cg cc cl gc w hw hg hc hl fs hN hC hFm hfit hcas
      · have e : popS s id ⟨op, pc, [q0, q1, q2, q3, q4, q5, q6, q7], S⟩ = s := by unfold popS; rw [if_neg h0, if_neg h1, if_neg h2]
        rw [e]
        exact pop_o N s id op pc q0 q1 q2 q3 q4 q5 q6 q7 S aw ag ac al ga cw cg cc cl gc w hw hg hc hl fs hN hC hFm hfit (by simpa using h0) (by simpa using h1) (by simpa using h2) (by simpa using h0) (by simpa using h2)
theorem push_ (N : Nat → Prop) (va vf : Value) (s : SysD) (id : Int) (f : FrameD) (w : World) (h : IsSys N w va s) (hf : IsFrame N w vf f) (hN : ∀ b, N b → b < w.heap.size) (hC : s.C.length ≤ 100000) (hFm : ∀ (i : Nat) c, s.C[i]? = some c → c.F.length ≤ 100000) (hfit : Fits s.M) :
    Gives Proofs.Try.prog 153 #[va, .int .i64 id, vf] w (fun r w' => IsSys N w' r (pushS s id f)) := by
  obtain ⟨aw, cw, ag, cg, ac, cc, al, cl, rfl, hw, hg, hc, hl⟩ := h.opened
  obtain ⟨op, pc, q0, q1, q2, q3, q4, q5, q6, q7, S, ga, gc, rfl, rfl, fs⟩ := hf.lit
  by_cases h0 : pc = 0
  · subst h0
    exact push_n0 N s id op q0 q1 q2 q3 q4 q5 q6 q7 S aw ag ac al ga cw cg cc cl gc w hw hg hc hl fs hN hC hFm hfit
  · by_cases h1 : pc = 1
    · subst h1
      exact push_1 N s id op q0 q1 q2 q3 q4 q5 q6 q7 S aw ag ac al ga cw cg cc cl gc w hw hg hc hl fs hN hC hFm hfit
    · by_cases h2 : pc = 2
      · subst h2
        have e : pushS s id ⟨op, 2, [q0, q1, q2, q3, q4, q5, q6, q7], S⟩ = if casIs s.M 0 q1 then backS (memS s (turnMD (casD s.M 0 q1 (nextW q1 q0 0)) q0 0)) id q0 0 else onS s id (casD s.M 0 q1 (nextW q1 q0 0)) ⟨op, 2, [q0, q1, q2, q3, q4, q5, q6, q7], S⟩ 0 := rfl
        cases hcas : casIs s.M 0 q1 with
        | true =>
          rw [e, if_pos hcas]
          exact push_y2 N s id op q0 q1 q2 q3 q4 q5 q6 q7 S aw ag ac al ga cw cg cc cl gc w hw hg hc hl fs hN hC hFm hfit hcas (fits_cas hfit)
        | false =>
          rw [e, if_neg (by rw [hcas]; decide)]
          exact push_n2 N s id op q0 q1 q2 q3 q4 q5 q6 q7 S aw ag ac al ga cw cg cc cl gc w hw hg hc hl fs hN hC hFm hfit hcas
      · have e : pushS s id ⟨op, pc, [q0, q1, q2, q3, q4, q5, q6, q7], S⟩ = s := by unfold pushS; rw [if_neg h0, if_neg h1, if_neg h2]
        rw [e]
        exact push_o N s id op pc q0 q1 q2 q3 q4 q5 q6 q7 S aw ag ac al ga cw cg cc cl gc w hw hg hc hl fs hN hC hFm hfit (by simpa using h0) (by simpa using h1) (by simpa using h2) (by simpa using h0) (by simpa using h2)
set_option maxHeartbeats 1000000 in
set_option maxRecDepth 100000 in
theorem step4_none (N : Nat → Prop) (s : SysD) (id  : Int) (aw ag ac al : Option Addr) (cw cg cc cl : Nat) (w : World) (hw : IsInts N w (.slice aw s.M.W.length cw) s.M.W) (hg : IsInts N w (.slice ag s.M.G.length cg) s.M.G) (hc : IsCores N w (.slice ac s.C.length cc) s.C) (hl : IsEvs N w (.slice al s.L.length cl) s.L)
    (hN : ∀ b, N b → b < w.heap.size) (hC : s.C.length ≤ 100000) (hFm : ∀ (i : Nat) c, s.C[i]? = some c → c.F.length ≤ 100000) (hfit : Fits s.M) (hL : s.L.length ≤ 100000) (ht : topD s id = none)  :
    Gives Proofs.Try.prog 111 #[.agg #[.slice aw s.M.W.length cw, .slice ag s.M.G.length cg, .bool s.M.bad, .slice ac s.C.length cc, .slice al s.L.length cl], .int .i64 id] w (fun r w' => IsSys N w' r (s)) := by
  have hwB := hw.bxn (hi := w.heap.size + 2)
  have hgB := hg.bxn (hi := w.heap.size + 2)
  have hcB := hc.bxn (hi := w.heap.size + 2)
  have hlB := hl.bxn (hi := w.heap.size + 2)
  have h : IsSys N w (.agg #[.slice aw s.M.W.length cw, .slice ag s.M.G.length cg, .bool s.M.bad, .slice ac s.C.length cc, .slice al s.L.length cl]) s := IsSys.mk rfl hw hg hc hl
  have kt : ∀ w' : World, Ext w w' → Gives Proofs.Try.prog 81 #[.agg #[.slice aw s.M.W.length cw, .slice ag s.M.G.length cg, .bool s.M.bad, .slice ac s.C.length cc, .slice al s.L.length cl], .int .i64 id] w' (fun r w' => ∃ u, r = .tuple #[u, .bool (topD s id).isSome] ∧ IsFrame (Bx N w.heap.size (w.heap.size + 2)) w' u (topF s id)) := fun w' e => top_ (Bx N w.heap.size (w.heap.size + 2)) _ s id w' ((IsSys.bxn h).ext e)
  rw [show (topD s id).isSome = false by rw [ht]; rfl] at kt
  obtain ⟨tf, htf⟩ : ∃ f, topF s id = f := ⟨_, rfl⟩
  rw [htf] at kt
  clear htf
  clear ht h
  go_enter Proofs.Try.func111, Proofs.Try.ntmps111
  go_wp2_with (fail)
  go_at_call 81
  refine (kt _ exq).calls.mono ?_
  rintro e w1 ⟨_, rfl, hb1, u, rfl, hu1⟩
  obtain ⟨fa, fc, rfl, f8, fs1⟩ := hu1.opened
  have B0_1 : Box w1 (w.heap.size) #[.slice aw s.M.W.length cw, .slice ag s.M.G.length cg, .bool s.M.bad, .slice ac s.C.length cc, .slice al s.L.length cl] 83 := ((Box.newAt _ _ _ (by first | rfl | simp)).alloc _).ext hb1
  have B1_1 : Box w1 (w.heap.size + 1) #[.slice none 0 0, .slice none 0 0, .bool false, .slice none 0 0, .slice none 0 0] 83 := (Box.newAt _ _ _ (by first | rfl | simp)).ext hb1
  have s1 : w.heap.size + 2 ≤ w1.heap.size := (by have h := hb1.size; first | omega | (simp at h; omega))
  obtain ⟨c0_0, c0_1, c0_2, c0_3, c0_4, d0_0, d0_1, d0_2, d0_3, d0_4⟩ := cells5 B0_1
  have z0 : w.heap.size < w1.heap.size := B0_1.lt
  obtain ⟨c1_0, c1_1, c1_2, c1_3, c1_4, d1_0, d1_1, d1_2, d1_3, d1_4⟩ := cells5 B1_1
  have z1 : w.heap.size + 1 < w1.heap.size := B1_1.lt
  go_wp2
  exact bodyPost_ret (ret_cell (cs := #[.slice aw s.M.W.length cw, .slice ag s.M.G.length cg, .bool s.M.bad, .slice ac s.C.length cc, .slice al s.L.length cl]) ((((((B1_1.setCell _).setCell _).setCell _).setCell _).setCell _).alloc _) Proofs.Try.results111 rfl Proofs.Try.underlying83 rfl (by kernel_rfl)) rfl ⟨_, rfl, exn, IsSys.mk rfl (hw.ext exn) (hg.ext exn) (IsCores.keep hc (show Ext w _ from exn).keep) (IsEvs.keep hl (show Ext w _ from exn).keep)⟩
set_option maxHeartbeats 1000000 in
set_option maxRecDepth 100000 in
theorem step4_p1 (N : Nat → Prop) (s : SysD) (id pc q0 q1 q2 q3 q4 q5 q6 q7 : Int) (fS : List Int) (aw ag ac al : Option Addr) (cw cg cc cl : Nat) (w : World) (hw : IsInts N w (.slice aw s.M.W.length cw) s.M.W) (hg : IsInts N w (.slice ag s.M.G.length cg) s.M.G) (hc : IsCores N w (.slice ac s.C.length cc) s.C) (hl : IsEvs N w (.slice al s.L.length cl) s.L)
    (hN : ∀ b, N b → b < w.heap.size) (hC : s.C.length ≤ 100000) (hFm : ∀ (i : Nat) c, s.C[i]? = some c → c.F.length ≤ 100000) (hfit : Fits s.M) (hL : s.L.length ≤ 100000) (ht : topD s id = some ⟨1, pc, [q0, q1, q2, q3, q4, q5, q6, q7], fS⟩)  :
    Gives Proofs.Try.prog 111 #[.agg #[.slice aw s.M.W.length cw, .slice ag s.M.G.length cg, .bool s.M.bad, .slice ac s.C.length cc, .slice al s.L.length cl], .int .i64 id] w (fun r w' => IsSys N w' r (popS s id ⟨1, pc, [q0, q1, q2, q3, q4, q5, q6, q7], fS⟩)) := by
  have hwB := hw.bxn (hi := w.heap.size + 2)
  have hgB := hg.bxn (hi := w.heap.size + 2)
  have hcB := hc.bxn (hi := w.heap.size + 2)
  have hlB := hl.bxn (hi := w.heap.size + 2)
  have h : IsSys N w (.agg #[.slice aw s.M.W.length cw, .slice ag s.M.G.length cg, .bool s.M.bad, .slice ac s.C.length cc, .slice al s.L.length cl]) s := IsSys.mk rfl hw hg hc hl
  have kt : ∀ w' : World, Ext w w' → Gives Proofs.Try.prog 81 #[.agg #[.slice aw s.M.W.length cw, .slice ag s.M.G.length cg, .bool s.M.bad, .slice ac s.C.length cc, .slice al s.L.length cl], .int .i64 id] w' (fun r w' => ∃ u, r = .tuple #[u, .bool (topD s id).isSome] ∧ IsFrame (Bx N w.heap.size (w.heap.size + 2)) w' u (topF s id)) := fun w' e => top_ (Bx N w.heap.size (w.heap.size + 2)) _ s id w' ((IsSys.bxn h).ext e)
  rw [show (topD s id).isSome = true by rw [ht]; rfl] at kt
  rw [show topF s id = ⟨1, pc, [q0, q1, q2, q3, q4, q5, q6, q7], fS⟩ by unfold topF; rw [ht]; rfl] at kt
  clear ht h
  go_enter Proofs.Try.func111, Proofs.Try.ntmps111
  go_wp2_with (fail)
  go_at_call 81
  refine (kt _ exq).calls.mono ?_
  rintro e w1 ⟨_, rfl, hb1, u, rfl, hu1⟩
  obtain ⟨ga, gc, rfl, fs1⟩ := IsFrame.litv hu1
  have B0_1 : Box w1 (w.heap.size) #[.slice aw s.M.W.length cw, .slice ag s.M.G.length cg, .bool s.M.bad, .slice ac s.C.length cc, .slice al s.L.length cl] 83 := ((Box.newAt _ _ _ (by first | rfl | simp)).alloc _).ext hb1
  have B1_1 : Box w1 (w.heap.size + 1) #[.slice none 0 0, .slice none 0 0, .bool false, .slice none 0 0, .slice none 0 0] 83 := (Box.newAt _ _ _ (by first | rfl | simp)).ext hb1
  have s1 : w.heap.size + 2 ≤ w1.heap.size := (by have h := hb1.size; first | omega | (simp at h; omega))
  obtain ⟨c0_0, c0_1, c0_2, c0_3, c0_4, d0_0, d0_1, d0_2, d0_3, d0_4⟩ := cells5 B0_1
  have z0 : w.heap.size < w1.heap.size := B0_1.lt
  obtain ⟨c1_0, c1_1, c1_2, c1_3, c1_4, d1_0, d1_1, d1_2, d1_3, d1_4⟩ := cells5 B1_1
  have z1 : w.heap.size + 1 < w1.heap.size := B1_1.lt
  go_wp2_with (fail)
  go_at_call 152
  refine (pop_ (Bx N w.heap.size (w.heap.size + 2)) _ _ s id ⟨1, pc, [q0, q1, q2, q3, q4, q5, q6, q7], fS⟩ _ (IsSys.mk rfl (IsInts.keep hwB keq) (IsInts.keep hgB keq) (IsCores.keep hcB keq) (IsEvs.keep hlB keq) : IsSys (Bx N w.heap.size (w.heap.size + 2)) _ _ s) (IsFrame.ofLit (IsInts.keep fs1 keq)) (Bx.le hN (by first | omega | (simp <;> omega))) hC hFm hfit hL).calls.mono ?_
  rintro e w2 ⟨_, rfl, hb2, hu2⟩
  obtain ⟨r1, r2, r3, r4, r5, r6, r7, r8, rfl, rW, rG, rC, rL⟩ := hu2.opened
  have B0_2 : Box w2 (w.heap.size) #[.slice aw s.M.W.length cw, .slice ag s.M.G.length cg, .bool s.M.bad, .slice ac s.C.length cc, .slice al s.L.length cl] 83 := (B0_1.alloc _).ext hb2
  have B1_2 : Box w2 (w.heap.size + 1) #[.slice none 0 0, .slice none 0 0, .bool false, .slice none 0 0, .slice none 0 0] 83 := (B1_1.alloc _).ext hb2
  have B2_2 : Box w2 (w1.heap.size) #[.int .i64 1, .int .i64 pc, .int .i64 q0, .int .i64 q1, .int .i64 q2, .int .i64 q3, .int .i64 q4, .int .i64 q5, .int .i64 q6, .int .i64 q7, .slice ga fS.length gc] 95 := (Box.newAt _ _ _ (by first | rfl | simp)).ext hb2
  clear c0_0 c0_1 c0_2 c0_3 c0_4 d0_0 d0_1 d0_2 d0_3 d0_4 z0 c1_0 c1_1 c1_2 c1_3 c1_4 d1_0 d1_1 d1_2 d1_3 d1_4 z1
  have s2 : w1.heap.size + 1 ≤ w2.heap.size := (by have h := hb2.size; first | omega | (simp at h; omega))
  obtain ⟨c0_0, c0_1, c0_2, c0_3, c0_4, d0_0, d0_1, d0_2, d0_3, d0_4⟩ := cells5 B0_2
  have z0 : w.heap.size < w2.heap.size := B0_2.lt
  obtain ⟨c1_0, c1_1, c1_2, c1_3, c1_4, d1_0, d1_1, d1_2, d1_3, d1_4⟩ := cells5 B1_2
  have z1 : w.heap.size + 1 < w2.heap.size := B1_2.lt
  obtain ⟨⟨c2_0, c2_1, c2_2, c2_3, c2_4, c2_5, c2_6, c2_7, c2_8, c2_9, c2_10⟩, d2_0, d2_1, d2_2, d2_3, d2_4, d2_5, d2_6, d2_7, d2_8, d2_9, d2_10⟩ := cells11 B2_2
  have z2 : w1.heap.size < w2.heap.size := B2_2.lt
  go_wp2
  exact bodyPost_ret (ret_cell (cs := #[.slice r1 (popS s id ⟨1, pc, [q0, q1, q2, q3, q4, q5, q6, q7], fS⟩).M.W.length r2, .slice r3 (popS s id ⟨1, pc, [q0, q1, q2, q3, q4, q5, q6, q7], fS⟩).M.G.length r4, .bool (popS s id ⟨1, pc, [q0, q1, q2, q3, q4, q5, q6, q7], fS⟩).M.bad, .slice r5 (popS s id ⟨1, pc, [q0, q1, q2, q3, q4, q5, q6, q7], fS⟩).C.length r6, .slice r7 (popS s id ⟨1, pc, [q0, q1, q2, q3, q4, q5, q6, q7], fS⟩).L.length r8]) (((((B1_2.setCell _).setCell _).setCell _).setCell _).setCell _) Proofs.Try.results111 rfl Proofs.Try.underlying83 rfl (by kernel_rfl)) rfl ⟨_, rfl, exn, IsSys.less (IsSys.keep hu2 keq) (fun _ _ hn => .inl hn)⟩
set_option maxHeartbeats 1000000 in
set_option maxRecDepth 100000 in
theorem step4_p2 (N : Nat → Prop) (s : SysD) (id pc q0 q1 q2 q3 q4 q5 q6 q7 : Int) (fS : List Int) (aw ag ac al : Option Addr) (cw cg cc cl : Nat) (w : World) (hw : IsInts N w (.slice aw s.M.W.length cw) s.M.W) (hg : IsInts N w (.slice ag s.M.G.length cg) s.M.G) (hc : IsCores N w (.slice ac s.C.length cc) s.C) (hl : IsEvs N w (.slice al s.L.length cl) s.L)
    (hN : ∀ b, N b → b < w.heap.size) (hC : s.C.length ≤ 100000) (hFm : ∀ (i : Nat) c, s.C[i]? = some c → c.F.length ≤ 100000) (hfit : Fits s.M) (hL : s.L.length ≤ 100000) (ht : topD s id = some ⟨2, pc, [q0, q1, q2, q3, q4, q5, q6, q7], fS⟩)  :
    Gives Proofs.Try.prog 111 #[.agg #[.slice aw s.M.W.length cw, .slice ag s.M.G.length cg, .bool s.M.bad, .slice ac s.C.length cc, .slice al s.L.length cl], .int .i64 id] w (fun r w' => IsSys N w' r (pushS s id ⟨2, pc, [q0, q1, q2, q3, q4, q5, q6, q7], fS⟩)) := by
  have hwB := hw.bxn (hi := w.heap.size + 2)
  have hgB := hg.bxn (hi := w.heap.size + 2)
  have hcB := hc.bxn (hi := w.heap.size + 2)
  have hlB := hl.bxn (hi := w.heap.size + 2)
  have h : IsSys N w (.agg #[.slice aw s.M.W.length cw, .slice ag s.M.G.length cg, .bool s.M.bad, .slice ac s.C.length cc, .slice al s.L.length cl]) s := IsSys.mk rfl hw hg hc hl
  have kt : ∀ w' : World, Ext w w' → Gives Proofs.Try.prog 81 #[.agg #[.slice aw s.M.W.length cw, .slice ag s.M.G.length cg, .bool s.M.bad, .slice ac s.C.length cc, .slice al s.L.length cl], .int .i64 id] w' (fun r w' => ∃ u, r = .tuple #[u, .bool (topD s id).isSome] ∧ IsFrame (Bx N w.heap.size (w.heap.size + 2)) w' u (topF s id)) := fun w' e => top_ (Bx N w.heap.size (w.heap.size + 2)) _ s id w' ((IsSys.bxn h).ext e)
  rw [show (topD s id).isSome = true by rw [ht]; rfl] at kt
  rw [show topF s id = ⟨2, pc, [q0, q1, q2, q3, q4, q5, q6, q7], fS⟩ by unfold topF; rw [ht]; rfl] at kt
  clear ht h
  go_enter Proofs.Try.func111, Proofs.Try.ntmps111
  go_wp2_with (fail)
  go_at_call 81
  refine (kt _ exq).calls.mono ?_
  rintro e w1 ⟨_, rfl, hb1, u, rfl, hu1⟩
  obtain ⟨ga, gc, rfl, fs1⟩ := IsFrame.litv hu1
  have B0_1 : Box w1 (w.heap.size) #[.slice aw s.M.W.length cw, .slice ag s.M.G.length cg, .bool s.M.bad, .slice ac s.C.length cc, .slice al s.L.length cl] 83 := ((Box.newAt _ _ _ (by first | rfl | simp)).alloc _).ext hb1
  have B1_1 : Box w1 (w.heap.size + 1) #[.slice none 0 0, .slice none 0 0, .bool false, .slice none 0 0, .slice none 0 0] 83 := (Box.newAt _ _ _ (by first | rfl | simp)).ext hb1
  have s1 : w.heap.size + 2 ≤ w1.heap.size := (by have h := hb1.size; first | omega | (simp at h; omega))
  obtain ⟨c0_0, c0_1, c0_2, c0_3, c0_4, d0_0, d0_1, d0_2, d0_3, d0_4⟩ := cells5 B0_1
  have z0 : w.heap.size < w1.heap.size := B0_1.lt
  obtain ⟨c1_0, c1_1, c1_2, c1_3, c1_4, d1_0, d1_1, d1_2, d1_3, d1_4⟩ := cells5 B1_1
  have z1 : w.heap.size + 1 < w1.heap.size := B1_1.lt
  go_wp2_with (fail)
  go_at_call 153
  refine (push_ (Bx N w.heap.size (w.heap.size + 2)) _ _ s id ⟨2, pc, [q0, q1, q2, q3, q4, q5, q6, q7], fS⟩ _ (IsSys.mk rfl (IsInts.keep hwB keq) (IsInts.keep hgB keq) (IsCores.keep hcB keq) (IsEvs.keep hlB keq) : IsSys (Bx N w.heap.size (w.heap.size + 2)) _ _ s) (IsFrame.ofLit (IsInts.keep fs1 keq)) (Bx.le hN (by first | omega | (simp <;> omega))) hC hFm hfit).calls.mono ?_
  rintro e w2 ⟨_, rfl, hb2, hu2⟩
  obtain ⟨r1, r2, r3, r4, r5, r6, r7, r8, rfl, rW, rG, rC, rL⟩ := hu2.opened
  have B0_2 : Box w2 (w.heap.size) #[.slice aw s.M.W.length cw, .slice ag s.M.G.length cg, .bool s.M.bad, .slice ac s.C.length cc, .slice al s.L.length cl] 83 := (B0_1.alloc _).ext hb2
  have B1_2 : Box w2 (w.heap.size + 1) #[.slice none 0 0, .slice none 0 0, .bool false, .slice none 0 0, .slice none 0 0] 83 := (B1_1.alloc _).ext hb2
  have B2_2 : Box w2 (w1.heap.size) #[.int .i64 2, .int .i64 pc, .int .i64 q0, .int .i64 q1, .int .i64 q2, .int .i64 q3, .int .i64 q4, .int .i64 q5, .int .i64 q6, .int .i64 q7, .slice ga fS.length gc] 95 := (Box.newAt _ _ _ (by first | rfl | simp)).ext hb2
  clear c0_0 c0_1 c0_2 c0_3 c0_4 d0_0 d0_1 d0_2 d0_3 d0_4 z0 c1_0 c1_1 c1_2 c1_3 c1_4 d1_0 d1_1 d1_2 d1_3 d1_4 z1
  have s2 : w1.heap.size + 1 ≤ w2.heap.size := (by have h := hb2.size; first | omega | (simp at h; omega))
  obtain ⟨c0_0, c0_1, c0_2, c0_3, c0_4, d0_0, d0_1, d0_2, d0_3, d0_4⟩ := cells5 B0_2
  have z0 : w.heap.size < w2.heap.size := B0_2.lt
  obtain ⟨c1_0, c1_1, c1_2, c1_3, c1_4, d1_0, d1_1, d1_2, d1_3, d1_4⟩ := cells5 B1_2
  have z1 : w.heap.size + 1 < w2.heap.size := B1_2.lt
  obtain ⟨⟨c2_0, c2_1, c2_2, c2_3, c2_4, c2_5, c2_6, c2_7, c2_8, c2_9, c2_10⟩, d2_0, d2_1, d2_2, d2_3, d2_4, d2_5, d2_6, d2_7, d2_8, d2_9, d2_10⟩ := cells11 B2_2
  have z2 : w1.heap.size < w2.heap.size := B2_2.lt
  go_wp2
  exact bodyPost_ret (ret_cell (cs := #[.slice r1 (pushS s id ⟨2, pc, [q0, q1, q2, q3, q4, q5, q6, q7], fS⟩).M.W.length r2, .slice r3 (pushS s id ⟨2, pc, [q0, q1, q2, q3, q4, q5, q6, q7], fS⟩).M.G.length r4, .bool (pushS s id ⟨2, pc, [q0, q1, q2, q3, q4, q5, q6, q7], fS⟩).M.bad, .slice r5 (pushS s id ⟨2, pc, [q0, q1, q2, q3, q4, q5, q6, q7], fS⟩).C.length r6, .slice r7 (pushS s id ⟨2, pc, [q0, q1, q2, q3, q4, q5, q6, q7], fS⟩).L.length r8]) (((((B1_2.setCell _).setCell _).setCell _).setCell _).setCell _) Proofs.Try.results111 rfl Proofs.Try.underlying83 rfl (by kernel_rfl)) rfl ⟨_, rfl, exn, IsSys.less (IsSys.keep hu2 keq) (fun _ _ hn => .inl hn)⟩
set_option maxHeartbeats 1000000 in
set_option maxRecDepth 100000 in
theorem step4_x (N : Nat → Prop) (s : SysD) (id op pc q0 q1 q2 q3 q4 q5 q6 q7 : Int) (fS : List Int) (aw ag ac al : Option Addr) (cw cg cc cl : Nat) (w : World) (hw : IsInts N w (.slice aw s.M.W.length cw) s.M.W) (hg : IsInts N w (.slice ag s.M.G.length cg) s.M.G) (hc : IsCores N w (.slice ac s.C.length cc) s.C) (hl : IsEvs N w (.slice al s.L.length cl) s.L)
    (hN : ∀ b, N b → b < w.heap.size) (hC : s.C.length ≤ 100000) (hFm : ∀ (i : Nat) c, s.C[i]? = some c → c.F.length ≤ 100000) (hfit : Fits s.M) (hL : s.L.length ≤ 100000) (ht : topD s id = some ⟨op, pc, [q0, q1, q2, q3, q4, q5, q6, q7], fS⟩) (o1 : (op == 1) = false) (o2 : (op == 2) = false) :
    Gives Proofs.Try.prog 111 #[.agg #[.slice aw s.M.W.length cw, .slice ag s.M.G.length cg, .bool s.M.bad, .slice ac s.C.length cc, .slice al s.L.length cl], .int .i64 id] w (fun r w' => IsSys N w' r (s)) := by
  have hwB := hw.bxn (hi := w.heap.size + 2)
  have hgB := hg.bxn (hi := w.heap.size + 2)
  have hcB := hc.bxn (hi := w.heap.size + 2)
  have hlB := hl.bxn (hi := w.heap.size + 2)
  have h : IsSys N w (.agg #[.slice aw s.M.W.length cw, .slice ag s.M.G.length cg, .bool s.M.bad, .slice ac s.C.length cc, .slice al s.L.length cl]) s := IsSys.mk rfl hw hg hc hl
  have kt : ∀ w' : World, Ext w w' → Gives Proofs.Try.prog 81 #[.agg #[.slice aw s.M.W.length cw, .slice ag s.M.G.length cg, .bool s.M.bad, .slice ac s.C.length cc, .slice al s.L.length cl], .int .i64 id] w' (fun r w' => ∃ u, r = .tuple #[u, .bool (topD s id).isSome] ∧ IsFrame (Bx N w.heap.size (w.heap.size + 2)) w' u (topF s id)) := fun w' e => top_ (Bx N w.heap.size (w.heap.size + 2)) _ s id w' ((IsSys.bxn h).ext e)
  rw [show (topD s id).isSome = true by rw [ht]; rfl] at kt
  rw [show topF s id = ⟨op, pc, [q0, q1, q2, q3, q4, q5, q6, q7], fS⟩ by unfold topF; rw [ht]; rfl] at kt
  clear ht h
  go_enter Proofs.Try.func111, Proofs.Try.ntmps111
  go_wp2_with (fail)
  go_at_call 81
  refine (kt _ exq).calls.mono ?_
  rintro e w1 ⟨_, rfl, hb1, u, rfl, hu1⟩
  obtain ⟨ga, gc, rfl, fs1⟩ := IsFrame.litv hu1
  have B0_1 : Box w1 (w.heap.size) #[.slice aw s.M.W.length cw, .slice ag s.M.G.length cg, .bool s.M.bad, .slice ac s.C.length cc, .slice al s.L.length cl] 83 := ((Box.newAt _ _ _ (by first | rfl | simp)).alloc _).ext hb1
  have B1_1 : Box w1 (w.heap.size + 1) #[.slice none 0 0, .slice none 0 0, .bool false, .slice none 0 0, .slice none 0 0] 83 := (Box.newAt _ _ _ (by first | rfl | simp)).ext hb1
  have s1 : w.heap.size + 2 ≤ w1.heap.size := (by have h := hb1.size; first | omega | (simp at h; omega))
  obtain ⟨c0_0, c0_1, c0_2, c0_3, c0_4, d0_0, d0_1, d0_2, d0_3, d0_4⟩ := cells5 B0_1
  have z0 : w.heap.size < w1.heap.size := B0_1.lt
  obtain ⟨c1_0, c1_1, c1_2, c1_3, c1_4, d1_0, d1_1, d1_2, d1_3, d1_4⟩ := cells5 B1_1
  have z1 : w.heap.size + 1 < w1.heap.size := B1_1.lt
  go_wp2
  exact bodyPost_ret (ret_cell (cs := #[.slice aw s.M.W.length cw, .slice ag s.M.G.length cg, .bool s.M.bad, .slice ac s.C.length cc, .slice al s.L.length cl]) ((((((B1_1.setCell _).setCell _).setCell _).setCell _).setCell _).alloc _) Proofs.Try.results111 rfl Proofs.Try.underlying83 rfl (by kernel_rfl)) rfl ⟨_, rfl, exn, IsSys.mk rfl (hw.ext exn) (hg.ext exn) (IsCores.keep hc (show Ext w _ from exn).keep) (IsEvs.keep hl (show Ext w _ from exn).keep)⟩
theorem step4_ (N : Nat → Prop) (va : Value) (s : SysD) (id : Int) (w : World) (h : IsSys N w va s) (hN : ∀ b, N b → b < w.heap.size) (hC : s.C.length ≤ 100000) (hFm : ∀ (i : Nat) c, s.C[i]? = some c → c.F.length ≤ 100000) (hfit : Fits s.M) (hL : s.L.length ≤ 100000) :
    Gives Proofs.Try.prog 111 #[va, .int .i64 id] w (fun r w' => IsSys N w' r (step4 s id)) := by
  have h8 := h.top8 (id := id)
  obtain ⟨aw, cw, ag, cg, ac, cc, al, cl, rfl, hw, hg, hc, hl⟩ := h.opened
  clear h
  cases ht : topD s id with
  | none =>
    have e : step4 s id = s := by unfold step4; rw [ht]
    rw [e]
    exact step4_none N s id aw ag ac al cw cg cc cl w hw hg hc hl hN hC hFm hfit hL ht
  | some f =>
    have h8' := h8 f ht
    obtain ⟨op, pc, R, S⟩ := f
    obtain ⟨q0, q1, q2, q3, q4, q5, q6, q7, rfl⟩ := list8 h8'
    clear h8 h8'
    by_cases h1 : op = 1
    · subst h1
      have e : step4 s id = popS s id ⟨1, pc, [q0, q1, q2, q3, q4, q5, q6, q7], S⟩ := by unfold step4; rw [ht]; rfl
      rw [e]
      exact step4_p1 N s id pc q0 q1 q2 q3 q4 q5 q6 q7 S aw ag ac al cw cg cc cl w hw hg hc hl hN hC hFm hfit hL ht
    · by_cases h2 : op = 2
      · subst h2
        have e : step4 s id = pushS s id ⟨2, pc, [q0, q1, q2, q3, q4, q5, q6, q7], S⟩ := by unfold step4; rw [ht]; rfl
        rw [e]
        exact step4_p2 N s id pc q0 q1 q2 q3 q4 q5 q6 q7 S aw ag ac al cw cg cc cl w hw hg hc hl hN hC hFm hfit hL ht
      · have e : step4 s id = s := by
          unfold step4; rw [ht]
          show (if op = 1 then _ else if op = 2 then _ else _) = _
          rw [if_neg h1, if_neg h2]
        rw [e]
        exact step4_x N s id op pc q0 q1 q2 q3 q4 q5 q6 q7 S aw ag ac al cw cg cc cl w hw hg hc hl hN hC hFm hfit hL ht (by simpa using h1) (by simpa using h2)
end Go.Proofs.Ytcfbdfgondmkoaa
