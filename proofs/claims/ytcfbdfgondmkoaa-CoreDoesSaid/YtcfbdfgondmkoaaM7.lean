/- Texts of this work, put together: StW0, StW, Shown4, RdN, PlC, PlD, Play, Closed, PlB, In4. -/
import Derived.Test.YtcfbdfgondmkoaaM6
import Derived.Maps.OwnOps
import Derived.Maps.Views
import Derived.Deep.CutRange
import Derived.Test.YtcfbdfgondmkoaaRows
import Derived.KernelRfl
import Derived.JoinedOf
/- Sets of numbers in a map of the call's own; the list that is walked. -/
namespace Go.Proofs.Ytcfbdfgondmkoaa
open Go Go.RowKit Go.Maps
set_option linter.unusedSimpArgs false
set_option linter.unusedVariables false
set_option linter.unnecessarySimpa false

theorem keyed3 : Keyed Proofs.Try.prog 3 := int_keyed Proofs.Try.underlying3
theorem und175 : Proofs.Try.prog.underlying 175 = some (.map 3 4) := by kernel_rfl
theorem lit_wf {p : Int} (h : -9223372036854775808 ≤ p) (h' : p ≤ 9223372036854775807) : (Lit.int .i64 p).wf = true := by
  have := wrap64_wf p
  rw [wrapI_in h h'] at this; exact this
theorem key3 {p : Int} (h : -9223372036854775808 ≤ p) (h' : p ≤ 9223372036854775807) : keyOf Proofs.Try.prog 3 (.int .i64 p) = some (.int .i64 p) := keyOf_int_mk Proofs.Try.underlying3 (lit_wf h h')
theorem isKey3 {p : Int} (h : -9223372036854775808 ≤ p) (h' : p ≤ 9223372036854775807) : WideAt.IsKeyLit (.int .i64 p) := keyed3.key (key3 h h')
def litI (p : Int) : Lit := .int .i64 p
/-- the set of these numbers, as a datum -/
def setD (out : List Int) : DataW Unit := setOf (.lit (.bool true)) (out.map litI)
theorem setD_snoc (out : List Int) (p : Int) : setD (out ++ [p]) = (setD out).put (litI p) (.lit (.bool true)) := by
  unfold setD
  rw [List.map_append, List.map_cons, List.map_nil, setOf_snoc]
theorem fold_at (u : DataW Unit) (p : Int) (z : DataW Unit) (hp : WideAt.IsKeyLit (litI p)) : ∀ (acc : List Int) (m : DataW Unit), IsMap m → ((acc.map litI).foldl (fun m x => m.put x u) m).atKey (litI p) z = if p ∈ acc then u else m.atKey (litI p) z
  | [], m, _ => by simp
  | a :: l, m, hm => by
    rw [List.map_cons, List.foldl_cons, fold_at u p z hp l _ (hm.put _ _)]
    by_cases h1 : p ∈ l
    · rw [if_pos h1, if_pos (by simp [h1])]
    · rw [if_neg h1]
      by_cases h2 : p = a
      · subst h2
        rw [if_pos (by simp), atKey_put_same hm hp]
      · rw [if_neg (by simp [h1, h2]), atKey_put_other (fun e => h2 (by unfold litI at e; injection e))]
theorem setD_at (out : List Int) (p : Int) (h : -9223372036854775808 ≤ p) (h' : p ≤ 9223372036854775807) : (setD out).atKey (litI p) (.lit (.bool false)) = .lit (.bool (decide (p ∈ out))) := by
  have := fold_at (.lit (.bool true)) p (.lit (.bool false)) (isKey3 h h') out (.map []) isMap_empty
  unfold setD setOf
  rw [this]
  by_cases hp : p ∈ out
  · rw [if_pos hp]; simp [hp]
  · rw [if_neg hp]
    simp [hp, DataW.atKey]
theorem plainElem_bool_inv {P : Program} {e : TypeId} (he : P.underlying e = some .bool) {v : Value} {z : DataW Unit × List MemPlace} (h : plainElem P e v = some z) : ∃ b, v = .bool b ∧ z = (.lit (.bool b), []) := by
  unfold plainElem at h
  rw [he] at h
  cases v <;> simp at h
  exact ⟨_, rfl, h.symm⟩
/-- block b is the map of the set of these numbers -/
def OwnSet (w : World) (b : Nat) (out : List Int) : Prop := w.ownsMap Proofs.Try.prog 3 (plainElem (H := Unit) Proofs.Try.prog 4) b out.length (setD out)
theorem OwnSet.keep {w w' : World} {b : Nat} {out : List Int} {M : Nat → Prop} (h : OwnSet w b out) (k : Keep M w w') (hn : ¬ M b) : OwnSet w' b out := by
  obtain ⟨es, clock, hb, h2⟩ := h
  exact ⟨es, clock, (k.2 b (Array.getElem?_eq_some_iff.1 hb).1 hn).trans hb, h2⟩
theorem OwnSet.look {w : World} {b : Nat} {out : List Int} (h : OwnSet w b out) {p : Int} (h1 : -9223372036854775808 ≤ p) (h2 : p ≤ 9223372036854775807) : (Instr.lookup 175 (.map (some b)) (.int .i64 p) false).run Proofs.Try.prog w = .ok (.bool (decide (p ∈ out))) w := by
  obtain ⟨v, ps, hrun, hv⟩ := World.ownsMap.lookup h keyed3 und175 (z := .bool false) (by simp [go_sem]; first | done | kernel_rfl) (plainElem_bool Proofs.Try.underlying4 false) (key3 h1 h2)
  obtain ⟨c, rfl, hc⟩ := plainElem_bool_inv Proofs.Try.underlying4 hv
  have h3 := setD_at out p h1 h2
  unfold litI at h3
  rw [h3] at hc
  simp at hc
  rw [hrun, ← hc.1]
end Go.Proofs.Ytcfbdfgondmkoaa
/- The list of free nodes, walked. -/
namespace Go.Proofs.Ytcfbdfgondmkoaa
open Go Go.RowKit Go.Maps
set_option linter.unusedSimpArgs false
set_option linter.unusedVariables false
set_option linter.unnecessarySimpa false

def lenV : Value → Nat
  | .slice _ n _ => n
  | _ => 0
def WalkR (N : Nat → Prop) (w : World) (m : Arena) (B : Nat) (cs : Array Value) (p : Int) (v : Value) (wr : World) : Prop :=
  ∃ out : List Int, Box wr w.heap.size cs 50 ∧ OwnSet wr (w.heap.size + 1) out ∧ OwnSl 1 3 RI B wr v out ∧ Ext w wr ∧ B ≤ wr.heap.size ∧ (∀ q, out.count q ≤ 1) ∧ (∀ q, q ∈ out → 1 ≤ q ∧ q < m.G.length) ∧ walkF m (m.G.length + 1 - out.length) p out = walkD m
theorem walk_cnt {out : List Int} {p : Int} (h : ∀ q, out.count q ≤ 1) (hp : p ∉ out) : ∀ q, (out ++ [p]).count q ≤ 1 := by
  intro q
  rw [List.count_append, count_cons_if]
  have h1 := h q
  by_cases e : p = q
  · subst e
    have := List.count_eq_zero.2 hp
    rw [if_pos rfl]; simp; omega
  · simp [e]; exact h1
theorem walk_mem {out : List Int} {p : Int} {n : Nat} (h : ∀ q, q ∈ out → 1 ≤ q ∧ q < n) (h1 : 1 ≤ p) (h2 : p < n) : ∀ q, q ∈ out ++ [p] → 1 ≤ q ∧ q < n := by
  intro q hq
  rcases List.mem_append.1 hq with hq | hq
  · exact h q hq
  · simp at hq; subst hq; exact ⟨h1, h2⟩
theorem walk_next {m : Arena} {out : List Int} {p v : Int} (h : walkF m (m.G.length + 1 - out.length) p out = walkD m) (hf : m.G.length + 1 - out.length = (m.G.length - out.length) + 1) (h0 : ¬ p = 0) (h1 : ¬ p < 0) (h2 : ¬ (m.G.length : Int) ≤ p) (h3 : p ∉ out) (hv : loadD m (linkAt p) = v) :
    walkF m (m.G.length + 1 - (out ++ [p]).length) v (out ++ [p]) = walkD m := by
  rw [← h, hf]
  conv => rhs; unfold walkF
  rw [if_neg h0, if_neg (fun e => e.elim h1 (fun e => e.elim h2 h3)), hv, show m.G.length + 1 - (out ++ [p]).length = m.G.length - out.length by rw [List.length_append, List.length_singleton]; omega]
section
variable {ops : Array Oper} {rest : List Oper} {o : Oper} {a : Act} {Q : Exit → Act → World → Prop} {w : World}
theorem wpList_append_genK {α : Type} {sz : Nat} {R : World → α → List Value → Prop} {M : Nat → Prop} {v vx : Value} {l1 l2 : List α} {t e : TypeId} {z : Value} {base : Nat} (hT : RowType t e sz z) (hzs : z.cells.size = sz) (hsz : 0 < sz) (hone : ∀ x cs, R w x cs → ∀ c ∈ cs, c.oneCell' = true) (hRw : ∀ w w' x cs, R w x cs → R w' x cs)
    (s x : Operand) (hg : o.guard = none) (hop : o.op = Op.call { callee := Callee.builtin Builtin.append, args := #[s, x], argTypes := #[t, t] })
    (hs : a.eval s = v) (hx : a.eval x = vx) (h1 : OwnSl sz e R base w v l1) (h2 : IsSl sz R M w vx l2) (hl : l1.length + l2.length ≤ 100000) (hbase : base ≤ w.heap.size)
    (hK : ∀ a' n' c' w', Hid (n' = (l1 ++ l2).length) → OwnSl sz e R base w' (.slice a' n' c') (l1 ++ l2) → (∀ b cs t, Box w b cs t → b < base → Box w' b cs t) → (∀ a, Ext a w → a.heap.size ≤ base → Ext a w') → w.heap.size ≤ w'.heap.size → Keep (fun k => base ≤ k) w w' → wpList Proofs.Try.prog ops Q rest (a.put o.dst (.slice a' n' c')) w') : wpList Proofs.Try.prog ops Q (o :: rest) a w :=
  wpList_append_osl s x hg hop hs hx hT hzs hsz h1 h2 hone (fun w' g x cs h => hRw _ _ _ _ h) hl hbase fun a' c' w' ho hgr =>
    hK a' _ c' w' (Lib.hid rfl) ho (fun b cs t hB hb => hB.keep (grown_keep (N := fun k => base ≤ k) hgr fun k hk => h1.base k hk) (by omega)) (fun a ha hsz => grown_ext hgr ha fun k hk => Nat.le_trans hsz (h1.base k hk)) hgr.size (grown_keep hgr fun k hk => h1.base k hk)
end
set_option maxHeartbeats 4000000 in
set_option maxRecDepth 100000 in
theorem walk_ (N : Nat → Prop) (va : Value) (m : Arena) (w : World) (h : IsMem N w va m) (hN : ∀ b, N b → b < w.heap.size) (hfit : Fits m) : Gives Proofs.Try.prog 105 #[va] w (fun r w' => ∃ u, r = .tuple #[u, .bool (walkD m).2] ∧ IsInts N w' u (walkD m).1) := by
  have hg1 : 1 ≤ m.G.length := hfit.2.1
  have hg2 : m.G.length ≤ 201 := hfit.2.2
  obtain ⟨aw, cw, ag, cg, rfl, mw0, mg0⟩ := h.opened
  have hmm := @run_makeMap Proofs.Try.prog
  obtain ⟨m0, hm0⟩ : ∃ m0, touchD m 0 = m0 := ⟨_, rfl⟩
  obtain ⟨v0, hv0⟩ : ∃ v, loadD m 0 = v := ⟨_, rfl⟩
  have kl0 : ∀ (w' : World) (va : Value), IsMem N w' va m → w.heap.size ≤ w'.heap.size → Gives Proofs.Try.prog 64 #[va, .int .i64 0] w' (fun r w' => ∃ u, r = .tuple #[u, .int .i64 v0] ∧ IsMem N w' u m0) := fun w' va hm hsz => by
    have := memLoad_ N va m 0 w' hm hfit (fun b hb => Nat.lt_of_lt_of_le (hN b hb) hsz) (by decide) (by decide)
    rw [hm0, hv0] at this; exact this
  have hstart : walkF m (m.G.length + 1 - ([] : List Int).length) (idx v0) [] = walkD m := by unfold walkD; rw [hv0]; rfl
  have hset0 : OwnSet ((w.alloc (.cells #[.slice aw m.W.length cw, .slice ag m.G.length cg, .bool m.bad] 50)).alloc (.map #[] 0)) (w.heap.size + 1) [] := by
    have := World.ownsMap_made (H := Unit) (w.alloc (.cells #[.slice aw m.W.length cw, .slice ag m.G.length cg, .bool m.bad] 50)) Proofs.Try.prog 3 (plainElem Proofs.Try.prog 4)
    simpa [OwnSet, setD, setOf] using this
  clear hm0 hv0
  go_enter Proofs.Try.func105, Proofs.Try.ntmps105
  go_wp2_with (fail)
  go_step3
  go_wp2_with (fail)
  go_at_call 64
  refine (kl0 _ _ (h.ext exq) (by first | omega | (simp <;> omega))).calls.mono ?_
  rintro e w1 ⟨_, rfl, hb1, u, rfl, hu1⟩
  obtain ⟨u1, u2, u3, u4, rfl, uw, ug⟩ := hu1.opened
  have B0_1 : Box w1 (w.heap.size) #[.slice aw m.W.length cw, .slice ag m.G.length cg, .bool m.bad] 50 := ((Box.newAt _ _ _ (by first | rfl | simp)).alloc _).ext hb1
  have s1 : w.heap.size + 2 ≤ w1.heap.size := (by have h := hb1.size; first | omega | (simp at h; omega))
  obtain ⟨c0_0, c0_1, c0_2, d0_0, d0_1, d0_2⟩ := cells3 B0_1
  have z0 : w.heap.size < w1.heap.size := B0_1.lt
  go_wp2_with (fail)
  go_at_call 41
  refine (idx_ v0 _).calls.mono ?_
  rintro e w2 ⟨_, rfl, hb2, rfl⟩
  have B0_2 : Box w2 (w.heap.size) #[.slice aw m.W.length cw, .slice ag m.G.length cg, .bool m.bad] 50 := (B0_1.alloc _).ext hb2
  have B1_2 : Box w2 (w1.heap.size) #[.slice u1 m0.W.length u2, .slice u3 m0.G.length u4, .bool m0.bad] 50 := (Box.newAt _ _ _ (by first | rfl | simp)).ext hb2
  clear c0_0 c0_1 c0_2 d0_0 d0_1 d0_2 z0
  have s2 : w1.heap.size + 1 ≤ w2.heap.size := (by have h := hb2.size; first | omega | (simp at h; omega))
  obtain ⟨c0_0, c0_1, c0_2, d0_0, d0_1, d0_2⟩ := cells3 B0_2
  have z0 : w.heap.size < w2.heap.size := B0_2.lt
  obtain ⟨c1_0, c1_1, c1_2, d1_0, d1_1, d1_2⟩ := cells3 B1_2
  have z1 : w1.heap.size < w2.heap.size := B1_2.lt
  go_wp2_with (fail)
  go_step3
  go_wp2
  obtain ⟨B, hB⟩ : ∃ B, B = w2.heap.size := ⟨_, rfl⟩
  have hB1 : w.heap.size + 2 ≤ B := (by rw [hB]; have h1 := s1; have h2 := s2; (try simp at h1); (try simp at h2); omega)
  have hB2 : B ≤ w2.heap.size := Nat.le_of_eq hB
  clear hB
  have hW2 : Ext w w2 := exq
  have hset2 : OwnSet w2 (w.heap.size + 1) [] := (hset0.keep (M := no) hb1.keep id).keep (M := no) ((Ext.keep exq : Keep no w1 (w1.alloc _)).trans hb2.keep) id
  go_loopw [4, 8] (fun v pp wr => ∃ p : Int, pp = .int .i64 p ∧ WalkR N w m B #[.slice aw m.W.length cw, .slice ag m.G.length cg, .bool m.bad] p v wr) (fun v _ _ => m.G.length + 1 - lenV v)
  case atStart => exact ⟨_, rfl, [], B0_2, hset2, OwnSl.none_, hW2, hB2, by simp, by simp, hstart⟩
  case round =>
    obtain ⟨p, rfl, out, hbx, hset, hown, hWx, hBx, hcnt, hmem, hwalk⟩ := hrel
    obtain ⟨w5, rfl⟩ : ∃ w5 : World, w5 = wr := ⟨_, rfl⟩
    obtain ⟨va, vc, rfl, hvc1, hvc2⟩ := hown.shape
    have hlen : out.length + 1 ≤ m.G.length := by have := pigeon (m.G.length - 1) out hcnt (fun q hq => by have := hmem q hq; omega); omega
    have s5 : B ≤ w5.heap.size := hBx
    have HW := Lib.hid hwalk; have HC := Lib.hid hcnt; have HM := Lib.hid hmem
    clear hwalk hcnt hmem
    have hfuel : m.G.length + 1 - out.length = (m.G.length - out.length) + 1 := by omega
    have HF := Lib.hid hfuel
    clear hfuel
    by_cases hp0 : p = 0
    · subst hp0
      have hd : walkD m = (out, true) := by rw [← HW.out, HF.out]; rfl
      obtain ⟨c0_0, c0_1, c0_2, d0_0, d0_1, d0_2⟩ := cells3 hbx
      have z0 : w.heap.size < w5.heap.size := hbx.lt
      go_wp2
      try rw [Exit.noGoto_ret]
      go_ret2
      exact ⟨_, rfl, exq, .slice va out.length vc, by rw [hd]; first | done | rfl, by rw [hd]; exact hown.ints fun b hb hn => by have := hN b hn; omega⟩
    · have q0 : (p == 0) = false := by simpa using hp0
      by_cases hneg : p < 0
      · have hd : walkD m = ([], false) := by rw [← HW.out, HF.out]; unfold walkF; rw [if_neg hp0, if_pos (.inl hneg)]
        obtain ⟨c0_0, c0_1, c0_2, d0_0, d0_1, d0_2⟩ := cells3 hbx
        have z0 : w.heap.size < w5.heap.size := hbx.lt
        go_wp2
        try rw [Exit.noGoto_ret]
        go_ret2
        exact ⟨_, rfl, exq, .slice none 0 0, by rw [hd]; first | done | rfl, by rw [hd]; exact nil_ints _ _⟩
      · by_cases hbig : (m.G.length : Int) ≤ p
        · have hd : walkD m = ([], false) := by rw [← HW.out, HF.out]; unfold walkF; rw [if_neg hp0, if_pos (.inr (.inl hbig))]
          obtain ⟨c0_0, c0_1, c0_2, d0_0, d0_1, d0_2⟩ := cells3 hbx
          have z0 : w.heap.size < w5.heap.size := hbx.lt
          go_wp2
          try rw [Exit.noGoto_ret]
          go_ret2
          exact ⟨_, rfl, exq, .slice none 0 0, by rw [hd]; first | done | rfl, by rw [hd]; exact nil_ints _ _⟩
        · have hlook := hset.look (p := p) (by omega) (by omega)
          by_cases hin : p ∈ out
          · have hd : walkD m = ([], false) := by rw [← HW.out, HF.out]; unfold walkF; rw [if_neg hp0, if_pos (.inr (.inr hin))]
            rw [show decide (p ∈ out) = true by simpa using hin] at hlook
            obtain ⟨c0_0, c0_1, c0_2, d0_0, d0_1, d0_2⟩ := cells3 hbx
            have z0 : w.heap.size < w5.heap.size := hbx.lt
            go_wp2
            try rw [Exit.noGoto_ret]
            go_ret2
            exact ⟨_, rfl, exq, .slice none 0 0, by rw [hd]; first | done | rfl, by rw [hd]; exact nil_ints _ _⟩
          · rw [show decide (p ∈ out) = false by simpa using hin] at hlook
            have hp1 : 1 ≤ p := by omega
            obtain ⟨m1, hm1⟩ : ∃ m1, touchD m (linkAt p) = m1 := ⟨_, rfl⟩
            obtain ⟨v, hv⟩ : ∃ v, loadD m (linkAt p) = v := ⟨_, rfl⟩
            have kl : ∀ (w' : World) (va : Value), IsMem N w' va m → w.heap.size ≤ w'.heap.size → Gives Proofs.Try.prog 64 #[va, .int .i64 (linkAt p)] w' (fun r w' => ∃ u, r = .tuple #[u, .int .i64 v] ∧ IsMem N w' u m1) := fun w' va hm hsz => by
              have := memLoad_ N va m (linkAt p) w' hm hfit (fun b hb => Nat.lt_of_lt_of_le (hN b hb) hsz) (linkAt_lo _).1 (linkAt_lo _).2
              rw [hm1, hv] at this; exact this
            have HV := Lib.hid hv
            clear hv hm1
            obtain ⟨c0_0, c0_1, c0_2, d0_0, d0_1, d0_2⟩ := cells3 hbx
            have z0 : w.heap.size < w5.heap.size := hbx.lt
            go_wp2_with (first | (at_builtin; refine wpList_append_genK (base := B) rowI zs1 (by decide) one_int' (fun _ _ _ _ h => h) (.tmp 38) (.tmp 40) rfl rfl rfl rfl (OwnSl.extW hown exq) (IsSl.one (sz := 1) (cs := [.int .i64 p]) (Box.newAt _ _ _ (by first | rfl | simp)) rfl rfl) (by first | omega | (simp <;> omega)) (by first | omega | (simp <;> omega)) ?_; intro fa fan fc w6 Hfa ho6 kb6 kx6 ks6 kk6; have hb6 : Ext w w6 := kx6 w exq (by omega); have hset6 : OwnSet w6 (w.heap.size + 1) out := (OwnSet.keep (M := no) hset (Ext.keep exq) (fun q => q)).keep kk6 (by omega); have B0_6 : Box w6 (w.heap.size) #[.slice aw m.W.length cw, .slice ag m.G.length cg, .bool m.bad] 50 := kb6 _ _ _ (hbx.alloc _) (by omega); clear c0_0 c0_1 c0_2 d0_0 d0_1 d0_2 z0; have s6 : w5.heap.size + 1 ≤ w6.heap.size := (by have h := ks6; simp at h; omega); obtain ⟨c0_0, c0_1, c0_2, d0_0, d0_1, d0_2⟩ := cells3 B0_6; have z0 : w.heap.size < w6.heap.size := B0_6.lt) | (at_mapUpdate; refine wpList_mapUpdate_own _ rfl _ _ _ 175 rfl 3 4 keyed3 und175 _ (w.heap.size + 1) out.length _ rfl hset6 (by unfold maxLen; omega) _ _ _ rfl rfl (key3 (p := p) (by omega) (by omega)) _ [] (plainElem_bool Proofs.Try.underlying4 true) ?_; intro w7 hset7 hgr7; have hb7 : Ext w w7 := grown_ext hgr7 hb6 (fun k e => (by cases e; omega)); have hkm7 : Keep (fun k => k = (w.heap.size + 1)) w6 w7 := grown_keep hgr7 (fun k e => (by cases e; rfl)); have B0_7 : Box w7 (w.heap.size) #[.slice aw m.W.length cw, .slice ag m.G.length cg, .bool m.bad] 50 := (B0_6.keep hkm7 (by omega)); clear c0_0 c0_1 c0_2 d0_0 d0_1 d0_2 z0; have s7 : w6.heap.size ≤ w7.heap.size := hgr7.size; obtain ⟨c0_0, c0_1, c0_2, d0_0, d0_1, d0_2⟩ := cells3 B0_7; have z0 : w.heap.size < w7.heap.size := B0_7.lt))
            have hX10 : Ext w w7 := exn
            have hK10 : Keep N w7 w7 := Keep.refl _ _
            have D0_10 := B0_7
            have aM : IsMem N w7 (.agg #[.slice aw m.W.length cw, .slice ag m.G.length cg, .bool m.bad]) m := h.ext hb7
            clear c0_0 c0_1 c0_2 d0_0 d0_1 d0_2 z0
            apply region_lit2 (T := []) (L := []) (X := []) (G := [eqv _, eqv _, eqv _, isTupN N m1 (.int .i64 v), isTupN N m1 (.int .i64 v), isMemN N m1, eqv (.int .i64 v), eqv _])
            case hm => kernel_rfl
            case hop =>
              refine ⟨?_, ?_, ?_, ?_, ?_, ?_, ?_, ?_, trivial⟩
              · intro a wa hs hf hd
                have t1 := hf.off 1 (by kernel_rfl) rfl
                exact plain_ rfl (yes_eqv (o_load3 rfl Proofs.Try.underlying50 rfl (by kernel_rfl) t1 ((D0_10.since hs rfl).cell rfl) ((D0_10.since hs rfl).cell rfl) ((D0_10.since hs rfl).cell rfl)) rfl)
              · intro a wa hs hf hd
                have t8 := hf.off 8 (by kernel_rfl) rfl
                exact plain_ rfl (yes_eqv (o_move rfl t8) rfl)
              · intro a wa hs hf hd
                have t44 : a.eval (.tmp 44) = _ := hd.at 1 44 (by kernel_rfl)
                exact plain_ rfl (yes_gives (atw_ p _) rfl rfl Proofs.Try.func57 (by kernel_rfl) (by kernel_rfl) (by simp only [List.map_toArray, List.map_cons, List.map_nil, eval_const, t44]) rfl)
              · intro a wa hs hf hd
                have t43 : a.eval (.tmp 43) = _ := hd.at 0 43 (by kernel_rfl)
                have t45 : a.eval (.tmp 45) = _ := hd.at 2 45 (by kernel_rfl)
                exact plain_ rfl (yes_gives (kl _ _ (aM.ext (Since.to_ext hs)) (by have := (Since.to_ext hs).size; have := hX10.size; omega)) rfl rfl Proofs.Try.func64 (by kernel_rfl) (by kernel_rfl) (by simp only [List.map_toArray, List.map_cons, List.map_nil, t43, t45]) rfl)
              · intro a wa hs hf hd
                have t46 := hd.at 3 46 (by kernel_rfl)
                obtain ⟨u, hu, hm⟩ := t46
                exact plain_ rfl (yes_val (runs_ok (o_move rfl hu)) (Ext.refl _) ⟨u, rfl, hm⟩ rfl)
              · intro a wa hs hf hd
                have t42 := hd.at 4 42 (by kernel_rfl)
                obtain ⟨u, hu, hm⟩ := t42
                exact plain_ rfl (yes_val (runs_ok (o_extract rfl hu rfl)) (Ext.refl _) hm rfl)
              · intro a wa hs hf hd
                have t42 := hd.at 4 42 (by kernel_rfl)
                obtain ⟨u, hu, hm⟩ := t42
                exact plain_ rfl (yes_eqv (o_extract rfl hu rfl) rfl)
              · intro a wa hs hf hd
                have t48 : a.eval (.tmp 48) = _ := hd.at 6 48 (by kernel_rfl)
                exact plain_ rfl (yes_eqv (o_assign rfl t48) rfl)
            case hG => exact ⟨stable_eqv _, stable_eqv _, stable_eqv _, stable_isTupN _ _ _, stable_isTupN _ _ _, stable_isMemN _ _, stable_eqv _, stable_eqv _, trivial⟩
            case hc => kernel_rfl
            case hfin =>
              intro v10 hs10
              rintro _ rfl _ rfl _ rfl _ ⟨p3, rfl, h3⟩ _ ⟨p4, rfl, h4⟩ p5 h5 _ rfl _ rfl
              obtain ⟨u1, u2, u3, u4, rfl, uw, ug⟩ := IsMem.opened h5
              intro x hx
              rw [hx]
              clear hx x
              simp only [Act.put, List.setIfInBounds_toArray, List.set_cons_zero, List.set_cons_succ]
              obtain ⟨w8, hw8⟩ : ∃ x, x = v10 := ⟨_, rfl⟩
              have hb8 : Ext w w8 := by rw [hw8]; exact hX10.trans (Since.to_ext hs10)
              have hk8 : Keep N w7 w8 := by rw [hw8]; exact hK10.ext (Since.to_ext hs10)
              have hQ8 : Ext w7 w8 := by rw [hw8]; exact Since.to_ext hs10
              have B0_8 : Box w8 (w.heap.size) #[.slice aw m.W.length cw, .slice ag m.G.length cg, .bool m.bad] 50 := by rw [hw8]; exact (D0_10.since hs10 rfl)
              have s8 : w7.heap.size ≤ w8.heap.size := by rw [hw8]; exact (Since.to_ext hs10).size
              rw [← hw8]
              clear hw8
              obtain ⟨c0_0, c0_1, c0_2, d0_0, d0_1, d0_2⟩ := cells3 B0_8
              have z0 : w.heap.size < w8.heap.size := B0_8.lt
              have hset7b : OwnSet w7 (w.heap.size + 1) (out ++ [p]) := by unfold OwnSet; rw [setD_snoc, List.length_append]; exact hset7
              have hset8 : OwnSet w8 (w.heap.size + 1) (out ++ [p]) := hset7b.keep (M := no) hQ8.keep (fun q => q)
              have hown7 : OwnSl 1 3 RI B w7 (.slice fa fan fc) (out ++ [p]) := ho6.keep hkm7 (fun b hb e => by have := ho6.base b hb; omega) (fun _ _ h => h)
              have hown8 : OwnSl 1 3 RI B w8 (.slice fa fan fc) (out ++ [p]) := hown7.extW hQ8
              go_wp2
              go_roundw
              case rel => exact ⟨v, rfl, out ++ [p], B0_8, hset8, hown8, hb8, by omega, walk_cnt HC.out hin, walk_mem HM.out hp1 (by omega), walk_next HW.out HF.out hp0 (by omega) (by omega) hin HV.out⟩
              case measure => rw [show lenV (.slice fa fan fc) = out.length + 1 by show fan = _; rw [Hfa.out]; simp]; show _ < m.G.length + 1 - out.length; omega
end Go.Proofs.Ytcfbdfgondmkoaa
/- Chapter 4: the document's example. -/
namespace Go.Proofs.Ytcfbdfgondmkoaa
open Go Go.RowKit
set_option linter.unusedSimpArgs false
set_option linter.unusedVariables false
set_option linter.unnecessarySimpa false

theorem IsSys.lit {N : Nat → Prop} {w : World} {v : Value} {s : SysD} (h : IsSys N w v s) {a b n m : Nat} {d : Bool} (h1 : s.M.W.length = a) (h2 : s.M.G.length = b) (h3 : s.M.bad = d) (h4 : s.C.length = n) (h5 : s.L.length = m) :
    ∃ aw cw ag cg ac cc al cl, v = .agg #[.slice aw a cw, .slice ag b cg, .bool d, .slice ac n cc, .slice al m cl] ∧ IsInts N w (.slice aw a cw) s.M.W ∧ IsInts N w (.slice ag b cg) s.M.G ∧ IsCores N w (.slice ac n cc) s.C ∧ IsEvs N w (.slice al m cl) s.L := by
  subst h1 h2 h3 h4 h5
  exact h.opened
def y4a : SysD := newS 1 3
def y4b : SysD := memS y4a (fillD y4a.M)
def zs4 : Nat → SysD
  | 0 => callS y4b 0 1 [0, 0, 0]
  | k + 1 => step4 (zs4 k) 0
def fitsB (m : Arena) : Bool := decide (m.W.length = 128 + 4 * (m.G.length - 1) ∧ 1 ≤ m.G.length ∧ m.G.length ≤ 201)
theorem fitsB_iff {m : Arena} (h : fitsB m = true) : Fits m := by simpa [fitsB, Fits] using h
def okS (s : SysD) : Bool := decide (s.C.length ≤ 100) && (s.C.all (fun c => decide (c.F.length ≤ 100)) && (fitsB s.M && decide (s.L.length ≤ 100)))
theorem okS_iff {s : SysD} (h : okS s = true) : s.C.length ≤ 100000 ∧ (∀ (i : Nat) c, s.C[i]? = some c → c.F.length ≤ 100000) ∧ Fits s.M ∧ s.L.length ≤ 100000 := by
  simp only [okS, Bool.and_eq_true, decide_eq_true_eq] at h
  obtain ⟨h1, h2, h3, h4⟩ := h
  refine ⟨by omega, fun i c hi => ?_, fitsB_iff h3, by omega⟩
  have := List.all_eq_true.1 h2 c (List.mem_of_getElem? hi)
  simp at this; omega
theorem zs4_ok {k : Nat} (h : k < 3) : (zs4 k).C.length ≤ 100000 ∧ (∀ (i : Nat) c, (zs4 k).C[i]? = some c → c.F.length ≤ 100000) ∧ Fits (zs4 k).M ∧ (zs4 k).L.length ≤ 100000 := by
  match k, h with
  | 0, _ => exact okS_iff (by kernel_rfl)
  | 1, _ => exact okS_iff (by kernel_rfl)
  | 2, _ => exact okS_iff (by kernel_rfl)
theorem y4fit : Fits y4a.M := fitsB_iff (by kernel_rfl)
theorem y4fitb : Fits y4b.M := fitsB_iff (by kernel_rfl)
theorem zs4fit3 : Fits (zs4 3).M := fitsB_iff (by kernel_rfl)
def k4 : CoreD := ((zs4 3).C[0]?).getD core0
theorem zs43 : (zs4 3).C[0]? = some k4 := by kernel_rfl
theorem ints_box {w : World} {b : Nat} {cs : Array Value} {t : TypeId} {l : List Int} (h : Box w b cs t) (hc : cs.toList = l.map (Value.int .i64)) (hx : l.length ≤ 1000) : IsInts no w (.slice (some ⟨b, 0, none⟩) l.length l.length) l := by
  refine ⟨_, _, rfl, Nat.le_refl _, ?_, fun e => by simp at e, fun i hi => ⟨b, 0, rfl, h.lt, id, ?_⟩⟩
  · omega
  · rw [Nat.zero_add]
    refine h.cell ?_
    rw [nth_eq, hc]
    simp [gi, List.getD_eq_getElem?_getD, hi]
def Sh4R (w wk : World) (l1 : List Int) (vl : Value) (k : Nat) (wr : World) : Prop :=
  k ≤ 3 ∧ ∃ v0 v1 v2 v3 v4, Box wr wk.heap.size #[v0, v1, v2, v3, v4] 83 ∧ IsSys (Bx no wk.heap.size (wk.heap.size + 1)) wr (.agg #[v0, v1, v2, v3, v4]) (zs4 k) ∧ IsInts (Bx no wk.heap.size (wk.heap.size + 1)) wr vl l1 ∧ Ext w wr
set_option maxHeartbeats 4000000 in
set_option maxRecDepth 100000 in
theorem shown4_ (w : World) : Gives Proofs.Try.prog 104 #[] w (eqv (.bool true)) := by
  go_enter Proofs.Try.func104, Proofs.Try.ntmps104
  go_wp2_with (fail)
  go_at_call 76
  refine (refNewS_ no 1 3 _ no_lt).calls.mono ?_
  rintro e w1 ⟨_, rfl, hb1, u, rfl, hu1⟩
  rw [show newSE 1 3 = 0 by kernel_rfl]
  rw [show newS 1 3 = y4a from rfl] at hu1
  obtain ⟨r1, r2, r3, r4, r5, r6, r7, r8, rfl, rW, rG, rC, rL⟩ := hu1.opened
  have aw := rW.bxn (hi := w1.heap.size + 1)
  have ag := rG.bxn (hi := w1.heap.size + 1)
  have ac := IsCores.bxn (hi := w1.heap.size + 1) rC
  have al := IsEvs.bxn (hi := w1.heap.size + 1) rL
  have s1 : w.heap.size ≤ w1.heap.size := (by have h := hb1.size; first | omega | (simp at h; omega))
  go_wp2_with (fail)
  obtain ⟨W2, hW⟩ : ∃ W, W = (w1.alloc (.cells #[.slice r1 y4a.M.W.length r2, .slice r3 y4a.M.G.length r4, .bool y4a.M.bad, .slice r5 y4a.C.length r6, .slice r7 y4a.L.length r8] 83 (0, 0))) := ⟨_, rfl⟩
  have hX2 : Ext w W2 := by rw [hW]; exact exn
  have hK2 : Keep (Bx no w1.heap.size (w1.heap.size + 1)) w1 W2 := by rw [hW]; exact keq
  have D0_2 : Box (w1.alloc (.cells #[.slice r1 y4a.M.W.length r2, .slice r3 y4a.M.G.length r4, .bool y4a.M.bad, .slice r5 y4a.C.length r6, .slice r7 y4a.L.length r8] 83 (0, 0))) (w1.heap.size) #[.slice r1 y4a.M.W.length r2, .slice r3 y4a.M.G.length r4, .bool y4a.M.bad, .slice r5 y4a.C.length r6, .slice r7 y4a.L.length r8] 83 := (Box.newAt _ _ _ (by first | rfl | simp))
  rw [← hW] at D0_2
  have y2 : w1.heap.size + 1 ≤ W2.heap.size := by rw [hW]; simp
  rw [← hW]
  clear hW
  have aS : IsSys (Bx no w1.heap.size (w1.heap.size + 1)) W2 (.agg #[.slice r1 y4a.M.W.length r2, .slice r3 y4a.M.G.length r4, .bool y4a.M.bad, .slice r5 y4a.C.length r6, .slice r7 y4a.L.length r8]) y4a := (IsSys.mk rfl aw ag ac al : IsSys (Bx no w1.heap.size (w1.heap.size + 1)) w1 _ y4a).keep hK2
  have aM : IsMem (Bx no w1.heap.size (w1.heap.size + 1)) W2 (.agg #[.slice r1 y4a.M.W.length r2, .slice r3 y4a.M.G.length r4, .bool y4a.M.bad]) y4a.M := (IsMem.mk rfl aw ag : IsMem (Bx no w1.heap.size (w1.heap.size + 1)) w1 _ y4a.M).keep hK2
  apply region_lit2 (T := [5]) (L := []) (X := [w1.heap.size]) (G := [eqv _, eqv _, eqv _, isMemN (Bx no w1.heap.size (w1.heap.size + 1)) (fillD y4a.M), isSysN (Bx no w1.heap.size (w1.heap.size + 1)) y4b, anyG])
  case hm => kernel_rfl
  case hop =>
    refine ⟨?_, ?_, ?_, ?_, ?_, ?_, trivial⟩
    · intro a wa hs hf hd
      have t1 := hf.off 1 (by kernel_rfl) rfl
      exact plain_ rfl (yes_eqv (o_load5 rfl Proofs.Try.underlying83 rfl (by kernel_rfl) t1 ((D0_2.since hs rfl).cell rfl) ((D0_2.since hs rfl).cell rfl) ((D0_2.since hs rfl).cell rfl) ((D0_2.since hs rfl).cell rfl) ((D0_2.since hs rfl).cell rfl)) rfl)
    · intro a wa hs hf hd
      have t1 := hf.off 1 (by kernel_rfl) rfl
      exact plain_ rfl (yes_eqv (o_fieldAddr rfl Proofs.Try.underlying83 rfl rfl (by kernel_rfl) t1) rfl)
    · intro a wa hs hf hd
      have t14 : a.eval (.tmp 14) = _ := hd.at 1 14 (by kernel_rfl)
      exact plain_ rfl (yes_eqv (o_load3 rfl Proofs.Try.underlying50 rfl (by kernel_rfl) t14 ((D0_2.since hs rfl).cell rfl) ((D0_2.since hs rfl).cell rfl) ((D0_2.since hs rfl).cell rfl)) rfl)
    · intro a wa hs hf hd
      have t15 : a.eval (.tmp 15) = _ := hd.at 2 15 (by kernel_rfl)
      exact plain_ rfl (yes_gives (fill_ (Bx no w1.heap.size (w1.heap.size + 1)) _ y4a.M _ (aM.keep (Since.to_ext hs).keep) (fun b hb => (by have := hb.elim False.elim (fun q => q.2); have := (Since.to_ext hs).size; omega)) y4fit) rfl rfl Proofs.Try.func109 (by kernel_rfl) (by kernel_rfl) (by simp only [List.map_toArray, List.map_cons, List.map_nil, t15]) rfl)
    · intro a wa hs hf hd
      have t13 : a.eval (.tmp 13) = _ := hd.at 0 13 (by kernel_rfl)
      have t16 := hd.at 3 16 (by kernel_rfl)
      exact plain_ rfl (yes_gives (refMem_ _ _ _ y4a (fillD y4a.M) _ (aS.ext (Since.to_ext hs)) t16) rfl rfl Proofs.Try.func103 (by kernel_rfl) (by kernel_rfl) (by simp only [List.map_toArray, List.map_cons, List.map_nil, t13, t16]) rfl)
    · intro a wb wa hs1 hs hf hd hrun
      have t1 := hf.off 1 (by kernel_rfl) rfl
      have t17 := hd.at 4 17 (by kernel_rfl)
      subst hrun
      have q18 : IsSys (Bx no w1.heap.size (w1.heap.size + 1)) _ (a.eval (.tmp 17)) y4b := t17
      obtain ⟨g1, g2, g3, g4, g5, g6, g7, g8, hv, _⟩ := q18.opened
      exact ⟨_, o_store rfl t1 hv ((D0_2.since hs1 rfl)) (by kernel_rfl) (by simp [Value.cells, Value.oneCell']) (by first | (simp [Value.cells]; done) | (simp [Value.cells]; omega)) rfl, Since.put hs (.inr (by simp))⟩
  case hG => exact ⟨stable_eqv _, stable_eqv _, stable_eqv _, stable_isMemN _ _, stable_isSysN _ _, stable_any, trivial⟩
  case hc => kernel_rfl
  case hfin =>
    intro v2 hs2
    rintro _ rfl _ rfl _ rfl j3 hj3 j4 hj4
    obtain ⟨g1, g2, g3, g4, g5, g6, g7, g8, rfl, gW0, gG0, gC0, gL0⟩ := IsSys.opened hj4
    rintro v2w ⟨o1, v1, ho1, hr1, rfl⟩
    cases ho1
    simp only [Act.put, List.setIfInBounds_toArray, List.set_cons_zero, List.set_cons_succ] at hr1 ⊢
    cases (hr1.symm.trans (o_store (v := .agg #[.slice g1 y4b.M.W.length g2, .slice g3 y4b.M.G.length g4, .bool y4b.M.bad, .slice g5 y4b.C.length g6, .slice g7 y4b.L.length g8]) (new := #[.slice g1 y4b.M.W.length g2, .slice g3 y4b.M.G.length g4, .bool y4b.M.bad, .slice g5 y4b.C.length g6, .slice g7 y4b.L.length g8]) rfl rfl rfl ((D0_2.since hs2 rfl)) (by kernel_rfl) (by simp [Value.cells, Value.oneCell']) (by first | (simp [Value.cells]; done) | (simp [Value.cells]; omega)) (by first | rfl | kernel_rfl)))
    obtain ⟨w2, hw2⟩ : ∃ x, x = (put v2 w1.heap.size (.cells #[.slice g1 y4b.M.W.length g2, .slice g3 y4b.M.G.length g4, .bool y4b.M.bad, .slice g5 y4b.C.length g6, .slice g7 y4b.L.length g8] 83 (0, 0))) := ⟨_, rfl⟩
    have hW2 : Ext W2 v2 := Since.to_ext hs2
    have hb2 : Ext w w2 := by rw [hw2]; exact Since.to_ext ((Since.of_ext (hX2.trans hW2)).put (.inl (by have := hX2.size; omega)))
    have hk2 : Keep (Bx no w1.heap.size (w1.heap.size + 1)) w1 w2 := by rw [hw2]; exact ((hK2.ext hW2).put _ _ (.inr (Bx.mem (by omega) (by omega))))
    have hq2 : Keep (Bx no w1.heap.size (w1.heap.size + 1)) v2 w2 := by rw [hw2]; exact ((Keep.refl _ _).put _ _ (.inr (Bx.mem (by omega) (by omega))))
    have B0_2 : Box w2 (w1.heap.size) #[.slice g1 y4b.M.W.length g2, .slice g3 y4b.M.G.length g4, .bool y4b.M.bad, .slice g5 y4b.C.length g6, .slice g7 y4b.L.length g8] 83 := by rw [hw2]; exact (D0_2.since hs2 rfl).put
    have s2 : W2.heap.size ≤ w2.heap.size := by rw [hw2]; have := hW2.size; simpa [put] using this
    rw [← hw2]
    clear hw2
    obtain ⟨c0_0, c0_1, c0_2, c0_3, c0_4, d0_0, d0_1, d0_2, d0_3, d0_4⟩ := cells5 B0_2
    have z0 : w1.heap.size < w2.heap.size := B0_2.lt
    have hy0 : IsSys no w2 (.agg #[.slice g1 y4b.M.W.length g2, .slice g3 y4b.M.G.length g4, .bool y4b.M.bad, .slice g5 y4b.C.length g6, .slice g7 y4b.L.length g8]) y4b := (IsSys.keep (IsSys.mk rfl gW0 gG0 gC0 gL0 : IsSys (Bx no w1.heap.size (w1.heap.size + 1)) v2 _ y4b) hq2).less (fun _ _ h => h.elim)
    obtain ⟨_, _, _, _, _, _, _, _, hye, gW, gG, gC, gL⟩ := hy0.opened
    cases hye
    clear hq2
    go_wp2_with (fail)
    go_at_call 105
    refine (walk_ no _ y4b.M _ (IsMem.mk rfl (IsInts.ext gW exq) (IsInts.ext gG exq)) no_lt y4fitb).calls.mono ?_
    rintro e w3 ⟨_, rfl, hb3, u, rfl, hl1⟩
    rw [show (walkD y4b.M).2 = true by kernel_rfl]
    obtain ⟨l1, hl1e⟩ : ∃ l, (walkD y4b.M).1 = l := ⟨_, rfl⟩
    rw [hl1e] at hl1
    have HL1 := Lib.hid hl1e
    clear hl1e
    obtain ⟨la, lc, rfl, _⟩ := hl1.opened
    have B0_3 : Box w3 (w1.heap.size) #[.slice g1 y4b.M.W.length g2, .slice g3 y4b.M.G.length g4, .bool y4b.M.bad, .slice g5 y4b.C.length g6, .slice g7 y4b.L.length g8] 83 := B0_2.ext hb3
    clear c0_0 c0_1 c0_2 c0_3 c0_4 d0_0 d0_1 d0_2 d0_3 d0_4 z0
    have s3 : w2.heap.size ≤ w3.heap.size := (by have h := hb3.size; first | omega | (simp at h; omega))
    obtain ⟨c0_0, c0_1, c0_2, c0_3, c0_4, d0_0, d0_1, d0_2, d0_3, d0_4⟩ := cells5 B0_3
    have z0 : w1.heap.size < w3.heap.size := B0_3.lt
    go_wp2_with (fail)
    go_at_call 88
    refine (refCall_ no _ y4b 0 1 0 0 0 _ (IsSys.mk rfl (IsInts.ext gW exq) (IsInts.ext gG exq) (IsCores.keep gC (show Ext _ _ from exq).keep) (IsEvs.keep gL (show Ext _ _ from exq).keep)) no_lt (by rw [show y4b.C.length = 1 by kernel_rfl]; decide)).calls.mono ?_
    rintro e w4 ⟨_, rfl, hb4, ht⟩
    rw [show callS y4b 0 1 [0, 0, 0] = zs4 0 from rfl] at ht
    obtain ⟨t1, t2, t3, t4, t5, t6, t7, t8, rfl, tW, tG, tC, tL⟩ := ht.opened
    have B0_4 : Box w4 (w1.heap.size) #[.slice g1 y4b.M.W.length g2, .slice g3 y4b.M.G.length g4, .bool y4b.M.bad, .slice g5 y4b.C.length g6, .slice g7 y4b.L.length g8] 83 := B0_3.ext hb4
    clear c0_0 c0_1 c0_2 c0_3 c0_4 d0_0 d0_1 d0_2 d0_3 d0_4 z0
    have s4 : w3.heap.size ≤ w4.heap.size := (by have h := hb4.size; first | omega | (simp at h; omega))
    obtain ⟨c0_0, c0_1, c0_2, c0_3, c0_4, d0_0, d0_1, d0_2, d0_3, d0_4⟩ := cells5 B0_4
    have z0 : w1.heap.size < w4.heap.size := B0_4.lt
    go_wp2
    obtain ⟨B, hB⟩ : ∃ B, B = w4.heap.size := ⟨_, rfl⟩
    have hWk : Ext w w4 := exq
    go_loopw [6] (fun i wr => ∃ k : Nat, i = .int .i64 k ∧ Sh4R w w4 l1 (.slice la l1.length lc) k wr) (fun i _ => 3 - (intOf i).toNat)
    case atStart => exact ⟨0, rfl, by omega, _, _, _, _, _, (Box.newAt _ _ _ (by first | rfl | simp)), (IsSys.bxn ht).ext exq, ((IsInts.ext hl1 (show Ext _ w4 from exq)).bxn).ext exq, exq⟩
    case round =>
    obtain ⟨k, rfl, hk3, v0, v1, v2, v3, v4, hbx, hsys, hl, hWx⟩ := hrel
    obtain ⟨w9, rfl⟩ : ∃ w9 : World, w9 = wr := ⟨_, rfl⟩
    have s9 : w4.heap.size < w9.heap.size := hbx.lt
    by_cases hlt : k < 3
    · have q1 : (k : Int) < 3 := by omega
      obtain ⟨cT_0, cT_1, cT_2, cT_3, cT_4, dT_0, dT_1, dT_2, dT_3, dT_4⟩ := cells5 hbx
      have zT : w4.heap.size < w9.heap.size := hbx.lt
      go_wp2_with (fail)
      go_at_call 111
      refine (step4_ (Bx no w4.heap.size (w4.heap.size + 1)) _ (zs4 k) 0 _ (hsys.ext exq) (fun b hb => (by have := hb.elim False.elim (fun q => q.2); omega)) (zs4_ok hlt).1 (zs4_ok hlt).2.1 (zs4_ok hlt).2.2.1 (zs4_ok hlt).2.2.2).calls.mono ?_
      rintro e w10 ⟨_, rfl, hb10, hr10⟩
      obtain ⟨r1, r2, r3, r4, r5, r6, r7, r8, rfl, _⟩ := hr10.opened
      have BT_10 : Box w10 (w4.heap.size) #[v0, v1, v2, v3, v4] 83 := hbx.ext hb10
      clear cT_0 cT_1 cT_2 cT_3 cT_4 dT_0 dT_1 dT_2 dT_3 dT_4 zT
      have s10 : w9.heap.size ≤ w10.heap.size := (by have h := hb10.size; first | omega | (simp at h; omega))
      obtain ⟨cT_0, cT_1, cT_2, cT_3, cT_4, dT_0, dT_1, dT_2, dT_3, dT_4⟩ := cells5 BT_10
      have zT : w4.heap.size < w10.heap.size := BT_10.lt
      go_wp2
      go_roundw
      case rel => exact ⟨k + 1, by simp, by omega, _, _, _, _, _, (((((BT_10.setCell _).setCell _).setCell _).setCell _).setCell _), IsSys.keep hr10 keq, IsInts.keep hl keq, exn⟩
      case measure => simp [intOf]; omega
    · obtain rfl : k = 3 := by omega
      have q1 : ¬ ((3 : Nat) : Int) < 3 := by decide
      obtain ⟨z1, z2, z3, z4, z5, z6, z7, z8, hze, zW, zG, zC, zL⟩ := hsys.lit (a := 140) (b := 4) (d := false) (n := 1) (m := 0) (by kernel_rfl) (by kernel_rfl) (by kernel_rfl) (by kernel_rfl) (by kernel_rfl)
      obtain ⟨rfl, rfl, rfl, rfl, rfl⟩ : v0 = .slice z1 140 z2 ∧ v1 = .slice z3 4 z4 ∧ v2 = .bool false ∧ v3 = .slice z5 1 z6 ∧ v4 = .slice z7 0 z8 := by simpa using hze
      clear hze
      obtain ⟨bb, ob, af, cf, ar, cr, rfl, zx, zn, _, _, _, e0, e1, _⟩ := IsCores.at zC (i := 0) (c := k4) zs43
      rw [show k4.F.length = 0 by kernel_rfl] at e0
      rw [show k4.V = 1 by kernel_rfl] at e1
      simp at e0 e1
      obtain ⟨cT_0, cT_1, cT_2, cT_3, cT_4, dT_0, dT_1, dT_2, dT_3, dT_4⟩ := cells5 hbx
      have zT : w4.heap.size < w9.heap.size := hbx.lt
      go_wp2_with (fail)
      go_at_call 105
      refine (walk_ no _ (zs4 3).M _ (IsMem.mk (m := (zs4 3).M) (by kernel_rfl) (IsInts.ext (zW.less fun _ _ h => h.elim) exq) (IsInts.ext (zG.less fun _ _ h => h.elim) exq)) no_lt zs4fit3).calls.mono ?_
      rintro e w10 ⟨_, rfl, hb10, u, rfl, hl2⟩
      rw [show (walkD (zs4 3).M).2 = true by kernel_rfl]
      obtain ⟨l2, hl2e⟩ : ∃ l, (walkD (zs4 3).M).1 = l := ⟨_, rfl⟩
      rw [hl2e] at hl2
      have HL2 := Lib.hid hl2e
      clear hl2e
      obtain ⟨lb, ld, rfl, _⟩ := hl2.opened
      have e0_10 := cell_ext e0 (show Ext w9 w10 from exq)
      have e1_10 := cell_ext e1 (show Ext w9 w10 from exq)
      have xb10 : bb < w10.heap.size := World.block_lt_of_cell? _ _ e1_10
      have BT_10 : Box w10 (w4.heap.size) #[.slice z1 140 z2, .slice z3 4 z4, .bool false, .slice (some ⟨bb, ob, none⟩) 1 z6, .slice z7 0 z8] 83 := hbx.ext hb10
      clear cT_0 cT_1 cT_2 cT_3 cT_4 dT_0 dT_1 dT_2 dT_3 dT_4 zT
      have s10 : w9.heap.size ≤ w10.heap.size := (by have h := hb10.size; first | omega | (simp at h; omega))
      obtain ⟨cT_0, cT_1, cT_2, cT_3, cT_4, dT_0, dT_1, dT_2, dT_3, dT_4⟩ := cells5 BT_10
      have zT : w4.heap.size < w10.heap.size := BT_10.lt
      go_wp2_with (fail)
      go_at_call 72
      refine (refInts_ no _ _ l1 [1, 2, 3] _ (IsInts.ext (hl.less (fun _ _ h => h.elim)) exq) (ints_box (Box.newAt _ _ _ (by first | rfl | simp)) rfl (by decide))).calls.mono ?_
      rintro e w11 ⟨_, rfl, hb11, rfl⟩
      rw [show (l1 == [1, 2, 3]) = true by rw [← HL1.out]; kernel_rfl]
      have e0_11 := cell_ext e0 (show Ext w9 w11 from exq)
      have e1_11 := cell_ext e1 (show Ext w9 w11 from exq)
      have xb11 : bb < w11.heap.size := World.block_lt_of_cell? _ _ e1_11
      have BT_11 : Box w11 (w4.heap.size) #[.slice z1 140 z2, .slice z3 4 z4, .bool false, .slice (some ⟨bb, ob, none⟩) 1 z6, .slice z7 0 z8] 83 := (BT_10.alloc _).ext hb11
      clear cT_0 cT_1 cT_2 cT_3 cT_4 dT_0 dT_1 dT_2 dT_3 dT_4 zT
      have s11 : w10.heap.size + 1 ≤ w11.heap.size := (by have h := hb11.size; first | omega | (simp at h; omega))
      obtain ⟨cT_0, cT_1, cT_2, cT_3, cT_4, dT_0, dT_1, dT_2, dT_3, dT_4⟩ := cells5 BT_11
      have zT : w4.heap.size < w11.heap.size := BT_11.lt
      go_wp2_with (fail)
      go_at_call 72
      refine (refInts_ no _ _ l2 [2, 3] _ (IsInts.ext (hl2) exq) (ints_box (Box.newAt _ _ _ (by first | rfl | simp)) rfl (by decide))).calls.mono ?_
      rintro e w12 ⟨_, rfl, hb12, rfl⟩
      rw [show (l2 == [2, 3]) = true by rw [← HL2.out]; kernel_rfl]
      have e0_12 := cell_ext e0 (show Ext w9 w12 from exq)
      have e1_12 := cell_ext e1 (show Ext w9 w12 from exq)
      have xb12 : bb < w12.heap.size := World.block_lt_of_cell? _ _ e1_12
      have BT_12 : Box w12 (w4.heap.size) #[.slice z1 140 z2, .slice z3 4 z4, .bool false, .slice (some ⟨bb, ob, none⟩) 1 z6, .slice z7 0 z8] 83 := (BT_11.alloc _).ext hb12
      clear cT_0 cT_1 cT_2 cT_3 cT_4 dT_0 dT_1 dT_2 dT_3 dT_4 zT
      have s12 : w11.heap.size + 1 ≤ w12.heap.size := (by have h := hb12.size; first | omega | (simp at h; omega))
      obtain ⟨cT_0, cT_1, cT_2, cT_3, cT_4, dT_0, dT_1, dT_2, dT_3, dT_4⟩ := cells5 BT_12
      have zT : w4.heap.size < w12.heap.size := BT_12.lt
      go_wp2_with (fail)
      go_at_call 107
      refine (own4_ 1 _).calls.mono ?_
      rintro e w13 ⟨_, rfl, hb13, rfl⟩
      rw [show own4 1 = true by rfl]
      have e0_13 := cell_ext e0 (show Ext w9 w13 from exq)
      have e1_13 := cell_ext e1 (show Ext w9 w13 from exq)
      have xb13 : bb < w13.heap.size := World.block_lt_of_cell? _ _ e1_13
      have BT_13 : Box w13 (w4.heap.size) #[.slice z1 140 z2, .slice z3 4 z4, .bool false, .slice (some ⟨bb, ob, none⟩) 1 z6, .slice z7 0 z8] 83 := BT_12.ext hb13
      clear cT_0 cT_1 cT_2 cT_3 cT_4 dT_0 dT_1 dT_2 dT_3 dT_4 zT
      have s13 : w12.heap.size ≤ w13.heap.size := (by have h := hb13.size; first | omega | (simp at h; omega))
      obtain ⟨cT_0, cT_1, cT_2, cT_3, cT_4, dT_0, dT_1, dT_2, dT_3, dT_4⟩ := cells5 BT_13
      have zT : w4.heap.size < w13.heap.size := BT_13.lt
      go_wp2_with (fail)
      go_at_call 107
      refine (own4_ 3 _).calls.mono ?_
      rintro e w14 ⟨_, rfl, hb14, rfl⟩
      rw [show own4 3 = false by rfl]
      have e0_14 := cell_ext e0 (show Ext w9 w14 from exq)
      have e1_14 := cell_ext e1 (show Ext w9 w14 from exq)
      have xb14 : bb < w14.heap.size := World.block_lt_of_cell? _ _ e1_14
      have BT_14 : Box w14 (w4.heap.size) #[.slice z1 140 z2, .slice z3 4 z4, .bool false, .slice (some ⟨bb, ob, none⟩) 1 z6, .slice z7 0 z8] 83 := BT_13.ext hb14
      clear cT_0 cT_1 cT_2 cT_3 cT_4 dT_0 dT_1 dT_2 dT_3 dT_4 zT
      have s14 : w13.heap.size ≤ w14.heap.size := (by have h := hb14.size; first | omega | (simp at h; omega))
      obtain ⟨cT_0, cT_1, cT_2, cT_3, cT_4, dT_0, dT_1, dT_2, dT_3, dT_4⟩ := cells5 BT_14
      have zT : w4.heap.size < w14.heap.size := BT_14.lt
      go_wp2
      go_ret
      exact ⟨_, rfl, exn, rfl⟩
end Go.Proofs.Ytcfbdfgondmkoaa
/- Rows of small integers among a law's arguments. -/
namespace Go.Proofs.Ytcfbdfgondmkoaa
open Go Go.RowKit Go.WideShapes
set_option linter.unusedSimpArgs false
set_option linter.unusedVariables false
set_option linter.unnecessarySimpa false

/-- a row of integers of a kind -/
def IsNums (k : IntKind) (w : World) (v : Value) (l : List Int) : Prop :=
  ∃ a cap, v = .slice a l.length cap ∧ l.length ≤ cap ∧ cap ≤ 9223372036854775807 ∧ ∀ i, i < l.length → ∃ b off, a = some ⟨b, off, none⟩ ∧ b < w.heap.size ∧ w.cell? ⟨b, off + i, none⟩ = some (.int k (gi l i)) ∧ (Lit.int k (gi l i)).wf = true
theorem okWide_slice {P : Program} {w : World} {e t : TypeId} {r : Reach} {base : Nat} {v : Value} (ht : P.underlying t = some (.slice e)) (h : Value.okWide P w r base t v) : ∃ p n c, v = .slice p n c := by
  unfold Value.okWide at h
  rw [ht] at h
  unfold Cell.okWide at h
  rw [ht] at h
  cases v <;> simp [Cell.ok, ht] at h ⊢
section
variable {H : Type} {enc : TypeId × Value → H} {w : World} {cs : List Value}
theorem Rd.nums {k : IntKind} {t e : TypeId} (ht : Proofs.Try.prog.underlying t = some (.slice e)) (he : Proofs.Try.prog.underlying e = some (.int k)) (hz : Proofs.Try.prog.cellsOf e = 1) (h : Rd enc Proofs.Try.prog w t cs) : ∃ v l, cs = [v] ∧ IsNums k w v l := by
  rcases Rd.slice h ht with rfl | ⟨a, len, cap, rfl, hl, hm, hx⟩
  · exact ⟨_, [], rfl, none, 0, rfl, by simp, by omega, fun i hi => by simp at hi⟩
  · rw [hz] at hx
    have hc : ∀ i, i < cap → ∃ n, w.cell? (a.add i) = some (.int k n) ∧ (Lit.int k n).wf = true := fun i hi => by
      obtain ⟨cs', h1, h2⟩ := hx i hi
      obtain ⟨n, rfl, hwf⟩ := Rd.int (k := k) h2 he
      obtain ⟨_, _, h3⟩ := World.cells?_some h1
      have := h3 0 (by omega)
      rw [Nat.mul_one] at this
      have e : (a.add i).add 0 = a.add i := by unfold Addr.add; simp
      rw [e] at this
      exact ⟨n, by simpa using this, hwf⟩
    obtain ⟨f, hf⟩ : ∃ f : Nat → Int, ∀ i, i < cap → w.cell? (a.add i) = some (.int k (f i)) ∧ (Lit.int k (f i)).wf = true :=
      ⟨fun i => if hi : i < cap then Classical.choose (hc i hi) else 0, fun i hi => by simp only [dif_pos hi]; exact Classical.choose_spec (hc i hi)⟩
    refine ⟨_, (List.range len).map f, rfl, some a, cap, by simp, by simpa using hl, by simpa [maxLen] using hm, fun i hi => ?_⟩
    have hi' : i < len := by simpa using hi
    have h1 := (hf i (by omega)).1
    have h2 := (hf i (by omega)).2
    obtain ⟨b, off, spot⟩ := a
    have hspot : spot = none := by
      have := World.cell?_spot (hf 0 (by omega)).1
      simpa [Addr.add] using this
    subst hspot
    have hadd : (⟨b, off, none⟩ : Addr).add i = ⟨b, off + i, none⟩ := by unfold Addr.add; split <;> simp_all
    rw [hadd] at h1
    have hg : gi ((List.range len).map f) i = f i := by simp [gi, List.getD_eq_getElem?_getD, hi']
    rw [hg]
    exact ⟨b, off, rfl, World.block_lt_of_cell? w _ h1, h1, h2⟩
end
end Go.Proofs.Ytcfbdfgondmkoaa
/- The play of chapter 4's law: what stands in the world between two rounds. -/
namespace Go.Proofs.Ytcfbdfgondmkoaa
open Go Go.RowKit
set_option linter.unusedSimpArgs false
set_option linter.unusedVariables false
set_option linter.unnecessarySimpa false

theorem ret_cell_tmp2 {P : Program} {w : World} {fn : Func} {p u q : Tmp} {t : TypeId} {d : TypeDesc} {T : TypeId} {b : Nat} {cs : Array Value} {tmps : Array Value} (hB : Box w b cs T) (hr : fn.results = #[.cell p t, .tmp u, .tmp q]) (hp : tmps.getD p undef = .pointer (some ⟨b, 0, none⟩)) (ht : P.underlying t = some d) (hd : (match d with | .struct _ | .array _ _ => true | _ => false) = true)
    (hz : (P.info? t).map (·.size) = some cs.size) : (results fn tmps).run P w = .ok (.tuple #[.agg cs, tmps.getD u undef, tmps.getD q undef]) w := by
  have := run_loadVar_box (P := P) hB ht hd hz
  rw [Array.getD_eq_getD_getElem?] at hp
  simp only [results, hr]
  simp [Sem.run_bind, Result.andThen, hp, asAddr, this]
def NP (B0 T RB : Nat) (vs : Array Value) (b : Nat) : Prop := b = B0 ∨ NR T RB vs b
def zero83 : Array Value := #[.slice none 0 0, .slice none 0 0, .bool false, .slice none 0 0, .slice none 0 0]
theorem OwnAt.shape {base : Nat} {w : World} {v : Value} {l : List Int} (h : OwnAt base w v l) : ∃ a cap, v = .slice a l.length cap ∧ (0 < l.length → ∃ g o, a = some ⟨g, o, none⟩ ∧ base ≤ g ∧ 0 < cap ∧ w.cell? ⟨g, o, none⟩ = some (.int .i64 (gi l 0))) := by
  rcases h with ⟨rfl, rfl⟩ | ⟨g, o, cap, cur, rfl, hb, hg, hc, hm, hs, hx⟩
  · exact ⟨none, 0, rfl, fun h => by simp at h⟩
  · refine ⟨_, cap, rfl, fun h0 => ⟨g, o, rfl, hb, by omega, hg.cell ?_⟩⟩
    rw [nth_eq]
    simpa using hx 0 h0
section
variable {B0 T RB i : Nat} {w A w' : World} {vs : Array Value} {own : List (List Int)} {v v' va : Value} {l' : List Int} {csT csB : Array Value} {tT tB : TypeId} {s : SysD}
theorem NP.lt (h : IsRows (RB + 1) RB A vs own) (h0 : B0 < A.heap.size) (hT : T < A.heap.size) : ∀ b, NP B0 T RB vs b → b < A.heap.size := by
  rintro b (rfl | hb)
  · exact h0
  · exact h.lt hT b hb
theorem IsRows.round (h : IsRows (RB + 1) RB A vs own) (hv : vs[i]? = some v) (hg : A.grownBy w' v.ownBlock) (hO : OwnAt (RB + 1) w' v' l') (hb : ∀ b, v'.ownBlock = some b → v.ownBlock = some b ∨ A.heap.size ≤ b)
    (hT : T < RB) (hB : B0 < RB) (hbT : Box A T csT tT) (hbB : Box A B0 csB tB) (hs : IsSys (NP B0 T RB vs) A va s) (hw : Ext w A) (hr : w.heap.size ≤ RB) :
    Box (w'.setCell ⟨RB, i, none⟩ v') T csT tT ∧ Box (w'.setCell ⟨RB, i, none⟩ v') B0 csB tB ∧ IsSys (NP B0 T RB (vs.setIfInBounds i v')) (w'.setCell ⟨RB, i, none⟩ v') va s ∧ IsRows (RB + 1) RB (w'.setCell ⟨RB, i, none⟩ v') (vs.setIfInBounds i v') (own.set i l') ∧ Ext w (w'.setCell ⟨RB, i, none⟩ v') := by
  obtain ⟨l, hl, hO0⟩ := h.at hv
  have hbase : ∀ k, v.ownBlock = some k → RB + 1 ≤ k := fun k hk => (hO0.base k hk).1
  have k1 : Keep (fun b => b = RB ∨ v.ownBlock = some b) A (w'.setCell ⟨RB, i, none⟩ v') := (grown_keep hg (fun k e => .inr e) : Keep (fun b => b = RB ∨ v.ownBlock = some b) A w').s (.inl rfl)
  refine ⟨hbT.keep k1 ?_, hbB.keep k1 ?_, ?_, h.turn hv hg hO hb, ?_⟩
  · rintro (h1 | h1)
    · omega
    · have := hbase _ h1; omega
  · rintro (h1 | h1)
    · omega
    · have := hbase _ h1; omega
  · have h1 : IsSys (fun b => NP B0 T RB vs b ∨ A.heap.size ≤ b) A va s := hs.less fun b hb2 hn => hn.elim id fun h => by omega
    have k2 : Keep (fun b => NP B0 T RB vs b ∨ A.heap.size ≤ b) A (w'.setCell ⟨RB, i, none⟩ v') := (grown_keep hg (fun k e => .inl (.inr (.inr (.inr ⟨i, v, hv, e⟩)))) : Keep (fun b => NP B0 T RB vs b ∨ A.heap.size ≤ b) A w').s (.inl (.inr (.inr (.inl rfl))))
    refine (h1.keep k2).less fun b _ hn => ?_
    rcases Nat.lt_or_ge b A.heap.size with hlt | hge
    · rcases hn with rfl | hn
      · exact .inl (.inl rfl)
      · exact .inl (.inr (IsRows.turnLess hv hb b hlt hn))
    · exact .inr hge
  · exact (grown_ext hg hw fun k hk => by have := hbase k hk; omega).store _ _ hr
/-- what a round of the play finds -/
def PlR (B0 T RB c n : Nat) (l : List Int) (k : Nat) (w wr : World) : Prop :=
  ∃ (s : SysD) (own : List (List Int)) (vs : Array Value) (v0 v1 v2 v3 v4 : Value), (l.take k).foldl (play1 c) (play0 c n) = (s, own) ∧ PlayOk c n k (s, own) ∧ Box wr T #[v0, v1, v2, v3, v4] 83 ∧ Box wr B0 zero83 83 ∧
    IsSys (NP B0 T RB vs) wr (.agg #[v0, v1, v2, v3, v4]) s ∧ IsRows (RB + 1) RB wr vs own ∧ Ext w wr
theorem play_next {c n k : Nat} {l : List Int} {s s1 S2 : SysD} {own own1 own2 : List (List Int)} {i : Nat} {pk : Int} {f : FrameD} (hk : k < l.length) (hpk : gi l k = pk) (hst : (l.take k).foldl (play1 c) (play0 c n) = (s, own)) (hi : pk % (c : Int) = (i : Int))
    (hb : begin4 s own i pk = (s1, own1)) (hS : step4 s1 (i : Nat) = S2) (hf : topF s1 i = f) (ho : endOwn S2 f i own1 = own2) : (l.take (k + 1)).foldl (play1 c) (play0 c n) = (S2, own2) := by
  rw [play_take hk, hst, hpk, play1_eq (by rw [hi]; rfl) hb, hS, hf, ho]
theorem play_ok {c n k : Nat} {l : List Int} {s : SysD} {own : List (List Int)} {st2 : SysD × List (List Int)} (hc : 1 ≤ c) (hk : k < l.length) (hl : l.length ≤ 1000) (hst : (l.take k).foldl (play1 c) (play0 c n) = (s, own)) (hok : PlayOk c n k (s, own)) (h2 : (l.take (k + 1)).foldl (play1 c) (play0 c n) = st2) : PlayOk c n (k + 1) st2 := by
  rw [← h2, play_take hk, hst]
  exact hok.next hc (by omega) _
end
end Go.Proofs.Ytcfbdfgondmkoaa
/- The play of chapter 4's law, plain: a pop begun behind it. -/
namespace Go.Proofs.Ytcfbdfgondmkoaa
open Go Go.RowKit
set_option linter.unusedSimpArgs false
set_option linter.unusedVariables false
set_option linter.unnecessarySimpa false

theorem IsNums.ext {k : IntKind} {w w' : World} {v : Value} {l : List Int} (h : IsNums k w v l) (e : Ext w w') : IsNums k w' v l := by
  obtain ⟨a, cap, rfl, h1, h2, h3⟩ := h
  refine ⟨a, cap, rfl, h1, h2, fun i hi => ?_⟩
  obtain ⟨b, off, h4, h5, h6, h7⟩ := h3 i hi
  exact ⟨b, off, h4, Nat.lt_of_lt_of_le h5 e.size, cell_ext h6 e, h7⟩
theorem IsNums.shape {k : IntKind} {w : World} {v : Value} {l : List Int} (h : IsNums k w v l) : ∃ a cap, v = .slice a l.length cap := by
  obtain ⟨a, cap, rfl, _⟩ := h
  exact ⟨a, cap, rfl⟩
section
variable {c n T i : Nat} {s : SysD} {own : List (List Int)} {L : List Int} {cc : CoreD} {f : FrameD}
theorem full_call (I : Inv c n T s own [] L) (hi : i < c) (hcc : s.C[i]? = some cc) (h0 : cc.F = []) :
    ∃ cc1, (callS s i 1 [0, 0, 0]).C[i]? = some cc1 ∧ cc1.F = [newF 1 [0, 0, 0]] ∧ Inv c n T (callS s i 1 [0, 0, 0]) own [] L ∧ (callS s i 1 [0, 0, 0]).M = s.M ∧ (callS s i 1 [0, 0, 0]).L = s.L := by
  have ht : topD s i = none := by rw [top_at hcc, h0]; rfl
  have hb : begin4 s own i 0 = (callS s i 1 [0, 0, 0], own) := begin4_pop (by rw [ht]; rfl) rfl (fun h => by simp at h)
  obtain ⟨cc1, f1, h1, h2, I1, e1, e2, _⟩ := begin_inv I hi 0
  rw [hb] at h1 I1 e1 e2
  refine ⟨cc1, h1, ?_, I1, e2, e1⟩
  have h3 : (callS s i 1 [0, 0, 0]).C[i]? = some { cc with F := [newF 1 [0, 0, 0]] } := by
    rw [call_at hcc h0]
    have := get_lt hcc
    simp [this]
  have h4 : some cc1 = some { cc with F := [newF 1 [0, 0, 0]] } := h1.symm.trans h3
  cases h4
  rfl
theorem full_end (I : Inv c n T s own [] L) (hi : i < c) (hk : s.C[i]? = some cc) (hf : cc.F = [f]) (hT : T < 1000000) (hop : f.op = 1) (hpc : f.pc = 0) :
    ∃ c2, (step4 s i).C[i]? = some c2 ∧ (step4 s i).C.length = c ∧ ((countD s.M.G 1 0 = 0 ∧ c2.F.length = 0 ∧ c2.E = 2 ∧ (step4 s i).L.length = s.L.length + 1) ∨ (countD s.M.G 1 0 ≠ 0 ∧ c2.F.length = 1)) := by
  obtain ⟨c2, h1, h2⟩ := full_step I hk hf hT hop hpc
  have hlt := get_lt hk
  refine ⟨c2, by rw [h1]; simp [hlt], by rw [h1]; simpa using I.lc, ?_⟩
  rcases h2 with ⟨a, b, c, d⟩ | ⟨a, b⟩
  · exact .inl ⟨a, by rw [b]; rfl, c, d⟩
  · exact .inr ⟨a, b⟩
theorem tag_end (I : Inv c n T s own [] L) (hk : s.C[i]? = some cc) (hf : cc.F = [f]) (hT : T < 1000000) :
    ∃ c2, (step4 s i).C[i]? = some c2 ∧ (step4 s i).C.length = c ∧ (step4 s i).M.W.length = s.M.W.length ∧ (c2.F.length = 0 ∧ c2.E = 0 ∧ tagI (gi (step4 s i).M.W 0) = tagI (gi s.M.W 0) + 1 ∨ (c2.F.length = 1 ∨ c2.F.length = 0 ∧ c2.E = 2) ∧ gi (step4 s i).M.W 0 = gi s.M.W 0) := by
  obtain ⟨c2, h1, hw, h2⟩ := tag_step I hk hf hT
  have hlt := get_lt hk
  refine ⟨c2, by rw [h1]; simp [hlt], by rw [h1]; simpa using I.lc, hw, ?_⟩
  rcases h2 with ⟨a, b, c⟩ | ⟨a | ⟨a, b⟩, c⟩
  · exact .inl ⟨by rw [a]; rfl, b, c⟩
  · exact .inr ⟨.inl a, c⟩
  · exact .inr ⟨.inr ⟨by rw [a]; rfl, b⟩, c⟩
theorem Inv.wk (I : Inv c n T s own [] L) {k : Nat} (hT : T ≤ k) (hL : s.L.length ≤ k) : Wk c n k s := ⟨⟨T, own, L, hT, I⟩, hL⟩
theorem top_facts (I : Inv c n T s own [] L) (hi : i < c) : ∃ cc, s.C[i]? = some cc ∧ (((topD s i).isSome = false ∧ topD s i = Option.none ∧ topF s i = zeroF ∧ cc.F = []) ∨ ∃ f, (topD s i).isSome = true ∧ topF s i = f ∧ cc.F = [f] ∧ FrOk n T s.M.W f) := by
  obtain ⟨cc, hcc⟩ := getSome' (show i < s.C.length by rw [I.lc]; exact hi)
  refine ⟨cc, hcc, ?_⟩
  rcases I.top hcc with ⟨h1, h2⟩ | ⟨f, h1, h2, h3⟩
  · exact .inl ⟨by rw [h1]; rfl, h1, by unfold topF; rw [h1]; rfl, h2⟩
  · exact .inr ⟨f, by rw [h1]; rfl, by unfold topF; rw [h1]; rfl, h2, h3⟩
end
end Go.Proofs.Ytcfbdfgondmkoaa
/- Chapter 4: the play: cores that pop and push by picks. -/
namespace Go.Proofs.Ytcfbdfgondmkoaa
open Go Go.RowKit
set_option linter.unusedSimpArgs false
set_option linter.unusedVariables false
set_option linter.unnecessarySimpa false

theorem quo8 {pk : Int} (lo : 0 ≤ pk) (hi : pk ≤ 65535) : ((IntKind.u16.wrap (pk.tdiv 8)).tmod 2 == 1) = decide (pk / 8 % 2 = 1) := by
  rw [Int.tdiv_eq_ediv_of_nonneg lo]
  have h2 : IntKind.u16.wrap (pk / 8) = pk / 8 := by
    simp [IntKind.wrap, IntKind.bits, IntKind.signed]
    omega
  rw [h2, Int.tmod_eq_emod_of_nonneg (by omega)]
  rfl
theorem isNone_on {α : Type} {o : Option α} (h : o.isSome = false) : o.isNone = true := by cases o <;> simp_all
theorem isNone_off {α : Type} {o : Option α} (h : o.isSome = true) : o.isNone = false := by cases o <;> simp_all
set_option maxHeartbeats 8000000 in
set_option maxRecDepth 100000 in
theorem play_ (c n : Nat) (l : List Int) (pv : Value) (w : World) (hc : 1 ≤ c) (hc' : c ≤ 8) (hn : 1 ≤ n) (hn' : n ≤ 200) (hl : l.length ≤ 1000) (hp : IsNums .u16 w pv l) :
    Gives Proofs.Try.prog 113 #[.int .i64 (c : Int), .int .i64 (n : Int), pv] w (fun r w' => ∃ RB u vs, r = .tuple #[u, .slice (some ⟨RB, 0, none⟩) c c, .bool true] ∧ IsSys no w' u (playD c n l).1 ∧ IsRows (RB + 1) RB w' vs (playD c n l).2) := by
  obtain ⟨pa, pcap, rfl, hpc, hpm, hpx⟩ := hp
  have hc5 : c ≤ 100000 := by omega
  have F8 := Lib.hid (fun w' hN => refNew4_ (Bx no w.heap.size (w.heap.size + 1)) (c : Int) (n : Int) w' hN (show newIs (c : Int) (n : Int) = true by unfold newIs; simp; omega))
  have F1 := Lib.hid (PlayOk.start hc hc' hn hn')
  have hS0 : play0 c n = (new4 c n, List.replicate c []) := rfl
  rw [hS0] at F1
  generalize new4 (c : Int) (n : Int) = S0 at F1 F8 hS0
  have HS0 := Lib.hid hS0
  have HPX := Lib.hid hpx
  have hc9 : c ≤ 100 := by omega
  clear hS0 hpx hc' hn hn'
  go_enter Proofs.Try.func113, Proofs.Try.ntmps113
  go_wp2_with (fail)
  go_at_call 115
  refine (F8.out _ (fun b hb => (by have := hb.elim False.elim (fun q => q.2); simp; omega))).calls.mono ?_
  rintro e w1 ⟨_, rfl, hb1, hs0⟩
  obtain ⟨y1, y2, y3, y4, y5, y6, y7, y8, rfl, sW, sG, sC, sL⟩ := hs0.opened
  have B0_1 : Box w1 (w.heap.size) #[.slice none 0 0, .slice none 0 0, .bool false, .slice none 0 0, .slice none 0 0] 83 := (Box.newAt _ _ _ (by first | rfl | simp)).ext hb1
  have s1 : w.heap.size + 1 ≤ w1.heap.size := (by have h := hb1.size; first | omega | (simp at h; omega))
  obtain ⟨c0_0, c0_1, c0_2, c0_3, c0_4, d0_0, d0_1, d0_2, d0_3, d0_4⟩ := cells5 B0_1
  have z0 : w.heap.size < w1.heap.size := B0_1.lt
  go_wp2
  have hN0 : ∀ b, NP w.heap.size w1.heap.size (w1.heap.size + 1) (nils c) b → Bx (Bx no w.heap.size (w.heap.size + 1)) w1.heap.size (w1.heap.size + 2) b := by
    rintro b (rfl | rfl | rfl | ⟨j, u, hu, hub⟩)
    · exact .inl (.inr ⟨by omega, by omega⟩)
    · exact .inr ⟨by omega, by omega⟩
    · exact .inr ⟨by omega, by omega⟩
    · have hj : j < c := by have := (Array.getElem?_eq_some_iff.1 hu).1; rwa [nils_size] at this
      rw [nils_get hj] at hu
      cases hu
      cases hub
  go_loopw [11] (fun i wr => ∃ k : Nat, i = .int .i64 (k : Int) ∧ k ≤ l.length ∧ PlR w.heap.size w1.heap.size (w1.heap.size + 1) c n l k w wr) (fun i _ => l.length - (intOf i).toNat)
  case atStart =>
    exact ⟨0, rfl, by omega, S0, List.replicate c [], nils c, _, _, _, _, _, HS0.out, F1.out, ((Box.newAt _ _ _ (by first | rfl | simp)).alloc _), ((B0_1.alloc _).alloc _),
      ((IsSys.bxn hs0).less fun b _ hb => hN0 b hb).ext exq, IsRows.made (Box.newAt _ _ _ (by first | rfl | simp)) (by omega), exq⟩
  case round =>
    obtain ⟨k, rfl, hk, s, own, vs, v0, v1, v2, v3, v4, hst, hok, hbT, hbB, hsys, hrows, hWx⟩ := hrel
    obtain ⟨w9, rfl⟩ : ∃ w9 : World, w9 = wr := ⟨_, rfl⟩
    have s9 : w1.heap.size + 1 < w9.heap.size := hrows.box.lt
    have hbB : Box w9 w.heap.size #[.slice none 0 0, .slice none 0 0, .bool false, .slice none 0 0, .slice none 0 0] 83 := hbB
    have HST := Lib.hid hst; have HOK := Lib.hid hok
    clear hst hok hN0 F1 F8 HS0
    by_cases hlt : k < l.length
    · have q1 : (k : Int) < (l.length : Int) := by omega
      obtain ⟨pb, po, rfl, hpb, hpe, hpw⟩ := HPX.out k hlt
      obtain ⟨pk, hpk⟩ : ∃ pk, gi l k = pk := ⟨_, rfl⟩
      rw [hpk] at hpe hpw
      obtain ⟨plo, phi⟩ := wf_u16 hpw
      have HPK := Lib.hid hpk
      clear hpk hpw HPX
      have hpe9 := cell_ext hpe hWx
      obtain ⟨i, hi⟩ : ∃ i : Nat, pk % (c : Int) = (i : Int) := ⟨(pk % (c : Int)).toNat, by have := Int.emod_nonneg pk (show (c : Int) ≠ 0 by omega); omega⟩
      have hic : i < c := by have := Int.emod_lt_of_pos pk (show (0 : Int) < c by omega); omega
      obtain ⟨hlo, hlc⟩ := HOK.out.lens
      have hio : i < own.length := by omega
      have hCb : s.C.length ≤ 100000 := by omega
      clear hlo hlc
      have hN9 := NP.lt (B0 := w.heap.size) (T := w1.heap.size) hrows (by omega) (by omega)
      have hcn : ¬ (c : Int) = 0 := by omega
      have hiZ : (i : Int) < (c : Int) := by omega
      have HI := Lib.hid hi
      obtain ⟨cT_0, cT_1, cT_2, cT_3, cT_4, dT_0, dT_1, dT_2, dT_3, dT_4⟩ := cells5 hbT
      have zT : w1.heap.size < w9.heap.size := hbT.lt
      obtain ⟨cZ_0, cZ_1, cZ_2, cZ_3, cZ_4, dZ_0, dZ_1, dZ_2, dZ_3, dZ_4⟩ := cells5 hbB
      have zZ : w.heap.size < w9.heap.size := hbB.lt
      go_wp2_with (fail)
      go_at_call 82
      refine (refTop_ (NP w.heap.size w1.heap.size (w1.heap.size + 1) vs) _ s i _ (hsys.ext exq)).calls.mono ?_
      rintro e w10 ⟨_, rfl, hb10, u, rfl, hu10⟩
      obtain ⟨tf, htf⟩ : ∃ f, topF s i = f := ⟨_, rfl⟩
      rw [htf] at hu10
      clear htf
      obtain ⟨fa, fc, rfl, f8, fs⟩ := hu10.opened
      have BT_10 : Box w10 (w1.heap.size) #[v0, v1, v2, v3, v4] 83 := hbT.ext hb10
      have BZ_10 : Box w10 (w.heap.size) #[.slice none 0 0, .slice none 0 0, .bool false, .slice none 0 0, .slice none 0 0] 83 := hbB.ext hb10
      clear cT_0 cT_1 cT_2 cT_3 cT_4 dT_0 dT_1 dT_2 dT_3 dT_4 zT cZ_0 cZ_1 cZ_2 cZ_3 cZ_4 dZ_0 dZ_1 dZ_2 dZ_3 dZ_4 zZ
      have s10 : w9.heap.size ≤ w10.heap.size := (by have h := hb10.size; first | omega | (simp at h; omega))
      obtain ⟨cT_0, cT_1, cT_2, cT_3, cT_4, dT_0, dT_1, dT_2, dT_3, dT_4⟩ := cells5 BT_10
      have zT : w1.heap.size < w10.heap.size := BT_10.lt
      obtain ⟨cZ_0, cZ_1, cZ_2, cZ_3, cZ_4, dZ_0, dZ_1, dZ_2, dZ_3, dZ_4⟩ := cells5 BZ_10
      have zZ : w.heap.size < w10.heap.size := BZ_10.lt
      go_upto_if 43 with (fail)
      obtain ⟨w11, hw11⟩ : ∃ x, x = (w10.alloc (.cells #[.int .i64 tf.op, .int .i64 tf.pc, .int .i64 (gi tf.R 0), .int .i64 (gi tf.R 1), .int .i64 (gi tf.R 2), .int .i64 (gi tf.R 3), .int .i64 (gi tf.R 4), .int .i64 (gi tf.R 5), .int .i64 (gi tf.R 6), .int .i64 (gi tf.R 7), .slice fa tf.S.length fc] 95 (0, 0))) := ⟨_, rfl⟩
      have bT11 : Box w11 (w1.heap.size) #[v0, v1, v2, v3, v4] 83 := by rw [hw11]; exact (BT_10.alloc _)
      have bZ11 : Box w11 (w.heap.size) #[.slice none 0 0, .slice none 0 0, .bool false, .slice none 0 0, .slice none 0 0] 83 := by rw [hw11]; exact (BZ_10.alloc _)
      have sys11 : IsSys (NP w.heap.size w1.heap.size (w1.heap.size + 1) vs) w11 (.agg #[v0, v1, v2, v3, v4]) s := by rw [hw11]; exact hsys.ext exq
      have rows11 : IsRows ((w1.heap.size + 1) + 1) (w1.heap.size + 1) w11 vs own := by rw [hw11]; exact hrows.ext exq
      have X11 : Ext w w11 := by rw [hw11]; exact exq
      have Y11 : Ext w9 w11 := by rw [hw11]; exact exq
      rw [← hw11]
      clear hw11 cT_0 cT_1 cT_2 cT_3 cT_4 dT_0 dT_1 dT_2 dT_3 dT_4 zT cZ_0 cZ_1 cZ_2 cZ_3 cZ_4 dZ_0 dZ_1 dZ_2 dZ_3 dZ_4 zZ
      have hN11 : ∀ b, (NP w.heap.size w1.heap.size (w1.heap.size + 1) vs) b → b < w11.heap.size := fun b hb => Nat.lt_of_lt_of_le (hN9 b hb) Y11.size
      have pe11 := cell_ext hpe X11
      have s11 : w9.heap.size ≤ w11.heap.size := Y11.size
      clear hpe9 hbT hbB hsys hrows hWx hN9
      go_cut [14, 15] from 23 to 132 (fun _ _ wc => ∃ (s1 : SysD) (own1 : List (List Int)) (vs1 : Array Value) (x0 x1 x2 x3 x4 : Value), begin4 s own i pk = (s1, own1) ∧ Box wc w1.heap.size #[x0, x1, x2, x3, x4] 83 ∧ Box wc w.heap.size zero83 83 ∧
          IsSys (NP w.heap.size w1.heap.size (w1.heap.size + 1) vs1) wc (.agg #[x0, x1, x2, x3, x4]) s1 ∧ IsRows ((w1.heap.size + 1) + 1) (w1.heap.size + 1) wc vs1 own1 ∧ Ext w wc)
      case first =>
        obtain ⟨o, ho⟩ := getSome' hio
        obtain ⟨v, hv, hO⟩ := rows11.row i o ho
        have hgl := Lib.hid (gl_some ho)
        obtain ⟨va, vc, rfl, hvs⟩ := hO.shape
        have er : w11.cell? ⟨(w1.heap.size + 1), i, none⟩ = some (.slice va o.length vc) := rows11.box.cell (by rw [nth_eq]; simpa using hv)
        have efr : w11.frozen? ⟨(w1.heap.size + 1), i, none⟩ = false := rows11.box.frozen
        have hiv : i < vs.size := by rw [rows11.size]; exact hio
        have hNT : (NP w.heap.size w1.heap.size (w1.heap.size + 1) vs) w1.heap.size := .inr (.inl rfl)
        cases ht : (topD s (i : Int)).isSome
        · rw [isNone_on ht]
          by_cases h0 : 0 < o.length
          · have q2 : (0 : Int) < (o.length : Int) := by omega
            by_cases h1 : pk / 8 % 2 = 1
            · obtain ⟨g, go, rfl, hgb, hc0, hg0⟩ := hvs h0
              have er : w11.cell? ⟨(w1.heap.size + 1), i, none⟩ = some (.slice (some ⟨g, go, none⟩) o.length vc) := er
              by_cases hcap : vc = 1
              · subst hcap
                have hO2 : OwnAt ((w1.heap.size + 1) + 1) w11 (.slice (some ⟨g, go, none⟩) 0 0) (o.drop 1) := by
                  have h := hO.drop0 h0
                  have h8 : o.length ≤ 1 := by rcases hO with ⟨h, _⟩ | ⟨g1, o1, cap1, cur1, h, _, _, h2, _⟩ <;> cases h; exact h2
                  rwa [show o.length - 1 = 0 by omega] at h
                have q3 : 1 ≤ o.length := h0
                have q8 : ((IntKind.u16.wrap (pk.tdiv 8)).tmod 2 == 1) = true := by rw [quo8 plo phi]; exact decide_eq_true h1
                have q4 : 1 ≤ 1 := by omega
                have hoc : o.length ≤ 1 := by rcases hO with ⟨h, _⟩ | ⟨g1, o1, cap1, cur1, h, _, _, h2, _⟩ <;> cases h; exact h2
                obtain ⟨cT_0, cT_1, cT_2, cT_3, cT_4, dT_0, dT_1, dT_2, dT_3, dT_4⟩ := cells5 bT11
                have zT : w1.heap.size < w11.heap.size := bT11.lt
                obtain ⟨cZ_0, cZ_1, cZ_2, cZ_3, cZ_4, dZ_0, dZ_1, dZ_2, dZ_3, dZ_4⟩ := cells5 bZ11
                have zZ : w.heap.size < w11.heap.size := bZ11.lt
                go_upto_region 12 with (fail)
                obtain ⟨w13, hw13⟩ : ∃ x, x = w11.setCell ⟨(w1.heap.size + 1), i, none⟩ (.slice (some ⟨g, go, none⟩) 0 0) := ⟨_, rfl⟩
                have hR := rows11.round (w := w) (B0 := w.heap.size) (T := w1.heap.size) hv (World.grownBy.refl _ _) hO2 (fun b hb => .inl hb) (by omega) (by omega) bT11 bZ11 sys11 X11 (by omega)
                rw [← hw13] at hR
                rw [← hw13]
                obtain ⟨bT13, bZ13, sys13, rows13, X13⟩ := hR
                have hN13 := NP.lt (B0 := w.heap.size) (T := w1.heap.size) rows13 bZ13.lt bT13.lt
                have hNT : (NP w.heap.size w1.heap.size (w1.heap.size + 1) (vs.setIfInBounds i (.slice (some ⟨g, go, none⟩) 0 0))) w1.heap.size := .inr (.inl rfl)
                have s13 : w11.heap.size ≤ w13.heap.size := by rw [hw13]; simp
                clear hw13 cT_0 cT_1 cT_2 cT_3 cT_4 dT_0 dT_1 dT_2 dT_3 dT_4 zT cZ_0 cZ_1 cZ_2 cZ_3 cZ_4 dZ_0 dZ_1 dZ_2 dZ_3 dZ_4 zZ
                obtain ⟨cT_0, cT_1, cT_2, cT_3, cT_4, dT_0, dT_1, dT_2, dT_3, dT_4⟩ := cells5 bT13
                have zT : w1.heap.size < w13.heap.size := bT13.lt
                obtain ⟨cZ_0, cZ_1, cZ_2, cZ_3, cZ_4, dZ_0, dZ_1, dZ_2, dZ_3, dZ_4⟩ := cells5 bZ13
                have zZ : w.heap.size < w13.heap.size := bZ13.lt
                go_wp2_with (fail)
                go_at_call 88
                refine (refCall_ (NP w.heap.size w1.heap.size (w1.heap.size + 1) (vs.setIfInBounds i (.slice (some ⟨g, go, none⟩) 0 0))) _ s i 2 (gi o 0) 0 0 _ (sys13.ext exq) hN13 hCb).calls.mono ?_
                rintro e w14 ⟨_, rfl, hb14, hr14⟩
                obtain ⟨r1, r2, r3, r4, r5, r6, r7, r8, rfl, _⟩ := hr14.opened
                have BT_14 : Box w14 (w1.heap.size) #[v0, v1, v2, v3, v4] 83 := bT13.ext hb14
                have BZ_14 : Box w14 (w.heap.size) #[.slice none 0 0, .slice none 0 0, .bool false, .slice none 0 0, .slice none 0 0] 83 := bZ13.ext hb14
                clear cT_0 cT_1 cT_2 cT_3 cT_4 dT_0 dT_1 dT_2 dT_3 dT_4 zT cZ_0 cZ_1 cZ_2 cZ_3 cZ_4 dZ_0 dZ_1 dZ_2 dZ_3 dZ_4 zZ
                have s14 : w13.heap.size ≤ w14.heap.size := (by have h := hb14.size; first | omega | (simp at h; omega))
                obtain ⟨cT_0, cT_1, cT_2, cT_3, cT_4, dT_0, dT_1, dT_2, dT_3, dT_4⟩ := cells5 BT_14
                have zT : w1.heap.size < w14.heap.size := BT_14.lt
                obtain ⟨cZ_0, cZ_1, cZ_2, cZ_3, cZ_4, dZ_0, dZ_1, dZ_2, dZ_3, dZ_4⟩ := cells5 BZ_14
                have zZ : w.heap.size < w14.heap.size := BZ_14.lt
                go_wp2_with (fail)
                go_meet
                case rel => exact ⟨_, _, (vs.setIfInBounds i (.slice (some ⟨g, go, none⟩) 0 0)), _, _, _, _, _, begin4_push ht hgl.out h0 h1, (((((BT_14.setCell _).setCell _).setCell _).setCell _).setCell _), (((((BZ_14.setOther (by first | omega | (simp <;> omega)) _).setOther (by first | omega | (simp <;> omega)) _).setOther (by first | omega | (simp <;> omega)) _).setOther (by first | omega | (simp <;> omega)) _).setOther (by first | omega | (simp <;> omega)) _), IsSys.keep hr14 keq, rows13.keep (N := Bx no w1.heap.size (w1.heap.size + 1)) keq (fun h => (by have := h.elim False.elim (fun q => q.2); omega)) (fun b hb h => (by have := h.elim False.elim (fun q => q.2); omega)), exn⟩
              · have hO2 : OwnAt ((w1.heap.size + 1) + 1) w11 (.slice (some ⟨g, go + 1, none⟩) (o.length - 1) (vc - 1)) (o.drop 1) := (hO.drop1 h0).2
                have q3 : 1 ≤ o.length := h0
                have q8 : ((IntKind.u16.wrap (pk.tdiv 8)).tmod 2 == 1) = true := by rw [quo8 plo phi]; exact decide_eq_true h1
                have q4 : 1 ≤ vc := by omega
                have q5 : ¬ (vc : Int) = 1 := by omega
                have q6 : ¬ (vc : Int) - 1 = 0 := by omega
                have q7 : ¬ vc - 1 = 0 := by omega
                have hoc : o.length ≤ vc := by rcases hO with ⟨h, _⟩ | ⟨g1, o1, cap1, cur1, h, _, _, h2, _⟩ <;> cases h; exact h2
                obtain ⟨cT_0, cT_1, cT_2, cT_3, cT_4, dT_0, dT_1, dT_2, dT_3, dT_4⟩ := cells5 bT11
                have zT : w1.heap.size < w11.heap.size := bT11.lt
                obtain ⟨cZ_0, cZ_1, cZ_2, cZ_3, cZ_4, dZ_0, dZ_1, dZ_2, dZ_3, dZ_4⟩ := cells5 bZ11
                have zZ : w.heap.size < w11.heap.size := bZ11.lt
                go_upto_region 12 with (fail)
                obtain ⟨w13, hw13⟩ : ∃ x, x = w11.setCell ⟨(w1.heap.size + 1), i, none⟩ (.slice (some ⟨g, go + 1, none⟩) (o.length - 1) (vc - 1)) := ⟨_, rfl⟩
                have hR := rows11.round (w := w) (B0 := w.heap.size) (T := w1.heap.size) hv (World.grownBy.refl _ _) hO2 (fun b hb => .inl hb) (by omega) (by omega) bT11 bZ11 sys11 X11 (by omega)
                rw [← hw13] at hR
                rw [← hw13]
                obtain ⟨bT13, bZ13, sys13, rows13, X13⟩ := hR
                have hN13 := NP.lt (B0 := w.heap.size) (T := w1.heap.size) rows13 bZ13.lt bT13.lt
                have hNT : (NP w.heap.size w1.heap.size (w1.heap.size + 1) (vs.setIfInBounds i (.slice (some ⟨g, go + 1, none⟩) (o.length - 1) (vc - 1)))) w1.heap.size := .inr (.inl rfl)
                have s13 : w11.heap.size ≤ w13.heap.size := by rw [hw13]; simp
                clear hw13 cT_0 cT_1 cT_2 cT_3 cT_4 dT_0 dT_1 dT_2 dT_3 dT_4 zT cZ_0 cZ_1 cZ_2 cZ_3 cZ_4 dZ_0 dZ_1 dZ_2 dZ_3 dZ_4 zZ
                obtain ⟨cT_0, cT_1, cT_2, cT_3, cT_4, dT_0, dT_1, dT_2, dT_3, dT_4⟩ := cells5 bT13
                have zT : w1.heap.size < w13.heap.size := bT13.lt
                obtain ⟨cZ_0, cZ_1, cZ_2, cZ_3, cZ_4, dZ_0, dZ_1, dZ_2, dZ_3, dZ_4⟩ := cells5 bZ13
                have zZ : w.heap.size < w13.heap.size := bZ13.lt
                go_wp2_with (fail)
                go_at_call 88
                refine (refCall_ (NP w.heap.size w1.heap.size (w1.heap.size + 1) (vs.setIfInBounds i (.slice (some ⟨g, go + 1, none⟩) (o.length - 1) (vc - 1)))) _ s i 2 (gi o 0) 0 0 _ (sys13.ext exq) hN13 hCb).calls.mono ?_
                rintro e w14 ⟨_, rfl, hb14, hr14⟩
                obtain ⟨r1, r2, r3, r4, r5, r6, r7, r8, rfl, _⟩ := hr14.opened
                have BT_14 : Box w14 (w1.heap.size) #[v0, v1, v2, v3, v4] 83 := bT13.ext hb14
                have BZ_14 : Box w14 (w.heap.size) #[.slice none 0 0, .slice none 0 0, .bool false, .slice none 0 0, .slice none 0 0] 83 := bZ13.ext hb14
                clear cT_0 cT_1 cT_2 cT_3 cT_4 dT_0 dT_1 dT_2 dT_3 dT_4 zT cZ_0 cZ_1 cZ_2 cZ_3 cZ_4 dZ_0 dZ_1 dZ_2 dZ_3 dZ_4 zZ
                have s14 : w13.heap.size ≤ w14.heap.size := (by have h := hb14.size; first | omega | (simp at h; omega))
                obtain ⟨cT_0, cT_1, cT_2, cT_3, cT_4, dT_0, dT_1, dT_2, dT_3, dT_4⟩ := cells5 BT_14
                have zT : w1.heap.size < w14.heap.size := BT_14.lt
                obtain ⟨cZ_0, cZ_1, cZ_2, cZ_3, cZ_4, dZ_0, dZ_1, dZ_2, dZ_3, dZ_4⟩ := cells5 BZ_14
                have zZ : w.heap.size < w14.heap.size := BZ_14.lt
                go_wp2_with (fail)
                go_meet
                case rel => exact ⟨_, _, (vs.setIfInBounds i (.slice (some ⟨g, go + 1, none⟩) (o.length - 1) (vc - 1))), _, _, _, _, _, begin4_push ht hgl.out h0 h1, (((((BT_14.setCell _).setCell _).setCell _).setCell _).setCell _), (((((BZ_14.setOther (by first | omega | (simp <;> omega)) _).setOther (by first | omega | (simp <;> omega)) _).setOther (by first | omega | (simp <;> omega)) _).setOther (by first | omega | (simp <;> omega)) _).setOther (by first | omega | (simp <;> omega)) _), IsSys.keep hr14 keq, rows13.keep (N := Bx no w1.heap.size (w1.heap.size + 1)) keq (fun h => (by have := h.elim False.elim (fun q => q.2); omega)) (fun b hb h => (by have := h.elim False.elim (fun q => q.2); omega)), exn⟩
            · have q3 : ((IntKind.u16.wrap (pk.tdiv 8)).tmod 2 == 1) = false := by rw [quo8 plo phi]; exact decide_eq_false h1
              obtain ⟨cT_0, cT_1, cT_2, cT_3, cT_4, dT_0, dT_1, dT_2, dT_3, dT_4⟩ := cells5 bT11
              have zT : w1.heap.size < w11.heap.size := bT11.lt
              obtain ⟨cZ_0, cZ_1, cZ_2, cZ_3, cZ_4, dZ_0, dZ_1, dZ_2, dZ_3, dZ_4⟩ := cells5 bZ11
              have zZ : w.heap.size < w11.heap.size := bZ11.lt
              go_wp2_with (fail)
              go_at_call 88
              refine (refCall_ (NP w.heap.size w1.heap.size (w1.heap.size + 1) vs) _ s i 1 0 0 0 _ (sys11.ext exq) hN11 hCb).calls.mono ?_
              rintro e w12 ⟨_, rfl, hb12, hr12⟩
              obtain ⟨r1, r2, r3, r4, r5, r6, r7, r8, rfl, _⟩ := hr12.opened
              have BT_12 : Box w12 (w1.heap.size) #[v0, v1, v2, v3, v4] 83 := bT11.ext hb12
              have BZ_12 : Box w12 (w.heap.size) #[.slice none 0 0, .slice none 0 0, .bool false, .slice none 0 0, .slice none 0 0] 83 := bZ11.ext hb12
              clear cT_0 cT_1 cT_2 cT_3 cT_4 dT_0 dT_1 dT_2 dT_3 dT_4 zT cZ_0 cZ_1 cZ_2 cZ_3 cZ_4 dZ_0 dZ_1 dZ_2 dZ_3 dZ_4 zZ
              have s12 : w11.heap.size ≤ w12.heap.size := (by have h := hb12.size; first | omega | (simp at h; omega))
              obtain ⟨cT_0, cT_1, cT_2, cT_3, cT_4, dT_0, dT_1, dT_2, dT_3, dT_4⟩ := cells5 BT_12
              have zT : w1.heap.size < w12.heap.size := BT_12.lt
              obtain ⟨cZ_0, cZ_1, cZ_2, cZ_3, cZ_4, dZ_0, dZ_1, dZ_2, dZ_3, dZ_4⟩ := cells5 BZ_12
              have zZ : w.heap.size < w12.heap.size := BZ_12.lt
              go_wp2_with (fail)
              go_meet
              case rel => exact ⟨_, own, vs, _, _, _, _, _, begin4_pop ht hgl.out (fun h => h1 h.2), (((((BT_12.setCell _).setCell _).setCell _).setCell _).setCell _), (((((BZ_12.setOther (by first | omega | (simp <;> omega)) _).setOther (by first | omega | (simp <;> omega)) _).setOther (by first | omega | (simp <;> omega)) _).setOther (by first | omega | (simp <;> omega)) _).setOther (by first | omega | (simp <;> omega)) _), IsSys.keep hr12 keq, rows11.keep (N := Bx no w1.heap.size (w1.heap.size + 1)) keq (fun h => (by have := h.elim False.elim (fun q => q.2); omega)) (fun b hb h => (by have := h.elim False.elim (fun q => q.2); omega)), exn⟩
          · have q2 : ¬ (0 : Int) < (o.length : Int) := by omega
            obtain ⟨cT_0, cT_1, cT_2, cT_3, cT_4, dT_0, dT_1, dT_2, dT_3, dT_4⟩ := cells5 bT11
            have zT : w1.heap.size < w11.heap.size := bT11.lt
            obtain ⟨cZ_0, cZ_1, cZ_2, cZ_3, cZ_4, dZ_0, dZ_1, dZ_2, dZ_3, dZ_4⟩ := cells5 bZ11
            have zZ : w.heap.size < w11.heap.size := bZ11.lt
            go_wp2_with (fail)
            go_at_call 88
            refine (refCall_ (NP w.heap.size w1.heap.size (w1.heap.size + 1) vs) _ s i 1 0 0 0 _ (sys11.ext exq) hN11 hCb).calls.mono ?_
            rintro e w12 ⟨_, rfl, hb12, hr12⟩
            obtain ⟨r1, r2, r3, r4, r5, r6, r7, r8, rfl, _⟩ := hr12.opened
            have BT_12 : Box w12 (w1.heap.size) #[v0, v1, v2, v3, v4] 83 := bT11.ext hb12
            have BZ_12 : Box w12 (w.heap.size) #[.slice none 0 0, .slice none 0 0, .bool false, .slice none 0 0, .slice none 0 0] 83 := bZ11.ext hb12
            clear cT_0 cT_1 cT_2 cT_3 cT_4 dT_0 dT_1 dT_2 dT_3 dT_4 zT cZ_0 cZ_1 cZ_2 cZ_3 cZ_4 dZ_0 dZ_1 dZ_2 dZ_3 dZ_4 zZ
            have s12 : w11.heap.size ≤ w12.heap.size := (by have h := hb12.size; first | omega | (simp at h; omega))
            obtain ⟨cT_0, cT_1, cT_2, cT_3, cT_4, dT_0, dT_1, dT_2, dT_3, dT_4⟩ := cells5 BT_12
            have zT : w1.heap.size < w12.heap.size := BT_12.lt
            obtain ⟨cZ_0, cZ_1, cZ_2, cZ_3, cZ_4, dZ_0, dZ_1, dZ_2, dZ_3, dZ_4⟩ := cells5 BZ_12
            have zZ : w.heap.size < w12.heap.size := BZ_12.lt
            go_wp2_with (fail)
            go_meet
            case rel => exact ⟨_, own, vs, _, _, _, _, _, begin4_pop ht hgl.out (fun h => h0 h.1), (((((BT_12.setCell _).setCell _).setCell _).setCell _).setCell _), (((((BZ_12.setOther (by first | omega | (simp <;> omega)) _).setOther (by first | omega | (simp <;> omega)) _).setOther (by first | omega | (simp <;> omega)) _).setOther (by first | omega | (simp <;> omega)) _).setOther (by first | omega | (simp <;> omega)) _), IsSys.keep hr12 keq, rows11.keep (N := Bx no w1.heap.size (w1.heap.size + 1)) keq (fun h => (by have := h.elim False.elim (fun q => q.2); omega)) (fun b hb h => (by have := h.elim False.elim (fun q => q.2); omega)), exn⟩
        · rw [isNone_off ht]
          clear er efr hvs
          obtain ⟨cT_0, cT_1, cT_2, cT_3, cT_4, dT_0, dT_1, dT_2, dT_3, dT_4⟩ := cells5 bT11
          have zT : w1.heap.size < w11.heap.size := bT11.lt
          obtain ⟨cZ_0, cZ_1, cZ_2, cZ_3, cZ_4, dZ_0, dZ_1, dZ_2, dZ_3, dZ_4⟩ := cells5 bZ11
          have zZ : w.heap.size < w11.heap.size := bZ11.lt
          go_wp2_with (fail)
          go_meet
          case rel => exact ⟨_, own, vs, _, _, _, _, _, begin4_busy ht, bT11, bZ11, sys11, rows11, X11⟩
      case rest =>
        obtain ⟨s1, own1, vs1, x0, x1, x2, x3, x4, hb, bTc, bZc, sysc, rowsc, Xc⟩ := hcut
        obtain ⟨w12, rfl⟩ : ∃ w12 : World, w12 = wc := ⟨_, rfl⟩
        clear bT11 bZ11 sys11 rows11 X11 Y11 hN11 pe11
        obtain ⟨f, c2, hf, hwk, lo1, lc1, lc2, hc2, hgll, o1, ho1, hgl1⟩ := HOK.out.round (by omega) hic hb
        have ok := hwk.ok (by omega) (by omega)
        obtain ⟨S2, hS2⟩ : ∃ S, step4 s1 (i : Nat) = S := ⟨_, rfl⟩
        rw [hS2] at lc2 hc2
        have HS2 := Lib.hid hS2; have HB := Lib.hid hb; have HF := Lib.hid hf; have HG := Lib.hid hgl1; have HL2 := Lib.hid lc2; have HC2 := Lib.hid hc2
        rw [hgl1] at hgll
        clear hS2 hb hf hwk lo1 lc1 hgl1 lc2 hc2
        have s12 : w1.heap.size + 1 < w12.heap.size := rowsc.box.lt
        have hbZc : Box w12 w.heap.size #[.slice none 0 0, .slice none 0 0, .bool false, .slice none 0 0, .slice none 0 0] 83 := bZc
        have hN12 := NP.lt (B0 := w.heap.size) (T := w1.heap.size) rowsc (by omega) (by omega)
        have hNT : (NP w.heap.size w1.heap.size (w1.heap.size + 1) vs1) w1.heap.size := .inr (.inl rfl)
        have hNR : (NP w.heap.size w1.heap.size (w1.heap.size + 1) vs1) (w1.heap.size + 1) := .inr (.inr (.inl rfl))
        obtain ⟨cT_0, cT_1, cT_2, cT_3, cT_4, dT_0, dT_1, dT_2, dT_3, dT_4⟩ := cells5 bTc
        have zT : w1.heap.size < w12.heap.size := bTc.lt
        obtain ⟨cZ_0, cZ_1, cZ_2, cZ_3, cZ_4, dZ_0, dZ_1, dZ_2, dZ_3, dZ_4⟩ := cells5 hbZc
        have zZ : w.heap.size < w12.heap.size := hbZc.lt
        go_wp2_with (fail)
        go_at_call 82
        refine (refTop_ (NP w.heap.size w1.heap.size (w1.heap.size + 1) vs1) _ s1 i _ (sysc.ext exq)).calls.mono ?_
        rintro e w13 ⟨_, rfl, hb13, u, rfl, hu13⟩
        rw [HF.out] at hu13
        obtain ⟨fa2, fc2, rfl, f82, fs2⟩ := hu13.opened
        have BT_13 : Box w13 (w1.heap.size) #[x0, x1, x2, x3, x4] 83 := bTc.ext hb13
        have BZ_13 : Box w13 (w.heap.size) #[.slice none 0 0, .slice none 0 0, .bool false, .slice none 0 0, .slice none 0 0] 83 := hbZc.ext hb13
        clear cT_0 cT_1 cT_2 cT_3 cT_4 dT_0 dT_1 dT_2 dT_3 dT_4 zT cZ_0 cZ_1 cZ_2 cZ_3 cZ_4 dZ_0 dZ_1 dZ_2 dZ_3 dZ_4 zZ
        have s13 : w12.heap.size ≤ w13.heap.size := (by have h := hb13.size; first | omega | (simp at h; omega))
        obtain ⟨cT_0, cT_1, cT_2, cT_3, cT_4, dT_0, dT_1, dT_2, dT_3, dT_4⟩ := cells5 BT_13
        have zT : w1.heap.size < w13.heap.size := BT_13.lt
        obtain ⟨cZ_0, cZ_1, cZ_2, cZ_3, cZ_4, dZ_0, dZ_1, dZ_2, dZ_3, dZ_4⟩ := cells5 BZ_13
        have zZ : w.heap.size < w13.heap.size := BZ_13.lt
        go_wp2_with (fail)
        go_at_call 111
        refine (step4_ (NP w.heap.size w1.heap.size (w1.heap.size + 1) vs1) _ s1 i _ (sysc.ext exq) (fun b hb => Nat.lt_of_lt_of_le (hN12 b hb) (show Ext w12 _ from exq).size) ok.1 ok.2.1 ok.2.2.1 ok.2.2.2).calls.mono ?_
        rintro e w14 ⟨_, rfl, hb14, hr14⟩
        rw [HS2.out] at hr14
        obtain ⟨r1, r2, r3, r4, r5, r6, r7, r8, rfl, rW, rG, rC, rL⟩ := hr14.lit rfl rfl rfl HL2.out rfl
        have BT_14 : Box w14 (w1.heap.size) #[x0, x1, x2, x3, x4] 83 := (BT_13.alloc _).ext hb14
        have BZ_14 : Box w14 (w.heap.size) #[.slice none 0 0, .slice none 0 0, .bool false, .slice none 0 0, .slice none 0 0] 83 := (BZ_13.alloc _).ext hb14
        have B3_14 : Box w14 (w13.heap.size) #[.int .i64 f.op, .int .i64 f.pc, .int .i64 (gi f.R 0), .int .i64 (gi f.R 1), .int .i64 (gi f.R 2), .int .i64 (gi f.R 3), .int .i64 (gi f.R 4), .int .i64 (gi f.R 5), .int .i64 (gi f.R 6), .int .i64 (gi f.R 7), .slice fa2 f.S.length fc2] 95 := (Box.newAt _ _ _ (by first | rfl | simp)).ext hb14
        clear cT_0 cT_1 cT_2 cT_3 cT_4 dT_0 dT_1 dT_2 dT_3 dT_4 zT cZ_0 cZ_1 cZ_2 cZ_3 cZ_4 dZ_0 dZ_1 dZ_2 dZ_3 dZ_4 zZ
        have s14 : w13.heap.size + 1 ≤ w14.heap.size := (by have h := hb14.size; first | omega | (simp at h; omega))
        obtain ⟨cT_0, cT_1, cT_2, cT_3, cT_4, dT_0, dT_1, dT_2, dT_3, dT_4⟩ := cells5 BT_14
        have zT : w1.heap.size < w14.heap.size := BT_14.lt
        obtain ⟨cZ_0, cZ_1, cZ_2, cZ_3, cZ_4, dZ_0, dZ_1, dZ_2, dZ_3, dZ_4⟩ := cells5 BZ_14
        have zZ : w.heap.size < w14.heap.size := BZ_14.lt
        obtain ⟨⟨c3_0, c3_1, c3_2, c3_3, c3_4, c3_5, c3_6, c3_7, c3_8, c3_9, c3_10⟩, d3_0, d3_1, d3_2, d3_3, d3_4, d3_5, d3_6, d3_7, d3_8, d3_9, d3_10⟩ := cells11 B3_14
        have z3 : w13.heap.size < w14.heap.size := B3_14.lt
        go_upto_region 16 with (fail)
        obtain ⟨w16, hw16⟩ : ∃ x, x = (((((w14.setCell ⟨w1.heap.size, 0, none⟩ (.slice r1 S2.M.W.length r2)).setCell ⟨w1.heap.size, 1, none⟩ (.slice r3 S2.M.G.length r4)).setCell ⟨w1.heap.size, 2, none⟩ (.bool S2.M.bad)).setCell ⟨w1.heap.size, 3, none⟩ (.slice r5 c r6)).setCell ⟨w1.heap.size, 4, none⟩ (.slice r7 S2.L.length r8)) := ⟨_, rfl⟩
        have bT16 : Box w16 (w1.heap.size) #[.slice r1 S2.M.W.length r2, .slice r3 S2.M.G.length r4, .bool S2.M.bad, .slice r5 c r6, .slice r7 S2.L.length r8] 83 := by rw [hw16]; exact (((((BT_14.setCell _).setCell _).setCell _).setCell _).setCell _)
        have bZ16 : Box w16 (w.heap.size) #[.slice none 0 0, .slice none 0 0, .bool false, .slice none 0 0, .slice none 0 0] 83 := by rw [hw16]; exact (((((BZ_14.setOther (by first | omega | (simp <;> omega)) _).setOther (by first | omega | (simp <;> omega)) _).setOther (by first | omega | (simp <;> omega)) _).setOther (by first | omega | (simp <;> omega)) _).setOther (by first | omega | (simp <;> omega)) _)
        have bF16 : Box w16 (w13.heap.size) #[.int .i64 f.op, .int .i64 f.pc, .int .i64 (gi f.R 0), .int .i64 (gi f.R 1), .int .i64 (gi f.R 2), .int .i64 (gi f.R 3), .int .i64 (gi f.R 4), .int .i64 (gi f.R 5), .int .i64 (gi f.R 6), .int .i64 (gi f.R 7), .slice fa2 f.S.length fc2] 95 := by rw [hw16]; exact (((((B3_14.setOther (by first | omega | (simp <;> omega)) _).setOther (by first | omega | (simp <;> omega)) _).setOther (by first | omega | (simp <;> omega)) _).setOther (by first | omega | (simp <;> omega)) _).setOther (by first | omega | (simp <;> omega)) _)
        have K16 : Keep (NP w.heap.size w1.heap.size (w1.heap.size + 1) vs1) w14 w16 := by rw [hw16]; exact keq
        have sys16 : IsSys (NP w.heap.size w1.heap.size (w1.heap.size + 1) vs1) w16 (.agg #[.slice r1 S2.M.W.length r2, .slice r3 S2.M.G.length r4, .bool S2.M.bad, .slice r5 c r6, .slice r7 S2.L.length r8]) S2 := hr14.keep K16
        have rows16 : IsRows ((w1.heap.size + 1) + 1) (w1.heap.size + 1) w16 vs1 own1 := by rw [hw16]; exact rowsc.keep (N := Bx no w1.heap.size (w1.heap.size + 1)) keq (fun h => (by have := h.elim False.elim (fun q => q.2); omega)) (fun b hb h => (by have := h.elim False.elim (fun q => q.2); omega))
        have X16 : Ext w w16 := by rw [hw16]; exact exn
        have s16 : w12.heap.size ≤ w16.heap.size := by rw [hw16]; exact (by simp; have := hb14.size; omega)
        rw [← hw16]
        clear hw16 cT_0 cT_1 cT_2 cT_3 cT_4 dT_0 dT_1 dT_2 dT_3 dT_4 zT cZ_0 cZ_1 cZ_2 cZ_3 cZ_4 dZ_0 dZ_1 dZ_2 dZ_3 dZ_4 zZ c3_0 c3_1 c3_2 c3_3 c3_4 c3_5 c3_6 c3_7 c3_8 c3_9 c3_10 d3_0 d3_1 d3_2 d3_3 d3_4 d3_5 d3_6 d3_7 d3_8 d3_9 d3_10 z3
        have rC16 := IsCores.keep rC K16
        obtain ⟨bb, ob, af, cf, ar, cr, rfl, zx, zn, _, _, _, e0, e1, e2, _⟩ := IsCores.at rC16 HC2.out
        clear rW rG rL rC rC16 K16 sysc rowsc bTc hbZc bZc hN12
        have hst2 := fun own2 ho => play_next (own2 := own2) hlt HPK.out HST.out HI.out HB.out HS2.out HF.out ho
        have hok2 := fun own2 ho => play_ok hc hlt hl HST.out HOK.out (hst2 own2 ho)
        have HST2 := Lib.hid hst2; have HOK2 := Lib.hid hok2
        clear hst2 hok2
        by_cases hF0 : c2.F.length = 0
        · have q5 : ((c2.F.length : Nat) : Int) = 0 := by omega
          have q5b : (((c2.F.length : Nat) : Int) == 0) = true := by rw [q5]; rfl
          by_cases hop : f.op = 1
          · have q6 : (f.op == 1) = true := by rw [hop]; rfl
            by_cases hE : c2.E = 0
            · have q7 : (c2.E == 0) = true := by rw [hE]; rfl
              obtain ⟨v16, hv16, hO16⟩ := rows16.row i o1 ho1
              have er16 : w16.cell? ⟨(w1.heap.size + 1), i, none⟩ = some v16 := rows16.box.cell (by rw [nth_eq]; simpa using hv16)
              have HEO := Lib.hid (endOwn_on (f := f) HC2.out HG.out ⟨hF0, hop, hE⟩)
              obtain ⟨cT_0, cT_1, cT_2, cT_3, cT_4, dT_0, dT_1, dT_2, dT_3, dT_4⟩ := cells5 bT16
              have zT : w1.heap.size < w16.heap.size := bT16.lt
              obtain ⟨cZ_0, cZ_1, cZ_2, cZ_3, cZ_4, dZ_0, dZ_1, dZ_2, dZ_3, dZ_4⟩ := cells5 bZ16
              have zZ : w.heap.size < w16.heap.size := bZ16.lt
              obtain ⟨⟨cF_0, cF_1, cF_2, cF_3, cF_4, cF_5, cF_6, cF_7, cF_8, cF_9, cF_10⟩, dF_0, dF_1, dF_2, dF_3, dF_4, dF_5, dF_6, dF_7, dF_8, dF_9, dF_10⟩ := cells11 bF16
              have zF : w13.heap.size < w16.heap.size := bF16.lt
              go_wp2_with (fail)
              have hXa : Ext w16 (w16.alloc (.cells #[.int .i64 c2.V] 3)).drew := exq
              have hOa := hO16.ext hXa
              have bTa : Box (w16.alloc (.cells #[.int .i64 c2.V] 3)).drew w1.heap.size #[.slice r1 S2.M.W.length r2, .slice r3 S2.M.G.length r4, .bool S2.M.bad, .slice (some ⟨bb, ob, none⟩) c r6, .slice r7 S2.L.length r8] 83 := bT16.ext hXa
              have bZa : Box (w16.alloc (.cells #[.int .i64 c2.V] 3)).drew w.heap.size #[.slice none 0 0, .slice none 0 0, .bool false, .slice none 0 0, .slice none 0 0] 83 := bZ16.ext hXa
              have sysa := sys16.ext hXa
              have rowsa := rows16.ext hXa
              have Xa : Ext w (w16.alloc (.cells #[.int .i64 c2.V] 3)).drew := X16.trans hXa
              have xna : (w16.alloc (.cells #[.int .i64 c2.V] 3)).drew.cell? ⟨w16.heap.size, 0, none⟩ = some (.int .i64 c2.V) := (Box.newAt w16 #[.int .i64 c2.V] 3 rfl : Box (w16.alloc _) w16.heap.size _ _).cell rfl
              have era : (w16.alloc (.cells #[.int .i64 c2.V] 3)).drew.cell? ⟨(w1.heap.size + 1), i, none⟩ = some v16 := rowsa.box.cell (by rw [nth_eq]; simpa using hv16)
              have eFa : (w16.alloc (.cells #[.int .i64 c2.V] 3)).drew.frozen? ⟨(w1.heap.size + 1), i, none⟩ = false := rowsa.box.frozen
              have hRa : (w1.heap.size + 1) < (w16.alloc (.cells #[.int .i64 c2.V] 3)).drew.heap.size := rowsa.box.lt
              have hnr : ∀ b, v16.ownBlock = some b → (w1.heap.size + 1) + 1 ≤ b := fun b hb => (hO16.base b hb).1
              go_region_law (refine step_append_at rfl (.tmp 123) (.tmp 130) rfl ((w1.heap.size + 1) + 1) v16 o1 _ 1 c2.V rfl rfl hOa xna (by omega) (by simp; omega) ?_; intro g19 off19 c19 w19 h19 g19y b19; have e19 : w19.cell? ⟨(w1.heap.size + 1), i, none⟩ = some v16 := ((grown_keep g19y (N := fun b => (w1.heap.size + 1) + 1 ≤ b) (fun k e => hnr k e)).cell (a := ⟨(w1.heap.size + 1), i, none⟩) hRa (Nat.not_succ_le_self _)).trans era; have e29 : w19.frozen? ⟨(w1.heap.size + 1), i, none⟩ = false := (rowsa.box.keep (grown_keep g19y (N := fun b => (w1.heap.size + 1) + 1 ≤ b) (fun k e => hnr k e)) (Nat.not_succ_le_self _)).frozen)
              all_goals
                have hR := rowsa.round (w := w) (B0 := w.heap.size) (T := w1.heap.size) (i := i) hv16 g19y h19 (fun b hb => by cases hb; exact b19.imp id (fun h => Nat.le_of_eq h.symm)) (by omega) (by omega) bTa bZa sysa Xa (by omega)
                obtain ⟨bT20, bZ20, sys20, rows20, X20⟩ := hR
                go_wp2
                go_roundw
                case rel =>
                  exact ⟨k + 1, by simp, by omega, S2, _, _, _, _, _, _, _, HST2.out _ HEO.out, HOK2.out _ HEO.out, bT20, bZ20, sys20, rows20, X20⟩
                case measure => simp [intOf]; omega
            · have q7 : (c2.E == 0) = false := by simpa using hE
              have HEO := Lib.hid (endOwn_off (f := f) (own := own1) HC2.out (fun h => hE h.2.2))
              obtain ⟨cT_0, cT_1, cT_2, cT_3, cT_4, dT_0, dT_1, dT_2, dT_3, dT_4⟩ := cells5 bT16
              have zT : w1.heap.size < w16.heap.size := bT16.lt
              obtain ⟨cZ_0, cZ_1, cZ_2, cZ_3, cZ_4, dZ_0, dZ_1, dZ_2, dZ_3, dZ_4⟩ := cells5 bZ16
              have zZ : w.heap.size < w16.heap.size := bZ16.lt
              obtain ⟨⟨cF_0, cF_1, cF_2, cF_3, cF_4, cF_5, cF_6, cF_7, cF_8, cF_9, cF_10⟩, dF_0, dF_1, dF_2, dF_3, dF_4, dF_5, dF_6, dF_7, dF_8, dF_9, dF_10⟩ := cells11 bF16
              have zF : w13.heap.size < w16.heap.size := bF16.lt
              go_wp2
              go_roundw
              case rel =>
                exact ⟨k + 1, by simp, by omega, S2, _, _, _, _, _, _, _, HST2.out _ HEO.out, HOK2.out _ HEO.out, bT16, bZ16, sys16, rows16, X16⟩
              case measure => simp [intOf]; omega
          · have q6 : (f.op == 1) = false := by simpa using hop
            have HEO := Lib.hid (endOwn_off (f := f) (own := own1) HC2.out (fun h => hop h.2.1))
            obtain ⟨cT_0, cT_1, cT_2, cT_3, cT_4, dT_0, dT_1, dT_2, dT_3, dT_4⟩ := cells5 bT16
            have zT : w1.heap.size < w16.heap.size := bT16.lt
            obtain ⟨cZ_0, cZ_1, cZ_2, cZ_3, cZ_4, dZ_0, dZ_1, dZ_2, dZ_3, dZ_4⟩ := cells5 bZ16
            have zZ : w.heap.size < w16.heap.size := bZ16.lt
            obtain ⟨⟨cF_0, cF_1, cF_2, cF_3, cF_4, cF_5, cF_6, cF_7, cF_8, cF_9, cF_10⟩, dF_0, dF_1, dF_2, dF_3, dF_4, dF_5, dF_6, dF_7, dF_8, dF_9, dF_10⟩ := cells11 bF16
            have zF : w13.heap.size < w16.heap.size := bF16.lt
            go_wp2
            go_roundw
            case rel =>
              exact ⟨k + 1, by simp, by omega, S2, _, _, _, _, _, _, _, HST2.out _ HEO.out, HOK2.out _ HEO.out, bT16, bZ16, sys16, rows16, X16⟩
            case measure => simp [intOf]; omega
        · have q5 : ¬ ((c2.F.length : Nat) : Int) = 0 := by omega
          have q5b : (((c2.F.length : Nat) : Int) == 0) = false := by simpa using hF0
          have HEO := Lib.hid (endOwn_off (f := f) (own := own1) HC2.out (fun h => hF0 h.1))
          obtain ⟨cT_0, cT_1, cT_2, cT_3, cT_4, dT_0, dT_1, dT_2, dT_3, dT_4⟩ := cells5 bT16
          have zT : w1.heap.size < w16.heap.size := bT16.lt
          obtain ⟨cZ_0, cZ_1, cZ_2, cZ_3, cZ_4, dZ_0, dZ_1, dZ_2, dZ_3, dZ_4⟩ := cells5 bZ16
          have zZ : w.heap.size < w16.heap.size := bZ16.lt
          obtain ⟨⟨cF_0, cF_1, cF_2, cF_3, cF_4, cF_5, cF_6, cF_7, cF_8, cF_9, cF_10⟩, dF_0, dF_1, dF_2, dF_3, dF_4, dF_5, dF_6, dF_7, dF_8, dF_9, dF_10⟩ := cells11 bF16
          have zF : w13.heap.size < w16.heap.size := bF16.lt
          go_wp2
          go_roundw
          case rel =>
            exact ⟨k + 1, by simp, by omega, S2, _, _, _, _, _, _, _, HST2.out _ HEO.out, HOK2.out _ HEO.out, bT16, bZ16, sys16, rows16, X16⟩
          case measure => simp [intOf]; omega
    · obtain rfl : k = l.length := by omega
      have q1 : ¬ (l.length : Int) < (l.length : Int) := by omega
      have HST3 := HST.out
      rw [List.take_length] at HST3
      have HPE := Lib.hid HST3
      clear HST3
      obtain ⟨z1, z2, z3, z4, z5, z6, z7, z8, hze, zW, zG, zC, zL⟩ := hsys.opened
      obtain ⟨rfl, rfl, rfl, rfl, rfl⟩ : v0 = .slice z1 s.M.W.length z2 ∧ v1 = .slice z3 s.M.G.length z4 ∧ v2 = .bool s.M.bad ∧ v3 = .slice z5 s.C.length z6 ∧ v4 = .slice z7 s.L.length z8 := by simpa using hze
      clear hze
      have hNZ : (NP w.heap.size w1.heap.size (w1.heap.size + 1) vs) w.heap.size := .inl rfl
      obtain ⟨cT_0, cT_1, cT_2, cT_3, cT_4, dT_0, dT_1, dT_2, dT_3, dT_4⟩ := cells5 hbT
      have zT : w1.heap.size < w9.heap.size := hbT.lt
      obtain ⟨cZ_0, cZ_1, cZ_2, cZ_3, cZ_4, dZ_0, dZ_1, dZ_2, dZ_3, dZ_4⟩ := cells5 hbB
      have zZ : w.heap.size < w9.heap.size := hbB.lt
      go_wp2
      have hpd : playD c n l = (s, own) := HPE.out
      refine bodyPost_ret (ret_cell_tmp2 (cs := #[.slice z1 s.M.W.length z2, .slice z3 s.M.G.length z4, .bool s.M.bad, .slice z5 s.C.length z6, .slice z7 s.L.length z8]) (((((hbB.setCell _).setCell _).setCell _).setCell _).setCell _) Proofs.Try.results113 rfl Proofs.Try.underlying83 rfl (by kernel_rfl)) rfl ⟨_, rfl, exn, ?_⟩
      exact ⟨(w1.heap.size + 1), .agg #[.slice z1 s.M.W.length z2, .slice z3 s.M.G.length z4, .bool s.M.bad, .slice z5 s.C.length z6, .slice z7 s.L.length z8], rfl, by
        rw [hpd]
        exact (hsys.keep (by exact keq)).less fun _ _ h => h.elim, vs, by
        rw [hpd]
        exact hrows.keep (N := Bx no w.heap.size (w.heap.size + 1)) keq (fun h => (by have := h.elim False.elim (fun q => q.2); omega)) (fun b hb h => (by have := h.elim False.elim (fun q => q.2); omega))⟩
end Go.Proofs.Ytcfbdfgondmkoaa
/- The closed facts of the rows that work over the order of the initialisers. -/
namespace Go.Proofs.Ytcfbdfgondmkoaa
open Go
def orderSigns : List Char := ['h', 'a', 'r', 'n', 'e', 's', 's', ' ', '6', 'b', '9', 'a', '1', '6', '2', 'b', 'd', 'b', 'b', '2', '1', 'd', 'c', '9', '0', 'd', '8', 'b', 'a', '4', 'c', 'c', '9', '0', '8', 'e', '8', '6', 'c', 'e', '3', 'a', 'a', '3', 'b', 'd', '3', 'b', '8', '8', '3', 'e', '5', '4', '2', '4', 'b', '1', '8', '7', 'e', '0', '7', '3', '7', 'b', '1', 'b', '1', 'e', 'a', '9', ' ', 'c', 'u', 't', ' ', 'a', 't', ' ', 'h', 'a', 'z', 'e', 'l', '/', 'h', 'a', 'z', 'e', 'l', 'l', 'a', 'w', '0', '1', '.', 'P', 'a', 'c', 'k', 'T', 'e', 'l', 'l', 's', ' ', 'h', 'a', 'z', 'e', 'l', '/', 'h', 'a', 'z', 'e', 'l', 'l', 'a', 'w', '0', '1', '.', 'P', 'a', 'c', 'k', 'B', 'a', 'c', 'k', ' ', 'h', 'a', 'z', 'e', 'l', '/', 'h', 'a', 'z', 'e', 'l', 'l', 'a', 'w', '0', '1', '.', 'P', 'a', 'c', 'k', 'N', 'e', 'x', 't', ' ', 'h', 'a', 'z', 'e', 'l', '/', 'h', 'a', 'z', 'e', 'l', 'l', 'a', 'w', '0', '1', '.', 'P', 'a', 'c', 'k', 'A', 'p', 'a', 'r', 't', ' ', 'h', 'a', 'z', 'e', 'l', '/', 'h', 'a', 'z', 'e', 'l', 'l', 'a', 'w', '0', '1', '.', 'P', 'a', 'c', 'k', 'P', 'a', 'r', 't', 's', ' ', 'h', 'a', 'z', 'e', 'l', '/', 'h', 'a', 'z', 'e', 'l', 'l', 'a', 'w', '0', '1', '.', 'P', 'a', 'c', 'k', 'O', 'n', 'e', ' ', 'h', 'a', 'z', 'e', 'l', '/', 'h', 'a', 'z', 'e', 'l', 'l', 'a', 'w', '0', '1', '.', 'P', 'a', 'c', 'k', 'W', 'r', 'a', 'p', 's', ' ', 'h', 'a', 'z', 'e', 'l', '/', 'h', 'a', 'z', 'e', 'l', 'l', 'a', 'w', '0', '1', '.', 'P', 'a', 'c', 'k', 'O', 'd', 'd', ' ', 'h', 'a', 'z', 'e', 'l', '/', 'h', 'a', 'z', 'e', 'l', 'l', 'a', 'w', '0', '2', '.', 'M', 'e', 'm', 'T', 'e', 'l', 'l', 's', ' ', 'h', 'a', 'z', 'e', 'l', '/', 'h', 'a', 'z', 'e', 'l', 'l', 'a', 'w', '0', '2', '.', 'M', 'e', 'm', 'D', 'o', 'e', 's', ' ', 'h', 'a', 'z', 'e', 'l', '/', 'h', 'a', 'z', 'e', 'l', 'l', 'a', 'w', '0', '2', '.', 'M', 'e', 'm', 'B', 'a', 'c', 'k', ' ', 'h', 'a', 'z', 'e', 'l', '/', 'h', 'a', 'z', 'e', 'l', 'l', 'a', 'w', '0', '2', '.', 'M', 'e', 'm', 'G', 'u', 'a', 'r', 'd', 's', ' ', 'h', 'a', 'z', 'e', 'l', '/', 'h', 'a', 'z', 'e', 'l', 'l', 'a', 'w', '0', '2', '.', 'M', 'e', 'm', 'T', 'w', 'i', 'c', 'e', ' ', 'h', 'a', 'z', 'e', 'l', '/', 'h', 'a', 'z', 'e', 'l', 'l', 'a', 'w', '0', '2', '.', 'M', 'e', 'm', 'P', 'l', 'a', 'c', 'e', 's', ' ', 'h', 'a', 'z', 'e', 'l', '/', 'h', 'a', 'z', 'e', 'l', 'l', 'a', 'w', '0', '2', '.', 'M', 'e', 'm', 'T', 'u', 'r', 'n', 's', ' ', 'h', 'a', 'z', 'e', 'l', '/', 'h', 'a', 'z', 'e', 'l', 'l', 'a', 'w', '0', '2', '.', 'M', 'e', 'm', 'C', 'o', 'u', 'n', 't', 's', ' ', 'h', 'a', 'z', 'e', 'l', '/', 'h', 'a', 'z', 'e', 'l', 'l', 'a', 'w', '0', '3', '.', 'C', 'o', 'r', 'e', 'T', 'e', 'l', 'l', 's', ' ', 'h', 'a', 'z', 'e', 'l', '/', 'h', 'a', 'z', 'e', 'l', 'l', 'a', 'w', '0', '3', '.', 'C', 'o', 'r', 'e', 'D', 'o', 'e', 's', ' ', 'h', 'a', 'z', 'e', 'l', '/', 'h', 'a', 'z', 'e', 'l', 'l', 'a', 'w', '0', '3', '.', 'C', 'o', 'r', 'e', 'L', 'o', 'g', 's', ' ', 'h', 'a', 'z', 'e', 'l', '/', 'h', 'a', 'z', 'e', 'l', 'l', 'a', 'w', '0', '3', '.', 'C', 'o', 'r', 'e', 'N', 'e', 'w', 's', ' ', 'h', 'a', 'z', 'e', 'l', '/', 'h', 'a', 'z', 'e', 'l', 'l', 'a', 'w', '0', '3', '.', 'C', 'o', 'r', 'e', 'S', 'a', 'm', 'e', ' ', 'h', 'a', 'z', 'e', 'l', '/', 'h', 'a', 'z', 'e', 'l', 'l', 'a', 'w', '0', '5', '.', 'H', 'a', 'z', 'T', 'e', 'l', 'l', 's', ' ', 'h', 'a', 'z', 'e', 'l', '/', 'h', 'a', 'z', 'e', 'l', 'l', 'a', 'w', '0', '5', '.', 'H', 'a', 'z', 'C', 'l', 'e', 'a', 'r', 's', ' ', 'h', 'a', 'z', 'e', 'l', '/', 'h', 'a', 'z', 'e', 'l', 'l', 'a', 'w', '0', '5', '.', 'H', 'a', 'z', 'N', 'a', 'm', 'e', 's', ' ', 'h', 'a', 'z', 'e', 'l', '/', 'h', 'a', 'z', 'e', 'l', 'l', 'a', 'w', '0', '5', '.', 'H', 'a', 'z', 'P', 'l', 'a', 'c', 'e', 's', ' ', 'h', 'a', 'z', 'e', 'l', '/', 'h', 'a', 'z', 'e', 'l', 'l', 'a', 'w', '0', '5', '.', 'H', 'a', 'z', 'A', 'p', 'a', 'r', 't', ' ', 'h', 'a', 'z', 'e', 'l', '/', 'h', 'a', 'z', 'e', 'l', 'l', 'a', 'w', '0', '4', '.', 'S', 't', 'a', 'c', 'k', 'T', 'e', 'l', 'l', 's', ' ', 'h', 'a', 'z', 'e', 'l', '/', 'h', 'a', 'z', 'e', 'l', 'l', 'a', 'w', '0', '4', '.', 'S', 't', 'a', 'c', 'k', 'S', 'a', 'f', 'e', ' ', 'h', 'a', 'z', 'e', 'l', '/', 'h', 'a', 'z', 'e', 'l', 'l', 'a', 'w', '0', '4', '.', 'S', 't', 'a', 'c', 'k', 'F', 'u', 'l', 'l', ' ', 'h', 'a', 'z', 'e', 'l', '/', 'h', 'a', 'z', 'e', 'l', 'l', 'a', 'w', '0', '4', '.', 'S', 't', 'a', 'c', 'k', 'F', 'r', 'e', 'e', ' ', 'h', 'a', 'z', 'e', 'l', '/', 'h', 'a', 'z', 'e', 'l', 'l', 'a', 'w', '0', '4', '.', 'S', 't', 'a', 'c', 'k', 'A', 'l', 'o', 'n', 'e', ' ', 'h', 'a', 'z', 'e', 'l', '/', 'h', 'a', 'z', 'e', 'l', 'l', 'a', 'w', '0', '4', '.', 'S', 't', 'a', 'c', 'k', 'F', 'i', 'l', 'l', 's', ' ', 'h', 'a', 'z', 'e', 'l', '/', 'h', 'a', 'z', 'e', 'l', 'l', 'a', 'w', '0', '4', '.', 'S', 't', 'a', 'c', 'k', 'T', 'a', 'g', 's']
def orderWords : List (List Char) := [['a', 't'], ['h', 'a', 'z', 'e', 'l', '/', 'h', 'a', 'z', 'e', 'l', 'l', 'a', 'w', '0', '1', '.', 'P', 'a', 'c', 'k', 'T', 'e', 'l', 'l', 's'], ['h', 'a', 'z', 'e', 'l', '/', 'h', 'a', 'z', 'e', 'l', 'l', 'a', 'w', '0', '1', '.', 'P', 'a', 'c', 'k', 'B', 'a', 'c', 'k'], ['h', 'a', 'z', 'e', 'l', '/', 'h', 'a', 'z', 'e', 'l', 'l', 'a', 'w', '0', '1', '.', 'P', 'a', 'c', 'k', 'N', 'e', 'x', 't'], ['h', 'a', 'z', 'e', 'l', '/', 'h', 'a', 'z', 'e', 'l', 'l', 'a', 'w', '0', '1', '.', 'P', 'a', 'c', 'k', 'A', 'p', 'a', 'r', 't'], ['h', 'a', 'z', 'e', 'l', '/', 'h', 'a', 'z', 'e', 'l', 'l', 'a', 'w', '0', '1', '.', 'P', 'a', 'c', 'k', 'P', 'a', 'r', 't', 's'], ['h', 'a', 'z', 'e', 'l', '/', 'h', 'a', 'z', 'e', 'l', 'l', 'a', 'w', '0', '1', '.', 'P', 'a', 'c', 'k', 'O', 'n', 'e'], ['h', 'a', 'z', 'e', 'l', '/', 'h', 'a', 'z', 'e', 'l', 'l', 'a', 'w', '0', '1', '.', 'P', 'a', 'c', 'k', 'W', 'r', 'a', 'p', 's'], ['h', 'a', 'z', 'e', 'l', '/', 'h', 'a', 'z', 'e', 'l', 'l', 'a', 'w', '0', '1', '.', 'P', 'a', 'c', 'k', 'O', 'd', 'd'], ['h', 'a', 'z', 'e', 'l', '/', 'h', 'a', 'z', 'e', 'l', 'l', 'a', 'w', '0', '2', '.', 'M', 'e', 'm', 'T', 'e', 'l', 'l', 's'], ['h', 'a', 'z', 'e', 'l', '/', 'h', 'a', 'z', 'e', 'l', 'l', 'a', 'w', '0', '2', '.', 'M', 'e', 'm', 'D', 'o', 'e', 's'], ['h', 'a', 'z', 'e', 'l', '/', 'h', 'a', 'z', 'e', 'l', 'l', 'a', 'w', '0', '2', '.', 'M', 'e', 'm', 'B', 'a', 'c', 'k'], ['h', 'a', 'z', 'e', 'l', '/', 'h', 'a', 'z', 'e', 'l', 'l', 'a', 'w', '0', '2', '.', 'M', 'e', 'm', 'G', 'u', 'a', 'r', 'd', 's'], ['h', 'a', 'z', 'e', 'l', '/', 'h', 'a', 'z', 'e', 'l', 'l', 'a', 'w', '0', '2', '.', 'M', 'e', 'm', 'T', 'w', 'i', 'c', 'e'], ['h', 'a', 'z', 'e', 'l', '/', 'h', 'a', 'z', 'e', 'l', 'l', 'a', 'w', '0', '2', '.', 'M', 'e', 'm', 'P', 'l', 'a', 'c', 'e', 's'], ['h', 'a', 'z', 'e', 'l', '/', 'h', 'a', 'z', 'e', 'l', 'l', 'a', 'w', '0', '2', '.', 'M', 'e', 'm', 'T', 'u', 'r', 'n', 's'], ['h', 'a', 'z', 'e', 'l', '/', 'h', 'a', 'z', 'e', 'l', 'l', 'a', 'w', '0', '2', '.', 'M', 'e', 'm', 'C', 'o', 'u', 'n', 't', 's'], ['h', 'a', 'z', 'e', 'l', '/', 'h', 'a', 'z', 'e', 'l', 'l', 'a', 'w', '0', '3', '.', 'C', 'o', 'r', 'e', 'T', 'e', 'l', 'l', 's'], ['h', 'a', 'z', 'e', 'l', '/', 'h', 'a', 'z', 'e', 'l', 'l', 'a', 'w', '0', '3', '.', 'C', 'o', 'r', 'e', 'D', 'o', 'e', 's'], ['h', 'a', 'z', 'e', 'l', '/', 'h', 'a', 'z', 'e', 'l', 'l', 'a', 'w', '0', '3', '.', 'C', 'o', 'r', 'e', 'L', 'o', 'g', 's'], ['h', 'a', 'z', 'e', 'l', '/', 'h', 'a', 'z', 'e', 'l', 'l', 'a', 'w', '0', '3', '.', 'C', 'o', 'r', 'e', 'N', 'e', 'w', 's'], ['h', 'a', 'z', 'e', 'l', '/', 'h', 'a', 'z', 'e', 'l', 'l', 'a', 'w', '0', '3', '.', 'C', 'o', 'r', 'e', 'S', 'a', 'm', 'e'], ['h', 'a', 'z', 'e', 'l', '/', 'h', 'a', 'z', 'e', 'l', 'l', 'a', 'w', '0', '5', '.', 'H', 'a', 'z', 'T', 'e', 'l', 'l', 's'], ['h', 'a', 'z', 'e', 'l', '/', 'h', 'a', 'z', 'e', 'l', 'l', 'a', 'w', '0', '5', '.', 'H', 'a', 'z', 'C', 'l', 'e', 'a', 'r', 's'], ['h', 'a', 'z', 'e', 'l', '/', 'h', 'a', 'z', 'e', 'l', 'l', 'a', 'w', '0', '5', '.', 'H', 'a', 'z', 'N', 'a', 'm', 'e', 's'], ['h', 'a', 'z', 'e', 'l', '/', 'h', 'a', 'z', 'e', 'l', 'l', 'a', 'w', '0', '5', '.', 'H', 'a', 'z', 'P', 'l', 'a', 'c', 'e', 's'], ['h', 'a', 'z', 'e', 'l', '/', 'h', 'a', 'z', 'e', 'l', 'l', 'a', 'w', '0', '5', '.', 'H', 'a', 'z', 'A', 'p', 'a', 'r', 't'], ['h', 'a', 'z', 'e', 'l', '/', 'h', 'a', 'z', 'e', 'l', 'l', 'a', 'w', '0', '4', '.', 'S', 't', 'a', 'c', 'k', 'T', 'e', 'l', 'l', 's'], ['h', 'a', 'z', 'e', 'l', '/', 'h', 'a', 'z', 'e', 'l', 'l', 'a', 'w', '0', '4', '.', 'S', 't', 'a', 'c', 'k', 'S', 'a', 'f', 'e'], ['h', 'a', 'z', 'e', 'l', '/', 'h', 'a', 'z', 'e', 'l', 'l', 'a', 'w', '0', '4', '.', 'S', 't', 'a', 'c', 'k', 'F', 'u', 'l', 'l'], ['h', 'a', 'z', 'e', 'l', '/', 'h', 'a', 'z', 'e', 'l', 'l', 'a', 'w', '0', '4', '.', 'S', 't', 'a', 'c', 'k', 'F', 'r', 'e', 'e'], ['h', 'a', 'z', 'e', 'l', '/', 'h', 'a', 'z', 'e', 'l', 'l', 'a', 'w', '0', '4', '.', 'S', 't', 'a', 'c', 'k', 'A', 'l', 'o', 'n', 'e'], ['h', 'a', 'z', 'e', 'l', '/', 'h', 'a', 'z', 'e', 'l', 'l', 'a', 'w', '0', '4', '.', 'S', 't', 'a', 'c', 'k', 'F', 'i', 'l', 'l', 's'], ['h', 'a', 'z', 'e', 'l', '/', 'h', 'a', 'z', 'e', 'l', 'l', 'a', 'w', '0', '4', '.', 'S', 't', 'a', 'c', 'k', 'T', 'a', 'g', 's']]
set_option maxRecDepth 100000 in
theorem order_ : Try.prog.initOrder.toList = orderSigns := (congrArg String.toList (show Try.prog.initOrder = String.ofList orderSigns by kernel_rfl)).trans String.toList_ofList
theorem words_ : behindMainWord (wordsSigns Try.prog.initOrder.toList) = ['c', 'u', 't'] :: orderWords := by rw [order_]; kernel_rfl
theorem lifts_ : stripLifts liftWords (['c', 'u', 't'] :: orderWords) = ([], ['c', 'u', 't'] :: orderWords) := by kernel_rfl
theorem make_of (P : Program) (R : List (List Char)) (h : behindMainWord (wordsSigns P.initOrder.toList) = ['c', 'u', 't'] :: R) : P.make = some .cut := by
  unfold Program.make; rw [h]; dsimp only; rw [if_neg (by decide), if_pos (by simp)]
theorem heads_of (P : Program) (R : List (List Char)) (h : behindMainWord (wordsSigns P.initOrder.toList) = ['c', 'u', 't'] :: R) (h2 : stripLifts liftWords (['c', 'u', 't'] :: R) = ([], ['c', 'u', 't'] :: R)) : P.headLifts = [] := by
  unfold Program.headLifts; rw [h, h2]; simp
theorem finals_of (P : Program) (R : List (List Char)) (h : behindMainWord (wordsSigns P.initOrder.toList) = ['c', 'u', 't'] :: R) (h2 : stripLifts liftWords (['c', 'u', 't'] :: R) = ([], ['c', 'u', 't'] :: R)) : P.liftsFinal = false := by
  unfold Program.liftsFinal; rw [h, heads_of P R h h2]; simp
theorem enter_of (P : Program) (R : List (List Char)) (h : behindMainWord (wordsSigns P.initOrder.toList) = ['c', 'u', 't'] :: R) (h2 : stripLifts liftWords (['c', 'u', 't'] :: R) = ([], ['c', 'u', 't'] :: R))
    (h3 : P.laysLater = false) (h4 : P.bearsReflect = false) (h5 : P.doorFits [] = true) : P.mayEnter = true := by
  unfold Program.mayEnter; rw [h]; dsimp only; rw [h2, h3, h4, h5]; simp
theorem make_ : Try.prog.make = some .cut := make_of _ _ words_
theorem liftsFinal_ : Try.prog.liftsFinal = false := finals_of _ _ words_ lifts_
theorem laysLater_ : Try.prog.laysLater = false := by kernel_rfl
theorem bearsReflect_ : Try.prog.bearsReflect = false := by kernel_rfl
theorem doorFits_ : Try.prog.doorFits [] = true := by kernel_rfl
theorem mayEnter_ : Try.prog.mayEnter = true := enter_of _ _ words_ lifts_ laysLater_ bearsReflect_ doorFits_
end Go.Proofs.Ytcfbdfgondmkoaa
/- The play of chapter 4's law, plain: how many cores are at a node. -/
namespace Go.Proofs.Ytcfbdfgondmkoaa
open Go Go.RowKit
set_option linter.unusedSimpArgs false
set_option linter.unusedVariables false
set_option linter.unnecessarySimpa false

def atI (own : List (List Int)) (C : List CoreD) (p : Int) (i : Nat) : Nat := ((own.take i).map (List.count p)).sum + ((C.take i).map (pushC p)).sum
theorem atI_zero {own : List (List Int)} {C : List CoreD} {p : Int} : atI own C p 0 = 0 := rfl
theorem take_snoc {α : Type} {l : List α} {i : Nat} {x : α} (h : l[i]? = some x) : l.take (i + 1) = l.take i ++ [x] := by
  have hi := get_lt h
  rw [List.take_succ_eq_append_getElem hi]
  rw [List.getElem?_eq_getElem hi] at h
  cases h
  rfl
theorem atI_succ {own : List (List Int)} {C : List CoreD} {p : Int} {i : Nat} {o : List Int} {cc : CoreD} (ho : own[i]? = some o) (hc : C[i]? = some cc) : atI own C p (i + 1) = atI own C p i + o.count p + pushC p cc := by
  unfold atI
  rw [take_snoc ho, take_snoc hc]
  simp
  omega
theorem atI_all {own : List (List Int)} {C : List CoreD} {p : Int} {c : Nat} (h1 : own.length = c) (h2 : C.length = c) : atI own C p c = held p own C := by
  unfold atI held
  rw [List.take_of_length_le (by omega), List.take_of_length_le (by omega)]
theorem sum_take_le (l : List Nat) : ∀ i, (l.take i).sum ≤ l.sum := by
  induction l with
  | nil => intro i; simp
  | cons a l ih =>
    intro i
    cases i with
    | zero => simp
    | succ i => have := ih i; simp; omega
theorem atI_le {own : List (List Int)} {C : List CoreD} {p : Int} {i : Nat} : atI own C p i ≤ held p own C := by
  unfold atI held
  have h1 := sum_take_le (own.map (List.count p)) i
  have h2 := sum_take_le (C.map (pushC p)) i
  rw [← List.map_take] at h1 h2
  omega
def cntI (o : List Int) (p : Int) (k : Nat) : Nat := (o.take k).count p
theorem cntI_zero {o : List Int} {p : Int} : cntI o p 0 = 0 := rfl
theorem cntI_succ {o : List Int} {p : Int} {k : Nat} (hk : k < o.length) : cntI o p (k + 1) = cntI o p k + if gi o k = p then 1 else 0 := by
  unfold cntI
  have h : o[k]? = some (gi o k) := by unfold gi; simp [hk]
  rw [take_snoc h, List.count_append, count_cons_if]
  simp
theorem cntI_all {o : List Int} {p : Int} : cntI o p o.length = o.count p := by unfold cntI; rw [List.take_length]
theorem cntI_le {o : List Int} {p : Int} {k : Nat} : cntI o p k ≤ o.count p := by
  unfold cntI
  exact List.Sublist.count_le _ (List.take_sublist k o)
theorem pushC_none {p : Int} {c : CoreD} (h : c.F = []) : pushC p c = 0 := by unfold pushC; rw [h]
theorem pushC_some {p : Int} {c : CoreD} {f : FrameD} (h : c.F = [f]) : pushC p c = if f.op = 2 ∧ gi f.R 0 = p then 1 else 0 := by unfold pushC; rw [h]
end Go.Proofs.Ytcfbdfgondmkoaa
/- Whether a list holds a number. -/
namespace Go.Proofs.Ytcfbdfgondmkoaa
open Go Go.RowKit
set_option linter.unusedSimpArgs false
set_option linter.unusedVariables false
set_option linter.unnecessarySimpa false

def inD (l : List Int) (p : Int) : Bool := l.any (fun x => x == p)
theorem gi_get4 {l : List Int} {k : Nat} (h : k < l.length) : l[k] = gi l k := by unfold gi; simp [h]
theorem inD_at {l : List Int} {p : Int} {k : Nat} (h : k < l.length) (hp : gi l k = p) : inD l p = true := by
  unfold inD
  rw [List.any_eq_true]
  exact ⟨l[k], List.getElem_mem h, by rw [gi_get4 h, hp]; simp⟩
theorem inD_none {l : List Int} {p : Int} (h : ∀ j, j < l.length → gi l j ≠ p) : inD l p = false := by
  unfold inD
  rw [List.any_eq_false]
  intro x hx
  obtain ⟨i, hi, rfl⟩ := List.mem_iff_getElem.1 hx
  rw [gi_get4 hi]
  simpa using h i hi
theorem inD_count {l : List Int} {p : Int} : inD l p = true ↔ 0 < l.count p := by
  rw [List.count_pos_iff]
  unfold inD
  simp [List.any_eq_true]
theorem no_next {l : List Int} {p : Int} {k : Nat} (hno : ∀ j, j < k → gi l j ≠ p) (hp : ¬ gi l k = p) : ∀ j, j < k + 1 → gi l j ≠ p := fun j hj => by
  by_cases h : j = k
  · subst h; exact hp
  · exact hno j (by omega)
set_option maxHeartbeats 1000000 in
set_option maxRecDepth 100000 in
theorem in_ (N : Nat → Prop) (v : Value) (l : List Int) (p : Int) (w : World) (h : IsInts N w v l) : Gives Proofs.Try.prog 114 #[v, .int .i64 p] w (eqv (.bool (inD l p))) := by
  obtain ⟨a, c, rfl, _, hm, hc⟩ := h.opened
  go_enter Proofs.Try.func114, Proofs.Try.ntmps114
  go_wp2
  go_loopw [5] (fun i wr => ∃ k : Nat, i = .int .i64 k ∧ k ≤ l.length ∧ (∀ j, j < k → gi l j ≠ p) ∧ Ext w wr) (fun i _ => l.length - (intOf i).toNat)
  case atStart => exact ⟨0, rfl, by omega, fun j hj => absurd hj (by omega), exq⟩
  case round =>
    obtain ⟨k, rfl, hkn, hno, hbr⟩ := hrel
    obtain ⟨w9, rfl⟩ : ∃ w9 : World, w9 = wr := ⟨_, rfl⟩
    by_cases hlt : k < l.length
    · have q1 : (k : Int) < (l.length : Int) := by omega
      obtain ⟨b, o, rfl, zx, _, e0⟩ := hc k hlt
      have e9 := cell_ext e0 hbr
      by_cases hp : gi l k = p
      · have q2 : (gi l k == p) = true := by simpa using hp
        go_wp2
        go_ret
        exact ⟨_, rfl, exq, by simp [eqv, inD_at hlt hp]⟩
      · have q2 : (gi l k == p) = false := by simpa using hp
        go_wp2
        go_roundw
        case rel => exact ⟨k + 1, by first | (simp; done) | (simp; omega), by omega, no_next hno hp, exq⟩
        case measure => simp [intOf]; omega
    · obtain rfl : k = l.length := by omega
      have q1 : ¬ ((l.length : Nat) : Int) < (l.length : Int) := by omega
      go_wp2
      go_ret
      exact ⟨_, rfl, exq, by simp [eqv, inD_none hno]⟩
end Go.Proofs.Ytcfbdfgondmkoaa
