/- The list of free nodes, walked. -/
import Derived.Test.YtcfbdfgondmkoaaStW0
namespace Go.Proofs.Ytcfbdfgondmkoaa
open Go Go.RowKit Go.Maps
set_option linter.unusedSimpArgs false
set_option linter.unusedVariables false
set_option linter.unnecessarySimpa false

def lenV : Value → Nat
  | .slice _ n _ => n
  | _ => 0
def WalkR (N : Nat → Prop) (w : World) (m : Arena) (B : Nat) (cs : Array Value) (p : Int) (v : Value) (wr : World) : Prop :=
  ∃ out : List Int, Box wr w.heap.size cs 50 ∧ OwnSet wr (w.heap.size + 1) out ∧ OwnSl 1 3 RI B wr v out ∧ Ext w wr ∧ B ≤ wr.heap.size ∧ (∀ q, out.count q ≤ 1) ∧ (∀ q, q ∈ out → 1 ≤ q ∧ q < m.G.length) ∧ walkF m (m.G.length + 1 - out.length) p out = walkD m
theorem walk_cnt {out : List Int} {p : Int} (h : ∀ q, out.count q ≤ 1) (hp : p ∉ out) : ∀ q, (out ++ [p]).count q ≤ 1 := by
  intro q
  rw [List.count_append, count_cons_if]
  have h1 := h q
  by_cases e : p = q
  · subst e
    have := List.count_eq_zero.2 hp
    rw [if_pos rfl]; simp; omega
  · simp [e]; exact h1
theorem walk_mem {out : List Int} {p : Int} {n : Nat} (h : ∀ q, q ∈ out → 1 ≤ q ∧ q < n) (h1 : 1 ≤ p) (h2 : p < n) : ∀ q, q ∈ out ++ [p] → 1 ≤ q ∧ q < n := by
  intro q hq
  rcases List.mem_append.1 hq with hq | hq
  · exact h q hq
  · simp at hq; subst hq; exact ⟨h1, h2⟩
theorem walk_next {m : Arena} {out : List Int} {p v : Int} (h : walkF m (m.G.length + 1 - out.length) p out = walkD m) (hf : m.G.length + 1 - out.length = (m.G.length - out.length) + 1) (h0 : ¬ p = 0) (h1 : ¬ p < 0) (h2 : ¬ (m.G.length : Int) ≤ p) (h3 : p ∉ out) (hv : loadD m (linkAt p) = v) :
    walkF m (m.G.length + 1 - (out ++ [p]).length) v (out ++ [p]) = walkD m := by
  rw [← h, hf]
  conv => rhs; unfold walkF
  rw [if_neg h0, if_neg (fun e => e.elim h1 (fun e => e.elim h2 h3)), hv, show m.G.length + 1 - (out ++ [p]).length = m.G.length - out.length by rw [List.length_append, List.length_singleton]; omega]
section
variable {ops : Array Oper} {rest : List Oper} {o : Oper} {a : Act} {Q : Exit → Act → World → Prop} {w : World}
theorem wpList_append_genK {α : Type} {sz : Nat} {R : World → α → List Value → Prop} {M : Nat → Prop} {v vx : Value} {l1 l2 : List α} {t e : TypeId} {z : Value} {base : Nat} (hT : RowType t e sz z) (hzs : z.cells.size = sz) (hsz : 0 < sz) (hone : ∀ x cs, R w x cs → ∀ c ∈ cs, c.oneCell' = true) (hRw : ∀ w w' x cs, R w x cs → R w' x cs)
    (s x : Operand) (hg : o.guard = none) (hop : o.op = Op.call { callee := Callee.builtin Builtin.append, args := #[s, x], argTypes := #[t, t] })
    (hs : a.eval s = v) (hx : a.eval x = vx) (h1 : OwnSl sz e R base w v l1) (h2 : IsSl sz R M w vx l2) (hl : l1.length + l2.length ≤ 100000) (hbase : base ≤ w.heap.size)
    (hK : ∀ a' n' c' w', Hid (n' = (l1 ++ l2).length) → OwnSl sz e R base w' (.slice a' n' c') (l1 ++ l2) → (∀ b cs t, Box w b cs t → b < base → Box w' b cs t) → (∀ a, Ext a w → a.heap.size ≤ base → Ext a w') → w.heap.size ≤ w'.heap.size → Keep (fun k => base ≤ k) w w' → wpList Proofs.Try.prog ops Q rest (a.put o.dst (.slice a' n' c')) w') : wpList Proofs.Try.prog ops Q (o :: rest) a w :=
  wpList_append_osl s x hg hop hs hx hT hzs hsz h1 h2 hone (fun w' g x cs h => hRw _ _ _ _ h) hl hbase fun a' c' w' ho hgr =>
    hK a' _ c' w' (Lib.hid rfl) ho (fun b cs t hB hb => hB.keep (grown_keep (N := fun k => base ≤ k) hgr fun k hk => h1.base k hk) (by omega)) (fun a ha hsz => grown_ext hgr ha fun k hk => Nat.le_trans hsz (h1.base k hk)) hgr.size (grown_keep hgr fun k hk => h1.base k hk)
end
set_option maxHeartbeats 4000000 in
set_option maxRecDepth 100000 in
theorem walk_ (N : Nat → Prop) (va : Value) (m : Arena) (w : World) (h : IsMem N w va m) (hN : ∀ b, N b → b < w.heap.size) (hfit : Fits m) : Gives Proofs.Try.prog 105 #[va] w (fun r w' => ∃ u, r = .tuple #[u, .bool (walkD m).2] ∧ IsInts N w' u (walkD m).1) := by
  have hg1 : 1 ≤ m.G.length := hfit.2.1
  have hg2 : m.G.length ≤ 201 := hfit.2.2
  obtain ⟨aw, cw, ag, cg, rfl, mw0, mg0⟩ := h.opened
  have hmm := @run_makeMap Proofs.Try.prog
  obtain ⟨m0, hm0⟩ : ∃ m0, touchD m 0 = m0 := ⟨_, rfl⟩
  obtain ⟨v0, hv0⟩ : ∃ v, loadD m 0 = v := ⟨_, rfl⟩
  have kl0 : ∀ (w' : World) (va : Value), IsMem N w' va m → w.heap.size ≤ w'.heap.size → Gives Proofs.Try.prog 64 #[va, .int .i64 0] w' (fun r w' => ∃ u, r = .tuple #[u, .int .i64 v0] ∧ IsMem N w' u m0) := fun w' va hm hsz => by
    have := memLoad_ N va m 0 w' hm hfit (fun b hb => Nat.lt_of_lt_of_le (hN b hb) hsz) (by decide) (by decide)
    rw [hm0, hv0] at this; exact this
  have hstart : walkF m (m.G.length + 1 - ([] : List Int).length) (idx v0) [] = walkD m := by unfold walkD; rw [hv0]; rfl
  have hset0 : OwnSet ((w.alloc (.cells #[.slice aw m.W.length cw, .slice ag m.G.length cg, .bool m.bad] 50)).alloc (.map #[] 0)) (w.heap.size + 1) [] := by
    have := World.ownsMap_made (H := Unit) (w.alloc (.cells #[.slice aw m.W.length cw, .slice ag m.G.length cg, .bool m.bad] 50)) Proofs.Try.prog 3 (plainElem Proofs.Try.prog 4)
    simpa [OwnSet, setD, setOf] using this
  clear hm0 hv0
  go_enter Proofs.Try.func105, Proofs.Try.ntmps105
  go_wp2_with (fail)
  go_step3
  go_wp2_with (fail)
  go_at_call 64
  refine (kl0 _ _ (h.ext (by with_reducible (repeat (first | assumption | exact Ext.refl _ | refine Ext.alloc' ?_ _ | refine Ext.store0 ?_ _ _ | refine Ext.storek ?_ _ _ _ | refine Ext.stores0 ?_ ?_ _ _ | refine Ext.storesk ?_ ?_ _ _ _ | refine Ext.drewN' ?_ _ | refine Ext.drew' ?_ | refine Ext.trans ?_ (by assumption))))) (by first | omega | (simp <;> omega))).calls.mono ?_
  rintro e w1 ⟨_, rfl, hb1, u, rfl, hu1⟩
  obtain ⟨u1, u2, u3, u4, rfl, uw, ug⟩ := hu1.opened
  have B0_1 : Box w1 (w.heap.size) #[.slice aw m.W.length cw, .slice ag m.G.length cg, .bool m.bad] 50 := ((Box.newAt _ _ _ (by first | rfl | simp)).alloc _).ext hb1
  have s1 : w.heap.size + 2 ≤ w1.heap.size := (by have h := hb1.size; first | omega | (simp at h; omega))
  obtain ⟨c0_0, c0_1, c0_2, d0_0, d0_1, d0_2⟩ := cells3 B0_1
  have z0 : w.heap.size < w1.heap.size := B0_1.lt
  go_wp2_with (fail)
  go_at_call 41
  refine (idx_ v0 _).calls.mono ?_
  rintro e w2 ⟨_, rfl, hb2, rfl⟩
  have B0_2 : Box w2 (w.heap.size) #[.slice aw m.W.length cw, .slice ag m.G.length cg, .bool m.bad] 50 := (B0_1.alloc _).ext hb2
  have B1_2 : Box w2 (w1.heap.size) #[.slice u1 m0.W.length u2, .slice u3 m0.G.length u4, .bool m0.bad] 50 := (Box.newAt _ _ _ (by first | rfl | simp)).ext hb2
  clear c0_0 c0_1 c0_2 d0_0 d0_1 d0_2 z0
  have s2 : w1.heap.size + 1 ≤ w2.heap.size := (by have h := hb2.size; first | omega | (simp at h; omega))
  obtain ⟨c0_0, c0_1, c0_2, d0_0, d0_1, d0_2⟩ := cells3 B0_2
  have z0 : w.heap.size < w2.heap.size := B0_2.lt
  obtain ⟨c1_0, c1_1, c1_2, d1_0, d1_1, d1_2⟩ := cells3 B1_2
  have z1 : w1.heap.size < w2.heap.size := B1_2.lt
  go_wp2_with (fail)
  go_step3
  go_wp2
  obtain ⟨B, hB⟩ : ∃ B, B = w2.heap.size := ⟨_, rfl⟩
  have hB1 : w.heap.size + 2 ≤ B := (by rw [hB]; have h1 := s1; have h2 := s2; (try simp at h1); (try simp at h2); omega)
  have hB2 : B ≤ w2.heap.size := Nat.le_of_eq hB
  clear hB
  have hW2 : Ext w w2 := (by with_reducible (repeat (first | assumption | exact Ext.refl _ | refine Ext.alloc' ?_ _ | refine Ext.store0 ?_ _ _ | refine Ext.storek ?_ _ _ _ | refine Ext.stores0 ?_ ?_ _ _ | refine Ext.storesk ?_ ?_ _ _ _ | refine Ext.drewN' ?_ _ | refine Ext.drew' ?_ | refine Ext.trans ?_ (by assumption))))
  have hset2 : OwnSet w2 (w.heap.size + 1) [] := (hset0.keep (M := no) hb1.keep id).keep (M := no) ((Ext.keep (by with_reducible (repeat (first | assumption | exact Ext.refl _ | refine Ext.alloc' ?_ _ | refine Ext.store0 ?_ _ _ | refine Ext.storek ?_ _ _ _ | refine Ext.stores0 ?_ ?_ _ _ | refine Ext.storesk ?_ ?_ _ _ _ | refine Ext.drewN' ?_ _ | refine Ext.drew' ?_ | refine Ext.trans ?_ (by assumption)))) : Keep no w1 (w1.alloc _)).trans hb2.keep) id
  go_loopw [4, 8] (fun v pp wr => ∃ p : Int, pp = .int .i64 p ∧ WalkR N w m B #[.slice aw m.W.length cw, .slice ag m.G.length cg, .bool m.bad] p v wr) (fun v _ _ => m.G.length + 1 - lenV v)
  case atStart => exact ⟨_, rfl, [], B0_2, hset2, OwnSl.none_, hW2, hB2, by simp, by simp, hstart⟩
  case round =>
    obtain ⟨p, rfl, out, hbx, hset, hown, hWx, hBx, hcnt, hmem, hwalk⟩ := hrel
    obtain ⟨w5, rfl⟩ : ∃ w5 : World, w5 = wr := ⟨_, rfl⟩
    obtain ⟨va, vc, rfl, hvc1, hvc2⟩ := hown.shape
    have hlen : out.length + 1 ≤ m.G.length := by have := pigeon (m.G.length - 1) out hcnt (fun q hq => by have := hmem q hq; omega); omega
    have s5 : B ≤ w5.heap.size := hBx
    have HW := Lib.hid hwalk; have HC := Lib.hid hcnt; have HM := Lib.hid hmem
    clear hwalk hcnt hmem
    have hfuel : m.G.length + 1 - out.length = (m.G.length - out.length) + 1 := by omega
    have HF := Lib.hid hfuel
    clear hfuel
    by_cases hp0 : p = 0
    · subst hp0
      have hd : walkD m = (out, true) := by rw [← HW.out, HF.out]; rfl
      obtain ⟨c0_0, c0_1, c0_2, d0_0, d0_1, d0_2⟩ := cells3 hbx
      have z0 : w.heap.size < w5.heap.size := hbx.lt
      go_wp2
      try rw [Exit.noGoto_ret]
      go_ret2
      exact ⟨_, rfl, (by with_reducible (repeat (first | assumption | exact Ext.refl _ | refine Ext.alloc' ?_ _ | refine Ext.store0 ?_ _ _ | refine Ext.storek ?_ _ _ _ | refine Ext.stores0 ?_ ?_ _ _ | refine Ext.storesk ?_ ?_ _ _ _ | refine Ext.drewN' ?_ _ | refine Ext.drew' ?_ | refine Ext.trans ?_ (by assumption)))), .slice va out.length vc, by rw [hd]; first | done | rfl, by rw [hd]; exact hown.ints fun b hb hn => by have := hN b hn; omega⟩
    · have q0 : (p == 0) = false := by simpa using hp0
      by_cases hneg : p < 0
      · have hd : walkD m = ([], false) := by rw [← HW.out, HF.out]; unfold walkF; rw [if_neg hp0, if_pos (.inl hneg)]
        obtain ⟨c0_0, c0_1, c0_2, d0_0, d0_1, d0_2⟩ := cells3 hbx
        have z0 : w.heap.size < w5.heap.size := hbx.lt
        go_wp2
        try rw [Exit.noGoto_ret]
        go_ret2
        exact ⟨_, rfl, (by with_reducible (repeat (first | assumption | exact Ext.refl _ | refine Ext.alloc' ?_ _ | refine Ext.store0 ?_ _ _ | refine Ext.storek ?_ _ _ _ | refine Ext.stores0 ?_ ?_ _ _ | refine Ext.storesk ?_ ?_ _ _ _ | refine Ext.drewN' ?_ _ | refine Ext.drew' ?_ | refine Ext.trans ?_ (by assumption)))), .slice none 0 0, by rw [hd]; first | done | rfl, by rw [hd]; exact nil_ints _ _⟩
      · by_cases hbig : (m.G.length : Int) ≤ p
        · have hd : walkD m = ([], false) := by rw [← HW.out, HF.out]; unfold walkF; rw [if_neg hp0, if_pos (.inr (.inl hbig))]
          obtain ⟨c0_0, c0_1, c0_2, d0_0, d0_1, d0_2⟩ := cells3 hbx
          have z0 : w.heap.size < w5.heap.size := hbx.lt
          go_wp2
          try rw [Exit.noGoto_ret]
          go_ret2
          exact ⟨_, rfl, (by with_reducible (repeat (first | assumption | exact Ext.refl _ | refine Ext.alloc' ?_ _ | refine Ext.store0 ?_ _ _ | refine Ext.storek ?_ _ _ _ | refine Ext.stores0 ?_ ?_ _ _ | refine Ext.storesk ?_ ?_ _ _ _ | refine Ext.drewN' ?_ _ | refine Ext.drew' ?_ | refine Ext.trans ?_ (by assumption)))), .slice none 0 0, by rw [hd]; first | done | rfl, by rw [hd]; exact nil_ints _ _⟩
        · have hlook := hset.look (p := p) (by omega) (by omega)
          by_cases hin : p ∈ out
          · have hd : walkD m = ([], false) := by rw [← HW.out, HF.out]; unfold walkF; rw [if_neg hp0, if_pos (.inr (.inr hin))]
            rw [show decide (p ∈ out) = true by simpa using hin] at hlook
            obtain ⟨c0_0, c0_1, c0_2, d0_0, d0_1, d0_2⟩ := cells3 hbx
            have z0 : w.heap.size < w5.heap.size := hbx.lt
            go_wp2
            try rw [Exit.noGoto_ret]
            go_ret2
            exact ⟨_, rfl, (by with_reducible (repeat (first | assumption | exact Ext.refl _ | refine Ext.alloc' ?_ _ | refine Ext.store0 ?_ _ _ | refine Ext.storek ?_ _ _ _ | refine Ext.stores0 ?_ ?_ _ _ | refine Ext.storesk ?_ ?_ _ _ _ | refine Ext.drewN' ?_ _ | refine Ext.drew' ?_ | refine Ext.trans ?_ (by assumption)))), .slice none 0 0, by rw [hd]; first | done | rfl, by rw [hd]; exact nil_ints _ _⟩
          · rw [show decide (p ∈ out) = false by simpa using hin] at hlook
            have hp1 : 1 ≤ p := by omega
            obtain ⟨m1, hm1⟩ : ∃ m1, touchD m (linkAt p) = m1 := ⟨_, rfl⟩
            obtain ⟨v, hv⟩ : ∃ v, loadD m (linkAt p) = v := ⟨_, rfl⟩
            have kl : ∀ (w' : World) (va : Value), IsMem N w' va m → w.heap.size ≤ w'.heap.size → Gives Proofs.Try.prog 64 #[va, .int .i64 (linkAt p)] w' (fun r w' => ∃ u, r = .tuple #[u, .int .i64 v] ∧ IsMem N w' u m1) := fun w' va hm hsz => by
              have := memLoad_ N va m (linkAt p) w' hm hfit (fun b hb => Nat.lt_of_lt_of_le (hN b hb) hsz) (linkAt_lo _).1 (linkAt_lo _).2
              rw [hm1, hv] at this; exact this
            have HV := Lib.hid hv
            clear hv hm1
            obtain ⟨c0_0, c0_1, c0_2, d0_0, d0_1, d0_2⟩ := cells3 hbx
            have z0 : w.heap.size < w5.heap.size := hbx.lt
            go_wp2_with (first | (at_builtin; refine wpList_append_genK (base := B) rowI zs1 (by decide) one_int' (fun _ _ _ _ h => h) (.tmp 38) (.tmp 40) rfl rfl rfl rfl (OwnSl.extW hown (by with_reducible (repeat (first | assumption | exact Ext.refl _ | refine Ext.alloc' ?_ _ | refine Ext.store0 ?_ _ _ | refine Ext.storek ?_ _ _ _ | refine Ext.stores0 ?_ ?_ _ _ | refine Ext.storesk ?_ ?_ _ _ _ | refine Ext.drewN' ?_ _ | refine Ext.drew' ?_ | refine Ext.trans ?_ (by assumption))))) (IsSl.one (sz := 1) (cs := [.int .i64 p]) (Box.newAt _ _ _ (by first | rfl | simp)) rfl rfl) (by first | omega | (simp <;> omega)) (by first | omega | (simp <;> omega)) ?_; intro fa fan fc w6 Hfa ho6 kb6 kx6 ks6 kk6; have hb6 : Ext w w6 := kx6 w (by with_reducible (repeat (first | assumption | exact Ext.refl _ | refine Ext.alloc' ?_ _ | refine Ext.store0 ?_ _ _ | refine Ext.storek ?_ _ _ _ | refine Ext.stores0 ?_ ?_ _ _ | refine Ext.storesk ?_ ?_ _ _ _ | refine Ext.drewN' ?_ _ | refine Ext.drew' ?_ | refine Ext.trans ?_ (by assumption)))) (by omega); have hset6 : OwnSet w6 (w.heap.size + 1) out := (OwnSet.keep (M := no) hset (Ext.keep (by with_reducible (repeat (first | assumption | exact Ext.refl _ | refine Ext.alloc' ?_ _ | refine Ext.store0 ?_ _ _ | refine Ext.storek ?_ _ _ _ | refine Ext.stores0 ?_ ?_ _ _ | refine Ext.storesk ?_ ?_ _ _ _ | refine Ext.drewN' ?_ _ | refine Ext.drew' ?_ | refine Ext.trans ?_ (by assumption))))) (fun q => q)).keep kk6 (by omega); have B0_6 : Box w6 (w.heap.size) #[.slice aw m.W.length cw, .slice ag m.G.length cg, .bool m.bad] 50 := kb6 _ _ _ (hbx.alloc _) (by omega); clear c0_0 c0_1 c0_2 d0_0 d0_1 d0_2 z0; have s6 : w5.heap.size + 1 ≤ w6.heap.size := (by have h := ks6; simp at h; omega); obtain ⟨c0_0, c0_1, c0_2, d0_0, d0_1, d0_2⟩ := cells3 B0_6; have z0 : w.heap.size < w6.heap.size := B0_6.lt) | (at_mapUpdate; refine wpList_mapUpdate_own _ rfl _ _ _ 175 rfl 3 4 keyed3 und175 _ (w.heap.size + 1) out.length _ rfl hset6 (by unfold maxLen; omega) _ _ _ rfl rfl (key3 (p := p) (by omega) (by omega)) _ [] (plainElem_bool Proofs.Try.underlying4 true) ?_; intro w7 hset7 hgr7; have hb7 : Ext w w7 := grown_ext hgr7 hb6 (fun k e => (by cases e; omega)); have hkm7 : Keep (fun k => k = (w.heap.size + 1)) w6 w7 := grown_keep hgr7 (fun k e => (by cases e; rfl)); have B0_7 : Box w7 (w.heap.size) #[.slice aw m.W.length cw, .slice ag m.G.length cg, .bool m.bad] 50 := (B0_6.keep hkm7 (by omega)); clear c0_0 c0_1 c0_2 d0_0 d0_1 d0_2 z0; have s7 : w6.heap.size ≤ w7.heap.size := hgr7.size; obtain ⟨c0_0, c0_1, c0_2, d0_0, d0_1, d0_2⟩ := cells3 B0_7; have z0 : w.heap.size < w7.heap.size := B0_7.lt))
            have hX10 : Ext w w7 := (by with_reducible (repeat (first | assumption | exact Ext.refl _ | refine Ext.alloc' ?_ _ | refine Ext.store0 ?_ _ _ | refine Ext.storek ?_ _ _ _ | refine Ext.storen ?_ (by omega) | refine Ext.stores0 ?_ ?_ _ _ | refine Ext.storesk ?_ ?_ _ _ _ | refine Ext.drewN' ?_ _ | refine Ext.drew' ?_ | refine Ext.trans ?_ (by assumption))))
            have hK10 : Keep N w7 w7 := Keep.refl _ _
            have D0_10 := B0_7
            have aM : IsMem N w7 (.agg #[.slice aw m.W.length cw, .slice ag m.G.length cg, .bool m.bad]) m := h.ext hb7
            clear c0_0 c0_1 c0_2 d0_0 d0_1 d0_2 z0
            apply region_lit2 (T := []) (L := []) (X := []) (G := [eqv _, eqv _, eqv _, isTupN N m1 (.int .i64 v), isTupN N m1 (.int .i64 v), isMemN N m1, eqv (.int .i64 v), eqv _])
            case hm => kernel_rfl
            case hop =>
              refine ⟨?_, ?_, ?_, ?_, ?_, ?_, ?_, ?_, trivial⟩
              · intro a wa hs hf hd
                have t1 := hf.off 1 (by kernel_rfl) rfl
                exact plain_ rfl (yes_eqv (o_load3 rfl Proofs.Try.underlying50 rfl (by kernel_rfl) t1 ((D0_10.since hs rfl).cell rfl) ((D0_10.since hs rfl).cell rfl) ((D0_10.since hs rfl).cell rfl)) rfl)
              · intro a wa hs hf hd
                have t8 := hf.off 8 (by kernel_rfl) rfl
                exact plain_ rfl (yes_eqv (o_move rfl t8) rfl)
              · intro a wa hs hf hd
                have t44 : a.eval (.tmp 44) = _ := hd.at 1 44 (by kernel_rfl)
                exact plain_ rfl (yes_gives (atw_ p _) rfl rfl Proofs.Try.func57 (by kernel_rfl) (by kernel_rfl) (by simp only [List.map_toArray, List.map_cons, List.map_nil, eval_const, t44]) rfl)
              · intro a wa hs hf hd
                have t43 : a.eval (.tmp 43) = _ := hd.at 0 43 (by kernel_rfl)
                have t45 : a.eval (.tmp 45) = _ := hd.at 2 45 (by kernel_rfl)
                exact plain_ rfl (yes_gives (kl _ _ (aM.ext (Since.to_ext hs)) (by have := (Since.to_ext hs).size; have := hX10.size; omega)) rfl rfl Proofs.Try.func64 (by kernel_rfl) (by kernel_rfl) (by simp only [List.map_toArray, List.map_cons, List.map_nil, t43, t45]) rfl)
              · intro a wa hs hf hd
                have t46 := hd.at 3 46 (by kernel_rfl)
                obtain ⟨u, hu, hm⟩ := t46
                exact plain_ rfl (yes_val (runs_ok (o_move rfl hu)) (Ext.refl _) ⟨u, rfl, hm⟩ rfl)
              · intro a wa hs hf hd
                have t42 := hd.at 4 42 (by kernel_rfl)
                obtain ⟨u, hu, hm⟩ := t42
                exact plain_ rfl (yes_val (runs_ok (o_extract rfl hu rfl)) (Ext.refl _) hm rfl)
              · intro a wa hs hf hd
                have t42 := hd.at 4 42 (by kernel_rfl)
                obtain ⟨u, hu, hm⟩ := t42
                exact plain_ rfl (yes_eqv (o_extract rfl hu rfl) rfl)
              · intro a wa hs hf hd
                have t48 : a.eval (.tmp 48) = _ := hd.at 6 48 (by kernel_rfl)
                exact plain_ rfl (yes_eqv (o_assign rfl t48) rfl)
            case hG => exact ⟨stable_eqv _, stable_eqv _, stable_eqv _, stable_isTupN _ _ _, stable_isTupN _ _ _, stable_isMemN _ _, stable_eqv _, stable_eqv _, trivial⟩
            case hc => kernel_rfl
            case hfin =>
              intro v10 hs10
              rintro _ rfl _ rfl _ rfl _ ⟨p3, rfl, h3⟩ _ ⟨p4, rfl, h4⟩ p5 h5 _ rfl _ rfl
              obtain ⟨u1, u2, u3, u4, rfl, uw, ug⟩ := IsMem.opened h5
              intro x hx
              rw [hx]
              clear hx x
              simp only [Act.put, List.setIfInBounds_toArray, List.set_cons_zero, List.set_cons_succ]
              obtain ⟨w8, hw8⟩ : ∃ x, x = v10 := ⟨_, rfl⟩
              have hb8 : Ext w w8 := by rw [hw8]; exact hX10.trans (Since.to_ext hs10)
              have hk8 : Keep N w7 w8 := by rw [hw8]; exact hK10.ext (Since.to_ext hs10)
              have hQ8 : Ext w7 w8 := by rw [hw8]; exact Since.to_ext hs10
              have B0_8 : Box w8 (w.heap.size) #[.slice aw m.W.length cw, .slice ag m.G.length cg, .bool m.bad] 50 := by rw [hw8]; exact (D0_10.since hs10 rfl)
              have s8 : w7.heap.size ≤ w8.heap.size := by rw [hw8]; exact (Since.to_ext hs10).size
              rw [← hw8]
              clear hw8
              obtain ⟨c0_0, c0_1, c0_2, d0_0, d0_1, d0_2⟩ := cells3 B0_8
              have z0 : w.heap.size < w8.heap.size := B0_8.lt
              have hset7b : OwnSet w7 (w.heap.size + 1) (out ++ [p]) := by unfold OwnSet; rw [setD_snoc, List.length_append]; exact hset7
              have hset8 : OwnSet w8 (w.heap.size + 1) (out ++ [p]) := hset7b.keep (M := no) hQ8.keep (fun q => q)
              have hown7 : OwnSl 1 3 RI B w7 (.slice fa fan fc) (out ++ [p]) := ho6.keep hkm7 (fun b hb e => by have := ho6.base b hb; omega) (fun _ _ h => h)
              have hown8 : OwnSl 1 3 RI B w8 (.slice fa fan fc) (out ++ [p]) := hown7.extW hQ8
              go_wp2
              go_roundw
              case rel => exact ⟨v, rfl, out ++ [p], B0_8, hset8, hown8, hb8, by omega, walk_cnt HC.out hin, walk_mem HM.out hp1 (by omega), walk_next HW.out HF.out hp0 (by omega) (by omega) hin HV.out⟩
              case measure => rw [show lenV (.slice fa fan fc) = out.length + 1 by show fan = _; rw [Hfa.out]; simp]; show _ < m.G.length + 1 - out.length; omega
end Go.Proofs.Ytcfbdfgondmkoaa
