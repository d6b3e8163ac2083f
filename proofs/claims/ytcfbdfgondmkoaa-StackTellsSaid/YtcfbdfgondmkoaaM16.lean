/- Texts of this work, put together: StV. -/
import Derived.Test.YtcfbdfgondmkoaaM15
import Derived.Test.YtcfbdfgondmkoaaM13
/- The list of free nodes, walked, by the document. -/
namespace Go.Proofs.Ytcfbdfgondmkoaa
open Go Go.RowKit
set_option linter.unusedSimpArgs false
set_option linter.unusedVariables false
set_option linter.unnecessarySimpa false

def lenW : Value → Nat
  | .slice _ n _ => n
  | _ => 0
def WalkV (w : World) (m : Arena) (B : Nat) (cs : Array Value) (p : Int) (v : Value) (wr : World) : Prop :=
  ∃ out : List Int, Box wr w.heap.size cs 50 ∧ OwnSl 1 3 RI B wr v out ∧ Ext w wr ∧ B ≤ wr.heap.size ∧ (∀ q, out.count q ≤ 1) ∧ (∀ q, q ∈ out → 1 ≤ q ∧ q < m.G.length) ∧ walkF m (m.G.length + 1 - out.length) p out = walkD m
theorem IsInts.row {N : Nat → Prop} {w : World} {a : Option Addr} {n cap : Nat} {l : List Int} (h : IsInts N w (.slice a n cap) l) (h0 : 0 < l.length) : ∃ b o, a = some ⟨b, o, none⟩ ∧ b < w.heap.size ∧ ¬ N b ∧ ∀ j, j < l.length → w.cell? ⟨b, o + j, none⟩ = some (.int .i64 (gi l j)) := by
  obtain ⟨a', c', e, _, _, h3⟩ := h.opened
  cases e
  obtain ⟨b, o, rfl, hb, hn', _⟩ := h3 0 h0
  refine ⟨b, o, rfl, hb, hn', fun j hj => ?_⟩
  obtain ⟨b', o', e, _, _, hc⟩ := h3 j hj
  cases e
  exact hc
theorem gi_mem {l : List Int} {j : Nat} (h : j < l.length) : gi l j ∈ l := by
  unfold gi
  rw [List.getD_eq_getElem?_getD, List.getElem?_eq_getElem h]
  exact List.getElem_mem h
theorem mem_gi {l : List Int} {p : Int} (h : p ∈ l) : ∃ q, q < l.length ∧ gi l q = p := by
  obtain ⟨q, hq, he⟩ := List.getElem_of_mem h
  exact ⟨q, hq, by unfold gi; rw [List.getD_eq_getElem?_getD, List.getElem?_eq_getElem hq]; exact he⟩
theorem no_next5 {l : List Int} {p : Int} {k : Nat} (hno : ∀ j, j < k → gi l j ≠ p) (hp : ¬ gi l k = p) : ∀ j, j < k + 1 → gi l j ≠ p := fun j hj => by
  by_cases h : j = k
  · subst h; exact hp
  · exact hno j (by omega)
theorem walk_cnt5 {out : List Int} {p : Int} (h : ∀ q, out.count q ≤ 1) (hp : p ∉ out) : ∀ q, (out ++ [p]).count q ≤ 1 := by
  intro q
  rw [List.count_append, count_cons_if]
  have h1 := h q
  by_cases e : p = q
  · subst e
    have := List.count_eq_zero.2 hp
    rw [if_pos rfl]; simp; omega
  · simp [e]; exact h1
theorem walk_mem5 {out : List Int} {p : Int} {n : Nat} (h : ∀ q, q ∈ out → 1 ≤ q ∧ q < n) (h1 : 1 ≤ p) (h2 : p < n) : ∀ q, q ∈ out ++ [p] → 1 ≤ q ∧ q < n := by
  intro q hq
  rcases List.mem_append.1 hq with hq | hq
  · exact h q hq
  · simp at hq; subst hq; exact ⟨h1, h2⟩
theorem walk_next5 {m : Arena} {out : List Int} {p v : Int} (h : walkF m (m.G.length + 1 - out.length) p out = walkD m) (hf : m.G.length + 1 - out.length = (m.G.length - out.length) + 1) (h0 : ¬ p = 0) (h1 : ¬ p < 0) (h2 : ¬ (m.G.length : Int) ≤ p) (h3 : p ∉ out) (hv : loadD m (linkAt p) = v) :
    walkF m (m.G.length + 1 - (out ++ [p]).length) v (out ++ [p]) = walkD m := by
  rw [← h, hf]
  conv => rhs; unfold walkF
  rw [if_neg h0, if_neg (fun e => e.elim h1 (fun e => e.elim h2 h3)), hv, show m.G.length + 1 - (out ++ [p]).length = m.G.length - out.length by rw [List.length_append, List.length_singleton]; omega]
section
variable {ops : Array Oper} {rest : List Oper} {o : Oper} {a : Act} {Q : Exit → Act → World → Prop} {w : World}
theorem wpList_append_genK5 {α : Type} {sz : Nat} {R : World → α → List Value → Prop} {M : Nat → Prop} {v vx : Value} {l1 l2 : List α} {t e : TypeId} {z : Value} {base : Nat} (hT : RowType t e sz z) (hzs : z.cells.size = sz) (hsz : 0 < sz) (hone : ∀ x cs, R w x cs → ∀ c ∈ cs, c.oneCell' = true) (hRw : ∀ w w' x cs, R w x cs → R w' x cs)
    (s x : Operand) (hg : o.guard = none) (hop : o.op = Op.call { callee := Callee.builtin Builtin.append, args := #[s, x], argTypes := #[t, t] })
    (hs : a.eval s = v) (hx : a.eval x = vx) (h1 : OwnSl sz e R base w v l1) (h2 : IsSl sz R M w vx l2) (hl : l1.length + l2.length ≤ 100000) (hbase : base ≤ w.heap.size)
    (hK : ∀ a' n' c' w', Hid (n' = (l1 ++ l2).length) → OwnSl sz e R base w' (.slice a' n' c') (l1 ++ l2) → (∀ b cs t, Box w b cs t → b < base → Box w' b cs t) → (∀ a, Ext a w → a.heap.size ≤ base → Ext a w') → w.heap.size ≤ w'.heap.size → Keep (fun k => base ≤ k) w w' → wpList Proofs.Try.prog ops Q rest (a.put o.dst (.slice a' n' c')) w') : wpList Proofs.Try.prog ops Q (o :: rest) a w :=
  wpList_append_osl s x hg hop hs hx hT hzs hsz h1 h2 hone (fun w' g x cs h => hRw _ _ _ _ h) hl hbase fun a' c' w' ho hgr =>
    hK a' _ c' w' (Lib.hid rfl) ho (fun b cs t hB hb => hB.keep (grown_keep (N := fun k => base ≤ k) hgr fun k hk => h1.base k hk) (by omega)) (fun a ha hsz => grown_ext hgr ha fun k hk => Nat.le_trans hsz (h1.base k hk)) hgr.size (grown_keep hgr fun k hk => h1.base k hk)
end

set_option maxHeartbeats 4000000 in
set_option maxRecDepth 100000 in
theorem refWalk_ (N : Nat → Prop) (va : Value) (m : Arena) (w : World) (h : IsMem N w va m) (hN : ∀ b, N b → b < w.heap.size) (hfit : Fits m) : Gives Proofs.Try.prog 106 #[va] w (fun r w' => ∃ u, r = .tuple #[u, .bool (walkD m).2] ∧ IsInts N w' u (walkD m).1) := by
  have hg1 : 1 ≤ m.G.length := hfit.2.1
  have hg2 : m.G.length ≤ 201 := hfit.2.2
  obtain ⟨aw, cw, ag, cg, rfl, mw0, mg0⟩ := h.opened
  obtain ⟨m0, hm0⟩ : ∃ m0, touchD m 0 = m0 := ⟨_, rfl⟩
  obtain ⟨v0, hv0⟩ : ∃ v, loadD m 0 = v := ⟨_, rfl⟩
  have kl0 : ∀ (w' : World) (va : Value), IsMem N w' va m → w.heap.size ≤ w'.heap.size → Gives Proofs.Try.prog 65 #[va, .int .i64 0] w' (fun r w' => ∃ u, r = .tuple #[u, .int .i64 v0] ∧ IsMem N w' u m0) := fun w' va hm hsz => by
    have := refLoad_ N va m 0 w' hm hfit (fun b hb => Nat.lt_of_lt_of_le (hN b hb) hsz)
    rw [hm0, hv0] at this; exact this
  have hstart : walkF m (m.G.length + 1 - ([] : List Int).length) (idx v0) [] = walkD m := by unfold walkD; rw [hv0]; rfl
  clear hm0 hv0
  go_enter Proofs.Try.func106, Proofs.Try.ntmps106
  go_wp2_with (fail)
  go_at_call 65
  refine (kl0 _ _ (h.ext exq) (by simp)).calls.mono ?_
  rintro e w1 ⟨_, rfl, hb1, u, rfl, hu1⟩
  obtain ⟨u1, u2, u3, u4, rfl, uw, ug⟩ := hu1.opened
  have B0_1 : Box w1 (w.heap.size) #[.slice aw m.W.length cw, .slice ag m.G.length cg, .bool m.bad] 50 := (Box.newAt _ _ _ (by first | rfl | simp)).ext hb1
  have s1 : w.heap.size + 1 ≤ w1.heap.size := (by have h := hb1.size; first | omega | (simp at h; omega))
  obtain ⟨c0_0, c0_1, c0_2, d0_0, d0_1, d0_2⟩ := cells3 B0_1
  have z0 : w.heap.size < w1.heap.size := B0_1.lt
  go_wp2_with (fail)
  go_at_call 42
  refine (refIdx_ v0 _).calls.mono ?_
  rintro e w2 ⟨_, rfl, hb2, rfl⟩
  have B0_2 : Box w2 (w.heap.size) #[.slice aw m.W.length cw, .slice ag m.G.length cg, .bool m.bad] 50 := (B0_1.alloc _).ext hb2
  have B1_2 : Box w2 (w1.heap.size) #[.slice u1 m0.W.length u2, .slice u3 m0.G.length u4, .bool m0.bad] 50 := (Box.newAt _ _ _ (by first | rfl | simp)).ext hb2
  clear c0_0 c0_1 c0_2 d0_0 d0_1 d0_2 z0
  have s2 : w1.heap.size + 1 ≤ w2.heap.size := (by have h := hb2.size; first | omega | (simp at h; omega))
  obtain ⟨c0_0, c0_1, c0_2, d0_0, d0_1, d0_2⟩ := cells3 B0_2
  have z0 : w.heap.size < w2.heap.size := B0_2.lt
  obtain ⟨c1_0, c1_1, c1_2, d1_0, d1_1, d1_2⟩ := cells3 B1_2
  have z1 : w1.heap.size < w2.heap.size := B1_2.lt
  go_wp2
  obtain ⟨B, hB⟩ : ∃ B, B = w2.heap.size := ⟨_, rfl⟩
  have hB1 : w.heap.size + 1 ≤ B := (by rw [hB]; have h1 := s1; have h2 := s2; (try simp at h1); (try simp at h2); omega)
  have hB2 : B ≤ w2.heap.size := Nat.le_of_eq hB
  clear hB
  have hW2 : Ext w w2 := exq
  go_loopw [4, 7] (fun v pp wr => ∃ p : Int, pp = .int .i64 p ∧ WalkV w m B #[.slice aw m.W.length cw, .slice ag m.G.length cg, .bool m.bad] p v wr) (fun v _ _ => m.G.length + 1 - lenW v)
  case atStart => exact ⟨_, rfl, [], B0_2, OwnSl.none_, hW2, hB2, by simp, by simp, hstart⟩
  case round =>
    obtain ⟨p, rfl, out, hbx, hown, hWx, hBx, hcnt, hmem, hwalk⟩ := hrel
    obtain ⟨w5, rfl⟩ : ∃ w5 : World, w5 = wr := ⟨_, rfl⟩
    obtain ⟨va, vc, rfl, hvc1, hvc2⟩ := hown.shape
    have hlen : out.length + 1 ≤ m.G.length := by have := pigeon (m.G.length - 1) out hcnt (fun q hq => by have := hmem q hq; omega); omega
    have s5 : B ≤ w5.heap.size := hBx
    have HW := Lib.hid hwalk; have HC := Lib.hid hcnt; have HM := Lib.hid hmem
    clear hwalk hcnt hmem
    have hfuel : m.G.length + 1 - out.length = (m.G.length - out.length) + 1 := by omega
    have HF := Lib.hid hfuel
    clear hfuel
    by_cases hp0 : p = 0
    · subst hp0
      have hd : walkD m = (out, true) := by rw [← HW.out, HF.out]; rfl
      obtain ⟨cX_0, cX_1, cX_2, dX_0, dX_1, dX_2⟩ := cells3 hbx
      have zX : w.heap.size < w5.heap.size := hbx.lt
      go_wp2
      try rw [Exit.noGoto_ret]
      go_ret2
      exact ⟨_, rfl, exq, .slice va out.length vc, by first | (rw [hd]; done) | (rw [hd]; rfl) | rfl, by first | (rw [hd]; exact hown.ints fun b hb hn => by have := hN b hn; omega) | exact hown.ints fun b hb hn => by have := hN b hn; omega⟩
    · have q0 : (p != 0) = true := by simpa using hp0
      by_cases hneg : p < 0
      · have hd : walkD m = ([], false) := by rw [← HW.out, HF.out]; unfold walkF; rw [if_neg hp0, if_pos (.inl hneg)]
        obtain ⟨cX_0, cX_1, cX_2, dX_0, dX_1, dX_2⟩ := cells3 hbx
        have zX : w.heap.size < w5.heap.size := hbx.lt
        go_wp2
        try rw [Exit.noGoto_ret]
        go_ret2
        exact ⟨_, rfl, exq, .slice none 0 0, by first | (rw [hd]; done) | (rw [hd]; rfl) | rfl, by first | (rw [hd]; exact nil_ints _ _) | exact nil_ints _ _⟩
      · by_cases hbig : (m.G.length : Int) ≤ p
        · have hd : walkD m = ([], false) := by rw [← HW.out, HF.out]; unfold walkF; rw [if_neg hp0, if_pos (.inr (.inl hbig))]
          obtain ⟨cX_0, cX_1, cX_2, dX_0, dX_1, dX_2⟩ := cells3 hbx
          have zX : w.heap.size < w5.heap.size := hbx.lt
          go_wp2
          try rw [Exit.noGoto_ret]
          go_ret2
          exact ⟨_, rfl, exq, .slice none 0 0, by first | (rw [hd]; done) | (rw [hd]; rfl) | rfl, by first | (rw [hd]; exact nil_ints _ _) | exact nil_ints _ _⟩
        · have hin0 : IsInts no w5 (.slice va out.length vc) out := hown.ints fun b hb hn => hn
          obtain ⟨cX_0, cX_1, cX_2, dX_0, dX_1, dX_2⟩ := cells3 hbx
          have zX : w.heap.size < w5.heap.size := hbx.lt
          go_wp2
          go_loopw [8] (fun iv wr => ∃ j : Nat, iv = .int .i64 (j : Int) ∧ j ≤ out.length ∧ (∀ q, q < j → gi out q ≠ p) ∧ Ext w5 wr) (fun iv _ => out.length - (intOf iv).toNat)
          case atStart => exact ⟨0, rfl, by omega, fun q hq => absurd hq (by omega), exq⟩
          case round =>
            obtain ⟨j, rfl, hj, hno, hX⟩ := hrel
            obtain ⟨w20, rfl⟩ : ∃ w20 : World, w20 = wr := ⟨_, rfl⟩
            have s20 : w5.heap.size ≤ w20.heap.size := hX.size
            have hWy : Ext w w20 := hWx.trans hX
            have hbx20 := hbx.ext hX
            have hown20 := hown.extW hX
            have HNO := Lib.hid hno
            clear hno
            by_cases hjl : j < out.length
            · have q1 : (j : Int) < (out.length : Int) := by omega
              obtain ⟨bv, ov, rfl, xv, _, ev⟩ := hin0.row (by omega)
              have ev9 := cell_ext (ev j hjl) hX
              have xv9 : bv < w20.heap.size := World.block_lt_of_cell? _ _ ev9
              by_cases heq : gi out j = p
              · have hin : p ∈ out := by rw [← heq]; exact gi_mem hjl
                have hd : walkD m = ([], false) := by rw [← HW.out, HF.out]; unfold walkF; rw [if_neg hp0, if_pos (.inr (.inr hin))]
                have q2 : (gi out j == p) = true := by simpa using heq
                clear heq
                obtain ⟨cX_0, cX_1, cX_2, dX_0, dX_1, dX_2⟩ := cells3 hbx20
                have zX : w.heap.size < w20.heap.size := hbx20.lt
                go_wp2
                try rw [Exit.noGoto_ret]
                go_ret2
                exact ⟨_, rfl, exq, .slice none 0 0, by first | (rw [hd]; done) | (rw [hd]; rfl) | rfl, by first | (rw [hd]; exact nil_ints _ _) | exact nil_ints _ _⟩
              · have q2 : (gi out j == p) = false := by simpa using heq
                obtain ⟨cX_0, cX_1, cX_2, dX_0, dX_1, dX_2⟩ := cells3 hbx20
                have zX : w.heap.size < w20.heap.size := hbx20.lt
                go_wp2
                go_roundw
                case rel => exact ⟨j + 1, by simp, by omega, no_next5 HNO.out heq, exq⟩
                case measure => simp [intOf]; omega
            · have hje : j = out.length := by omega
              have q1 : ¬ (j : Int) < (out.length : Int) := by omega
              have hin : p ∉ out := fun hi => by
                obtain ⟨q, hq, he⟩ := mem_gi hi
                exact HNO.out q (by omega) he
              have hp1 : 1 ≤ p := by omega
              obtain ⟨m1, hm1⟩ : ∃ m1, touchD m (linkAt p) = m1 := ⟨_, rfl⟩
              obtain ⟨v, hv⟩ : ∃ v, loadD m (linkAt p) = v := ⟨_, rfl⟩
              have kl : ∀ (w' : World) (va : Value), IsMem N w' va m → w.heap.size ≤ w'.heap.size → Gives Proofs.Try.prog 65 #[va, .int .i64 (linkAt p)] w' (fun r w' => ∃ u, r = .tuple #[u, .int .i64 v] ∧ IsMem N w' u m1) := fun w' va hm hsz => by
                have := refLoad_ N va m (linkAt p) w' hm hfit (fun b hb => Nat.lt_of_lt_of_le (hN b hb) hsz)
                rw [hm1, hv] at this; exact this
              have HV := Lib.hid hv
              clear hv hm1 hin0 hown hbx
              obtain ⟨cX_0, cX_1, cX_2, dX_0, dX_1, dX_2⟩ := cells3 hbx20
              have zX : w.heap.size < w20.heap.size := hbx20.lt
              go_wp2_with (at_builtin; refine wpList_append_genK5 (base := B) rowI zs1 (by decide) one_int' (fun _ _ _ _ h => h) (.tmp 41) (.tmp 43) rfl rfl rfl rfl (OwnSl.extW hown20 exq) (IsSl.one (sz := 1) (cs := [.int .i64 p]) (Box.newAt _ _ _ (by first | rfl | simp)) rfl rfl) (by first | omega | (simp <;> omega)) (by first | omega | (simp <;> omega)) ?_; intro fa fan fc w21 Hfa ho21 kb21 kx21 ks21 kk21; have hb21 : Ext w w21 := kx21 w exq (by omega); have BX_21 : Box w21 (w.heap.size) #[.slice aw m.W.length cw, .slice ag m.G.length cg, .bool m.bad] 50 := kb21 _ _ _ (hbx20.alloc _) (by omega); clear cX_0 cX_1 cX_2 dX_0 dX_1 dX_2 zX; have s21 : w20.heap.size + 1 ≤ w21.heap.size := (by have h := ks21; simp at h; omega); obtain ⟨cX_0, cX_1, cX_2, dX_0, dX_1, dX_2⟩ := cells3 BX_21; have zX : w.heap.size < w21.heap.size := BX_21.lt)
              have hX13 : Ext w w21 := exn
              have hK13 : Keep N w21 w21 := Keep.refl _ _
              have DX_13 := BX_21
              have aM : IsMem N w21 (.agg #[.slice aw m.W.length cw, .slice ag m.G.length cg, .bool m.bad]) m := h.ext hb21
              clear cX_0 cX_1 cX_2 dX_0 dX_1 dX_2 zX
              apply region_lit2 (T := [8]) (L := [6, 9]) (X := []) (G := [eqv _, eqv _, eqv _, isTupN N m1 (.int .i64 v), isTupN N m1 (.int .i64 v), isMemN N m1, eqv (.int .i64 v), isNew w21.heap.size #[.slice none 0 0, .slice none 0 0, .bool false] 50, anyG, eqv _])
              case hm => kernel_rfl
              case hop =>
                refine ⟨?_, ?_, ?_, ?_, ?_, ?_, ?_, ?_, ?_, ?_, trivial⟩
                · intro a wa hs hf hd
                  have t1 := hf.off 1 (by kernel_rfl) rfl
                  exact plain_ rfl (yes_eqv (o_load3 rfl Proofs.Try.underlying50 rfl (by kernel_rfl) t1 ((DX_13.since hs rfl).cell rfl) ((DX_13.since hs rfl).cell rfl) ((DX_13.since hs rfl).cell rfl)) rfl)
                · intro a wa hs hf hd
                  have t7 := hf.off 7 (by kernel_rfl) rfl
                  exact plain_ rfl (yes_eqv (o_move rfl t7) rfl)
                · intro a wa hs hf hd
                  have t47 : a.eval (.tmp 47) = _ := hd.at 1 47 (by kernel_rfl)
                  exact plain_ rfl (yes_gives (refAtw_ p _) rfl rfl Proofs.Try.func58 (by kernel_rfl) (by kernel_rfl) (by simp only [List.map_toArray, List.map_cons, List.map_nil, eval_const, t47]) rfl)
                · intro a wa hs hf hd
                  have t46 : a.eval (.tmp 46) = _ := hd.at 0 46 (by kernel_rfl)
                  have t48 : a.eval (.tmp 48) = _ := hd.at 2 48 (by kernel_rfl)
                  exact plain_ rfl (yes_gives (kl _ _ (aM.ext (Since.to_ext hs)) (by have := (Since.to_ext hs).size; have := hX13.size; omega)) rfl rfl Proofs.Try.func65 (by kernel_rfl) (by kernel_rfl) (by simp only [List.map_toArray, List.map_cons, List.map_nil, t46, t48]) rfl)
                · intro a wa hs hf hd
                  have t49 := hd.at 3 49 (by kernel_rfl)
                  obtain ⟨u, hu, hm⟩ := t49
                  exact plain_ rfl (yes_val (runs_ok (o_move rfl hu)) (Ext.refl _) ⟨u, rfl, hm⟩ rfl)
                · intro a wa hs hf hd
                  have t45 := hd.at 4 45 (by kernel_rfl)
                  obtain ⟨u, hu, hm⟩ := t45
                  exact plain_ rfl (yes_val (runs_ok (o_extract rfl hu rfl)) (Ext.refl _) hm rfl)
                · intro a wb wa hs1 hs hf hd
                  have t45 := hd.at 4 45 (by kernel_rfl)
                  obtain ⟨u, hu, hm⟩ := t45
                  exact plain_ rfl (late_eqv (o_extract rfl hu rfl) rfl)
                · intro a wa hs hf hd
                  exact plain_ rfl (yes_new (z := .agg #[.slice none 0 0, .slice none 0 0, .bool false]) rfl (by kernel_rfl) (by kernel_rfl) rfl hs.size)
                · intro a wb wa hs1 hs hf hd hrun
                  have t9 := hd.at 7 9 (by kernel_rfl)
                  have t50 := hd.at 5 50 (by kernel_rfl)
                  subst hrun
                  have q18 : IsMem N _ (a.eval (.tmp 50)) m1 := t50
                  obtain ⟨u1, u2, u3, u4, hv, _⟩ := q18.opened
                  obtain ⟨bk, hp, hk, hBk⟩ := t9
                  exact ⟨_, o_store rfl hp hv hBk (by kernel_rfl) (by simp [Value.cells, Value.oneCell']) (by first | (simp [Value.cells]; done) | (simp [Value.cells]; omega)) rfl, Since.put hs (.inl hk)⟩
                · intro a wb wa hs1 hs hf hd
                  have t51 : a.eval (.tmp 51) = _ := hd.at 6 51 (by kernel_rfl)
                  exact plain_ rfl (late_eqv (o_assign rfl t51) rfl)
              case hG => exact ⟨stable_eqv _, stable_eqv _, stable_eqv _, stable_isTupN _ _ _, stable_isTupN _ _ _, stable_isMemN _ _, stable_eqv _, stable_isNew _ _ _, stable_any, stable_eqv _, trivial⟩
              case hc => kernel_rfl
              case hfin =>
                intro v13 hs13
                rintro _ rfl _ rfl _ rfl _ ⟨p3, rfl, h3⟩ _ ⟨p4, rfl, h4⟩ p5 h5 _ rfl _ ⟨bn7, rfl, hbn7, hBn7⟩ _ rfl
                obtain ⟨u1, u2, u3, u4, rfl, uw, ug⟩ := IsMem.opened h5
                rintro v13w ⟨o1, v1, ho1, hr1, rfl⟩
                cases ho1
                simp only [Act.put, List.setIfInBounds_toArray, List.set_cons_zero, List.set_cons_succ] at hr1 ⊢
                cases (hr1.symm.trans (o_store (v := .agg #[.slice u1 m1.W.length u2, .slice u3 m1.G.length u4, .bool m1.bad]) (new := #[.slice u1 m1.W.length u2, .slice u3 m1.G.length u4, .bool m1.bad]) rfl rfl rfl ((hBn7)) (by kernel_rfl) (by simp [Value.cells, Value.oneCell']) (by first | (simp [Value.cells]; done) | (simp [Value.cells]; omega)) (by first | rfl | kernel_rfl)))
                obtain ⟨w22, hw22⟩ : ∃ x, x = (put v13 bn7 (.cells #[.slice u1 m1.W.length u2, .slice u3 m1.G.length u4, .bool m1.bad] 50 (0, 0))) := ⟨_, rfl⟩
                have hW22 : Ext w21 v13 := Since.to_ext hs13
                have hb22 : Ext w w22 := by rw [hw22]; exact Since.to_ext ((Since.of_ext (hX13.trans hW22)).put (.inl (by have := hX13.size; omega)))
                have hk22 : Keep N w21 w22 := by rw [hw22]; exact ((hK13.ext hW22).put _ _ (.inl (by omega)))
                have hq22 : ∀ M v l, IsInts M v13 v l → IsInts M w22 v l := by intro M v l h; rw [hw22]; exact h.putNew hBn7 zero50
                have BX_22 : Box w22 (w.heap.size) #[.slice aw m.W.length cw, .slice ag m.G.length cg, .bool m.bad] 50 := by rw [hw22]; exact (box_putOther (DX_13.since hs13 rfl) (by omega))
                have BN13_7_22 : Box w22 (bn7) #[.slice u1 m1.W.length u2, .slice u3 m1.G.length u4, .bool m1.bad] 50 := by rw [hw22]; exact (hBn7).put
                have s22 : w21.heap.size ≤ w22.heap.size := by rw [hw22]; have := hW22.size; simpa [put] using this
                rw [← hw22]
                clear hw22
                obtain ⟨cX_0, cX_1, cX_2, dX_0, dX_1, dX_2⟩ := cells3 BX_22
                have zX : w.heap.size < w22.heap.size := BX_22.lt
                obtain ⟨cN13_7_0, cN13_7_1, cN13_7_2, dN13_7_0, dN13_7_1, dN13_7_2⟩ := cells3 BN13_7_22
                have zN13_7 : bn7 < w22.heap.size := BN13_7_22.lt
                clear hq22
                have hown22 : OwnSl 1 3 RI B w22 (.slice fa fan fc) (out ++ [p]) := ho21.keep hk22 (fun b hb hn => by have := ho21.base b hb; have := hN b hn; omega) (fun _ _ h => h)
                go_wp2
                go_roundw
                case rel => exact ⟨v, rfl, out ++ [p], BX_22, hown22, hb22, by omega, walk_cnt5 HC.out hin, walk_mem5 HM.out hp1 (by omega), walk_next5 HW.out HF.out hp0 (by omega) (by omega) hin HV.out⟩
                case measure => rw [show lenW (.slice fa fan fc) = out.length + 1 by show fan = _; rw [Hfa.out]; simp]; show _ < m.G.length + 1 - out.length; omega
end Go.Proofs.Ytcfbdfgondmkoaa
