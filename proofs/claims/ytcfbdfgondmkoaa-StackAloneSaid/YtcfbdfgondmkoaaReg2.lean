/- A region that draws its order and ends in stores to what was there: each operation shown once. -/
import Derived.Test.YtcfbdfgondmkoaaRegI
import Derived.Laws.AppendOwn
namespace Go.Proofs.Ytcfbdfgondmkoaa
open Go Go.RowKit
set_option linter.unusedSimpArgs false
set_option linter.unusedVariables false

section
variable {P : Program} {ops : Array Oper} {Q : Exit → Act → World → Prop} {a0 : Act} {w0 : World} {X T L : List Nat} {G : List GP} {n : Nat}
structure RInv2 (P : Program) (ops : Array Oper) (a0 : Act) (w0 : World) (X T : List Nat) (G : List GP) (listed : Array Bool) (a : Act) (w : World) : Prop where
  size : listed.size = ops.size
  closed : ∀ j oj, ops[j]? = some oj → listed.getD j false = true → ∀ e ∈ oj.after, Region.binds .any e = true → listed.getD e.on false = true
  frame : FrameOk ops a0 a
  unl : ∀ (j : Nat) (o : Oper) (t : Tmp), ops[j]? = some o → listed.getD j false = false → o.dst = some t → a.tmps[t]? = a0.tmps[t]?
  rest : ∃ w1 k, k ≤ T.length ∧ (∀ j, j < T.length → (listed.getD (T.getD j 0) false = true ↔ j < k)) ∧ Since [] w0 w1 ∧ Since X w0 w ∧ StoresRun P ops a (T.take k) w1 w ∧
    (∀ i o, ops[i]? = some o → T.contains i = false → listed.getD i false = true → (G.getD i anyG) (valAt a o.dst) w1)

theorem RInv2.step (hc : chk ops T L n = true) (hn : a0.tmps.size = n) (hG : ∀ g ∈ G, Stable g)
    (hop : ∀ i o, ops[i]? = some o → T.contains i = false → L.contains i = false → ∀ a w, Since [] w0 w → FrameAt ops a0 i a → Deps ops T G i a w → if Region.wanted o (yielded ops a.tmps) = true then Yes P o a w (G.getD i anyG) else (G.getD i anyG) undef w)
    (hlate : ∀ i o, ops[i]? = some o → L.contains i = true → ∀ a w1 w, Since [] w0 w1 → Since X w0 w → FrameAt ops a0 i a → Deps ops T G i a w1 → if Region.wanted o (yielded ops a.tmps) = true then Late P o a w1 w (G.getD i anyG) else (G.getD i anyG) undef w1)
    (hstore : ∀ k o, k < T.length → ops[T.getD k 0]? = some o → ∀ a w1 w, Since [] w0 w1 → Since X w0 w → FrameAt ops a0 (T.getD k 0) a → Deps ops T G (T.getD k 0) a w1 → StoresRun P ops a (T.take k) w1 w → ∃ w', (execOp a.eval o).run P w = .ok .skip w' ∧ Since X w0 w')
    {listed : Array Bool} {a : Act} {w : World} (h : RInv2 P ops a0 w0 X T G listed a w) {i : Nat} (hi : i ∈ Region.ready .any ops listed) :
    wpOp P ops Q i (RInv2 P ops a0 w0 X T G (listed.setIfInBounds i true)) a w := by
  obtain ⟨hun, o, ho, hall⟩ := mem_ready.1 hi
  have hilt : i < ops.size := (Array.getElem?_eq_some_iff.1 ho).1
  obtain ⟨hsz, hcl, hfr, hunl, w1, k, hk, hkT, hs1, hs2, hrun, hΓ⟩ := h
  obtain ⟨hdn, hback, hdist, hkind, hTd, hLd, hsel⟩ := chk_at hc ho
  have hiun : listed.getD i false = false := getD_ft hun
  have hfa : FrameAt ops a0 i a := by
    refine ⟨hfr, fun j p t hp hw ht => hunl j p t hp ?_ ht⟩
    cases hl : listed.getD j false with
    | false => rfl
    | true =>
      obtain ⟨oj, hoj, e, he, hb, hon⟩ := waits_spec hw
      have h3 := hcl j oj hoj hl e he hb
      rw [hon, hiun] at h3; cases h3
  have hcl' : ∀ j oj, ops[j]? = some oj → (listed.setIfInBounds i true).getD j false = true → ∀ e ∈ oj.after, Region.binds .any e = true → (listed.setIfInBounds i true).getD e.on false = true := by
    intro j oj hj hl e he hb
    by_cases hij : i = j
    · subst hij
      have : oj = o := Option.some.inj (hj.symm.trans ho)
      subst this
      exact getD_set_true (hall e he hb)
    · rw [getD_set_ne false hij] at hl
      exact getD_set_true (hcl j oj hj hl e he hb)
  have hdeps : Deps ops T G i a w1 := by
    intro o' ho' e he hb hT p hp
    have : o' = o := Option.some.inj (ho'.symm.trans ho)
    subst this
    exact hΓ e.on p hp hT (hall e he hb)
  -- who is listed behind it
  have hlisted : ∀ j, (listed.setIfInBounds i true).getD j false = true ↔ j = i ∨ listed.getD j false = true := by
    intro j
    by_cases hij : i = j
    · subst hij; simp [hsz, hilt]
    · rw [getD_set_ne false hij]
      constructor
      · exact .inr
      · rintro (e | e)
        · exact absurd e.symm hij
        · exact e
  have hsame : ∀ {v : Value} {j : Nat} {p : Oper}, ops[j]? = some p → j ≠ i → valAt (a.put o.dst v) p.dst = valAt a p.dst := by
    intro v j p hp hne
    exact valAt_put_ne fun t ht => chk_dst hc ho hp (Ne.symm hne) ht
  have hself : ∀ {v : Value}, (o.dst = none → v = undef) → valAt (a.put o.dst v) o.dst = v := by
    intro v hv
    exact valAt_put_self (fun t ht => by rw [hfr.2.1, hn]; exact hdn t ht) hv
  have hunl' : ∀ (v : Value) (j : Nat) (p : Oper) (t : Tmp), ops[j]? = some p → (listed.setIfInBounds i true).getD j false = false → p.dst = some t → (a.put o.dst v).tmps[t]? = a0.tmps[t]? := by
    intro v j p t hp hl ht
    have hji : i ≠ j := fun e => by
      subst e
      have := (hlisted i).2 (.inl rfl)
      rw [this] at hl; cases hl
    rw [getD_set_ne false hji] at hl
    rw [← hunl j p t hp hl ht]
    cases hd : o.dst with
    | none => rfl
    | some s =>
      have hne : s ≠ t := fun e => chk_dst hc ho hp hji hd (by rw [ht, e])
      simp [Act.put, Array.getElem?_setIfInBounds_ne hne]
  have hnotT : T.contains i = false → ∀ j, j < T.length → ((listed.setIfInBounds i true).getD (T.getD j 0) false = true ↔ j < k) := by
    intro hiT j hj
    have hne : i ≠ T.getD j 0 := by
      intro e
      have : T.contains i = true := by
        rw [e, List.getD_eq_getElem?_getD, List.getElem?_eq_getElem hj]
        simp
      rw [hiT] at this; cases this
    rw [getD_set_ne false hne]
    exact hkT j hj
  unfold wpOp
  simp only [ho]
  cases hiT : T.contains i with
  | true =>
    -- a store: it is the next of T
    obtain ⟨hd, hg⟩ := hTd hiT
    have himem : i ∈ T := by simpa using hiT
    obtain ⟨j, hj, hji⟩ := List.getElem_of_mem himem
    have hjD : T.getD j 0 = i := by rw [List.getD_eq_getElem?_getD, List.getElem?_eq_getElem hj]; simpa using hji
    have hjk : ¬ j < k := fun hlt => by
      have := (hkT j hj).2 hlt
      rw [hjD, hiun] at this; cases this
    have hjk2 : j = k := by
      rcases Nat.lt_or_ge k j with hlt | hge
      · exfalso
        obtain ⟨m, rfl⟩ : ∃ m, j = m + 1 := ⟨j - 1, by omega⟩
        have hw := chk_chain hc (k := m) (by omega)
        rw [hjD] at hw
        obtain ⟨oj, hoj, e, he, hb, hon⟩ := waits_spec hw
        have : oj = o := Option.some.inj (hoj.symm.trans ho)
        subst this
        have h1 := hall e he hb
        rw [hon] at h1
        have := (hkT m (by omega)).1 h1
        omega
      · omega
    subst hjk2
    rw [if_pos (by simp [Region.wanted, hg])]
    refine .inl ?_
    rw [← hjD] at hdeps
    obtain ⟨w', hr, hs'⟩ := hstore j o hj (by rw [hjD]; exact ho) a w1 w hs1 hs2 (by rw [hjD]; exact hfa) hdeps hrun
    unfold Oper.wp
    rw [hr]
    simp only [Oper.upon, hd, Act.put]
    refine ⟨by simpa using hsz, hcl', hfr, fun j' p t hp hl ht => by have := hunl' undef j' p t hp hl ht; rw [hd] at this; exact this, w1, j + 1, by omega, fun m hm => ?_, hs1, hs', ?_, ?_⟩
    · rw [hlisted]
      constructor
      · rintro (e | e)
        · have hnd := chk_nodup hc
          have h1 : T[m]? = T[j]? := by
            rw [List.getElem?_eq_getElem hm, List.getElem?_eq_getElem hj, hji]
            rw [List.getD_eq_getElem?_getD, List.getElem?_eq_getElem hm] at e
            simpa using e
          have := (List.getElem?_inj hm hnd).1 h1
          omega
        · have := (hkT m hm).1 e
          omega
      · intro hlt
        by_cases hmj : m = j
        · subst hmj; exact .inl hjD
        · exact .inr ((hkT m hm).2 (by omega))
    · rw [List.take_succ_eq_append_getElem hj, hji]
      exact StoresRun.snoc ho hr hrun
    · intro j' o' ho' hT' hl
      rw [hlisted] at hl
      rcases hl with rfl | hl
      · rw [hiT] at hT'; cases hT'
      · exact hΓ j' o' ho' hT' hl
  | false =>
    cases hiL : L.contains i with
    | true =>
      -- a late one
      have hst : ∀ v, StoresRun P ops (a.put o.dst v) (T.take k) w1 w := fun v => by
        refine hrun.put (fun t ht p hp => ⟨(chk_at hc hp).2.2.2.2.2.2, fun s hs => ?_⟩)
        have htT : t ∈ T := List.mem_of_mem_take ht
        rcases hLd hiL t htT with h1 | h1
        · exfalso
          obtain ⟨oj, hoj, e, he, hb, hon⟩ := waits_spec h1
          obtain ⟨j, hj, hjt⟩ := List.getElem_of_mem ht
          have hj' : j < k := by simp at hj; omega
          have hjT : j < T.length := by omega
          have hjt' : T.getD j 0 = t := by
            rw [List.getD_eq_getElem?_getD, List.getElem?_eq_getElem hjT]
            rw [List.getElem_take] at hjt
            simpa using hjt
          have h2 := (hkT j hjT).2 hj'
          rw [hjt'] at h2
          have h3 := hcl t oj hoj h2 e he hb
          rw [hon, hiun] at h3; cases h3
        · exact h1 p s hp hs
      have fin : ∀ v, (o.dst = none → v = undef) → (G.getD i anyG) v w1 → RInv2 P ops a0 w0 X T G (listed.setIfInBounds i true) (a.put o.dst v) w := fun v hv hg => by
        refine ⟨by simpa using hsz, hcl', hfr.put ho v, hunl' v, w1, k, hk, hnotT hiT, hs1, hs2, hst v, fun j p hp hT hl => ?_⟩
        rw [hlisted] at hl
        by_cases hji : j = i
        · subst hji
          have : p = o := Option.some.inj (hp.symm.trans ho)
          subst this
          rw [hself hv]; exact hg
        · rw [hsame hp hji]
          exact hΓ j p hp hT (hl.resolve_left hji)
      have hl := hlate i o ho hiL a w1 w hs1 hs2 hfa hdeps
      split
      · rename_i hw
        rw [if_pos hw] at hl
        obtain ⟨v, hr, hg, hv⟩ := hl
        refine .inl ?_
        unfold Oper.wp
        rw [hr]
        exact fin v hv hg
      · rename_i hw
        rw [if_neg hw] at hl
        exact fin undef (fun _ => rfl) hl
    | false =>
      -- an early one: no store has come up
      have hk0 : k = 0 := by
        rcases Nat.eq_zero_or_pos k with h0 | hpos
        · exact h0
        · exfalso
          cases hTT : T with
          | nil => rw [hTT] at hk; simp at hk; omega
          | cons t r =>
            rcases hkind with h1 | h1 | h1
            · rw [hiT] at h1; cases h1
            · rw [hiL] at h1; cases h1
            · obtain ⟨oj, hoj, e, he, hb, hon⟩ := waits_spec (h1 t r hTT)
              have h2 := (hkT 0 (by rw [hTT]; simp)).2 hpos
              rw [hTT] at h2
              have h3 := hcl t oj hoj (by simpa using h2) e he hb
              rw [hon, hiun] at h3; cases h3
      subst hk0
      have hww : w = w1 := hrun
      subst hww
      have fin : ∀ v w', Ext w w' → (o.dst = none → v = undef) → (G.getD i anyG) v w' → RInv2 P ops a0 w0 X T G (listed.setIfInBounds i true) (a.put o.dst v) w' := fun v w' hx hv hg => by
        refine ⟨by simpa using hsz, hcl', hfr.put ho v, hunl' v, w', 0, hk, hnotT hiT, hs1.ext hx, Since.of_ext (hs1.ext hx).to_ext, rfl, fun j p hp hT hl => ?_⟩
        rw [hlisted] at hl
        by_cases hji : j = i
        · subst hji
          have : p = o := Option.some.inj (hp.symm.trans ho)
          subst this
          rw [hself hv]; exact hg
        · rw [hsame hp hji]
          have h1 := hΓ j p hp hT (hl.resolve_left hji)
          by_cases hjG : j < G.length
          · have : G.getD j anyG ∈ G := by
              rw [List.getD_eq_getElem?_getD, List.getElem?_eq_getElem hjG]
              simp
            exact hG _ this _ _ _ h1 hx
          · rw [List.getD_eq_getElem?_getD, List.getElem?_eq_none (by omega)]
            exact trivial
      have hl := hop i o ho hiT hiL a w hs1 hfa hdeps
      split
      · rename_i hw
        rw [if_pos hw] at hl
        refine .inl ?_
        unfold Yes at hl
        unfold Oper.wp
        generalize (execOp a.eval o).run P w = r at *
        cases r with
        | ok nx w' =>
          cases nx <;> simp only at hl <;> simp only [Oper.upon]
          case value v => exact fin v w' hl.1 hl.2.2 hl.2.1
          case skip => exact fin undef w' hl.1 (fun _ => rfl) hl.2
          case enter f args =>
            obtain ⟨rfl, hcall⟩ := hl
            refine hcall.mono fun e w'' he => ?_
            obtain ⟨v, rfl, hx, hg, hv⟩ := he
            exact fin v w'' hx hv hg
        | halt x w' => simp only at hl
      · rename_i hw
        rw [if_neg hw] at hl
        exact fin undef w (Ext.refl _) (fun _ => rfl) hl

theorem region_mono2 {id : Nat} (T L : List Nat) (X : List Nat) (G : List GP) (hm : P.follows .mixedOrders = true) (hc : chk ops T L a0.tmps.size = true) (hG : ∀ g ∈ G, Stable g)
    (hop : ∀ i o, ops[i]? = some o → T.contains i = false → L.contains i = false → ∀ a w, Since [] w0 w → FrameAt ops a0 i a → Deps ops T G i a w → if Region.wanted o (yielded ops a.tmps) = true then Yes P o a w (G.getD i anyG) else (G.getD i anyG) undef w)
    (hlate : ∀ i o, ops[i]? = some o → L.contains i = true → ∀ a w1 w, Since [] w0 w1 → Since X w0 w → FrameAt ops a0 i a → Deps ops T G i a w1 → if Region.wanted o (yielded ops a.tmps) = true then Late P o a w1 w (G.getD i anyG) else (G.getD i anyG) undef w1)
    (hstore : ∀ k o, k < T.length → ops[T.getD k 0]? = some o → ∀ a w1 w, Since [] w0 w1 → Since X w0 w → FrameAt ops a0 (T.getD k 0) a → Deps ops T G (T.getD k 0) a w1 → StoresRun P ops a (T.take k) w1 w → ∃ w', (execOp a.eval o).run P w = .ok .skip w' ∧ Since X w0 w')
    (hfin : ∀ w, Since [] w0 w → FinAll T (fun a => ∀ w', StoresRun P ops a T w w' → Q .normal a w') w ops.toList G 0 a0) : (Code.region id ops true).wp P Q a0 w0 := by
  refine wp_region_any hm ?_
  have hopen : open_ (Array.replicate ops.size false) = ops.size := by
    unfold open_
    simp
  refine any_of_inv (RInv2 P ops a0 w0 X T G) (fun _ _ _ h => h.size) (fun _ _ _ h hr => ready_nil hc h.size hr) (fun listed a w h h0 => ?_)
    (fun listed a w i h hi => h.step hc rfl hG hop hlate hstore hi) (fun listed a w h hr => ?_) ops.size _ _ _ hopen ?_
  · refine List.eq_nil_iff_forall_not_mem.2 (fun i hi => ?_)
    obtain ⟨hun, o, ho, _⟩ := mem_ready.1 hi
    have := all_of_open h0 i (by rw [h.size]; exact (Array.getElem?_eq_some_iff.1 ho).1)
    rw [hun] at this; cases this
  · have hall := ready_nil hc h.size hr
    obtain ⟨w1, k, hk, hkT, hs1, hs2, hrun, hΓ⟩ := h.rest
    have hkl : k = T.length := by
      rcases Nat.lt_or_ge k T.length with hlt | hge
      · exfalso
        have hm : T.getD k 0 ∈ T := by
          rw [List.getD_eq_getElem?_getD, List.getElem?_eq_getElem hlt]
          simp
        have := (hkT k hlt).1 (hall _ (chk_lt hc hm))
        omega
      · omega
    subst hkl
    rw [List.take_length] at hrun
    refine fin_all (T := T) (K := fun a => ∀ w', StoresRun P ops a T w1 w' → Q .normal a w') (w := w1) a ops.toList G 0 a0 (fun j o ho hT => ?_) (fun j o ho hT => ?_) h.frame.1 h.frame.2.1 (fun t ht => h.frame.2.2 t (fun i o ho => ht i o (by simpa using ho))) (hfin w1 hs1) w hrun
    · have ho' : ops[j]? = some o := by simpa using ho
      exact hΓ j o ho' (by simpa using hT) (hall j (Array.getElem?_eq_some_iff.1 ho').1)
    · have ho' : ops[j]? = some o := by simpa using ho
      exact ((chk_at hc ho').2.2.2.2.1 (by simpa using hT)).1
  · refine RInv2.mk (by simp) (fun j oj hj hl => by rw [getD_replicate_false] at hl; exact absurd hl (by simp)) ⟨rfl, rfl, fun _ _ => rfl⟩ (fun _ _ _ _ _ _ => rfl) ⟨w0.drew, 0, Nat.zero_le _, fun j hj => ?_, Since.of_ext (Ext.drew w0), Since.of_ext (Ext.drew w0), rfl, fun i o ho hT hl => ?_⟩
    · rw [getD_replicate_false]; simp
    · rw [getD_replicate_false] at hl; exact absurd hl (by simp)


def EObl2 (P : Program) (ops : Array Oper) (a0 : Act) (w0 : World) (X T : List Nat) (G : List GP) (i : Nat) (o : Oper) (g : GP) : Prop :=
  ∀ a w, Since [] w0 w → FrameAt ops a0 i a → Deps ops T G i a w → if Region.wanted o (yielded ops a.tmps) = true then Yes P o a w g else g undef w
def LObl2 (P : Program) (ops : Array Oper) (a0 : Act) (w0 : World) (X T : List Nat) (G : List GP) (i : Nat) (o : Oper) (g : GP) : Prop :=
  ∀ a w1 w, Since [] w0 w1 → Since X w0 w → FrameAt ops a0 i a → Deps ops T G i a w1 → if Region.wanted o (yielded ops a.tmps) = true then Late P o a w1 w g else g undef w1
def SObl2 (P : Program) (ops : Array Oper) (a0 : Act) (w0 : World) (X T : List Nat) (G : List GP) (k i : Nat) (o : Oper) : Prop :=
  ∀ a w1 w, Since [] w0 w1 → Since X w0 w → FrameAt ops a0 i a → Deps ops T G i a w1 → StoresRun P ops a (T.take k) w1 w → ∃ w', (execOp a.eval o).run P w = .ok .skip w' ∧ Since X w0 w'

/-- The obligations, in the text's order; l, G: what is left of the region and of the facts. -/
def Obls2 (P : Program) (ops : Array Oper) (a0 : Act) (w0 : World) (X T L : List Nat) (G0 : List GP) : Nat → List Oper → List GP → Prop
  | _, [], _ => True
  | i, o :: l, G => (match T.contains i, L.contains i with
      | true, _ => SObl2 P ops a0 w0 X T G0 (T.idxOf i) i o
      | false, true => LObl2 P ops a0 w0 X T G0 i o (G.headD anyG)
      | false, false => EObl2 P ops a0 w0 X T G0 i o (G.headD anyG)) ∧ Obls2 P ops a0 w0 X T L G0 (i + 1) l G.tail

theorem Obls2.at (l : List Oper) : ∀ (G' : List GP) (i j : Nat) (o : Oper), Obls2 P ops a0 w0 X T L G i l G' → l[j]? = some o →
    (T.contains (i + j) = true → SObl2 P ops a0 w0 X T G (T.idxOf (i + j)) (i + j) o) ∧
    (T.contains (i + j) = false → L.contains (i + j) = true → LObl2 P ops a0 w0 X T G (i + j) o (G'.getD j anyG)) ∧
    (T.contains (i + j) = false → L.contains (i + j) = false → EObl2 P ops a0 w0 X T G (i + j) o (G'.getD j anyG)) := by
  induction l with
  | nil => intro G' i j o _ ho; simp at ho
  | cons o1 l ih =>
    intro G' i j o h ho
    unfold Obls2 at h
    obtain ⟨h1, h2⟩ := h
    cases j with
    | zero =>
      simp at ho; subst ho
      simp only [Nat.add_zero]
      have hG : G'.headD anyG = G'.getD 0 anyG := by cases G' <;> rfl
      rw [hG] at h1
      refine ⟨fun hT => ?_, fun hT hL => ?_, fun hT hL => ?_⟩
      · rw [hT] at h1; exact h1
      · rw [hT, hL] at h1; exact h1
      · rw [hT, hL] at h1; exact h1
    | succ j =>
      have h3 := ih G'.tail (i + 1) j o h2 (by simpa using ho)
      have e1 : i + 1 + j = i + (j + 1) := by omega
      have e2 : G'.tail.getD j anyG = G'.getD (j + 1) anyG := by cases G' <;> simp
      rw [e1, e2] at h3
      exact h3

theorem region_lit2 {id : Nat} {l : List Oper} (T L X : List Nat) (G : List GP) (hm : P.follows .mixedOrders = true) (hc : chk l.toArray T L a0.tmps.size = true) (hG : AllStable G)
    (hop : Obls2 P l.toArray a0 w0 X T L G 0 l G)
    (hfin : ∀ w, Since [] w0 w → FinAll T (fun a => ∀ w', StoresRun P l.toArray a T w w' → Q .normal a w') w l G 0 a0) : (Code.region id l.toArray true).wp P Q a0 w0 := by
  refine region_mono2 T L X G hm hc hG.mem (fun i o ho hT hL => ?_) (fun i o ho hL => ?_) (fun k o hk ho => ?_) (by simpa using hfin)
  · have := (Obls2.at l G 0 i o hop (by simpa using ho)).2.2
    rw [Nat.zero_add] at this
    exact this hT hL
  · have h1 := (Obls2.at l G 0 i o hop (by simpa using ho)).2.1
    rw [Nat.zero_add] at h1
    refine h1 ?_ hL
    simp only [chk, Bool.and_eq_true] at hc
    have := List.all_eq_true.1 hc.2 i (by simpa using hL)
    simpa using this
  · have h1 := (Obls2.at l G 0 (T.getD k 0) o hop (by simpa using ho)).1
    rw [Nat.zero_add] at h1
    have hg : T.getD k 0 = T[k] := by rw [List.getD_eq_getElem?_getD, List.getElem?_eq_getElem hk]; rfl
    have h2 := h1 (by rw [hg]; simp)
    have hidx : T.idxOf (T.getD k 0) = k := by
      rw [hg]
      exact List.Nodup.idxOf_getElem (chk_nodup hc) k hk
    rw [hidx] at h2
    exact h2
end
theorem cell_since {X : List Nat} {w w' : World} {a : Addr} {v : Value} (hc : w.cell? a = some v) (hs : Since X w w') (hx : X.contains a.block = false) : w'.cell? a = some v :=
  (World.cell?_of_block (hs.block _ (World.block_lt_of_cell? w a hc) hx)).trans hc
end Go.Proofs.Ytcfbdfgondmkoaa
