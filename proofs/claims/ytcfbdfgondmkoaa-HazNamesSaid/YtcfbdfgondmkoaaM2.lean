/- Texts of this work, put together: Reg2, Ar8, Ar9, Ar10, Ar11, Ar12, Ar13, Ar14, Ar15, Ar16, Ar17, Ar18, Ar19, Ar20, Rd. -/
import Derived.Test.YtcfbdfgondmkoaaM1
import Derived.Laws.AppendOwn
import Derived.Test.YtcfbdfgondmkoaaProg
import Derived.ProofKit
import Derived.OpenShut
import Derived.Deep.Slices
/- A region that draws its order and ends in stores to what was there: each operation shown once. -/
namespace Go.Proofs.Ytcfbdfgondmkoaa
open Go Go.RowKit
set_option linter.unusedSimpArgs false
set_option linter.unusedVariables false

section
variable {P : Program} {ops : Array Oper} {Q : Exit → Act → World → Prop} {a0 : Act} {w0 : World} {X T L : List Nat} {G : List GP} {n : Nat}
structure RInv2 (P : Program) (ops : Array Oper) (a0 : Act) (w0 : World) (X T : List Nat) (G : List GP) (listed : Array Bool) (a : Act) (w : World) : Prop where
  size : listed.size = ops.size
  closed : ∀ j oj, ops[j]? = some oj → listed.getD j false = true → ∀ e ∈ oj.after, Region.binds .any e = true → listed.getD e.on false = true
  frame : FrameOk ops a0 a
  unl : ∀ (j : Nat) (o : Oper) (t : Tmp), ops[j]? = some o → listed.getD j false = false → o.dst = some t → a.tmps[t]? = a0.tmps[t]?
  rest : ∃ w1 k, k ≤ T.length ∧ (∀ j, j < T.length → (listed.getD (T.getD j 0) false = true ↔ j < k)) ∧ Since [] w0 w1 ∧ Since X w0 w ∧ StoresRun P ops a (T.take k) w1 w ∧
    (∀ i o, ops[i]? = some o → T.contains i = false → listed.getD i false = true → (G.getD i anyG) (valAt a o.dst) w1)

theorem RInv2.step (hc : chk ops T L n = true) (hn : a0.tmps.size = n) (hG : ∀ g ∈ G, Stable g)
    (hop : ∀ i o, ops[i]? = some o → T.contains i = false → L.contains i = false → ∀ a w, Since [] w0 w → FrameAt ops a0 i a → Deps ops T G i a w → if Region.wanted o (yielded ops a.tmps) = true then Yes P o a w (G.getD i anyG) else (G.getD i anyG) undef w)
    (hlate : ∀ i o, ops[i]? = some o → L.contains i = true → ∀ a w1 w, Since [] w0 w1 → Since X w0 w → FrameAt ops a0 i a → Deps ops T G i a w1 → if Region.wanted o (yielded ops a.tmps) = true then Late P o a w1 w (G.getD i anyG) else (G.getD i anyG) undef w1)
    (hstore : ∀ k o, k < T.length → ops[T.getD k 0]? = some o → ∀ a w1 w, Since [] w0 w1 → Since X w0 w → FrameAt ops a0 (T.getD k 0) a → Deps ops T G (T.getD k 0) a w1 → StoresRun P ops a (T.take k) w1 w → ∃ w', (execOp a.eval o).run P w = .ok .skip w' ∧ Since X w0 w')
    {listed : Array Bool} {a : Act} {w : World} (h : RInv2 P ops a0 w0 X T G listed a w) {i : Nat} (hi : i ∈ Region.ready .any ops listed) :
    wpOp P ops Q i (RInv2 P ops a0 w0 X T G (listed.setIfInBounds i true)) a w := by
  obtain ⟨hun, o, ho, hall⟩ := mem_ready.1 hi
  have hilt : i < ops.size := (Array.getElem?_eq_some_iff.1 ho).1
  obtain ⟨hsz, hcl, hfr, hunl, w1, k, hk, hkT, hs1, hs2, hrun, hΓ⟩ := h
  obtain ⟨hdn, hback, hdist, hkind, hTd, hLd, hsel⟩ := chk_at hc ho
  have hiun : listed.getD i false = false := getD_ft hun
  have hfa : FrameAt ops a0 i a := by
    refine ⟨hfr, fun j p t hp hw ht => hunl j p t hp ?_ ht⟩
    cases hl : listed.getD j false with
    | false => rfl
    | true =>
      obtain ⟨oj, hoj, e, he, hb, hon⟩ := waits_spec hw
      have h3 := hcl j oj hoj hl e he hb
      rw [hon, hiun] at h3; cases h3
  have hcl' : ∀ j oj, ops[j]? = some oj → (listed.setIfInBounds i true).getD j false = true → ∀ e ∈ oj.after, Region.binds .any e = true → (listed.setIfInBounds i true).getD e.on false = true := by
    intro j oj hj hl e he hb
    by_cases hij : i = j
    · subst hij
      have : oj = o := Option.some.inj (hj.symm.trans ho)
      subst this
      exact getD_set_true (hall e he hb)
    · rw [getD_set_ne false hij] at hl
      exact getD_set_true (hcl j oj hj hl e he hb)
  have hdeps : Deps ops T G i a w1 := by
    intro o' ho' e he hb hT p hp
    have : o' = o := Option.some.inj (ho'.symm.trans ho)
    subst this
    exact hΓ e.on p hp hT (hall e he hb)
  -- who is listed behind it
  have hlisted : ∀ j, (listed.setIfInBounds i true).getD j false = true ↔ j = i ∨ listed.getD j false = true := by
    intro j
    by_cases hij : i = j
    · subst hij; simp [hsz, hilt]
    · rw [getD_set_ne false hij]
      constructor
      · exact .inr
      · rintro (e | e)
        · exact absurd e.symm hij
        · exact e
  have hsame : ∀ {v : Value} {j : Nat} {p : Oper}, ops[j]? = some p → j ≠ i → valAt (a.put o.dst v) p.dst = valAt a p.dst := by
    intro v j p hp hne
    exact valAt_put_ne fun t ht => chk_dst hc ho hp (Ne.symm hne) ht
  have hself : ∀ {v : Value}, (o.dst = none → v = undef) → valAt (a.put o.dst v) o.dst = v := by
    intro v hv
    exact valAt_put_self (fun t ht => by rw [hfr.2.1, hn]; exact hdn t ht) hv
  have hunl' : ∀ (v : Value) (j : Nat) (p : Oper) (t : Tmp), ops[j]? = some p → (listed.setIfInBounds i true).getD j false = false → p.dst = some t → (a.put o.dst v).tmps[t]? = a0.tmps[t]? := by
    intro v j p t hp hl ht
    have hji : i ≠ j := fun e => by
      subst e
      have := (hlisted i).2 (.inl rfl)
      rw [this] at hl; cases hl
    rw [getD_set_ne false hji] at hl
    rw [← hunl j p t hp hl ht]
    cases hd : o.dst with
    | none => rfl
    | some s =>
      have hne : s ≠ t := fun e => chk_dst hc ho hp hji hd (by rw [ht, e])
      simp [Act.put, Array.getElem?_setIfInBounds_ne hne]
  have hnotT : T.contains i = false → ∀ j, j < T.length → ((listed.setIfInBounds i true).getD (T.getD j 0) false = true ↔ j < k) := by
    intro hiT j hj
    have hne : i ≠ T.getD j 0 := by
      intro e
      have : T.contains i = true := by
        rw [e, List.getD_eq_getElem?_getD, List.getElem?_eq_getElem hj]
        simp
      rw [hiT] at this; cases this
    rw [getD_set_ne false hne]
    exact hkT j hj
  unfold wpOp
  simp only [ho]
  cases hiT : T.contains i with
  | true =>
    -- a store: it is the next of T
    obtain ⟨hd, hg⟩ := hTd hiT
    have himem : i ∈ T := by simpa using hiT
    obtain ⟨j, hj, hji⟩ := List.getElem_of_mem himem
    have hjD : T.getD j 0 = i := by rw [List.getD_eq_getElem?_getD, List.getElem?_eq_getElem hj]; simpa using hji
    have hjk : ¬ j < k := fun hlt => by
      have := (hkT j hj).2 hlt
      rw [hjD, hiun] at this; cases this
    have hjk2 : j = k := by
      rcases Nat.lt_or_ge k j with hlt | hge
      · exfalso
        obtain ⟨m, rfl⟩ : ∃ m, j = m + 1 := ⟨j - 1, by omega⟩
        have hw := chk_chain hc (k := m) (by omega)
        rw [hjD] at hw
        obtain ⟨oj, hoj, e, he, hb, hon⟩ := waits_spec hw
        have : oj = o := Option.some.inj (hoj.symm.trans ho)
        subst this
        have h1 := hall e he hb
        rw [hon] at h1
        have := (hkT m (by omega)).1 h1
        omega
      · omega
    subst hjk2
    rw [if_pos (by simp [Region.wanted, hg])]
    refine .inl ?_
    rw [← hjD] at hdeps
    obtain ⟨w', hr, hs'⟩ := hstore j o hj (by rw [hjD]; exact ho) a w1 w hs1 hs2 (by rw [hjD]; exact hfa) hdeps hrun
    unfold Oper.wp
    rw [hr]
    simp only [Oper.upon, hd, Act.put]
    refine ⟨by simpa using hsz, hcl', hfr, fun j' p t hp hl ht => by have := hunl' undef j' p t hp hl ht; rw [hd] at this; exact this, w1, j + 1, by omega, fun m hm => ?_, hs1, hs', ?_, ?_⟩
    · rw [hlisted]
      constructor
      · rintro (e | e)
        · have hnd := chk_nodup hc
          have h1 : T[m]? = T[j]? := by
            rw [List.getElem?_eq_getElem hm, List.getElem?_eq_getElem hj, hji]
            rw [List.getD_eq_getElem?_getD, List.getElem?_eq_getElem hm] at e
            simpa using e
          have := (List.getElem?_inj hm hnd).1 h1
          omega
        · have := (hkT m hm).1 e
          omega
      · intro hlt
        by_cases hmj : m = j
        · subst hmj; exact .inl hjD
        · exact .inr ((hkT m hm).2 (by omega))
    · rw [List.take_succ_eq_append_getElem hj, hji]
      exact StoresRun.snoc ho hr hrun
    · intro j' o' ho' hT' hl
      rw [hlisted] at hl
      rcases hl with rfl | hl
      · rw [hiT] at hT'; cases hT'
      · exact hΓ j' o' ho' hT' hl
  | false =>
    cases hiL : L.contains i with
    | true =>
      -- a late one
      have hst : ∀ v, StoresRun P ops (a.put o.dst v) (T.take k) w1 w := fun v => by
        refine hrun.put (fun t ht p hp => ⟨(chk_at hc hp).2.2.2.2.2.2, fun s hs => ?_⟩)
        have htT : t ∈ T := List.mem_of_mem_take ht
        rcases hLd hiL t htT with h1 | h1
        · exfalso
          obtain ⟨oj, hoj, e, he, hb, hon⟩ := waits_spec h1
          obtain ⟨j, hj, hjt⟩ := List.getElem_of_mem ht
          have hj' : j < k := by simp at hj; omega
          have hjT : j < T.length := by omega
          have hjt' : T.getD j 0 = t := by
            rw [List.getD_eq_getElem?_getD, List.getElem?_eq_getElem hjT]
            rw [List.getElem_take] at hjt
            simpa using hjt
          have h2 := (hkT j hjT).2 hj'
          rw [hjt'] at h2
          have h3 := hcl t oj hoj h2 e he hb
          rw [hon, hiun] at h3; cases h3
        · exact h1 p s hp hs
      have fin : ∀ v, (o.dst = none → v = undef) → (G.getD i anyG) v w1 → RInv2 P ops a0 w0 X T G (listed.setIfInBounds i true) (a.put o.dst v) w := fun v hv hg => by
        refine ⟨by simpa using hsz, hcl', hfr.put ho v, hunl' v, w1, k, hk, hnotT hiT, hs1, hs2, hst v, fun j p hp hT hl => ?_⟩
        rw [hlisted] at hl
        by_cases hji : j = i
        · subst hji
          have : p = o := Option.some.inj (hp.symm.trans ho)
          subst this
          rw [hself hv]; exact hg
        · rw [hsame hp hji]
          exact hΓ j p hp hT (hl.resolve_left hji)
      have hl := hlate i o ho hiL a w1 w hs1 hs2 hfa hdeps
      split
      · rename_i hw
        rw [if_pos hw] at hl
        obtain ⟨v, hr, hg, hv⟩ := hl
        refine .inl ?_
        unfold Oper.wp
        rw [hr]
        exact fin v hv hg
      · rename_i hw
        rw [if_neg hw] at hl
        exact fin undef (fun _ => rfl) hl
    | false =>
      -- an early one: no store has come up
      have hk0 : k = 0 := by
        rcases Nat.eq_zero_or_pos k with h0 | hpos
        · exact h0
        · exfalso
          cases hTT : T with
          | nil => rw [hTT] at hk; simp at hk; omega
          | cons t r =>
            rcases hkind with h1 | h1 | h1
            · rw [hiT] at h1; cases h1
            · rw [hiL] at h1; cases h1
            · obtain ⟨oj, hoj, e, he, hb, hon⟩ := waits_spec (h1 t r hTT)
              have h2 := (hkT 0 (by rw [hTT]; simp)).2 hpos
              rw [hTT] at h2
              have h3 := hcl t oj hoj (by simpa using h2) e he hb
              rw [hon, hiun] at h3; cases h3
      subst hk0
      have hww : w = w1 := hrun
      subst hww
      have fin : ∀ v w', Ext w w' → (o.dst = none → v = undef) → (G.getD i anyG) v w' → RInv2 P ops a0 w0 X T G (listed.setIfInBounds i true) (a.put o.dst v) w' := fun v w' hx hv hg => by
        refine ⟨by simpa using hsz, hcl', hfr.put ho v, hunl' v, w', 0, hk, hnotT hiT, hs1.ext hx, Since.of_ext (hs1.ext hx).to_ext, rfl, fun j p hp hT hl => ?_⟩
        rw [hlisted] at hl
        by_cases hji : j = i
        · subst hji
          have : p = o := Option.some.inj (hp.symm.trans ho)
          subst this
          rw [hself hv]; exact hg
        · rw [hsame hp hji]
          have h1 := hΓ j p hp hT (hl.resolve_left hji)
          by_cases hjG : j < G.length
          · have : G.getD j anyG ∈ G := by
              rw [List.getD_eq_getElem?_getD, List.getElem?_eq_getElem hjG]
              simp
            exact hG _ this _ _ _ h1 hx
          · rw [List.getD_eq_getElem?_getD, List.getElem?_eq_none (by omega)]
            exact trivial
      have hl := hop i o ho hiT hiL a w hs1 hfa hdeps
      split
      · rename_i hw
        rw [if_pos hw] at hl
        refine .inl ?_
        unfold Yes at hl
        unfold Oper.wp
        generalize (execOp a.eval o).run P w = r at *
        cases r with
        | ok nx w' =>
          cases nx <;> simp only at hl <;> simp only [Oper.upon]
          case value v => exact fin v w' hl.1 hl.2.2 hl.2.1
          case skip => exact fin undef w' hl.1 (fun _ => rfl) hl.2
          case enter f args =>
            obtain ⟨rfl, hcall⟩ := hl
            refine hcall.mono fun e w'' he => ?_
            obtain ⟨v, rfl, hx, hg, hv⟩ := he
            exact fin v w'' hx hv hg
        | halt x w' => simp only at hl
      · rename_i hw
        rw [if_neg hw] at hl
        exact fin undef w (Ext.refl _) (fun _ => rfl) hl

theorem region_mono2 {id : Nat} (T L : List Nat) (X : List Nat) (G : List GP) (hm : P.follows .mixedOrders = true) (hc : chk ops T L a0.tmps.size = true) (hG : ∀ g ∈ G, Stable g)
    (hop : ∀ i o, ops[i]? = some o → T.contains i = false → L.contains i = false → ∀ a w, Since [] w0 w → FrameAt ops a0 i a → Deps ops T G i a w → if Region.wanted o (yielded ops a.tmps) = true then Yes P o a w (G.getD i anyG) else (G.getD i anyG) undef w)
    (hlate : ∀ i o, ops[i]? = some o → L.contains i = true → ∀ a w1 w, Since [] w0 w1 → Since X w0 w → FrameAt ops a0 i a → Deps ops T G i a w1 → if Region.wanted o (yielded ops a.tmps) = true then Late P o a w1 w (G.getD i anyG) else (G.getD i anyG) undef w1)
    (hstore : ∀ k o, k < T.length → ops[T.getD k 0]? = some o → ∀ a w1 w, Since [] w0 w1 → Since X w0 w → FrameAt ops a0 (T.getD k 0) a → Deps ops T G (T.getD k 0) a w1 → StoresRun P ops a (T.take k) w1 w → ∃ w', (execOp a.eval o).run P w = .ok .skip w' ∧ Since X w0 w')
    (hfin : ∀ w, Since [] w0 w → FinAll T (fun a => ∀ w', StoresRun P ops a T w w' → Q .normal a w') w ops.toList G 0 a0) : (Code.region id ops true).wp P Q a0 w0 := by
  refine wp_region_any hm ?_
  have hopen : open_ (Array.replicate ops.size false) = ops.size := by
    unfold open_
    simp
  refine any_of_inv (RInv2 P ops a0 w0 X T G) (fun _ _ _ h => h.size) (fun _ _ _ h hr => ready_nil hc h.size hr) (fun listed a w h h0 => ?_)
    (fun listed a w i h hi => h.step hc rfl hG hop hlate hstore hi) (fun listed a w h hr => ?_) ops.size _ _ _ hopen ?_
  · refine List.eq_nil_iff_forall_not_mem.2 (fun i hi => ?_)
    obtain ⟨hun, o, ho, _⟩ := mem_ready.1 hi
    have := all_of_open h0 i (by rw [h.size]; exact (Array.getElem?_eq_some_iff.1 ho).1)
    rw [hun] at this; cases this
  · have hall := ready_nil hc h.size hr
    obtain ⟨w1, k, hk, hkT, hs1, hs2, hrun, hΓ⟩ := h.rest
    have hkl : k = T.length := by
      rcases Nat.lt_or_ge k T.length with hlt | hge
      · exfalso
        have hm : T.getD k 0 ∈ T := by
          rw [List.getD_eq_getElem?_getD, List.getElem?_eq_getElem hlt]
          simp
        have := (hkT k hlt).1 (hall _ (chk_lt hc hm))
        omega
      · omega
    subst hkl
    rw [List.take_length] at hrun
    refine fin_all (T := T) (K := fun a => ∀ w', StoresRun P ops a T w1 w' → Q .normal a w') (w := w1) a ops.toList G 0 a0 (fun j o ho hT => ?_) (fun j o ho hT => ?_) h.frame.1 h.frame.2.1 (fun t ht => h.frame.2.2 t (fun i o ho => ht i o (by simpa using ho))) (hfin w1 hs1) w hrun
    · have ho' : ops[j]? = some o := by simpa using ho
      exact hΓ j o ho' (by simpa using hT) (hall j (Array.getElem?_eq_some_iff.1 ho').1)
    · have ho' : ops[j]? = some o := by simpa using ho
      exact ((chk_at hc ho').2.2.2.2.1 (by simpa using hT)).1
  · refine RInv2.mk (by simp) (fun j oj hj hl => by rw [getD_replicate_false] at hl; exact absurd hl (by simp)) ⟨rfl, rfl, fun _ _ => rfl⟩ (fun _ _ _ _ _ _ => rfl) ⟨w0.drew, 0, Nat.zero_le _, fun j hj => ?_, Since.of_ext (Ext.drew w0), Since.of_ext (Ext.drew w0), rfl, fun i o ho hT hl => ?_⟩
    · rw [getD_replicate_false]; simp
    · rw [getD_replicate_false] at hl; exact absurd hl (by simp)


def EObl2 (P : Program) (ops : Array Oper) (a0 : Act) (w0 : World) (X T : List Nat) (G : List GP) (i : Nat) (o : Oper) (g : GP) : Prop :=
  ∀ a w, Since [] w0 w → FrameAt ops a0 i a → Deps ops T G i a w → if Region.wanted o (yielded ops a.tmps) = true then Yes P o a w g else g undef w
def LObl2 (P : Program) (ops : Array Oper) (a0 : Act) (w0 : World) (X T : List Nat) (G : List GP) (i : Nat) (o : Oper) (g : GP) : Prop :=
  ∀ a w1 w, Since [] w0 w1 → Since X w0 w → FrameAt ops a0 i a → Deps ops T G i a w1 → if Region.wanted o (yielded ops a.tmps) = true then Late P o a w1 w g else g undef w1
def SObl2 (P : Program) (ops : Array Oper) (a0 : Act) (w0 : World) (X T : List Nat) (G : List GP) (k i : Nat) (o : Oper) : Prop :=
  ∀ a w1 w, Since [] w0 w1 → Since X w0 w → FrameAt ops a0 i a → Deps ops T G i a w1 → StoresRun P ops a (T.take k) w1 w → ∃ w', (execOp a.eval o).run P w = .ok .skip w' ∧ Since X w0 w'

/-- The obligations, in the text's order; l, G: what is left of the region and of the facts. -/
def Obls2 (P : Program) (ops : Array Oper) (a0 : Act) (w0 : World) (X T L : List Nat) (G0 : List GP) : Nat → List Oper → List GP → Prop
  | _, [], _ => True
  | i, o :: l, G => (match T.contains i, L.contains i with
      | true, _ => SObl2 P ops a0 w0 X T G0 (T.idxOf i) i o
      | false, true => LObl2 P ops a0 w0 X T G0 i o (G.headD anyG)
      | false, false => EObl2 P ops a0 w0 X T G0 i o (G.headD anyG)) ∧ Obls2 P ops a0 w0 X T L G0 (i + 1) l G.tail

theorem Obls2.at (l : List Oper) : ∀ (G' : List GP) (i j : Nat) (o : Oper), Obls2 P ops a0 w0 X T L G i l G' → l[j]? = some o →
    (T.contains (i + j) = true → SObl2 P ops a0 w0 X T G (T.idxOf (i + j)) (i + j) o) ∧
    (T.contains (i + j) = false → L.contains (i + j) = true → LObl2 P ops a0 w0 X T G (i + j) o (G'.getD j anyG)) ∧
    (T.contains (i + j) = false → L.contains (i + j) = false → EObl2 P ops a0 w0 X T G (i + j) o (G'.getD j anyG)) := by
  induction l with
  | nil => intro G' i j o _ ho; simp at ho
  | cons o1 l ih =>
    intro G' i j o h ho
    unfold Obls2 at h
    obtain ⟨h1, h2⟩ := h
    cases j with
    | zero =>
      simp at ho; subst ho
      simp only [Nat.add_zero]
      have hG : G'.headD anyG = G'.getD 0 anyG := by cases G' <;> rfl
      rw [hG] at h1
      refine ⟨fun hT => ?_, fun hT hL => ?_, fun hT hL => ?_⟩
      · rw [hT] at h1; exact h1
      · rw [hT, hL] at h1; exact h1
      · rw [hT, hL] at h1; exact h1
    | succ j =>
      have h3 := ih G'.tail (i + 1) j o h2 (by simpa using ho)
      have e1 : i + 1 + j = i + (j + 1) := by omega
      have e2 : G'.tail.getD j anyG = G'.getD (j + 1) anyG := by cases G' <;> simp
      rw [e1, e2] at h3
      exact h3

theorem region_lit2 {id : Nat} {l : List Oper} (T L X : List Nat) (G : List GP) (hm : P.follows .mixedOrders = true) (hc : chk l.toArray T L a0.tmps.size = true) (hG : AllStable G)
    (hop : Obls2 P l.toArray a0 w0 X T L G 0 l G)
    (hfin : ∀ w, Since [] w0 w → FinAll T (fun a => ∀ w', StoresRun P l.toArray a T w w' → Q .normal a w') w l G 0 a0) : (Code.region id l.toArray true).wp P Q a0 w0 := by
  refine region_mono2 T L X G hm hc hG.mem (fun i o ho hT hL => ?_) (fun i o ho hL => ?_) (fun k o hk ho => ?_) (by simpa using hfin)
  · have := (Obls2.at l G 0 i o hop (by simpa using ho)).2.2
    rw [Nat.zero_add] at this
    exact this hT hL
  · have h1 := (Obls2.at l G 0 i o hop (by simpa using ho)).2.1
    rw [Nat.zero_add] at h1
    refine h1 ?_ hL
    simp only [chk, Bool.and_eq_true] at hc
    have := List.all_eq_true.1 hc.2 i (by simpa using hL)
    simpa using this
  · have h1 := (Obls2.at l G 0 (T.getD k 0) o hop (by simpa using ho)).1
    rw [Nat.zero_add] at h1
    have hg : T.getD k 0 = T[k] := by rw [List.getD_eq_getElem?_getD, List.getElem?_eq_getElem hk]; rfl
    have h2 := h1 (by rw [hg]; simp)
    have hidx : T.idxOf (T.getD k 0) = k := by
      rw [hg]
      exact List.Nodup.idxOf_getElem (chk_nodup hc) k hk
    rw [hidx] at h2
    exact h2
end
theorem cell_since {X : List Nat} {w w' : World} {a : Addr} {v : Value} (hc : w.cell? a = some v) (hs : Since X w w') (hx : X.contains a.block = false) : w'.cell? a = some v :=
  (World.cell?_of_block (hs.block _ (World.block_lt_of_cell? w a hc) hx)).trans hc
end Go.Proofs.Ytcfbdfgondmkoaa
/- Arenas: a word is loaded. -/
namespace Go.Proofs.Ytcfbdfgondmkoaa
open Go Go.RowKit
set_option linter.unusedSimpArgs false
set_option linter.unusedVariables false

def loadD (m : Arena) (x : Int) : Int := if outside m x then 0 else gi m.W x.toNat
set_option maxRecDepth 100000 in
theorem memLoad_ (N : Nat → Prop) (v : Value) (m : Arena) (x : Int) (w : World) (h : IsMem N w v m) (hf : Fits m) (hN : ∀ b, N b → b < w.heap.size) (hx0 : -9223372036854775808 ≤ x) (hx1 : x ≤ 9223372036854775807) :
    Gives Proofs.Try.prog 64 #[v, .int .i64 x] w (fun r w' => ∃ u, r = .tuple #[u, .int .i64 (loadD m x)] ∧ IsMem N w' u (touchD m x)) := by
  have kn := fun (w' : World) (e : Ext w w') => touch_ _ v m x w' (h.at e) hf (Bx.lt hN e) hx0 hx1
  obtain ⟨aw, cw, ag, cg, rfl, hw, hg⟩ := h.opened
  obtain ⟨_, _, e0, rw_, lw, cwc⟩ := hw.opened
  cases e0
  go_enter Proofs.Try.func64, Proofs.Try.ntmps64
  go_wp2_with (fail)
  go_at_call 123
  refine (kn _ exq).calls.mono ?_
  rintro e w1 ⟨u, rfl, hb1, hu⟩
  obtain ⟨xw, yw, xg, yg, rfl, hxw, hxg⟩ := hu.opened
  have hs1 : w.heap.size + 2 ≤ w1.heap.size := by have := hb1.size; simp at this; omega
  have hz0 : w.heap.size < w1.heap.size := by omega
  have hz1 : w.heap.size + 1 < w1.heap.size := by omega
  have B0 : Box w1 w.heap.size #[.slice aw m.W.length cw, .slice ag m.G.length cg, .bool m.bad] 50 := ((Box.new _ _ _).alloc _).ext hb1
  have B1 : Box w1 (w.heap.size + 1) #[.slice none 0 0, .slice none 0 0, .bool false] 50 := (Box.two _ _ _ _ _).ext hb1
  obtain ⟨c00, c01, c02, d00, d01, d02⟩ := cells3 B0
  obtain ⟨c10, c11, c12, d10, d11, d12⟩ := cells3 B1
  by_cases h1 : x < 0
  · have hl : loadD m x = 0 := by unfold loadD; rw [if_pos (by simp [outside]; omega)]
    have BF : Box ((((w1.setCell ⟨w.heap.size + 1, 0, none⟩ (.slice xw (touchD m x).W.length yw)).setCell ⟨w.heap.size + 1, 1, none⟩ (.slice xg (touchD m x).G.length yg)).setCell ⟨w.heap.size + 1, 2, none⟩ (.bool (touchD m x).bad)).alloc (.cells #[.slice xw (touchD m x).W.length yw, .slice xg (touchD m x).G.length yg, .bool (touchD m x).bad] 50 (0, 0))) (w.heap.size + 1) #[.slice xw (touchD m x).W.length yw, .slice xg (touchD m x).G.length yg, .bool (touchD m x).bad] 50 := (((B1.setCell _).setCell _).setCell _).alloc _
    have hsz : ((w.alloc (Obj.cells #[.slice aw m.W.length cw, .slice ag m.G.length cg, .bool m.bad] 50)).alloc (Obj.cells #[.slice none 0 0, .slice none 0 0, .bool false] 50)).heap.size = w.heap.size + 2 := by simp
    rw [hsz] at hxw hxg
    go_wp2
    exact bodyPost_ret (ret_cell_tmp BF Proofs.Try.results64 rfl Proofs.Try.underlying50 rfl (by kernel_rfl)) rfl ⟨_, rfl, exq, _, by rw [hl]; rfl, IsMem.back ⟨_, _, rfl, hxw.keep (by with_reducible (repeat (first | assumption | exact Keep.refl _ _ | refine Keep.alloc ?_ _ | refine Keep.s ?_ (by first | assumption | exact Bx.mem (by omega) (by omega)) | refine Keep.n ?_ (by omega) | refine Keep.ext ?_ (by assumption) | refine Keep.drew ?_))), hxg.keep (by with_reducible (repeat (first | assumption | exact Keep.refl _ _ | refine Keep.alloc ?_ _ | refine Keep.s ?_ (by first | assumption | exact Bx.mem (by omega) (by omega)) | refine Keep.n ?_ (by omega) | refine Keep.ext ?_ (by assumption) | refine Keep.drew ?_)))⟩⟩
  · by_cases h2 : (m.W.length : Int) ≤ x
    · have hl : loadD m x = 0 := by unfold loadD; rw [if_pos (by simp [outside]; omega)]
      have BF : Box ((((w1.setCell ⟨w.heap.size + 1, 0, none⟩ (.slice xw (touchD m x).W.length yw)).setCell ⟨w.heap.size + 1, 1, none⟩ (.slice xg (touchD m x).G.length yg)).setCell ⟨w.heap.size + 1, 2, none⟩ (.bool (touchD m x).bad)).alloc (.cells #[.slice xw (touchD m x).W.length yw, .slice xg (touchD m x).G.length yg, .bool (touchD m x).bad] 50 (0, 0))) (w.heap.size + 1) #[.slice xw (touchD m x).W.length yw, .slice xg (touchD m x).G.length yg, .bool (touchD m x).bad] 50 := (((B1.setCell _).setCell _).setCell _).alloc _
      have hsz : ((w.alloc (Obj.cells #[.slice aw m.W.length cw, .slice ag m.G.length cg, .bool m.bad] 50)).alloc (Obj.cells #[.slice none 0 0, .slice none 0 0, .bool false] 50)).heap.size = w.heap.size + 2 := by simp
      rw [hsz] at hxw hxg
      go_wp2
      exact bodyPost_ret (ret_cell_tmp BF Proofs.Try.results64 rfl Proofs.Try.underlying50 rfl (by kernel_rfl)) rfl ⟨_, rfl, exq, _, by rw [hl]; rfl, IsMem.back ⟨_, _, rfl, hxw.keep (by with_reducible (repeat (first | assumption | exact Keep.refl _ _ | refine Keep.alloc ?_ _ | refine Keep.s ?_ (by first | assumption | exact Bx.mem (by omega) (by omega)) | refine Keep.n ?_ (by omega) | refine Keep.ext ?_ (by assumption) | refine Keep.drew ?_))), hxg.keep (by with_reducible (repeat (first | assumption | exact Keep.refl _ _ | refine Keep.alloc ?_ _ | refine Keep.s ?_ (by first | assumption | exact Bx.mem (by omega) (by omega)) | refine Keep.n ?_ (by omega) | refine Keep.ext ?_ (by assumption) | refine Keep.drew ?_)))⟩⟩
    · obtain ⟨k, rfl⟩ : ∃ k : Nat, x = k := ⟨x.toNat, by omega⟩
      obtain ⟨ba, oa, rfl, xa, na, ea⟩ := cwc k (by omega)
      have ea1 := cell_ext ea (show Ext w w1 from exq)
      go_wp2_with (fail)
      have B0' := B0.alloc (.cells #[.slice xw (touchD m k).W.length yw, .slice xg (touchD m k).G.length yg, .bool (touchD m k).bad] 50 (0, 0))
      have B1' := B1.alloc (.cells #[.slice xw (touchD m k).W.length yw, .slice xg (touchD m k).G.length yg, .bool (touchD m k).bad] 50 (0, 0))
      have ea2 := cell_ext ea1 (Ext.alloc w1 (.cells #[.slice xw (touchD m k).W.length yw, .slice xg (touchD m k).G.length yg, .bool (touchD m k).bad] 50 (0, 0)))
      have ea3 : (w1.alloc (.cells #[.slice xw (touchD m k).W.length yw, .slice xg (touchD m k).G.length yg, .bool (touchD m k).bad] 50 (0, 0))).cell? ⟨ba, oa + (k : Int).toNat * 1, none⟩ = some (.int .i64 (gi m.W k)) := by simpa using ea2
      have B6' := Box.new w1 #[.slice xw (touchD m k).W.length yw, .slice xg (touchD m k).G.length yg, .bool (touchD m k).bad] 50
      apply region_lit2 (T := [6]) (L := [1, 2, 3, 4, 5, 7]) (X := [w.heap.size + 1]) (G := [eqv _, eqv _, eqv _, eqv _, eqv _, eqv _, anyG, eqv _])
      case hm => kernel_rfl
      case hop =>
        refine ⟨?_, ?_, ?_, ?_, ?_, ?_, ?_, ?_, trivial⟩
        · intro a w hs hf hd
          have t6 := hf.off 6 (by kernel_rfl) rfl
          exact plain_ rfl (yes_eqv (o_load3 rfl Proofs.Try.underlying50 rfl (by kernel_rfl) t6 ((B6'.since hs rfl).cell rfl) ((B6'.since hs rfl).cell rfl) ((B6'.since hs rfl).cell rfl)) rfl)
        · intro a w1 w hs1 hs hf hd
          have t2 := hf.off 2 (by kernel_rfl) rfl
          exact plain_ rfl (late_eqv (o_fieldAddr rfl Proofs.Try.underlying50 rfl rfl (by kernel_rfl) t2) rfl)
        · intro a w1 w hs1 hs hf hd
          have t21 : a.eval (.tmp 21) = _ := hd.at 1 21 (by kernel_rfl)
          exact plain_ rfl (late_eqv (o_load1 rfl Proofs.Try.underlying48 rfl t21 ((B0'.since hs (by simp)).cell rfl)) rfl)
        · intro a w1 w hs1 hs hf hd
          have t1 := hf.off 1 (by kernel_rfl) rfl
          exact plain_ rfl (late_eqv (o_move rfl t1) rfl)
        · intro a w1 w hs1 hs hf hd
          have t22 : a.eval (.tmp 22) = _ := hd.at 2 22 (by kernel_rfl)
          have t23 : a.eval (.tmp 23) = _ := hd.at 3 23 (by kernel_rfl)
          exact plain_ rfl (late_eqv (o_indexAddr (sz := 1) rfl Proofs.Try.underlying48 (by kernel_rfl) t22 t23 (by omega) (by omega)) rfl)
        · intro a w1 w hs1 hs hf hd
          have t24 : a.eval (.tmp 24) = _ := hd.at 4 24 (by kernel_rfl)
          exact plain_ rfl (late_eqv (o_load1 rfl Proofs.Try.underlying3 rfl t24 (cell_since ea3 hs (by simp; omega))) rfl)
        · intro a w1 w hs1 hs hf hd hrun
          have t4 := hf.off 4 (by kernel_rfl) rfl
          have t20 : a.eval (.tmp 20) = _ := hd.at 0 20 (by kernel_rfl)
          subst hrun; exact ⟨_, o_store rfl t4 t20 (B1'.since hs1 rfl) (by kernel_rfl) (by simp [Value.cells, Value.oneCell']) (by simp [Value.cells]) rfl, Since.put hs (.inr (by simp))⟩
        · intro a w1 w hs1 hs hf hd
          have t25 : a.eval (.tmp 25) = _ := hd.at 5 25 (by kernel_rfl)
          exact plain_ rfl (late_eqv (o_assign rfl t25) rfl)
      case hG => exact ⟨stable_eqv _, stable_eqv _, stable_eqv _, stable_eqv _, stable_eqv _, stable_eqv _, stable_any, stable_eqv _, trivial⟩
      case hc => kernel_rfl
      case hfin =>
        intro w2 hs
        rintro _ rfl _ rfl _ rfl _ rfl _ rfl _ rfl _ rfl
        rintro w3 ⟨o, w4, ho, hr, rfl⟩
        cases ho
        simp only [Act.put, List.setIfInBounds_toArray, List.set_cons_zero, List.set_cons_succ] at hr ⊢
        cases (hr.symm.trans (o_store (v := .agg #[.slice xw (touchD m k).W.length yw, .slice xg (touchD m k).G.length yg, .bool (touchD m k).bad]) (new := #[.slice xw (touchD m k).W.length yw, .slice xg (touchD m k).G.length yg, .bool (touchD m k).bad]) rfl rfl rfl (B1'.since hs rfl) (by kernel_rfl) (by simp [Value.cells, Value.oneCell']) (by simp [Value.cells]) rfl))
        go_wp2
        have hE3 : Ext w w2 := (show Ext w w1 from exq).trans ((Ext.alloc _ _).trans (Since.to_ext hs))
        have hE4 : Ext w (put w2 (w.heap.size + 1) (.cells #[.slice xw (touchD m k).W.length yw, .slice xg (touchD m k).G.length yg, .bool (touchD m k).bad] 50 (0, 0))) := Since.to_ext ((Since.of_ext hE3).put (.inl (by omega)))
        have hK : Keep (Bx N w.heap.size (w.heap.size + 2)) w1 (put w2 (w.heap.size + 1) (.cells #[.slice xw (touchD m k).W.length yw, .slice xg (touchD m k).G.length yg, .bool (touchD m k).bad] 50 (0, 0))) := (((Keep.refl _ _).alloc _).ext (Since.to_ext hs)).put _ _ (.inr (Bx.mem (by omega) (by omega)))
        have hl : loadD m k = gi m.W k := by unfold loadD; rw [if_neg (by simp [outside]; omega)]; simp
        refine bodyPost_ret (ret_cell_tmp ((B1'.since hs rfl).put) Proofs.Try.results64 rfl Proofs.Try.underlying50 rfl (by kernel_rfl)) rfl ⟨_, rfl, hE4, _, by rw [hl]; rfl, ?_⟩
        have hsz : ((w.alloc (Obj.cells #[.slice (some ⟨ba, oa, none⟩) m.W.length cw, .slice ag m.G.length cg, .bool m.bad] 50)).alloc (Obj.cells #[.slice none 0 0, .slice none 0 0, .bool false] 50)).heap.size = w.heap.size + 2 := by simp
        rw [hsz] at hxw hxg
        exact IsMem.back ⟨_, _, rfl, hxw.keep hK, hxg.keep hK⟩

end Go.Proofs.Ytcfbdfgondmkoaa
/- Arenas: Bad, a load, by the document. -/
namespace Go.Proofs.Ytcfbdfgondmkoaa
open Go Go.RowKit
set_option linter.unusedSimpArgs false
set_option linter.unusedVariables false

theorem refBad_ (N : Nat → Prop) (v : Value) (m : Arena) (x : Int) (w : World) (h : IsMem N w v m) (hf : Fits m) : Gives Proofs.Try.prog 124 #[v, .int .i64 x] w (eqv (.bool (badAt m x))) := by
  have kn := fun (w' : World) (e : Ext w w') => refNode_ N v m x w' (h.ext e) hf
  obtain ⟨n0, n1⟩ := nodeD_lt hf x
  obtain ⟨k, hk⟩ : ∃ k : Nat, nodeD m.W.length x = k := ⟨(nodeD m.W.length x).toNat, by omega⟩
  rw [hk] at kn n1
  obtain ⟨aw, cw, ag, cg, rfl, hw, hg⟩ := h.opened
  obtain ⟨_, _, e0, rg, lg, cgc⟩ := hg.opened
  cases e0
  by_cases h1 : x < 0
  · have hbad : badAt m x = true := by simp [badAt, outside, h1]
    go_enter Proofs.Try.func124, Proofs.Try.ntmps124
    go_wp2
    go_ret
    exact ⟨_, rfl, exq, by first | rfl | (rw [hbad]; rfl)⟩
  · by_cases h2 : (m.W.length : Int) ≤ x
    · have hbad : badAt m x = true := by simp [badAt, outside, h2]
      go_enter Proofs.Try.func124, Proofs.Try.ntmps124
      go_wp2
      go_ret
      exact ⟨_, rfl, exq, by first | rfl | (rw [hbad]; rfl)⟩
    · cases hb : m.bad <;> rw [hb] at kn
      · by_cases h3 : 0 < k
        · obtain ⟨bg, og, rfl, xg, ng, eg⟩ := cgc k (by omega)
          have h3' : (0 : Int) < (k : Int) := by omega
          by_cases h4 : gi m.G k = 0
          · have h4' : (gi m.G k == 0) = true := by simp [h4]
            have hbad : badAt m x = true := by simp [badAt, freeAt, hk, h3, h4]
            go_enter Proofs.Try.func124, Proofs.Try.ntmps124
            go_wp2_with (fail)
            go_at_call 60; refine (kn _ exq).calls.mono ?_; rintro e w1 ⟨_, rfl, hb1, rfl⟩; obtain ⟨q1, f1⟩ := bcell hb1; have z1_0 : w.heap.size < w1.heap.size := (by have := hb1.size; first | omega | (simp at this; omega))
            have eg1 := cell_ext eg (exq : Ext w w1)
            go_wp2
            go_ret
            exact ⟨_, rfl, exq, by first | rfl | (rw [hbad]; rfl)⟩
          · have h4' : (gi m.G k == 0) = false := by simp [h4]
            have hbad : badAt m x = false := by simp [badAt, outside, freeAt, hk, h1, h2, h3, h4, hb]
            go_enter Proofs.Try.func124, Proofs.Try.ntmps124
            go_wp2_with (fail)
            go_at_call 60; refine (kn _ exq).calls.mono ?_; rintro e w1 ⟨_, rfl, hb1, rfl⟩; obtain ⟨q1, f1⟩ := bcell hb1; have z1_0 : w.heap.size < w1.heap.size := (by have := hb1.size; first | omega | (simp at this; omega))
            have eg1 := cell_ext eg (exq : Ext w w1)
            go_wp2
            go_ret
            exact ⟨_, rfl, exq, by first | rfl | (rw [hbad]; rfl)⟩
        · obtain rfl : k = 0 := by omega
          have hbad : badAt m x = false := by simp [badAt, outside, freeAt, hk, h1, h2, hb]
          go_enter Proofs.Try.func124, Proofs.Try.ntmps124
          go_wp2_with (fail)
          go_at_call 60; refine (kn _ exq).calls.mono ?_; rintro e w1 ⟨_, rfl, hb1, rfl⟩; obtain ⟨q1, f1⟩ := bcell hb1; have z1_0 : w.heap.size < w1.heap.size := (by have := hb1.size; first | omega | (simp at this; omega))
          go_wp2
          go_ret
          exact ⟨_, rfl, exq, by first | rfl | (rw [hbad]; rfl)⟩
      · have hbad : badAt m x = true := by simp [badAt, hb]
        go_enter Proofs.Try.func124, Proofs.Try.ntmps124
        go_wp2_with (fail)
        go_at_call 60; refine (kn _ exq).calls.mono ?_; rintro e w1 ⟨_, rfl, hb1, rfl⟩; obtain ⟨q1, f1⟩ := bcell hb1; have z1_0 : w.heap.size < w1.heap.size := (by have := hb1.size; first | omega | (simp at this; omega))
        go_wp2
        go_ret
        exact ⟨_, rfl, exq, by first | rfl | (rw [hbad]; rfl)⟩
end Go.Proofs.Ytcfbdfgondmkoaa
/- Arenas: a load, by the document. -/
namespace Go.Proofs.Ytcfbdfgondmkoaa
open Go Go.RowKit
set_option linter.unusedSimpArgs false
set_option linter.unusedVariables false

set_option maxRecDepth 100000 in
theorem refLoad_ (N : Nat → Prop) (v : Value) (m : Arena) (x : Int) (w : World) (h : IsMem N w v m) (hf : Fits m) (hN : ∀ b, N b → b < w.heap.size) :
    Gives Proofs.Try.prog 65 #[v, .int .i64 x] w (fun r w' => ∃ u, r = .tuple #[u, .int .i64 (loadD m x)] ∧ IsMem N w' u (touchD m x)) := by
  have kb := fun (w' : World) (e : Ext w w') => refBad_ N v m x w' (h.ext e) hf
  obtain ⟨aw, cw, ag, cg, rfl, hw, hg⟩ := h.opened
  obtain ⟨_, _, e0, rw_, lw, cwc⟩ := hw.opened
  cases e0
  go_enter Proofs.Try.func65, Proofs.Try.ntmps65
  go_wp2_with (fail)
  obtain ⟨W, hW⟩ : ∃ W, W = (w.alloc (Obj.cells #[.slice aw m.W.length cw, .slice ag m.G.length cg, .bool m.bad] 50)).alloc (Obj.cells #[.slice none 0 0, .slice none 0 0, .bool false] 50) := ⟨_, rfl⟩
  have hEW : Ext w W := by rw [hW]; exact exq
  have hsz : w.heap.size + 2 ≤ W.heap.size := by rw [hW]; simp
  have B0 : Box W w.heap.size #[.slice aw m.W.length cw, .slice ag m.G.length cg, .bool m.bad] 50 := by rw [hW]; exact (Box.new _ _ _).alloc _
  have B1 : Box W (w.heap.size + 1) #[.slice none 0 0, .slice none 0 0, .bool false] 50 := by rw [hW]; exact Box.two _ _ _ _ _
  rw [← hW]
  clear hW
  apply region_lit2 (T := [9]) (L := []) (X := []) (G := [eqv _, eqv _, eqv _, eqv _, eqv _, eqv _, eqv _, eqv _, isNew W.heap.size #[.slice none 0 0, .slice none 0 0, .bool false] 50, anyG])
  case hm => kernel_rfl
  case hop =>
    refine ⟨?_, ?_, ?_, ?_, ?_, ?_, ?_, ?_, ?_, ?_, trivial⟩
    · intro a wa hs hf hd
      have t2 := hf.off 2 (by kernel_rfl) rfl
      exact plain_ rfl (yes_eqv (o_fieldAddr rfl Proofs.Try.underlying50 rfl rfl (by kernel_rfl) t2) rfl)
    · intro a wa hs hf hd
      have t7 : a.eval (.tmp 7) = _ := hd.at 0 7 (by kernel_rfl)
      exact plain_ rfl (yes_eqv (o_load1 rfl Proofs.Try.underlying48 rfl t7 ((B0.since hs rfl).cell rfl)) rfl)
    · intro a wa hs hf hd
      have t2 := hf.off 2 (by kernel_rfl) rfl
      exact plain_ rfl (yes_eqv (o_fieldAddr rfl Proofs.Try.underlying50 rfl rfl (by kernel_rfl) t2) rfl)
    · intro a wa hs hf hd
      have t9 : a.eval (.tmp 9) = _ := hd.at 2 9 (by kernel_rfl)
      exact plain_ rfl (yes_eqv (o_load1 rfl Proofs.Try.underlying48 rfl t9 ((B0.since hs rfl).cell rfl)) rfl)
    · intro a wa hs hf hd
      have t2 := hf.off 2 (by kernel_rfl) rfl
      exact plain_ rfl (yes_eqv (o_load3 rfl Proofs.Try.underlying50 rfl (by kernel_rfl) t2 ((B0.since hs rfl).cell rfl) ((B0.since hs rfl).cell rfl) ((B0.since hs rfl).cell rfl)) rfl)
    · intro a wa hs hf hd
      have t1 := hf.off 1 (by kernel_rfl) rfl
      exact plain_ rfl (yes_eqv (o_move rfl t1) rfl)
    · intro a wa hs hf hd
      have t11 : a.eval (.tmp 11) = _ := hd.at 4 11 (by kernel_rfl)
      have t12 : a.eval (.tmp 12) = _ := hd.at 5 12 (by kernel_rfl)
      exact plain_ rfl (yes_gives (kb _ (hEW.trans (Since.to_ext hs) : Ext w _)) rfl rfl Proofs.Try.func124 (by kernel_rfl) (by kernel_rfl) (by simp only [List.map_toArray, List.map_cons, List.map_nil, t11, t12]) rfl)
    · intro a wa hs hf hd
      have t8 : a.eval (.tmp 8) = _ := hd.at 1 8 (by kernel_rfl)
      have t10 : a.eval (.tmp 10) = _ := hd.at 3 10 (by kernel_rfl)
      have t13 : a.eval (.tmp 13) = _ := hd.at 6 13 (by kernel_rfl)
      exact plain_ rfl (yes_eqv (o_build (cells := #[.slice aw m.W.length cw, .slice ag m.G.length cg, .bool (badAt m x)]) rfl (by simp only [List.map_toArray, List.map_cons, List.map_nil, eval_const, t8, t10, t13]; first | done | rfl) rfl) rfl)
    · intro a wa hs hf hd
      exact plain_ rfl (yes_new (z := .agg #[.slice none 0 0, .slice none 0 0, .bool false]) rfl (by kernel_rfl) rfl rfl hs.size)
    · intro a wb wa hs1 hs hf hd hrun
      have t6 := hd.at 8 6 (by kernel_rfl)
      have t14 : a.eval (.tmp 14) = _ := hd.at 7 14 (by kernel_rfl)
      subst hrun
      obtain ⟨k, hk, hn, hB⟩ := t6
      exact ⟨_, o_store rfl hk t14 hB (by kernel_rfl) (by simp [Value.cells, Value.oneCell']) (by simp [Value.cells]) rfl, Since.put hs (.inl (by omega))⟩
  case hG => exact ⟨stable_eqv _, stable_eqv _, stable_eqv _, stable_eqv _, stable_eqv _, stable_eqv _, stable_eqv _, stable_eqv _, stable_isNew _ _ _, stable_any, trivial⟩
  case hc => kernel_rfl
  case hfin =>
    intro w2 hs
    rintro _ rfl _ rfl _ rfl _ rfl _ rfl _ rfl _ rfl _ rfl _ ⟨b6, rfl, hn6, hB6⟩
    rintro w3 ⟨o, w4, ho, hr, rfl⟩
    cases ho
    simp only [Act.put, List.setIfInBounds_toArray, List.set_cons_zero, List.set_cons_succ] at hr ⊢
    cases (hr.symm.trans (o_store (v := .agg #[.slice aw m.W.length cw, .slice ag m.G.length cg, .bool (badAt m x)]) (new := #[.slice aw m.W.length cw, .slice ag m.G.length cg, .bool (badAt m x)]) rfl rfl rfl hB6 (by kernel_rfl) (by simp [Value.cells, Value.oneCell']) (by simp [Value.cells]) rfl))
    have hE2 : Ext w w2 := hEW.trans (Since.to_ext hs)
    obtain ⟨W2, hW2⟩ : ∃ W2, W2 = put w2 b6 (.cells #[.slice aw m.W.length cw, .slice ag m.G.length cg, .bool (badAt m x)] 50 (0, 0)) := ⟨_, rfl⟩
    have hEW2 : Ext w W2 := by rw [hW2]; exact Since.to_ext ((Since.of_ext hE2).put (.inl (by omega)))
    have B6 : Box W2 b6 #[.slice aw m.W.length cw, .slice ag m.G.length cg, .bool (badAt m x)] 50 := by rw [hW2]; exact hB6.put
    have C0 : Box W2 w.heap.size #[.slice aw m.W.length cw, .slice ag m.G.length cg, .bool m.bad] 50 := by rw [hW2]; exact (B0.since hs rfl).put_other (by omega)
    have C1 : Box W2 (w.heap.size + 1) #[.slice none 0 0, .slice none 0 0, .bool false] 50 := by rw [hW2]; exact (B1.since hs rfl).put_other (by omega)
    rw [← hW2]
    clear hW2
    obtain ⟨c00, c01, c02, d00, d01, d02⟩ := cells3 C0
    obtain ⟨c10, c11, c12, d10, d11, d12⟩ := cells3 C1
    obtain ⟨c60, c61, c62, d60, d61, d62⟩ := cells3 B6
    have e6 : b6 ≠ w.heap.size + 1 := by omega
    by_cases h1 : x < 0
    · have hl : loadD m x = 0 := by unfold loadD; rw [if_pos (by simp [outside]; omega)]
      have BF : Box (((W2.setCell ⟨w.heap.size + 1, 0, none⟩ (.slice aw m.W.length cw)).setCell ⟨w.heap.size + 1, 1, none⟩ (.slice ag m.G.length cg)).setCell ⟨w.heap.size + 1, 2, none⟩ (.bool (badAt m x))) (w.heap.size + 1) #[.slice aw m.W.length cw, .slice ag m.G.length cg, .bool (badAt m x)] 50 := ((C1.setCell _).setCell _).setCell _
      go_wp2
      exact bodyPost_ret (ret_cell_tmp BF Proofs.Try.results65 rfl Proofs.Try.underlying50 rfl (by kernel_rfl)) rfl ⟨_, rfl, exq, _, by first | rfl | (rw [hl]; rfl), ⟨_, _, rfl, hw.ext exq, hg.ext exq⟩⟩
    · by_cases h2 : (m.W.length : Int) ≤ x
      · have hl : loadD m x = 0 := by unfold loadD; rw [if_pos (by simp [outside]; omega)]
        have BF : Box (((W2.setCell ⟨w.heap.size + 1, 0, none⟩ (.slice aw m.W.length cw)).setCell ⟨w.heap.size + 1, 1, none⟩ (.slice ag m.G.length cg)).setCell ⟨w.heap.size + 1, 2, none⟩ (.bool (badAt m x))) (w.heap.size + 1) #[.slice aw m.W.length cw, .slice ag m.G.length cg, .bool (badAt m x)] 50 := ((C1.setCell _).setCell _).setCell _
        go_wp2
        exact bodyPost_ret (ret_cell_tmp BF Proofs.Try.results65 rfl Proofs.Try.underlying50 rfl (by kernel_rfl)) rfl ⟨_, rfl, exq, _, by first | rfl | (rw [hl]; rfl), ⟨_, _, rfl, hw.ext exq, hg.ext exq⟩⟩
      · obtain ⟨k, rfl⟩ : ∃ k : Nat, x = k := ⟨x.toNat, by omega⟩
        obtain ⟨ba, oa, rfl, xa, na, ea⟩ := cwc k (by omega)
        have ea1 := cell_ext ea hEW2
        have ea3 : W2.cell? ⟨ba, oa + (k : Int).toNat * 1, none⟩ = some (.int .i64 (gi m.W k)) := by simpa using ea1
        go_wp2_with (fail)
        apply region_lit2 (T := [6]) (L := [1, 2, 3, 4, 5, 7]) (X := [w.heap.size + 1]) (G := [eqv _, eqv _, eqv _, eqv _, eqv _, eqv _, anyG, eqv _])
        case hm => kernel_rfl
        case hop =>
          refine ⟨?_, ?_, ?_, ?_, ?_, ?_, ?_, ?_, trivial⟩
          · intro a wa hs hf hd
            have t6 := hf.off 6 (by kernel_rfl) rfl
            exact plain_ rfl (yes_eqv (o_load3 rfl Proofs.Try.underlying50 rfl (by kernel_rfl) t6 ((B6.since hs rfl).cell rfl) ((B6.since hs rfl).cell rfl) ((B6.since hs rfl).cell rfl)) rfl)
          · intro a wb wa hs1 hs hf hd
            have t2 := hf.off 2 (by kernel_rfl) rfl
            exact plain_ rfl (late_eqv (o_fieldAddr rfl Proofs.Try.underlying50 rfl rfl (by kernel_rfl) t2) rfl)
          · intro a wb wa hs1 hs hf hd
            have t26 : a.eval (.tmp 26) = _ := hd.at 1 26 (by kernel_rfl)
            exact plain_ rfl (late_eqv (o_load1 rfl Proofs.Try.underlying48 rfl t26 ((C0.since hs (by simp)).cell rfl)) rfl)
          · intro a wb wa hs1 hs hf hd
            have t1 := hf.off 1 (by kernel_rfl) rfl
            exact plain_ rfl (late_eqv (o_move rfl t1) rfl)
          · intro a wb wa hs1 hs hf hd
            have t27 : a.eval (.tmp 27) = _ := hd.at 2 27 (by kernel_rfl)
            have t28 : a.eval (.tmp 28) = _ := hd.at 3 28 (by kernel_rfl)
            exact plain_ rfl (late_eqv (o_indexAddr (sz := 1) rfl Proofs.Try.underlying48 (by kernel_rfl) t27 t28 (by omega) (by omega)) rfl)
          · intro a wb wa hs1 hs hf hd
            have t29 : a.eval (.tmp 29) = _ := hd.at 4 29 (by kernel_rfl)
            exact plain_ rfl (late_eqv (o_load1 rfl Proofs.Try.underlying3 rfl t29 (cell_since ea3 hs (by simp; omega))) rfl)
          · intro a wb wa hs1 hs hf hd hrun
            have t4 := hf.off 4 (by kernel_rfl) rfl
            have t25 : a.eval (.tmp 25) = _ := hd.at 0 25 (by kernel_rfl)
            subst hrun; exact ⟨_, o_store rfl t4 t25 (C1.since hs1 rfl) (by kernel_rfl) (by simp [Value.cells, Value.oneCell']) (by simp [Value.cells]) rfl, Since.put hs (.inr (by simp))⟩
          · intro a wb wa hs1 hs hf hd
            have t30 : a.eval (.tmp 30) = _ := hd.at 5 30 (by kernel_rfl)
            exact plain_ rfl (late_eqv (o_assign rfl t30) rfl)
        case hG => exact ⟨stable_eqv _, stable_eqv _, stable_eqv _, stable_eqv _, stable_eqv _, stable_eqv _, stable_any, stable_eqv _, trivial⟩
        case hc => kernel_rfl
        case hfin =>
          intro w3 hs3
          rintro _ rfl _ rfl _ rfl _ rfl _ rfl _ rfl _ rfl
          rintro w5 ⟨o, w4, ho, hr, rfl⟩
          cases ho
          simp only [Act.put, List.setIfInBounds_toArray, List.set_cons_zero, List.set_cons_succ] at hr ⊢
          cases (hr.symm.trans (o_store (v := .agg #[.slice (some ⟨ba, oa, none⟩) m.W.length cw, .slice ag m.G.length cg, .bool (badAt m k)]) (new := #[.slice (some ⟨ba, oa, none⟩) m.W.length cw, .slice ag m.G.length cg, .bool (badAt m k)]) rfl rfl rfl (C1.since hs3 rfl) (by kernel_rfl) (by simp [Value.cells, Value.oneCell']) (by simp [Value.cells]) rfl))
          go_wp2
          have hE4 : Ext w (put w3 (w.heap.size + 1) (.cells #[.slice (some ⟨ba, oa, none⟩) m.W.length cw, .slice ag m.G.length cg, .bool (badAt m k)] 50 (0, 0))) := Since.to_ext ((Since.of_ext (hEW2.trans (Since.to_ext hs3))).put (.inl (by omega)))
          have hl : loadD m k = gi m.W k := by unfold loadD; rw [if_neg (by simp [outside]; omega)]; simp
          exact bodyPost_ret (ret_cell_tmp ((C1.since hs3 rfl).put) Proofs.Try.results65 rfl Proofs.Try.underlying50 rfl (by kernel_rfl)) rfl ⟨_, rfl, hE4, _, by first | rfl | (rw [hl]; rfl), ⟨_, _, rfl, hw.ext hE4, hg.ext hE4⟩⟩

end Go.Proofs.Ytcfbdfgondmkoaa
/- Arenas: rows cloned; a word is stored. -/
namespace Go.Proofs.Ytcfbdfgondmkoaa
open Go Go.RowKit
set_option linter.unusedSimpArgs false
set_option linter.unusedVariables false
set_option linter.unnecessarySimpa false

/-- the blocks below n -/
def Lo (n : Nat) : Nat → Prop := fun b => b < n
theorem Box.keep {M : Nat → Prop} {w w' : World} {b : Nat} {cs : Array Value} {t : TypeId} (h : Box w b cs t) (k : Keep M w w') (hn : ¬ M b) : Box w' b cs t := (k.2 b h.lt hn).trans h
set_option maxRecDepth 100000 in
theorem clone_ (N : Nat → Prop) (v : Value) (l : List Int) (w : World) (h : IsInts N w v l) (hl : 0 < l.length) (hm : l.length ≤ 100000) : Gives Proofs.Try.prog 127 #[v] w (fun r w' => ∃ b, w.heap.size ≤ b ∧ Own w' r l b) := by
  obtain ⟨a, cap, rfl, h1, h2, h3⟩ := h.opened
  obtain ⟨b, off, rfl, hb, hn, _⟩ := h3 0 hl
  go_enter Proofs.Try.func127, Proofs.Try.ntmps127
  go_wp2_with (at_builtin; refine wpList_append48 (.tmp 5) (.tmp 6) rfl rfl rfl rfl (h.ext exq) hl hm ?_; intro v1 w1 ho hb1)
  go_ret
  exact ⟨_, rfl, exq, _, by simp, ho⟩

/-- the closure that lays a word -/
theorem layer_ (p1 p2 : Addr) (vd : Value) (l : List Int) (b k : Nat) (v : Int) (w : World) (ho : Own w vd l b) (hk : k < l.length) (h1 : w.cell? p1 = some (.int .i64 v)) (h2 : w.cell? p2 = some (.int .i64 k)) :
    Calls Proofs.Try.prog 125 #[vd, .pointer (some p1), .pointer (some p2)] w fun e w' => e = .returned (.tuple #[]) ∧ w' = w.setCell ⟨b, k, none⟩ (.int .i64 v) := by
  obtain ⟨cap, rfl, c1, c2, c3, c4⟩ := ho
  obtain ⟨c5, c6⟩ := c4 k hk
  go_enter Proofs.Try.func125, Proofs.Try.ntmps125
  go_wp2
  go_end0
  exact ⟨rfl, rfl⟩

def storeD (m : Arena) (x v : Int) : Arena := { W := if outside m x then m.W else m.W.set x.toNat v, G := m.G, bad := badAt m x }

set_option maxHeartbeats 1000000 in
set_option maxRecDepth 100000 in
theorem touchStore_ (N : Nat → Prop) (va : Value) (m : Arena) (x v : Int) (b4 b5 : Nat) (w : World) (h : IsMem N w va m) (hf : Fits m) (hN : ∀ b, N b → b < w.heap.size) (hx0 : -9223372036854775808 ≤ x) (hx1 : x ≤ 9223372036854775807)
    (hp5 : w.cell? ⟨b5, 0, none⟩ = some (.int .i64 v)) (hp4 : w.cell? ⟨b4, 0, none⟩ = some (.int .i64 x)) :
    Gives Proofs.Try.prog 123 #[va, .int .i64 x, .func (.func 125) #[] #[.pointer (some ⟨b5, 0, none⟩), .pointer (some ⟨b4, 0, none⟩)]] w (fun r w' => IsMem N w' r (storeD m x v)) := by
  have kn := fun (w' : World) (e : Ext w w') => node_ N va m x w' (h.ext e) hx0 hx1
  obtain ⟨n0, n1⟩ := nodeD_lt hf x
  obtain ⟨k, hk⟩ : ∃ k : Nat, nodeD m.W.length x = k := ⟨(nodeD m.W.length x).toNat, by omega⟩
  rw [hk] at kn n1
  obtain ⟨aw, cw, ag, cg, rfl, hw, hg⟩ := h.opened
  obtain ⟨_, _, e0, rg, lg, cgc⟩ := hg.opened
  cases e0
  have hwl : m.W.length ≤ 928 := by have := hf.1; have := hf.2.2; omega
  have hwl' : m.W.length ≤ 100000 := by omega
  by_cases h1 : x < 0
  · have hout : outside m x = true := by simp [outside, h1]
    have hbad : badAt m x = true := by simp [badAt, outside, h1]
    go_enter Proofs.Try.func123, Proofs.Try.ntmps123
    go_wp2_with (fail)
    go_at_call 59; refine (kn _ exq).calls.mono ?_; rintro e w1 ⟨_, rfl, hb1, rfl⟩; obtain ⟨q1, f1⟩ := bcell hb1; have z1_0 : w.heap.size < w1.heap.size := (by have := hb1.size; first | omega | (simp at this; omega)); have z1_1 : w.heap.size + 1 < w1.heap.size := (by have := hb1.size; first | omega | (simp at this; omega))
    have B0 : Box w1 w.heap.size #[.slice aw m.W.length cw, .slice ag m.G.length cg, .bool m.bad] 50 := ((Box.new _ _ _).alloc _).ext hb1
    have B1 : Box w1 (w.heap.size + 1) #[.slice none 0 0, .slice none 0 0, .bool false] 50 := (Box.two _ _ _ _ _).ext hb1
    obtain ⟨c00, c01, c02, d00, d01, d02⟩ := cells3 B0
    obtain ⟨c10, c11, c12, d10, d11, d12⟩ := cells3 B1
    go_wp2
    have BF : Box ((((w1.setCell ⟨w.heap.size, 2, none⟩ (.bool true)).setCell ⟨w.heap.size + 1, 0, none⟩ (.slice aw m.W.length cw)).setCell ⟨w.heap.size + 1, 1, none⟩ (.slice ag m.G.length cg)).setCell ⟨w.heap.size + 1, 2, none⟩ (.bool true)) (w.heap.size + 1) #[.slice aw m.W.length cw, .slice ag m.G.length cg, .bool true] 50 := (((B1.setOther (by omega) _).setCell _).setCell _).setCell _
    have hst : storeD m x v = { m with bad := true } := by unfold storeD; rw [if_pos hout, hbad]
    exact bodyPost_ret (ret_cell BF Proofs.Try.results123 rfl Proofs.Try.underlying50 rfl (by kernel_rfl)) rfl ⟨_, rfl, exq, by rw [hst]; exact ⟨_, _, rfl, hw.ext exq, hg.ext exq⟩⟩
  · by_cases h2 : (m.W.length : Int) ≤ x
    · have hout : outside m x = true := by simp [outside, h2]
      have hbad : badAt m x = true := by simp [badAt, outside, h2]
      go_enter Proofs.Try.func123, Proofs.Try.ntmps123
      go_wp2_with (fail)
      go_at_call 59; refine (kn _ exq).calls.mono ?_; rintro e w1 ⟨_, rfl, hb1, rfl⟩; obtain ⟨q1, f1⟩ := bcell hb1; have z1_0 : w.heap.size < w1.heap.size := (by have := hb1.size; first | omega | (simp at this; omega)); have z1_1 : w.heap.size + 1 < w1.heap.size := (by have := hb1.size; first | omega | (simp at this; omega))
      have B0 : Box w1 w.heap.size #[.slice aw m.W.length cw, .slice ag m.G.length cg, .bool m.bad] 50 := ((Box.new _ _ _).alloc _).ext hb1
      have B1 : Box w1 (w.heap.size + 1) #[.slice none 0 0, .slice none 0 0, .bool false] 50 := (Box.two _ _ _ _ _).ext hb1
      obtain ⟨c00, c01, c02, d00, d01, d02⟩ := cells3 B0
      obtain ⟨c10, c11, c12, d10, d11, d12⟩ := cells3 B1
      go_wp2
      have BF : Box ((((w1.setCell ⟨w.heap.size, 2, none⟩ (.bool true)).setCell ⟨w.heap.size + 1, 0, none⟩ (.slice aw m.W.length cw)).setCell ⟨w.heap.size + 1, 1, none⟩ (.slice ag m.G.length cg)).setCell ⟨w.heap.size + 1, 2, none⟩ (.bool true)) (w.heap.size + 1) #[.slice aw m.W.length cw, .slice ag m.G.length cg, .bool true] 50 := (((B1.setOther (by omega) _).setCell _).setCell _).setCell _
      have hst : storeD m x v = { m with bad := true } := by unfold storeD; rw [if_pos hout, hbad]
      exact bodyPost_ret (ret_cell BF Proofs.Try.results123 rfl Proofs.Try.underlying50 rfl (by kernel_rfl)) rfl ⟨_, rfl, exq, by rw [hst]; exact ⟨_, _, rfl, hw.ext exq, hg.ext exq⟩⟩
    · obtain ⟨i, rfl⟩ : ∃ i : Nat, x = i := ⟨x.toNat, by omega⟩
      have hi : i < m.W.length := by omega
      have hout : outside m i = false := by simp [outside]; omega
      by_cases h3 : 0 < k
      · obtain ⟨bg, og, rfl, xg, ng, eg⟩ := cgc k (by omega)
        have h3' : (0 : Int) < (k : Int) := by omega
        by_cases h4 : gi m.G k = 0
        · have h4' : (gi m.G k == 0) = true := by simp [h4]
          have hbad : badAt m i = true := by simp [badAt, freeAt, hk, h3, h4]
          go_enter Proofs.Try.func123, Proofs.Try.ntmps123
          go_wp2_with (fail)
          go_at_call 59; refine (kn _ exq).calls.mono ?_; rintro e w1 ⟨_, rfl, hb1, rfl⟩; obtain ⟨q1, f1⟩ := bcell hb1; have z1_0 : w.heap.size < w1.heap.size := (by have := hb1.size; first | omega | (simp at this; omega)); have z1_1 : w.heap.size + 1 < w1.heap.size := (by have := hb1.size; first | omega | (simp at this; omega))
          have B0 : Box w1 w.heap.size #[.slice aw m.W.length cw, .slice (some ⟨bg, og, none⟩) m.G.length cg, .bool m.bad] 50 := ((Box.new _ _ _).alloc _).ext hb1
          have B1 : Box w1 (w.heap.size + 1) #[.slice none 0 0, .slice none 0 0, .bool false] 50 := (Box.two _ _ _ _ _).ext hb1
          obtain ⟨c00, c01, c02, d00, d01, d02⟩ := cells3 B0
          obtain ⟨c10, c11, c12, d10, d11, d12⟩ := cells3 B1
          have hs1' : w.heap.size ≤ w1.heap.size := by omega
          have hz0 : Lo w1.heap.size w.heap.size := z1_0
          have hz1 : Lo w1.heap.size (w.heap.size + 1) := z1_1
          have eg1 := cell_ext eg (exq : Ext w w1)
          go_wp2_with (fail)
          obtain ⟨w2, hrun, ho2, hk2, he2⟩ := run_copy_own (N := N) (w := (w1.setCell ⟨w.heap.size, 2, none⟩ (.bool true)).alloc (.cells (zeros m.W.length) 3)) (vd := .slice (some ⟨w1.heap.size, 0, none⟩) m.W.length m.W.length) (b := w1.heap.size) (ls := m.W) (ld := List.replicate m.W.length 0) (by have := Own.made (w1.setCell ⟨w.heap.size, 2, none⟩ (.bool true)) m.W.length (by omega); simpa [World.setCell] using this) (hw.ext exq) (by simp) (by omega)
          rw [hrun]
          have hE2 : Ext w w2 := he2 _ exq hs1'
          have kp := hk2 (fun b => b = w1.heap.size) rfl
          have C0 : Box w2 w.heap.size #[.slice aw m.W.length cw, .slice (some ⟨bg, og, none⟩) m.G.length cg, .bool true] 50 := ((B0.setCell (off := 2) (.bool true)).alloc _).keep kp (by omega)
          have C1 : Box w2 (w.heap.size + 1) #[.slice none 0 0, .slice none 0 0, .bool false] 50 := ((B1.setOther (by omega) (.bool true)).alloc _).keep kp (by omega)
          have p5 : w2.cell? ⟨b5, 0, none⟩ = some (.int .i64 v) := cell_ext hp5 hE2
          have p4 : w2.cell? ⟨b4, 0, none⟩ = some (.int .i64 i) := cell_ext hp4 hE2
          have z2_2 : w1.heap.size < w2.heap.size := by obtain ⟨_, _, _, _, h, _⟩ := ho2; exact h
          clear hk2 he2
          go_wp2_with (fail)
          go_at_call 125
          refine (layer_ _ _ _ _ _ _ _ _ ho2 hi p5 p4).mono ?_
          rintro e w3 ⟨rfl, rfl⟩
          have D0 := C0.setOther (b := w1.heap.size) (off := i) (by omega) (.int .i64 v)
          have D1 := C1.setOther (b := w1.heap.size) (off := i) (by omega) (.int .i64 v)
          have ho3 := ho2.set hi v
          have hE3 : Ext w (w2.setCell ⟨w1.heap.size, i, none⟩ (.int .i64 v)) := hE2.store _ _ (by show _ ≤ _; omega)
          obtain ⟨W3, hW3⟩ : ∃ W3, W3 = w2.setCell ⟨w1.heap.size, i, none⟩ (.int .i64 v) := ⟨_, rfl⟩
          have z3 : W3.heap.size = w2.heap.size := by rw [hW3]; simp [World.setCell]
          rw [← hW3] at D0 D1 ho3 hE3 ⊢
          clear hW3 p4 p5 C0 C1 ho2 hE2
          obtain ⟨c30, c31, c32, d30, d31, d32⟩ := cells3 D0
          obtain ⟨c40, c41, c42, d40, d41, d42⟩ := cells3 D1
          have z3_0 : w.heap.size < W3.heap.size := by omega
          have z3_1 : w.heap.size + 1 < W3.heap.size := by omega
          have hst : storeD m i v = { W := m.W.set i v, G := m.G, bad := true } := by unfold storeD; rw [if_neg (by rw [hout]; simp), hbad]; simp
          go_wp2
          have BF : Box ((((W3.setCell ⟨w.heap.size, 0, none⟩ (.slice (some ⟨w1.heap.size, 0, none⟩) m.W.length m.W.length)).setCell ⟨w.heap.size + 1, 0, none⟩ (.slice (some ⟨w1.heap.size, 0, none⟩) m.W.length m.W.length)).setCell ⟨w.heap.size + 1, 1, none⟩ (.slice (some ⟨bg, og, none⟩) m.G.length cg)).setCell ⟨w.heap.size + 1, 2, none⟩ (.bool true)) (w.heap.size + 1) #[.slice (some ⟨w1.heap.size, 0, none⟩) m.W.length m.W.length, .slice (some ⟨bg, og, none⟩) m.G.length cg, .bool true] 50 := (((D1.setOther (by omega) _).setCell _).setCell _).setCell _
          refine bodyPost_ret (ret_cell BF Proofs.Try.results123 rfl Proofs.Try.underlying50 rfl (by kernel_rfl)) rfl ⟨_, rfl, exq, ?_⟩
          rw [hst]
          refine ⟨_, _, rfl, Own.ints (ho3.keep (N := Lo w1.heap.size) ?_ (Nat.lt_irrefl _)) (fun hx => absurd (hN _ hx) (by omega)), hg.ext exq⟩
          exact (by with_reducible (repeat (first | assumption | exact Keep.refl _ _ | refine Keep.alloc ?_ _ | refine Keep.s ?_ (by first | assumption | exact Bx.mem (by omega) (by omega)) | refine Keep.n ?_ (by omega) | refine Keep.ext ?_ (by assumption) | refine Keep.drew ?_)))
        · have h4' : (gi m.G k == 0) = false := by simp [h4]
          have hbad : badAt m i = m.bad := by simp [badAt, hout, freeAt, hk, h3, h4]
          go_enter Proofs.Try.func123, Proofs.Try.ntmps123
          go_wp2_with (fail)
          go_at_call 59; refine (kn _ exq).calls.mono ?_; rintro e w1 ⟨_, rfl, hb1, rfl⟩; obtain ⟨q1, f1⟩ := bcell hb1; have z1_0 : w.heap.size < w1.heap.size := (by have := hb1.size; first | omega | (simp at this; omega)); have z1_1 : w.heap.size + 1 < w1.heap.size := (by have := hb1.size; first | omega | (simp at this; omega))
          have B0 : Box w1 w.heap.size #[.slice aw m.W.length cw, .slice (some ⟨bg, og, none⟩) m.G.length cg, .bool m.bad] 50 := ((Box.new _ _ _).alloc _).ext hb1
          have B1 : Box w1 (w.heap.size + 1) #[.slice none 0 0, .slice none 0 0, .bool false] 50 := (Box.two _ _ _ _ _).ext hb1
          obtain ⟨c00, c01, c02, d00, d01, d02⟩ := cells3 B0
          obtain ⟨c10, c11, c12, d10, d11, d12⟩ := cells3 B1
          have hs1' : w.heap.size ≤ w1.heap.size := by omega
          have hz0 : Lo w1.heap.size w.heap.size := z1_0
          have hz1 : Lo w1.heap.size (w.heap.size + 1) := z1_1
          have eg1 := cell_ext eg (exq : Ext w w1)
          go_wp2_with (fail)
          obtain ⟨w2, hrun, ho2, hk2, he2⟩ := run_copy_own (N := N) (w := w1.alloc (.cells (zeros m.W.length) 3)) (vd := .slice (some ⟨w1.heap.size, 0, none⟩) m.W.length m.W.length) (b := w1.heap.size) (ls := m.W) (ld := List.replicate m.W.length 0) (by have := Own.made w1 m.W.length (by omega); simpa [World.setCell] using this) (hw.ext exq) (by simp) (by omega)
          rw [hrun]
          have hE2 : Ext w w2 := he2 _ exq hs1'
          have kp := hk2 (fun b => b = w1.heap.size) rfl
          have C0 : Box w2 w.heap.size #[.slice aw m.W.length cw, .slice (some ⟨bg, og, none⟩) m.G.length cg, .bool m.bad] 50 := (B0.alloc _).keep kp (by omega)
          have C1 : Box w2 (w.heap.size + 1) #[.slice none 0 0, .slice none 0 0, .bool false] 50 := (B1.alloc _).keep kp (by omega)
          have p5 : w2.cell? ⟨b5, 0, none⟩ = some (.int .i64 v) := cell_ext hp5 hE2
          have p4 : w2.cell? ⟨b4, 0, none⟩ = some (.int .i64 i) := cell_ext hp4 hE2
          have z2_2 : w1.heap.size < w2.heap.size := by obtain ⟨_, _, _, _, h, _⟩ := ho2; exact h
          clear hk2 he2
          go_wp2_with (fail)
          go_at_call 125
          refine (layer_ _ _ _ _ _ _ _ _ ho2 hi p5 p4).mono ?_
          rintro e w3 ⟨rfl, rfl⟩
          have D0 := C0.setOther (b := w1.heap.size) (off := i) (by omega) (.int .i64 v)
          have D1 := C1.setOther (b := w1.heap.size) (off := i) (by omega) (.int .i64 v)
          have ho3 := ho2.set hi v
          have hE3 : Ext w (w2.setCell ⟨w1.heap.size, i, none⟩ (.int .i64 v)) := hE2.store _ _ (by show _ ≤ _; omega)
          obtain ⟨W3, hW3⟩ : ∃ W3, W3 = w2.setCell ⟨w1.heap.size, i, none⟩ (.int .i64 v) := ⟨_, rfl⟩
          have z3 : W3.heap.size = w2.heap.size := by rw [hW3]; simp [World.setCell]
          rw [← hW3] at D0 D1 ho3 hE3 ⊢
          clear hW3 p4 p5 C0 C1 ho2 hE2
          obtain ⟨c30, c31, c32, d30, d31, d32⟩ := cells3 D0
          obtain ⟨c40, c41, c42, d40, d41, d42⟩ := cells3 D1
          have z3_0 : w.heap.size < W3.heap.size := by omega
          have z3_1 : w.heap.size + 1 < W3.heap.size := by omega
          have hst : storeD m i v = { W := m.W.set i v, G := m.G, bad := m.bad } := by unfold storeD; rw [if_neg (by rw [hout]; simp), hbad]; simp
          go_wp2
          have BF : Box ((((W3.setCell ⟨w.heap.size, 0, none⟩ (.slice (some ⟨w1.heap.size, 0, none⟩) m.W.length m.W.length)).setCell ⟨w.heap.size + 1, 0, none⟩ (.slice (some ⟨w1.heap.size, 0, none⟩) m.W.length m.W.length)).setCell ⟨w.heap.size + 1, 1, none⟩ (.slice (some ⟨bg, og, none⟩) m.G.length cg)).setCell ⟨w.heap.size + 1, 2, none⟩ (.bool m.bad)) (w.heap.size + 1) #[.slice (some ⟨w1.heap.size, 0, none⟩) m.W.length m.W.length, .slice (some ⟨bg, og, none⟩) m.G.length cg, .bool m.bad] 50 := (((D1.setOther (by omega) _).setCell _).setCell _).setCell _
          refine bodyPost_ret (ret_cell BF Proofs.Try.results123 rfl Proofs.Try.underlying50 rfl (by kernel_rfl)) rfl ⟨_, rfl, exq, ?_⟩
          rw [hst]
          refine ⟨_, _, rfl, Own.ints (ho3.keep (N := Lo w1.heap.size) ?_ (Nat.lt_irrefl _)) (fun hx => absurd (hN _ hx) (by omega)), hg.ext exq⟩
          exact (by with_reducible (repeat (first | assumption | exact Keep.refl _ _ | refine Keep.alloc ?_ _ | refine Keep.s ?_ (by first | assumption | exact Bx.mem (by omega) (by omega)) | refine Keep.n ?_ (by omega) | refine Keep.ext ?_ (by assumption) | refine Keep.drew ?_)))
      · obtain rfl : k = 0 := by omega
        have hbad : badAt m i = m.bad := by simp [badAt, hout, freeAt, hk]
        go_enter Proofs.Try.func123, Proofs.Try.ntmps123
        go_wp2_with (fail)
        go_at_call 59; refine (kn _ exq).calls.mono ?_; rintro e w1 ⟨_, rfl, hb1, rfl⟩; obtain ⟨q1, f1⟩ := bcell hb1; have z1_0 : w.heap.size < w1.heap.size := (by have := hb1.size; first | omega | (simp at this; omega)); have z1_1 : w.heap.size + 1 < w1.heap.size := (by have := hb1.size; first | omega | (simp at this; omega))
        have B0 : Box w1 w.heap.size #[.slice aw m.W.length cw, .slice ag m.G.length cg, .bool m.bad] 50 := ((Box.new _ _ _).alloc _).ext hb1
        have B1 : Box w1 (w.heap.size + 1) #[.slice none 0 0, .slice none 0 0, .bool false] 50 := (Box.two _ _ _ _ _).ext hb1
        obtain ⟨c00, c01, c02, d00, d01, d02⟩ := cells3 B0
        obtain ⟨c10, c11, c12, d10, d11, d12⟩ := cells3 B1
        have hs1' : w.heap.size ≤ w1.heap.size := by omega
        have hz0 : Lo w1.heap.size w.heap.size := z1_0
        have hz1 : Lo w1.heap.size (w.heap.size + 1) := z1_1
        go_wp2_with (fail)
        obtain ⟨w2, hrun, ho2, hk2, he2⟩ := run_copy_own (N := N) (w := w1.alloc (.cells (zeros m.W.length) 3)) (vd := .slice (some ⟨w1.heap.size, 0, none⟩) m.W.length m.W.length) (b := w1.heap.size) (ls := m.W) (ld := List.replicate m.W.length 0) (by have := Own.made w1 m.W.length (by omega); simpa [World.setCell] using this) (hw.ext exq) (by simp) (by omega)
        rw [hrun]
        have hE2 : Ext w w2 := he2 _ exq hs1'
        have kp := hk2 (fun b => b = w1.heap.size) rfl
        have C0 : Box w2 w.heap.size #[.slice aw m.W.length cw, .slice ag m.G.length cg, .bool m.bad] 50 := (B0.alloc _).keep kp (by omega)
        have C1 : Box w2 (w.heap.size + 1) #[.slice none 0 0, .slice none 0 0, .bool false] 50 := (B1.alloc _).keep kp (by omega)
        have p5 : w2.cell? ⟨b5, 0, none⟩ = some (.int .i64 v) := cell_ext hp5 hE2
        have p4 : w2.cell? ⟨b4, 0, none⟩ = some (.int .i64 i) := cell_ext hp4 hE2
        have z2_2 : w1.heap.size < w2.heap.size := by obtain ⟨_, _, _, _, h, _⟩ := ho2; exact h
        clear hk2 he2
        go_wp2_with (fail)
        go_at_call 125
        refine (layer_ _ _ _ _ _ _ _ _ ho2 hi p5 p4).mono ?_
        rintro e w3 ⟨rfl, rfl⟩
        have D0 := C0.setOther (b := w1.heap.size) (off := i) (by omega) (.int .i64 v)
        have D1 := C1.setOther (b := w1.heap.size) (off := i) (by omega) (.int .i64 v)
        have ho3 := ho2.set hi v
        have hE3 : Ext w (w2.setCell ⟨w1.heap.size, i, none⟩ (.int .i64 v)) := hE2.store _ _ (by show _ ≤ _; omega)
        obtain ⟨W3, hW3⟩ : ∃ W3, W3 = w2.setCell ⟨w1.heap.size, i, none⟩ (.int .i64 v) := ⟨_, rfl⟩
        have z3 : W3.heap.size = w2.heap.size := by rw [hW3]; simp [World.setCell]
        rw [← hW3] at D0 D1 ho3 hE3 ⊢
        clear hW3 p4 p5 C0 C1 ho2 hE2
        obtain ⟨c30, c31, c32, d30, d31, d32⟩ := cells3 D0
        obtain ⟨c40, c41, c42, d40, d41, d42⟩ := cells3 D1
        have z3_0 : w.heap.size < W3.heap.size := by omega
        have z3_1 : w.heap.size + 1 < W3.heap.size := by omega
        have hst : storeD m i v = { W := m.W.set i v, G := m.G, bad := m.bad } := by unfold storeD; rw [if_neg (by rw [hout]; simp), hbad]; simp
        go_wp2
        have BF : Box ((((W3.setCell ⟨w.heap.size, 0, none⟩ (.slice (some ⟨w1.heap.size, 0, none⟩) m.W.length m.W.length)).setCell ⟨w.heap.size + 1, 0, none⟩ (.slice (some ⟨w1.heap.size, 0, none⟩) m.W.length m.W.length)).setCell ⟨w.heap.size + 1, 1, none⟩ (.slice ag m.G.length cg)).setCell ⟨w.heap.size + 1, 2, none⟩ (.bool m.bad)) (w.heap.size + 1) #[.slice (some ⟨w1.heap.size, 0, none⟩) m.W.length m.W.length, .slice ag m.G.length cg, .bool m.bad] 50 := (((D1.setOther (by omega) _).setCell _).setCell _).setCell _
        refine bodyPost_ret (ret_cell BF Proofs.Try.results123 rfl Proofs.Try.underlying50 rfl (by kernel_rfl)) rfl ⟨_, rfl, exq, ?_⟩
        rw [hst]
        refine ⟨_, _, rfl, Own.ints (ho3.keep (N := Lo w1.heap.size) ?_ (Nat.lt_irrefl _)) (fun hx => absurd (hN _ hx) (by omega)), hg.ext exq⟩
        exact (by with_reducible (repeat (first | assumption | exact Keep.refl _ _ | refine Keep.alloc ?_ _ | refine Keep.s ?_ (by first | assumption | exact Bx.mem (by omega) (by omega)) | refine Keep.n ?_ (by omega) | refine Keep.ext ?_ (by assumption) | refine Keep.drew ?_)))
end Go.Proofs.Ytcfbdfgondmkoaa
/- Arenas: a word is stored; a word is swapped. -/
namespace Go.Proofs.Ytcfbdfgondmkoaa
open Go Go.RowKit
set_option linter.unusedSimpArgs false
set_option linter.unusedVariables false
set_option linter.unnecessarySimpa false

/-- four boxes for an arena's call -/
theorem Box.three' (w : World) (cs cs' cs'' : Array Value) (t t' t'' : TypeId) : Box (((w.alloc (.cells cs t (0, 0))).alloc (.cells cs' t' (0, 0))).alloc (.cells cs'' t'' (0, 0))) (w.heap.size + 1 + 1) cs'' t'' := Box.three _ _ _ _ _ _ _
theorem Box.four' (w : World) (cs cs' cs'' c4 : Array Value) (t t' t'' t4 : TypeId) : Box ((((w.alloc (.cells cs t (0, 0))).alloc (.cells cs' t' (0, 0))).alloc (.cells cs'' t'' (0, 0))).alloc (.cells c4 t4 (0, 0))) (w.heap.size + 1 + 1 + 1) c4 t4 := Box.four _ _ _ _ _ _ _ _ _
set_option maxRecDepth 100000 in
theorem memStore_ (N : Nat → Prop) (va : Value) (m : Arena) (x v : Int) (w : World) (h : IsMem N w va m) (hf : Fits m) (hN : ∀ b, N b → b < w.heap.size) (hx0 : -9223372036854775808 ≤ x) (hx1 : x ≤ 9223372036854775807) :
    Gives Proofs.Try.prog 68 #[va, .int .i64 x, .int .i64 v] w (fun r w' => IsMem N w' r (storeD m x v)) := by
  have kt := fun (w' : World) (e : Ext w w') (b4 b5 : Nat) => touchStore_ _ va m x v b4 b5 w' (h.at e) hf (Bx.lt hN e) hx0 hx1
  obtain ⟨aw, cw, ag, cg, rfl, hw, hg⟩ := h.opened
  go_enter Proofs.Try.func68, Proofs.Try.ntmps68
  go_wp2_with (fail)
  go_at_call 123
  refine (kt _ (by with_reducible (repeat (first | assumption | exact Ext.refl _ | refine Ext.alloc' ?_ _ | refine Ext.store0 ?_ _ _ | refine Ext.storek ?_ _ _ _ | refine Ext.stores0 ?_ ?_ _ _ | refine Ext.storesk ?_ ?_ _ _ _ | refine Ext.store ?_ _ _ (by first | omega | (dsimp only; omega)) | refine Ext.drewN' ?_ _ | refine Ext.drew' ?_ | refine Ext.trans ?_ (by assumption)))) _ _ ((Box.three' _ _ _ _ _ _ _).alloc _ |>.cell rfl) (((Box.two _ _ _ _ _).alloc _).alloc _ |>.cell rfl)).calls.mono ?_
  rintro e w1 ⟨u, rfl, hb1, hu⟩
  have B6 : Box w1 (w.heap.size + 1 + 1 + 1) #[.slice none 0 0, .slice none 0 0, .bool false] 50 := (Box.four' _ _ _ _ _ _ _ _ _).ext hb1
  have hs1 : w.heap.size + 4 ≤ w1.heap.size := by have := hb1.size; simp at this; omega
  have hz : w.heap.size + 1 + 1 + 1 < w1.heap.size := by omega
  have hsz : ((((w.alloc (Obj.cells #[.slice aw m.W.length cw, .slice ag m.G.length cg, .bool m.bad] 50)).alloc (Obj.cells #[.int .i64 x] 3)).alloc (Obj.cells #[.int .i64 v] 3)).alloc (Obj.cells #[.slice none 0 0, .slice none 0 0, .bool false] 50)).heap.size = w.heap.size + 4 := by simp
  rw [hsz] at hu
  have hz' : Bx N w.heap.size (w.heap.size + 4) (w.heap.size + 1 + 1 + 1) := Bx.mem (by omega) (by omega)
  obtain ⟨xw, yw, xg, yg, rfl, hxw, hxg⟩ := hu.opened
  obtain ⟨c60, c61, c62, d60, d61, d62⟩ := cells3 B6
  go_wp2
  exact bodyPost_ret (ret_cell (((B6.setCell _).setCell _).setCell _) Proofs.Try.results68 rfl Proofs.Try.underlying50 rfl (by kernel_rfl)) rfl ⟨_, rfl, (by with_reducible (repeat (first | assumption | exact Ext.refl _ | refine Ext.alloc' ?_ _ | refine Ext.store0 ?_ _ _ | refine Ext.storek ?_ _ _ _ | refine Ext.stores0 ?_ ?_ _ _ | refine Ext.storesk ?_ ?_ _ _ _ | refine Ext.store ?_ _ _ (by first | omega | (dsimp only; omega)) | refine Ext.drewN' ?_ _ | refine Ext.drew' ?_ | refine Ext.trans ?_ (by assumption)))), IsMem.back ⟨_, _, rfl, hxw.keep (by with_reducible (repeat (first | assumption | exact Keep.refl _ _ | refine Keep.alloc ?_ _ | refine Keep.s ?_ (by first | assumption | exact Bx.mem (by omega) (by omega)) | refine Keep.n ?_ (by omega) | refine Keep.ext ?_ (by assumption) | refine Keep.drew ?_))), hxg.keep (by with_reducible (repeat (first | assumption | exact Keep.refl _ _ | refine Keep.alloc ?_ _ | refine Keep.s ?_ (by first | assumption | exact Bx.mem (by omega) (by omega)) | refine Keep.n ?_ (by omega) | refine Keep.ext ?_ (by assumption) | refine Keep.drew ?_)))⟩⟩
end Go.Proofs.Ytcfbdfgondmkoaa
/- Arenas: a word is swapped. -/
namespace Go.Proofs.Ytcfbdfgondmkoaa
open Go Go.RowKit
set_option linter.unusedSimpArgs false
set_option linter.unusedVariables false
set_option linter.unnecessarySimpa false

def casIs (m : Arena) (x old : Int) : Bool := !outside m x && (gi m.W x.toNat == old)
def casD (m : Arena) (x old new : Int) : Arena := if casIs m x old then storeD m x new else touchD m x
set_option maxRecDepth 100000 in
theorem memCas_ (N : Nat → Prop) (va : Value) (m : Arena) (x old new : Int) (w : World) (h : IsMem N w va m) (hf : Fits m) (hN : ∀ b, N b → b < w.heap.size) (hx0 : -9223372036854775808 ≤ x) (hx1 : x ≤ 9223372036854775807) :
    Gives Proofs.Try.prog 66 #[va, .int .i64 x, .int .i64 old, .int .i64 new] w (fun r w' => ∃ u, r = .tuple #[u, .bool (casIs m x old)] ∧ IsMem N w' u (casD m x old new)) := by
  have kt := fun (w' : World) (e : Ext w w') => touch_ _ va m x w' (h.at e) hf (Bx.lt hN e) hx0 hx1
  have ks := fun (w' : World) (e : Ext w w') => memStore_ _ va m x new w' (h.at e) hf (Bx.lt hN e) hx0 hx1
  obtain ⟨aw, cw, ag, cg, rfl, hw, hg⟩ := h.opened
  obtain ⟨_, _, e0, rw_, lw, cwc⟩ := hw.opened
  cases e0
  by_cases h1 : x < 0
  · have hz : True := trivial
    have hc : casIs m x old = false := by simp [casIs, outside, h1]
    have hd : casD m x old new = touchD m x := by unfold casD; rw [hc]; rfl
    rw [hd]
    go_enter Proofs.Try.func66, Proofs.Try.ntmps66
    go_wp2_with (fail)
    go_at_call 123
    refine (kt _ (by with_reducible (repeat (first | assumption | exact Ext.refl _ | refine Ext.alloc' ?_ _ | refine Ext.store0 ?_ _ _ | refine Ext.storek ?_ _ _ _ | refine Ext.stores0 ?_ ?_ _ _ | refine Ext.storesk ?_ ?_ _ _ _ | refine Ext.store ?_ _ _ (by first | omega | (dsimp only; omega)) | refine Ext.drewN' ?_ _ | refine Ext.drew' ?_ | refine Ext.trans ?_ (by assumption))))).calls.mono ?_
    rintro e w1 ⟨u, rfl, hb1, hu⟩
    have hs1 : w.heap.size + 2 ≤ w1.heap.size := by have := hb1.size; simp at this; omega
    have hsz : ((w.alloc (Obj.cells #[.slice aw m.W.length cw, .slice ag m.G.length cg, .bool m.bad] 50)).alloc (Obj.cells #[.slice none 0 0, .slice none 0 0, .bool false] 50)).heap.size = w.heap.size + 2 := by simp
    rw [hsz] at hu
    have hz' : Bx N w.heap.size (w.heap.size + 2) (w.heap.size + 1) := Bx.mem (by omega) (by omega)
    obtain ⟨xw, yw, xg, yg, rfl, hxw, hxg⟩ := hu.opened
    have B1 : Box w1 (w.heap.size + 1) #[.slice none 0 0, .slice none 0 0, .bool false] 50 := (Box.two _ _ _ _ _).ext hb1
    obtain ⟨c10, c11, c12, d10, d11, d12⟩ := cells3 B1
    go_wp2
    refine bodyPost_ret (ret_cell_tmp (((B1.setCell _).setCell _).setCell _) Proofs.Try.results66 rfl Proofs.Try.underlying50 rfl (by kernel_rfl)) rfl ⟨_, rfl, (by with_reducible (repeat (first | assumption | exact Ext.refl _ | refine Ext.alloc' ?_ _ | refine Ext.store0 ?_ _ _ | refine Ext.storek ?_ _ _ _ | refine Ext.stores0 ?_ ?_ _ _ | refine Ext.storesk ?_ ?_ _ _ _ | refine Ext.store ?_ _ _ (by first | omega | (dsimp only; omega)) | refine Ext.drewN' ?_ _ | refine Ext.drew' ?_ | refine Ext.trans ?_ (by assumption)))), _, ?_, IsMem.back ⟨_, _, rfl, hxw.keep (by with_reducible (repeat (first | assumption | exact Keep.refl _ _ | refine Keep.alloc ?_ _ | refine Keep.s ?_ (by first | assumption | exact Bx.mem (by omega) (by omega)) | refine Keep.n ?_ (by omega) | refine Keep.ext ?_ (by assumption) | refine Keep.drew ?_))), hxg.keep (by with_reducible (repeat (first | assumption | exact Keep.refl _ _ | refine Keep.alloc ?_ _ | refine Keep.s ?_ (by first | assumption | exact Bx.mem (by omega) (by omega)) | refine Keep.n ?_ (by omega) | refine Keep.ext ?_ (by assumption) | refine Keep.drew ?_)))⟩⟩
    rw [hc]; rfl
  · by_cases h2 : (m.W.length : Int) ≤ x
    · have hz : True := trivial
      have hc : casIs m x old = false := by simp [casIs, outside, h2]
      have hd : casD m x old new = touchD m x := by unfold casD; rw [hc]; rfl
      rw [hd]
      go_enter Proofs.Try.func66, Proofs.Try.ntmps66
      go_wp2_with (fail)
      go_at_call 123
      refine (kt _ (by with_reducible (repeat (first | assumption | exact Ext.refl _ | refine Ext.alloc' ?_ _ | refine Ext.store0 ?_ _ _ | refine Ext.storek ?_ _ _ _ | refine Ext.stores0 ?_ ?_ _ _ | refine Ext.storesk ?_ ?_ _ _ _ | refine Ext.store ?_ _ _ (by first | omega | (dsimp only; omega)) | refine Ext.drewN' ?_ _ | refine Ext.drew' ?_ | refine Ext.trans ?_ (by assumption))))).calls.mono ?_
      rintro e w1 ⟨u, rfl, hb1, hu⟩
      have hs1 : w.heap.size + 2 ≤ w1.heap.size := by have := hb1.size; simp at this; omega
      have hsz : ((w.alloc (Obj.cells #[.slice aw m.W.length cw, .slice ag m.G.length cg, .bool m.bad] 50)).alloc (Obj.cells #[.slice none 0 0, .slice none 0 0, .bool false] 50)).heap.size = w.heap.size + 2 := by simp
      rw [hsz] at hu
      have hz' : Bx N w.heap.size (w.heap.size + 2) (w.heap.size + 1) := Bx.mem (by omega) (by omega)
      obtain ⟨xw, yw, xg, yg, rfl, hxw, hxg⟩ := hu.opened
      have B1 : Box w1 (w.heap.size + 1) #[.slice none 0 0, .slice none 0 0, .bool false] 50 := (Box.two _ _ _ _ _).ext hb1
      obtain ⟨c10, c11, c12, d10, d11, d12⟩ := cells3 B1
      go_wp2
      refine bodyPost_ret (ret_cell_tmp (((B1.setCell _).setCell _).setCell _) Proofs.Try.results66 rfl Proofs.Try.underlying50 rfl (by kernel_rfl)) rfl ⟨_, rfl, (by with_reducible (repeat (first | assumption | exact Ext.refl _ | refine Ext.alloc' ?_ _ | refine Ext.store0 ?_ _ _ | refine Ext.storek ?_ _ _ _ | refine Ext.stores0 ?_ ?_ _ _ | refine Ext.storesk ?_ ?_ _ _ _ | refine Ext.store ?_ _ _ (by first | omega | (dsimp only; omega)) | refine Ext.drewN' ?_ _ | refine Ext.drew' ?_ | refine Ext.trans ?_ (by assumption)))), _, ?_, IsMem.back ⟨_, _, rfl, hxw.keep (by with_reducible (repeat (first | assumption | exact Keep.refl _ _ | refine Keep.alloc ?_ _ | refine Keep.s ?_ (by first | assumption | exact Bx.mem (by omega) (by omega)) | refine Keep.n ?_ (by omega) | refine Keep.ext ?_ (by assumption) | refine Keep.drew ?_))), hxg.keep (by with_reducible (repeat (first | assumption | exact Keep.refl _ _ | refine Keep.alloc ?_ _ | refine Keep.s ?_ (by first | assumption | exact Bx.mem (by omega) (by omega)) | refine Keep.n ?_ (by omega) | refine Keep.ext ?_ (by assumption) | refine Keep.drew ?_)))⟩⟩
      rw [hc]; rfl
    · obtain ⟨i, rfl⟩ : ∃ i : Nat, x = i := ⟨x.toNat, by omega⟩
      have hi : i < m.W.length := by omega
      have hout : outside m i = false := by simp [outside]; omega
      obtain ⟨ba, oa, rfl, xa, na, ea⟩ := cwc i hi
      by_cases h3 : gi m.W i = old
      · have h3' : (gi m.W i == old) = true := by simp [h3]
        have hc : casIs m i old = true := by simp [casIs, hout, h3]
        have hd : casD m i old new = storeD m i new := by unfold casD; rw [hc]; rfl
        rw [hd]
        go_enter Proofs.Try.func66, Proofs.Try.ntmps66
        go_wp2_with (fail)
        go_at_call 68
        refine (ks _ (by with_reducible (repeat (first | assumption | exact Ext.refl _ | refine Ext.alloc' ?_ _ | refine Ext.store0 ?_ _ _ | refine Ext.storek ?_ _ _ _ | refine Ext.stores0 ?_ ?_ _ _ | refine Ext.storesk ?_ ?_ _ _ _ | refine Ext.store ?_ _ _ (by first | omega | (dsimp only; omega)) | refine Ext.drewN' ?_ _ | refine Ext.drew' ?_ | refine Ext.trans ?_ (by assumption))))).calls.mono ?_
        rintro e w1 ⟨u, rfl, hb1, hu⟩
        have hs1 : w.heap.size + 2 ≤ w1.heap.size := by have := hb1.size; simp at this; omega
        have hsz : ((w.alloc (Obj.cells #[.slice (some ⟨ba, oa, none⟩) m.W.length cw, .slice ag m.G.length cg, .bool m.bad] 50)).alloc (Obj.cells #[.slice none 0 0, .slice none 0 0, .bool false] 50)).heap.size = w.heap.size + 2 := by simp
        rw [hsz] at hu
        have hz' : Bx N w.heap.size (w.heap.size + 2) (w.heap.size + 1) := Bx.mem (by omega) (by omega)
        obtain ⟨xw, yw, xg, yg, rfl, hxw, hxg⟩ := hu.opened
        have B1 : Box w1 (w.heap.size + 1) #[.slice none 0 0, .slice none 0 0, .bool false] 50 := (Box.two _ _ _ _ _).ext hb1
        obtain ⟨c10, c11, c12, d10, d11, d12⟩ := cells3 B1
        go_wp2
        refine bodyPost_ret (ret_cell_tmp (((B1.setCell _).setCell _).setCell _) Proofs.Try.results66 rfl Proofs.Try.underlying50 rfl (by kernel_rfl)) rfl ⟨_, rfl, (by with_reducible (repeat (first | assumption | exact Ext.refl _ | refine Ext.alloc' ?_ _ | refine Ext.store0 ?_ _ _ | refine Ext.storek ?_ _ _ _ | refine Ext.stores0 ?_ ?_ _ _ | refine Ext.storesk ?_ ?_ _ _ _ | refine Ext.store ?_ _ _ (by first | omega | (dsimp only; omega)) | refine Ext.drewN' ?_ _ | refine Ext.drew' ?_ | refine Ext.trans ?_ (by assumption)))), _, ?_, IsMem.back ⟨_, _, rfl, hxw.keep (by with_reducible (repeat (first | assumption | exact Keep.refl _ _ | refine Keep.alloc ?_ _ | refine Keep.s ?_ (by first | assumption | exact Bx.mem (by omega) (by omega)) | refine Keep.n ?_ (by omega) | refine Keep.ext ?_ (by assumption) | refine Keep.drew ?_))), hxg.keep (by with_reducible (repeat (first | assumption | exact Keep.refl _ _ | refine Keep.alloc ?_ _ | refine Keep.s ?_ (by first | assumption | exact Bx.mem (by omega) (by omega)) | refine Keep.n ?_ (by omega) | refine Keep.ext ?_ (by assumption) | refine Keep.drew ?_)))⟩⟩
        rw [hc]; rfl
      · have h3' : (gi m.W i == old) = false := by simp [h3]
        have hc : casIs m i old = false := by simp [casIs, hout, h3]
        have hd : casD m i old new = touchD m i := by unfold casD; rw [hc]; rfl
        rw [hd]
        go_enter Proofs.Try.func66, Proofs.Try.ntmps66
        go_wp2_with (fail)
        go_at_call 123
        refine (kt _ (by with_reducible (repeat (first | assumption | exact Ext.refl _ | refine Ext.alloc' ?_ _ | refine Ext.store0 ?_ _ _ | refine Ext.storek ?_ _ _ _ | refine Ext.stores0 ?_ ?_ _ _ | refine Ext.storesk ?_ ?_ _ _ _ | refine Ext.store ?_ _ _ (by first | omega | (dsimp only; omega)) | refine Ext.drewN' ?_ _ | refine Ext.drew' ?_ | refine Ext.trans ?_ (by assumption))))).calls.mono ?_
        rintro e w1 ⟨u, rfl, hb1, hu⟩
        have hs1 : w.heap.size + 2 ≤ w1.heap.size := by have := hb1.size; simp at this; omega
        have hsz : ((w.alloc (Obj.cells #[.slice (some ⟨ba, oa, none⟩) m.W.length cw, .slice ag m.G.length cg, .bool m.bad] 50)).alloc (Obj.cells #[.slice none 0 0, .slice none 0 0, .bool false] 50)).heap.size = w.heap.size + 2 := by simp
        rw [hsz] at hu
        have hz' : Bx N w.heap.size (w.heap.size + 2) (w.heap.size + 1) := Bx.mem (by omega) (by omega)
        obtain ⟨xw, yw, xg, yg, rfl, hxw, hxg⟩ := hu.opened
        have B1 : Box w1 (w.heap.size + 1) #[.slice none 0 0, .slice none 0 0, .bool false] 50 := (Box.two _ _ _ _ _).ext hb1
        obtain ⟨c10, c11, c12, d10, d11, d12⟩ := cells3 B1
        go_wp2
        refine bodyPost_ret (ret_cell_tmp (((B1.setCell _).setCell _).setCell _) Proofs.Try.results66 rfl Proofs.Try.underlying50 rfl (by kernel_rfl)) rfl ⟨_, rfl, (by with_reducible (repeat (first | assumption | exact Ext.refl _ | refine Ext.alloc' ?_ _ | refine Ext.store0 ?_ _ _ | refine Ext.storek ?_ _ _ _ | refine Ext.stores0 ?_ ?_ _ _ | refine Ext.storesk ?_ ?_ _ _ _ | refine Ext.store ?_ _ _ (by first | omega | (dsimp only; omega)) | refine Ext.drewN' ?_ _ | refine Ext.drew' ?_ | refine Ext.trans ?_ (by assumption)))), _, ?_, IsMem.back ⟨_, _, rfl, hxw.keep (by with_reducible (repeat (first | assumption | exact Keep.refl _ _ | refine Keep.alloc ?_ _ | refine Keep.s ?_ (by first | assumption | exact Bx.mem (by omega) (by omega)) | refine Keep.n ?_ (by omega) | refine Keep.ext ?_ (by assumption) | refine Keep.drew ?_))), hxg.keep (by with_reducible (repeat (first | assumption | exact Keep.refl _ _ | refine Keep.alloc ?_ _ | refine Keep.s ?_ (by first | assumption | exact Bx.mem (by omega) (by omega)) | refine Keep.n ?_ (by omega) | refine Keep.ext ?_ (by assumption) | refine Keep.drew ?_)))⟩⟩
        rw [hc]; rfl
end Go.Proofs.Ytcfbdfgondmkoaa
/- Arenas: a node is turned. -/
namespace Go.Proofs.Ytcfbdfgondmkoaa
open Go Go.RowKit
set_option linter.unusedSimpArgs false
set_option linter.unusedVariables false
set_option linter.unnecessarySimpa false

def turnIs (m : Arena) (x to : Int) : Bool := decide (1 ≤ x ∧ x < m.G.length) && turnD (gi m.G x.toNat) to
def turnMD (m : Arena) (x to : Int) : Arena := if turnIs m x to then { W := m.W, G := m.G.set x.toNat to, bad := m.bad } else { m with bad := true }
set_option maxHeartbeats 400000 in
set_option maxRecDepth 100000 in
theorem memTurn_ (N : Nat → Prop) (va : Value) (m : Arena) (x to : Int) (w : World) (h : IsMem N w va m) (hf : Fits m) (hN : ∀ b, N b → b < w.heap.size) :
    Gives Proofs.Try.prog 70 #[va, .int .i64 x, .int .i64 to] w (fun r w' => IsMem N w' r (turnMD m x to)) := by
  obtain ⟨aw, cw, ag, cg, rfl, hw, hg⟩ := h.opened
  obtain ⟨_, _, e0, rg, lg, cgc⟩ := hg.opened
  cases e0
  by_cases h1 : x < 1
  · have hc : turnIs m x to = false := by simp [turnIs]; omega
    have hd : turnMD m x to = { m with bad := true } := by unfold turnMD; rw [hc]; rfl
    rw [hd]
    go_enter Proofs.Try.func70, Proofs.Try.ntmps70
    go_wp2
    exact bodyPost_ret (ret_cell (Box.two _ _ _ _ _) Proofs.Try.results70 rfl Proofs.Try.underlying50 rfl (by kernel_rfl)) rfl ⟨_, rfl, (by with_reducible (repeat (first | assumption | exact Ext.refl _ | refine Ext.alloc' ?_ _ | refine Ext.store0 ?_ _ _ | refine Ext.storek ?_ _ _ _ | refine Ext.stores0 ?_ ?_ _ _ | refine Ext.storesk ?_ ?_ _ _ _ | refine Ext.store ?_ _ _ (by first | omega | (dsimp only; omega)) | refine Ext.drewN' ?_ _ | refine Ext.drew' ?_ | refine Ext.trans ?_ (by assumption)))), ⟨_, _, rfl, hw.ext (by with_reducible (repeat (first | assumption | exact Ext.refl _ | refine Ext.alloc' ?_ _ | refine Ext.store0 ?_ _ _ | refine Ext.storek ?_ _ _ _ | refine Ext.stores0 ?_ ?_ _ _ | refine Ext.storesk ?_ ?_ _ _ _ | refine Ext.store ?_ _ _ (by first | omega | (dsimp only; omega)) | refine Ext.drewN' ?_ _ | refine Ext.drew' ?_ | refine Ext.trans ?_ (by assumption)))), hg.ext (by with_reducible (repeat (first | assumption | exact Ext.refl _ | refine Ext.alloc' ?_ _ | refine Ext.store0 ?_ _ _ | refine Ext.storek ?_ _ _ _ | refine Ext.stores0 ?_ ?_ _ _ | refine Ext.storesk ?_ ?_ _ _ _ | refine Ext.store ?_ _ _ (by first | omega | (dsimp only; omega)) | refine Ext.drewN' ?_ _ | refine Ext.drew' ?_ | refine Ext.trans ?_ (by assumption))))⟩⟩
  · by_cases h2 : (m.G.length : Int) ≤ x
    · have hc : turnIs m x to = false := by simp [turnIs]; omega
      have hd : turnMD m x to = { m with bad := true } := by unfold turnMD; rw [hc]; rfl
      rw [hd]
      go_enter Proofs.Try.func70, Proofs.Try.ntmps70
      go_wp2
      exact bodyPost_ret (ret_cell (Box.two _ _ _ _ _) Proofs.Try.results70 rfl Proofs.Try.underlying50 rfl (by kernel_rfl)) rfl ⟨_, rfl, (by with_reducible (repeat (first | assumption | exact Ext.refl _ | refine Ext.alloc' ?_ _ | refine Ext.store0 ?_ _ _ | refine Ext.storek ?_ _ _ _ | refine Ext.stores0 ?_ ?_ _ _ | refine Ext.storesk ?_ ?_ _ _ _ | refine Ext.store ?_ _ _ (by first | omega | (dsimp only; omega)) | refine Ext.drewN' ?_ _ | refine Ext.drew' ?_ | refine Ext.trans ?_ (by assumption)))), ⟨_, _, rfl, hw.ext (by with_reducible (repeat (first | assumption | exact Ext.refl _ | refine Ext.alloc' ?_ _ | refine Ext.store0 ?_ _ _ | refine Ext.storek ?_ _ _ _ | refine Ext.stores0 ?_ ?_ _ _ | refine Ext.storesk ?_ ?_ _ _ _ | refine Ext.store ?_ _ _ (by first | omega | (dsimp only; omega)) | refine Ext.drewN' ?_ _ | refine Ext.drew' ?_ | refine Ext.trans ?_ (by assumption)))), hg.ext (by with_reducible (repeat (first | assumption | exact Ext.refl _ | refine Ext.alloc' ?_ _ | refine Ext.store0 ?_ _ _ | refine Ext.storek ?_ _ _ _ | refine Ext.stores0 ?_ ?_ _ _ | refine Ext.storesk ?_ ?_ _ _ _ | refine Ext.store ?_ _ _ (by first | omega | (dsimp only; omega)) | refine Ext.drewN' ?_ _ | refine Ext.drew' ?_ | refine Ext.trans ?_ (by assumption))))⟩⟩
    · obtain ⟨i, rfl⟩ : ∃ i : Nat, x = i := ⟨x.toNat, by omega⟩
      have hi : i < m.G.length := by omega
      have hgl : m.G.length ≤ 100000 := by have := hf.2.2; omega
      obtain ⟨ba, oa, rfl, xa, na, ea⟩ := cgc i hi
      have kt := fun (w' : World) => turns_ (gi m.G i) to w'
      cases hT : turnD (gi m.G i) to <;> rw [hT] at kt
      · have hc : turnIs m i to = false := by simp [turnIs, hT]
        have hd : turnMD m i to = { m with bad := true } := by unfold turnMD; rw [hc]; rfl
        rw [hd]
        go_enter Proofs.Try.func70, Proofs.Try.ntmps70
        go_wp2_with (fail)
        go_at_call 126; refine (kt _).calls.mono ?_; rintro e w1 ⟨_, rfl, hb1, rfl⟩; obtain ⟨q1, f1⟩ := bcell hb1; have z1_0 : w.heap.size < w1.heap.size := (by have := hb1.size; first | omega | (simp at this; omega)); have z1_1 : w.heap.size + 1 < w1.heap.size := (by have := hb1.size; first | omega | (simp at this; omega))
        have B0 : Box w1 w.heap.size #[.slice aw m.W.length cw, .slice (some ⟨ba, oa, none⟩) m.G.length cg, .bool m.bad] 50 := ((Box.new _ _ _).alloc _).ext hb1
        have B1 : Box w1 (w.heap.size + 1) #[.slice none 0 0, .slice none 0 0, .bool false] 50 := (Box.two _ _ _ _ _).ext hb1
        obtain ⟨c00, c01, c02, d00, d01, d02⟩ := cells3 B0
        obtain ⟨c10, c11, c12, d10, d11, d12⟩ := cells3 B1
        go_wp2
        have BF : Box ((((w1.setCell ⟨w.heap.size, 2, none⟩ (.bool true)).setCell ⟨w.heap.size + 1, 0, none⟩ (.slice aw m.W.length cw)).setCell ⟨w.heap.size + 1, 1, none⟩ (.slice (some ⟨ba, oa, none⟩) m.G.length cg)).setCell ⟨w.heap.size + 1, 2, none⟩ (.bool true)) (w.heap.size + 1) #[.slice aw m.W.length cw, .slice (some ⟨ba, oa, none⟩) m.G.length cg, .bool true] 50 := (((B1.setOther (by omega) _).setCell _).setCell _).setCell _
        exact bodyPost_ret (ret_cell BF Proofs.Try.results70 rfl Proofs.Try.underlying50 rfl (by kernel_rfl)) rfl ⟨_, rfl, (by with_reducible (repeat (first | assumption | exact Ext.refl _ | refine Ext.alloc' ?_ _ | refine Ext.store0 ?_ _ _ | refine Ext.storek ?_ _ _ _ | refine Ext.stores0 ?_ ?_ _ _ | refine Ext.storesk ?_ ?_ _ _ _ | refine Ext.store ?_ _ _ (by first | omega | (dsimp only; omega)) | refine Ext.drewN' ?_ _ | refine Ext.drew' ?_ | refine Ext.trans ?_ (by assumption)))), ⟨_, _, rfl, hw.ext (by with_reducible (repeat (first | assumption | exact Ext.refl _ | refine Ext.alloc' ?_ _ | refine Ext.store0 ?_ _ _ | refine Ext.storek ?_ _ _ _ | refine Ext.stores0 ?_ ?_ _ _ | refine Ext.storesk ?_ ?_ _ _ _ | refine Ext.store ?_ _ _ (by first | omega | (dsimp only; omega)) | refine Ext.drewN' ?_ _ | refine Ext.drew' ?_ | refine Ext.trans ?_ (by assumption)))), hg.ext (by with_reducible (repeat (first | assumption | exact Ext.refl _ | refine Ext.alloc' ?_ _ | refine Ext.store0 ?_ _ _ | refine Ext.storek ?_ _ _ _ | refine Ext.stores0 ?_ ?_ _ _ | refine Ext.storesk ?_ ?_ _ _ _ | refine Ext.store ?_ _ _ (by first | omega | (dsimp only; omega)) | refine Ext.drewN' ?_ _ | refine Ext.drew' ?_ | refine Ext.trans ?_ (by assumption))))⟩⟩
      · have hc : turnIs m i to = true := by simp [turnIs, hT]; omega
        have hd : turnMD m i to = { W := m.W, G := m.G.set i to, bad := m.bad } := by unfold turnMD; rw [hc]; rfl
        rw [hd]
        go_enter Proofs.Try.func70, Proofs.Try.ntmps70
        go_wp2_with (fail)
        go_at_call 126; refine (kt _).calls.mono ?_; rintro e w1 ⟨_, rfl, hb1, rfl⟩; obtain ⟨q1, f1⟩ := bcell hb1; have z1_0 : w.heap.size < w1.heap.size := (by have := hb1.size; first | omega | (simp at this; omega)); have z1_1 : w.heap.size + 1 < w1.heap.size := (by have := hb1.size; first | omega | (simp at this; omega))
        have B0 : Box w1 w.heap.size #[.slice aw m.W.length cw, .slice (some ⟨ba, oa, none⟩) m.G.length cg, .bool m.bad] 50 := ((Box.new _ _ _).alloc _).ext hb1
        have B1 : Box w1 (w.heap.size + 1) #[.slice none 0 0, .slice none 0 0, .bool false] 50 := (Box.two _ _ _ _ _).ext hb1
        obtain ⟨c00, c01, c02, d00, d01, d02⟩ := cells3 B0
        obtain ⟨c10, c11, c12, d10, d11, d12⟩ := cells3 B1
        clear q1 f1
        go_wp2_with (fail)
        go_at_call 127
        refine (clone_ N _ m.G _ (hg.ext (by with_reducible (repeat (first | assumption | exact Ext.refl _ | refine Ext.alloc' ?_ _ | refine Ext.store0 ?_ _ _ | refine Ext.storek ?_ _ _ _ | refine Ext.stores0 ?_ ?_ _ _ | refine Ext.storesk ?_ ?_ _ _ _ | refine Ext.store ?_ _ _ (by first | omega | (dsimp only; omega)) | refine Ext.drewN' ?_ _ | refine Ext.drew' ?_ | refine Ext.trans ?_ (by assumption))))) (by omega) hgl).calls.mono ?_
        rintro e w2 ⟨u, rfl, hb2, b, hbn, ho⟩
        have C0 := B0.ext hb2
        have C1 := B1.ext hb2
        clear c00 c01 c02 d00 d01 d02 c10 c11 c12 d10 d11 d12
        obtain ⟨c00, c01, c02, d00, d01, d02⟩ := cells3 C0
        obtain ⟨c10, c11, c12, d10, d11, d12⟩ := cells3 C1
        have hE2 : Ext w w2 := (show Ext w w1 from (by with_reducible (repeat (first | assumption | exact Ext.refl _ | refine Ext.alloc' ?_ _ | refine Ext.store0 ?_ _ _ | refine Ext.storek ?_ _ _ _ | refine Ext.stores0 ?_ ?_ _ _ | refine Ext.storesk ?_ ?_ _ _ _ | refine Ext.store ?_ _ _ (by first | omega | (dsimp only; omega)) | refine Ext.drewN' ?_ _ | refine Ext.drew' ?_ | refine Ext.trans ?_ (by assumption))))).trans hb2
        have ho0 := ho
        obtain ⟨cu, rfl, u1, u2, u3, u4⟩ := ho0
        obtain ⟨u5, u6⟩ := u4 i hi
        have e1 : b ≠ w.heap.size := by omega
        have e2 : b ≠ w.heap.size + 1 := by omega
        have e1' : w.heap.size ≠ b := by omega
        have e2' : w.heap.size + 1 ≠ b := by omega
        have hz0 : Lo b w.heap.size := by show _ < _; omega
        have hz1 : Lo b (w.heap.size + 1) := by show _ < _; omega
        have hwb : w.heap.size ≤ b := by omega
        go_wp2
        refine bodyPost_ret (ret_cell (((((C1.setOther (by omega) _).setOther e2 _).setCell _).setCell _).setCell _) Proofs.Try.results70 rfl Proofs.Try.underlying50 rfl (by kernel_rfl)) rfl ⟨_, rfl, (by with_reducible (repeat (first | assumption | exact Ext.refl _ | refine Ext.alloc' ?_ _ | refine Ext.store0 ?_ _ _ | refine Ext.storek ?_ _ _ _ | refine Ext.stores0 ?_ ?_ _ _ | refine Ext.storesk ?_ ?_ _ _ _ | refine Ext.store ?_ _ _ (by first | omega | (dsimp only; omega)) | refine Ext.drewN' ?_ _ | refine Ext.drew' ?_ | refine Ext.trans ?_ (by assumption)))), ?_⟩
        have ho2 := (ho.keep (N := Lo b) (w' := w2.setCell ⟨w.heap.size, 1, none⟩ (.slice (some ⟨b, 0, none⟩) m.G.length cu)) (by with_reducible (repeat (first | assumption | exact Keep.refl _ _ | refine Keep.alloc ?_ _ | refine Keep.s ?_ (by first | assumption | exact Bx.mem (by omega) (by omega)) | refine Keep.n ?_ (by omega) | refine Keep.ext ?_ (by assumption) | refine Keep.drew ?_))) (Nat.lt_irrefl _)).set hi to
        refine ⟨_, _, rfl, hw.ext (by with_reducible (repeat (first | assumption | exact Ext.refl _ | refine Ext.alloc' ?_ _ | refine Ext.store0 ?_ _ _ | refine Ext.storek ?_ _ _ _ | refine Ext.stores0 ?_ ?_ _ _ | refine Ext.storesk ?_ ?_ _ _ _ | refine Ext.store ?_ _ _ (by first | omega | (dsimp only; omega)) | refine Ext.drewN' ?_ _ | refine Ext.drew' ?_ | refine Ext.trans ?_ (by assumption)))), Own.ints (ho2.keep (N := Lo b) (by with_reducible (repeat (first | assumption | exact Keep.refl _ _ | refine Keep.alloc ?_ _ | refine Keep.s ?_ (by first | assumption | exact Bx.mem (by omega) (by omega)) | refine Keep.n ?_ (by omega) | refine Keep.ext ?_ (by assumption) | refine Keep.drew ?_))) (Nat.lt_irrefl _)) (fun hx => absurd (hN _ hx) (by omega))⟩
end Go.Proofs.Ytcfbdfgondmkoaa
/- Arenas: a node is turned, by the document. -/
namespace Go.Proofs.Ytcfbdfgondmkoaa
open Go Go.RowKit
set_option linter.unusedSimpArgs false
set_option linter.unusedVariables false
set_option linter.unnecessarySimpa false

set_option maxHeartbeats 1000000 in
set_option maxRecDepth 100000 in
theorem refTurn_ (N : Nat → Prop) (va : Value) (m : Arena) (x to : Int) (w : World) (h : IsMem N w va m) (hf : Fits m) (hN : ∀ b, N b → b < w.heap.size) :
    Gives Proofs.Try.prog 71 #[va, .int .i64 x, .int .i64 to] w (fun r w' => IsMem N w' r (turnMD m x to)) := by
  obtain ⟨aw, cw, ag, cg, rfl, hw, hg⟩ := h.opened
  obtain ⟨_, _, e0, rg, lg, cgc⟩ := hg.opened
  cases e0
  by_cases h1 : x < 1
  · have hc : turnIs m x to = false := by simp [turnIs]; omega
    have hd : turnMD m x to = { m with bad := true } := by unfold turnMD; rw [hc]; rfl
    rw [hd]
    go_enter Proofs.Try.func71, Proofs.Try.ntmps71
    go_wp2
    exact bodyPost_ret (ret_cell (Box.two _ _ _ _ _) Proofs.Try.results71 rfl Proofs.Try.underlying50 rfl (by kernel_rfl)) rfl ⟨_, rfl, (by with_reducible (repeat (first | assumption | exact Ext.refl _ | refine Ext.alloc' ?_ _ | refine Ext.store0 ?_ _ _ | refine Ext.storek ?_ _ _ _ | refine Ext.stores0 ?_ ?_ _ _ | refine Ext.storesk ?_ ?_ _ _ _ | refine Ext.store ?_ _ _ (by first | omega | (dsimp only; omega)) | refine Ext.drewN' ?_ _ | refine Ext.drew' ?_ | refine Ext.trans ?_ (by assumption)))), ⟨_, _, rfl, hw.ext (by with_reducible (repeat (first | assumption | exact Ext.refl _ | refine Ext.alloc' ?_ _ | refine Ext.store0 ?_ _ _ | refine Ext.storek ?_ _ _ _ | refine Ext.stores0 ?_ ?_ _ _ | refine Ext.storesk ?_ ?_ _ _ _ | refine Ext.store ?_ _ _ (by first | omega | (dsimp only; omega)) | refine Ext.drewN' ?_ _ | refine Ext.drew' ?_ | refine Ext.trans ?_ (by assumption)))), hg.ext (by with_reducible (repeat (first | assumption | exact Ext.refl _ | refine Ext.alloc' ?_ _ | refine Ext.store0 ?_ _ _ | refine Ext.storek ?_ _ _ _ | refine Ext.stores0 ?_ ?_ _ _ | refine Ext.storesk ?_ ?_ _ _ _ | refine Ext.store ?_ _ _ (by first | omega | (dsimp only; omega)) | refine Ext.drewN' ?_ _ | refine Ext.drew' ?_ | refine Ext.trans ?_ (by assumption))))⟩⟩
  · by_cases h2 : (m.G.length : Int) ≤ x
    · have hc : turnIs m x to = false := by simp [turnIs]; omega
      have hd : turnMD m x to = { m with bad := true } := by unfold turnMD; rw [hc]; rfl
      rw [hd]
      go_enter Proofs.Try.func71, Proofs.Try.ntmps71
      go_wp2
      exact bodyPost_ret (ret_cell (Box.two _ _ _ _ _) Proofs.Try.results71 rfl Proofs.Try.underlying50 rfl (by kernel_rfl)) rfl ⟨_, rfl, (by with_reducible (repeat (first | assumption | exact Ext.refl _ | refine Ext.alloc' ?_ _ | refine Ext.store0 ?_ _ _ | refine Ext.storek ?_ _ _ _ | refine Ext.stores0 ?_ ?_ _ _ | refine Ext.storesk ?_ ?_ _ _ _ | refine Ext.store ?_ _ _ (by first | omega | (dsimp only; omega)) | refine Ext.drewN' ?_ _ | refine Ext.drew' ?_ | refine Ext.trans ?_ (by assumption)))), ⟨_, _, rfl, hw.ext (by with_reducible (repeat (first | assumption | exact Ext.refl _ | refine Ext.alloc' ?_ _ | refine Ext.store0 ?_ _ _ | refine Ext.storek ?_ _ _ _ | refine Ext.stores0 ?_ ?_ _ _ | refine Ext.storesk ?_ ?_ _ _ _ | refine Ext.store ?_ _ _ (by first | omega | (dsimp only; omega)) | refine Ext.drewN' ?_ _ | refine Ext.drew' ?_ | refine Ext.trans ?_ (by assumption)))), hg.ext (by with_reducible (repeat (first | assumption | exact Ext.refl _ | refine Ext.alloc' ?_ _ | refine Ext.store0 ?_ _ _ | refine Ext.storek ?_ _ _ _ | refine Ext.stores0 ?_ ?_ _ _ | refine Ext.storesk ?_ ?_ _ _ _ | refine Ext.store ?_ _ _ (by first | omega | (dsimp only; omega)) | refine Ext.drewN' ?_ _ | refine Ext.drew' ?_ | refine Ext.trans ?_ (by assumption))))⟩⟩
    · obtain ⟨i, rfl⟩ : ∃ i : Nat, x = i := ⟨x.toNat, by omega⟩
      have hi : i < m.G.length := by omega
      have hi1 : 1 ≤ i := by omega
      have hgl : m.G.length ≤ 100000 := by have := hf.2.2; omega
      obtain ⟨ba, oa, rfl, xa, na, ea⟩ := cgc i hi
      by_cases g5 : gi m.G i = 0
      · have g5e : (gi m.G i == 0) = true := by simp [g5]
        by_cases g6 : to = 1
        · have g6e : (to == 1) = true := by simp [g6]
          have hc : turnIs m i to = true := by simp [turnIs, turnD, pairEq, g5, g6]; omega
          have hd : turnMD m i to = { W := m.W, G := m.G.set i to, bad := m.bad } := by unfold turnMD; rw [hc]; rfl
          rw [hd]
          go_enter Proofs.Try.func71, Proofs.Try.ntmps71
          go_wp2_with (at_builtin; refine wpList_append48 (ls := m.G) (.tmp 66) (.tmp 68) rfl rfl rfl rfl (hg.ext (by with_reducible (repeat (first | assumption | exact Ext.refl _ | refine Ext.alloc' ?_ _ | refine Ext.store0 ?_ _ _ | refine Ext.storek ?_ _ _ _ | refine Ext.stores0 ?_ ?_ _ _ | refine Ext.storesk ?_ ?_ _ _ _ | refine Ext.store ?_ _ _ (by first | omega | (dsimp only; omega)) | refine Ext.drewN' ?_ _ | refine Ext.drew' ?_ | refine Ext.trans ?_ (by assumption))))) (by omega) hgl ?_; intro v1 w1 ho hb1; have B0 : Box w1 w.heap.size #[.slice aw m.W.length cw, .slice (some ⟨ba, oa, none⟩) m.G.length cg, .bool m.bad] 50 := (((Box.new _ _ _).alloc _).alloc _).ext hb1; have B1 : Box w1 (w.heap.size + 1) #[.slice none 0 0, .slice none 0 0, .bool false] 50 := ((Box.two _ _ _ _ _).alloc _).ext hb1; obtain ⟨c00, c01, c02, d00, d01, d02⟩ := cells3 B0; obtain ⟨c10, c11, c12, d10, d11, d12⟩ := cells3 B1; have hE1 : Ext w w1 := (by with_reducible (repeat (first | assumption | exact Ext.refl _ | refine Ext.alloc' ?_ _ | refine Ext.store0 ?_ _ _ | refine Ext.storek ?_ _ _ _ | refine Ext.stores0 ?_ ?_ _ _ | refine Ext.storesk ?_ ?_ _ _ _ | refine Ext.store ?_ _ _ (by first | omega | (dsimp only; omega)) | refine Ext.drewN' ?_ _ | refine Ext.drew' ?_ | refine Ext.trans ?_ (by assumption)))); obtain ⟨b, hb⟩ : ∃ b, b = w.heap.size + 3 := ⟨_, rfl⟩; have ho0 : Own w1 v1 m.G b := (by rw [hb]; have := ho; simp at this; exact this); clear ho; have ho1 := ho0; obtain ⟨cu, rfl, u1, u2, u3, u4⟩ := ho1; obtain ⟨u5, u6⟩ := u4 i hi; have e1 : b ≠ w.heap.size := (by omega); have e2 : b ≠ w.heap.size + 1 := (by omega); have e1' : w.heap.size ≠ b := (by omega); have e2' : w.heap.size + 1 ≠ b := (by omega); have hz0 : Lo b w.heap.size := (by show _ < _; omega); have hz1 : Lo b (w.heap.size + 1) := (by show _ < _; omega); have hwb : w.heap.size ≤ b := (by omega); clear hb)
          refine bodyPost_ret (ret_cell ((((B1.setOther e2 _).setCell _).setCell _).setCell _) Proofs.Try.results71 rfl Proofs.Try.underlying50 rfl (by kernel_rfl)) rfl ⟨_, rfl, (by with_reducible (repeat (first | assumption | exact Ext.refl _ | refine Ext.alloc' ?_ _ | refine Ext.store0 ?_ _ _ | refine Ext.storek ?_ _ _ _ | refine Ext.stores0 ?_ ?_ _ _ | refine Ext.storesk ?_ ?_ _ _ _ | refine Ext.store ?_ _ _ (by first | omega | (dsimp only; omega)) | refine Ext.drewN' ?_ _ | refine Ext.drew' ?_ | refine Ext.trans ?_ (by assumption)))), ?_⟩
          have ho2 := ho0.set hi 1
          refine ⟨_, _, rfl, hw.ext (by with_reducible (repeat (first | assumption | exact Ext.refl _ | refine Ext.alloc' ?_ _ | refine Ext.store0 ?_ _ _ | refine Ext.storek ?_ _ _ _ | refine Ext.stores0 ?_ ?_ _ _ | refine Ext.storesk ?_ ?_ _ _ _ | refine Ext.store ?_ _ _ (by first | omega | (dsimp only; omega)) | refine Ext.drewN' ?_ _ | refine Ext.drew' ?_ | refine Ext.trans ?_ (by assumption)))), Own.ints (b := b) (ho2.keep (N := Lo b) (by with_reducible (repeat (first | assumption | exact Keep.refl _ _ | refine Keep.alloc ?_ _ | refine Keep.s ?_ (by first | assumption | exact Bx.mem (by omega) (by omega)) | refine Keep.n ?_ (by omega) | refine Keep.ext ?_ (by assumption) | refine Keep.drew ?_))) (Nat.lt_irrefl _)) (fun hx => absurd (hN _ hx) (by have := hz1; unfold Lo at this; omega))⟩
        · have g6e : (to == 1) = false := by simp [g6]
          have hc : turnIs m i to = false := by simp [turnIs, turnD, pairEq, g5, g6]
          have hd : turnMD m i to = { m with bad := true } := by unfold turnMD; rw [hc]; rfl
          rw [hd]
          go_enter Proofs.Try.func71, Proofs.Try.ntmps71
          go_wp2
          exact bodyPost_ret (ret_cell (Box.two _ _ _ _ _) Proofs.Try.results71 rfl Proofs.Try.underlying50 rfl (by kernel_rfl)) rfl ⟨_, rfl, (by with_reducible (repeat (first | assumption | exact Ext.refl _ | refine Ext.alloc' ?_ _ | refine Ext.store0 ?_ _ _ | refine Ext.storek ?_ _ _ _ | refine Ext.stores0 ?_ ?_ _ _ | refine Ext.storesk ?_ ?_ _ _ _ | refine Ext.store ?_ _ _ (by first | omega | (dsimp only; omega)) | refine Ext.drewN' ?_ _ | refine Ext.drew' ?_ | refine Ext.trans ?_ (by assumption)))), ⟨_, _, rfl, hw.ext (by with_reducible (repeat (first | assumption | exact Ext.refl _ | refine Ext.alloc' ?_ _ | refine Ext.store0 ?_ _ _ | refine Ext.storek ?_ _ _ _ | refine Ext.stores0 ?_ ?_ _ _ | refine Ext.storesk ?_ ?_ _ _ _ | refine Ext.store ?_ _ _ (by first | omega | (dsimp only; omega)) | refine Ext.drewN' ?_ _ | refine Ext.drew' ?_ | refine Ext.trans ?_ (by assumption)))), hg.ext (by with_reducible (repeat (first | assumption | exact Ext.refl _ | refine Ext.alloc' ?_ _ | refine Ext.store0 ?_ _ _ | refine Ext.storek ?_ _ _ _ | refine Ext.stores0 ?_ ?_ _ _ | refine Ext.storesk ?_ ?_ _ _ _ | refine Ext.store ?_ _ _ (by first | omega | (dsimp only; omega)) | refine Ext.drewN' ?_ _ | refine Ext.drew' ?_ | refine Ext.trans ?_ (by assumption))))⟩⟩
      · have g5e : (gi m.G i == 0) = false := by simp [g5]
        by_cases g6 : gi m.G i = 1
        · have g6e : (gi m.G i == 1) = true := by simp [g6]
          by_cases g7 : to = 2
          · have g7e : (to == 2) = true := by simp [g7]
            have hc : turnIs m i to = true := by simp [turnIs, turnD, pairEq, g5, g6, g7]; omega
            have hd : turnMD m i to = { W := m.W, G := m.G.set i to, bad := m.bad } := by unfold turnMD; rw [hc]; rfl
            rw [hd]
            go_enter Proofs.Try.func71, Proofs.Try.ntmps71
            go_wp2_with (at_builtin; refine wpList_append48 (ls := m.G) (.tmp 66) (.tmp 68) rfl rfl rfl rfl (hg.ext (by with_reducible (repeat (first | assumption | exact Ext.refl _ | refine Ext.alloc' ?_ _ | refine Ext.store0 ?_ _ _ | refine Ext.storek ?_ _ _ _ | refine Ext.stores0 ?_ ?_ _ _ | refine Ext.storesk ?_ ?_ _ _ _ | refine Ext.store ?_ _ _ (by first | omega | (dsimp only; omega)) | refine Ext.drewN' ?_ _ | refine Ext.drew' ?_ | refine Ext.trans ?_ (by assumption))))) (by omega) hgl ?_; intro v1 w1 ho hb1; have B0 : Box w1 w.heap.size #[.slice aw m.W.length cw, .slice (some ⟨ba, oa, none⟩) m.G.length cg, .bool m.bad] 50 := (((Box.new _ _ _).alloc _).alloc _).ext hb1; have B1 : Box w1 (w.heap.size + 1) #[.slice none 0 0, .slice none 0 0, .bool false] 50 := ((Box.two _ _ _ _ _).alloc _).ext hb1; obtain ⟨c00, c01, c02, d00, d01, d02⟩ := cells3 B0; obtain ⟨c10, c11, c12, d10, d11, d12⟩ := cells3 B1; have hE1 : Ext w w1 := (by with_reducible (repeat (first | assumption | exact Ext.refl _ | refine Ext.alloc' ?_ _ | refine Ext.store0 ?_ _ _ | refine Ext.storek ?_ _ _ _ | refine Ext.stores0 ?_ ?_ _ _ | refine Ext.storesk ?_ ?_ _ _ _ | refine Ext.store ?_ _ _ (by first | omega | (dsimp only; omega)) | refine Ext.drewN' ?_ _ | refine Ext.drew' ?_ | refine Ext.trans ?_ (by assumption)))); obtain ⟨b, hb⟩ : ∃ b, b = w.heap.size + 3 := ⟨_, rfl⟩; have ho0 : Own w1 v1 m.G b := (by rw [hb]; have := ho; simp at this; exact this); clear ho; have ho1 := ho0; obtain ⟨cu, rfl, u1, u2, u3, u4⟩ := ho1; obtain ⟨u5, u6⟩ := u4 i hi; have e1 : b ≠ w.heap.size := (by omega); have e2 : b ≠ w.heap.size + 1 := (by omega); have e1' : w.heap.size ≠ b := (by omega); have e2' : w.heap.size + 1 ≠ b := (by omega); have hz0 : Lo b w.heap.size := (by show _ < _; omega); have hz1 : Lo b (w.heap.size + 1) := (by show _ < _; omega); have hwb : w.heap.size ≤ b := (by omega); clear hb)
            refine bodyPost_ret (ret_cell ((((B1.setOther e2 _).setCell _).setCell _).setCell _) Proofs.Try.results71 rfl Proofs.Try.underlying50 rfl (by kernel_rfl)) rfl ⟨_, rfl, (by with_reducible (repeat (first | assumption | exact Ext.refl _ | refine Ext.alloc' ?_ _ | refine Ext.store0 ?_ _ _ | refine Ext.storek ?_ _ _ _ | refine Ext.stores0 ?_ ?_ _ _ | refine Ext.storesk ?_ ?_ _ _ _ | refine Ext.store ?_ _ _ (by first | omega | (dsimp only; omega)) | refine Ext.drewN' ?_ _ | refine Ext.drew' ?_ | refine Ext.trans ?_ (by assumption)))), ?_⟩
            have ho2 := ho0.set hi 2
            refine ⟨_, _, rfl, hw.ext (by with_reducible (repeat (first | assumption | exact Ext.refl _ | refine Ext.alloc' ?_ _ | refine Ext.store0 ?_ _ _ | refine Ext.storek ?_ _ _ _ | refine Ext.stores0 ?_ ?_ _ _ | refine Ext.storesk ?_ ?_ _ _ _ | refine Ext.store ?_ _ _ (by first | omega | (dsimp only; omega)) | refine Ext.drewN' ?_ _ | refine Ext.drew' ?_ | refine Ext.trans ?_ (by assumption)))), Own.ints (b := b) (ho2.keep (N := Lo b) (by with_reducible (repeat (first | assumption | exact Keep.refl _ _ | refine Keep.alloc ?_ _ | refine Keep.s ?_ (by first | assumption | exact Bx.mem (by omega) (by omega)) | refine Keep.n ?_ (by omega) | refine Keep.ext ?_ (by assumption) | refine Keep.drew ?_))) (Nat.lt_irrefl _)) (fun hx => absurd (hN _ hx) (by have := hz1; unfold Lo at this; omega))⟩
          · have g7e : (to == 2) = false := by simp [g7]
            by_cases g8 : to = 0
            · have g8e : (to == 0) = true := by simp [g8]
              have hc : turnIs m i to = true := by simp [turnIs, turnD, pairEq, g5, g6, g7, g8]; omega
              have hd : turnMD m i to = { W := m.W, G := m.G.set i to, bad := m.bad } := by unfold turnMD; rw [hc]; rfl
              rw [hd]
              go_enter Proofs.Try.func71, Proofs.Try.ntmps71
              go_wp2_with (at_builtin; refine wpList_append48 (ls := m.G) (.tmp 66) (.tmp 68) rfl rfl rfl rfl (hg.ext (by with_reducible (repeat (first | assumption | exact Ext.refl _ | refine Ext.alloc' ?_ _ | refine Ext.store0 ?_ _ _ | refine Ext.storek ?_ _ _ _ | refine Ext.stores0 ?_ ?_ _ _ | refine Ext.storesk ?_ ?_ _ _ _ | refine Ext.store ?_ _ _ (by first | omega | (dsimp only; omega)) | refine Ext.drewN' ?_ _ | refine Ext.drew' ?_ | refine Ext.trans ?_ (by assumption))))) (by omega) hgl ?_; intro v1 w1 ho hb1; have B0 : Box w1 w.heap.size #[.slice aw m.W.length cw, .slice (some ⟨ba, oa, none⟩) m.G.length cg, .bool m.bad] 50 := (((Box.new _ _ _).alloc _).alloc _).ext hb1; have B1 : Box w1 (w.heap.size + 1) #[.slice none 0 0, .slice none 0 0, .bool false] 50 := ((Box.two _ _ _ _ _).alloc _).ext hb1; obtain ⟨c00, c01, c02, d00, d01, d02⟩ := cells3 B0; obtain ⟨c10, c11, c12, d10, d11, d12⟩ := cells3 B1; have hE1 : Ext w w1 := (by with_reducible (repeat (first | assumption | exact Ext.refl _ | refine Ext.alloc' ?_ _ | refine Ext.store0 ?_ _ _ | refine Ext.storek ?_ _ _ _ | refine Ext.stores0 ?_ ?_ _ _ | refine Ext.storesk ?_ ?_ _ _ _ | refine Ext.store ?_ _ _ (by first | omega | (dsimp only; omega)) | refine Ext.drewN' ?_ _ | refine Ext.drew' ?_ | refine Ext.trans ?_ (by assumption)))); obtain ⟨b, hb⟩ : ∃ b, b = w.heap.size + 3 := ⟨_, rfl⟩; have ho0 : Own w1 v1 m.G b := (by rw [hb]; have := ho; simp at this; exact this); clear ho; have ho1 := ho0; obtain ⟨cu, rfl, u1, u2, u3, u4⟩ := ho1; obtain ⟨u5, u6⟩ := u4 i hi; have e1 : b ≠ w.heap.size := (by omega); have e2 : b ≠ w.heap.size + 1 := (by omega); have e1' : w.heap.size ≠ b := (by omega); have e2' : w.heap.size + 1 ≠ b := (by omega); have hz0 : Lo b w.heap.size := (by show _ < _; omega); have hz1 : Lo b (w.heap.size + 1) := (by show _ < _; omega); have hwb : w.heap.size ≤ b := (by omega); clear hb)
              refine bodyPost_ret (ret_cell ((((B1.setOther e2 _).setCell _).setCell _).setCell _) Proofs.Try.results71 rfl Proofs.Try.underlying50 rfl (by kernel_rfl)) rfl ⟨_, rfl, (by with_reducible (repeat (first | assumption | exact Ext.refl _ | refine Ext.alloc' ?_ _ | refine Ext.store0 ?_ _ _ | refine Ext.storek ?_ _ _ _ | refine Ext.stores0 ?_ ?_ _ _ | refine Ext.storesk ?_ ?_ _ _ _ | refine Ext.store ?_ _ _ (by first | omega | (dsimp only; omega)) | refine Ext.drewN' ?_ _ | refine Ext.drew' ?_ | refine Ext.trans ?_ (by assumption)))), ?_⟩
              have ho2 := ho0.set hi 0
              refine ⟨_, _, rfl, hw.ext (by with_reducible (repeat (first | assumption | exact Ext.refl _ | refine Ext.alloc' ?_ _ | refine Ext.store0 ?_ _ _ | refine Ext.storek ?_ _ _ _ | refine Ext.stores0 ?_ ?_ _ _ | refine Ext.storesk ?_ ?_ _ _ _ | refine Ext.store ?_ _ _ (by first | omega | (dsimp only; omega)) | refine Ext.drewN' ?_ _ | refine Ext.drew' ?_ | refine Ext.trans ?_ (by assumption)))), Own.ints (b := b) (ho2.keep (N := Lo b) (by with_reducible (repeat (first | assumption | exact Keep.refl _ _ | refine Keep.alloc ?_ _ | refine Keep.s ?_ (by first | assumption | exact Bx.mem (by omega) (by omega)) | refine Keep.n ?_ (by omega) | refine Keep.ext ?_ (by assumption) | refine Keep.drew ?_))) (Nat.lt_irrefl _)) (fun hx => absurd (hN _ hx) (by have := hz1; unfold Lo at this; omega))⟩
            · have g8e : (to == 0) = false := by simp [g8]
              have hc : turnIs m i to = false := by simp [turnIs, turnD, pairEq, g5, g6, g7, g8]
              have hd : turnMD m i to = { m with bad := true } := by unfold turnMD; rw [hc]; rfl
              rw [hd]
              go_enter Proofs.Try.func71, Proofs.Try.ntmps71
              go_wp2
              exact bodyPost_ret (ret_cell (Box.two _ _ _ _ _) Proofs.Try.results71 rfl Proofs.Try.underlying50 rfl (by kernel_rfl)) rfl ⟨_, rfl, (by with_reducible (repeat (first | assumption | exact Ext.refl _ | refine Ext.alloc' ?_ _ | refine Ext.store0 ?_ _ _ | refine Ext.storek ?_ _ _ _ | refine Ext.stores0 ?_ ?_ _ _ | refine Ext.storesk ?_ ?_ _ _ _ | refine Ext.store ?_ _ _ (by first | omega | (dsimp only; omega)) | refine Ext.drewN' ?_ _ | refine Ext.drew' ?_ | refine Ext.trans ?_ (by assumption)))), ⟨_, _, rfl, hw.ext (by with_reducible (repeat (first | assumption | exact Ext.refl _ | refine Ext.alloc' ?_ _ | refine Ext.store0 ?_ _ _ | refine Ext.storek ?_ _ _ _ | refine Ext.stores0 ?_ ?_ _ _ | refine Ext.storesk ?_ ?_ _ _ _ | refine Ext.store ?_ _ _ (by first | omega | (dsimp only; omega)) | refine Ext.drewN' ?_ _ | refine Ext.drew' ?_ | refine Ext.trans ?_ (by assumption)))), hg.ext (by with_reducible (repeat (first | assumption | exact Ext.refl _ | refine Ext.alloc' ?_ _ | refine Ext.store0 ?_ _ _ | refine Ext.storek ?_ _ _ _ | refine Ext.stores0 ?_ ?_ _ _ | refine Ext.storesk ?_ ?_ _ _ _ | refine Ext.store ?_ _ _ (by first | omega | (dsimp only; omega)) | refine Ext.drewN' ?_ _ | refine Ext.drew' ?_ | refine Ext.trans ?_ (by assumption))))⟩⟩
        · have g6e : (gi m.G i == 1) = false := by simp [g6]
          by_cases g7 : gi m.G i = 2
          · have g7e : (gi m.G i == 2) = true := by simp [g7]
            by_cases g8 : to = 0
            · have g8e : (to == 0) = true := by simp [g8]
              have hc : turnIs m i to = true := by simp [turnIs, turnD, pairEq, g5, g6, g7, g8]; omega
              have hd : turnMD m i to = { W := m.W, G := m.G.set i to, bad := m.bad } := by unfold turnMD; rw [hc]; rfl
              rw [hd]
              go_enter Proofs.Try.func71, Proofs.Try.ntmps71
              go_wp2_with (at_builtin; refine wpList_append48 (ls := m.G) (.tmp 66) (.tmp 68) rfl rfl rfl rfl (hg.ext (by with_reducible (repeat (first | assumption | exact Ext.refl _ | refine Ext.alloc' ?_ _ | refine Ext.store0 ?_ _ _ | refine Ext.storek ?_ _ _ _ | refine Ext.stores0 ?_ ?_ _ _ | refine Ext.storesk ?_ ?_ _ _ _ | refine Ext.store ?_ _ _ (by first | omega | (dsimp only; omega)) | refine Ext.drewN' ?_ _ | refine Ext.drew' ?_ | refine Ext.trans ?_ (by assumption))))) (by omega) hgl ?_; intro v1 w1 ho hb1; have B0 : Box w1 w.heap.size #[.slice aw m.W.length cw, .slice (some ⟨ba, oa, none⟩) m.G.length cg, .bool m.bad] 50 := (((Box.new _ _ _).alloc _).alloc _).ext hb1; have B1 : Box w1 (w.heap.size + 1) #[.slice none 0 0, .slice none 0 0, .bool false] 50 := ((Box.two _ _ _ _ _).alloc _).ext hb1; obtain ⟨c00, c01, c02, d00, d01, d02⟩ := cells3 B0; obtain ⟨c10, c11, c12, d10, d11, d12⟩ := cells3 B1; have hE1 : Ext w w1 := (by with_reducible (repeat (first | assumption | exact Ext.refl _ | refine Ext.alloc' ?_ _ | refine Ext.store0 ?_ _ _ | refine Ext.storek ?_ _ _ _ | refine Ext.stores0 ?_ ?_ _ _ | refine Ext.storesk ?_ ?_ _ _ _ | refine Ext.store ?_ _ _ (by first | omega | (dsimp only; omega)) | refine Ext.drewN' ?_ _ | refine Ext.drew' ?_ | refine Ext.trans ?_ (by assumption)))); obtain ⟨b, hb⟩ : ∃ b, b = w.heap.size + 3 := ⟨_, rfl⟩; have ho0 : Own w1 v1 m.G b := (by rw [hb]; have := ho; simp at this; exact this); clear ho; have ho1 := ho0; obtain ⟨cu, rfl, u1, u2, u3, u4⟩ := ho1; obtain ⟨u5, u6⟩ := u4 i hi; have e1 : b ≠ w.heap.size := (by omega); have e2 : b ≠ w.heap.size + 1 := (by omega); have e1' : w.heap.size ≠ b := (by omega); have e2' : w.heap.size + 1 ≠ b := (by omega); have hz0 : Lo b w.heap.size := (by show _ < _; omega); have hz1 : Lo b (w.heap.size + 1) := (by show _ < _; omega); have hwb : w.heap.size ≤ b := (by omega); clear hb)
              refine bodyPost_ret (ret_cell ((((B1.setOther e2 _).setCell _).setCell _).setCell _) Proofs.Try.results71 rfl Proofs.Try.underlying50 rfl (by kernel_rfl)) rfl ⟨_, rfl, (by with_reducible (repeat (first | assumption | exact Ext.refl _ | refine Ext.alloc' ?_ _ | refine Ext.store0 ?_ _ _ | refine Ext.storek ?_ _ _ _ | refine Ext.stores0 ?_ ?_ _ _ | refine Ext.storesk ?_ ?_ _ _ _ | refine Ext.store ?_ _ _ (by first | omega | (dsimp only; omega)) | refine Ext.drewN' ?_ _ | refine Ext.drew' ?_ | refine Ext.trans ?_ (by assumption)))), ?_⟩
              have ho2 := ho0.set hi 0
              refine ⟨_, _, rfl, hw.ext (by with_reducible (repeat (first | assumption | exact Ext.refl _ | refine Ext.alloc' ?_ _ | refine Ext.store0 ?_ _ _ | refine Ext.storek ?_ _ _ _ | refine Ext.stores0 ?_ ?_ _ _ | refine Ext.storesk ?_ ?_ _ _ _ | refine Ext.store ?_ _ _ (by first | omega | (dsimp only; omega)) | refine Ext.drewN' ?_ _ | refine Ext.drew' ?_ | refine Ext.trans ?_ (by assumption)))), Own.ints (b := b) (ho2.keep (N := Lo b) (by with_reducible (repeat (first | assumption | exact Keep.refl _ _ | refine Keep.alloc ?_ _ | refine Keep.s ?_ (by first | assumption | exact Bx.mem (by omega) (by omega)) | refine Keep.n ?_ (by omega) | refine Keep.ext ?_ (by assumption) | refine Keep.drew ?_))) (Nat.lt_irrefl _)) (fun hx => absurd (hN _ hx) (by have := hz1; unfold Lo at this; omega))⟩
            · have g8e : (to == 0) = false := by simp [g8]
              have hc : turnIs m i to = false := by simp [turnIs, turnD, pairEq, g5, g6, g7, g8]
              have hd : turnMD m i to = { m with bad := true } := by unfold turnMD; rw [hc]; rfl
              rw [hd]
              go_enter Proofs.Try.func71, Proofs.Try.ntmps71
              go_wp2
              exact bodyPost_ret (ret_cell (Box.two _ _ _ _ _) Proofs.Try.results71 rfl Proofs.Try.underlying50 rfl (by kernel_rfl)) rfl ⟨_, rfl, (by with_reducible (repeat (first | assumption | exact Ext.refl _ | refine Ext.alloc' ?_ _ | refine Ext.store0 ?_ _ _ | refine Ext.storek ?_ _ _ _ | refine Ext.stores0 ?_ ?_ _ _ | refine Ext.storesk ?_ ?_ _ _ _ | refine Ext.store ?_ _ _ (by first | omega | (dsimp only; omega)) | refine Ext.drewN' ?_ _ | refine Ext.drew' ?_ | refine Ext.trans ?_ (by assumption)))), ⟨_, _, rfl, hw.ext (by with_reducible (repeat (first | assumption | exact Ext.refl _ | refine Ext.alloc' ?_ _ | refine Ext.store0 ?_ _ _ | refine Ext.storek ?_ _ _ _ | refine Ext.stores0 ?_ ?_ _ _ | refine Ext.storesk ?_ ?_ _ _ _ | refine Ext.store ?_ _ _ (by first | omega | (dsimp only; omega)) | refine Ext.drewN' ?_ _ | refine Ext.drew' ?_ | refine Ext.trans ?_ (by assumption)))), hg.ext (by with_reducible (repeat (first | assumption | exact Ext.refl _ | refine Ext.alloc' ?_ _ | refine Ext.store0 ?_ _ _ | refine Ext.storek ?_ _ _ _ | refine Ext.stores0 ?_ ?_ _ _ | refine Ext.storesk ?_ ?_ _ _ _ | refine Ext.store ?_ _ _ (by first | omega | (dsimp only; omega)) | refine Ext.drewN' ?_ _ | refine Ext.drew' ?_ | refine Ext.trans ?_ (by assumption))))⟩⟩
          · have g7e : (gi m.G i == 2) = false := by simp [g7]
            have hc : turnIs m i to = false := by simp [turnIs, turnD, pairEq, g5, g6, g7]
            have hd : turnMD m i to = { m with bad := true } := by unfold turnMD; rw [hc]; rfl
            rw [hd]
            go_enter Proofs.Try.func71, Proofs.Try.ntmps71
            go_wp2
            exact bodyPost_ret (ret_cell (Box.two _ _ _ _ _) Proofs.Try.results71 rfl Proofs.Try.underlying50 rfl (by kernel_rfl)) rfl ⟨_, rfl, (by with_reducible (repeat (first | assumption | exact Ext.refl _ | refine Ext.alloc' ?_ _ | refine Ext.store0 ?_ _ _ | refine Ext.storek ?_ _ _ _ | refine Ext.stores0 ?_ ?_ _ _ | refine Ext.storesk ?_ ?_ _ _ _ | refine Ext.store ?_ _ _ (by first | omega | (dsimp only; omega)) | refine Ext.drewN' ?_ _ | refine Ext.drew' ?_ | refine Ext.trans ?_ (by assumption)))), ⟨_, _, rfl, hw.ext (by with_reducible (repeat (first | assumption | exact Ext.refl _ | refine Ext.alloc' ?_ _ | refine Ext.store0 ?_ _ _ | refine Ext.storek ?_ _ _ _ | refine Ext.stores0 ?_ ?_ _ _ | refine Ext.storesk ?_ ?_ _ _ _ | refine Ext.store ?_ _ _ (by first | omega | (dsimp only; omega)) | refine Ext.drewN' ?_ _ | refine Ext.drew' ?_ | refine Ext.trans ?_ (by assumption)))), hg.ext (by with_reducible (repeat (first | assumption | exact Ext.refl _ | refine Ext.alloc' ?_ _ | refine Ext.store0 ?_ _ _ | refine Ext.storek ?_ _ _ _ | refine Ext.stores0 ?_ ?_ _ _ | refine Ext.storesk ?_ ?_ _ _ _ | refine Ext.store ?_ _ _ (by first | omega | (dsimp only; omega)) | refine Ext.drewN' ?_ _ | refine Ext.drew' ?_ | refine Ext.trans ?_ (by assumption))))⟩⟩
end Go.Proofs.Ytcfbdfgondmkoaa
/- Arenas: a word is stored, by the document. -/
namespace Go.Proofs.Ytcfbdfgondmkoaa
open Go Go.RowKit
set_option linter.unusedSimpArgs false
set_option linter.unusedVariables false
set_option linter.unnecessarySimpa false

set_option maxHeartbeats 400000 in
set_option maxRecDepth 100000 in
theorem refStore_ (N : Nat → Prop) (va : Value) (m : Arena) (x v : Int) (w : World) (h : IsMem N w va m) (hf : Fits m) (hN : ∀ b, N b → b < w.heap.size) :
    Gives Proofs.Try.prog 69 #[va, .int .i64 x, .int .i64 v] w (fun r w' => IsMem N w' r (storeD m x v)) := by
  have kb := fun (w' : World) (e : Ext w w') => refBad_ N va m x w' (h.ext e) hf
  obtain ⟨aw, cw, ag, cg, rfl, hw, hg⟩ := h.opened
  obtain ⟨_, _, e0, rw_, lw, cwc⟩ := hw.opened
  cases e0
  by_cases h1 : x < 0
  · have hd : storeD m x v = { m with bad := true } := by simp [storeD, badAt, outside, h1]
    rw [hd]
    go_enter Proofs.Try.func69, Proofs.Try.ntmps69
    go_wp2
    exact bodyPost_ret (ret_cell (Box.two _ _ _ _ _) Proofs.Try.results69 rfl Proofs.Try.underlying50 rfl (by kernel_rfl)) rfl ⟨_, rfl, (by with_reducible (repeat (first | assumption | exact Ext.refl _ | refine Ext.alloc' ?_ _ | refine Ext.store0 ?_ _ _ | refine Ext.storek ?_ _ _ _ | refine Ext.stores0 ?_ ?_ _ _ | refine Ext.storesk ?_ ?_ _ _ _ | refine Ext.store ?_ _ _ (by first | omega | (dsimp only; omega)) | refine Ext.drewN' ?_ _ | refine Ext.drew' ?_ | refine Ext.trans ?_ (by assumption)))), ⟨_, _, rfl, hw.ext (by with_reducible (repeat (first | assumption | exact Ext.refl _ | refine Ext.alloc' ?_ _ | refine Ext.store0 ?_ _ _ | refine Ext.storek ?_ _ _ _ | refine Ext.stores0 ?_ ?_ _ _ | refine Ext.storesk ?_ ?_ _ _ _ | refine Ext.store ?_ _ _ (by first | omega | (dsimp only; omega)) | refine Ext.drewN' ?_ _ | refine Ext.drew' ?_ | refine Ext.trans ?_ (by assumption)))), hg.ext (by with_reducible (repeat (first | assumption | exact Ext.refl _ | refine Ext.alloc' ?_ _ | refine Ext.store0 ?_ _ _ | refine Ext.storek ?_ _ _ _ | refine Ext.stores0 ?_ ?_ _ _ | refine Ext.storesk ?_ ?_ _ _ _ | refine Ext.store ?_ _ _ (by first | omega | (dsimp only; omega)) | refine Ext.drewN' ?_ _ | refine Ext.drew' ?_ | refine Ext.trans ?_ (by assumption))))⟩⟩
  · by_cases h2 : (m.W.length : Int) ≤ x
    · have hd : storeD m x v = { m with bad := true } := by simp [storeD, badAt, outside, h2]
      rw [hd]
      go_enter Proofs.Try.func69, Proofs.Try.ntmps69
      go_wp2
      exact bodyPost_ret (ret_cell (Box.two _ _ _ _ _) Proofs.Try.results69 rfl Proofs.Try.underlying50 rfl (by kernel_rfl)) rfl ⟨_, rfl, (by with_reducible (repeat (first | assumption | exact Ext.refl _ | refine Ext.alloc' ?_ _ | refine Ext.store0 ?_ _ _ | refine Ext.storek ?_ _ _ _ | refine Ext.stores0 ?_ ?_ _ _ | refine Ext.storesk ?_ ?_ _ _ _ | refine Ext.store ?_ _ _ (by first | omega | (dsimp only; omega)) | refine Ext.drewN' ?_ _ | refine Ext.drew' ?_ | refine Ext.trans ?_ (by assumption)))), ⟨_, _, rfl, hw.ext (by with_reducible (repeat (first | assumption | exact Ext.refl _ | refine Ext.alloc' ?_ _ | refine Ext.store0 ?_ _ _ | refine Ext.storek ?_ _ _ _ | refine Ext.stores0 ?_ ?_ _ _ | refine Ext.storesk ?_ ?_ _ _ _ | refine Ext.store ?_ _ _ (by first | omega | (dsimp only; omega)) | refine Ext.drewN' ?_ _ | refine Ext.drew' ?_ | refine Ext.trans ?_ (by assumption)))), hg.ext (by with_reducible (repeat (first | assumption | exact Ext.refl _ | refine Ext.alloc' ?_ _ | refine Ext.store0 ?_ _ _ | refine Ext.storek ?_ _ _ _ | refine Ext.stores0 ?_ ?_ _ _ | refine Ext.storesk ?_ ?_ _ _ _ | refine Ext.store ?_ _ _ (by first | omega | (dsimp only; omega)) | refine Ext.drewN' ?_ _ | refine Ext.drew' ?_ | refine Ext.trans ?_ (by assumption))))⟩⟩
    · obtain ⟨i, rfl⟩ : ∃ i : Nat, x = i := ⟨x.toNat, by omega⟩
      have hi : i < m.W.length := by omega
      have hwl : m.W.length ≤ 100000 := by have := hf.1; have := hf.2.2; omega
      have hout : outside m i = false := by simp [outside]; omega
      have hd : storeD m i v = { W := m.W.set i v, G := m.G, bad := badAt m i } := by simp [storeD, hout]
      rw [hd]
      go_enter Proofs.Try.func69, Proofs.Try.ntmps69
      go_wp2_with (at_builtin; refine wpList_append48 (ls := m.W) (.tmp 22) (.tmp 24) rfl rfl rfl rfl (hw.ext (by with_reducible (repeat (first | assumption | exact Ext.refl _ | refine Ext.alloc' ?_ _ | refine Ext.store0 ?_ _ _ | refine Ext.storek ?_ _ _ _ | refine Ext.stores0 ?_ ?_ _ _ | refine Ext.storesk ?_ ?_ _ _ _ | refine Ext.store ?_ _ _ (by first | omega | (dsimp only; omega)) | refine Ext.drewN' ?_ _ | refine Ext.drew' ?_ | refine Ext.trans ?_ (by assumption))))) (by omega) hwl ?_; intro v1 w1 ho hb1; have B0 : Box w1 w.heap.size #[.slice aw m.W.length cw, .slice ag m.G.length cg, .bool m.bad] 50 := (((Box.new _ _ _).alloc _).alloc _).ext hb1; have B1 : Box w1 (w.heap.size + 1) #[.slice none 0 0, .slice none 0 0, .bool false] 50 := ((Box.two _ _ _ _ _).alloc _).ext hb1; obtain ⟨c00, c01, c02, d00, d01, d02⟩ := cells3 B0; obtain ⟨c10, c11, c12, d10, d11, d12⟩ := cells3 B1; have hE1 : Ext w w1 := (by with_reducible (repeat (first | assumption | exact Ext.refl _ | refine Ext.alloc' ?_ _ | refine Ext.store0 ?_ _ _ | refine Ext.storek ?_ _ _ _ | refine Ext.stores0 ?_ ?_ _ _ | refine Ext.storesk ?_ ?_ _ _ _ | refine Ext.store ?_ _ _ (by first | omega | (dsimp only; omega)) | refine Ext.drewN' ?_ _ | refine Ext.drew' ?_ | refine Ext.trans ?_ (by assumption)))); obtain ⟨b, hb⟩ : ∃ b, b = w.heap.size + 3 := ⟨_, rfl⟩; have ho0 : Own w1 v1 m.W b := (by rw [hb]; have := ho; simp at this; exact this); clear ho; have ho1 := ho0; obtain ⟨cu, rfl, u1, u2, u3, u4⟩ := ho1; obtain ⟨u5, u6⟩ := u4 i hi; have e1 : b ≠ w.heap.size := (by omega); have e2 : b ≠ w.heap.size + 1 := (by omega); have e1' : w.heap.size ≠ b := (by omega); have e2' : w.heap.size + 1 ≠ b := (by omega); have hwb : w.heap.size ≤ b := (by omega); have hz1 : Lo b (w.heap.size + 1) := (by show _ < _; omega); clear hb)
      obtain ⟨W4, hW4⟩ : ∃ W4, W4 = w1.setCell ⟨b, i, none⟩ (.int .i64 v) := ⟨_, rfl⟩
      have hE4 : Ext w W4 := by rw [hW4]; exact (by with_reducible (repeat (first | assumption | exact Ext.refl _ | refine Ext.alloc' ?_ _ | refine Ext.store0 ?_ _ _ | refine Ext.storek ?_ _ _ _ | refine Ext.stores0 ?_ ?_ _ _ | refine Ext.storesk ?_ ?_ _ _ _ | refine Ext.store ?_ _ _ (by first | omega | (dsimp only; omega)) | refine Ext.drewN' ?_ _ | refine Ext.drew' ?_ | refine Ext.trans ?_ (by assumption))))
      have D0 := B0.setOther (off := i) e1 (.int .i64 v)
      have D1 := B1.setOther (off := i) e2 (.int .i64 v)
      have ho2 := ho0.set hi v
      rw [← hW4] at D0 D1 ho2 ⊢
      clear hW4
      apply region_lit2 (T := [7]) (L := []) (X := [w.heap.size + 1]) (G := [eqv _, eqv _, eqv _, eqv _, eqv _, eqv _, eqv _, anyG])
      case hm => kernel_rfl
      case hop =>
        refine ⟨?_, ?_, ?_, ?_, ?_, ?_, ?_, ?_, trivial⟩
        · intro a wa hs hf hd
          have t7 := hf.off 7 (by kernel_rfl) rfl
          exact plain_ rfl (yes_eqv (o_move rfl t7) rfl)
        · intro a wa hs hf hd
          have t3 := hf.off 3 (by kernel_rfl) rfl
          exact plain_ rfl (yes_eqv (o_fieldAddr rfl Proofs.Try.underlying50 rfl rfl (by kernel_rfl) t3) rfl)
        · intro a wa hs hf hd
          have t31 : a.eval (.tmp 31) = _ := hd.at 1 31 (by kernel_rfl)
          exact plain_ rfl (yes_eqv (o_load1 rfl Proofs.Try.underlying48 rfl t31 ((D0.since hs rfl).cell rfl)) rfl)
        · intro a wa hs hf hd
          have t3 := hf.off 3 (by kernel_rfl) rfl
          exact plain_ rfl (yes_eqv (o_load3 rfl Proofs.Try.underlying50 rfl (by kernel_rfl) t3 ((D0.since hs rfl).cell rfl) ((D0.since hs rfl).cell rfl) ((D0.since hs rfl).cell rfl)) rfl)
        · intro a wa hs hf hd
          have t1 := hf.off 1 (by kernel_rfl) rfl
          exact plain_ rfl (yes_eqv (o_move rfl t1) rfl)
        · intro a wa hs hf hd
          have t33 : a.eval (.tmp 33) = _ := hd.at 3 33 (by kernel_rfl)
          have t34 : a.eval (.tmp 34) = _ := hd.at 4 34 (by kernel_rfl)
          exact plain_ rfl (yes_gives (kb _ (hE4.trans (Since.to_ext hs) : Ext w _)) rfl rfl Proofs.Try.func124 (by kernel_rfl) (by kernel_rfl) (by simp only [List.map_toArray, List.map_cons, List.map_nil, t33, t34]) rfl)
        · intro a wa hs hf hd
          have t30 : a.eval (.tmp 30) = _ := hd.at 0 30 (by kernel_rfl)
          have t32 : a.eval (.tmp 32) = _ := hd.at 2 32 (by kernel_rfl)
          have t35 : a.eval (.tmp 35) = _ := hd.at 5 35 (by kernel_rfl)
          exact plain_ rfl (yes_eqv (o_build (cells := #[.slice (some ⟨b, 0, none⟩) m.W.length cu, .slice ag m.G.length cg, .bool (badAt m i)]) rfl (by simp only [List.map_toArray, List.map_cons, List.map_nil, eval_const, t30, t32, t35]; first | done | rfl) rfl) rfl)
        · intro a wb wa hs1 hs hf hd hrun
          have t6 := hf.off 6 (by kernel_rfl) rfl
          have t36 : a.eval (.tmp 36) = _ := hd.at 6 36 (by kernel_rfl)
          subst hrun; exact ⟨_, o_store rfl t6 t36 (D1.since hs1 rfl) (by kernel_rfl) (by simp [Value.cells, Value.oneCell']) (by simp [Value.cells]) rfl, Since.put hs (.inr (by simp))⟩
      case hG => exact ⟨stable_eqv _, stable_eqv _, stable_eqv _, stable_eqv _, stable_eqv _, stable_eqv _, stable_eqv _, stable_any, trivial⟩
      case hc => kernel_rfl
      case hfin =>
        intro w5 hs5
        rintro _ rfl _ rfl _ rfl _ rfl _ rfl _ rfl _ rfl
        rintro w6 ⟨o, w7, ho7, hr, rfl⟩
        cases ho7
        simp only [Act.put, List.setIfInBounds_toArray, List.set_cons_zero, List.set_cons_succ] at hr ⊢
        cases (hr.symm.trans (o_store (v := .agg #[.slice (some ⟨b, 0, none⟩) m.W.length cu, .slice ag m.G.length cg, .bool (badAt m i)]) (new := #[.slice (some ⟨b, 0, none⟩) m.W.length cu, .slice ag m.G.length cg, .bool (badAt m i)]) rfl rfl rfl (D1.since hs5 rfl) (by kernel_rfl) (by simp [Value.cells, Value.oneCell']) (by simp [Value.cells]) rfl))
        go_wp2
        have hE6 : Ext w (put w5 (w.heap.size + 1) (.cells #[.slice (some ⟨b, 0, none⟩) m.W.length cu, .slice ag m.G.length cg, .bool (badAt m i)] 50 (0, 0))) := Since.to_ext ((Since.of_ext (hE4.trans (Since.to_ext hs5))).put (.inl (by omega)))
        have hK : Keep (Lo b) W4 (put w5 (w.heap.size + 1) (.cells #[.slice (some ⟨b, 0, none⟩) m.W.length cu, .slice ag m.G.length cg, .bool (badAt m i)] 50 (0, 0))) := ((Keep.refl _ _).ext (Since.to_ext hs5)).put _ _ (.inr hz1)
        exact bodyPost_ret (ret_cell (D1.since hs5 rfl).put Proofs.Try.results69 rfl Proofs.Try.underlying50 rfl (by kernel_rfl)) rfl ⟨_, rfl, hE6, ⟨_, _, rfl, Own.ints (b := b) (ho2.keep (N := Lo b) hK (Nat.lt_irrefl _)) (fun hx => absurd (hN _ hx) (by omega)), hg.ext hE6⟩⟩
end Go.Proofs.Ytcfbdfgondmkoaa
/- Arenas: a word is swapped, by the document. -/
namespace Go.Proofs.Ytcfbdfgondmkoaa
open Go Go.RowKit
set_option linter.unusedSimpArgs false
set_option linter.unusedVariables false
set_option linter.unnecessarySimpa false

set_option maxHeartbeats 400000 in
set_option maxRecDepth 100000 in
theorem refCas_ (N : Nat → Prop) (va : Value) (m : Arena) (x old new : Int) (w : World) (h : IsMem N w va m) (hf : Fits m) (hN : ∀ b, N b → b < w.heap.size) :
    Gives Proofs.Try.prog 67 #[va, .int .i64 x, .int .i64 old, .int .i64 new] w (fun r w' => ∃ u, r = .tuple #[u, .bool (casIs m x old)] ∧ IsMem N w' u (casD m x old new)) := by
  have kl := fun (w' : World) (e : Ext w w') => refLoad_ _ va m x w' (h.at e) hf (Bx.lt hN e)
  have ks := fun (w' : World) (e : Ext w w') => refStore_ _ va m x new w' (h.at e) hf (Bx.lt hN e)
  obtain ⟨aw, cw, ag, cg, rfl, hw, hg⟩ := h.opened
  obtain ⟨z, hz⟩ : ∃ z, loadD m x = z := ⟨_, rfl⟩
  rw [hz] at kl
  go_enter Proofs.Try.func67, Proofs.Try.ntmps67
  go_wp2_with (fail)
  go_at_call 65
  refine (kl _ (by with_reducible (repeat (first | assumption | exact Ext.refl _ | refine Ext.alloc' ?_ _ | refine Ext.store0 ?_ _ _ | refine Ext.storek ?_ _ _ _ | refine Ext.stores0 ?_ ?_ _ _ | refine Ext.storesk ?_ ?_ _ _ _ | refine Ext.store ?_ _ _ (by first | omega | (dsimp only; omega)) | refine Ext.drewN' ?_ _ | refine Ext.drew' ?_ | refine Ext.trans ?_ (by assumption))))).calls.mono ?_
  rintro e w1 ⟨_, rfl, hb1, u, rfl, hu⟩
  have hs1 : w.heap.size + 2 ≤ w1.heap.size := by have := hb1.size; simp at this; omega
  have hsz : ((w.alloc (Obj.cells #[.slice aw m.W.length cw, .slice ag m.G.length cg, .bool m.bad] 50)).alloc (Obj.cells #[.slice none 0 0, .slice none 0 0, .bool false] 50)).heap.size = w.heap.size + 2 := by simp
  rw [hsz] at hu
  have hz' : Bx N w.heap.size (w.heap.size + 2) (w.heap.size + 1) := Bx.mem (by omega) (by omega)
  obtain ⟨xw, yw, xg, yg, rfl, hxw, hxg⟩ := hu.opened
  have hz0 : w.heap.size < w1.heap.size := by omega
  have hz1 : w.heap.size + 1 < w1.heap.size := by omega
  have B0 : Box w1 w.heap.size #[.slice aw m.W.length cw, .slice ag m.G.length cg, .bool m.bad] 50 := ((Box.new _ _ _).alloc _).ext hb1
  have B1 : Box w1 (w.heap.size + 1) #[.slice none 0 0, .slice none 0 0, .bool false] 50 := (Box.two _ _ _ _ _).ext hb1
  obtain ⟨c00, c01, c02, d00, d01, d02⟩ := cells3 B0
  obtain ⟨c10, c11, c12, d10, d11, d12⟩ := cells3 B1
  by_cases h1 : x < 0
  · have hc : casIs m x old = false := by simp [casIs, outside, h1]
    have hd : casD m x old new = touchD m x := by unfold casD; rw [hc]; rfl
    go_wp2
    refine bodyPost_ret (ret_cell_tmp ((((B1.setCell _).setCell _).setCell _).alloc _) Proofs.Try.results67 rfl Proofs.Try.underlying50 rfl (by kernel_rfl)) rfl ⟨_, rfl, (by with_reducible (repeat (first | assumption | exact Ext.refl _ | refine Ext.alloc' ?_ _ | refine Ext.store0 ?_ _ _ | refine Ext.storek ?_ _ _ _ | refine Ext.stores0 ?_ ?_ _ _ | refine Ext.storesk ?_ ?_ _ _ _ | refine Ext.store ?_ _ _ (by first | omega | (dsimp only; omega)) | refine Ext.drewN' ?_ _ | refine Ext.drew' ?_ | refine Ext.trans ?_ (by assumption)))), _, ?_, (by rw [hd]; exact IsMem.back ⟨_, _, rfl, hxw.keep (by with_reducible (repeat (first | assumption | exact Keep.refl _ _ | refine Keep.alloc ?_ _ | refine Keep.s ?_ (by first | assumption | exact Bx.mem (by omega) (by omega)) | refine Keep.n ?_ (by omega) | refine Keep.ext ?_ (by assumption) | refine Keep.drew ?_))), hxg.keep (by with_reducible (repeat (first | assumption | exact Keep.refl _ _ | refine Keep.alloc ?_ _ | refine Keep.s ?_ (by first | assumption | exact Bx.mem (by omega) (by omega)) | refine Keep.n ?_ (by omega) | refine Keep.ext ?_ (by assumption) | refine Keep.drew ?_)))⟩)⟩
    rw [hc]; rfl
  · by_cases h2 : (m.W.length : Int) ≤ x
    · have hc : casIs m x old = false := by simp [casIs, outside, h2]
      have hd : casD m x old new = touchD m x := by unfold casD; rw [hc]; rfl
      go_wp2
      refine bodyPost_ret (ret_cell_tmp ((((B1.setCell _).setCell _).setCell _).alloc _) Proofs.Try.results67 rfl Proofs.Try.underlying50 rfl (by kernel_rfl)) rfl ⟨_, rfl, (by with_reducible (repeat (first | assumption | exact Ext.refl _ | refine Ext.alloc' ?_ _ | refine Ext.store0 ?_ _ _ | refine Ext.storek ?_ _ _ _ | refine Ext.stores0 ?_ ?_ _ _ | refine Ext.storesk ?_ ?_ _ _ _ | refine Ext.store ?_ _ _ (by first | omega | (dsimp only; omega)) | refine Ext.drewN' ?_ _ | refine Ext.drew' ?_ | refine Ext.trans ?_ (by assumption)))), _, ?_, (by rw [hd]; exact IsMem.back ⟨_, _, rfl, hxw.keep (by with_reducible (repeat (first | assumption | exact Keep.refl _ _ | refine Keep.alloc ?_ _ | refine Keep.s ?_ (by first | assumption | exact Bx.mem (by omega) (by omega)) | refine Keep.n ?_ (by omega) | refine Keep.ext ?_ (by assumption) | refine Keep.drew ?_))), hxg.keep (by with_reducible (repeat (first | assumption | exact Keep.refl _ _ | refine Keep.alloc ?_ _ | refine Keep.s ?_ (by first | assumption | exact Bx.mem (by omega) (by omega)) | refine Keep.n ?_ (by omega) | refine Keep.ext ?_ (by assumption) | refine Keep.drew ?_)))⟩)⟩
      rw [hc]; rfl
    · have hout : outside m x = false := by simp [outside]; omega
      have hzz : z = gi m.W x.toNat := by rw [← hz]; unfold loadD; rw [if_neg (by rw [hout]; simp)]
      by_cases h3 : z = old
      · have h3' : (z != old) = false := by simp [h3]
        have hc : casIs m x old = true := by simp [casIs, hout, ← hzz, h3]
        have hd : casD m x old new = storeD m x new := by unfold casD; rw [hc]; rfl
        clear hzz hz
        go_wp2_with (fail)
        go_at_call 69
        refine (ks _ (by with_reducible (repeat (first | assumption | exact Ext.refl _ | refine Ext.alloc' ?_ _ | refine Ext.store0 ?_ _ _ | refine Ext.storek ?_ _ _ _ | refine Ext.stores0 ?_ ?_ _ _ | refine Ext.storesk ?_ ?_ _ _ _ | refine Ext.store ?_ _ _ (by first | omega | (dsimp only; omega)) | refine Ext.drewN' ?_ _ | refine Ext.drew' ?_ | refine Ext.trans ?_ (by assumption))))).calls.mono ?_
        rintro e w2 ⟨u2, rfl, hb2, hu2⟩
        obtain ⟨pw, qw, pg, qg, rfl, hpw, hpg⟩ := hu2.opened
        have C1 : Box w2 (w.heap.size + 1) #[.slice none 0 0, .slice none 0 0, .bool false] 50 := (B1.alloc _).ext hb2
        have hs2 : w1.heap.size + 1 ≤ w2.heap.size := by have := hb2.size; simp at this; omega
        have hz2 : Bx N w.heap.size (w1.alloc (Obj.cells #[.slice xw (touchD m x).W.length yw, .slice xg (touchD m x).G.length yg, .bool (touchD m x).bad] 50)).heap.size (w.heap.size + 1) := Bx.mem (by omega) (by simp; omega)
        clear c10 c11 c12 d10 d11 d12
        obtain ⟨c10, c11, c12, d10, d11, d12⟩ := cells3 C1
        have hE2 : Ext w w2 := (show Ext w w1 from (by with_reducible (repeat (first | assumption | exact Ext.refl _ | refine Ext.alloc' ?_ _ | refine Ext.store0 ?_ _ _ | refine Ext.storek ?_ _ _ _ | refine Ext.stores0 ?_ ?_ _ _ | refine Ext.storesk ?_ ?_ _ _ _ | refine Ext.store ?_ _ _ (by first | omega | (dsimp only; omega)) | refine Ext.drewN' ?_ _ | refine Ext.drew' ?_ | refine Ext.trans ?_ (by assumption))))).trans ((Ext.alloc _ _).trans hb2)
        go_wp2
        refine bodyPost_ret (ret_cell_tmp (((C1.setCell _).setCell _).setCell _) Proofs.Try.results67 rfl Proofs.Try.underlying50 rfl (by kernel_rfl)) rfl ⟨_, rfl, (by with_reducible (repeat (first | assumption | exact Ext.refl _ | refine Ext.alloc' ?_ _ | refine Ext.store0 ?_ _ _ | refine Ext.storek ?_ _ _ _ | refine Ext.stores0 ?_ ?_ _ _ | refine Ext.storesk ?_ ?_ _ _ _ | refine Ext.store ?_ _ _ (by first | omega | (dsimp only; omega)) | refine Ext.drewN' ?_ _ | refine Ext.drew' ?_ | refine Ext.trans ?_ (by assumption)))), _, ?_, (by rw [hd]; exact IsMem.back ⟨_, _, rfl, hpw.keep (by with_reducible (repeat (first | assumption | exact Keep.refl _ _ | refine Keep.alloc ?_ _ | refine Keep.s ?_ (by first | assumption | exact Bx.mem (by omega) (by omega)) | refine Keep.n ?_ (by omega) | refine Keep.ext ?_ (by assumption) | refine Keep.drew ?_))), hpg.keep (by with_reducible (repeat (first | assumption | exact Keep.refl _ _ | refine Keep.alloc ?_ _ | refine Keep.s ?_ (by first | assumption | exact Bx.mem (by omega) (by omega)) | refine Keep.n ?_ (by omega) | refine Keep.ext ?_ (by assumption) | refine Keep.drew ?_)))⟩)⟩
        rw [hc]; rfl
      · have h3' : (z != old) = true := by simp [h3]
        have hc : casIs m x old = false := by simp [casIs, hout, ← hzz, h3]
        have hd : casD m x old new = touchD m x := by unfold casD; rw [hc]; rfl
        clear hzz hz
        go_wp2
        refine bodyPost_ret (ret_cell_tmp ((((B1.setCell _).setCell _).setCell _).alloc _) Proofs.Try.results67 rfl Proofs.Try.underlying50 rfl (by kernel_rfl)) rfl ⟨_, rfl, (by with_reducible (repeat (first | assumption | exact Ext.refl _ | refine Ext.alloc' ?_ _ | refine Ext.store0 ?_ _ _ | refine Ext.storek ?_ _ _ _ | refine Ext.stores0 ?_ ?_ _ _ | refine Ext.storesk ?_ ?_ _ _ _ | refine Ext.store ?_ _ _ (by first | omega | (dsimp only; omega)) | refine Ext.drewN' ?_ _ | refine Ext.drew' ?_ | refine Ext.trans ?_ (by assumption)))), _, ?_, (by rw [hd]; exact IsMem.back ⟨_, _, rfl, hxw.keep (by with_reducible (repeat (first | assumption | exact Keep.refl _ _ | refine Keep.alloc ?_ _ | refine Keep.s ?_ (by first | assumption | exact Bx.mem (by omega) (by omega)) | refine Keep.n ?_ (by omega) | refine Keep.ext ?_ (by assumption) | refine Keep.drew ?_))), hxg.keep (by with_reducible (repeat (first | assumption | exact Keep.refl _ _ | refine Keep.alloc ?_ _ | refine Keep.s ?_ (by first | assumption | exact Bx.mem (by omega) (by omega)) | refine Keep.n ?_ (by omega) | refine Keep.ext ?_ (by assumption) | refine Keep.drew ?_)))⟩)⟩
        rw [hc]; rfl
end Go.Proofs.Ytcfbdfgondmkoaa
/- Arenas: a new one. -/
namespace Go.Proofs.Ytcfbdfgondmkoaa
open Go Go.RowKit
set_option linter.unusedSimpArgs false
set_option linter.unusedVariables false
set_option linter.unnecessarySimpa false

def isRow (B n : Nat) : GP := fun v w => ∃ b, v = .slice (some ⟨b, 0, none⟩) n n ∧ B ≤ b ∧ Own w v (List.replicate n 0) b
theorem stable_isRow (B n : Nat) : Stable (isRow B n) := fun _ _ _ ⟨b, h1, h2, h3⟩ hx => ⟨b, h1, h2, h3.ext hx⟩
def isFresh (B n : Nat) : GP := fun v w => ∃ b1 b2, v = .agg #[.slice (some ⟨b1, 0, none⟩) (128 + 4 * n) (128 + 4 * n), .slice (some ⟨b2, 0, none⟩) (n + 1) (n + 1), .bool false] ∧ B ≤ b1 ∧ B ≤ b2 ∧
  Own w (.slice (some ⟨b1, 0, none⟩) (128 + 4 * n) (128 + 4 * n)) (List.replicate (128 + 4 * n) 0) b1 ∧ Own w (.slice (some ⟨b2, 0, none⟩) (n + 1) (n + 1)) (List.replicate (n + 1) 0) b2
theorem stable_isFresh (B n : Nat) : Stable (isFresh B n) := fun _ _ _ ⟨b1, b2, h1, h2, h3, h4, h5⟩ hx => ⟨b1, b2, h1, h2, h3, h4.ext hx, h5.ext hx⟩
theorem yes_make {o : Oper} {a : Act} {w : World} {x y : Operand} {z : Int} {n B : Nat} (ho : o.op = .makeSlice 48 x y) (hx : a.eval x = .int .i64 z) (hy : a.eval y = .int .i64 z) (hz : z = (n : Nat)) (h : n ≤ 100000) (hd : o.dst.isSome = true) (hB : B ≤ w.heap.size) :
    Yes Proofs.Try.prog o a w (isRow B n) := by
  subst hz
  refine yes_val (v := .slice (some ⟨w.heap.size, 0, none⟩) n n) (w' := w.alloc (.cells (zeros n) 3)) ?_ (Ext.alloc _ _) ⟨_, rfl, hB, Own.made w n h⟩ hd
  have := run_mk48 n h w
  simp [execOp, ho, hx, hy, this]
theorem runs_ok {P : Program} {o : Oper} {a : Act} {w : World} {v : Value} (h : Runs P o a w v) : (execOp a.eval o).run P w = .ok (.value v) w := h
def newD (x : Int) : Arena := if 1 ≤ x ∧ x ≤ 200 then ⟨List.replicate (128 + 4 * x.toNat) 0, List.replicate (x.toNat + 1) 0, false⟩ else ⟨[], [], false⟩
def newE (x : Int) : Int := if 1 ≤ x ∧ x ≤ 200 then 0 else 1

set_option maxHeartbeats 400000 in
set_option maxRecDepth 100000 in
theorem memNew_ (N : Nat → Prop) (x : Int) (w : World) (hN : ∀ b, N b → b < w.heap.size) : Gives Proofs.Try.prog 51 #[.int .i64 x] w (fun r w' => ∃ u, r = .tuple #[u, .int .i64 (newE x)] ∧ IsMem N w' u (newD x)) := by
  by_cases h1 : x < 1
  · have hd : newD x = ⟨[], [], false⟩ := by unfold newD; rw [if_neg (by omega)]
    have he : newE x = 1 := by unfold newE; rw [if_neg (by omega)]
    rw [hd, he]
    go_enter Proofs.Try.func51, Proofs.Try.ntmps51
    go_wp2
    exact bodyPost_ret (ret_cell_tmp (Box.new _ _ _) Proofs.Try.results51 rfl Proofs.Try.underlying50 rfl (by kernel_rfl)) rfl ⟨_, rfl, (by with_reducible (repeat (first | assumption | exact Ext.refl _ | refine Ext.alloc' ?_ _ | refine Ext.store0 ?_ _ _ | refine Ext.storek ?_ _ _ _ | refine Ext.stores0 ?_ ?_ _ _ | refine Ext.storesk ?_ ?_ _ _ _ | refine Ext.store ?_ _ _ (by first | omega | (dsimp only; omega)) | refine Ext.drewN' ?_ _ | refine Ext.drew' ?_ | refine Ext.trans ?_ (by assumption)))), _, rfl, ⟨_, _, rfl, ⟨none, 0, rfl, by simp, by omega, fun _ => rfl, fun i hi => by simp at hi⟩, ⟨none, 0, rfl, by simp, by omega, fun _ => rfl, fun i hi => by simp at hi⟩⟩⟩
  · by_cases h2 : 200 < x
    · have hd : newD x = ⟨[], [], false⟩ := by unfold newD; rw [if_neg (by omega)]
      have he : newE x = 1 := by unfold newE; rw [if_neg (by omega)]
      rw [hd, he]
      go_enter Proofs.Try.func51, Proofs.Try.ntmps51
      go_wp2
      exact bodyPost_ret (ret_cell_tmp (Box.new _ _ _) Proofs.Try.results51 rfl Proofs.Try.underlying50 rfl (by kernel_rfl)) rfl ⟨_, rfl, (by with_reducible (repeat (first | assumption | exact Ext.refl _ | refine Ext.alloc' ?_ _ | refine Ext.store0 ?_ _ _ | refine Ext.storek ?_ _ _ _ | refine Ext.stores0 ?_ ?_ _ _ | refine Ext.storesk ?_ ?_ _ _ _ | refine Ext.store ?_ _ _ (by first | omega | (dsimp only; omega)) | refine Ext.drewN' ?_ _ | refine Ext.drew' ?_ | refine Ext.trans ?_ (by assumption)))), _, rfl, ⟨_, _, rfl, ⟨none, 0, rfl, by simp, by omega, fun _ => rfl, fun i hi => by simp at hi⟩, ⟨none, 0, rfl, by simp, by omega, fun _ => rfl, fun i hi => by simp at hi⟩⟩⟩
    · obtain ⟨n, rfl⟩ : ∃ n : Nat, x = n := ⟨x.toNat, by omega⟩
      have hd : newD n = ⟨List.replicate (128 + 4 * n) 0, List.replicate (n + 1) 0, false⟩ := by unfold newD; rw [if_pos (by omega)]; simp
      have he : newE n = 0 := by unfold newE; rw [if_pos (by omega)]
      rw [hd, he]
      go_enter Proofs.Try.func51, Proofs.Try.ntmps51
      go_wp2_with (fail)
      obtain ⟨W, hW⟩ : ∃ W, W = w.alloc (Obj.cells #[.slice none 0 0, .slice none 0 0, .bool false] 50) := ⟨_, rfl⟩
      have hEW : Ext w W := by rw [hW]; exact (by with_reducible (repeat (first | assumption | exact Ext.refl _ | refine Ext.alloc' ?_ _ | refine Ext.store0 ?_ _ _ | refine Ext.storek ?_ _ _ _ | refine Ext.stores0 ?_ ?_ _ _ | refine Ext.storesk ?_ ?_ _ _ _ | refine Ext.store ?_ _ _ (by first | omega | (dsimp only; omega)) | refine Ext.drewN' ?_ _ | refine Ext.drew' ?_ | refine Ext.trans ?_ (by assumption))))
      have hsz : W.heap.size = w.heap.size + 1 := by rw [hW]; simp
      have B0 : Box W w.heap.size #[.slice none 0 0, .slice none 0 0, .bool false] 50 := by rw [hW]; exact Box.new _ _ _
      rw [← hW]
      clear hW
      apply region_lit2 (T := [8]) (L := [9]) (X := [w.heap.size]) (G := [eqv _, eqv (.int .i64 (4 * (n : Int))), eqv (.int .i64 (128 + 4 * (n : Int))), isRow W.heap.size (128 + 4 * n), eqv _, eqv (.int .i64 ((n : Int) + 1)), isRow W.heap.size (n + 1), isFresh W.heap.size n, anyG, eqv _])
      case hm => kernel_rfl
      case hop =>
        refine ⟨?_, ?_, ?_, ?_, ?_, ?_, ?_, ?_, ?_, ?_, trivial⟩
        · intro a wa hs hf hd
          have t0 := hf.off 0 (by kernel_rfl) rfl
          exact plain_ rfl (yes_eqv (o_move rfl t0) rfl)
        · intro a wa hs hf hd
          have t11 : a.eval (.tmp 11) = _ := hd.at 0 11 (by kernel_rfl)
          exact plain_ rfl (yes_eqv (o_mul rfl rfl t11 (by rw [IntKind.wrap_i64]; omega)) rfl)
        · intro a wa hs hf hd
          have t12 : a.eval (.tmp 12) = _ := hd.at 1 12 (by kernel_rfl)
          exact plain_ rfl (yes_eqv (o_add rfl rfl t12 (by rw [IntKind.wrap_i64]; omega)) rfl)
        · intro a wa hs hf hd
          have t13 : a.eval (.tmp 13) = _ := hd.at 2 13 (by kernel_rfl)
          exact plain_ rfl (yes_make rfl t13 t13 (by omega) (by omega) rfl hs.size)
        · intro a wa hs hf hd
          have t0 := hf.off 0 (by kernel_rfl) rfl
          exact plain_ rfl (yes_eqv (o_move rfl t0) rfl)
        · intro a wa hs hf hd
          have t15 : a.eval (.tmp 15) = _ := hd.at 4 15 (by kernel_rfl)
          exact plain_ rfl (yes_eqv (o_add rfl t15 rfl (by rw [IntKind.wrap_i64]; omega)) rfl)
        · intro a wa hs hf hd
          have t16 : a.eval (.tmp 16) = _ := hd.at 5 16 (by kernel_rfl)
          exact plain_ rfl (yes_make rfl t16 t16 (by omega) (by omega) rfl hs.size)
        · intro a wa hs hf hd
          have t14 := hd.at 3 14 (by kernel_rfl)
          have t17 := hd.at 6 17 (by kernel_rfl)
          obtain ⟨b1, hv1, h1, o1⟩ := t14
          obtain ⟨b2, hv2, h2, o2⟩ := t17
          exact plain_ rfl (yes_val (runs_ok (o_build (cells := #[.slice (some ⟨b1, 0, none⟩) (128 + 4 * n) (128 + 4 * n), .slice (some ⟨b2, 0, none⟩) (n + 1) (n + 1), .bool false]) rfl (by simp only [List.map_toArray, List.map_cons, List.map_nil, hv1, hv2]; first | done | rfl) rfl)) (Ext.refl _) ⟨b1, b2, rfl, h1, h2, by rw [← hv1]; exact o1, by rw [← hv2]; exact o2⟩ rfl)
        · intro a wb wa hs1 hs hf hd hrun
          have t2 := hf.off 2 (by kernel_rfl) rfl
          have t18 := hd.at 7 18 (by kernel_rfl)
          subst hrun; obtain ⟨b1, b2, hv, h1, h2, o1, o2⟩ := t18; exact ⟨_, o_store rfl t2 hv (B0.since hs1 rfl) (by kernel_rfl) (by simp [Value.cells, Value.oneCell']) (by simp [Value.cells]) rfl, Since.put hs (.inr (by simp))⟩
        · intro a wb wa hs1 hs hf hd
          exact plain_ rfl (late_eqv (o_assign rfl rfl) rfl)
      case hG => exact ⟨stable_eqv _, stable_eqv _, stable_eqv _, stable_isRow _ _, stable_eqv _, stable_eqv _, stable_isRow _ _, stable_isFresh _ _, stable_any, stable_eqv _, trivial⟩
      case hc => kernel_rfl
      case hfin =>
        intro w5 hs5
        rintro _ rfl _ rfl _ rfl _ ⟨b3, rfl, hb3, ho3⟩ _ rfl _ rfl _ ⟨b4, rfl, hb4, ho4⟩ _ ⟨b1, b2, rfl, hb1, hb2, ho1, ho2⟩ _ rfl
        rintro w6 ⟨o, w7, ho7, hr, rfl⟩
        cases ho7
        simp only [Act.put, List.setIfInBounds_toArray, List.set_cons_zero, List.set_cons_succ] at hr ⊢
        cases (hr.symm.trans (o_store (v := .agg #[.slice (some ⟨b1, 0, none⟩) (128 + 4 * n) (128 + 4 * n), .slice (some ⟨b2, 0, none⟩) (n + 1) (n + 1), .bool false]) (new := #[.slice (some ⟨b1, 0, none⟩) (128 + 4 * n) (128 + 4 * n), .slice (some ⟨b2, 0, none⟩) (n + 1) (n + 1), .bool false]) rfl rfl rfl (B0.since hs5 rfl) (by kernel_rfl) (by simp [Value.cells, Value.oneCell']) (by simp [Value.cells]) rfl))
        go_wp2
        have hE6 : Ext w (put w5 w.heap.size (.cells #[.slice (some ⟨b1, 0, none⟩) (128 + 4 * n) (128 + 4 * n), .slice (some ⟨b2, 0, none⟩) (n + 1) (n + 1), .bool false] 50 (0, 0))) := Since.to_ext ((Since.of_ext (hEW.trans (Since.to_ext hs5))).put (.inl (Nat.le_refl _)))
        have hK : Keep (Lo W.heap.size) w5 (put w5 w.heap.size (.cells #[.slice (some ⟨b1, 0, none⟩) (128 + 4 * n) (128 + 4 * n), .slice (some ⟨b2, 0, none⟩) (n + 1) (n + 1), .bool false] 50 (0, 0))) := (Keep.refl _ _).put _ _ (.inr (by show _ < _; omega))
        exact bodyPost_ret (ret_cell_tmp (B0.since hs5 rfl).put Proofs.Try.results51 rfl Proofs.Try.underlying50 rfl (by kernel_rfl)) rfl ⟨_, rfl, hE6, _, rfl, ⟨_, _, rfl, Own.ints (b := b1) (ho1.keep (N := Lo W.heap.size) hK (by show ¬ _ < _; omega)) (fun hx => absurd (hN _ hx) (by omega)), Own.ints (b := b2) (ho2.keep (N := Lo W.heap.size) hK (by show ¬ _ < _; omega)) (fun hx => absurd (hN _ hx) (by omega))⟩⟩

set_option maxHeartbeats 400000 in
set_option maxRecDepth 100000 in
theorem refNew_ (N : Nat → Prop) (x : Int) (w : World) (hN : ∀ b, N b → b < w.heap.size) : Gives Proofs.Try.prog 52 #[.int .i64 x] w (fun r w' => ∃ u, r = .tuple #[u, .int .i64 (newE x)] ∧ IsMem N w' u (newD x)) := by
  by_cases h1 : x < 1
  · have hd : newD x = ⟨[], [], false⟩ := by unfold newD; rw [if_neg (by omega)]
    have he : newE x = 1 := by unfold newE; rw [if_neg (by omega)]
    rw [hd, he]
    go_enter Proofs.Try.func52, Proofs.Try.ntmps52
    go_wp2
    exact bodyPost_ret (ret_cell_tmp (Box.new _ _ _) Proofs.Try.results52 rfl Proofs.Try.underlying50 rfl (by kernel_rfl)) rfl ⟨_, rfl, (by with_reducible (repeat (first | assumption | exact Ext.refl _ | refine Ext.alloc' ?_ _ | refine Ext.store0 ?_ _ _ | refine Ext.storek ?_ _ _ _ | refine Ext.stores0 ?_ ?_ _ _ | refine Ext.storesk ?_ ?_ _ _ _ | refine Ext.store ?_ _ _ (by first | omega | (dsimp only; omega)) | refine Ext.drewN' ?_ _ | refine Ext.drew' ?_ | refine Ext.trans ?_ (by assumption)))), _, rfl, ⟨_, _, rfl, ⟨none, 0, rfl, by simp, by omega, fun _ => rfl, fun i hi => by simp at hi⟩, ⟨none, 0, rfl, by simp, by omega, fun _ => rfl, fun i hi => by simp at hi⟩⟩⟩
  · by_cases h2 : 200 < x
    · have hd : newD x = ⟨[], [], false⟩ := by unfold newD; rw [if_neg (by omega)]
      have he : newE x = 1 := by unfold newE; rw [if_neg (by omega)]
      rw [hd, he]
      go_enter Proofs.Try.func52, Proofs.Try.ntmps52
      go_wp2
      exact bodyPost_ret (ret_cell_tmp (Box.new _ _ _) Proofs.Try.results52 rfl Proofs.Try.underlying50 rfl (by kernel_rfl)) rfl ⟨_, rfl, (by with_reducible (repeat (first | assumption | exact Ext.refl _ | refine Ext.alloc' ?_ _ | refine Ext.store0 ?_ _ _ | refine Ext.storek ?_ _ _ _ | refine Ext.stores0 ?_ ?_ _ _ | refine Ext.storesk ?_ ?_ _ _ _ | refine Ext.store ?_ _ _ (by first | omega | (dsimp only; omega)) | refine Ext.drewN' ?_ _ | refine Ext.drew' ?_ | refine Ext.trans ?_ (by assumption)))), _, rfl, ⟨_, _, rfl, ⟨none, 0, rfl, by simp, by omega, fun _ => rfl, fun i hi => by simp at hi⟩, ⟨none, 0, rfl, by simp, by omega, fun _ => rfl, fun i hi => by simp at hi⟩⟩⟩
    · obtain ⟨n, rfl⟩ : ∃ n : Nat, x = n := ⟨x.toNat, by omega⟩
      have hd : newD n = ⟨List.replicate (128 + 4 * n) 0, List.replicate (n + 1) 0, false⟩ := by unfold newD; rw [if_pos (by omega)]; simp
      have he : newE n = 0 := by unfold newE; rw [if_pos (by omega)]
      rw [hd, he]
      go_enter Proofs.Try.func52, Proofs.Try.ntmps52
      go_wp2_with (fail)
      obtain ⟨W, hW⟩ : ∃ W, W = w.alloc (Obj.cells #[.slice none 0 0, .slice none 0 0, .bool false] 50) := ⟨_, rfl⟩
      have hEW : Ext w W := by rw [hW]; exact (by with_reducible (repeat (first | assumption | exact Ext.refl _ | refine Ext.alloc' ?_ _ | refine Ext.store0 ?_ _ _ | refine Ext.storek ?_ _ _ _ | refine Ext.stores0 ?_ ?_ _ _ | refine Ext.storesk ?_ ?_ _ _ _ | refine Ext.store ?_ _ _ (by first | omega | (dsimp only; omega)) | refine Ext.drewN' ?_ _ | refine Ext.drew' ?_ | refine Ext.trans ?_ (by assumption))))
      have hsz : W.heap.size = w.heap.size + 1 := by rw [hW]; simp
      have B0 : Box W w.heap.size #[.slice none 0 0, .slice none 0 0, .bool false] 50 := by rw [hW]; exact Box.new _ _ _
      rw [← hW]
      clear hW
      apply region_lit2 (T := [8]) (L := [9]) (X := [w.heap.size]) (G := [eqv _, eqv (.int .i64 (4 * (n : Int))), eqv (.int .i64 (128 + 4 * (n : Int))), isRow W.heap.size (128 + 4 * n), eqv _, eqv (.int .i64 ((n : Int) + 1)), isRow W.heap.size (n + 1), isFresh W.heap.size n, anyG, eqv _])
      case hm => kernel_rfl
      case hop =>
        refine ⟨?_, ?_, ?_, ?_, ?_, ?_, ?_, ?_, ?_, ?_, trivial⟩
        · intro a wa hs hf hd
          have t0 := hf.off 0 (by kernel_rfl) rfl
          exact plain_ rfl (yes_eqv (o_move rfl t0) rfl)
        · intro a wa hs hf hd
          have t11 : a.eval (.tmp 11) = _ := hd.at 0 11 (by kernel_rfl)
          exact plain_ rfl (yes_eqv (o_mul rfl rfl t11 (by rw [IntKind.wrap_i64]; omega)) rfl)
        · intro a wa hs hf hd
          have t12 : a.eval (.tmp 12) = _ := hd.at 1 12 (by kernel_rfl)
          exact plain_ rfl (yes_eqv (o_add rfl rfl t12 (by rw [IntKind.wrap_i64]; omega)) rfl)
        · intro a wa hs hf hd
          have t13 : a.eval (.tmp 13) = _ := hd.at 2 13 (by kernel_rfl)
          exact plain_ rfl (yes_make rfl t13 t13 (by omega) (by omega) rfl hs.size)
        · intro a wa hs hf hd
          have t0 := hf.off 0 (by kernel_rfl) rfl
          exact plain_ rfl (yes_eqv (o_move rfl t0) rfl)
        · intro a wa hs hf hd
          have t15 : a.eval (.tmp 15) = _ := hd.at 4 15 (by kernel_rfl)
          exact plain_ rfl (yes_eqv (o_add rfl t15 rfl (by rw [IntKind.wrap_i64]; omega)) rfl)
        · intro a wa hs hf hd
          have t16 : a.eval (.tmp 16) = _ := hd.at 5 16 (by kernel_rfl)
          exact plain_ rfl (yes_make rfl t16 t16 (by omega) (by omega) rfl hs.size)
        · intro a wa hs hf hd
          have t14 := hd.at 3 14 (by kernel_rfl)
          have t17 := hd.at 6 17 (by kernel_rfl)
          obtain ⟨b1, hv1, h1, o1⟩ := t14
          obtain ⟨b2, hv2, h2, o2⟩ := t17
          exact plain_ rfl (yes_val (runs_ok (o_build (cells := #[.slice (some ⟨b1, 0, none⟩) (128 + 4 * n) (128 + 4 * n), .slice (some ⟨b2, 0, none⟩) (n + 1) (n + 1), .bool false]) rfl (by simp only [List.map_toArray, List.map_cons, List.map_nil, hv1, hv2]; first | done | rfl) rfl)) (Ext.refl _) ⟨b1, b2, rfl, h1, h2, by rw [← hv1]; exact o1, by rw [← hv2]; exact o2⟩ rfl)
        · intro a wb wa hs1 hs hf hd hrun
          have t2 := hf.off 2 (by kernel_rfl) rfl
          have t18 := hd.at 7 18 (by kernel_rfl)
          subst hrun; obtain ⟨b1, b2, hv, h1, h2, o1, o2⟩ := t18; exact ⟨_, o_store rfl t2 hv (B0.since hs1 rfl) (by kernel_rfl) (by simp [Value.cells, Value.oneCell']) (by simp [Value.cells]) rfl, Since.put hs (.inr (by simp))⟩
        · intro a wb wa hs1 hs hf hd
          exact plain_ rfl (late_eqv (o_assign rfl rfl) rfl)
      case hG => exact ⟨stable_eqv _, stable_eqv _, stable_eqv _, stable_isRow _ _, stable_eqv _, stable_eqv _, stable_isRow _ _, stable_isFresh _ _, stable_any, stable_eqv _, trivial⟩
      case hc => kernel_rfl
      case hfin =>
        intro w5 hs5
        rintro _ rfl _ rfl _ rfl _ ⟨b3, rfl, hb3, ho3⟩ _ rfl _ rfl _ ⟨b4, rfl, hb4, ho4⟩ _ ⟨b1, b2, rfl, hb1, hb2, ho1, ho2⟩ _ rfl
        rintro w6 ⟨o, w7, ho7, hr, rfl⟩
        cases ho7
        simp only [Act.put, List.setIfInBounds_toArray, List.set_cons_zero, List.set_cons_succ] at hr ⊢
        cases (hr.symm.trans (o_store (v := .agg #[.slice (some ⟨b1, 0, none⟩) (128 + 4 * n) (128 + 4 * n), .slice (some ⟨b2, 0, none⟩) (n + 1) (n + 1), .bool false]) (new := #[.slice (some ⟨b1, 0, none⟩) (128 + 4 * n) (128 + 4 * n), .slice (some ⟨b2, 0, none⟩) (n + 1) (n + 1), .bool false]) rfl rfl rfl (B0.since hs5 rfl) (by kernel_rfl) (by simp [Value.cells, Value.oneCell']) (by simp [Value.cells]) rfl))
        go_wp2
        have hE6 : Ext w (put w5 w.heap.size (.cells #[.slice (some ⟨b1, 0, none⟩) (128 + 4 * n) (128 + 4 * n), .slice (some ⟨b2, 0, none⟩) (n + 1) (n + 1), .bool false] 50 (0, 0))) := Since.to_ext ((Since.of_ext (hEW.trans (Since.to_ext hs5))).put (.inl (Nat.le_refl _)))
        have hK : Keep (Lo W.heap.size) w5 (put w5 w.heap.size (.cells #[.slice (some ⟨b1, 0, none⟩) (128 + 4 * n) (128 + 4 * n), .slice (some ⟨b2, 0, none⟩) (n + 1) (n + 1), .bool false] 50 (0, 0))) := (Keep.refl _ _).put _ _ (.inr (by show _ < _; omega))
        exact bodyPost_ret (ret_cell_tmp (B0.since hs5 rfl).put Proofs.Try.results52 rfl Proofs.Try.underlying50 rfl (by kernel_rfl)) rfl ⟨_, rfl, hE6, _, rfl, ⟨_, _, rfl, Own.ints (b := b1) (ho1.keep (N := Lo W.heap.size) hK (by show ¬ _ < _; omega)) (fun hx => absurd (hN _ hx) (by omega)), Own.ints (b := b2) (ho2.keep (N := Lo W.heap.size) hK (by show ¬ _ < _; omega)) (fun hx => absurd (hN _ hx) (by omega))⟩⟩
end Go.Proofs.Ytcfbdfgondmkoaa
/- Arenas: the document's example. -/
namespace Go.Proofs.Ytcfbdfgondmkoaa
open Go Go.RowKit
set_option linter.unusedSimpArgs false
set_option linter.unusedVariables false
set_option linter.unnecessarySimpa false

theorem yes_runs {P : Program} {o : Oper} {a : Act} {w : World} {v : Value} {g : GP} (h : Runs P o a w v) (hg : g v w) (hd : o.dst.isSome = true) : Yes P o a w g := yes_val (runs_ok h) (Ext.refl _) hg hd
def no : Nat → Prop := fun _ => False
theorem no_lt {w : World} : ∀ b, no b → b < w.heap.size := fun _ h => h.elim
instance (m : Arena) : Decidable (Fits m) := by unfold Fits; infer_instance
/-- an arena and a word -/
def isLoad (m : Arena) (z : Int) : GP := fun v w => ∃ u, v = .tuple #[u, .int .i64 z] ∧ IsMem no w u m
theorem stable_isLoad (m : Arena) (z : Int) : Stable (isLoad m z) := fun _ _ _ ⟨u, h1, h2⟩ hx => ⟨u, h1, h2.ext hx⟩
def isM (m : Arena) : GP := fun v w => IsMem no w v m
theorem stable_isM (m : Arena) : Stable (isM m) := fun _ _ _ h hx => IsMem.ext h hx

def shM : Arena := newD 1
def shA : Arena := touchD shM 131
def shT : Arena := turnMD shM 1 1
def shS : Arena := storeD shT 131 7
def shB : Arena := touchD shS 131
def shC : Arena := casD shS 131 7 8
theorem IsMem.lit {N : Nat → Prop} {w : World} {v : Value} {m : Arena} (h : IsMem N w v m) {a b : Nat} {c : Bool} (h1 : m.W.length = a) (h2 : m.G.length = b) (h3 : m.bad = c) : ∃ aw cw ag cg, v = .agg #[.slice aw a cw, .slice ag b cg, .bool c] ∧ IsInts N w (.slice aw a cw) m.W ∧ IsInts N w (.slice ag b cg) m.G := by
  subst h1 h2 h3
  exact h.opened
theorem shMW : shM.W.length = 132 := by kernel_rfl
theorem shMG : shM.G.length = 2 := by kernel_rfl
theorem shMb : shM.bad = false := by kernel_rfl
theorem shAW : shA.W.length = 132 := by kernel_rfl
theorem shAG : shA.G.length = 2 := by kernel_rfl
theorem shAb : shA.bad = true := by kernel_rfl
theorem shTW : shT.W.length = 132 := by kernel_rfl
theorem shTG : shT.G.length = 2 := by kernel_rfl
theorem shTb : shT.bad = false := by kernel_rfl
theorem shSW : shS.W.length = 132 := by kernel_rfl
theorem shSG : shS.G.length = 2 := by kernel_rfl
theorem shSb : shS.bad = false := by kernel_rfl
theorem shBW : shB.W.length = 132 := by kernel_rfl
theorem shBG : shB.G.length = 2 := by kernel_rfl
theorem shBb : shB.bad = false := by kernel_rfl
theorem shCW : shC.W.length = 132 := by kernel_rfl
theorem shCG : shC.G.length = 2 := by kernel_rfl
theorem shCb : shC.bad = false := by kernel_rfl
theorem shMF : Fits shM := of_decide_eq_true (by kernel_rfl)
theorem shTF : Fits shT := of_decide_eq_true (by kernel_rfl)
theorem shSF : Fits shS := of_decide_eq_true (by kernel_rfl)
theorem shF6 : gi shC.W 131 = 8 := by kernel_rfl
theorem shF7 : nodeD shM.W.length 131 = 1 := by kernel_rfl
theorem shF8 : countD shT.G 1 1 = 1 := by kernel_rfl
theorem shF9 : rightD shC = true := by kernel_rfl
theorem shF10 : sameD shB shC = false := by kernel_rfl
theorem shF11 : loadD shS 131 = 7 := by kernel_rfl
theorem shF12 : casIs shS 131 7 = true := by kernel_rfl
theorem shF13 : newE 1 = 0 := by kernel_rfl
theorem shF14 : 1 ≤ shT.G.length := by rw [shTG]; decide

set_option maxHeartbeats 1000000 in
set_option maxRecDepth 100000 in
theorem shown2_ (w : World) : Gives Proofs.Try.prog 49 #[] w (eqv (.bool true)) := by
  go_enter Proofs.Try.func49, Proofs.Try.ntmps49
  go_wp2_with (fail)
  go_at_call 51
  refine (memNew_ no 1 _ no_lt).calls.mono ?_
  rintro e w1 ⟨_, rfl, hb1, u, rfl, hu⟩
  have hu : IsMem no w1 u shM := hu
  rw [shF13]
  obtain ⟨m1, m2, m3, m4, rfl, wm, gm⟩ := hu.lit shMW shMG shMb
  go_wp2_with (fail)
  obtain ⟨W, hW⟩ : ∃ W, W = w1.alloc (Obj.cells #[.slice m1 132 m2, .slice m3 2 m4, .bool false] 50) := ⟨_, rfl⟩
  have hEW : Ext w1 W := by rw [hW]; exact (by with_reducible (repeat (first | assumption | exact Ext.refl _ | refine Ext.alloc' ?_ _ | refine Ext.store0 ?_ _ _ | refine Ext.storek ?_ _ _ _ | refine Ext.stores0 ?_ ?_ _ _ | refine Ext.storesk ?_ ?_ _ _ _ | refine Ext.store ?_ _ _ (by first | omega | (dsimp only; omega)) | refine Ext.drewN' ?_ _ | refine Ext.drew' ?_ | refine Ext.trans ?_ (by assumption))))
  have Bm : Box W w1.heap.size #[.slice m1 132 m2, .slice m3 2 m4, .bool false] 50 := by rw [hW]; exact Box.new _ _ _
  rw [← hW]
  have hsz : W.heap.size = w1.heap.size + 1 := by rw [hW]; simp
  clear hW
  apply region_lit2 (T := [7]) (L := [5, 8]) (X := []) (G := [eqv _, eqv _, isLoad shA (loadD shM 131), isLoad shA (loadD shM 131), isM shA, eqv _, isNew W.heap.size #[.slice none 0 0, .slice none 0 0, .bool false] 50, anyG, eqv _])
  case hm => kernel_rfl
  case hop =>
    refine ⟨?_, ?_, ?_, ?_, ?_, ?_, ?_, ?_, ?_, trivial⟩
    · intro a wa hs hf hd
      have t1 := hf.off 1 (by kernel_rfl) rfl
      exact plain_ rfl (yes_eqv (o_load3 rfl Proofs.Try.underlying50 rfl (by kernel_rfl) t1 ((Bm.since hs rfl).cell rfl) ((Bm.since hs rfl).cell rfl) ((Bm.since hs rfl).cell rfl)) rfl)
    · intro a wa hs hf hd
      exact plain_ rfl (yes_gives (atF_ 1 3 _ (by omega) (by omega) (by omega) (by omega)) rfl rfl Proofs.Try.func57 (by kernel_rfl) (by kernel_rfl) (by simp only [List.map_toArray, List.map_cons, List.map_nil, eval_const]) rfl)
    · intro a wa hs hf hd
      have t16 : a.eval (.tmp 16) = _ := hd.at 0 16 (by kernel_rfl)
      have t17 : a.eval (.tmp 17) = _ := hd.at 1 17 (by kernel_rfl)
      exact plain_ rfl (yes_gives (memLoad_ no _ shM 131 _ ((IsMem.mk shMb.symm wm gm : IsMem no _ (.agg #[.slice m1 132 m2, .slice m3 2 m4, .bool false]) shM).ext (hEW.trans (Since.to_ext hs))) shMF no_lt (by omega) (by omega)) rfl rfl Proofs.Try.func64 (by kernel_rfl) (by kernel_rfl) (by simp only [List.map_toArray, List.map_cons, List.map_nil, t16, t17]; rfl) rfl)
    · intro a wa hs hf hd
      have t18 := hd.at 2 18 (by kernel_rfl)
      obtain ⟨u, hu, hm⟩ := t18
      exact plain_ rfl (yes_runs (o_move rfl hu) ⟨u, rfl, hm⟩ rfl)
    · intro a wa hs hf hd
      have t15 := hd.at 3 15 (by kernel_rfl)
      obtain ⟨u, hu, hm⟩ := t15
      exact plain_ rfl (yes_runs (o_extract rfl hu rfl) hm rfl)
    · intro a wb wa hs1 hs hf hd
      have t15 := hd.at 3 15 (by kernel_rfl)
      obtain ⟨u, hu, hm⟩ := t15
      exact plain_ rfl (late_eqv (o_extract rfl hu rfl) rfl)
    · intro a wa hs hf hd
      exact plain_ rfl (yes_new (z := .agg #[.slice none 0 0, .slice none 0 0, .bool false]) rfl (by kernel_rfl) rfl rfl hs.size)
    · intro a wb wa hs1 hs hf hd hrun
      have t3 := hd.at 6 3 (by kernel_rfl)
      have t19 := hd.at 4 19 (by kernel_rfl)
      subst hrun
      obtain ⟨k, hk, hn, hB⟩ := t3
      obtain ⟨a1, a2, a3, a4, hv, _, _⟩ := IsMem.lit t19 shAW shAG shAb
      exact ⟨_, o_store rfl hk hv hB (by kernel_rfl) (by simp [Value.cells, Value.oneCell']) (by simp [Value.cells]) rfl, Since.put hs (.inl (by omega))⟩
    · intro a wb wa hs1 hs hf hd
      have t20 : a.eval (.tmp 20) = _ := hd.at 5 20 (by kernel_rfl)
      exact plain_ rfl (late_eqv (o_assign rfl t20) rfl)
  case hG => exact ⟨stable_eqv _, stable_eqv _, stable_isLoad _ _, stable_isLoad _ _, stable_isM _, stable_eqv _, stable_isNew _ _ _, stable_any, stable_eqv _, trivial⟩
  case hc => kernel_rfl
  case hfin =>
    intro v2 hs2
    rintro _ rfl _ rfl _ ⟨u18, rfl, h18⟩ _ ⟨u15, rfl, h15⟩ a hA _ rfl _ ⟨b3, rfl, hn3, hB3⟩ _ rfl
    rintro v3 ⟨o, v4, ho4, hr, rfl⟩
    cases ho4
    obtain ⟨a1, a2, a3, a4, rfl, wa, ga⟩ := IsMem.lit hA shAW shAG shAb
    simp only [Act.put, List.setIfInBounds_toArray, List.set_cons_zero, List.set_cons_succ] at hr ⊢
    cases (hr.symm.trans (o_store (v := .agg #[.slice a1 132 a2, .slice a3 2 a4, .bool true]) (new := #[.slice a1 132 a2, .slice a3 2 a4, .bool true]) rfl rfl rfl hB3 (by kernel_rfl) (by simp [Value.cells, Value.oneCell']) (by simp [Value.cells]) rfl))
    have hE2 : Ext W v2 := Since.to_ext hs2
    obtain ⟨w2, hw2⟩ : ∃ w2, w2 = put v2 b3 (.cells #[.slice a1 132 a2, .slice a3 2 a4, .bool true] 50 (0, 0)) := ⟨_, rfl⟩
    have hb2 : Ext w1 w2 := by rw [hw2]; exact Since.to_ext ((Since.of_ext (hEW.trans hE2)).put (.inl (by omega)))
    have Ba_2 : Box w2 b3 #[.slice a1 132 a2, .slice a3 2 a4, .bool true] 50 := by rw [hw2]; exact hB3.put
    have Bm_2 : Box w2 w1.heap.size #[.slice m1 132 m2, .slice m3 2 m4, .bool false] 50 := by rw [hw2]; exact (Bm.ext hE2).put_other (by omega)
    rw [← hw2]
    clear hw2 hr hs2 Bm hB3
    obtain ⟨cm0, cm1, cm2, dm0, dm1, dm2⟩ := cells3 Bm_2
    have zm : w1.heap.size < w2.heap.size := Bm_2.lt
    obtain ⟨ca0, ca1, ca2, da0, da1, da2⟩ := cells3 Ba_2
    have za : b3 < w2.heap.size := Ba_2.lt
    go_wp2_with (fail)
    go_at_call 70
    refine (memTurn_ no _ shM 1 1 _ ((IsMem.mk shMb.symm wm gm : IsMem no w1 (.agg #[.slice m1 132 m2, .slice m3 2 m4, .bool false]) shM).ext (by with_reducible (repeat (first | assumption | exact Ext.refl _ | refine Ext.alloc' ?_ _ | refine Ext.store0 ?_ _ _ | refine Ext.storek ?_ _ _ _ | refine Ext.stores0 ?_ ?_ _ _ | refine Ext.storesk ?_ ?_ _ _ _ | refine Ext.store ?_ _ _ (by first | omega | (dsimp only; omega)) | refine Ext.drewN' ?_ _ | refine Ext.drew' ?_ | refine Ext.trans ?_ (by assumption))))) shMF no_lt).calls.mono ?_
    rintro e w3 ⟨_, rfl, hb3, hu3⟩
    have hu3 : IsMem no w3 _ shT := hu3
    obtain ⟨t1, t2, t3, t4, rfl, wt, gt⟩ := hu3.lit shTW shTG shTb
    have Bm_3 := Bm_2.ext (show Ext w2 w3 from (by with_reducible (repeat (first | assumption | exact Ext.refl _ | refine Ext.alloc' ?_ _ | refine Ext.store0 ?_ _ _ | refine Ext.storek ?_ _ _ _ | refine Ext.stores0 ?_ ?_ _ _ | refine Ext.storesk ?_ ?_ _ _ _ | refine Ext.store ?_ _ _ (by first | omega | (dsimp only; omega)) | refine Ext.drewN' ?_ _ | refine Ext.drew' ?_ | refine Ext.trans ?_ (by assumption)))))
    have Ba_3 := Ba_2.ext (show Ext w2 w3 from (by with_reducible (repeat (first | assumption | exact Ext.refl _ | refine Ext.alloc' ?_ _ | refine Ext.store0 ?_ _ _ | refine Ext.storek ?_ _ _ _ | refine Ext.stores0 ?_ ?_ _ _ | refine Ext.storesk ?_ ?_ _ _ _ | refine Ext.store ?_ _ _ (by first | omega | (dsimp only; omega)) | refine Ext.drewN' ?_ _ | refine Ext.drew' ?_ | refine Ext.trans ?_ (by assumption)))))
    clear Bm_2 zm cm0 cm1 cm2 dm0 dm1 dm2 Ba_2 za ca0 ca1 ca2 da0 da1 da2
    obtain ⟨cm0, cm1, cm2, dm0, dm1, dm2⟩ := cells3 Bm_3
    have zm : w1.heap.size < w3.heap.size := Bm_3.lt
    obtain ⟨ca0, ca1, ca2, da0, da1, da2⟩ := cells3 Ba_3
    have za : b3 < w3.heap.size := Ba_3.lt
    go_wp2_with (fail)
    go_at_call 68
    refine (memStore_ no _ shT 131 7 _ ((IsMem.mk shTb.symm wt gt : IsMem no w3 (.agg #[.slice t1 132 t2, .slice t3 2 t4, .bool false]) shT).ext (by with_reducible (repeat (first | assumption | exact Ext.refl _ | refine Ext.alloc' ?_ _ | refine Ext.store0 ?_ _ _ | refine Ext.storek ?_ _ _ _ | refine Ext.stores0 ?_ ?_ _ _ | refine Ext.storesk ?_ ?_ _ _ _ | refine Ext.store ?_ _ _ (by first | omega | (dsimp only; omega)) | refine Ext.drewN' ?_ _ | refine Ext.drew' ?_ | refine Ext.trans ?_ (by assumption))))) shTF no_lt (by omega) (by omega)).calls.mono ?_
    rintro e w4 ⟨_, rfl, hb4, hu4⟩
    have hu4 : IsMem no w4 _ shS := hu4
    obtain ⟨s1, s2, s3, s4, rfl, ws, gs⟩ := hu4.lit shSW shSG shSb
    have Bm_4 := Bm_3.ext (show Ext w3 w4 from (by with_reducible (repeat (first | assumption | exact Ext.refl _ | refine Ext.alloc' ?_ _ | refine Ext.store0 ?_ _ _ | refine Ext.storek ?_ _ _ _ | refine Ext.stores0 ?_ ?_ _ _ | refine Ext.storesk ?_ ?_ _ _ _ | refine Ext.store ?_ _ _ (by first | omega | (dsimp only; omega)) | refine Ext.drewN' ?_ _ | refine Ext.drew' ?_ | refine Ext.trans ?_ (by assumption)))))
    have Ba_4 := Ba_3.ext (show Ext w3 w4 from (by with_reducible (repeat (first | assumption | exact Ext.refl _ | refine Ext.alloc' ?_ _ | refine Ext.store0 ?_ _ _ | refine Ext.storek ?_ _ _ _ | refine Ext.stores0 ?_ ?_ _ _ | refine Ext.storesk ?_ ?_ _ _ _ | refine Ext.store ?_ _ _ (by first | omega | (dsimp only; omega)) | refine Ext.drewN' ?_ _ | refine Ext.drew' ?_ | refine Ext.trans ?_ (by assumption)))))
    clear Bm_3 zm cm0 cm1 cm2 dm0 dm1 dm2 Ba_3 za ca0 ca1 ca2 da0 da1 da2
    have Bt_4 : Box w4 (w3.heap.size) #[.slice t1 132 t2, .slice t3 2 t4, .bool false] 50 := (Box.new _ _ _).ext hb4
    obtain ⟨cm0, cm1, cm2, dm0, dm1, dm2⟩ := cells3 Bm_4
    have zm : w1.heap.size < w4.heap.size := Bm_4.lt
    obtain ⟨ca0, ca1, ca2, da0, da1, da2⟩ := cells3 Ba_4
    have za : b3 < w4.heap.size := Ba_4.lt
    obtain ⟨ct0, ct1, ct2, dt0, dt1, dt2⟩ := cells3 Bt_4
    have zt : w3.heap.size < w4.heap.size := Bt_4.lt
    go_wp2_with (fail)
    go_at_call 64
    refine (memLoad_ no _ shS 131 _ ((IsMem.mk shSb.symm ws gs : IsMem no w4 (.agg #[.slice s1 132 s2, .slice s3 2 s4, .bool false]) shS).ext (by with_reducible (repeat (first | assumption | exact Ext.refl _ | refine Ext.alloc' ?_ _ | refine Ext.store0 ?_ _ _ | refine Ext.storek ?_ _ _ _ | refine Ext.stores0 ?_ ?_ _ _ | refine Ext.storesk ?_ ?_ _ _ _ | refine Ext.store ?_ _ _ (by first | omega | (dsimp only; omega)) | refine Ext.drewN' ?_ _ | refine Ext.drew' ?_ | refine Ext.trans ?_ (by assumption))))) shSF no_lt (by omega) (by omega)).calls.mono ?_
    rintro e w5 ⟨_, rfl, hb5, u5, rfl, hu5⟩
    have hu5 : IsMem no w5 _ shB := hu5
    rw [shF11]
    obtain ⟨p1, p2, p3, p4, rfl, wp, gp⟩ := hu5.lit shBW shBG shBb
    have Bm_5 := Bm_4.ext (show Ext w4 w5 from (by with_reducible (repeat (first | assumption | exact Ext.refl _ | refine Ext.alloc' ?_ _ | refine Ext.store0 ?_ _ _ | refine Ext.storek ?_ _ _ _ | refine Ext.stores0 ?_ ?_ _ _ | refine Ext.storesk ?_ ?_ _ _ _ | refine Ext.store ?_ _ _ (by first | omega | (dsimp only; omega)) | refine Ext.drewN' ?_ _ | refine Ext.drew' ?_ | refine Ext.trans ?_ (by assumption)))))
    have Ba_5 := Ba_4.ext (show Ext w4 w5 from (by with_reducible (repeat (first | assumption | exact Ext.refl _ | refine Ext.alloc' ?_ _ | refine Ext.store0 ?_ _ _ | refine Ext.storek ?_ _ _ _ | refine Ext.stores0 ?_ ?_ _ _ | refine Ext.storesk ?_ ?_ _ _ _ | refine Ext.store ?_ _ _ (by first | omega | (dsimp only; omega)) | refine Ext.drewN' ?_ _ | refine Ext.drew' ?_ | refine Ext.trans ?_ (by assumption)))))
    have Bt_5 := Bt_4.ext (show Ext w4 w5 from (by with_reducible (repeat (first | assumption | exact Ext.refl _ | refine Ext.alloc' ?_ _ | refine Ext.store0 ?_ _ _ | refine Ext.storek ?_ _ _ _ | refine Ext.stores0 ?_ ?_ _ _ | refine Ext.storesk ?_ ?_ _ _ _ | refine Ext.store ?_ _ _ (by first | omega | (dsimp only; omega)) | refine Ext.drewN' ?_ _ | refine Ext.drew' ?_ | refine Ext.trans ?_ (by assumption)))))
    clear Bm_4 zm cm0 cm1 cm2 dm0 dm1 dm2 Ba_4 za ca0 ca1 ca2 da0 da1 da2 Bt_4 zt ct0 ct1 ct2 dt0 dt1 dt2
    have Bs_5 : Box w5 (w4.heap.size) #[.slice s1 132 s2, .slice s3 2 s4, .bool false] 50 := (Box.new _ _ _).ext hb5
    obtain ⟨cm0, cm1, cm2, dm0, dm1, dm2⟩ := cells3 Bm_5
    have zm : w1.heap.size < w5.heap.size := Bm_5.lt
    obtain ⟨ca0, ca1, ca2, da0, da1, da2⟩ := cells3 Ba_5
    have za : b3 < w5.heap.size := Ba_5.lt
    obtain ⟨ct0, ct1, ct2, dt0, dt1, dt2⟩ := cells3 Bt_5
    have zt : w3.heap.size < w5.heap.size := Bt_5.lt
    obtain ⟨cs0, cs1, cs2, ds0, ds1, ds2⟩ := cells3 Bs_5
    have zs : w4.heap.size < w5.heap.size := Bs_5.lt
    go_wp2_with (fail)
    go_at_call 66
    refine (memCas_ no _ shS 131 7 8 _ ((IsMem.mk shSb.symm ws gs : IsMem no w4 (.agg #[.slice s1 132 s2, .slice s3 2 s4, .bool false]) shS).ext (by with_reducible (repeat (first | assumption | exact Ext.refl _ | refine Ext.alloc' ?_ _ | refine Ext.store0 ?_ _ _ | refine Ext.storek ?_ _ _ _ | refine Ext.stores0 ?_ ?_ _ _ | refine Ext.storesk ?_ ?_ _ _ _ | refine Ext.store ?_ _ _ (by first | omega | (dsimp only; omega)) | refine Ext.drewN' ?_ _ | refine Ext.drew' ?_ | refine Ext.trans ?_ (by assumption))))) shSF no_lt (by omega) (by omega)).calls.mono ?_
    rintro e w6 ⟨_, rfl, hb6, u6, rfl, hu6⟩
    have hu6 : IsMem no w6 _ shC := hu6
    rw [shF12]
    obtain ⟨q1, q2, q3, q4, rfl, wq, gq⟩ := hu6.lit shCW shCG shCb
    have Bm_6 := Bm_5.ext (show Ext w5 w6 from (by with_reducible (repeat (first | assumption | exact Ext.refl _ | refine Ext.alloc' ?_ _ | refine Ext.store0 ?_ _ _ | refine Ext.storek ?_ _ _ _ | refine Ext.stores0 ?_ ?_ _ _ | refine Ext.storesk ?_ ?_ _ _ _ | refine Ext.store ?_ _ _ (by first | omega | (dsimp only; omega)) | refine Ext.drewN' ?_ _ | refine Ext.drew' ?_ | refine Ext.trans ?_ (by assumption)))))
    have Ba_6 := Ba_5.ext (show Ext w5 w6 from (by with_reducible (repeat (first | assumption | exact Ext.refl _ | refine Ext.alloc' ?_ _ | refine Ext.store0 ?_ _ _ | refine Ext.storek ?_ _ _ _ | refine Ext.stores0 ?_ ?_ _ _ | refine Ext.storesk ?_ ?_ _ _ _ | refine Ext.store ?_ _ _ (by first | omega | (dsimp only; omega)) | refine Ext.drewN' ?_ _ | refine Ext.drew' ?_ | refine Ext.trans ?_ (by assumption)))))
    have Bt_6 := Bt_5.ext (show Ext w5 w6 from (by with_reducible (repeat (first | assumption | exact Ext.refl _ | refine Ext.alloc' ?_ _ | refine Ext.store0 ?_ _ _ | refine Ext.storek ?_ _ _ _ | refine Ext.stores0 ?_ ?_ _ _ | refine Ext.storesk ?_ ?_ _ _ _ | refine Ext.store ?_ _ _ (by first | omega | (dsimp only; omega)) | refine Ext.drewN' ?_ _ | refine Ext.drew' ?_ | refine Ext.trans ?_ (by assumption)))))
    have Bs_6 := Bs_5.ext (show Ext w5 w6 from (by with_reducible (repeat (first | assumption | exact Ext.refl _ | refine Ext.alloc' ?_ _ | refine Ext.store0 ?_ _ _ | refine Ext.storek ?_ _ _ _ | refine Ext.stores0 ?_ ?_ _ _ | refine Ext.storesk ?_ ?_ _ _ _ | refine Ext.store ?_ _ _ (by first | omega | (dsimp only; omega)) | refine Ext.drewN' ?_ _ | refine Ext.drew' ?_ | refine Ext.trans ?_ (by assumption)))))
    clear Bm_5 zm cm0 cm1 cm2 dm0 dm1 dm2 Ba_5 za ca0 ca1 ca2 da0 da1 da2 Bt_5 zt ct0 ct1 ct2 dt0 dt1 dt2 Bs_5 zs cs0 cs1 cs2 ds0 ds1 ds2
    have Bb_6 : Box w6 (w5.heap.size) #[.slice p1 132 p2, .slice p3 2 p4, .bool false] 50 := (Box.new _ _ _).ext hb6
    obtain ⟨cm0, cm1, cm2, dm0, dm1, dm2⟩ := cells3 Bm_6
    have zm : w1.heap.size < w6.heap.size := Bm_6.lt
    obtain ⟨ca0, ca1, ca2, da0, da1, da2⟩ := cells3 Ba_6
    have za : b3 < w6.heap.size := Ba_6.lt
    obtain ⟨ct0, ct1, ct2, dt0, dt1, dt2⟩ := cells3 Bt_6
    have zt : w3.heap.size < w6.heap.size := Bt_6.lt
    obtain ⟨cs0, cs1, cs2, ds0, ds1, ds2⟩ := cells3 Bs_6
    have zs : w4.heap.size < w6.heap.size := Bs_6.lt
    obtain ⟨cb0, cb1, cb2, db0, db1, db2⟩ := cells3 Bb_6
    have zb : w5.heap.size < w6.heap.size := Bb_6.lt
    obtain ⟨_, _, ec, rc, lc, ccc⟩ := wq.opened
    cases ec
    obtain ⟨bc, oc, rfl, xc, nc, gc131⟩ := ccc 131 (by rw [shCW]; omega)
    rw [shF6] at gc131
    go_wp2_with (fail)
    go_at_call 57
    refine (atF_ 1 3 _ (by omega) (by omega) (by omega) (by omega)).calls.mono ?_
    rintro e w7 ⟨_, rfl, hb7, rfl⟩
    have gc131 := cell_ext gc131 (show Ext w6 w7 from (by with_reducible (repeat (first | assumption | exact Ext.refl _ | refine Ext.alloc' ?_ _ | refine Ext.store0 ?_ _ _ | refine Ext.storek ?_ _ _ _ | refine Ext.stores0 ?_ ?_ _ _ | refine Ext.storesk ?_ ?_ _ _ _ | refine Ext.store ?_ _ _ (by first | omega | (dsimp only; omega)) | refine Ext.drewN' ?_ _ | refine Ext.drew' ?_ | refine Ext.trans ?_ (by assumption)))))
    have Bm_7 := Bm_6.ext (show Ext w6 w7 from (by with_reducible (repeat (first | assumption | exact Ext.refl _ | refine Ext.alloc' ?_ _ | refine Ext.store0 ?_ _ _ | refine Ext.storek ?_ _ _ _ | refine Ext.stores0 ?_ ?_ _ _ | refine Ext.storesk ?_ ?_ _ _ _ | refine Ext.store ?_ _ _ (by first | omega | (dsimp only; omega)) | refine Ext.drewN' ?_ _ | refine Ext.drew' ?_ | refine Ext.trans ?_ (by assumption)))))
    have Ba_7 := Ba_6.ext (show Ext w6 w7 from (by with_reducible (repeat (first | assumption | exact Ext.refl _ | refine Ext.alloc' ?_ _ | refine Ext.store0 ?_ _ _ | refine Ext.storek ?_ _ _ _ | refine Ext.stores0 ?_ ?_ _ _ | refine Ext.storesk ?_ ?_ _ _ _ | refine Ext.store ?_ _ _ (by first | omega | (dsimp only; omega)) | refine Ext.drewN' ?_ _ | refine Ext.drew' ?_ | refine Ext.trans ?_ (by assumption)))))
    have Bt_7 := Bt_6.ext (show Ext w6 w7 from (by with_reducible (repeat (first | assumption | exact Ext.refl _ | refine Ext.alloc' ?_ _ | refine Ext.store0 ?_ _ _ | refine Ext.storek ?_ _ _ _ | refine Ext.stores0 ?_ ?_ _ _ | refine Ext.storesk ?_ ?_ _ _ _ | refine Ext.store ?_ _ _ (by first | omega | (dsimp only; omega)) | refine Ext.drewN' ?_ _ | refine Ext.drew' ?_ | refine Ext.trans ?_ (by assumption)))))
    have Bs_7 := Bs_6.ext (show Ext w6 w7 from (by with_reducible (repeat (first | assumption | exact Ext.refl _ | refine Ext.alloc' ?_ _ | refine Ext.store0 ?_ _ _ | refine Ext.storek ?_ _ _ _ | refine Ext.stores0 ?_ ?_ _ _ | refine Ext.storesk ?_ ?_ _ _ _ | refine Ext.store ?_ _ _ (by first | omega | (dsimp only; omega)) | refine Ext.drewN' ?_ _ | refine Ext.drew' ?_ | refine Ext.trans ?_ (by assumption)))))
    have Bb_7 := Bb_6.ext (show Ext w6 w7 from (by with_reducible (repeat (first | assumption | exact Ext.refl _ | refine Ext.alloc' ?_ _ | refine Ext.store0 ?_ _ _ | refine Ext.storek ?_ _ _ _ | refine Ext.stores0 ?_ ?_ _ _ | refine Ext.storesk ?_ ?_ _ _ _ | refine Ext.store ?_ _ _ (by first | omega | (dsimp only; omega)) | refine Ext.drewN' ?_ _ | refine Ext.drew' ?_ | refine Ext.trans ?_ (by assumption)))))
    clear Bm_6 zm cm0 cm1 cm2 dm0 dm1 dm2 Ba_6 za ca0 ca1 ca2 da0 da1 da2 Bt_6 zt ct0 ct1 ct2 dt0 dt1 dt2 Bs_6 zs cs0 cs1 cs2 ds0 ds1 ds2 Bb_6 zb cb0 cb1 cb2 db0 db1 db2
    have Bc_7 : Box w7 (w6.heap.size) #[.slice (some ⟨bc, oc, none⟩) 132 q2, .slice q3 2 q4, .bool false] 50 := (Box.new _ _ _).ext hb7
    obtain ⟨cm0, cm1, cm2, dm0, dm1, dm2⟩ := cells3 Bm_7
    have zm : w1.heap.size < w7.heap.size := Bm_7.lt
    obtain ⟨ca0, ca1, ca2, da0, da1, da2⟩ := cells3 Ba_7
    have za : b3 < w7.heap.size := Ba_7.lt
    obtain ⟨ct0, ct1, ct2, dt0, dt1, dt2⟩ := cells3 Bt_7
    have zt : w3.heap.size < w7.heap.size := Bt_7.lt
    obtain ⟨cs0, cs1, cs2, ds0, ds1, ds2⟩ := cells3 Bs_7
    have zs : w4.heap.size < w7.heap.size := Bs_7.lt
    obtain ⟨cb0, cb1, cb2, db0, db1, db2⟩ := cells3 Bb_7
    have zb : w5.heap.size < w7.heap.size := Bb_7.lt
    obtain ⟨cc0, cc1, cc2, dc0, dc1, dc2⟩ := cells3 Bc_7
    have zc : w6.heap.size < w7.heap.size := Bc_7.lt
    go_wp2_with (fail)
    go_at_call 59
    refine (node_ no _ shM 131 _ ((IsMem.mk shMb.symm wm gm : IsMem no w1 (.agg #[.slice m1 132 m2, .slice m3 2 m4, .bool false]) shM).ext (by with_reducible (repeat (first | assumption | exact Ext.refl _ | refine Ext.alloc' ?_ _ | refine Ext.store0 ?_ _ _ | refine Ext.storek ?_ _ _ _ | refine Ext.stores0 ?_ ?_ _ _ | refine Ext.storesk ?_ ?_ _ _ _ | refine Ext.store ?_ _ _ (by first | omega | (dsimp only; omega)) | refine Ext.drewN' ?_ _ | refine Ext.drew' ?_ | refine Ext.trans ?_ (by assumption))))) (by omega) (by omega)).calls.mono ?_
    rintro e w8 ⟨_, rfl, hb8, rfl⟩
    rw [shF7]
    have Bm_8 := Bm_7.ext (show Ext w7 w8 from (by with_reducible (repeat (first | assumption | exact Ext.refl _ | refine Ext.alloc' ?_ _ | refine Ext.store0 ?_ _ _ | refine Ext.storek ?_ _ _ _ | refine Ext.stores0 ?_ ?_ _ _ | refine Ext.storesk ?_ ?_ _ _ _ | refine Ext.store ?_ _ _ (by first | omega | (dsimp only; omega)) | refine Ext.drewN' ?_ _ | refine Ext.drew' ?_ | refine Ext.trans ?_ (by assumption)))))
    have Ba_8 := Ba_7.ext (show Ext w7 w8 from (by with_reducible (repeat (first | assumption | exact Ext.refl _ | refine Ext.alloc' ?_ _ | refine Ext.store0 ?_ _ _ | refine Ext.storek ?_ _ _ _ | refine Ext.stores0 ?_ ?_ _ _ | refine Ext.storesk ?_ ?_ _ _ _ | refine Ext.store ?_ _ _ (by first | omega | (dsimp only; omega)) | refine Ext.drewN' ?_ _ | refine Ext.drew' ?_ | refine Ext.trans ?_ (by assumption)))))
    have Bt_8 := Bt_7.ext (show Ext w7 w8 from (by with_reducible (repeat (first | assumption | exact Ext.refl _ | refine Ext.alloc' ?_ _ | refine Ext.store0 ?_ _ _ | refine Ext.storek ?_ _ _ _ | refine Ext.stores0 ?_ ?_ _ _ | refine Ext.storesk ?_ ?_ _ _ _ | refine Ext.store ?_ _ _ (by first | omega | (dsimp only; omega)) | refine Ext.drewN' ?_ _ | refine Ext.drew' ?_ | refine Ext.trans ?_ (by assumption)))))
    have Bs_8 := Bs_7.ext (show Ext w7 w8 from (by with_reducible (repeat (first | assumption | exact Ext.refl _ | refine Ext.alloc' ?_ _ | refine Ext.store0 ?_ _ _ | refine Ext.storek ?_ _ _ _ | refine Ext.stores0 ?_ ?_ _ _ | refine Ext.storesk ?_ ?_ _ _ _ | refine Ext.store ?_ _ _ (by first | omega | (dsimp only; omega)) | refine Ext.drewN' ?_ _ | refine Ext.drew' ?_ | refine Ext.trans ?_ (by assumption)))))
    have Bb_8 := Bb_7.ext (show Ext w7 w8 from (by with_reducible (repeat (first | assumption | exact Ext.refl _ | refine Ext.alloc' ?_ _ | refine Ext.store0 ?_ _ _ | refine Ext.storek ?_ _ _ _ | refine Ext.stores0 ?_ ?_ _ _ | refine Ext.storesk ?_ ?_ _ _ _ | refine Ext.store ?_ _ _ (by first | omega | (dsimp only; omega)) | refine Ext.drewN' ?_ _ | refine Ext.drew' ?_ | refine Ext.trans ?_ (by assumption)))))
    have Bc_8 := Bc_7.ext (show Ext w7 w8 from (by with_reducible (repeat (first | assumption | exact Ext.refl _ | refine Ext.alloc' ?_ _ | refine Ext.store0 ?_ _ _ | refine Ext.storek ?_ _ _ _ | refine Ext.stores0 ?_ ?_ _ _ | refine Ext.storesk ?_ ?_ _ _ _ | refine Ext.store ?_ _ _ (by first | omega | (dsimp only; omega)) | refine Ext.drewN' ?_ _ | refine Ext.drew' ?_ | refine Ext.trans ?_ (by assumption)))))
    clear Bm_7 zm cm0 cm1 cm2 dm0 dm1 dm2 Ba_7 za ca0 ca1 ca2 da0 da1 da2 Bt_7 zt ct0 ct1 ct2 dt0 dt1 dt2 Bs_7 zs cs0 cs1 cs2 ds0 ds1 ds2 Bb_7 zb cb0 cb1 cb2 db0 db1 db2 Bc_7 zc cc0 cc1 cc2 dc0 dc1 dc2
    obtain ⟨cm0, cm1, cm2, dm0, dm1, dm2⟩ := cells3 Bm_8
    have zm : w1.heap.size < w8.heap.size := Bm_8.lt
    obtain ⟨ca0, ca1, ca2, da0, da1, da2⟩ := cells3 Ba_8
    have za : b3 < w8.heap.size := Ba_8.lt
    obtain ⟨ct0, ct1, ct2, dt0, dt1, dt2⟩ := cells3 Bt_8
    have zt : w3.heap.size < w8.heap.size := Bt_8.lt
    obtain ⟨cs0, cs1, cs2, ds0, ds1, ds2⟩ := cells3 Bs_8
    have zs : w4.heap.size < w8.heap.size := Bs_8.lt
    obtain ⟨cb0, cb1, cb2, db0, db1, db2⟩ := cells3 Bb_8
    have zb : w5.heap.size < w8.heap.size := Bb_8.lt
    obtain ⟨cc0, cc1, cc2, dc0, dc1, dc2⟩ := cells3 Bc_8
    have zc : w6.heap.size < w8.heap.size := Bc_8.lt
    go_wp2_with (fail)
    go_at_call 61
    refine (count_ no _ shT 1 _ ((IsMem.mk shTb.symm wt gt : IsMem no w3 (.agg #[.slice t1 132 t2, .slice t3 2 t4, .bool false]) shT).ext (by with_reducible (repeat (first | assumption | exact Ext.refl _ | refine Ext.alloc' ?_ _ | refine Ext.store0 ?_ _ _ | refine Ext.storek ?_ _ _ _ | refine Ext.stores0 ?_ ?_ _ _ | refine Ext.storesk ?_ ?_ _ _ _ | refine Ext.store ?_ _ _ (by first | omega | (dsimp only; omega)) | refine Ext.drewN' ?_ _ | refine Ext.drew' ?_ | refine Ext.trans ?_ (by assumption))))) shF14).calls.mono ?_
    rintro e w9 ⟨_, rfl, hb9, rfl⟩
    rw [shF8]
    have Bm_9 := Bm_8.ext (show Ext w8 w9 from (by with_reducible (repeat (first | assumption | exact Ext.refl _ | refine Ext.alloc' ?_ _ | refine Ext.store0 ?_ _ _ | refine Ext.storek ?_ _ _ _ | refine Ext.stores0 ?_ ?_ _ _ | refine Ext.storesk ?_ ?_ _ _ _ | refine Ext.store ?_ _ _ (by first | omega | (dsimp only; omega)) | refine Ext.drewN' ?_ _ | refine Ext.drew' ?_ | refine Ext.trans ?_ (by assumption)))))
    have Ba_9 := Ba_8.ext (show Ext w8 w9 from (by with_reducible (repeat (first | assumption | exact Ext.refl _ | refine Ext.alloc' ?_ _ | refine Ext.store0 ?_ _ _ | refine Ext.storek ?_ _ _ _ | refine Ext.stores0 ?_ ?_ _ _ | refine Ext.storesk ?_ ?_ _ _ _ | refine Ext.store ?_ _ _ (by first | omega | (dsimp only; omega)) | refine Ext.drewN' ?_ _ | refine Ext.drew' ?_ | refine Ext.trans ?_ (by assumption)))))
    have Bt_9 := Bt_8.ext (show Ext w8 w9 from (by with_reducible (repeat (first | assumption | exact Ext.refl _ | refine Ext.alloc' ?_ _ | refine Ext.store0 ?_ _ _ | refine Ext.storek ?_ _ _ _ | refine Ext.stores0 ?_ ?_ _ _ | refine Ext.storesk ?_ ?_ _ _ _ | refine Ext.store ?_ _ _ (by first | omega | (dsimp only; omega)) | refine Ext.drewN' ?_ _ | refine Ext.drew' ?_ | refine Ext.trans ?_ (by assumption)))))
    have Bs_9 := Bs_8.ext (show Ext w8 w9 from (by with_reducible (repeat (first | assumption | exact Ext.refl _ | refine Ext.alloc' ?_ _ | refine Ext.store0 ?_ _ _ | refine Ext.storek ?_ _ _ _ | refine Ext.stores0 ?_ ?_ _ _ | refine Ext.storesk ?_ ?_ _ _ _ | refine Ext.store ?_ _ _ (by first | omega | (dsimp only; omega)) | refine Ext.drewN' ?_ _ | refine Ext.drew' ?_ | refine Ext.trans ?_ (by assumption)))))
    have Bb_9 := Bb_8.ext (show Ext w8 w9 from (by with_reducible (repeat (first | assumption | exact Ext.refl _ | refine Ext.alloc' ?_ _ | refine Ext.store0 ?_ _ _ | refine Ext.storek ?_ _ _ _ | refine Ext.stores0 ?_ ?_ _ _ | refine Ext.storesk ?_ ?_ _ _ _ | refine Ext.store ?_ _ _ (by first | omega | (dsimp only; omega)) | refine Ext.drewN' ?_ _ | refine Ext.drew' ?_ | refine Ext.trans ?_ (by assumption)))))
    have Bc_9 := Bc_8.ext (show Ext w8 w9 from (by with_reducible (repeat (first | assumption | exact Ext.refl _ | refine Ext.alloc' ?_ _ | refine Ext.store0 ?_ _ _ | refine Ext.storek ?_ _ _ _ | refine Ext.stores0 ?_ ?_ _ _ | refine Ext.storesk ?_ ?_ _ _ _ | refine Ext.store ?_ _ _ (by first | omega | (dsimp only; omega)) | refine Ext.drewN' ?_ _ | refine Ext.drew' ?_ | refine Ext.trans ?_ (by assumption)))))
    clear Bm_8 zm cm0 cm1 cm2 dm0 dm1 dm2 Ba_8 za ca0 ca1 ca2 da0 da1 da2 Bt_8 zt ct0 ct1 ct2 dt0 dt1 dt2 Bs_8 zs cs0 cs1 cs2 ds0 ds1 ds2 Bb_8 zb cb0 cb1 cb2 db0 db1 db2 Bc_8 zc cc0 cc1 cc2 dc0 dc1 dc2
    obtain ⟨cm0, cm1, cm2, dm0, dm1, dm2⟩ := cells3 Bm_9
    have zm : w1.heap.size < w9.heap.size := Bm_9.lt
    obtain ⟨ca0, ca1, ca2, da0, da1, da2⟩ := cells3 Ba_9
    have za : b3 < w9.heap.size := Ba_9.lt
    obtain ⟨ct0, ct1, ct2, dt0, dt1, dt2⟩ := cells3 Bt_9
    have zt : w3.heap.size < w9.heap.size := Bt_9.lt
    obtain ⟨cs0, cs1, cs2, ds0, ds1, ds2⟩ := cells3 Bs_9
    have zs : w4.heap.size < w9.heap.size := Bs_9.lt
    obtain ⟨cb0, cb1, cb2, db0, db1, db2⟩ := cells3 Bb_9
    have zb : w5.heap.size < w9.heap.size := Bb_9.lt
    obtain ⟨cc0, cc1, cc2, dc0, dc1, dc2⟩ := cells3 Bc_9
    have zc : w6.heap.size < w9.heap.size := Bc_9.lt
    go_wp2_with (fail)
    go_at_call 55
    refine (memRight_ no _ shC _ ((IsMem.mk shCb.symm wq gq : IsMem no w6 (.agg #[.slice (some ⟨bc, oc, none⟩) 132 q2, .slice q3 2 q4, .bool false]) shC).ext (by with_reducible (repeat (first | assumption | exact Ext.refl _ | refine Ext.alloc' ?_ _ | refine Ext.store0 ?_ _ _ | refine Ext.storek ?_ _ _ _ | refine Ext.stores0 ?_ ?_ _ _ | refine Ext.storesk ?_ ?_ _ _ _ | refine Ext.store ?_ _ _ (by first | omega | (dsimp only; omega)) | refine Ext.drewN' ?_ _ | refine Ext.drew' ?_ | refine Ext.trans ?_ (by assumption)))))).calls.mono ?_
    rintro e w10 ⟨_, rfl, hb10, rfl⟩
    rw [shF9]
    have Bm_10 := Bm_9.ext (show Ext w9 w10 from (by with_reducible (repeat (first | assumption | exact Ext.refl _ | refine Ext.alloc' ?_ _ | refine Ext.store0 ?_ _ _ | refine Ext.storek ?_ _ _ _ | refine Ext.stores0 ?_ ?_ _ _ | refine Ext.storesk ?_ ?_ _ _ _ | refine Ext.store ?_ _ _ (by first | omega | (dsimp only; omega)) | refine Ext.drewN' ?_ _ | refine Ext.drew' ?_ | refine Ext.trans ?_ (by assumption)))))
    have Ba_10 := Ba_9.ext (show Ext w9 w10 from (by with_reducible (repeat (first | assumption | exact Ext.refl _ | refine Ext.alloc' ?_ _ | refine Ext.store0 ?_ _ _ | refine Ext.storek ?_ _ _ _ | refine Ext.stores0 ?_ ?_ _ _ | refine Ext.storesk ?_ ?_ _ _ _ | refine Ext.store ?_ _ _ (by first | omega | (dsimp only; omega)) | refine Ext.drewN' ?_ _ | refine Ext.drew' ?_ | refine Ext.trans ?_ (by assumption)))))
    have Bt_10 := Bt_9.ext (show Ext w9 w10 from (by with_reducible (repeat (first | assumption | exact Ext.refl _ | refine Ext.alloc' ?_ _ | refine Ext.store0 ?_ _ _ | refine Ext.storek ?_ _ _ _ | refine Ext.stores0 ?_ ?_ _ _ | refine Ext.storesk ?_ ?_ _ _ _ | refine Ext.store ?_ _ _ (by first | omega | (dsimp only; omega)) | refine Ext.drewN' ?_ _ | refine Ext.drew' ?_ | refine Ext.trans ?_ (by assumption)))))
    have Bs_10 := Bs_9.ext (show Ext w9 w10 from (by with_reducible (repeat (first | assumption | exact Ext.refl _ | refine Ext.alloc' ?_ _ | refine Ext.store0 ?_ _ _ | refine Ext.storek ?_ _ _ _ | refine Ext.stores0 ?_ ?_ _ _ | refine Ext.storesk ?_ ?_ _ _ _ | refine Ext.store ?_ _ _ (by first | omega | (dsimp only; omega)) | refine Ext.drewN' ?_ _ | refine Ext.drew' ?_ | refine Ext.trans ?_ (by assumption)))))
    have Bb_10 := Bb_9.ext (show Ext w9 w10 from (by with_reducible (repeat (first | assumption | exact Ext.refl _ | refine Ext.alloc' ?_ _ | refine Ext.store0 ?_ _ _ | refine Ext.storek ?_ _ _ _ | refine Ext.stores0 ?_ ?_ _ _ | refine Ext.storesk ?_ ?_ _ _ _ | refine Ext.store ?_ _ _ (by first | omega | (dsimp only; omega)) | refine Ext.drewN' ?_ _ | refine Ext.drew' ?_ | refine Ext.trans ?_ (by assumption)))))
    have Bc_10 := Bc_9.ext (show Ext w9 w10 from (by with_reducible (repeat (first | assumption | exact Ext.refl _ | refine Ext.alloc' ?_ _ | refine Ext.store0 ?_ _ _ | refine Ext.storek ?_ _ _ _ | refine Ext.stores0 ?_ ?_ _ _ | refine Ext.storesk ?_ ?_ _ _ _ | refine Ext.store ?_ _ _ (by first | omega | (dsimp only; omega)) | refine Ext.drewN' ?_ _ | refine Ext.drew' ?_ | refine Ext.trans ?_ (by assumption)))))
    clear Bm_9 zm cm0 cm1 cm2 dm0 dm1 dm2 Ba_9 za ca0 ca1 ca2 da0 da1 da2 Bt_9 zt ct0 ct1 ct2 dt0 dt1 dt2 Bs_9 zs cs0 cs1 cs2 ds0 ds1 ds2 Bb_9 zb cb0 cb1 cb2 db0 db1 db2 Bc_9 zc cc0 cc1 cc2 dc0 dc1 dc2
    obtain ⟨cm0, cm1, cm2, dm0, dm1, dm2⟩ := cells3 Bm_10
    have zm : w1.heap.size < w10.heap.size := Bm_10.lt
    obtain ⟨ca0, ca1, ca2, da0, da1, da2⟩ := cells3 Ba_10
    have za : b3 < w10.heap.size := Ba_10.lt
    obtain ⟨ct0, ct1, ct2, dt0, dt1, dt2⟩ := cells3 Bt_10
    have zt : w3.heap.size < w10.heap.size := Bt_10.lt
    obtain ⟨cs0, cs1, cs2, ds0, ds1, ds2⟩ := cells3 Bs_10
    have zs : w4.heap.size < w10.heap.size := Bs_10.lt
    obtain ⟨cb0, cb1, cb2, db0, db1, db2⟩ := cells3 Bb_10
    have zb : w5.heap.size < w10.heap.size := Bb_10.lt
    obtain ⟨cc0, cc1, cc2, dc0, dc1, dc2⟩ := cells3 Bc_10
    have zc : w6.heap.size < w10.heap.size := Bc_10.lt
    go_wp2_with (fail)
    go_at_call 56
    refine (memSame_ no _ _ shB shC _ ((IsMem.mk shBb.symm wp gp : IsMem no w5 (.agg #[.slice p1 132 p2, .slice p3 2 p4, .bool false]) shB).ext (by with_reducible (repeat (first | assumption | exact Ext.refl _ | refine Ext.alloc' ?_ _ | refine Ext.store0 ?_ _ _ | refine Ext.storek ?_ _ _ _ | refine Ext.stores0 ?_ ?_ _ _ | refine Ext.storesk ?_ ?_ _ _ _ | refine Ext.store ?_ _ _ (by first | omega | (dsimp only; omega)) | refine Ext.drewN' ?_ _ | refine Ext.drew' ?_ | refine Ext.trans ?_ (by assumption))))) ((IsMem.mk shCb.symm wq gq : IsMem no w6 (.agg #[.slice (some ⟨bc, oc, none⟩) 132 q2, .slice q3 2 q4, .bool false]) shC).ext (by with_reducible (repeat (first | assumption | exact Ext.refl _ | refine Ext.alloc' ?_ _ | refine Ext.store0 ?_ _ _ | refine Ext.storek ?_ _ _ _ | refine Ext.stores0 ?_ ?_ _ _ | refine Ext.storesk ?_ ?_ _ _ _ | refine Ext.store ?_ _ _ (by first | omega | (dsimp only; omega)) | refine Ext.drewN' ?_ _ | refine Ext.drew' ?_ | refine Ext.trans ?_ (by assumption)))))).calls.mono ?_
    rintro e w11 ⟨_, rfl, hb11, rfl⟩
    rw [shF10]
    have Bm_11 := Bm_10.ext (show Ext w10 w11 from (by with_reducible (repeat (first | assumption | exact Ext.refl _ | refine Ext.alloc' ?_ _ | refine Ext.store0 ?_ _ _ | refine Ext.storek ?_ _ _ _ | refine Ext.stores0 ?_ ?_ _ _ | refine Ext.storesk ?_ ?_ _ _ _ | refine Ext.store ?_ _ _ (by first | omega | (dsimp only; omega)) | refine Ext.drewN' ?_ _ | refine Ext.drew' ?_ | refine Ext.trans ?_ (by assumption)))))
    have Ba_11 := Ba_10.ext (show Ext w10 w11 from (by with_reducible (repeat (first | assumption | exact Ext.refl _ | refine Ext.alloc' ?_ _ | refine Ext.store0 ?_ _ _ | refine Ext.storek ?_ _ _ _ | refine Ext.stores0 ?_ ?_ _ _ | refine Ext.storesk ?_ ?_ _ _ _ | refine Ext.store ?_ _ _ (by first | omega | (dsimp only; omega)) | refine Ext.drewN' ?_ _ | refine Ext.drew' ?_ | refine Ext.trans ?_ (by assumption)))))
    have Bt_11 := Bt_10.ext (show Ext w10 w11 from (by with_reducible (repeat (first | assumption | exact Ext.refl _ | refine Ext.alloc' ?_ _ | refine Ext.store0 ?_ _ _ | refine Ext.storek ?_ _ _ _ | refine Ext.stores0 ?_ ?_ _ _ | refine Ext.storesk ?_ ?_ _ _ _ | refine Ext.store ?_ _ _ (by first | omega | (dsimp only; omega)) | refine Ext.drewN' ?_ _ | refine Ext.drew' ?_ | refine Ext.trans ?_ (by assumption)))))
    have Bs_11 := Bs_10.ext (show Ext w10 w11 from (by with_reducible (repeat (first | assumption | exact Ext.refl _ | refine Ext.alloc' ?_ _ | refine Ext.store0 ?_ _ _ | refine Ext.storek ?_ _ _ _ | refine Ext.stores0 ?_ ?_ _ _ | refine Ext.storesk ?_ ?_ _ _ _ | refine Ext.store ?_ _ _ (by first | omega | (dsimp only; omega)) | refine Ext.drewN' ?_ _ | refine Ext.drew' ?_ | refine Ext.trans ?_ (by assumption)))))
    have Bb_11 := Bb_10.ext (show Ext w10 w11 from (by with_reducible (repeat (first | assumption | exact Ext.refl _ | refine Ext.alloc' ?_ _ | refine Ext.store0 ?_ _ _ | refine Ext.storek ?_ _ _ _ | refine Ext.stores0 ?_ ?_ _ _ | refine Ext.storesk ?_ ?_ _ _ _ | refine Ext.store ?_ _ _ (by first | omega | (dsimp only; omega)) | refine Ext.drewN' ?_ _ | refine Ext.drew' ?_ | refine Ext.trans ?_ (by assumption)))))
    have Bc_11 := Bc_10.ext (show Ext w10 w11 from (by with_reducible (repeat (first | assumption | exact Ext.refl _ | refine Ext.alloc' ?_ _ | refine Ext.store0 ?_ _ _ | refine Ext.storek ?_ _ _ _ | refine Ext.stores0 ?_ ?_ _ _ | refine Ext.storesk ?_ ?_ _ _ _ | refine Ext.store ?_ _ _ (by first | omega | (dsimp only; omega)) | refine Ext.drewN' ?_ _ | refine Ext.drew' ?_ | refine Ext.trans ?_ (by assumption)))))
    clear Bm_10 zm cm0 cm1 cm2 dm0 dm1 dm2 Ba_10 za ca0 ca1 ca2 da0 da1 da2 Bt_10 zt ct0 ct1 ct2 dt0 dt1 dt2 Bs_10 zs cs0 cs1 cs2 ds0 ds1 ds2 Bb_10 zb cb0 cb1 cb2 db0 db1 db2 Bc_10 zc cc0 cc1 cc2 dc0 dc1 dc2
    obtain ⟨cm0, cm1, cm2, dm0, dm1, dm2⟩ := cells3 Bm_11
    have zm : w1.heap.size < w11.heap.size := Bm_11.lt
    obtain ⟨ca0, ca1, ca2, da0, da1, da2⟩ := cells3 Ba_11
    have za : b3 < w11.heap.size := Ba_11.lt
    obtain ⟨ct0, ct1, ct2, dt0, dt1, dt2⟩ := cells3 Bt_11
    have zt : w3.heap.size < w11.heap.size := Bt_11.lt
    obtain ⟨cs0, cs1, cs2, ds0, ds1, ds2⟩ := cells3 Bs_11
    have zs : w4.heap.size < w11.heap.size := Bs_11.lt
    obtain ⟨cb0, cb1, cb2, db0, db1, db2⟩ := cells3 Bb_11
    have zb : w5.heap.size < w11.heap.size := Bb_11.lt
    obtain ⟨cc0, cc1, cc2, dc0, dc1, dc2⟩ := cells3 Bc_11
    have zc : w6.heap.size < w11.heap.size := Bc_11.lt
    go_wp2
    go_ret
    exact ⟨_, rfl, (by with_reducible (repeat (first | assumption | exact Ext.refl _ | refine Ext.alloc' ?_ _ | refine Ext.store0 ?_ _ _ | refine Ext.storek ?_ _ _ _ | refine Ext.stores0 ?_ ?_ _ _ | refine Ext.storesk ?_ ?_ _ _ _ | refine Ext.store ?_ _ _ (by first | omega | (dsimp only; omega)) | refine Ext.drewN' ?_ _ | refine Ext.drew' ?_ | refine Ext.trans ?_ (by assumption)))), rfl⟩
end Go.Proofs.Ytcfbdfgondmkoaa
/- More boxes; arenas that are the same. -/
namespace Go.Proofs.Ytcfbdfgondmkoaa
open Go Go.RowKit
set_option linter.unusedSimpArgs false
set_option linter.unusedVariables false
set_option linter.unnecessarySimpa false

theorem cells2 {w : World} {b : Nat} {c0 c1 : Value} {t : TypeId} (h : Box w b #[c0, c1] t) :
    w.cell? ⟨b, 0, none⟩ = some c0 ∧ w.cell? ⟨b, 1, none⟩ = some c1 ∧ w.frozen? ⟨b, 0, none⟩ = false ∧ w.frozen? ⟨b, 1, none⟩ = false :=
  ⟨h.cell rfl, h.cell rfl, h.frozen, h.frozen⟩
theorem cells4 {w : World} {b : Nat} {c0 c1 c2 c3 : Value} {t : TypeId} (h : Box w b #[c0, c1, c2, c3] t) :
    w.cell? ⟨b, 0, none⟩ = some c0 ∧ w.cell? ⟨b, 1, none⟩ = some c1 ∧ w.cell? ⟨b, 2, none⟩ = some c2 ∧ w.cell? ⟨b, 3, none⟩ = some c3 ∧ w.frozen? ⟨b, 0, none⟩ = false ∧ w.frozen? ⟨b, 1, none⟩ = false ∧ w.frozen? ⟨b, 2, none⟩ = false ∧ w.frozen? ⟨b, 3, none⟩ = false :=
  ⟨h.cell rfl, h.cell rfl, h.cell rfl, h.cell rfl, h.frozen, h.frozen, h.frozen, h.frozen⟩
theorem cells6 {w : World} {b : Nat} {c0 c1 c2 c3 c4 c5 : Value} {t : TypeId} (h : Box w b #[c0, c1, c2, c3, c4, c5] t) :
    w.cell? ⟨b, 0, none⟩ = some c0 ∧ w.cell? ⟨b, 1, none⟩ = some c1 ∧ w.cell? ⟨b, 2, none⟩ = some c2 ∧ w.cell? ⟨b, 3, none⟩ = some c3 ∧ w.cell? ⟨b, 4, none⟩ = some c4 ∧ w.cell? ⟨b, 5, none⟩ = some c5 ∧ w.frozen? ⟨b, 0, none⟩ = false ∧ w.frozen? ⟨b, 1, none⟩ = false ∧ w.frozen? ⟨b, 2, none⟩ = false ∧ w.frozen? ⟨b, 3, none⟩ = false ∧ w.frozen? ⟨b, 4, none⟩ = false ∧ w.frozen? ⟨b, 5, none⟩ = false :=
  ⟨h.cell rfl, h.cell rfl, h.cell rfl, h.cell rfl, h.cell rfl, h.cell rfl, h.frozen, h.frozen, h.frozen, h.frozen, h.frozen, h.frozen⟩
theorem cells7 {w : World} {b : Nat} {c0 c1 c2 c3 c4 c5 c6 : Value} {t : TypeId} (h : Box w b #[c0, c1, c2, c3, c4, c5, c6] t) :
    w.cell? ⟨b, 0, none⟩ = some c0 ∧ w.cell? ⟨b, 1, none⟩ = some c1 ∧ w.cell? ⟨b, 2, none⟩ = some c2 ∧ w.cell? ⟨b, 3, none⟩ = some c3 ∧ w.cell? ⟨b, 4, none⟩ = some c4 ∧ w.cell? ⟨b, 5, none⟩ = some c5 ∧ w.cell? ⟨b, 6, none⟩ = some c6 ∧ w.frozen? ⟨b, 0, none⟩ = false ∧ w.frozen? ⟨b, 1, none⟩ = false ∧ w.frozen? ⟨b, 2, none⟩ = false ∧ w.frozen? ⟨b, 3, none⟩ = false ∧ w.frozen? ⟨b, 4, none⟩ = false ∧ w.frozen? ⟨b, 5, none⟩ = false ∧ w.frozen? ⟨b, 6, none⟩ = false :=
  ⟨h.cell rfl, h.cell rfl, h.cell rfl, h.cell rfl, h.cell rfl, h.cell rfl, h.cell rfl, h.frozen, h.frozen, h.frozen, h.frozen, h.frozen, h.frozen, h.frozen⟩
theorem cells9 {w : World} {b : Nat} {c0 c1 c2 c3 c4 c5 c6 c7 c8 : Value} {t : TypeId} (h : Box w b #[c0, c1, c2, c3, c4, c5, c6, c7, c8] t) :
    w.cell? ⟨b, 0, none⟩ = some c0 ∧ w.cell? ⟨b, 1, none⟩ = some c1 ∧ w.cell? ⟨b, 2, none⟩ = some c2 ∧ w.cell? ⟨b, 3, none⟩ = some c3 ∧ w.cell? ⟨b, 4, none⟩ = some c4 ∧ w.cell? ⟨b, 5, none⟩ = some c5 ∧ w.cell? ⟨b, 6, none⟩ = some c6 ∧ w.cell? ⟨b, 7, none⟩ = some c7 ∧ w.cell? ⟨b, 8, none⟩ = some c8 ∧ w.frozen? ⟨b, 0, none⟩ = false ∧ w.frozen? ⟨b, 1, none⟩ = false ∧ w.frozen? ⟨b, 2, none⟩ = false ∧ w.frozen? ⟨b, 3, none⟩ = false ∧ w.frozen? ⟨b, 4, none⟩ = false ∧ w.frozen? ⟨b, 5, none⟩ = false ∧ w.frozen? ⟨b, 6, none⟩ = false ∧ w.frozen? ⟨b, 7, none⟩ = false ∧ w.frozen? ⟨b, 8, none⟩ = false :=
  ⟨h.cell rfl, h.cell rfl, h.cell rfl, h.cell rfl, h.cell rfl, h.cell rfl, h.cell rfl, h.cell rfl, h.cell rfl, h.frozen, h.frozen, h.frozen, h.frozen, h.frozen, h.frozen, h.frozen, h.frozen, h.frozen⟩

theorem sameD_refl (m : Arena) : sameD m m = true := by simp [sameD]
theorem Fits.of_may {m : Arena} {n : Nat} (h : mayD m n = true) : Fits m := by
  simp [mayD] at h
  exact Fits.of_right h.2
end Go.Proofs.Ytcfbdfgondmkoaa
/- What the arguments of a law read as, type by type. -/
namespace Go.Proofs.Ytcfbdfgondmkoaa
open Go Go.RowKit Go.WideShapes

theorem laidOut : laidOutB Proofs.Try.prog = true := by kernel_rfl
theorem own : ownKnob Proofs.Try.prog.godebug = none := by kernel_rfl

/-- These cells read as a value of type t. -/
def Rd {H : Type} (enc : TypeId × Value → H) (P : Program) (w : World) (t : TypeId) (cs : List Value) : Prop := ∃ fuel x, DataW.trod enc P w 0 (fun _ => true) true fuel t cs = some x
section
variable {H : Type} {enc : TypeId × Value → H} {P : Program} {w : World} {t : TypeId} {cs : List Value}
theorem Rd.of_trod {v : Value} {d : DataW H} {ps : List MemPlace} (h : DataW.Trod enc P w 0 (fun _ => true) true t v d ps) : Rd enc P w t v.cells.toList := by
  obtain ⟨n, h⟩ := h
  exact ⟨n, _, h⟩
theorem Rd.int {k : IntKind} (h : Rd enc P w t cs) (ht : P.underlying t = some (.int k)) : ∃ n, cs = [.int k n] ∧ (Lit.int k n).wf = true := by
  obtain ⟨n, x, h⟩ := h
  obtain ⟨m, h1, _, h2⟩ := DataW.trod_int ht h
  exact ⟨m, h1, h2⟩
theorem Rd.bool (h : Rd enc P w t cs) (ht : P.underlying t = some .bool) : ∃ b, cs = [.bool b] := by
  obtain ⟨n, x, h⟩ := h
  obtain ⟨m, h1, _⟩ := DataW.trod_bool ht h
  exact ⟨m, h1⟩
theorem Rd.struct {fs : Array Field} (h : Rd enc P w t cs) (ht : P.underlying t = some (.struct fs)) : cs.length = P.cellsOf t ∧ ∀ (i : Nat) (f : Field), fs[i]? = some f → Rd enc P w f.type ((cs.drop f.offset).take (P.cellsOf f.type)) := by
  obtain ⟨n, x, h⟩ := h
  obtain ⟨xs, m, _, _, hl, hlen, hf⟩ := DataW.trod_struct ht h
  refine ⟨hl, fun i f hi => ?_⟩
  have h1 := hf i f hi
  have hlt : i < xs.length := by rw [hlen]; exact (Array.getElem?_eq_some_iff.1 hi).1
  rw [List.getElem?_eq_getElem hlt] at h1
  exact ⟨m, _, h1⟩
theorem Rd.field {fs : Array Field} (h : Rd enc P w t cs) (ht : P.underlying t = some (.struct fs)) (i : Nat) {f : Field} {n : Nat} (hi : fs[i]? = some f) (hn : P.cellsOf f.type = n) : Rd enc P w f.type ((cs.drop f.offset).take n) := by
  subst hn
  exact (Rd.struct h ht).2 i f hi
theorem Rd.elem {n : Nat} {e : TypeId} {m : Nat} (h : Rd enc P w t cs) (ht : P.underlying t = some (.array n e)) (i : Nat) (hi : i < n) (hm : P.cellsOf e = m) : Rd enc P w e ((cs.drop (i * m)).take m) := by
  subst hm
  obtain ⟨fuel, x, h⟩ := h
  obtain ⟨xs, m, _, _, hl, hlen, hf⟩ := DataW.trod_array ht h
  have h1 := hf i hi
  rw [List.getElem?_eq_getElem (by omega)] at h1
  exact ⟨m, _, h1⟩
theorem Rd.array {n : Nat} {e : TypeId} (h : Rd enc P w t cs) (ht : P.underlying t = some (.array n e)) : cs.length = P.cellsOf t ∧ ∀ i, i < n → Rd enc P w e ((cs.drop (i * P.cellsOf e)).take (P.cellsOf e)) := by
  obtain ⟨fuel, x, h⟩ := h
  obtain ⟨xs, m, _, _, hl, hlen, hf⟩ := DataW.trod_array ht h
  refine ⟨hl, fun i hi => ?_⟩
  have h1 := hf i hi
  rw [List.getElem?_eq_getElem (by omega)] at h1
  exact ⟨m, _, h1⟩
theorem Rd.slice {e : TypeId} (h : Rd enc P w t cs) (ht : P.underlying t = some (.slice e)) : cs = [.slice none 0 0] ∨
    ∃ a len cap, cs = [.slice (some a) len cap] ∧ len ≤ cap ∧ cap ≤ maxLen ∧ ∀ i, i < cap → ∃ cs', w.cells? 0 (a.add (i * P.cellsOf e)) (P.cellsOf e) = some cs' ∧ Rd enc P w e cs' := by
  obtain ⟨fuel, x, h⟩ := h
  rcases Deep.open_slice ht h with ⟨rfl, _⟩ | ⟨a, len, cap, m, n, D, Pl, rfl, _, hl, hm, hmm, _, hx⟩
  · exact .inl rfl
  · refine .inr ⟨a, len, cap, rfl, hl, hm, fun i hi => ?_⟩
    simp only [if_true] at hmm
    subst hmm
    obtain ⟨cs', h1, h2⟩ := hx i hi
    exact ⟨cs', h1, n, _, h2⟩

theorem okWide_array {n : Nat} {e : TypeId} {r : Reach} {base : Nat} {v : Value} (ht : P.underlying t = some (.array n e)) (h : Value.okWide P w r base t v) : ∃ cs, v = .agg cs ∧ cs.size = P.cellsOf t := by
  unfold Value.okWide at h
  rw [ht] at h
  obtain ⟨cs, h1, h2, _⟩ := h
  exact ⟨cs, h1, h2⟩
end

theorem agg1 {c : Array Value} (h : c.size = 1) : ∃ x0, c = #[x0] := by
  obtain ⟨c⟩ := c
  match c, h with
  | [x0], _ => exact ⟨x0, rfl⟩
theorem agg2 {c : Array Value} (h : c.size = 2) : ∃ x0 x1, c = #[x0, x1] := by
  obtain ⟨c⟩ := c
  match c, h with
  | [x0, x1], _ => exact ⟨x0, x1, rfl⟩
theorem agg3 {c : Array Value} (h : c.size = 3) : ∃ x0 x1 x2, c = #[x0, x1, x2] := by
  obtain ⟨c⟩ := c
  match c, h with
  | [x0, x1, x2], _ => exact ⟨x0, x1, x2, rfl⟩
theorem agg4 {c : Array Value} (h : c.size = 4) : ∃ x0 x1 x2 x3, c = #[x0, x1, x2, x3] := by
  obtain ⟨c⟩ := c
  match c, h with
  | [x0, x1, x2, x3], _ => exact ⟨x0, x1, x2, x3, rfl⟩
theorem agg5 {c : Array Value} (h : c.size = 5) : ∃ x0 x1 x2 x3 x4, c = #[x0, x1, x2, x3, x4] := by
  obtain ⟨c⟩ := c
  match c, h with
  | [x0, x1, x2, x3, x4], _ => exact ⟨x0, x1, x2, x3, x4, rfl⟩
theorem agg6 {c : Array Value} (h : c.size = 6) : ∃ x0 x1 x2 x3 x4 x5, c = #[x0, x1, x2, x3, x4, x5] := by
  obtain ⟨c⟩ := c
  match c, h with
  | [x0, x1, x2, x3, x4, x5], _ => exact ⟨x0, x1, x2, x3, x4, x5, rfl⟩
theorem agg7 {c : Array Value} (h : c.size = 7) : ∃ x0 x1 x2 x3 x4 x5 x6, c = #[x0, x1, x2, x3, x4, x5, x6] := by
  obtain ⟨c⟩ := c
  match c, h with
  | [x0, x1, x2, x3, x4, x5, x6], _ => exact ⟨x0, x1, x2, x3, x4, x5, x6, rfl⟩
theorem agg8 {c : Array Value} (h : c.size = 8) : ∃ x0 x1 x2 x3 x4 x5 x6 x7, c = #[x0, x1, x2, x3, x4, x5, x6, x7] := by
  obtain ⟨c⟩ := c
  match c, h with
  | [x0, x1, x2, x3, x4, x5, x6, x7], _ => exact ⟨x0, x1, x2, x3, x4, x5, x6, x7, rfl⟩
theorem agg9 {c : Array Value} (h : c.size = 9) : ∃ x0 x1 x2 x3 x4 x5 x6 x7 x8, c = #[x0, x1, x2, x3, x4, x5, x6, x7, x8] := by
  obtain ⟨c⟩ := c
  match c, h with
  | [x0, x1, x2, x3, x4, x5, x6, x7, x8], _ => exact ⟨x0, x1, x2, x3, x4, x5, x6, x7, x8, rfl⟩
theorem agg10 {c : Array Value} (h : c.size = 10) : ∃ x0 x1 x2 x3 x4 x5 x6 x7 x8 x9, c = #[x0, x1, x2, x3, x4, x5, x6, x7, x8, x9] := by
  obtain ⟨c⟩ := c
  match c, h with
  | [x0, x1, x2, x3, x4, x5, x6, x7, x8, x9], _ => exact ⟨x0, x1, x2, x3, x4, x5, x6, x7, x8, x9, rfl⟩
theorem agg11 {c : Array Value} (h : c.size = 11) : ∃ x0 x1 x2 x3 x4 x5 x6 x7 x8 x9 x10, c = #[x0, x1, x2, x3, x4, x5, x6, x7, x8, x9, x10] := by
  obtain ⟨c⟩ := c
  match c, h with
  | [x0, x1, x2, x3, x4, x5, x6, x7, x8, x9, x10], _ => exact ⟨x0, x1, x2, x3, x4, x5, x6, x7, x8, x9, x10, rfl⟩
theorem agg12 {c : Array Value} (h : c.size = 12) : ∃ x0 x1 x2 x3 x4 x5 x6 x7 x8 x9 x10 x11, c = #[x0, x1, x2, x3, x4, x5, x6, x7, x8, x9, x10, x11] := by
  obtain ⟨c⟩ := c
  match c, h with
  | [x0, x1, x2, x3, x4, x5, x6, x7, x8, x9, x10, x11], _ => exact ⟨x0, x1, x2, x3, x4, x5, x6, x7, x8, x9, x10, x11, rfl⟩
theorem agg13 {c : Array Value} (h : c.size = 13) : ∃ x0 x1 x2 x3 x4 x5 x6 x7 x8 x9 x10 x11 x12, c = #[x0, x1, x2, x3, x4, x5, x6, x7, x8, x9, x10, x11, x12] := by
  obtain ⟨c⟩ := c
  match c, h with
  | [x0, x1, x2, x3, x4, x5, x6, x7, x8, x9, x10, x11, x12], _ => exact ⟨x0, x1, x2, x3, x4, x5, x6, x7, x8, x9, x10, x11, x12, rfl⟩
theorem agg14 {c : Array Value} (h : c.size = 14) : ∃ x0 x1 x2 x3 x4 x5 x6 x7 x8 x9 x10 x11 x12 x13, c = #[x0, x1, x2, x3, x4, x5, x6, x7, x8, x9, x10, x11, x12, x13] := by
  obtain ⟨c⟩ := c
  match c, h with
  | [x0, x1, x2, x3, x4, x5, x6, x7, x8, x9, x10, x11, x12, x13], _ => exact ⟨x0, x1, x2, x3, x4, x5, x6, x7, x8, x9, x10, x11, x12, x13, rfl⟩
theorem agg15 {c : Array Value} (h : c.size = 15) : ∃ x0 x1 x2 x3 x4 x5 x6 x7 x8 x9 x10 x11 x12 x13 x14, c = #[x0, x1, x2, x3, x4, x5, x6, x7, x8, x9, x10, x11, x12, x13, x14] := by
  obtain ⟨c⟩ := c
  match c, h with
  | [x0, x1, x2, x3, x4, x5, x6, x7, x8, x9, x10, x11, x12, x13, x14], _ => exact ⟨x0, x1, x2, x3, x4, x5, x6, x7, x8, x9, x10, x11, x12, x13, x14, rfl⟩
theorem agg16 {c : Array Value} (h : c.size = 16) : ∃ x0 x1 x2 x3 x4 x5 x6 x7 x8 x9 x10 x11 x12 x13 x14 x15, c = #[x0, x1, x2, x3, x4, x5, x6, x7, x8, x9, x10, x11, x12, x13, x14, x15] := by
  obtain ⟨c⟩ := c
  match c, h with
  | [x0, x1, x2, x3, x4, x5, x6, x7, x8, x9, x10, x11, x12, x13, x14, x15], _ => exact ⟨x0, x1, x2, x3, x4, x5, x6, x7, x8, x9, x10, x11, x12, x13, x14, x15, rfl⟩
theorem agg17 {c : Array Value} (h : c.size = 17) : ∃ x0 x1 x2 x3 x4 x5 x6 x7 x8 x9 x10 x11 x12 x13 x14 x15 x16, c = #[x0, x1, x2, x3, x4, x5, x6, x7, x8, x9, x10, x11, x12, x13, x14, x15, x16] := by
  obtain ⟨c⟩ := c
  match c, h with
  | [x0, x1, x2, x3, x4, x5, x6, x7, x8, x9, x10, x11, x12, x13, x14, x15, x16], _ => exact ⟨x0, x1, x2, x3, x4, x5, x6, x7, x8, x9, x10, x11, x12, x13, x14, x15, x16, rfl⟩
theorem agg18 {c : Array Value} (h : c.size = 18) : ∃ x0 x1 x2 x3 x4 x5 x6 x7 x8 x9 x10 x11 x12 x13 x14 x15 x16 x17, c = #[x0, x1, x2, x3, x4, x5, x6, x7, x8, x9, x10, x11, x12, x13, x14, x15, x16, x17] := by
  obtain ⟨c⟩ := c
  match c, h with
  | [x0, x1, x2, x3, x4, x5, x6, x7, x8, x9, x10, x11, x12, x13, x14, x15, x16, x17], _ => exact ⟨x0, x1, x2, x3, x4, x5, x6, x7, x8, x9, x10, x11, x12, x13, x14, x15, x16, x17, rfl⟩
theorem agg19 {c : Array Value} (h : c.size = 19) : ∃ x0 x1 x2 x3 x4 x5 x6 x7 x8 x9 x10 x11 x12 x13 x14 x15 x16 x17 x18, c = #[x0, x1, x2, x3, x4, x5, x6, x7, x8, x9, x10, x11, x12, x13, x14, x15, x16, x17, x18] := by
  obtain ⟨c⟩ := c
  match c, h with
  | [x0, x1, x2, x3, x4, x5, x6, x7, x8, x9, x10, x11, x12, x13, x14, x15, x16, x17, x18], _ => exact ⟨x0, x1, x2, x3, x4, x5, x6, x7, x8, x9, x10, x11, x12, x13, x14, x15, x16, x17, x18, rfl⟩

/-- a whole number fits its kind -/
theorem wf_i64 {n : Int} (h : (Lit.int .i64 n).wf = true) : -9223372036854775808 ≤ n ∧ n ≤ 9223372036854775807 := by
  simpa [Lit.wf, IntKind.min, IntKind.max, IntKind.signed, IntKind.bits] using h
theorem wf_u8 {n : Int} (h : (Lit.int .u8 n).wf = true) : 0 ≤ n ∧ n ≤ 255 := by
  simpa [Lit.wf, IntKind.min, IntKind.max, IntKind.signed, IntKind.bits] using h
theorem wf_u16 {n : Int} (h : (Lit.int .u16 n).wf = true) : 0 ≤ n ∧ n ≤ 65535 := by
  simpa [Lit.wf, IntKind.min, IntKind.max, IntKind.signed, IntKind.bits] using h
theorem wf_u32 {n : Int} (h : (Lit.int .u32 n).wf = true) : 0 ≤ n ∧ n ≤ 4294967295 := by
  simpa [Lit.wf, IntKind.min, IntKind.max, IntKind.signed, IntKind.bits] using h
theorem wf_u64 {n : Int} (h : (Lit.int .u64 n).wf = true) : 0 ≤ n ∧ n ≤ 18446744073709551615 := by
  simpa [Lit.wf, IntKind.min, IntKind.max, IntKind.signed, IntKind.bits] using h
theorem wf_i32 {n : Int} (h : (Lit.int .i32 n).wf = true) : -2147483648 ≤ n ∧ n ≤ 2147483647 := by
  simpa [Lit.wf, IntKind.min, IntKind.max, IntKind.signed, IntKind.bits] using h
theorem wf_i8 {n : Int} (h : (Lit.int .i8 n).wf = true) : -128 ≤ n ∧ n ≤ 127 := by
  simpa [Lit.wf, IntKind.min, IntKind.max, IntKind.signed, IntKind.bits] using h
end Go.Proofs.Ytcfbdfgondmkoaa
