/- A region that draws its order: each operation is shown once, in every world that extends the first; stores that end the region are carried out in their chain. -/
import Derived.WalkKit
import Derived.Orders
import Derived.KernelRfl
namespace Go.Proofs.Ytcfbdfgondmkoaa
open Go Go.RowKit

abbrev Ext (w w' : World) : Prop := Below w.heap.size w w'
theorem Ext.refl (w : World) : Ext w w := Below.refl _ _
theorem Ext.trans {a b c : World} (h : Ext a b) (k : Ext b c) : Ext a c :=
  ⟨k.os.trans h.os, k.tape.trans h.tape, k.output.trans h.output, Nat.le_trans h.size k.size, fun i hi => (k.block i (Nat.lt_of_lt_of_le hi h.size)).trans (h.block i hi)⟩
theorem Ext.alloc (w : World) (o : Obj) : Ext w (w.alloc o) := (Below.refl _ _).alloc (Nat.le_refl _) _
theorem Ext.drew (w : World) : Ext w w.drew := (Below.refl _ _).drew

/-- w' came of w by making memory, and by writing into blocks of X and into new ones. -/
structure Since (X : List Nat) (w w' : World) : Prop where
  os : w'.os = w.os
  tape : w'.tape = w.tape
  output : w'.output = w.output
  size : w.heap.size ≤ w'.heap.size
  block : ∀ k, k < w.heap.size → X.contains k = false → w'.heap[k]? = w.heap[k]?
theorem Since.refl (X : List Nat) (w : World) : Since X w w := ⟨rfl, rfl, rfl, Nat.le_refl _, fun _ _ _ => rfl⟩
theorem Since.ext {X : List Nat} {a b c : World} (h : Since X a b) (k : Ext b c) : Since X a c :=
  ⟨k.os.trans h.os, k.tape.trans h.tape, k.output.trans h.output, Nat.le_trans h.size k.size, fun i hi hx => (k.block i (Nat.lt_of_lt_of_le hi h.size)).trans (h.block i hi hx)⟩
theorem Since.of_ext {X : List Nat} {a b : World} (k : Ext a b) : Since X a b := (Since.refl X a).ext k
theorem Since.to_ext {a b : World} (k : Since [] a b) : Ext a b := ⟨k.os, k.tape, k.output, k.size, fun i hi => k.block i hi rfl⟩
theorem Since.setCell {X : List Nat} {a b : World} (h : Since X a b) (p : Addr) (u : Value) (hp : a.heap.size ≤ p.block ∨ X.contains p.block = true) : Since X a (b.setCell p u) :=
  ⟨h.os, h.tape, h.output, by simp [World.setCell]; exact h.size, fun i hi hx => by
    rw [← h.block i hi hx]
    refine Below.heap_setCell _ _ _ _ (fun e => ?_)
    rcases hp with hp | hp
    · omega
    · rw [← e, hx] at hp; cases hp⟩

abbrev GP := Value → World → Prop
def Stable (g : GP) : Prop := ∀ v w w', g v w → Ext w w' → g v w'
def eqv (c : Value) : GP := fun v _ => v = c
theorem stable_eqv (c : Value) : Stable (eqv c) := fun _ _ _ h _ => h
def anyG : GP := fun _ _ => True

def valAt (a : Act) : Option Tmp → Value
  | none => undef
  | some t => a.tmps.getD t undef

theorem valAt_put_self {a : Act} {d : Option Tmp} {v : Value} (hd : ∀ t, d = some t → t < a.tmps.size) (hn : d = none → v = undef) : valAt (a.put d v) d = v := by
  cases d with
  | none => exact (hn rfl).symm
  | some t => simp [valAt, Act.put, hd t rfl]
theorem valAt_put_ne {a : Act} {d e : Option Tmp} {v : Value} (h : ∀ t, d = some t → e ≠ some t) : valAt (a.put d v) e = valAt a e := by
  cases d with
  | none => rfl
  | some t =>
    cases e with
    | none => rfl
    | some s =>
      have hne : t ≠ s := fun e => h t rfl (by rw [e])
      simp [valAt, Act.put, Array.getElem?_setIfInBounds_ne hne]

/-- One operation has come to its end: what it yields meets g. -/
def Yes (P : Program) (o : Oper) (a : Act) (w : World) (g : GP) : Prop :=
  match (execOp a.eval o).run P w with
  | .ok (.value v) w' => Ext w w' ∧ g v w' ∧ (o.dst = none → v = undef)
  | .ok .skip w' => Ext w w' ∧ g undef w'
  | .ok (.enter f args) w' => w' = w ∧ Calls P f args w (fun e w'' => ∃ v, e = .returned v ∧ Ext w w'' ∧ g v w'' ∧ (o.dst = none → v = undef))
  | _ => False
/-- The same behind stores: a value, and no word of memory. -/
def Late (P : Program) (o : Oper) (a : Act) (w1 w : World) (g : GP) : Prop :=
  ∃ v, (execOp a.eval o).run P w = .ok (.value v) w ∧ g v w1 ∧ (o.dst = none → v = undef)

def waits (ops : Array Oper) (j i : Nat) : Bool :=
  match ops[j]? with
  | some o => o.after.any fun e => Region.binds .any e && e.on == i
  | none => false
theorem waits_spec {ops : Array Oper} {j i : Nat} (h : waits ops j i = true) : ∃ oj, ops[j]? = some oj ∧ ∃ e ∈ oj.after, Region.binds .any e = true ∧ e.on = i := by
  unfold waits at h
  split at h
  · rename_i oj hj
    obtain ⟨e, he, hb⟩ := Array.any_eq_true'.1 h
    simp only [Bool.and_eq_true, beq_iff_eq] at hb
    exact ⟨oj, hj, e, he, hb.1, hb.2⟩
  · cases h

/-- The stores t1, t2, .. carried out, one behind the other. -/
def StoresRun (P : Program) (ops : Array Oper) (a : Act) : List Nat → World → World → Prop
  | [], w, w' => w' = w
  | t :: T, w, w' => ∃ o w1, ops[t]? = some o ∧ (execOp a.eval o).run P w = .ok .skip w1 ∧ StoresRun P ops a T w1 w'

theorem getD_replicate_false (m j : Nat) : (Array.replicate m false).getD j false = false := by
  rcases Nat.lt_or_ge j m with h | h
  · simp [h]
  · simp [h]

/-- What must be so of the region's text. T: the stores that end it; L: what may come up behind them; n: the frame's size. -/
def chk (ops : Array Oper) (T L : List Nat) (n : Nat) : Bool :=
  (List.range ops.size).all (fun i => match ops[i]? with
    | some o =>
      (match o.dst with | some t => decide (t < n) | none => true) &&
      (o.after.all fun e => !Region.binds .any e || decide (e.on < i)) &&
      (List.range i).all (fun j => match ops[j]? with | some p => (match o.dst with | some t => p.dst != some t | none => true) | none => true) &&
      (T.contains i || L.contains i || (match T with | [] => true | t :: _ => waits ops t i)) &&
      (!T.contains i || (o.dst == none && o.guard == none)) &&
      (!L.contains i || T.all fun t => waits ops t i || (match ops[t]?, o.dst with | some p, some d => !(p.looksAt ops).contains d | _, _ => true)) &&
      (match o.op with | .select .. => false | _ => true)
    | none => false) &&
  (List.range (T.length - 1)).all (fun k => waits ops (T.getD (k + 1) 0) (T.getD k 0)) && decide T.Nodup && T.all (fun t => decide (t < ops.size)) && L.all (fun i => !T.contains i)

section
variable {P : Program} {ops : Array Oper} {Q : Exit → Act → World → Prop} {a0 : Act} {w0 : World} {X T L : List Nat} {G : List GP} {n : Nat}

/-- Slots that the region does not write hold what they held. -/
def FrameOk (ops : Array Oper) (a0 a : Act) : Prop :=
  a.defers = a0.defers ∧ a.tmps.size = a0.tmps.size ∧ ∀ t, (∀ (i : Nat) (o : Oper), ops[i]? = some o → o.dst ≠ some t) → a.tmps[t]? = a0.tmps[t]?

/-- .. and so do, as long as operation i has not come up, the slots of those that wait for it. -/
def FrameAt (ops : Array Oper) (a0 : Act) (i : Nat) (a : Act) : Prop :=
  FrameOk ops a0 a ∧ ∀ (j : Nat) (o : Oper) (t : Tmp), ops[j]? = some o → waits ops j i = true → o.dst = some t → a.tmps[t]? = a0.tmps[t]?

/-- What is known of the operations that i waits for. -/
def Deps (ops : Array Oper) (T : List Nat) (G : List GP) (i : Nat) (a : Act) (w : World) : Prop :=
  ∀ o, ops[i]? = some o → ∀ e ∈ o.after, Region.binds .any e = true → T.contains e.on = false → ∀ p, ops[e.on]? = some p → (G.getD e.on anyG) (valAt a p.dst) w

structure RInv (P : Program) (ops : Array Oper) (a0 : Act) (w0 : World) (X T : List Nat) (G : List GP) (listed : Array Bool) (a : Act) (w : World) : Prop where
  size : listed.size = ops.size
  closed : ∀ j oj, ops[j]? = some oj → listed.getD j false = true → ∀ e ∈ oj.after, Region.binds .any e = true → listed.getD e.on false = true
  frame : FrameOk ops a0 a
  unl : ∀ (j : Nat) (o : Oper) (t : Tmp), ops[j]? = some o → listed.getD j false = false → o.dst = some t → a.tmps[t]? = a0.tmps[t]?
  rest : ∃ w1 k, k ≤ T.length ∧ (∀ j, j < T.length → (listed.getD (T.getD j 0) false = true ↔ j < k)) ∧ Since X w0 w1 ∧ Since X w0 w ∧ StoresRun P ops a (T.take k) w1 w ∧
    (∀ i o, ops[i]? = some o → T.contains i = false → listed.getD i false = true → (G.getD i anyG) (valAt a o.dst) w1)

theorem chk_at (h : chk ops T L n = true) {i : Nat} {o : Oper} (ho : ops[i]? = some o) :
    (∀ t, o.dst = some t → t < n) ∧ (∀ e ∈ o.after, Region.binds .any e = true → e.on < i) ∧
    (∀ j p t, j < i → ops[j]? = some p → o.dst = some t → p.dst ≠ some t) ∧
    (T.contains i = true ∨ L.contains i = true ∨ (∀ t r, T = t :: r → waits ops t i = true)) ∧
    (T.contains i = true → o.dst = none ∧ o.guard = none) ∧
    (L.contains i = true → ∀ t ∈ T, waits ops t i = true ∨ ∀ p d, ops[t]? = some p → o.dst = some d → d ∉ p.looksAt ops) ∧
    (∀ cs b, o.op ≠ .select cs b) := by
  simp only [chk, Bool.and_eq_true] at h
  have h1 := List.all_eq_true.1 h.1.1.1.1 i (List.mem_range.2 (Array.getElem?_eq_some_iff.1 ho).1)
  simp only [ho, Bool.and_eq_true] at h1
  obtain ⟨⟨⟨⟨⟨⟨h2, h3⟩, h4⟩, h5⟩, h6⟩, h7⟩, h8⟩ := h1
  refine ⟨fun t ht => ?_, fun e he hb => ?_, fun j p t hj hp ht => ?_, ?_, fun hT => ?_, fun hL t ht => ?_, fun cs b hs => ?_⟩
  · rw [ht] at h2; simpa using h2
  · have := Array.all_eq_true_iff_forall_mem.1 h3 e he; simpa [hb] using this
  · have := List.all_eq_true.1 h4 j (List.mem_range.2 hj)
    rw [hp, ht] at this
    simpa using this
  · simp only [Bool.or_eq_true] at h5
    rcases h5 with (h5 | h5) | h5
    · exact .inl h5
    · exact .inr (.inl h5)
    · exact .inr (.inr fun t r e => by rw [e] at h5; exact h5)
  · rw [hT] at h6; simpa using h6
  · rw [hL] at h7
    simp only [Bool.not_true, Bool.false_or] at h7
    have := List.all_eq_true.1 h7 t ht
    simp only [Bool.or_eq_true] at this
    rcases this with h9 | h9
    · exact .inl h9
    · refine .inr fun p d hp hd => ?_
      rw [hp, hd] at h9
      simpa using h9
  · rw [hs] at h8; cases h8

theorem chk_chain (h : chk ops T L n = true) {k : Nat} (hk : k + 1 < T.length) : waits ops (T.getD (k + 1) 0) (T.getD k 0) = true := by
  simp only [chk, Bool.and_eq_true] at h
  exact List.all_eq_true.1 h.1.1.1.2 k (List.mem_range.2 (by omega))
theorem chk_lt (h : chk ops T L n = true) {t : Nat} (ht : t ∈ T) : t < ops.size := by
  simp only [chk, Bool.and_eq_true] at h
  simpa using List.all_eq_true.1 h.1.2 t ht
theorem chk_nodup (h : chk ops T L n = true) : T.Nodup := by
  simp only [chk, Bool.and_eq_true] at h
  simpa using h.1.1.2

theorem getD_ft {listed : Array Bool} {i : Nat} (h : listed.getD i true = false) : listed.getD i false = false := by
  rcases Nat.lt_or_ge i listed.size with h' | h'
  · simp [h'] at h ⊢; exact h
  · simp [Array.getElem?_eq_none h'] at h

/-- Two operations' destinations differ. -/
theorem chk_dst (h : chk ops T L n = true) {i j : Nat} {o p : Oper} (ho : ops[i]? = some o) (hp : ops[j]? = some p) (hne : i ≠ j) {t : Tmp} (ht : o.dst = some t) : p.dst ≠ some t := by
  rcases Nat.lt_or_ge j i with hlt | hge
  · exact (chk_at h ho).2.2.1 j p t hlt hp ht
  · intro hpt
    exact (chk_at h hp).2.2.1 i o t (by omega) ho hpt ht

theorem StoresRun.put {a : Act} {d : Option Tmp} {v : Value} : ∀ {T : List Nat} {w w' : World}, (∀ t ∈ T, ∀ p, ops[t]? = some p → (∀ cs b, p.op ≠ .select cs b) ∧ ∀ s, d = some s → s ∉ p.looksAt ops) →
    StoresRun P ops a T w w' → StoresRun P ops (a.put d v) T w w'
  | [], _, _, _, h => h
  | t :: T, w, w', hn, h => by
    obtain ⟨o, w1, ho, hr, h2⟩ := h
    obtain ⟨hs, hl⟩ := hn t (by simp) o ho
    exact ⟨o, w1, ho, by rw [execOp_put (ops := ops) o hs a d v hl]; exact hr, StoresRun.put (fun t ht => hn t (by simp [ht])) h2⟩

theorem StoresRun.snoc {a : Act} {t : Nat} {o : Oper} {w2 w3 : World} (ho : ops[t]? = some o) (hr : (execOp a.eval o).run P w2 = .ok .skip w3) : ∀ {T : List Nat} {w : World}, StoresRun P ops a T w w2 → StoresRun P ops a (T ++ [t]) w w3
  | [], w, h => by
    have h' : w2 = w := h
    subst h'
    exact ⟨o, w3, ho, hr, rfl⟩
  | s :: T, w, h => by
    obtain ⟨p, w1, hp, hr1, h2⟩ := h
    exact ⟨p, w1, hp, hr1, StoresRun.snoc ho hr h2⟩

theorem FrameOk.put {a : Act} (h : FrameOk ops a0 a) {i : Nat} {o : Oper} (ho : ops[i]? = some o) (v : Value) : FrameOk ops a0 (a.put o.dst v) := by
  obtain ⟨h1, h2, h3⟩ := h
  cases hd : o.dst with
  | none => exact ⟨h1, h2, h3⟩
  | some t =>
    refine ⟨h1, by simpa [Act.put] using h2, fun s hs => ?_⟩
    have hne : t ≠ s := fun e => hs i o ho (by rw [hd, e])
    rw [← h3 s hs]
    simp [Act.put, Array.getElem?_setIfInBounds_ne hne]

/-- Operation i, carried out: the relation with i listed. -/
theorem RInv.step (hc : chk ops T L n = true) (hn : a0.tmps.size = n) (hG : ∀ g ∈ G, Stable g)
    (hop : ∀ i o, ops[i]? = some o → T.contains i = false → L.contains i = false → ∀ a w, Since X w0 w → FrameAt ops a0 i a → Deps ops T G i a w → if Region.wanted o (yielded ops a.tmps) = true then Yes P o a w (G.getD i anyG) else (G.getD i anyG) undef w)
    (hlate : ∀ i o, ops[i]? = some o → L.contains i = true → ∀ a w1 w, Since X w0 w1 → Since X w0 w → FrameAt ops a0 i a → Deps ops T G i a w1 → if Region.wanted o (yielded ops a.tmps) = true then Late P o a w1 w (G.getD i anyG) else (G.getD i anyG) undef w1)
    (hstore : ∀ k o, k < T.length → ops[T.getD k 0]? = some o → ∀ a w1 w, Since X w0 w1 → Since X w0 w → FrameAt ops a0 (T.getD k 0) a → Deps ops T G (T.getD k 0) a w1 → StoresRun P ops a (T.take k) w1 w → ∃ w', (execOp a.eval o).run P w = .ok .skip w' ∧ Since X w0 w')
    {listed : Array Bool} {a : Act} {w : World} (h : RInv P ops a0 w0 X T G listed a w) {i : Nat} (hi : i ∈ Region.ready .any ops listed) :
    wpOp P ops Q i (RInv P ops a0 w0 X T G (listed.setIfInBounds i true)) a w := by
  obtain ⟨hun, o, ho, hall⟩ := mem_ready.1 hi
  have hilt : i < ops.size := (Array.getElem?_eq_some_iff.1 ho).1
  obtain ⟨hsz, hcl, hfr, hunl, w1, k, hk, hkT, hs1, hs2, hrun, hΓ⟩ := h
  obtain ⟨hdn, hback, hdist, hkind, hTd, hLd, hsel⟩ := chk_at hc ho
  have hiun : listed.getD i false = false := getD_ft hun
  have hfa : FrameAt ops a0 i a := by
    refine ⟨hfr, fun j p t hp hw ht => hunl j p t hp ?_ ht⟩
    cases hl : listed.getD j false with
    | false => rfl
    | true =>
      obtain ⟨oj, hoj, e, he, hb, hon⟩ := waits_spec hw
      have h3 := hcl j oj hoj hl e he hb
      rw [hon, hiun] at h3; cases h3
  have hcl' : ∀ j oj, ops[j]? = some oj → (listed.setIfInBounds i true).getD j false = true → ∀ e ∈ oj.after, Region.binds .any e = true → (listed.setIfInBounds i true).getD e.on false = true := by
    intro j oj hj hl e he hb
    by_cases hij : i = j
    · subst hij
      have : oj = o := Option.some.inj (hj.symm.trans ho)
      subst this
      exact getD_set_true (hall e he hb)
    · rw [getD_set_ne false hij] at hl
      exact getD_set_true (hcl j oj hj hl e he hb)
  have hdeps : Deps ops T G i a w1 := by
    intro o' ho' e he hb hT p hp
    have : o' = o := Option.some.inj (ho'.symm.trans ho)
    subst this
    exact hΓ e.on p hp hT (hall e he hb)
  -- who is listed behind it
  have hlisted : ∀ j, (listed.setIfInBounds i true).getD j false = true ↔ j = i ∨ listed.getD j false = true := by
    intro j
    by_cases hij : i = j
    · subst hij; simp [hsz, hilt]
    · rw [getD_set_ne false hij]
      constructor
      · exact .inr
      · rintro (e | e)
        · exact absurd e.symm hij
        · exact e
  have hsame : ∀ {v : Value} {j : Nat} {p : Oper}, ops[j]? = some p → j ≠ i → valAt (a.put o.dst v) p.dst = valAt a p.dst := by
    intro v j p hp hne
    exact valAt_put_ne fun t ht => chk_dst hc ho hp (Ne.symm hne) ht
  have hself : ∀ {v : Value}, (o.dst = none → v = undef) → valAt (a.put o.dst v) o.dst = v := by
    intro v hv
    exact valAt_put_self (fun t ht => by rw [hfr.2.1, hn]; exact hdn t ht) hv
  have hunl' : ∀ (v : Value) (j : Nat) (p : Oper) (t : Tmp), ops[j]? = some p → (listed.setIfInBounds i true).getD j false = false → p.dst = some t → (a.put o.dst v).tmps[t]? = a0.tmps[t]? := by
    intro v j p t hp hl ht
    have hji : i ≠ j := fun e => by
      subst e
      have := (hlisted i).2 (.inl rfl)
      rw [this] at hl; cases hl
    rw [getD_set_ne false hji] at hl
    rw [← hunl j p t hp hl ht]
    cases hd : o.dst with
    | none => rfl
    | some s =>
      have hne : s ≠ t := fun e => chk_dst hc ho hp hji hd (by rw [ht, e])
      simp [Act.put, Array.getElem?_setIfInBounds_ne hne]
  have hnotT : T.contains i = false → ∀ j, j < T.length → ((listed.setIfInBounds i true).getD (T.getD j 0) false = true ↔ j < k) := by
    intro hiT j hj
    have hne : i ≠ T.getD j 0 := by
      intro e
      have : T.contains i = true := by
        rw [e, List.getD_eq_getElem?_getD, List.getElem?_eq_getElem hj]
        simp
      rw [hiT] at this; cases this
    rw [getD_set_ne false hne]
    exact hkT j hj
  unfold wpOp
  simp only [ho]
  cases hiT : T.contains i with
  | true =>
    -- a store: it is the next of T
    obtain ⟨hd, hg⟩ := hTd hiT
    have himem : i ∈ T := by simpa using hiT
    obtain ⟨j, hj, hji⟩ := List.getElem_of_mem himem
    have hjD : T.getD j 0 = i := by rw [List.getD_eq_getElem?_getD, List.getElem?_eq_getElem hj]; simpa using hji
    have hjk : ¬ j < k := fun hlt => by
      have := (hkT j hj).2 hlt
      rw [hjD, hiun] at this; cases this
    have hjk2 : j = k := by
      rcases Nat.lt_or_ge k j with hlt | hge
      · exfalso
        obtain ⟨m, rfl⟩ : ∃ m, j = m + 1 := ⟨j - 1, by omega⟩
        have hw := chk_chain hc (k := m) (by omega)
        rw [hjD] at hw
        obtain ⟨oj, hoj, e, he, hb, hon⟩ := waits_spec hw
        have : oj = o := Option.some.inj (hoj.symm.trans ho)
        subst this
        have h1 := hall e he hb
        rw [hon] at h1
        have := (hkT m (by omega)).1 h1
        omega
      · omega
    subst hjk2
    rw [if_pos (by simp [Region.wanted, hg])]
    refine .inl ?_
    rw [← hjD] at hdeps
    obtain ⟨w', hr, hs'⟩ := hstore j o hj (by rw [hjD]; exact ho) a w1 w hs1 hs2 (by rw [hjD]; exact hfa) hdeps hrun
    unfold Oper.wp
    rw [hr]
    simp only [Oper.upon, hd, Act.put]
    refine ⟨by simpa using hsz, hcl', hfr, fun j' p t hp hl ht => by have := hunl' undef j' p t hp hl ht; rw [hd] at this; exact this, w1, j + 1, by omega, fun m hm => ?_, hs1, hs', ?_, ?_⟩
    · rw [hlisted]
      constructor
      · rintro (e | e)
        · have hnd := chk_nodup hc
          have h1 : T[m]? = T[j]? := by
            rw [List.getElem?_eq_getElem hm, List.getElem?_eq_getElem hj, hji]
            rw [List.getD_eq_getElem?_getD, List.getElem?_eq_getElem hm] at e
            simpa using e
          have := (List.getElem?_inj hm hnd).1 h1
          omega
        · have := (hkT m hm).1 e
          omega
      · intro hlt
        by_cases hmj : m = j
        · subst hmj; exact .inl hjD
        · exact .inr ((hkT m hm).2 (by omega))
    · rw [List.take_succ_eq_append_getElem hj, hji]
      exact StoresRun.snoc ho hr hrun
    · intro j' o' ho' hT' hl
      rw [hlisted] at hl
      rcases hl with rfl | hl
      · rw [hiT] at hT'; cases hT'
      · exact hΓ j' o' ho' hT' hl
  | false =>
    cases hiL : L.contains i with
    | true =>
      -- a late one
      have hst : ∀ v, StoresRun P ops (a.put o.dst v) (T.take k) w1 w := fun v => by
        refine hrun.put (fun t ht p hp => ⟨(chk_at hc hp).2.2.2.2.2.2, fun s hs => ?_⟩)
        have htT : t ∈ T := List.mem_of_mem_take ht
        rcases hLd hiL t htT with h1 | h1
        · exfalso
          obtain ⟨oj, hoj, e, he, hb, hon⟩ := waits_spec h1
          obtain ⟨j, hj, hjt⟩ := List.getElem_of_mem ht
          have hj' : j < k := by simp at hj; omega
          have hjT : j < T.length := by omega
          have hjt' : T.getD j 0 = t := by
            rw [List.getD_eq_getElem?_getD, List.getElem?_eq_getElem hjT]
            rw [List.getElem_take] at hjt
            simpa using hjt
          have h2 := (hkT j hjT).2 hj'
          rw [hjt'] at h2
          have h3 := hcl t oj hoj h2 e he hb
          rw [hon, hiun] at h3; cases h3
        · exact h1 p s hp hs
      have fin : ∀ v, (o.dst = none → v = undef) → (G.getD i anyG) v w1 → RInv P ops a0 w0 X T G (listed.setIfInBounds i true) (a.put o.dst v) w := fun v hv hg => by
        refine ⟨by simpa using hsz, hcl', hfr.put ho v, hunl' v, w1, k, hk, hnotT hiT, hs1, hs2, hst v, fun j p hp hT hl => ?_⟩
        rw [hlisted] at hl
        by_cases hji : j = i
        · subst hji
          have : p = o := Option.some.inj (hp.symm.trans ho)
          subst this
          rw [hself hv]; exact hg
        · rw [hsame hp hji]
          exact hΓ j p hp hT (hl.resolve_left hji)
      have hl := hlate i o ho hiL a w1 w hs1 hs2 hfa hdeps
      split
      · rename_i hw
        rw [if_pos hw] at hl
        obtain ⟨v, hr, hg, hv⟩ := hl
        refine .inl ?_
        unfold Oper.wp
        rw [hr]
        exact fin v hv hg
      · rename_i hw
        rw [if_neg hw] at hl
        exact fin undef (fun _ => rfl) hl
    | false =>
      -- an early one: no store has come up
      have hk0 : k = 0 := by
        rcases Nat.eq_zero_or_pos k with h0 | hpos
        · exact h0
        · exfalso
          cases hTT : T with
          | nil => rw [hTT] at hk; simp at hk; omega
          | cons t r =>
            rcases hkind with h1 | h1 | h1
            · rw [hiT] at h1; cases h1
            · rw [hiL] at h1; cases h1
            · obtain ⟨oj, hoj, e, he, hb, hon⟩ := waits_spec (h1 t r hTT)
              have h2 := (hkT 0 (by rw [hTT]; simp)).2 hpos
              rw [hTT] at h2
              have h3 := hcl t oj hoj (by simpa using h2) e he hb
              rw [hon, hiun] at h3; cases h3
      subst hk0
      have hww : w = w1 := hrun
      subst hww
      have fin : ∀ v w', Ext w w' → (o.dst = none → v = undef) → (G.getD i anyG) v w' → RInv P ops a0 w0 X T G (listed.setIfInBounds i true) (a.put o.dst v) w' := fun v w' hx hv hg => by
        refine ⟨by simpa using hsz, hcl', hfr.put ho v, hunl' v, w', 0, hk, hnotT hiT, hs1.ext hx, hs1.ext hx, rfl, fun j p hp hT hl => ?_⟩
        rw [hlisted] at hl
        by_cases hji : j = i
        · subst hji
          have : p = o := Option.some.inj (hp.symm.trans ho)
          subst this
          rw [hself hv]; exact hg
        · rw [hsame hp hji]
          have h1 := hΓ j p hp hT (hl.resolve_left hji)
          by_cases hjG : j < G.length
          · have : G.getD j anyG ∈ G := by
              rw [List.getD_eq_getElem?_getD, List.getElem?_eq_getElem hjG]
              simp
            exact hG _ this _ _ _ h1 hx
          · rw [List.getD_eq_getElem?_getD, List.getElem?_eq_none (by omega)]
            exact trivial
      have hl := hop i o ho hiT hiL a w hs1 hfa hdeps
      split
      · rename_i hw
        rw [if_pos hw] at hl
        refine .inl ?_
        unfold Yes at hl
        unfold Oper.wp
        generalize (execOp a.eval o).run P w = r at *
        cases r with
        | ok nx w' =>
          cases nx <;> simp only at hl <;> simp only [Oper.upon]
          case value v => exact fin v w' hl.1 hl.2.2 hl.2.1
          case skip => exact fin undef w' hl.1 (fun _ => rfl) hl.2
          case enter f args =>
            obtain ⟨rfl, hcall⟩ := hl
            refine hcall.mono fun e w'' he => ?_
            obtain ⟨v, rfl, hx, hg, hv⟩ := he
            exact fin v w'' hx hv hg
        | halt x w' => simp only at hl
      · rename_i hw
        rw [if_neg hw] at hl
        exact fin undef w (Ext.refl _) (fun _ => rfl) hl

theorem ready_nil (hc : chk ops T L n = true) {listed : Array Bool} (hsz : listed.size = ops.size) (hr : Region.ready .any ops listed = []) : ∀ i, i < ops.size → listed.getD i false = true := by
  intro i
  induction i using Nat.strongRecOn with
  | _ i ih =>
    intro hi
    cases hl : listed.getD i false with
    | true => rfl
    | false =>
      exfalso
      have ho : ops[i]? = some ops[i] := Array.getElem?_eq_getElem hi
      have hmem : i ∈ Region.ready .any ops listed := by
        refine mem_ready.2 ⟨?_, ops[i], ho, fun e he hb => ?_⟩
        · have h2 : i < listed.size := by omega
          simp [h2] at hl ⊢
          exact hl
        · have h1 := (chk_at hc ho).2.1 e he hb
          exact ih e.on h1 (by omega)
      rw [hr] at hmem
      cases hmem

/-- how many are not listed yet -/
def open_ (listed : Array Bool) : Nat := (listed.toList.filter fun b => !b).length
theorem open_set {listed : Array Bool} {i : Nat} (hi : i < listed.size) (h : listed.getD i true = false) : open_ (listed.setIfInBounds i true) + 1 = open_ listed := by
  unfold open_
  rw [Array.toList_setIfInBounds]
  have hi' : i < listed.toList.length := by simpa using hi
  have h0 : listed.toList[i] = false := by simp [hi] at h; simpa using h
  have h1 : listed.toList = listed.toList.take i ++ false :: listed.toList.drop (i + 1) := by
    rw [← h0, List.getElem_cons_drop, List.take_append_drop]
  rw [List.set_eq_take_append_cons_drop, if_pos hi']
  conv => rhs; rw [h1]
  simp [List.filter_append]
  omega

theorem any_of_inv (I : Array Bool → Act → World → Prop) (hsz : ∀ listed a w, I listed a w → listed.size = ops.size) (hacyc : ∀ listed a w, I listed a w → Region.ready .any ops listed = [] → ∀ i, i < ops.size → listed.getD i false = true)
    (hprog : ∀ listed a w, I listed a w → open_ listed = 0 → Region.ready .any ops listed = [])
    (hstep : ∀ listed a w i, I listed a w → i ∈ Region.ready .any ops listed → wpOp P ops Q i (I (listed.setIfInBounds i true)) a w)
    (hend : ∀ listed a w, I listed a w → Region.ready .any ops listed = [] → Q .normal a w) :
    ∀ (m : Nat) (listed : Array Bool) (a : Act) (w : World), open_ listed = m → I listed a w → wpAny P .any ops Q m listed a w
  | 0, listed, a, w, hm, h => ⟨hprog _ _ _ h hm, hend _ _ _ h (hprog _ _ _ h hm)⟩
  | m + 1, listed, a, w, hm, h => ⟨fun hr => hend _ _ _ h hr, fun i hi => by
      have h1 := hstep _ _ _ i h hi
      obtain ⟨hun, o, ho, _⟩ := mem_ready.1 hi
      have hi2 : i < listed.size := by rw [hsz _ _ _ h]; exact (Array.getElem?_eq_some_iff.1 ho).1
      exact wpOp_mono (fun a' w' h' => any_of_inv I hsz hacyc hprog hstep hend m _ a' w' (by have := open_set hi2 hun; omega) h') h1⟩

theorem all_of_open {listed : Array Bool} (h : open_ listed = 0) (i : Nat) (hi : i < listed.size) : listed.getD i true = true := by
  unfold open_ at h
  have h1 := List.eq_nil_of_length_eq_zero h
  have h2 := List.filter_eq_nil_iff.1 h1 listed[i] (by simp)
  simp [hi]
  simpa using h2

/-- What the region leaves: each slot that it writes holds a value of which its fact is known. -/
def FinAll (T : List Nat) (K : Act → Prop) (w : World) : List Oper → List GP → Nat → Act → Prop
  | [], _, _, a => K a
  | o :: l, G, i, a => match T.contains i with
    | true => FinAll T K w l G.tail (i + 1) a
    | false => ∀ v, (G.headD anyG) v w → FinAll T K w l G.tail (i + 1) (a.put o.dst v)

theorem put_keeps {a : Act} {d : Option Tmp} {v : Value} : ((a.put d v).defers = a.defers) ∧ (a.put d v).tmps.size = a.tmps.size := by cases d <;> simp [Act.put]

theorem fin_all {K : Act → Prop} {w : World} (a : Act) : ∀ (l : List Oper) (G : List GP) (i : Nat) (b : Act),
    (∀ (j : Nat) (o : Oper), l[j]? = some o → T.contains (i + j) = false → (G.getD j anyG) (valAt a o.dst) w) →
    (∀ (j : Nat) (o : Oper), l[j]? = some o → T.contains (i + j) = true → o.dst = none) →
    a.defers = b.defers → a.tmps.size = b.tmps.size →
    (∀ t, (∀ (j : Nat) (o : Oper), l[j]? = some o → o.dst ≠ some t) → a.tmps[t]? = b.tmps[t]?) → FinAll T K w l G i b → K a
  | [], G, i, b, _, _, hd, hs, hf, h => by
    have e : a = b := by
      obtain ⟨at_, ad⟩ := a
      obtain ⟨bt, bd⟩ := b
      simp only at hd hs hf
      subst hd
      congr 1
      exact Array.ext_getElem? fun t => hf t (by simp)
    rw [e]; exact h
  | o :: l, G, i, b, hg, hT, hd, hs, hf, h => by
    unfold FinAll at h
    have step : ∀ (c : Act), c = b.put o.dst (valAt a o.dst) → FinAll T K w l G.tail (i + 1) c → K a := by
      intro c hc h
      subst hc
      refine fin_all a l G.tail (i + 1) _ (fun j p hp hTj => ?_) (fun j p hp hTj => hT (j + 1) p (by simpa using hp) (by rw [show i + (j + 1) = i + 1 + j by omega]; exact hTj)) ?_ ?_ ?_ h
      · have := hg (j + 1) p (by simpa using hp) (by rw [show i + (j + 1) = i + 1 + j by omega]; exact hTj)
        cases G <;> simpa using this
      · rw [put_keeps.1]; exact hd
      · rw [put_keeps.2]; exact hs
      · intro t ht
        by_cases hot : o.dst = some t
        · rw [hot]
          simp only [valAt, Act.put]
          rcases Nat.lt_or_ge t a.tmps.size with hlt | hge
          · rw [Array.getElem?_setIfInBounds_self_of_lt (by omega)]
            simp [hlt]
          · rw [Array.getElem?_eq_none hge, Array.getElem?_eq_none (by simp; omega)]
        · rw [hf t (fun j p hp => by
            cases j with
            | zero => simp at hp; subst hp; exact hot
            | succ j => exact ht j p (by simpa using hp))]
          cases hod : o.dst with
          | none => rfl
          | some s =>
            have hne : s ≠ t := fun e => hot (by rw [hod, e])
            simp [Act.put, Array.getElem?_setIfInBounds_ne hne]
    cases hTi : T.contains i with
    | true =>
      rw [hTi] at h
      refine step b ?_ h
      rw [hT 0 o rfl hTi]
      rfl
    | false =>
      rw [hTi] at h
      have hg0 := hg 0 o rfl hTi
      refine step _ rfl (h _ ?_)
      cases G <;> simpa using hg0

/-- **A REGION THAT DRAWS ITS ORDER**: each operation shown once. -/
theorem region_mono {id : Nat} (T L : List Nat) (X : List Nat) (G : List GP) (hm : P.follows .mixedOrders = true) (hc : chk ops T L a0.tmps.size = true) (hG : ∀ g ∈ G, Stable g)
    (hop : ∀ i o, ops[i]? = some o → T.contains i = false → L.contains i = false → ∀ a w, Since X w0 w → FrameAt ops a0 i a → Deps ops T G i a w → if Region.wanted o (yielded ops a.tmps) = true then Yes P o a w (G.getD i anyG) else (G.getD i anyG) undef w)
    (hlate : ∀ i o, ops[i]? = some o → L.contains i = true → ∀ a w1 w, Since X w0 w1 → Since X w0 w → FrameAt ops a0 i a → Deps ops T G i a w1 → if Region.wanted o (yielded ops a.tmps) = true then Late P o a w1 w (G.getD i anyG) else (G.getD i anyG) undef w1)
    (hstore : ∀ k o, k < T.length → ops[T.getD k 0]? = some o → ∀ a w1 w, Since X w0 w1 → Since X w0 w → FrameAt ops a0 (T.getD k 0) a → Deps ops T G (T.getD k 0) a w1 → StoresRun P ops a (T.take k) w1 w → ∃ w', (execOp a.eval o).run P w = .ok .skip w' ∧ Since X w0 w')
    (hfin : ∀ w, Since X w0 w → FinAll T (fun a => ∀ w', StoresRun P ops a T w w' → Q .normal a w') w ops.toList G 0 a0) : (Code.region id ops true).wp P Q a0 w0 := by
  refine wp_region_any hm ?_
  have hopen : open_ (Array.replicate ops.size false) = ops.size := by
    unfold open_
    simp
  refine any_of_inv (RInv P ops a0 w0 X T G) (fun _ _ _ h => h.size) (fun _ _ _ h hr => ready_nil hc h.size hr) (fun listed a w h h0 => ?_)
    (fun listed a w i h hi => h.step hc rfl hG hop hlate hstore hi) (fun listed a w h hr => ?_) ops.size _ _ _ hopen ?_
  · refine List.eq_nil_iff_forall_not_mem.2 (fun i hi => ?_)
    obtain ⟨hun, o, ho, _⟩ := mem_ready.1 hi
    have := all_of_open h0 i (by rw [h.size]; exact (Array.getElem?_eq_some_iff.1 ho).1)
    rw [hun] at this; cases this
  · have hall := ready_nil hc h.size hr
    obtain ⟨w1, k, hk, hkT, hs1, hs2, hrun, hΓ⟩ := h.rest
    have hkl : k = T.length := by
      rcases Nat.lt_or_ge k T.length with hlt | hge
      · exfalso
        have hm : T.getD k 0 ∈ T := by
          rw [List.getD_eq_getElem?_getD, List.getElem?_eq_getElem hlt]
          simp
        have := (hkT k hlt).1 (hall _ (chk_lt hc hm))
        omega
      · omega
    subst hkl
    rw [List.take_length] at hrun
    refine fin_all (T := T) (K := fun a => ∀ w', StoresRun P ops a T w1 w' → Q .normal a w') (w := w1) a ops.toList G 0 a0 (fun j o ho hT => ?_) (fun j o ho hT => ?_) h.frame.1 h.frame.2.1 (fun t ht => h.frame.2.2 t (fun i o ho => ht i o (by simpa using ho))) (hfin w1 hs1) w hrun
    · have ho' : ops[j]? = some o := by simpa using ho
      exact hΓ j o ho' (by simpa using hT) (hall j (Array.getElem?_eq_some_iff.1 ho').1)
    · have ho' : ops[j]? = some o := by simpa using ho
      exact ((chk_at hc ho').2.2.2.2.1 (by simpa using hT)).1
  · refine RInv.mk (by simp) (fun j oj hj hl => by rw [getD_replicate_false] at hl; exact absurd hl (by simp)) ⟨rfl, rfl, fun _ _ => rfl⟩ (fun _ _ _ _ _ _ => rfl) ⟨w0.drew, 0, Nat.zero_le _, fun j hj => ?_, Since.of_ext (Ext.drew w0), Since.of_ext (Ext.drew w0), rfl, fun i o ho hT hl => ?_⟩
    · rw [getD_replicate_false]; simp
    · rw [getD_replicate_false] at hl; exact absurd hl (by simp)

end
end Go.Proofs.Ytcfbdfgondmkoaa
