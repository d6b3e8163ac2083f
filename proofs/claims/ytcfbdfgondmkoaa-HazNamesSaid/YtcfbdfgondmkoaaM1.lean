/- Texts of this work, put together: Reg, RegI, Ops, Ops2, Num, Pack0, Pack1, Pack2, Ints, Cmp, Arena, EqA, Ar2, Ar3, Ar4, Ar5, Boxes, Ar6, Ar7, Bx, Own. -/
import Derived.WalkKit
import Derived.Orders
import Derived.KernelRfl
import Derived.Laws.StructEq
import Derived.Laws.BitsLemmas
import Derived.Laws.BitsAllLaws
import Derived.IntWalk
import Derived.Test.YtcfbdfgondmkoaaProg
import Derived.LoopN
import Derived.Lib.Hide
import Derived.Laws.MakeOwn
import Derived.Laws.IdiomCopy
import Derived.ArgAppend
import Derived.BigQuiet
import Derived.ChangeKeysEq
import Derived.StillTailTactics
/- A region that draws its order: each operation is shown once, in every world that extends the first; stores that end the region are carried out in their chain. -/
namespace Go.Proofs.Ytcfbdfgondmkoaa
open Go Go.RowKit

abbrev Ext (w w' : World) : Prop := Below w.heap.size w w'
theorem Ext.refl (w : World) : Ext w w := Below.refl _ _
theorem Ext.trans {a b c : World} (h : Ext a b) (k : Ext b c) : Ext a c :=
  ⟨k.os.trans h.os, k.tape.trans h.tape, k.output.trans h.output, Nat.le_trans h.size k.size, fun i hi => (k.block i (Nat.lt_of_lt_of_le hi h.size)).trans (h.block i hi)⟩
theorem Ext.alloc (w : World) (o : Obj) : Ext w (w.alloc o) := (Below.refl _ _).alloc (Nat.le_refl _) _
theorem Ext.drew (w : World) : Ext w w.drew := (Below.refl _ _).drew

/-- w' came of w by making memory, and by writing into blocks of X and into new ones. -/
structure Since (X : List Nat) (w w' : World) : Prop where
  os : w'.os = w.os
  tape : w'.tape = w.tape
  output : w'.output = w.output
  size : w.heap.size ≤ w'.heap.size
  block : ∀ k, k < w.heap.size → X.contains k = false → w'.heap[k]? = w.heap[k]?
theorem Since.refl (X : List Nat) (w : World) : Since X w w := ⟨rfl, rfl, rfl, Nat.le_refl _, fun _ _ _ => rfl⟩
theorem Since.ext {X : List Nat} {a b c : World} (h : Since X a b) (k : Ext b c) : Since X a c :=
  ⟨k.os.trans h.os, k.tape.trans h.tape, k.output.trans h.output, Nat.le_trans h.size k.size, fun i hi hx => (k.block i (Nat.lt_of_lt_of_le hi h.size)).trans (h.block i hi hx)⟩
theorem Since.of_ext {X : List Nat} {a b : World} (k : Ext a b) : Since X a b := (Since.refl X a).ext k
theorem Since.to_ext {a b : World} (k : Since [] a b) : Ext a b := ⟨k.os, k.tape, k.output, k.size, fun i hi => k.block i hi rfl⟩
theorem Since.setCell {X : List Nat} {a b : World} (h : Since X a b) (p : Addr) (u : Value) (hp : a.heap.size ≤ p.block ∨ X.contains p.block = true) : Since X a (b.setCell p u) :=
  ⟨h.os, h.tape, h.output, by simp [World.setCell]; exact h.size, fun i hi hx => by
    rw [← h.block i hi hx]
    refine Below.heap_setCell _ _ _ _ (fun e => ?_)
    rcases hp with hp | hp
    · omega
    · rw [← e, hx] at hp; cases hp⟩

abbrev GP := Value → World → Prop
def Stable (g : GP) : Prop := ∀ v w w', g v w → Ext w w' → g v w'
def eqv (c : Value) : GP := fun v _ => v = c
theorem stable_eqv (c : Value) : Stable (eqv c) := fun _ _ _ h _ => h
def anyG : GP := fun _ _ => True

def valAt (a : Act) : Option Tmp → Value
  | none => undef
  | some t => a.tmps.getD t undef

theorem valAt_put_self {a : Act} {d : Option Tmp} {v : Value} (hd : ∀ t, d = some t → t < a.tmps.size) (hn : d = none → v = undef) : valAt (a.put d v) d = v := by
  cases d with
  | none => exact (hn rfl).symm
  | some t => simp [valAt, Act.put, hd t rfl]
theorem valAt_put_ne {a : Act} {d e : Option Tmp} {v : Value} (h : ∀ t, d = some t → e ≠ some t) : valAt (a.put d v) e = valAt a e := by
  cases d with
  | none => rfl
  | some t =>
    cases e with
    | none => rfl
    | some s =>
      have hne : t ≠ s := fun e => h t rfl (by rw [e])
      simp [valAt, Act.put, Array.getElem?_setIfInBounds_ne hne]

/-- One operation has come to its end: what it yields meets g. -/
def Yes (P : Program) (o : Oper) (a : Act) (w : World) (g : GP) : Prop :=
  match (execOp a.eval o).run P w with
  | .ok (.value v) w' => Ext w w' ∧ g v w' ∧ (o.dst = none → v = undef)
  | .ok .skip w' => Ext w w' ∧ g undef w'
  | .ok (.enter f args) w' => w' = w ∧ Calls P f args w (fun e w'' => ∃ v, e = .returned v ∧ Ext w w'' ∧ g v w'' ∧ (o.dst = none → v = undef))
  | _ => False
/-- The same behind stores: a value, and no word of memory. -/
def Late (P : Program) (o : Oper) (a : Act) (w1 w : World) (g : GP) : Prop :=
  ∃ v, (execOp a.eval o).run P w = .ok (.value v) w ∧ g v w1 ∧ (o.dst = none → v = undef)

def waits (ops : Array Oper) (j i : Nat) : Bool :=
  match ops[j]? with
  | some o => o.after.any fun e => Region.binds .any e && e.on == i
  | none => false
theorem waits_spec {ops : Array Oper} {j i : Nat} (h : waits ops j i = true) : ∃ oj, ops[j]? = some oj ∧ ∃ e ∈ oj.after, Region.binds .any e = true ∧ e.on = i := by
  unfold waits at h
  split at h
  · rename_i oj hj
    obtain ⟨e, he, hb⟩ := Array.any_eq_true'.1 h
    simp only [Bool.and_eq_true, beq_iff_eq] at hb
    exact ⟨oj, hj, e, he, hb.1, hb.2⟩
  · cases h

/-- The stores t1, t2, .. carried out, one behind the other. -/
def StoresRun (P : Program) (ops : Array Oper) (a : Act) : List Nat → World → World → Prop
  | [], w, w' => w' = w
  | t :: T, w, w' => ∃ o w1, ops[t]? = some o ∧ (execOp a.eval o).run P w = .ok .skip w1 ∧ StoresRun P ops a T w1 w'

theorem getD_replicate_false (m j : Nat) : (Array.replicate m false).getD j false = false := by
  rcases Nat.lt_or_ge j m with h | h
  · simp [h]
  · simp [h]

/-- What must be so of the region's text. T: the stores that end it; L: what may come up behind them; n: the frame's size. -/
def chk (ops : Array Oper) (T L : List Nat) (n : Nat) : Bool :=
  (List.range ops.size).all (fun i => match ops[i]? with
    | some o =>
      (match o.dst with | some t => decide (t < n) | none => true) &&
      (o.after.all fun e => !Region.binds .any e || decide (e.on < i)) &&
      (List.range i).all (fun j => match ops[j]? with | some p => (match o.dst with | some t => p.dst != some t | none => true) | none => true) &&
      (T.contains i || L.contains i || (match T with | [] => true | t :: _ => waits ops t i)) &&
      (!T.contains i || (o.dst == none && o.guard == none)) &&
      (!L.contains i || T.all fun t => waits ops t i || (match ops[t]?, o.dst with | some p, some d => !(p.looksAt ops).contains d | _, _ => true)) &&
      (match o.op with | .select .. => false | _ => true)
    | none => false) &&
  (List.range (T.length - 1)).all (fun k => waits ops (T.getD (k + 1) 0) (T.getD k 0)) && decide T.Nodup && T.all (fun t => decide (t < ops.size)) && L.all (fun i => !T.contains i)

section
variable {P : Program} {ops : Array Oper} {Q : Exit → Act → World → Prop} {a0 : Act} {w0 : World} {X T L : List Nat} {G : List GP} {n : Nat}

/-- Slots that the region does not write hold what they held. -/
def FrameOk (ops : Array Oper) (a0 a : Act) : Prop :=
  a.defers = a0.defers ∧ a.tmps.size = a0.tmps.size ∧ ∀ t, (∀ (i : Nat) (o : Oper), ops[i]? = some o → o.dst ≠ some t) → a.tmps[t]? = a0.tmps[t]?

/-- .. and so do, as long as operation i has not come up, the slots of those that wait for it. -/
def FrameAt (ops : Array Oper) (a0 : Act) (i : Nat) (a : Act) : Prop :=
  FrameOk ops a0 a ∧ ∀ (j : Nat) (o : Oper) (t : Tmp), ops[j]? = some o → waits ops j i = true → o.dst = some t → a.tmps[t]? = a0.tmps[t]?

/-- What is known of the operations that i waits for. -/
def Deps (ops : Array Oper) (T : List Nat) (G : List GP) (i : Nat) (a : Act) (w : World) : Prop :=
  ∀ o, ops[i]? = some o → ∀ e ∈ o.after, Region.binds .any e = true → T.contains e.on = false → ∀ p, ops[e.on]? = some p → (G.getD e.on anyG) (valAt a p.dst) w

structure RInv (P : Program) (ops : Array Oper) (a0 : Act) (w0 : World) (X T : List Nat) (G : List GP) (listed : Array Bool) (a : Act) (w : World) : Prop where
  size : listed.size = ops.size
  closed : ∀ j oj, ops[j]? = some oj → listed.getD j false = true → ∀ e ∈ oj.after, Region.binds .any e = true → listed.getD e.on false = true
  frame : FrameOk ops a0 a
  unl : ∀ (j : Nat) (o : Oper) (t : Tmp), ops[j]? = some o → listed.getD j false = false → o.dst = some t → a.tmps[t]? = a0.tmps[t]?
  rest : ∃ w1 k, k ≤ T.length ∧ (∀ j, j < T.length → (listed.getD (T.getD j 0) false = true ↔ j < k)) ∧ Since X w0 w1 ∧ Since X w0 w ∧ StoresRun P ops a (T.take k) w1 w ∧
    (∀ i o, ops[i]? = some o → T.contains i = false → listed.getD i false = true → (G.getD i anyG) (valAt a o.dst) w1)

theorem chk_at (h : chk ops T L n = true) {i : Nat} {o : Oper} (ho : ops[i]? = some o) :
    (∀ t, o.dst = some t → t < n) ∧ (∀ e ∈ o.after, Region.binds .any e = true → e.on < i) ∧
    (∀ j p t, j < i → ops[j]? = some p → o.dst = some t → p.dst ≠ some t) ∧
    (T.contains i = true ∨ L.contains i = true ∨ (∀ t r, T = t :: r → waits ops t i = true)) ∧
    (T.contains i = true → o.dst = none ∧ o.guard = none) ∧
    (L.contains i = true → ∀ t ∈ T, waits ops t i = true ∨ ∀ p d, ops[t]? = some p → o.dst = some d → d ∉ p.looksAt ops) ∧
    (∀ cs b, o.op ≠ .select cs b) := by
  simp only [chk, Bool.and_eq_true] at h
  have h1 := List.all_eq_true.1 h.1.1.1.1 i (List.mem_range.2 (Array.getElem?_eq_some_iff.1 ho).1)
  simp only [ho, Bool.and_eq_true] at h1
  obtain ⟨⟨⟨⟨⟨⟨h2, h3⟩, h4⟩, h5⟩, h6⟩, h7⟩, h8⟩ := h1
  refine ⟨fun t ht => ?_, fun e he hb => ?_, fun j p t hj hp ht => ?_, ?_, fun hT => ?_, fun hL t ht => ?_, fun cs b hs => ?_⟩
  · rw [ht] at h2; simpa using h2
  · have := Array.all_eq_true_iff_forall_mem.1 h3 e he; simpa [hb] using this
  · have := List.all_eq_true.1 h4 j (List.mem_range.2 hj)
    rw [hp, ht] at this
    simpa using this
  · simp only [Bool.or_eq_true] at h5
    rcases h5 with (h5 | h5) | h5
    · exact .inl h5
    · exact .inr (.inl h5)
    · exact .inr (.inr fun t r e => by rw [e] at h5; exact h5)
  · rw [hT] at h6; simpa using h6
  · rw [hL] at h7
    simp only [Bool.not_true, Bool.false_or] at h7
    have := List.all_eq_true.1 h7 t ht
    simp only [Bool.or_eq_true] at this
    rcases this with h9 | h9
    · exact .inl h9
    · refine .inr fun p d hp hd => ?_
      rw [hp, hd] at h9
      simpa using h9
  · rw [hs] at h8; cases h8

theorem chk_chain (h : chk ops T L n = true) {k : Nat} (hk : k + 1 < T.length) : waits ops (T.getD (k + 1) 0) (T.getD k 0) = true := by
  simp only [chk, Bool.and_eq_true] at h
  exact List.all_eq_true.1 h.1.1.1.2 k (List.mem_range.2 (by omega))
theorem chk_lt (h : chk ops T L n = true) {t : Nat} (ht : t ∈ T) : t < ops.size := by
  simp only [chk, Bool.and_eq_true] at h
  simpa using List.all_eq_true.1 h.1.2 t ht
theorem chk_nodup (h : chk ops T L n = true) : T.Nodup := by
  simp only [chk, Bool.and_eq_true] at h
  simpa using h.1.1.2

theorem getD_ft {listed : Array Bool} {i : Nat} (h : listed.getD i true = false) : listed.getD i false = false := by
  rcases Nat.lt_or_ge i listed.size with h' | h'
  · simp [h'] at h ⊢; exact h
  · simp [Array.getElem?_eq_none h'] at h

/-- Two operations' destinations differ. -/
theorem chk_dst (h : chk ops T L n = true) {i j : Nat} {o p : Oper} (ho : ops[i]? = some o) (hp : ops[j]? = some p) (hne : i ≠ j) {t : Tmp} (ht : o.dst = some t) : p.dst ≠ some t := by
  rcases Nat.lt_or_ge j i with hlt | hge
  · exact (chk_at h ho).2.2.1 j p t hlt hp ht
  · intro hpt
    exact (chk_at h hp).2.2.1 i o t (by omega) ho hpt ht

theorem StoresRun.put {a : Act} {d : Option Tmp} {v : Value} : ∀ {T : List Nat} {w w' : World}, (∀ t ∈ T, ∀ p, ops[t]? = some p → (∀ cs b, p.op ≠ .select cs b) ∧ ∀ s, d = some s → s ∉ p.looksAt ops) →
    StoresRun P ops a T w w' → StoresRun P ops (a.put d v) T w w'
  | [], _, _, _, h => h
  | t :: T, w, w', hn, h => by
    obtain ⟨o, w1, ho, hr, h2⟩ := h
    obtain ⟨hs, hl⟩ := hn t (by simp) o ho
    exact ⟨o, w1, ho, by rw [execOp_put (ops := ops) o hs a d v hl]; exact hr, StoresRun.put (fun t ht => hn t (by simp [ht])) h2⟩

theorem StoresRun.snoc {a : Act} {t : Nat} {o : Oper} {w2 w3 : World} (ho : ops[t]? = some o) (hr : (execOp a.eval o).run P w2 = .ok .skip w3) : ∀ {T : List Nat} {w : World}, StoresRun P ops a T w w2 → StoresRun P ops a (T ++ [t]) w w3
  | [], w, h => by
    have h' : w2 = w := h
    subst h'
    exact ⟨o, w3, ho, hr, rfl⟩
  | s :: T, w, h => by
    obtain ⟨p, w1, hp, hr1, h2⟩ := h
    exact ⟨p, w1, hp, hr1, StoresRun.snoc ho hr h2⟩

theorem FrameOk.put {a : Act} (h : FrameOk ops a0 a) {i : Nat} {o : Oper} (ho : ops[i]? = some o) (v : Value) : FrameOk ops a0 (a.put o.dst v) := by
  obtain ⟨h1, h2, h3⟩ := h
  cases hd : o.dst with
  | none => exact ⟨h1, h2, h3⟩
  | some t =>
    refine ⟨h1, by simpa [Act.put] using h2, fun s hs => ?_⟩
    have hne : t ≠ s := fun e => hs i o ho (by rw [hd, e])
    rw [← h3 s hs]
    simp [Act.put, Array.getElem?_setIfInBounds_ne hne]

/-- Operation i, carried out: the relation with i listed. -/
theorem RInv.step (hc : chk ops T L n = true) (hn : a0.tmps.size = n) (hG : ∀ g ∈ G, Stable g)
    (hop : ∀ i o, ops[i]? = some o → T.contains i = false → L.contains i = false → ∀ a w, Since X w0 w → FrameAt ops a0 i a → Deps ops T G i a w → if Region.wanted o (yielded ops a.tmps) = true then Yes P o a w (G.getD i anyG) else (G.getD i anyG) undef w)
    (hlate : ∀ i o, ops[i]? = some o → L.contains i = true → ∀ a w1 w, Since X w0 w1 → Since X w0 w → FrameAt ops a0 i a → Deps ops T G i a w1 → if Region.wanted o (yielded ops a.tmps) = true then Late P o a w1 w (G.getD i anyG) else (G.getD i anyG) undef w1)
    (hstore : ∀ k o, k < T.length → ops[T.getD k 0]? = some o → ∀ a w1 w, Since X w0 w1 → Since X w0 w → FrameAt ops a0 (T.getD k 0) a → Deps ops T G (T.getD k 0) a w1 → StoresRun P ops a (T.take k) w1 w → ∃ w', (execOp a.eval o).run P w = .ok .skip w' ∧ Since X w0 w')
    {listed : Array Bool} {a : Act} {w : World} (h : RInv P ops a0 w0 X T G listed a w) {i : Nat} (hi : i ∈ Region.ready .any ops listed) :
    wpOp P ops Q i (RInv P ops a0 w0 X T G (listed.setIfInBounds i true)) a w := by
  obtain ⟨hun, o, ho, hall⟩ := mem_ready.1 hi
  have hilt : i < ops.size := (Array.getElem?_eq_some_iff.1 ho).1
  obtain ⟨hsz, hcl, hfr, hunl, w1, k, hk, hkT, hs1, hs2, hrun, hΓ⟩ := h
  obtain ⟨hdn, hback, hdist, hkind, hTd, hLd, hsel⟩ := chk_at hc ho
  have hiun : listed.getD i false = false := getD_ft hun
  have hfa : FrameAt ops a0 i a := by
    refine ⟨hfr, fun j p t hp hw ht => hunl j p t hp ?_ ht⟩
    cases hl : listed.getD j false with
    | false => rfl
    | true =>
      obtain ⟨oj, hoj, e, he, hb, hon⟩ := waits_spec hw
      have h3 := hcl j oj hoj hl e he hb
      rw [hon, hiun] at h3; cases h3
  have hcl' : ∀ j oj, ops[j]? = some oj → (listed.setIfInBounds i true).getD j false = true → ∀ e ∈ oj.after, Region.binds .any e = true → (listed.setIfInBounds i true).getD e.on false = true := by
    intro j oj hj hl e he hb
    by_cases hij : i = j
    · subst hij
      have : oj = o := Option.some.inj (hj.symm.trans ho)
      subst this
      exact getD_set_true (hall e he hb)
    · rw [getD_set_ne false hij] at hl
      exact getD_set_true (hcl j oj hj hl e he hb)
  have hdeps : Deps ops T G i a w1 := by
    intro o' ho' e he hb hT p hp
    have : o' = o := Option.some.inj (ho'.symm.trans ho)
    subst this
    exact hΓ e.on p hp hT (hall e he hb)
  -- who is listed behind it
  have hlisted : ∀ j, (listed.setIfInBounds i true).getD j false = true ↔ j = i ∨ listed.getD j false = true := by
    intro j
    by_cases hij : i = j
    · subst hij; simp [hsz, hilt]
    · rw [getD_set_ne false hij]
      constructor
      · exact .inr
      · rintro (e | e)
        · exact absurd e.symm hij
        · exact e
  have hsame : ∀ {v : Value} {j : Nat} {p : Oper}, ops[j]? = some p → j ≠ i → valAt (a.put o.dst v) p.dst = valAt a p.dst := by
    intro v j p hp hne
    exact valAt_put_ne fun t ht => chk_dst hc ho hp (Ne.symm hne) ht
  have hself : ∀ {v : Value}, (o.dst = none → v = undef) → valAt (a.put o.dst v) o.dst = v := by
    intro v hv
    exact valAt_put_self (fun t ht => by rw [hfr.2.1, hn]; exact hdn t ht) hv
  have hunl' : ∀ (v : Value) (j : Nat) (p : Oper) (t : Tmp), ops[j]? = some p → (listed.setIfInBounds i true).getD j false = false → p.dst = some t → (a.put o.dst v).tmps[t]? = a0.tmps[t]? := by
    intro v j p t hp hl ht
    have hji : i ≠ j := fun e => by
      subst e
      have := (hlisted i).2 (.inl rfl)
      rw [this] at hl; cases hl
    rw [getD_set_ne false hji] at hl
    rw [← hunl j p t hp hl ht]
    cases hd : o.dst with
    | none => rfl
    | some s =>
      have hne : s ≠ t := fun e => chk_dst hc ho hp hji hd (by rw [ht, e])
      simp [Act.put, Array.getElem?_setIfInBounds_ne hne]
  have hnotT : T.contains i = false → ∀ j, j < T.length → ((listed.setIfInBounds i true).getD (T.getD j 0) false = true ↔ j < k) := by
    intro hiT j hj
    have hne : i ≠ T.getD j 0 := by
      intro e
      have : T.contains i = true := by
        rw [e, List.getD_eq_getElem?_getD, List.getElem?_eq_getElem hj]
        simp
      rw [hiT] at this; cases this
    rw [getD_set_ne false hne]
    exact hkT j hj
  unfold wpOp
  simp only [ho]
  cases hiT : T.contains i with
  | true =>
    -- a store: it is the next of T
    obtain ⟨hd, hg⟩ := hTd hiT
    have himem : i ∈ T := by simpa using hiT
    obtain ⟨j, hj, hji⟩ := List.getElem_of_mem himem
    have hjD : T.getD j 0 = i := by rw [List.getD_eq_getElem?_getD, List.getElem?_eq_getElem hj]; simpa using hji
    have hjk : ¬ j < k := fun hlt => by
      have := (hkT j hj).2 hlt
      rw [hjD, hiun] at this; cases this
    have hjk2 : j = k := by
      rcases Nat.lt_or_ge k j with hlt | hge
      · exfalso
        obtain ⟨m, rfl⟩ : ∃ m, j = m + 1 := ⟨j - 1, by omega⟩
        have hw := chk_chain hc (k := m) (by omega)
        rw [hjD] at hw
        obtain ⟨oj, hoj, e, he, hb, hon⟩ := waits_spec hw
        have : oj = o := Option.some.inj (hoj.symm.trans ho)
        subst this
        have h1 := hall e he hb
        rw [hon] at h1
        have := (hkT m (by omega)).1 h1
        omega
      · omega
    subst hjk2
    rw [if_pos (by simp [Region.wanted, hg])]
    refine .inl ?_
    rw [← hjD] at hdeps
    obtain ⟨w', hr, hs'⟩ := hstore j o hj (by rw [hjD]; exact ho) a w1 w hs1 hs2 (by rw [hjD]; exact hfa) hdeps hrun
    unfold Oper.wp
    rw [hr]
    simp only [Oper.upon, hd, Act.put]
    refine ⟨by simpa using hsz, hcl', hfr, fun j' p t hp hl ht => by have := hunl' undef j' p t hp hl ht; rw [hd] at this; exact this, w1, j + 1, by omega, fun m hm => ?_, hs1, hs', ?_, ?_⟩
    · rw [hlisted]
      constructor
      · rintro (e | e)
        · have hnd := chk_nodup hc
          have h1 : T[m]? = T[j]? := by
            rw [List.getElem?_eq_getElem hm, List.getElem?_eq_getElem hj, hji]
            rw [List.getD_eq_getElem?_getD, List.getElem?_eq_getElem hm] at e
            simpa using e
          have := (List.getElem?_inj hm hnd).1 h1
          omega
        · have := (hkT m hm).1 e
          omega
      · intro hlt
        by_cases hmj : m = j
        · subst hmj; exact .inl hjD
        · exact .inr ((hkT m hm).2 (by omega))
    · rw [List.take_succ_eq_append_getElem hj, hji]
      exact StoresRun.snoc ho hr hrun
    · intro j' o' ho' hT' hl
      rw [hlisted] at hl
      rcases hl with rfl | hl
      · rw [hiT] at hT'; cases hT'
      · exact hΓ j' o' ho' hT' hl
  | false =>
    cases hiL : L.contains i with
    | true =>
      -- a late one
      have hst : ∀ v, StoresRun P ops (a.put o.dst v) (T.take k) w1 w := fun v => by
        refine hrun.put (fun t ht p hp => ⟨(chk_at hc hp).2.2.2.2.2.2, fun s hs => ?_⟩)
        have htT : t ∈ T := List.mem_of_mem_take ht
        rcases hLd hiL t htT with h1 | h1
        · exfalso
          obtain ⟨oj, hoj, e, he, hb, hon⟩ := waits_spec h1
          obtain ⟨j, hj, hjt⟩ := List.getElem_of_mem ht
          have hj' : j < k := by simp at hj; omega
          have hjT : j < T.length := by omega
          have hjt' : T.getD j 0 = t := by
            rw [List.getD_eq_getElem?_getD, List.getElem?_eq_getElem hjT]
            rw [List.getElem_take] at hjt
            simpa using hjt
          have h2 := (hkT j hjT).2 hj'
          rw [hjt'] at h2
          have h3 := hcl t oj hoj h2 e he hb
          rw [hon, hiun] at h3; cases h3
        · exact h1 p s hp hs
      have fin : ∀ v, (o.dst = none → v = undef) → (G.getD i anyG) v w1 → RInv P ops a0 w0 X T G (listed.setIfInBounds i true) (a.put o.dst v) w := fun v hv hg => by
        refine ⟨by simpa using hsz, hcl', hfr.put ho v, hunl' v, w1, k, hk, hnotT hiT, hs1, hs2, hst v, fun j p hp hT hl => ?_⟩
        rw [hlisted] at hl
        by_cases hji : j = i
        · subst hji
          have : p = o := Option.some.inj (hp.symm.trans ho)
          subst this
          rw [hself hv]; exact hg
        · rw [hsame hp hji]
          exact hΓ j p hp hT (hl.resolve_left hji)
      have hl := hlate i o ho hiL a w1 w hs1 hs2 hfa hdeps
      split
      · rename_i hw
        rw [if_pos hw] at hl
        obtain ⟨v, hr, hg, hv⟩ := hl
        refine .inl ?_
        unfold Oper.wp
        rw [hr]
        exact fin v hv hg
      · rename_i hw
        rw [if_neg hw] at hl
        exact fin undef (fun _ => rfl) hl
    | false =>
      -- an early one: no store has come up
      have hk0 : k = 0 := by
        rcases Nat.eq_zero_or_pos k with h0 | hpos
        · exact h0
        · exfalso
          cases hTT : T with
          | nil => rw [hTT] at hk; simp at hk; omega
          | cons t r =>
            rcases hkind with h1 | h1 | h1
            · rw [hiT] at h1; cases h1
            · rw [hiL] at h1; cases h1
            · obtain ⟨oj, hoj, e, he, hb, hon⟩ := waits_spec (h1 t r hTT)
              have h2 := (hkT 0 (by rw [hTT]; simp)).2 hpos
              rw [hTT] at h2
              have h3 := hcl t oj hoj (by simpa using h2) e he hb
              rw [hon, hiun] at h3; cases h3
      subst hk0
      have hww : w = w1 := hrun
      subst hww
      have fin : ∀ v w', Ext w w' → (o.dst = none → v = undef) → (G.getD i anyG) v w' → RInv P ops a0 w0 X T G (listed.setIfInBounds i true) (a.put o.dst v) w' := fun v w' hx hv hg => by
        refine ⟨by simpa using hsz, hcl', hfr.put ho v, hunl' v, w', 0, hk, hnotT hiT, hs1.ext hx, hs1.ext hx, rfl, fun j p hp hT hl => ?_⟩
        rw [hlisted] at hl
        by_cases hji : j = i
        · subst hji
          have : p = o := Option.some.inj (hp.symm.trans ho)
          subst this
          rw [hself hv]; exact hg
        · rw [hsame hp hji]
          have h1 := hΓ j p hp hT (hl.resolve_left hji)
          by_cases hjG : j < G.length
          · have : G.getD j anyG ∈ G := by
              rw [List.getD_eq_getElem?_getD, List.getElem?_eq_getElem hjG]
              simp
            exact hG _ this _ _ _ h1 hx
          · rw [List.getD_eq_getElem?_getD, List.getElem?_eq_none (by omega)]
            exact trivial
      have hl := hop i o ho hiT hiL a w hs1 hfa hdeps
      split
      · rename_i hw
        rw [if_pos hw] at hl
        refine .inl ?_
        unfold Yes at hl
        unfold Oper.wp
        generalize (execOp a.eval o).run P w = r at *
        cases r with
        | ok nx w' =>
          cases nx <;> simp only at hl <;> simp only [Oper.upon]
          case value v => exact fin v w' hl.1 hl.2.2 hl.2.1
          case skip => exact fin undef w' hl.1 (fun _ => rfl) hl.2
          case enter f args =>
            obtain ⟨rfl, hcall⟩ := hl
            refine hcall.mono fun e w'' he => ?_
            obtain ⟨v, rfl, hx, hg, hv⟩ := he
            exact fin v w'' hx hv hg
        | halt x w' => simp only at hl
      · rename_i hw
        rw [if_neg hw] at hl
        exact fin undef w (Ext.refl _) (fun _ => rfl) hl

theorem ready_nil (hc : chk ops T L n = true) {listed : Array Bool} (hsz : listed.size = ops.size) (hr : Region.ready .any ops listed = []) : ∀ i, i < ops.size → listed.getD i false = true := by
  intro i
  induction i using Nat.strongRecOn with
  | _ i ih =>
    intro hi
    cases hl : listed.getD i false with
    | true => rfl
    | false =>
      exfalso
      have ho : ops[i]? = some ops[i] := Array.getElem?_eq_getElem hi
      have hmem : i ∈ Region.ready .any ops listed := by
        refine mem_ready.2 ⟨?_, ops[i], ho, fun e he hb => ?_⟩
        · have h2 : i < listed.size := by omega
          simp [h2] at hl ⊢
          exact hl
        · have h1 := (chk_at hc ho).2.1 e he hb
          exact ih e.on h1 (by omega)
      rw [hr] at hmem
      cases hmem

/-- how many are not listed yet -/
def open_ (listed : Array Bool) : Nat := (listed.toList.filter fun b => !b).length
theorem open_set {listed : Array Bool} {i : Nat} (hi : i < listed.size) (h : listed.getD i true = false) : open_ (listed.setIfInBounds i true) + 1 = open_ listed := by
  unfold open_
  rw [Array.toList_setIfInBounds]
  have hi' : i < listed.toList.length := by simpa using hi
  have h0 : listed.toList[i] = false := by simp [hi] at h; simpa using h
  have h1 : listed.toList = listed.toList.take i ++ false :: listed.toList.drop (i + 1) := by
    rw [← h0, List.getElem_cons_drop, List.take_append_drop]
  rw [List.set_eq_take_append_cons_drop, if_pos hi']
  conv => rhs; rw [h1]
  simp [List.filter_append]
  omega

theorem any_of_inv (I : Array Bool → Act → World → Prop) (hsz : ∀ listed a w, I listed a w → listed.size = ops.size) (hacyc : ∀ listed a w, I listed a w → Region.ready .any ops listed = [] → ∀ i, i < ops.size → listed.getD i false = true)
    (hprog : ∀ listed a w, I listed a w → open_ listed = 0 → Region.ready .any ops listed = [])
    (hstep : ∀ listed a w i, I listed a w → i ∈ Region.ready .any ops listed → wpOp P ops Q i (I (listed.setIfInBounds i true)) a w)
    (hend : ∀ listed a w, I listed a w → Region.ready .any ops listed = [] → Q .normal a w) :
    ∀ (m : Nat) (listed : Array Bool) (a : Act) (w : World), open_ listed = m → I listed a w → wpAny P .any ops Q m listed a w
  | 0, listed, a, w, hm, h => ⟨hprog _ _ _ h hm, hend _ _ _ h (hprog _ _ _ h hm)⟩
  | m + 1, listed, a, w, hm, h => ⟨fun hr => hend _ _ _ h hr, fun i hi => by
      have h1 := hstep _ _ _ i h hi
      obtain ⟨hun, o, ho, _⟩ := mem_ready.1 hi
      have hi2 : i < listed.size := by rw [hsz _ _ _ h]; exact (Array.getElem?_eq_some_iff.1 ho).1
      exact wpOp_mono (fun a' w' h' => any_of_inv I hsz hacyc hprog hstep hend m _ a' w' (by have := open_set hi2 hun; omega) h') h1⟩

theorem all_of_open {listed : Array Bool} (h : open_ listed = 0) (i : Nat) (hi : i < listed.size) : listed.getD i true = true := by
  unfold open_ at h
  have h1 := List.eq_nil_of_length_eq_zero h
  have h2 := List.filter_eq_nil_iff.1 h1 listed[i] (by simp)
  simp [hi]
  simpa using h2

/-- What the region leaves: each slot that it writes holds a value of which its fact is known. -/
def FinAll (T : List Nat) (K : Act → Prop) (w : World) : List Oper → List GP → Nat → Act → Prop
  | [], _, _, a => K a
  | o :: l, G, i, a => match T.contains i with
    | true => FinAll T K w l G.tail (i + 1) a
    | false => ∀ v, (G.headD anyG) v w → FinAll T K w l G.tail (i + 1) (a.put o.dst v)

theorem put_keeps {a : Act} {d : Option Tmp} {v : Value} : ((a.put d v).defers = a.defers) ∧ (a.put d v).tmps.size = a.tmps.size := by cases d <;> simp [Act.put]

theorem fin_all {K : Act → Prop} {w : World} (a : Act) : ∀ (l : List Oper) (G : List GP) (i : Nat) (b : Act),
    (∀ (j : Nat) (o : Oper), l[j]? = some o → T.contains (i + j) = false → (G.getD j anyG) (valAt a o.dst) w) →
    (∀ (j : Nat) (o : Oper), l[j]? = some o → T.contains (i + j) = true → o.dst = none) →
    a.defers = b.defers → a.tmps.size = b.tmps.size →
    (∀ t, (∀ (j : Nat) (o : Oper), l[j]? = some o → o.dst ≠ some t) → a.tmps[t]? = b.tmps[t]?) → FinAll T K w l G i b → K a
  | [], G, i, b, _, _, hd, hs, hf, h => by
    have e : a = b := by
      obtain ⟨at_, ad⟩ := a
      obtain ⟨bt, bd⟩ := b
      simp only at hd hs hf
      subst hd
      congr 1
      exact Array.ext_getElem? fun t => hf t (by simp)
    rw [e]; exact h
  | o :: l, G, i, b, hg, hT, hd, hs, hf, h => by
    unfold FinAll at h
    have step : ∀ (c : Act), c = b.put o.dst (valAt a o.dst) → FinAll T K w l G.tail (i + 1) c → K a := by
      intro c hc h
      subst hc
      refine fin_all a l G.tail (i + 1) _ (fun j p hp hTj => ?_) (fun j p hp hTj => hT (j + 1) p (by simpa using hp) (by rw [show i + (j + 1) = i + 1 + j by omega]; exact hTj)) ?_ ?_ ?_ h
      · have := hg (j + 1) p (by simpa using hp) (by rw [show i + (j + 1) = i + 1 + j by omega]; exact hTj)
        cases G <;> simpa using this
      · rw [put_keeps.1]; exact hd
      · rw [put_keeps.2]; exact hs
      · intro t ht
        by_cases hot : o.dst = some t
        · rw [hot]
          simp only [valAt, Act.put]
          rcases Nat.lt_or_ge t a.tmps.size with hlt | hge
          · rw [Array.getElem?_setIfInBounds_self_of_lt (by omega)]
            simp [hlt]
          · rw [Array.getElem?_eq_none hge, Array.getElem?_eq_none (by simp; omega)]
        · rw [hf t (fun j p hp => by
            cases j with
            | zero => simp at hp; subst hp; exact hot
            | succ j => exact ht j p (by simpa using hp))]
          cases hod : o.dst with
          | none => rfl
          | some s =>
            have hne : s ≠ t := fun e => hot (by rw [hod, e])
            simp [Act.put, Array.getElem?_setIfInBounds_ne hne]
    cases hTi : T.contains i with
    | true =>
      rw [hTi] at h
      refine step b ?_ h
      rw [hT 0 o rfl hTi]
      rfl
    | false =>
      rw [hTi] at h
      have hg0 := hg 0 o rfl hTi
      refine step _ rfl (h _ ?_)
      cases G <;> simpa using hg0

/-- **A REGION THAT DRAWS ITS ORDER**: each operation shown once. -/
theorem region_mono {id : Nat} (T L : List Nat) (X : List Nat) (G : List GP) (hm : P.follows .mixedOrders = true) (hc : chk ops T L a0.tmps.size = true) (hG : ∀ g ∈ G, Stable g)
    (hop : ∀ i o, ops[i]? = some o → T.contains i = false → L.contains i = false → ∀ a w, Since X w0 w → FrameAt ops a0 i a → Deps ops T G i a w → if Region.wanted o (yielded ops a.tmps) = true then Yes P o a w (G.getD i anyG) else (G.getD i anyG) undef w)
    (hlate : ∀ i o, ops[i]? = some o → L.contains i = true → ∀ a w1 w, Since X w0 w1 → Since X w0 w → FrameAt ops a0 i a → Deps ops T G i a w1 → if Region.wanted o (yielded ops a.tmps) = true then Late P o a w1 w (G.getD i anyG) else (G.getD i anyG) undef w1)
    (hstore : ∀ k o, k < T.length → ops[T.getD k 0]? = some o → ∀ a w1 w, Since X w0 w1 → Since X w0 w → FrameAt ops a0 (T.getD k 0) a → Deps ops T G (T.getD k 0) a w1 → StoresRun P ops a (T.take k) w1 w → ∃ w', (execOp a.eval o).run P w = .ok .skip w' ∧ Since X w0 w')
    (hfin : ∀ w, Since X w0 w → FinAll T (fun a => ∀ w', StoresRun P ops a T w w' → Q .normal a w') w ops.toList G 0 a0) : (Code.region id ops true).wp P Q a0 w0 := by
  refine wp_region_any hm ?_
  have hopen : open_ (Array.replicate ops.size false) = ops.size := by
    unfold open_
    simp
  refine any_of_inv (RInv P ops a0 w0 X T G) (fun _ _ _ h => h.size) (fun _ _ _ h hr => ready_nil hc h.size hr) (fun listed a w h h0 => ?_)
    (fun listed a w i h hi => h.step hc rfl hG hop hlate hstore hi) (fun listed a w h hr => ?_) ops.size _ _ _ hopen ?_
  · refine List.eq_nil_iff_forall_not_mem.2 (fun i hi => ?_)
    obtain ⟨hun, o, ho, _⟩ := mem_ready.1 hi
    have := all_of_open h0 i (by rw [h.size]; exact (Array.getElem?_eq_some_iff.1 ho).1)
    rw [hun] at this; cases this
  · have hall := ready_nil hc h.size hr
    obtain ⟨w1, k, hk, hkT, hs1, hs2, hrun, hΓ⟩ := h.rest
    have hkl : k = T.length := by
      rcases Nat.lt_or_ge k T.length with hlt | hge
      · exfalso
        have hm : T.getD k 0 ∈ T := by
          rw [List.getD_eq_getElem?_getD, List.getElem?_eq_getElem hlt]
          simp
        have := (hkT k hlt).1 (hall _ (chk_lt hc hm))
        omega
      · omega
    subst hkl
    rw [List.take_length] at hrun
    refine fin_all (T := T) (K := fun a => ∀ w', StoresRun P ops a T w1 w' → Q .normal a w') (w := w1) a ops.toList G 0 a0 (fun j o ho hT => ?_) (fun j o ho hT => ?_) h.frame.1 h.frame.2.1 (fun t ht => h.frame.2.2 t (fun i o ho => ht i o (by simpa using ho))) (hfin w1 hs1) w hrun
    · have ho' : ops[j]? = some o := by simpa using ho
      exact hΓ j o ho' (by simpa using hT) (hall j (Array.getElem?_eq_some_iff.1 ho').1)
    · have ho' : ops[j]? = some o := by simpa using ho
      exact ((chk_at hc ho').2.2.2.2.1 (by simpa using hT)).1
  · refine RInv.mk (by simp) (fun j oj hj hl => by rw [getD_replicate_false] at hl; exact absurd hl (by simp)) ⟨rfl, rfl, fun _ _ => rfl⟩ (fun _ _ _ _ _ _ => rfl) ⟨w0.drew, 0, Nat.zero_le _, fun j hj => ?_, Since.of_ext (Ext.drew w0), Since.of_ext (Ext.drew w0), rfl, fun i o ho hT hl => ?_⟩
    · rw [getD_replicate_false]; simp
    · rw [getD_replicate_false] at hl; exact absurd hl (by simp)

end
end Go.Proofs.Ytcfbdfgondmkoaa
/- The interface of the region's theorem: the obligations one by one. -/
namespace Go.Proofs.Ytcfbdfgondmkoaa
open Go Go.RowKit

section
variable {P : Program} {ops : Array Oper} {Q : Exit → Act → World → Prop} {a0 : Act} {w0 : World} {X T L : List Nat} {G : List GP}

def EObl (P : Program) (ops : Array Oper) (a0 : Act) (w0 : World) (X T : List Nat) (G : List GP) (i : Nat) (o : Oper) (g : GP) : Prop :=
  ∀ a w, Since X w0 w → FrameAt ops a0 i a → Deps ops T G i a w → if Region.wanted o (yielded ops a.tmps) = true then Yes P o a w g else g undef w
def LObl (P : Program) (ops : Array Oper) (a0 : Act) (w0 : World) (X T : List Nat) (G : List GP) (i : Nat) (o : Oper) (g : GP) : Prop :=
  ∀ a w1 w, Since X w0 w1 → Since X w0 w → FrameAt ops a0 i a → Deps ops T G i a w1 → if Region.wanted o (yielded ops a.tmps) = true then Late P o a w1 w g else g undef w1
def SObl (P : Program) (ops : Array Oper) (a0 : Act) (w0 : World) (X T : List Nat) (G : List GP) (k i : Nat) (o : Oper) : Prop :=
  ∀ a w1 w, Since X w0 w1 → Since X w0 w → FrameAt ops a0 i a → Deps ops T G i a w1 → StoresRun P ops a (T.take k) w1 w → ∃ w', (execOp a.eval o).run P w = .ok .skip w' ∧ Since X w0 w'

/-- The obligations, in the text's order; l, G: what is left of the region and of the facts. -/
def Obls (P : Program) (ops : Array Oper) (a0 : Act) (w0 : World) (X T L : List Nat) (G0 : List GP) : Nat → List Oper → List GP → Prop
  | _, [], _ => True
  | i, o :: l, G => (match T.contains i, L.contains i with
      | true, _ => SObl P ops a0 w0 X T G0 (T.idxOf i) i o
      | false, true => LObl P ops a0 w0 X T G0 i o (G.headD anyG)
      | false, false => EObl P ops a0 w0 X T G0 i o (G.headD anyG)) ∧ Obls P ops a0 w0 X T L G0 (i + 1) l G.tail

def AllStable : List GP → Prop
  | [] => True
  | g :: l => Stable g ∧ AllStable l
theorem AllStable.mem : ∀ {G : List GP}, AllStable G → ∀ g ∈ G, Stable g
  | _ :: _, h, g, hg => by
    rcases List.mem_cons.1 hg with rfl | hg
    · exact h.1
    · exact AllStable.mem h.2 g hg

theorem Obls.at (l : List Oper) : ∀ (G' : List GP) (i j : Nat) (o : Oper), Obls P ops a0 w0 X T L G i l G' → l[j]? = some o →
    (T.contains (i + j) = true → SObl P ops a0 w0 X T G (T.idxOf (i + j)) (i + j) o) ∧
    (T.contains (i + j) = false → L.contains (i + j) = true → LObl P ops a0 w0 X T G (i + j) o (G'.getD j anyG)) ∧
    (T.contains (i + j) = false → L.contains (i + j) = false → EObl P ops a0 w0 X T G (i + j) o (G'.getD j anyG)) := by
  induction l with
  | nil => intro G' i j o _ ho; simp at ho
  | cons o1 l ih =>
    intro G' i j o h ho
    unfold Obls at h
    obtain ⟨h1, h2⟩ := h
    cases j with
    | zero =>
      simp at ho; subst ho
      simp only [Nat.add_zero]
      have hG : G'.headD anyG = G'.getD 0 anyG := by cases G' <;> rfl
      rw [hG] at h1
      refine ⟨fun hT => ?_, fun hT hL => ?_, fun hT hL => ?_⟩
      · rw [hT] at h1; exact h1
      · rw [hT, hL] at h1; exact h1
      · rw [hT, hL] at h1; exact h1
    | succ j =>
      have h3 := ih G'.tail (i + 1) j o h2 (by simpa using ho)
      have e1 : i + 1 + j = i + (j + 1) := by omega
      have e2 : G'.tail.getD j anyG = G'.getD (j + 1) anyG := by cases G' <;> simp
      rw [e1, e2] at h3
      exact h3

theorem region_lit {id : Nat} {l : List Oper} (T L X : List Nat) (G : List GP) (hm : P.follows .mixedOrders = true) (hc : chk l.toArray T L a0.tmps.size = true) (hG : AllStable G)
    (hop : Obls P l.toArray a0 w0 X T L G 0 l G)
    (hfin : ∀ w, Since X w0 w → FinAll T (fun a => ∀ w', StoresRun P l.toArray a T w w' → Q .normal a w') w l G 0 a0) : (Code.region id l.toArray true).wp P Q a0 w0 := by
  refine region_mono T L X G hm hc hG.mem (fun i o ho hT hL => ?_) (fun i o ho hL => ?_) (fun k o hk ho => ?_) (by simpa using hfin)
  · have := (Obls.at l G 0 i o hop (by simpa using ho)).2.2
    rw [Nat.zero_add] at this
    exact this hT hL
  · have h1 := (Obls.at l G 0 i o hop (by simpa using ho)).2.1
    rw [Nat.zero_add] at h1
    refine h1 ?_ hL
    simp only [chk, Bool.and_eq_true] at hc
    have := List.all_eq_true.1 hc.2 i (by simpa using hL)
    simpa using this
  · have h1 := (Obls.at l G 0 (T.getD k 0) o hop (by simpa using ho)).1
    rw [Nat.zero_add] at h1
    have hg : T.getD k 0 = T[k] := by rw [List.getD_eq_getElem?_getD, List.getElem?_eq_getElem hk]; rfl
    have h2 := h1 (by rw [hg]; simp)
    have hidx : T.idxOf (T.getD k 0) = k := by
      rw [hg]
      exact List.Nodup.idxOf_getElem (chk_nodup hc) k hk
    rw [hidx] at h2
    exact h2

/-! ### what an operation finds -/
/-- A list's n-th element (by structure: the unifier reckons it). -/
def nth {α : Type} : List α → Nat → Option α
  | [], _ => none
  | x :: _, 0 => some x
  | _ :: l, n + 1 => nth l n
theorem nth_eq {α : Type} : ∀ (l : List α) (n : Nat), nth l n = l[n]?
  | [], _ => by simp [nth]
  | x :: _, 0 => by simp [nth]
  | _ :: l, n + 1 => by simp [nth, nth_eq l n]
theorem nth_arr {α : Type} {cs : Array α} {n : Nat} {c : α} (h : nth cs.toList n = some c) : cs[n]? = some c := by rw [nth_eq] at h; simpa using h

def offB (ops : Array Oper) (i t : Nat) : Bool := (List.range ops.size).all fun j => match ops[j]? with | some o => o.dst != some t || waits ops j i | none => true
theorem FrameAt.off {a : Act} {i : Nat} (h : FrameAt ops a0 i a) (t : Nat) (ht : offB ops i t = true) {v : Value} (hv0 : nth a0.tmps.toList t = some v) : a.eval (.tmp t) = v := by
  have hv := nth_arr hv0
  have h1 : a.tmps[t]? = a0.tmps[t]? := by
    by_cases hw : ∃ (j : Nat) (o : Oper), ops[j]? = some o ∧ o.dst = some t
    · obtain ⟨j, o, ho, hd⟩ := hw
      have h2 := List.all_eq_true.1 ht j (List.mem_range.2 (Array.getElem?_eq_some_iff.1 ho).1)
      rw [ho] at h2
      simp only [hd, Bool.or_eq_true] at h2
      exact h.2 j o t ho (h2.resolve_left (by simp)) hd
    · exact h.1.2.2 t (fun j o ho hd => hw ⟨j, o, ho, hd⟩)
  show a.tmps.getD t undef = v
  rw [Array.getD_eq_getD_getElem?, h1, hv]; rfl

def depB (ops : Array Oper) (T : List Nat) (i j t : Nat) : Bool := waits ops i j && !T.contains j && (match ops[j]? with | some p => p.dst == some t | none => false)
theorem Deps.at {i : Nat} {a : Act} {w : World} (h : Deps ops T G i a w) (j t : Nat) (hb : depB ops T i j t = true) : (G.getD j anyG) (a.eval (.tmp t)) w := by
  simp only [depB, Bool.and_eq_true] at hb
  obtain ⟨oi, hoi, e, he, hbi, hon⟩ := waits_spec hb.1.1
  subst hon
  cases hp : ops[e.on]? with
  | none => rw [hp] at hb; cases hb.2
  | some p =>
    rw [hp] at hb
    have hd : p.dst = some t := by simpa using hb.2
    have := h oi hoi e he hbi (by simpa using hb.1.2) p hp
    rw [hd] at this
    exact this

section
variable {o : Oper} {a : Act} {w w1 : World} {g : GP} {c : Value}
theorem plain_ {A B : Prop} (hg : o.guard = none) (h : A) : if Region.wanted o (yielded ops a.tmps) = true then A else B := by
  rw [if_pos (by simp [Region.wanted, hg])]; exact h
theorem guard_on {A B : Prop} {j : Nat} {b : Bool} {t : Nat} (hg : o.guard = some (j, b)) (hj : (ops[j]?).bind (·.dst) = some t) (hv : a.eval (.tmp t) = .bool b) (h : A) : if Region.wanted o (yielded ops a.tmps) = true then A else B := by
  rw [if_pos]; exact h
  have hv' : a.tmps.getD t undef = .bool b := hv
  simp only [Region.wanted, hg, yielded, hj]
  rw [Array.getD_eq_getD_getElem?] at hv'
  cases hh : a.tmps[t]? with
  | none => rw [hh] at hv'; cases hv'
  | some x => rw [hh] at hv'; simp at hv'; subst hv'; simp [hh]
theorem guard_off {A B : Prop} {j : Nat} {b : Bool} {t : Nat} (hg : o.guard = some (j, b)) (hj : (ops[j]?).bind (·.dst) = some t) (hv : a.eval (.tmp t) = .bool !b) (h : B) : if Region.wanted o (yielded ops a.tmps) = true then A else B := by
  rw [if_neg]; exact h
  have hv' : a.tmps.getD t undef = .bool !b := hv
  simp only [Region.wanted, hg, yielded, hj]
  rw [Array.getD_eq_getD_getElem?] at hv'
  cases hh : a.tmps[t]? with
  | none => rw [hh] at hv'; cases hv'
  | some x => rw [hh] at hv'; simp at hv'; subst hv'; cases b <;> simp [hh]

theorem yes_eqv (h : (execOp a.eval o).run P w = .ok (.value c) w) (hd : o.dst.isSome = true) : Yes P o a w (eqv c) := by
  unfold Yes; rw [h]; exact ⟨Ext.refl _, rfl, fun h => by rw [h] at hd; cases hd⟩
theorem yes_val {v : Value} {w' : World} (h : (execOp a.eval o).run P w = .ok (.value v) w') (hx : Ext w w') (hg : g v w') (hd : o.dst.isSome = true) : Yes P o a w g := by
  unfold Yes; rw [h]; exact ⟨hx, hg, fun h => by rw [h] at hd; cases hd⟩
theorem yes_call {f : FuncId} {args : Array Value} (h : (execOp a.eval o).run P w = .ok (.enter f args) w) (hc : Calls P f args w fun e w'' => ∃ v, e = .returned v ∧ Ext w w'' ∧ g v w'') (hd : o.dst.isSome = true) : Yes P o a w g := by
  unfold Yes; rw [h]
  exact ⟨rfl, hc.mono fun e w'' ⟨v, h1, h2, h3⟩ => ⟨v, h1, h2, h3, fun h => by rw [h] at hd; cases hd⟩⟩
theorem late_eqv (h : (execOp a.eval o).run P w = .ok (.value c) w) (hd : o.dst.isSome = true) : Late P o a w1 w (eqv c) :=
  ⟨c, h, rfl, fun h => by rw [h] at hd; cases hd⟩
theorem late_val {v : Value} (h : (execOp a.eval o).run P w = .ok (.value v) w) (hg : g v w1) (hd : o.dst.isSome = true) : Late P o a w1 w g :=
  ⟨v, h, hg, fun h => by rw [h] at hd; cases hd⟩

/-- A call of a Go function with a body. -/
theorem run_call {c : Call} {f : FuncId} {fn : Func} (ho : o.op = .call c) (hc : c.callee = .value (.func f)) (hf : P.funcs[f]? = some fn) (hn : (fn.name == "runtime.NumGoroutine") = false) (hb : fn.body.isNone = false) {args : Array Value} (ha : c.args.map a.eval = args) :
    (execOp a.eval o).run P w = .ok (.enter f args) w := by
  obtain ⟨callee, cargs, ats⟩ := c
  simp only at hc ha
  subst hc ha
  have hn' : ¬ fn.name = "runtime.NumGoroutine" := by simpa using hn
  have hb' : ¬ fn.body = none := fun e => by rw [e] at hb; cases hb
  simp [execOp, ho, resolve, Act.eval, Deferred.ofValue, invoke, callFunc, hf, hn', hb']
end
end
end Go.Proofs.Ytcfbdfgondmkoaa
/- One operation, its operands known: what it yields. -/
namespace Go.Proofs.Ytcfbdfgondmkoaa
open Go Go.RowKit

abbrev Runs (P : Program) (o : Oper) (a : Act) (w : World) (c : Value) : Prop := (execOp a.eval o).run P w = .ok (.value c) w

section
variable {P : Program} {o : Oper} {a : Act} {w : World}

theorem o_move {x : Operand} {c : Value} (ho : o.op = .move x) (hx : a.eval x = c) : Runs P o a w c := by simp [Runs, execOp, ho, hx]
theorem o_assign {x : Operand} {c : Value} (ho : o.op = .assign x) (hx : a.eval x = c) : Runs P o a w c := by simp [Runs, execOp, ho, hx]
theorem o_pick_t {z x y : Operand} {c : Value} (ho : o.op = .pick z x y) (hz : a.eval z = .bool true) (hx : a.eval x = c) : Runs P o a w c := by simp [Runs, execOp, ho, hz, hx, asBool]
theorem o_pick_f {z x y : Operand} {c : Value} (ho : o.op = .pick z x y) (hz : a.eval z = .bool false) (hy : a.eval y = c) : Runs P o a w c := by simp [Runs, execOp, ho, hz, hy, asBool]
theorem o_not {t : TypeId} {x : Operand} {b : Bool} {r : Bool} (ho : o.op = .unOp .not t x) (hx : a.eval x = .bool b) (hr : (!b) = r) : Runs P o a w (.bool r) := by simp [Runs, execOp, ho, hx, Op.unary, hr]
theorem o_extract {x : Operand} {i : Nat} {vs : Array Value} {c : Value} (ho : o.op = .extract x i) (hx : a.eval x = .tuple vs) (hc : nth vs.toList i = some c) : Runs P o a w c := by simp [Runs, execOp, ho, hx, Instr.extract, nth_arr hc]
section ints
variable {t s : TypeId} {x y : Operand} {k : IntKind} {m n : Int}
theorem o_add {r : Int} (ho : o.op = .binOp .add t x y s) (hx : a.eval x = .int k m) (hy : a.eval y = .int k n) (hr : k.wrap (m + n) = r) : Runs P o a w (.int k r) := by (simp only [Runs, execOp, ho, hx, hy]; simp [go_sem, Op.intArith, hr])
theorem o_sub {r : Int} (ho : o.op = .binOp .sub t x y s) (hx : a.eval x = .int k m) (hy : a.eval y = .int k n) (hr : k.wrap (m - n) = r) : Runs P o a w (.int k r) := by (simp only [Runs, execOp, ho, hx, hy]; simp [go_sem, Op.intArith, hr])
theorem o_mul {r : Int} (ho : o.op = .binOp .mul t x y s) (hx : a.eval x = .int k m) (hy : a.eval y = .int k n) (hr : k.wrap (m * n) = r) : Runs P o a w (.int k r) := by (simp only [Runs, execOp, ho, hx, hy]; simp [go_sem, Op.intArith, hr])
theorem o_rem {r : Int} (ho : o.op = .binOp .rem t x y s) (hx : a.eval x = .int k m) (hy : a.eval y = .int k n) (hn : n ≠ 0) (hr : m.tmod n = r) : Runs P o a w (.int k r) := by (simp only [Runs, execOp, ho, hx, hy]; simp [go_sem, Op.intDiv, hn, hr])
theorem o_eql {r : Bool} (ho : o.op = .binOp .eql t x y s) (hx : a.eval x = .int k m) (hy : a.eval y = .int k n) (hr : (m == n) = r) : Runs P o a w (.bool r) := by (simp only [Runs, execOp, ho, hx, hy]; simp [go_sem, hr])
theorem o_neq {r : Bool} (ho : o.op = .binOp .neq t x y s) (hx : a.eval x = .int k m) (hy : a.eval y = .int k n) (hr : (m != n) = r) : Runs P o a w (.bool r) := by (simp only [Runs, execOp, ho, hx, hy]; simp [go_sem, hr])
theorem o_lss {r : Bool} (ho : o.op = .binOp .lss t x y s) (hx : a.eval x = .int k m) (hy : a.eval y = .int k n) (hr : decide (m < n) = r) : Runs P o a w (.bool r) := by (simp only [Runs, execOp, ho, hx, hy]; simp [go_sem, hr])
theorem o_leq {r : Bool} (ho : o.op = .binOp .leq t x y s) (hx : a.eval x = .int k m) (hy : a.eval y = .int k n) (hr : decide (m ≤ n) = r) : Runs P o a w (.bool r) := by (simp only [Runs, execOp, ho, hx, hy]; simp [go_sem, hr])
theorem o_gtr {r : Bool} (ho : o.op = .binOp .gtr t x y s) (hx : a.eval x = .int k m) (hy : a.eval y = .int k n) (hr : decide (m > n) = r) : Runs P o a w (.bool r) := by (simp only [Runs, execOp, ho, hx, hy]; simp [go_sem, ← hr])
theorem o_geq {r : Bool} (ho : o.op = .binOp .geq t x y s) (hx : a.eval x = .int k m) (hy : a.eval y = .int k n) (hr : decide (m ≥ n) = r) : Runs P o a w (.bool r) := by (simp only [Runs, execOp, ho, hx, hy]; simp [go_sem, ← hr])
theorem o_and {r : Int} (ho : o.op = .binOp .and t x y s) (hx : a.eval x = .int k m) (hy : a.eval y = .int k n) (hr : bits .and k m n = r) : Runs P o a w (.int k r) := by (simp only [Runs, execOp, ho, hx, hy]; simp [go_sem, hr])
theorem o_or {r : Int} (ho : o.op = .binOp .or t x y s) (hx : a.eval x = .int k m) (hy : a.eval y = .int k n) (hr : bits .or k m n = r) : Runs P o a w (.int k r) := by (simp only [Runs, execOp, ho, hx, hy]; simp [go_sem, hr])
theorem o_shl {r : Int} {k2 : IntKind} (ho : o.op = .binOp .shl t x y s) (hx : a.eval x = .int k m) (hy : a.eval y = .int k2 n) (h0 : 0 ≤ n) (h1 : n ≤ k.bits) (hr : k.wrap (m * 2 ^ n.toNat) = r) : Runs P o a w (.int k r) := by
  simp only [Runs, execOp, ho, hx, hy, binOp_shl, shift_shl k k2 m n h0 h1, ← hr]; simp [go_sem]
theorem o_shr {r : Int} {k2 : IntKind} (ho : o.op = .binOp .shr t x y s) (hx : a.eval x = .int k m) (hy : a.eval y = .int k2 n) (h0 : 0 ≤ n) (h1 : n ≤ k.bits) (hr : m / 2 ^ n.toNat = r) : Runs P o a w (.int k r) := by
  simp only [Runs, execOp, ho, hx, hy, binOp_shr, shift_shr k k2 m n h0 h1, ← hr]; simp [go_sem]
end ints
section bools
variable {t s : TypeId} {x y : Operand} {m n : Bool}
theorem o_eqlb {r : Bool} (ho : o.op = .binOp .eql t x y s) (ht : P.underlying t = some .bool) (hx : a.eval x = .bool m) (hy : a.eval y = .bool n) (hr : (m == n) = r) : Runs P o a w (.bool r) := by
  (simp only [Runs, execOp, ho, hx, hy]; simp [go_sem, binOp, Op.equal, Op.maxDepth, run_equalIn_bool' w _ t m n ht, hr])
theorem o_neqb {r : Bool} (ho : o.op = .binOp .neq t x y s) (ht : P.underlying t = some .bool) (hx : a.eval x = .bool m) (hy : a.eval y = .bool n) (hr : (m != n) = r) : Runs P o a w (.bool r) := by
  (simp only [Runs, execOp, ho, hx, hy]; simp [go_sem, binOp, Op.equal, Op.maxDepth, run_equalIn_bool' w _ t m n ht, ← hr, bne])
end bools
theorem o_conv {s d : TypeId} {x : Operand} {k k2 : IntKind} {n r : Int} (ho : o.op = .convert s d x) (hx : a.eval x = .int k n) (hs : (P.underlying s).isSome = true) (hd : P.underlying d = some (.int k2)) (hr : k2.wrap n = r) : Runs P o a w (.int k2 r) := by
  have hi : P.intKind d = k2 := by simp [Program.intKind, hd]
  have := run_convert_int (P := P) w s d k n hs (by rw [hi]; exact hd)
  rw [hi] at this
  simp [Runs, execOp, ho, hx, this, hr]
theorem o_len {t : TypeId} {x : Operand} {p : Option Addr} {n c : Nat} {e : TypeId} (ho : o.op = .call { callee := .builtin .len, args := #[x], argTypes := #[t] }) (ht : P.underlying t = some (.slice e)) (hx : a.eval x = .slice p n c) : Runs P o a w (.int .i64 n) := by
  have he : P.elem t = e := by simp [Program.elem, ht]
  have := run_len_slice (P := P) w t o.type p n c (by rw [he]; exact ht)
  simp [Runs, execOp, ho, resolve, hx, invoke, builtin, this, goInt]
theorem o_fieldAddr {s : TypeId} {x : Operand} {i b off k : Nat} {fs : Array Field} {f : Field} (ho : o.op = .fieldAddr s x i) (hs : P.underlying s = some (.struct fs)) (hf : fs[i]? = some f) (hk : f.offset = k) (hz : ((P.info? f.type).map fun i => decide (0 < i.size)) = some true)
    (hx : a.eval x = .pointer (some ⟨b, off, none⟩)) : Runs P o a w (.pointer (some ⟨b, off + k, none⟩)) := by
  cases hi : P.info? f.type with
  | none => rw [hi] at hz; cases hz
  | some ti =>
    rw [hi] at hz
    have h0 : ti.size ≠ 0 := by simp at hz; omega
    (simp only [Runs, execOp, ho, hx]; simp [Instr.fieldAt, run_underlying hs, hf, Instr.sureAddr, fieldPlace, sizeOf, typeInfo, hi, h0, hk, go_sem])
theorem o_indexAddr {t e : TypeId} {x y : Operand} {b off len cap sz : Nat} {k : IntKind} {i : Int} (ho : o.op = .indexAddr t x y) (ht : P.underlying t = some (.slice e)) (hz : (P.info? e).map (·.size) = some sz)
    (hx : a.eval x = .slice (some ⟨b, off, none⟩) len cap) (hy : a.eval y = .int k i) (h0 : 0 ≤ i) (h1 : i < len) : Runs P o a w (.pointer (some ⟨b, off + i.toNat * sz, none⟩)) := by
  cases hi : P.info? e with
  | none => rw [hi] at hz; cases hz
  | some ti =>
    rw [hi] at hz
    have hs : ti.size = sz := by simpa using hz
    (simp only [Runs, execOp, ho, hx, hy]; simp [Instr.indexAt, asIntOf, run_underlying ht, h0, h1, sizeOf, typeInfo, hi, hs, go_sem])
theorem o_indexAddrA {t e : TypeId} {x y : Operand} {b off len sz : Nat} {k : IntKind} {i : Int} (ho : o.op = .indexAddr t x y) (ht : P.underlying t = some (.array len e)) (hz : (P.info? e).map (·.size) = some sz)
    (hx : a.eval x = .pointer (some ⟨b, off, none⟩)) (hy : a.eval y = .int k i) (h0 : 0 ≤ i) (h1 : i < len) : Runs P o a w (.pointer (some ⟨b, off + i.toNat * sz, none⟩)) := by
  cases hi : P.info? e with
  | none => rw [hi] at hz; cases hz
  | some ti =>
    rw [hi] at hz
    have hs : ti.size = sz := by simpa using hz
    (simp only [Runs, execOp, ho, hx, hy]; simp [Instr.indexAt, asIntOf, run_underlying ht, h0, h1, sizeOf, typeInfo, hi, hs, go_sem, Instr.sureAddr])
/-- an element, of one cell, of an array that is a value -/
theorem o_index1 {t e : TypeId} {x y : Operand} {len : Nat} {cs : Array Value} {k : IntKind} {i : Int} {d : TypeDesc} {c : Value} (ho : o.op = .index t x y) (ht : P.underlying t = some (.array len e)) (hz : (P.info? e).map (·.size) = some 1)
    (he : P.underlying e = some d) (hd : (match d with | .struct _ | .array _ _ => true | _ => false) = false)
    (hx : a.eval x = .agg cs) (hy : a.eval y = .int k i) (h0 : 0 ≤ i) (h1 : i < len) (hc0 : nth cs.toList i.toNat = some c) : Runs P o a w c := by
  have hc := nth_arr hc0
  cases hi : P.info? e with
  | none => rw [hi] at hz; cases hz
  | some ti =>
    rw [hi] at hz
    have hs : ti.size = 1 := by simpa using hz
    have hagg : (isAgg e).run P w = .ok false w := by
      unfold isAgg
      rw [Sem.run_bind, run_underlying he w]
      cases d <;> simp_all
    simp [Runs, execOp, ho, hx, hy, Instr.index, asIntOf, run_underlying ht, h0, h1, sizeOf, typeInfo, hi, hs, part, hagg, hc]
/-- a load of one cell -/
theorem o_load1 {t : TypeId} {x : Operand} {d : TypeDesc} {b off : Nat} {c : Value} (ho : o.op = .load t x) (ht : P.underlying t = some d) (hd : (match d with | .struct _ | .array _ _ => true | _ => false) = false)
    (hx : a.eval x = .pointer (some ⟨b, off, none⟩)) (hc : w.cell? ⟨b, off, none⟩ = some c) : Runs P o a w c := by
  have hagg : (isAgg t).run P w = .ok false w := by
    unfold isAgg
    rw [Sem.run_bind, run_underlying ht w]
    cases d <;> simp_all
  (simp only [Runs, execOp, ho, hx]; simp [Instr.loadAt, Instr.sureAddr, loadVar, hagg, go_sem, hc])
/-- a load of a struct, or an array -/
theorem o_loadN {t : TypeId} {x : Operand} {d : TypeDesc} {b off : Nat} {cs : List Value} (ho : o.op = .load t x) (ht : P.underlying t = some d) (hd : (match d with | .struct _ | .array _ _ => true | _ => false) = true)
    (hz : (P.info? t).map (·.size) = some cs.length)
    (hx : a.eval x = .pointer (some ⟨b, off, none⟩)) (hc : ∀ j v, cs[j]? = some v → w.cell? ⟨b, off + j, none⟩ = some v) : Runs P o a w (.agg cs.toArray) := by
  have hagg : (isAgg t).run P w = .ok true w := by
    unfold isAgg
    rw [Sem.run_bind, run_underlying ht w]
    cases d <;> simp_all
  have hl : (loadCells ⟨b, off, none⟩ cs.length).run P w = .ok cs.toArray w :=
    run_loadCells_list (P := P) w ⟨b, off, none⟩ cs (fun j v hv => by
      have hadd : (⟨b, off, none⟩ : Addr).add j = ⟨b, off + j, none⟩ := by unfold Addr.add; split <;> simp_all
      rw [hadd]; exact hc j v hv)
  cases hi : P.info? t with
  | none => rw [hi] at hz; cases hz
  | some ti =>
    rw [hi] at hz
    have hs : ti.size = cs.length := by simpa using hz
    simp [Runs, execOp, ho, hx, Instr.loadAt, Instr.sureAddr, loadVar, hagg, sizeOf, typeInfo, hi, hs, hl]
theorem o_build {t : TypeId} {parts : Array (Nat × Operand)} {vs : Array (Nat × Value)} {cells : Array Value} (ho : o.op = .build t parts) (hp : (parts.map fun (i, x) => (i, a.eval x)) = vs) (hb : P.built t vs.toList = some cells) : Runs P o a w (.agg cells) := by
  have := run_build (P := P) w t vs cells hb
  simp only [Runs, execOp, ho, hp]
  simp [this]
theorem o_nilCheck {x : Operand} {p : Addr} (ho : o.op = .nilCheck x) (hx : a.eval x = .pointer (some p)) : Runs P o a w (.pointer (some p)) := by simp [Runs, execOp, ho, hx]
end
end Go.Proofs.Ytcfbdfgondmkoaa
/- Boxes: memory that a call makes for a variable; loads and stores there; calls by their contracts. -/
namespace Go.Proofs.Ytcfbdfgondmkoaa
open Go Go.RowKit

/-- What a call comes to: it returns a value of which g holds, and has made memory at most. -/
def Gives (P : Program) (f : FuncId) (args : Array Value) (w : World) (g : GP) : Prop := Calls P f args w fun e w' => ∃ v, e = .returned v ∧ Ext w w' ∧ g v w'
theorem Gives.calls {P : Program} {f : FuncId} {args : Array Value} {w : World} {g : GP} (h : Gives P f args w g) : Calls P f args w fun e w' => ∃ v, e = .returned v ∧ Ext w w' ∧ g v w' := h
theorem Gives.mono {P : Program} {f : FuncId} {args : Array Value} {w : World} {g g' : GP} (h : Gives P f args w g) (hg : ∀ v w', Ext w w' → g v w' → g' v w') : Gives P f args w g' :=
  Calls.mono h fun _ _ ⟨v, h1, h2, h3⟩ => ⟨v, h1, h2, hg _ _ h2 h3⟩

theorem stable_any : Stable anyG := fun _ _ _ h _ => h

/-- block b holds these cells -/
def Box (w : World) (b : Nat) (cs : Array Value) (t : TypeId) : Prop := w.heap[b]? = some (.cells cs t (0, 0))
theorem Box.lt {w : World} {b : Nat} {cs : Array Value} {t : TypeId} (h : Box w b cs t) : b < w.heap.size := (Array.getElem?_eq_some_iff.1 h).1
theorem Box.ext {w w' : World} {b : Nat} {cs : Array Value} {t : TypeId} (h : Box w b cs t) (k : Ext w w') : Box w' b cs t := (k.block b h.lt).trans h
theorem Box.since {X : List Nat} {w w' : World} {b : Nat} {cs : Array Value} {t : TypeId} (h : Box w b cs t) (k : Since X w w') (hx : X.contains b = false) : Box w' b cs t := (k.block b h.lt hx).trans h
theorem Box.cell {w : World} {b off : Nat} {cs : Array Value} {t : TypeId} {c : Value} (h : Box w b cs t) (hc : nth cs.toList off = some c) : w.cell? ⟨b, off, none⟩ = some c := by
  rw [cell_of_row w b off cs t (0, 0) h]; exact nth_arr hc
theorem Box.frozen {w : World} {b off : Nat} {cs : Array Value} {t : TypeId} (h : Box w b cs t) : w.frozen? ⟨b, off, none⟩ = false := frozen_of_row w b off cs t h
theorem Box.new (w : World) (cs : Array Value) (t : TypeId) : Box (w.alloc (.cells cs t (0, 0))) w.heap.size cs t := heap_alloc_new w _
theorem Box.alloc {w : World} {b : Nat} {cs : Array Value} {t : TypeId} (h : Box w b cs t) (o : Obj) : Box (w.alloc o) b cs t := (Below.heap_alloc w o b h.lt).trans h
theorem Box.drew {w : World} {b : Nat} {cs : Array Value} {t : TypeId} (h : Box w b cs t) : Box w.drew b cs t := h

/-- the world with another object in block b -/
def put (w : World) (b : Nat) (o : Obj) : World := { w with heap := w.heap.setIfInBounds b o }
theorem put_size (w : World) (b : Nat) (o : Obj) : (put w b o).heap.size = w.heap.size := by simp [put]
theorem put_other {w : World} {b k : Nat} {o : Obj} (h : b ≠ k) : (put w b o).heap[k]? = w.heap[k]? := by simp [put, Array.getElem?_setIfInBounds_ne h]
theorem put_same {w : World} {b : Nat} {o : Obj} (h : b < w.heap.size) : (put w b o).heap[b]? = some o := by simp [put, h]
theorem Box.put {w : World} {b : Nat} {cs cs' : Array Value} {t : TypeId} (h : Box w b cs t) : Box (put w b (.cells cs' t (0, 0))) b cs' t := put_same h.lt
theorem Box.put_other {w : World} {b k : Nat} {cs : Array Value} {t : TypeId} {o : Obj} (h : Box w k cs t) (hn : b ≠ k) : Box (Ytcfbdfgondmkoaa.put w b o) k cs t := (Ytcfbdfgondmkoaa.put_other hn).trans h
theorem Since.put {X : List Nat} {w w' : World} (h : Since X w w') {b : Nat} {o : Obj} (hb : w.heap.size ≤ b ∨ X.contains b = true) : Since X w (put w' b o) :=
  ⟨h.os, h.tape, h.output, by rw [put_size]; exact h.size, fun k hk hx => by
    rw [put_other (fun e => ?_)]
    · exact h.block k hk hx
    · subst e
      rcases hb with hb | hb
      · omega
      · rw [hx] at hb; cases hb⟩

/-- cells from off on replaced -/
def splice (old : Array Value) (off : Nat) : List Value → Array Value
  | [] => old
  | v :: vs => splice (old.setIfInBounds off v) (off + 1) vs
theorem splice_size : ∀ (vs : List Value) (old : Array Value) (off : Nat), (splice old off vs).size = old.size
  | [], _, _ => rfl
  | v :: vs, old, off => by unfold splice; rw [splice_size]; simp

theorem setCell_box {w : World} {b off : Nat} {cs : Array Value} {t : TypeId} (h : Box w b cs t) (v : Value) : w.setCell ⟨b, off, none⟩ v = put w b (.cells (cs.setIfInBounds off v) t (0, 0)) := by
  have hb := h.lt
  have h0 : w.heap[b]? = some (.cells cs t (0, 0)) := h
  unfold World.setCell put
  congr 1
  apply Array.ext_getElem?
  intro k
  by_cases hk : b = k
  · subst hk
    rw [Array.getElem?_modify, if_pos rfl, h0, Array.getElem?_setIfInBounds_self_of_lt hb]
    rfl
  · rw [Array.getElem?_modify, if_neg (by simpa using hk), Array.getElem?_setIfInBounds_ne hk]

theorem put_put (w : World) (b : Nat) (o o' : Obj) : put (put w b o) b o' = put w b o' := by
  unfold put
  simp

section
variable {P : Program} {o : Oper} {a : Act} {w : World}

theorem run_storeCells_box {t : TypeId} : ∀ (vs : List Value) (off i : Nat) (cs : Array Value) (w : World) (b : Nat), Box w b cs t → (∀ v ∈ vs, v.oneCell' = true) → off + i + vs.length ≤ cs.size →
    (storeCells ⟨b, off, none⟩ vs i).run P w = .ok () (put w b (.cells (splice cs (off + i) vs) t (0, 0)))
  | [], off, i, cs, w, b, h, _, _ => by
    have : put w b (.cells cs t (0, 0)) = w := by
      unfold put
      have h0 : w.heap[b]? = some (.cells cs t (0, 0)) := h
      have : w.heap.setIfInBounds b (.cells cs t (0, 0)) = w.heap := by
        apply Array.ext_getElem?
        intro k
        by_cases hk : b = k
        · subst hk; rw [Array.getElem?_setIfInBounds_self_of_lt h.lt, h0]
        · rw [Array.getElem?_setIfInBounds_ne hk]
      rw [this]
    simp [storeCells, splice, this]
  | v :: vs, off, i, cs, w, b, h, hv, hs => by
    have hadd : (⟨b, off, none⟩ : Addr).add i = ⟨b, off + i, none⟩ := by unfold Addr.add; split <;> simp_all
    have hlt : off + i < cs.size := by simp at hs; omega
    have hc : w.cell? ⟨b, off + i, none⟩ = some cs[off + i] := h.cell (by rw [nth_eq]; simp [hlt])
    have h1 : (store ⟨b, off + i, none⟩ v).run P w = .ok () (w.setCell ⟨b, off + i, none⟩ v) := by
      rw [run_store P w _ v .plain (hv v (by simp))]
      simp [hc, h.frozen]
    have h2 := run_storeCells_box (t := t) vs off (i + 1) (cs.setIfInBounds (off + i) v) (put w b (.cells (cs.setIfInBounds (off + i) v) t (0, 0))) b h.put (fun u hu => hv u (by simp [hu])) (by simp at hs ⊢; omega)
    rw [put_put] at h2
    simp only [storeCells, Sem.run_bind, hadd, h1, Result.andThen_ok, setCell_box h, h2]
    rfl

/-- a store into a box, or a part of it -/
theorem o_store {t : TypeId} {x y : Operand} {b off : Nat} {v : Value} {cs new : Array Value} {T : TypeId} (ho : o.op = .store t x y) (hx : a.eval x = .pointer (some ⟨b, off, none⟩)) (hy : a.eval y = v) (hB : Box w b cs T)
    (hz : (P.info? t).map (·.size) = some v.cells.size) (h1 : v.cells.all (·.oneCell') = true) (hs : off + v.cells.size ≤ cs.size) (hn : splice cs off v.cells.toList = new) :
    (execOp a.eval o).run P w = .ok .skip (put w b (.cells new T (0, 0))) := by
  have h2 := run_storeCells_box (P := P) v.cells.toList off 0 cs w b hB (fun u hu => (Array.all_eq_true_iff_forall_mem.1 h1) u (by simpa using hu)) (by simpa using hs)
  cases hi : P.info? t with
  | none => rw [hi] at hz; cases hz
  | some ti =>
    rw [hi] at hz
    have hs : ti.size = v.cells.size := by simpa using hz
    simp only [Nat.add_zero] at h2
    rw [hn] at h2
    simp [execOp, ho, hx, hy, Instr.storeAt, Instr.sureAddr, storeVar, sizeOf, typeInfo, hi, hs, h2]

theorem yes_alloc {t : TypeId} {z : Value} {g : GP} (ho : o.op = .alloc t) (hz : ((P.info? t).bind (·.zero)) = some z) (hd : o.dst.isSome = true)
    (hg : g (.pointer (some ⟨w.heap.size, 0, none⟩)) (w.alloc (.cells z.cells t (0, 0)))) : Yes P o a w g := by
  cases hi : P.info? t with
  | none => rw [hi] at hz; cases hz
  | some ti =>
    rw [hi] at hz
    have hz' : ti.zero = some z := by simpa using hz
    refine yes_val (v := .pointer (some ⟨w.heap.size, 0, none⟩)) (w' := w.alloc (.cells z.cells t (0, 0))) ?_ (Ext.alloc _ _) hg hd
    simp [execOp, ho, Instr.alloc, zeroValue, typeInfo, hi, hz', newVar, newRow, go_sem]

/-- the fact of an alloc: a new box, from n on -/
def isNew (n : Nat) (cs : Array Value) (t : TypeId) : GP := fun v w => ∃ k, v = .pointer (some ⟨k, 0, none⟩) ∧ n ≤ k ∧ Box w k cs t
theorem stable_isNew (n : Nat) (cs : Array Value) (t : TypeId) : Stable (isNew n cs t) := fun _ _ _ ⟨k, h1, h2, h3⟩ hx => ⟨k, h1, h2, h3.ext hx⟩
theorem yes_new {t : TypeId} {z : Value} {n : Nat} {cs : Array Value} (ho : o.op = .alloc t) (hz : ((P.info? t).bind (·.zero)) = some z) (hcs : z.cells = cs) (hd : o.dst.isSome = true) (hn : n ≤ w.heap.size) : Yes P o a w (isNew n cs t) := by
  subst hcs
  exact yes_alloc ho hz hd ⟨_, rfl, hn, Box.new _ _ _⟩

theorem yes_gives {c : Call} {f : FuncId} {fn : Func} {g : GP} {args : Array Value} (hc : Gives P f args w g) (ho : o.op = .call c) (hcc : c.callee = .value (.func f)) (hf : P.funcs[f]? = some fn) (hn : (fn.name == "runtime.NumGoroutine") = false) (hb : fn.body.isNone = false)
    (ha : c.args.map a.eval = args) (hd : o.dst.isSome = true) : Yes P o a w g := yes_call (run_call ho hcc hf hn hb ha) hc hd

theorem eval_const (v : Value) : a.eval (.const v) = v := rfl

/-- a struct of three cells -/
theorem o_load3 {t : TypeId} {x : Operand} {d : TypeDesc} {b off : Nat} {c0 c1 c2 : Value} (ho : o.op = .load t x) (ht : P.underlying t = some d) (hd : (match d with | .struct _ | .array _ _ => true | _ => false) = true)
    (hz : (P.info? t).map (·.size) = some 3) (hx : a.eval x = .pointer (some ⟨b, off, none⟩)) (h0 : w.cell? ⟨b, off, none⟩ = some c0) (h1 : w.cell? ⟨b, off + 1, none⟩ = some c1) (h2 : w.cell? ⟨b, off + 2, none⟩ = some c2) : Runs P o a w (.agg #[c0, c1, c2]) :=
  o_loadN (cs := [c0, c1, c2]) ho ht hd hz hx (fun j v hv => by
    match j, hv with
    | 0, hv => simp at hv; subst hv; exact h0
    | 1, hv => simp at hv; subst hv; exact h1
    | 2, hv => simp at hv; subst hv; exact h2
    | _ + 3, hv => simp at hv)
theorem o_load5 {t : TypeId} {x : Operand} {d : TypeDesc} {b off : Nat} {c0 c1 c2 c3 c4 : Value} (ho : o.op = .load t x) (ht : P.underlying t = some d) (hd : (match d with | .struct _ | .array _ _ => true | _ => false) = true)
    (hz : (P.info? t).map (·.size) = some 5) (hx : a.eval x = .pointer (some ⟨b, off, none⟩)) (h0 : w.cell? ⟨b, off, none⟩ = some c0) (h1 : w.cell? ⟨b, off + 1, none⟩ = some c1) (h2 : w.cell? ⟨b, off + 2, none⟩ = some c2)
    (h3 : w.cell? ⟨b, off + 3, none⟩ = some c3) (h4 : w.cell? ⟨b, off + 4, none⟩ = some c4) : Runs P o a w (.agg #[c0, c1, c2, c3, c4]) :=
  o_loadN (cs := [c0, c1, c2, c3, c4]) ho ht hd hz hx (fun j v hv => by
    match j, hv with
    | 0, hv => simp at hv; subst hv; exact h0
    | 1, hv => simp at hv; subst hv; exact h1
    | 2, hv => simp at hv; subst hv; exact h2
    | 3, hv => simp at hv; subst hv; exact h3
    | 4, hv => simp at hv; subst hv; exact h4
    | _ + 5, hv => simp at hv)
end
end Go.Proofs.Ytcfbdfgondmkoaa
/- Plain numbers: bits cut out and joined. -/
namespace Go.Proofs.Ytcfbdfgondmkoaa
open Go

theorem wrap_in (n : Int) (h0 : -9223372036854775808 ≤ n) (h1 : n ≤ 9223372036854775807) : IntKind.i64.wrap n = n := by rw [IntKind.wrap_i64]; omega

theorem toNat_ofInt64 (x : Int) : (BitVec.ofInt 64 x).toNat = (x % 18446744073709551616).toNat := by
  rw [BitVec.toNat_ofInt]; rfl

theorem and_mask (x : Int) (n : Nat) (hn : n ≤ 62) : bits .and .i64 x ((2 : Int) ^ n - 1) = x % 2 ^ n := by
  have hp : (2 : Nat) ^ n ≤ 2 ^ 62 := Nat.pow_le_pow_right (by decide) hn
  have hp0 : 0 < (2 : Nat) ^ n := Nat.two_pow_pos n
  have hc : ((2 : Int) ^ n) = ((2 ^ n : Nat) : Int) := by simp
  show IntKind.i64.wrap (((BitVec.ofInt 64 x) &&& (BitVec.ofInt 64 ((2 : Int) ^ n - 1))).toNat : Int) = x % 2 ^ n
  rw [BitVec.toNat_and, toNat_ofInt64, toNat_ofInt64, hc]
  have hm : (((2 ^ n : Nat) : Int) - 1) % 18446744073709551616 = ((2 ^ n - 1 : Nat) : Int) := by
    have : (((2 ^ n : Nat) : Int) - 1) = ((2 ^ n - 1 : Nat) : Int) := by omega
    rw [this]
    exact Int.emod_eq_of_lt (by omega) (by omega)
  rw [hm, Int.toNat_natCast, Nat.and_two_pow_sub_one_eq_mod]
  have hx : ((x % 18446744073709551616).toNat : Int) = x % 18446744073709551616 := Int.toNat_of_nonneg (Int.emod_nonneg _ (by decide))
  have hmod : (((x % 18446744073709551616).toNat % 2 ^ n : Nat) : Int) = x % ((2 ^ n : Nat) : Int) := by
    rw [Int.natCast_emod, hx]
    have hd : ((2 ^ n : Nat) : Int) ∣ 18446744073709551616 := by
      have : (18446744073709551616 : Int) = ((2 ^ 64 : Nat) : Int) := by decide
      rw [this]
      exact Int.natCast_dvd_natCast.2 (Nat.pow_dvd_pow 2 (by omega))
    exact Int.emod_emod_of_dvd x hd
  rw [hmod]
  have h0 : 0 ≤ x % ((2 ^ n : Nat) : Int) := Int.emod_nonneg _ (by omega)
  have h1 : x % ((2 ^ n : Nat) : Int) < ((2 ^ n : Nat) : Int) := Int.emod_lt_of_pos _ (by omega)
  exact wrap_in _ (by omega) (by omega)

theorem and1 (x : Int) : bits .and .i64 x 1 = x % 2 := and_mask x 1 (by decide)
theorem and20 (x : Int) : bits .and .i64 x 1048575 = x % 1048576 := and_mask x 20 (by decide)
theorem and40 (x : Int) : bits .and .i64 x 1099511627775 = x % 1099511627776 := and_mask x 40 (by decide)

/-- Joined bits. -/
theorem or_add (a b : Int) (n : Nat) (ha0 : 0 ≤ a) (ha : a < 2 ^ n) (hb0 : 0 ≤ b) (hs : a + b * 2 ^ n < 9223372036854775808) : bits .or .i64 a (b * 2 ^ n) = a + b * 2 ^ n := by
  obtain ⟨x, rfl⟩ := Int.eq_ofNat_of_zero_le ha0
  obtain ⟨y, rfl⟩ := Int.eq_ofNat_of_zero_le hb0
  have hc : ((2 : Int) ^ n) = ((2 ^ n : Nat) : Int) := by simp
  rw [hc] at ha hs ⊢
  have hx : x < 2 ^ n := by omega
  have hm : ((y : Int) * ((2 ^ n : Nat) : Int)) = ((y * 2 ^ n : Nat) : Int) := by simp
  rw [hm] at hs ⊢
  show IntKind.i64.wrap (((BitVec.ofInt 64 (x : Int)) ||| (BitVec.ofInt 64 ((y * 2 ^ n : Nat) : Int))).toNat : Int) = _
  rw [BitVec.toNat_or, toNat_ofInt64, toNat_ofInt64, Int.emod_eq_of_lt (by omega) (by omega), Int.emod_eq_of_lt (by omega) (by omega), Int.toNat_natCast, Int.toNat_natCast]
  have hj : (x ||| y * 2 ^ n) = x + y * 2 ^ n := by
    rw [Nat.or_comm, nat_join n (y * 2 ^ n) x (by simp) hx, Nat.add_comm]
  rw [hj]
  exact wrap_in _ (by omega) (by omega)

/-- A word of three parts. -/
def word (t i m : Int) : Int := m % 2 + i % 1048576 * 2 + t % 1099511627776 * 2097152

theorem word_bounds (t i m : Int) : 0 ≤ word t i m ∧ word t i m < 2305843009213693952 := by unfold word; omega

theorem join_eq (m i t : Int) :
    bits .or .i64 (bits .or .i64 (bits .or .i64 0 (IntKind.i64.wrap (bits .and .i64 m 1 * 2 ^ 0))) (IntKind.i64.wrap (bits .and .i64 i 1048575 * 2 ^ 1))) (IntKind.i64.wrap (bits .and .i64 t 1099511627775 * 2 ^ 21)) = word t i m := by
  rw [and1, and20, and40]
  have e0 : IntKind.i64.wrap (m % 2 * 2 ^ 0) = m % 2 * 2 ^ 0 := wrap_in _ (by omega) (by omega)
  have e1 : IntKind.i64.wrap (i % 1048576 * 2 ^ 1) = i % 1048576 * 2 ^ 1 := wrap_in _ (by omega) (by omega)
  have e2 : IntKind.i64.wrap (t % 1099511627776 * 2 ^ 21) = t % 1099511627776 * 2 ^ 21 := wrap_in _ (by omega) (by omega)
  rw [e0, e1, e2]
  rw [or_add 0 (m % 2) 0 (by omega) (by omega) (by omega) (by omega)]
  rw [or_add _ (i % 1048576) 1 (by omega) (by omega) (by omega) (by omega)]
  rw [or_add _ (t % 1099511627776) 21 (by omega) (by omega) (by omega) (by omega)]
  unfold word
  omega

theorem tmod_cases (a b : Int) (hb : 0 < b) : -b < a.tmod b ∧ a.tmod b < b ∧ (a % b = if a.tmod b < 0 then a.tmod b + b else a.tmod b) := by
  have h := @Int.tmod_eq_emod a b
  have h0 : 0 ≤ a % b := Int.emod_nonneg _ (by omega)
  have h1 : a % b < b := Int.emod_lt_of_pos _ hb
  have hn : (b.natAbs : Int) = b := by omega
  by_cases hc : 0 ≤ a ∨ b ∣ a
  · rw [if_pos hc] at h
    refine ⟨by omega, by omega, ?_⟩
    rw [if_neg (by omega)]
    omega
  · rw [if_neg hc, hn] at h
    have hne : a % b ≠ 0 := fun e => hc (.inr (Int.dvd_of_emod_eq_zero e))
    refine ⟨by omega, by omega, ?_⟩
    rw [if_pos (by omega)]
    omega
end Go.Proofs.Ytcfbdfgondmkoaa
/- Layer pack: what wide, from, cut, joined come to. -/
namespace Go.Proofs.Ytcfbdfgondmkoaa
open Go Go.RowKit

/-- The call of function f with these arguments hands back c, and makes memory at most. -/
def Hands (f : FuncId) (args : Array Value) (c : Value) : Prop := ∀ w, Gives Proofs.Try.prog f args w (eqv c)

theorem cell_ext {w w1 : World} {a : Addr} {v : Value} (hc : w.cell? a = some v) (h : Ext w w1) : w1.cell? a = some v := (h.cell (World.block_lt_of_cell? w a hc)).trans hc

theorem wide_ : Hands 156 #[] (.agg #[.int .i64 1, .int .i64 20, .int .i64 40]) := by
  intro w
  go_enter Proofs.Try.func156, Proofs.Try.ntmps156
  go_wp2
  exact bodyPost_ret (v := .agg #[.int .i64 1, .int .i64 20, .int .i64 40]) (by simp [results, Proofs.Try.results156, go_sem]) rfl ⟨_, rfl, Ext.alloc _ _, rfl⟩

theorem from0_ : Hands 117 #[.int .i64 0] (.int .i64 0) := by
  intro w
  go_enter Proofs.Try.func117, Proofs.Try.ntmps117
  go_wp2_with (go_at_call 156; refine (wide_ _).calls.mono ?_; rintro e w' ⟨_, rfl, hb, rfl⟩)
  refine wp_loop_rounds 1 ?_; rw [rounds_succ]; go_wp2
  go_ret
  exact ⟨_, rfl, Ext.trans hb (Ext.alloc _ _), rfl⟩
theorem from1_ : Hands 117 #[.int .i64 1] (.int .i64 1) := by
  intro w
  go_enter Proofs.Try.func117, Proofs.Try.ntmps117
  go_wp2_with (go_at_call 156; refine (wide_ _).calls.mono ?_; rintro e w' ⟨_, rfl, hb, rfl⟩)
  refine wp_loop_rounds 2 ?_; rw [rounds_succ]; go_wp2; rw [rounds_succ]; go_wp2
  go_ret
  exact ⟨_, rfl, Ext.trans hb (Ext.alloc _ _), rfl⟩
theorem from2_ : Hands 117 #[.int .i64 2] (.int .i64 21) := by
  intro w
  go_enter Proofs.Try.func117, Proofs.Try.ntmps117
  go_wp2_with (go_at_call 156; refine (wide_ _).calls.mono ?_; rintro e w' ⟨_, rfl, hb, rfl⟩)
  refine wp_loop_rounds 3 ?_; rw [rounds_succ]; go_wp2; rw [rounds_succ]; go_wp2; rw [rounds_succ]; go_wp2
  go_ret
  exact ⟨_, rfl, Ext.trans hb (Ext.alloc _ _), rfl⟩
theorem from3_ : Hands 117 #[.int .i64 3] (.int .i64 61) := by
  intro w
  go_enter Proofs.Try.func117, Proofs.Try.ntmps117
  go_wp2_with (go_at_call 156; refine (wide_ _).calls.mono ?_; rintro e w' ⟨_, rfl, hb, rfl⟩)
  refine wp_loop_rounds 4 ?_; rw [rounds_succ]; go_wp2; rw [rounds_succ]; go_wp2; rw [rounds_succ]; go_wp2; rw [rounds_succ]; go_wp2
  go_ret
  exact ⟨_, rfl, Ext.trans hb (Ext.alloc _ _), rfl⟩

set_option maxRecDepth 100000 in
set_option maxRecDepth 100000 in
set_option maxRecDepth 100000 in
theorem cut0_ (x : Int) : Hands 118 #[.int .i64 x, .int .i64 0] (.int .i64 (bits .and .i64 (x / 2 ^ 0) 1)) := by
  intro w
  go_enter Proofs.Try.func118, Proofs.Try.ntmps118
  go_wp2_with fail
  apply region_lit (T := []) (L := []) (X := []) (G := [eqv _, eqv _, eqv _, eqv _, eqv _, eqv _, eqv _, eqv _, eqv _, eqv _, eqv _])
  case hm => kernel_rfl
  case hop =>
    refine ⟨?_, ?_, ?_, ?_, ?_, ?_, ?_, ?_, ?_, ?_, ?_, trivial⟩
    · intro a w hs hf hd
      have t0 := hf.off 0 (by kernel_rfl) rfl
      exact plain_ rfl (yes_eqv (o_move rfl t0) rfl)
    · intro a w hs hf hd
      have t1 := hf.off 1 (by kernel_rfl) rfl
      exact plain_ rfl (yes_eqv (o_move rfl t1) rfl)
    · intro a w hs hf hd
      have t6 : a.eval (.tmp 6) = _ := hd.at 1 6 (by kernel_rfl)
      exact plain_ rfl (yes_gives (from0_ _) rfl rfl Proofs.Try.func117 (by kernel_rfl) (by kernel_rfl) (by simp only [List.map_toArray, List.map_cons, List.map_nil, t6]) rfl)
    · intro a w hs hf hd
      have t5 : a.eval (.tmp 5) = _ := hd.at 0 5 (by kernel_rfl)
      have t7 : a.eval (.tmp 7) = _ := hd.at 2 7 (by kernel_rfl)
      exact plain_ rfl (yes_eqv (o_shr rfl t5 t7 (by decide) (by decide) rfl) rfl)
    · intro a w hs hf hd
      exact plain_ rfl (yes_gives (wide_ _) rfl rfl Proofs.Try.func156 (by kernel_rfl) (by kernel_rfl) (by simp) rfl)
    · intro a w hs hf hd
      have t1 := hf.off 1 (by kernel_rfl) rfl
      exact plain_ rfl (yes_eqv (o_move rfl t1) rfl)
    · intro a w hs hf hd
      have t9 : a.eval (.tmp 9) = _ := hd.at 4 9 (by kernel_rfl)
      have t10 : a.eval (.tmp 10) = _ := hd.at 5 10 (by kernel_rfl)
      exact plain_ rfl (yes_eqv (o_index1 rfl Proofs.Try.underlying41 (by kernel_rfl) Proofs.Try.underlying3 rfl t9 t10 (by decide) (by decide) rfl) rfl)
    · intro a w hs hf hd
      have t11 : a.eval (.tmp 11) = _ := hd.at 6 11 (by kernel_rfl)
      exact plain_ rfl (yes_eqv (o_shl rfl rfl t11 (by decide) (by decide) rfl) rfl)
    · intro a w hs hf hd
      have t12 : a.eval (.tmp 12) = _ := hd.at 7 12 (by kernel_rfl)
      exact plain_ rfl (yes_eqv (o_sub rfl t12 rfl rfl) rfl)
    · intro a w hs hf hd
      have t8 : a.eval (.tmp 8) = _ := hd.at 3 8 (by kernel_rfl)
      have t13 : a.eval (.tmp 13) = _ := hd.at 8 13 (by kernel_rfl)
      exact plain_ rfl (yes_eqv (o_and rfl t8 t13 rfl) rfl)
    · intro a w hs hf hd
      have t14 : a.eval (.tmp 14) = _ := hd.at 9 14 (by kernel_rfl)
      exact plain_ rfl (yes_eqv (o_assign rfl t14) rfl)
  case hG => exact ⟨stable_eqv _, stable_eqv _, stable_eqv _, stable_eqv _, stable_eqv _, stable_eqv _, stable_eqv _, stable_eqv _, stable_eqv _, stable_eqv _, stable_eqv _, trivial⟩
  case hc => kernel_rfl
  case hfin =>
    intro w1 hs
    rintro _ rfl _ rfl _ rfl _ rfl _ rfl _ rfl _ rfl _ rfl _ rfl _ rfl _ rfl
    rintro _ rfl
    simp only [Act.put, List.setIfInBounds_toArray, List.set_cons_zero, List.set_cons_succ]
    go_wp2
    go_ret
    exact ⟨_, rfl, hs.to_ext, rfl⟩

set_option maxRecDepth 100000 in
theorem cut1_ (x : Int) : Hands 118 #[.int .i64 x, .int .i64 1] (.int .i64 (bits .and .i64 (x / 2 ^ 1) 1048575)) := by
  intro w
  go_enter Proofs.Try.func118, Proofs.Try.ntmps118
  go_wp2_with fail
  apply region_lit (T := []) (L := []) (X := []) (G := [eqv _, eqv _, eqv _, eqv _, eqv _, eqv _, eqv _, eqv _, eqv _, eqv _, eqv _])
  case hm => kernel_rfl
  case hop =>
    refine ⟨?_, ?_, ?_, ?_, ?_, ?_, ?_, ?_, ?_, ?_, ?_, trivial⟩
    · intro a w hs hf hd
      have t0 := hf.off 0 (by kernel_rfl) rfl
      exact plain_ rfl (yes_eqv (o_move rfl t0) rfl)
    · intro a w hs hf hd
      have t1 := hf.off 1 (by kernel_rfl) rfl
      exact plain_ rfl (yes_eqv (o_move rfl t1) rfl)
    · intro a w hs hf hd
      have t6 : a.eval (.tmp 6) = _ := hd.at 1 6 (by kernel_rfl)
      exact plain_ rfl (yes_gives (from1_ _) rfl rfl Proofs.Try.func117 (by kernel_rfl) (by kernel_rfl) (by simp only [List.map_toArray, List.map_cons, List.map_nil, t6]) rfl)
    · intro a w hs hf hd
      have t5 : a.eval (.tmp 5) = _ := hd.at 0 5 (by kernel_rfl)
      have t7 : a.eval (.tmp 7) = _ := hd.at 2 7 (by kernel_rfl)
      exact plain_ rfl (yes_eqv (o_shr rfl t5 t7 (by decide) (by decide) rfl) rfl)
    · intro a w hs hf hd
      exact plain_ rfl (yes_gives (wide_ _) rfl rfl Proofs.Try.func156 (by kernel_rfl) (by kernel_rfl) (by simp) rfl)
    · intro a w hs hf hd
      have t1 := hf.off 1 (by kernel_rfl) rfl
      exact plain_ rfl (yes_eqv (o_move rfl t1) rfl)
    · intro a w hs hf hd
      have t9 : a.eval (.tmp 9) = _ := hd.at 4 9 (by kernel_rfl)
      have t10 : a.eval (.tmp 10) = _ := hd.at 5 10 (by kernel_rfl)
      exact plain_ rfl (yes_eqv (o_index1 rfl Proofs.Try.underlying41 (by kernel_rfl) Proofs.Try.underlying3 rfl t9 t10 (by decide) (by decide) rfl) rfl)
    · intro a w hs hf hd
      have t11 : a.eval (.tmp 11) = _ := hd.at 6 11 (by kernel_rfl)
      exact plain_ rfl (yes_eqv (o_shl rfl rfl t11 (by decide) (by decide) rfl) rfl)
    · intro a w hs hf hd
      have t12 : a.eval (.tmp 12) = _ := hd.at 7 12 (by kernel_rfl)
      exact plain_ rfl (yes_eqv (o_sub rfl t12 rfl rfl) rfl)
    · intro a w hs hf hd
      have t8 : a.eval (.tmp 8) = _ := hd.at 3 8 (by kernel_rfl)
      have t13 : a.eval (.tmp 13) = _ := hd.at 8 13 (by kernel_rfl)
      exact plain_ rfl (yes_eqv (o_and rfl t8 t13 rfl) rfl)
    · intro a w hs hf hd
      have t14 : a.eval (.tmp 14) = _ := hd.at 9 14 (by kernel_rfl)
      exact plain_ rfl (yes_eqv (o_assign rfl t14) rfl)
  case hG => exact ⟨stable_eqv _, stable_eqv _, stable_eqv _, stable_eqv _, stable_eqv _, stable_eqv _, stable_eqv _, stable_eqv _, stable_eqv _, stable_eqv _, stable_eqv _, trivial⟩
  case hc => kernel_rfl
  case hfin =>
    intro w1 hs
    rintro _ rfl _ rfl _ rfl _ rfl _ rfl _ rfl _ rfl _ rfl _ rfl _ rfl _ rfl
    rintro _ rfl
    simp only [Act.put, List.setIfInBounds_toArray, List.set_cons_zero, List.set_cons_succ]
    go_wp2
    go_ret
    exact ⟨_, rfl, hs.to_ext, rfl⟩

set_option maxRecDepth 100000 in
theorem cut2_ (x : Int) : Hands 118 #[.int .i64 x, .int .i64 2] (.int .i64 (bits .and .i64 (x / 2 ^ 21) 1099511627775)) := by
  intro w
  go_enter Proofs.Try.func118, Proofs.Try.ntmps118
  go_wp2_with fail
  apply region_lit (T := []) (L := []) (X := []) (G := [eqv _, eqv _, eqv _, eqv _, eqv _, eqv _, eqv _, eqv _, eqv _, eqv _, eqv _])
  case hm => kernel_rfl
  case hop =>
    refine ⟨?_, ?_, ?_, ?_, ?_, ?_, ?_, ?_, ?_, ?_, ?_, trivial⟩
    · intro a w hs hf hd
      have t0 := hf.off 0 (by kernel_rfl) rfl
      exact plain_ rfl (yes_eqv (o_move rfl t0) rfl)
    · intro a w hs hf hd
      have t1 := hf.off 1 (by kernel_rfl) rfl
      exact plain_ rfl (yes_eqv (o_move rfl t1) rfl)
    · intro a w hs hf hd
      have t6 : a.eval (.tmp 6) = _ := hd.at 1 6 (by kernel_rfl)
      exact plain_ rfl (yes_gives (from2_ _) rfl rfl Proofs.Try.func117 (by kernel_rfl) (by kernel_rfl) (by simp only [List.map_toArray, List.map_cons, List.map_nil, t6]) rfl)
    · intro a w hs hf hd
      have t5 : a.eval (.tmp 5) = _ := hd.at 0 5 (by kernel_rfl)
      have t7 : a.eval (.tmp 7) = _ := hd.at 2 7 (by kernel_rfl)
      exact plain_ rfl (yes_eqv (o_shr rfl t5 t7 (by decide) (by decide) rfl) rfl)
    · intro a w hs hf hd
      exact plain_ rfl (yes_gives (wide_ _) rfl rfl Proofs.Try.func156 (by kernel_rfl) (by kernel_rfl) (by simp) rfl)
    · intro a w hs hf hd
      have t1 := hf.off 1 (by kernel_rfl) rfl
      exact plain_ rfl (yes_eqv (o_move rfl t1) rfl)
    · intro a w hs hf hd
      have t9 : a.eval (.tmp 9) = _ := hd.at 4 9 (by kernel_rfl)
      have t10 : a.eval (.tmp 10) = _ := hd.at 5 10 (by kernel_rfl)
      exact plain_ rfl (yes_eqv (o_index1 rfl Proofs.Try.underlying41 (by kernel_rfl) Proofs.Try.underlying3 rfl t9 t10 (by decide) (by decide) rfl) rfl)
    · intro a w hs hf hd
      have t11 : a.eval (.tmp 11) = _ := hd.at 6 11 (by kernel_rfl)
      exact plain_ rfl (yes_eqv (o_shl rfl rfl t11 (by decide) (by decide) rfl) rfl)
    · intro a w hs hf hd
      have t12 : a.eval (.tmp 12) = _ := hd.at 7 12 (by kernel_rfl)
      exact plain_ rfl (yes_eqv (o_sub rfl t12 rfl rfl) rfl)
    · intro a w hs hf hd
      have t8 : a.eval (.tmp 8) = _ := hd.at 3 8 (by kernel_rfl)
      have t13 : a.eval (.tmp 13) = _ := hd.at 8 13 (by kernel_rfl)
      exact plain_ rfl (yes_eqv (o_and rfl t8 t13 rfl) rfl)
    · intro a w hs hf hd
      have t14 : a.eval (.tmp 14) = _ := hd.at 9 14 (by kernel_rfl)
      exact plain_ rfl (yes_eqv (o_assign rfl t14) rfl)
  case hG => exact ⟨stable_eqv _, stable_eqv _, stable_eqv _, stable_eqv _, stable_eqv _, stable_eqv _, stable_eqv _, stable_eqv _, stable_eqv _, stable_eqv _, stable_eqv _, trivial⟩
  case hc => kernel_rfl
  case hfin =>
    intro w1 hs
    rintro _ rfl _ rfl _ rfl _ rfl _ rfl _ rfl _ rfl _ rfl _ rfl _ rfl _ rfl
    rintro _ rfl
    simp only [Act.put, List.setIfInBounds_toArray, List.set_cons_zero, List.set_cons_succ]
    go_wp2
    go_ret
    exact ⟨_, rfl, hs.to_ext, rfl⟩


set_option maxRecDepth 100000 in
theorem joined_ (m i t : Int) (b off c : Nat) (w : World) (h0 : w.cell? ⟨b, off, none⟩ = some (.int .i64 m)) (h1 : w.cell? ⟨b, off + 1, none⟩ = some (.int .i64 i)) (h2 : w.cell? ⟨b, off + 2, none⟩ = some (.int .i64 t)) :
    Gives Proofs.Try.prog 116 #[.slice (some ⟨b, off, none⟩) 3 c] w (eqv (.int .i64 (word t i m))) := by
  go_enter Proofs.Try.func116, Proofs.Try.ntmps116
  go_wp2
  refine wp_loop_rounds 4 ?_; rw [rounds_succ]; go_wp2
  apply region_lit (T := []) (L := []) (X := []) (G := [eqv _, eqv _, eqv _, eqv _, eqv _, eqv _, eqv _, eqv _, eqv _, eqv _, eqv _, eqv _, eqv _])
  case hm => kernel_rfl
  case hop =>
    refine ⟨?_, ?_, ?_, ?_, ?_, ?_, ?_, ?_, ?_, ?_, ?_, ?_, ?_, trivial⟩
    · intro a w hs hf hd
      have t3 := hf.off 3 (by kernel_rfl) rfl
      exact plain_ rfl (yes_eqv (o_move rfl t3) rfl)
    · intro a w hs hf hd
      have t5 := hf.off 5 (by kernel_rfl) rfl
      exact plain_ rfl (yes_eqv (o_move rfl t5) rfl)
    · intro a w hs hf hd
      exact plain_ rfl (yes_gives (wide_ _) rfl rfl Proofs.Try.func156 (by kernel_rfl) (by kernel_rfl) (by simp) rfl)
    · intro a w hs hf hd
      have t4 := hf.off 4 (by kernel_rfl) rfl
      exact plain_ rfl (yes_eqv (o_move rfl t4) rfl)
    · intro a w hs hf hd
      have t15 : a.eval (.tmp 15) = _ := hd.at 2 15 (by kernel_rfl)
      have t16 : a.eval (.tmp 16) = _ := hd.at 3 16 (by kernel_rfl)
      exact plain_ rfl (yes_eqv (o_index1 rfl Proofs.Try.underlying41 (by kernel_rfl) Proofs.Try.underlying3 rfl t15 t16 (by decide) (by decide) rfl) rfl)
    · intro a w hs hf hd
      have t17 : a.eval (.tmp 17) = _ := hd.at 4 17 (by kernel_rfl)
      exact plain_ rfl (yes_eqv (o_shl rfl rfl t17 (by decide) (by decide) rfl) rfl)
    · intro a w hs hf hd
      have t18 : a.eval (.tmp 18) = _ := hd.at 5 18 (by kernel_rfl)
      exact plain_ rfl (yes_eqv (o_sub rfl t18 rfl rfl) rfl)
    · intro a w hs hf hd
      have t14 : a.eval (.tmp 14) = _ := hd.at 1 14 (by kernel_rfl)
      have t19 : a.eval (.tmp 19) = _ := hd.at 6 19 (by kernel_rfl)
      exact plain_ rfl (yes_eqv (o_and rfl t14 t19 rfl) rfl)
    · intro a w hs hf hd
      have t4 := hf.off 4 (by kernel_rfl) rfl
      exact plain_ rfl (yes_eqv (o_move rfl t4) rfl)
    · intro a w hs hf hd
      have t21 : a.eval (.tmp 21) = _ := hd.at 8 21 (by kernel_rfl)
      exact plain_ rfl (yes_gives (from0_ _) rfl rfl Proofs.Try.func117 (by kernel_rfl) (by kernel_rfl) (by simp only [List.map_toArray, List.map_cons, List.map_nil, t21]) rfl)
    · intro a w hs hf hd
      have t20 : a.eval (.tmp 20) = _ := hd.at 7 20 (by kernel_rfl)
      have t22 : a.eval (.tmp 22) = _ := hd.at 9 22 (by kernel_rfl)
      exact plain_ rfl (yes_eqv (o_shl rfl t20 t22 (by decide) (by decide) rfl) rfl)
    · intro a w hs hf hd
      have t13 : a.eval (.tmp 13) = _ := hd.at 0 13 (by kernel_rfl)
      have t23 : a.eval (.tmp 23) = _ := hd.at 10 23 (by kernel_rfl)
      exact plain_ rfl (yes_eqv (o_or rfl t13 t23 rfl) rfl)
    · intro a w hs hf hd
      have t24 : a.eval (.tmp 24) = _ := hd.at 11 24 (by kernel_rfl)
      exact plain_ rfl (yes_eqv (o_assign rfl t24) rfl)
  case hG => exact ⟨stable_eqv _, stable_eqv _, stable_eqv _, stable_eqv _, stable_eqv _, stable_eqv _, stable_eqv _, stable_eqv _, stable_eqv _, stable_eqv _, stable_eqv _, stable_eqv _, stable_eqv _, trivial⟩
  case hc => kernel_rfl
  case hfin =>
    intro w1 hs0
    rintro _ rfl _ rfl _ rfl _ rfl _ rfl _ rfl _ rfl _ rfl _ rfl _ rfl _ rfl _ rfl _ rfl
    rintro _ rfl
    simp only [Act.put, List.setIfInBounds_toArray, List.set_cons_zero, List.set_cons_succ]
    have hx0 := hs0.to_ext
    have h1' := cell_ext h1 hx0
    have h2' := cell_ext h2 hx0
    go_wp2; rw [rounds_succ]; go_wp2
    apply region_lit (T := []) (L := []) (X := []) (G := [eqv _, eqv _, eqv _, eqv _, eqv _, eqv _, eqv _, eqv _, eqv _, eqv _, eqv _, eqv _, eqv _])
    case hm => kernel_rfl
    case hop =>
      refine ⟨?_, ?_, ?_, ?_, ?_, ?_, ?_, ?_, ?_, ?_, ?_, ?_, ?_, trivial⟩
      · intro a w hs hf hd
        have t3 := hf.off 3 (by kernel_rfl) rfl
        exact plain_ rfl (yes_eqv (o_move rfl t3) rfl)
      · intro a w hs hf hd
        have t5 := hf.off 5 (by kernel_rfl) rfl
        exact plain_ rfl (yes_eqv (o_move rfl t5) rfl)
      · intro a w hs hf hd
        exact plain_ rfl (yes_gives (wide_ _) rfl rfl Proofs.Try.func156 (by kernel_rfl) (by kernel_rfl) (by simp) rfl)
      · intro a w hs hf hd
        have t4 := hf.off 4 (by kernel_rfl) rfl
        exact plain_ rfl (yes_eqv (o_move rfl t4) rfl)
      · intro a w hs hf hd
        have t15 : a.eval (.tmp 15) = _ := hd.at 2 15 (by kernel_rfl)
        have t16 : a.eval (.tmp 16) = _ := hd.at 3 16 (by kernel_rfl)
        exact plain_ rfl (yes_eqv (o_index1 rfl Proofs.Try.underlying41 (by kernel_rfl) Proofs.Try.underlying3 rfl t15 t16 (by decide) (by decide) rfl) rfl)
      · intro a w hs hf hd
        have t17 : a.eval (.tmp 17) = _ := hd.at 4 17 (by kernel_rfl)
        exact plain_ rfl (yes_eqv (o_shl rfl rfl t17 (by decide) (by decide) rfl) rfl)
      · intro a w hs hf hd
        have t18 : a.eval (.tmp 18) = _ := hd.at 5 18 (by kernel_rfl)
        exact plain_ rfl (yes_eqv (o_sub rfl t18 rfl rfl) rfl)
      · intro a w hs hf hd
        have t14 : a.eval (.tmp 14) = _ := hd.at 1 14 (by kernel_rfl)
        have t19 : a.eval (.tmp 19) = _ := hd.at 6 19 (by kernel_rfl)
        exact plain_ rfl (yes_eqv (o_and rfl t14 t19 rfl) rfl)
      · intro a w hs hf hd
        have t4 := hf.off 4 (by kernel_rfl) rfl
        exact plain_ rfl (yes_eqv (o_move rfl t4) rfl)
      · intro a w hs hf hd
        have t21 : a.eval (.tmp 21) = _ := hd.at 8 21 (by kernel_rfl)
        exact plain_ rfl (yes_gives (from1_ _) rfl rfl Proofs.Try.func117 (by kernel_rfl) (by kernel_rfl) (by simp only [List.map_toArray, List.map_cons, List.map_nil, t21]) rfl)
      · intro a w hs hf hd
        have t20 : a.eval (.tmp 20) = _ := hd.at 7 20 (by kernel_rfl)
        have t22 : a.eval (.tmp 22) = _ := hd.at 9 22 (by kernel_rfl)
        exact plain_ rfl (yes_eqv (o_shl rfl t20 t22 (by decide) (by decide) rfl) rfl)
      · intro a w hs hf hd
        have t13 : a.eval (.tmp 13) = _ := hd.at 0 13 (by kernel_rfl)
        have t23 : a.eval (.tmp 23) = _ := hd.at 10 23 (by kernel_rfl)
        exact plain_ rfl (yes_eqv (o_or rfl t13 t23 rfl) rfl)
      · intro a w hs hf hd
        have t24 : a.eval (.tmp 24) = _ := hd.at 11 24 (by kernel_rfl)
        exact plain_ rfl (yes_eqv (o_assign rfl t24) rfl)
    case hG => exact ⟨stable_eqv _, stable_eqv _, stable_eqv _, stable_eqv _, stable_eqv _, stable_eqv _, stable_eqv _, stable_eqv _, stable_eqv _, stable_eqv _, stable_eqv _, stable_eqv _, stable_eqv _, trivial⟩
    case hc => kernel_rfl
    case hfin =>
      intro w2 hs1
      rintro _ rfl _ rfl _ rfl _ rfl _ rfl _ rfl _ rfl _ rfl _ rfl _ rfl _ rfl _ rfl _ rfl
      rintro _ rfl
      simp only [Act.put, List.setIfInBounds_toArray, List.set_cons_zero, List.set_cons_succ]
      have hx1 := hs1.to_ext
      have h2'' := cell_ext h2' hx1
      go_wp2; rw [rounds_succ]; go_wp2
      apply region_lit (T := []) (L := []) (X := []) (G := [eqv _, eqv _, eqv _, eqv _, eqv _, eqv _, eqv _, eqv _, eqv _, eqv _, eqv _, eqv _, eqv _])
      case hm => kernel_rfl
      case hop =>
        refine ⟨?_, ?_, ?_, ?_, ?_, ?_, ?_, ?_, ?_, ?_, ?_, ?_, ?_, trivial⟩
        · intro a w hs hf hd
          have t3 := hf.off 3 (by kernel_rfl) rfl
          exact plain_ rfl (yes_eqv (o_move rfl t3) rfl)
        · intro a w hs hf hd
          have t5 := hf.off 5 (by kernel_rfl) rfl
          exact plain_ rfl (yes_eqv (o_move rfl t5) rfl)
        · intro a w hs hf hd
          exact plain_ rfl (yes_gives (wide_ _) rfl rfl Proofs.Try.func156 (by kernel_rfl) (by kernel_rfl) (by simp) rfl)
        · intro a w hs hf hd
          have t4 := hf.off 4 (by kernel_rfl) rfl
          exact plain_ rfl (yes_eqv (o_move rfl t4) rfl)
        · intro a w hs hf hd
          have t15 : a.eval (.tmp 15) = _ := hd.at 2 15 (by kernel_rfl)
          have t16 : a.eval (.tmp 16) = _ := hd.at 3 16 (by kernel_rfl)
          exact plain_ rfl (yes_eqv (o_index1 rfl Proofs.Try.underlying41 (by kernel_rfl) Proofs.Try.underlying3 rfl t15 t16 (by decide) (by decide) rfl) rfl)
        · intro a w hs hf hd
          have t17 : a.eval (.tmp 17) = _ := hd.at 4 17 (by kernel_rfl)
          exact plain_ rfl (yes_eqv (o_shl rfl rfl t17 (by decide) (by decide) rfl) rfl)
        · intro a w hs hf hd
          have t18 : a.eval (.tmp 18) = _ := hd.at 5 18 (by kernel_rfl)
          exact plain_ rfl (yes_eqv (o_sub rfl t18 rfl rfl) rfl)
        · intro a w hs hf hd
          have t14 : a.eval (.tmp 14) = _ := hd.at 1 14 (by kernel_rfl)
          have t19 : a.eval (.tmp 19) = _ := hd.at 6 19 (by kernel_rfl)
          exact plain_ rfl (yes_eqv (o_and rfl t14 t19 rfl) rfl)
        · intro a w hs hf hd
          have t4 := hf.off 4 (by kernel_rfl) rfl
          exact plain_ rfl (yes_eqv (o_move rfl t4) rfl)
        · intro a w hs hf hd
          have t21 : a.eval (.tmp 21) = _ := hd.at 8 21 (by kernel_rfl)
          exact plain_ rfl (yes_gives (from2_ _) rfl rfl Proofs.Try.func117 (by kernel_rfl) (by kernel_rfl) (by simp only [List.map_toArray, List.map_cons, List.map_nil, t21]) rfl)
        · intro a w hs hf hd
          have t20 : a.eval (.tmp 20) = _ := hd.at 7 20 (by kernel_rfl)
          have t22 : a.eval (.tmp 22) = _ := hd.at 9 22 (by kernel_rfl)
          exact plain_ rfl (yes_eqv (o_shl rfl t20 t22 (by decide) (by decide) rfl) rfl)
        · intro a w hs hf hd
          have t13 : a.eval (.tmp 13) = _ := hd.at 0 13 (by kernel_rfl)
          have t23 : a.eval (.tmp 23) = _ := hd.at 10 23 (by kernel_rfl)
          exact plain_ rfl (yes_eqv (o_or rfl t13 t23 rfl) rfl)
        · intro a w hs hf hd
          have t24 : a.eval (.tmp 24) = _ := hd.at 11 24 (by kernel_rfl)
          exact plain_ rfl (yes_eqv (o_assign rfl t24) rfl)
      case hG => exact ⟨stable_eqv _, stable_eqv _, stable_eqv _, stable_eqv _, stable_eqv _, stable_eqv _, stable_eqv _, stable_eqv _, stable_eqv _, stable_eqv _, stable_eqv _, stable_eqv _, stable_eqv _, trivial⟩
      case hc => kernel_rfl
      case hfin =>
        intro w3 hs2
        rintro _ rfl _ rfl _ rfl _ rfl _ rfl _ rfl _ rfl _ rfl _ rfl _ rfl _ rfl _ rfl _ rfl
        rintro _ rfl
        simp only [Act.put, List.setIfInBounds_toArray, List.set_cons_zero, List.set_cons_succ]
        have hx2 := hs2.to_ext
        go_wp2; rw [rounds_succ]; go_wp2
        go_ret
        exact ⟨_, rfl, (hx0.trans hx1).trans hx2, congrArg (Value.int .i64) (join_eq m i t)⟩

end Go.Proofs.Ytcfbdfgondmkoaa
/- Layer pack: its exported functions, and the document's. -/
namespace Go.Proofs.Ytcfbdfgondmkoaa
open Go Go.RowKit

theorem Hands.eq {f : FuncId} {args : Array Value} {c c' : Value} (h : Hands f args c) (e : c = c') : Hands f args c' := e ▸ h

theorem cut0' (x : Int) : Hands 118 #[.int .i64 x, .int .i64 0] (.int .i64 (x % 2)) := (cut0_ x).eq (by rw [and1]; congr 1; omega)
theorem cut1' (x : Int) : Hands 118 #[.int .i64 x, .int .i64 1] (.int .i64 (x / 2 % 1048576)) := (cut1_ x).eq (by rw [and20]; congr 1)
theorem cut2' (x : Int) : Hands 118 #[.int .i64 x, .int .i64 2] (.int .i64 (x / 2097152 % 1099511627776)) := (cut2_ x).eq (by rw [and40]; congr 1)

theorem index_ (x : Int) : Hands 41 #[.int .i64 x] (.int .i64 (x / 2 % 1048576)) := by
  intro w
  go_enter Proofs.Try.func41, Proofs.Try.ntmps41
  go_wp2_with (go_at_call 118; refine (cut1' _ _).calls.mono ?_; rintro e w' ⟨_, rfl, hb, rfl⟩)
  go_ret
  exact ⟨_, rfl, hb, rfl⟩
theorem mark_ (x : Int) : Hands 43 #[.int .i64 x] (.int .i64 (x % 2)) := by
  intro w
  go_enter Proofs.Try.func43, Proofs.Try.ntmps43
  go_wp2_with (go_at_call 118; refine (cut0' _ _).calls.mono ?_; rintro e w' ⟨_, rfl, hb, rfl⟩)
  go_ret
  exact ⟨_, rfl, hb, rfl⟩
theorem tag_ (x : Int) : Hands 45 #[.int .i64 x] (.int .i64 (x / 2097152 % 1099511627776)) := by
  intro w
  go_enter Proofs.Try.func45, Proofs.Try.ntmps45
  go_wp2_with (go_at_call 118; refine (cut2' _ _).calls.mono ?_; rintro e w' ⟨_, rfl, hb, rfl⟩)
  go_ret
  exact ⟨_, rfl, hb, rfl⟩
def rightB (x : Int) : Bool := x / 2305843009213693952 == 0
theorem right_ (x : Int) : Hands 39 #[.int .i64 x] (.bool (rightB x)) := by
  intro w
  go_enter Proofs.Try.func39, Proofs.Try.ntmps39
  go_wp2_with (go_at_call 117; refine (from3_ _).calls.mono ?_; rintro e w' ⟨_, rfl, hb, rfl⟩)
  go_ret
  exact ⟨_, rfl, hb, rfl⟩
def nextW (x i m : Int) : Int := word (x / 2097152 % 1099511627776 + 1) i m
theorem next_ (x i m : Int) : Hands 47 #[.int .i64 x, .int .i64 i, .int .i64 m] (.int .i64 (nextW x i m)) := by
  intro w
  go_enter Proofs.Try.func47, Proofs.Try.ntmps47
  go_wp2_with (go_at_call 45; refine (tag_ _ _).calls.mono ?_; rintro e w' ⟨_, rfl, hb, rfl⟩)
  go_wp2_with (go_at_call 116; refine (joined_ m i (x / 2097152 % 1099511627776 + 1) _ _ _ _ (by simp [go_sem]) (by simp [go_sem]) (by simp [go_sem])).calls.mono ?_; rintro e w'' ⟨_, rfl, hb2, rfl⟩)
  go_ret
  exact ⟨_, rfl, (hb.trans (Ext.alloc _ _)).trans hb2, rfl⟩
end Go.Proofs.Ytcfbdfgondmkoaa
/- Layer pack: Of, and the document's answers. -/
namespace Go.Proofs.Ytcfbdfgondmkoaa
open Go Go.RowKit

theorem bcell {W w1 : World} (hb : Ext W w1) : (∀ b o, b < W.heap.size → w1.cell? ⟨b, o, none⟩ = W.cell? ⟨b, o, none⟩) ∧ (∀ b o, b < W.heap.size → w1.frozen? ⟨b, o, none⟩ = W.frozen? ⟨b, o, none⟩) :=
  ⟨fun b o h => hb.cell (p := ⟨b, o, none⟩) h, fun b o h => hb.frozen (p := ⟨b, o, none⟩) h⟩

/-- what may be packed -/
def may (t i m : Int) : Prop := 0 ≤ t ∧ t < 1099511627776 ∧ 0 ≤ i ∧ i < 1048576 ∧ 0 ≤ m ∧ m ≤ 1
instance (t i m : Int) : Decidable (may t i m) := by unfold may; infer_instance
def two (x y : Int) : Value := .tuple #[.int .i64 x, .int .i64 y]
def ofV (t i m : Int) : Value := if may t i m then two (word t i m) 0 else two 0 1

theorem word_mark (t i m : Int) : word t i m % 2 = m % 2 := by unfold word; omega
theorem word_index (t i m : Int) : word t i m / 2 % 1048576 = i % 1048576 := by unfold word; omega
theorem word_tag (t i m : Int) : word t i m / 2097152 % 1099511627776 = t % 1099511627776 := by unfold word; omega

theorem of_ (t i m : Int) : Hands 37 #[.int .i64 t, .int .i64 i, .int .i64 m] (ofV t i m) := by
  intro w
  have hm := word_mark t i m
  have hi := word_index t i m
  have ht := word_tag t i m
  by_cases h1 : 0 ≤ m ∧ m ≤ 1
  · have e1 : (word t i m % 2 != m) = false := by rw [hm]; simp; omega
    by_cases h2 : 0 ≤ i ∧ i < 1048576
    · have e2 : (word t i m / 2 % 1048576 != i) = false := by rw [hi]; simp; omega
      by_cases h3 : 0 ≤ t ∧ t < 1099511627776
      · have e3 : (word t i m / 2097152 % 1099511627776 != t) = false := by rw [ht]; simp; omega
        have hv : ofV t i m = two (word t i m) 0 := if_pos ⟨h3.1, h3.2, h2.1, h2.2, h1.1, h1.2⟩
        rw [hv]
        clear hm hi ht hv h1 h2 h3
        have HJ := joined_ m i t
        generalize hwd : word t i m = wd at *
        clear hwd
        go_enter Proofs.Try.func37, Proofs.Try.ntmps37
        go_wp2_with (first | (go_at_call 116; refine (HJ _ _ _ _ (by simp [go_sem]) (by simp [go_sem]) (by simp [go_sem])).calls.mono ?_; rintro e w1 ⟨_, rfl, hb, rfl⟩) | (go_at_call 43; refine (mark_ _ _).calls.mono ?_; rintro e w2 ⟨_, rfl, hb2, rfl⟩) | (go_at_call 41; refine (index_ _ _).calls.mono ?_; rintro e w3 ⟨_, rfl, hb3, rfl⟩) | (go_at_call 45; refine (tag_ _ _).calls.mono ?_; rintro e w4 ⟨_, rfl, hb4, rfl⟩))
        go_ret2
        exact ⟨_, rfl, (((Ext.alloc _ _).trans hb).trans hb2).trans (hb3.trans hb4), rfl⟩
      · have e3 : (word t i m / 2097152 % 1099511627776 != t) = true := by rw [ht]; simp; omega
        have hv : ofV t i m = two 0 1 := if_neg (fun h => h3 ⟨h.1, h.2.1⟩)
        rw [hv]
        clear hm hi ht hv h1 h2 h3
        have HJ := joined_ m i t
        generalize hwd : word t i m = wd at *
        clear hwd
        go_enter Proofs.Try.func37, Proofs.Try.ntmps37
        go_wp2_with (first | (go_at_call 116; refine (HJ _ _ _ _ (by simp [go_sem]) (by simp [go_sem]) (by simp [go_sem])).calls.mono ?_; rintro e w1 ⟨_, rfl, hb, rfl⟩) | (go_at_call 43; refine (mark_ _ _).calls.mono ?_; rintro e w2 ⟨_, rfl, hb2, rfl⟩) | (go_at_call 41; refine (index_ _ _).calls.mono ?_; rintro e w3 ⟨_, rfl, hb3, rfl⟩) | (go_at_call 45; refine (tag_ _ _).calls.mono ?_; rintro e w4 ⟨_, rfl, hb4, rfl⟩))
        go_ret2
        exact ⟨_, rfl, (((Ext.alloc _ _).trans hb).trans hb2).trans (hb3.trans hb4), rfl⟩
    · have e2 : (word t i m / 2 % 1048576 != i) = true := by rw [hi]; simp; omega
      have hv : ofV t i m = two 0 1 := if_neg (fun h => h2 ⟨h.2.2.1, h.2.2.2.1⟩)
      rw [hv]
      clear hm hi ht hv h1 h2
      have HJ := joined_ m i t
      generalize hwd : word t i m = wd at *
      clear hwd
      go_enter Proofs.Try.func37, Proofs.Try.ntmps37
      go_wp2_with (first | (go_at_call 116; refine (HJ _ _ _ _ (by simp [go_sem]) (by simp [go_sem]) (by simp [go_sem])).calls.mono ?_; rintro e w1 ⟨_, rfl, hb, rfl⟩) | (go_at_call 43; refine (mark_ _ _).calls.mono ?_; rintro e w2 ⟨_, rfl, hb2, rfl⟩) | (go_at_call 41; refine (index_ _ _).calls.mono ?_; rintro e w3 ⟨_, rfl, hb3, rfl⟩) | (go_at_call 45; refine (tag_ _ _).calls.mono ?_; rintro e w4 ⟨_, rfl, hb4, rfl⟩))
      go_ret2
      exact ⟨_, rfl, (((Ext.alloc _ _).trans hb).trans hb2).trans hb3, rfl⟩
  · have e1 : (word t i m % 2 != m) = true := by rw [hm]; simp; omega
    have hv : ofV t i m = two 0 1 := if_neg (fun h => h1 ⟨h.2.2.2.2.1, h.2.2.2.2.2⟩)
    rw [hv]
    clear hm hi ht hv h1
    have HJ := joined_ m i t
    generalize hwd : word t i m = wd at *
    clear hwd
    go_enter Proofs.Try.func37, Proofs.Try.ntmps37
    go_wp2_with (first | (go_at_call 116; refine (HJ _ _ _ _ (by simp [go_sem]) (by simp [go_sem]) (by simp [go_sem])).calls.mono ?_; rintro e w1 ⟨_, rfl, hb, rfl⟩) | (go_at_call 43; refine (mark_ _ _).calls.mono ?_; rintro e w2 ⟨_, rfl, hb2, rfl⟩))
    go_ret2
    exact ⟨_, rfl, ((Ext.alloc _ _).trans hb).trans hb2, rfl⟩

theorem refOf_ (t i m : Int) : Hands 38 #[.int .i64 t, .int .i64 i, .int .i64 m] (ofV t i m) := by
  intro w
  by_cases h : may t i m
  · have hv : ofV t i m = two (word t i m) 0 := if_pos h
    rw [hv]
    obtain ⟨h1, h2, h3, h4, h5, h6⟩ := h
    have hwd : t * 2097152 + i * 2 + m = word t i m := by unfold word; omega
    have HW : Hid (t * 2097152 + i * 2 + m = word t i m) := Lib.hid hwd
    clear hwd hv
    go_enter Proofs.Try.func38, Proofs.Try.ntmps38
    go_wp2
    go_ret2
    exact ⟨_, rfl, Ext.refl _, by rw [← HW.out]; rfl⟩
  · have hv : ofV t i m = two 0 1 := if_neg h
    rw [hv]
    have h' : ¬ ((((((0 ≤ t ∧ t < 1099511627776) ∧ 0 ≤ i) ∧ i < 1048576) ∧ 0 ≤ m) ∧ m ≤ 1)) := fun ⟨⟨⟨⟨⟨a, b⟩, c⟩, d⟩, e⟩, f⟩ => h ⟨a, b, c, d, e, f⟩
    clear h hv
    go_enter Proofs.Try.func38, Proofs.Try.ntmps38
    go_wp2
    all_goals go_ret2
    all_goals exact ⟨_, rfl, Ext.refl _, rfl⟩

theorem mod_ (a b : Int) (hb : 0 < b) (hb2 : b ≤ 2305843009213693952) : Hands 119 #[.int .i64 a, .int .i64 b] (.int .i64 (a % b)) := by
  intro w
  obtain ⟨h1, h2, h3⟩ := tmod_cases a b hb
  by_cases h : a.tmod b < 0
  · have H := Lib.hid (show a % b = a.tmod b + b by rw [h3, if_pos h])
    clear h3
    go_enter Proofs.Try.func119, Proofs.Try.ntmps119
    go_wp2
    go_ret
    exact ⟨_, rfl, Ext.refl _, by rw [H.out]; rfl⟩
  · have H := Lib.hid (show a % b = a.tmod b by rw [h3, if_neg h])
    clear h3
    go_enter Proofs.Try.func119, Proofs.Try.ntmps119
    go_wp2
    go_ret
    exact ⟨_, rfl, Ext.refl _, by rw [H.out]; rfl⟩

theorem refIndex_ (x : Int) : Hands 42 #[.int .i64 x] (.int .i64 (x / 2 % 1048576)) := by
  intro w
  have H := Lib.hid (show x % 2097152 / 2 = x / 2 % 1048576 by omega)
  go_enter Proofs.Try.func42, Proofs.Try.ntmps42
  go_wp2_with (go_at_call 119; refine (mod_ _ _ (by decide) (by decide) _).calls.mono ?_; rintro e w' ⟨_, rfl, hb, rfl⟩)
  go_ret
  exact ⟨_, rfl, hb, by rw [← H.out]; rfl⟩
theorem refMark_ (x : Int) : Hands 44 #[.int .i64 x] (.int .i64 (x % 2)) := by
  intro w
  go_enter Proofs.Try.func44, Proofs.Try.ntmps44
  go_wp2_with (go_at_call 119; refine (mod_ _ _ (by decide) (by decide) _).calls.mono ?_; rintro e w' ⟨_, rfl, hb, rfl⟩)
  go_ret
  exact ⟨_, rfl, hb, rfl⟩
theorem refTag_ (x : Int) : Hands 46 #[.int .i64 x] (.int .i64 (x / 2097152 % 1099511627776)) := by
  intro w
  have H := Lib.hid (show x % 2305843009213693952 / 2097152 = x / 2097152 % 1099511627776 by omega)
  go_enter Proofs.Try.func46, Proofs.Try.ntmps46
  go_wp2_with (go_at_call 119; refine (mod_ _ _ (by decide) (by decide) _).calls.mono ?_; rintro e w' ⟨_, rfl, hb, rfl⟩)
  go_ret
  exact ⟨_, rfl, hb, by rw [← H.out]; rfl⟩
theorem refRight_ (x : Int) : Hands 40 #[.int .i64 x] (.bool (rightB x)) := by
  intro w
  have H := Lib.hid (show (decide (0 ≤ x) && decide (x < 2305843009213693952)) = rightB x by unfold rightB; rw [Bool.eq_iff_iff]; simp; omega)
  go_enter Proofs.Try.func40, Proofs.Try.ntmps40
  go_wp2
  all_goals go_ret
  all_goals exact ⟨_, rfl, Ext.refl _, congrArg Value.bool (by rw [← H.out]; simp [*]; try omega)⟩
theorem refNext_ (x i m : Int) : Hands 48 #[.int .i64 x, .int .i64 i, .int .i64 m] (.int .i64 (nextW x i m)) := by
  intro w
  go_enter Proofs.Try.func48, Proofs.Try.ntmps48
  go_wp2_with (first | (go_at_call 46; refine (refTag_ _ _).calls.mono ?_; rintro e w1 ⟨_, rfl, hb1, rfl⟩) | (go_at_call 119; refine (mod_ _ _ (by decide) (by decide) _).calls.mono ?_; rintro e w' ⟨_, rfl, hb, rfl⟩))
  go_ret
  exact ⟨_, rfl, by repeat (first | assumption | refine Ext.trans ?_ (by assumption)), congrArg (Value.int .i64) (by unfold nextW word; omega)⟩

/-- The document's example holds. -/
theorem shown1_ : Hands 36 #[] (.bool true) := by
  intro w
  have r1 : rightB 2097159 = true := by decide
  have r2 : rightB (-1) = false := by decide
  go_enter Proofs.Try.func36, Proofs.Try.ntmps36
  go_wp2_with (first | (go_at_call 37; refine (of_ _ _ _ _).calls.mono ?_; rintro e w1 ⟨_, rfl, hb1, rfl⟩; rw [show ofV 1 3 1 = .tuple #[.int .i64 2097159, .int .i64 0] by rfl]) | (go_at_call 47; refine (next_ _ _ _ _).calls.mono ?_; rintro e w2 ⟨_, rfl, hb2, rfl⟩; rw [show nextW 2097159 5 0 = 4194314 by rfl]) | (go_at_call 41; refine (index_ _ _).calls.mono ?_; rintro e w3 ⟨_, rfl, hb3, rfl⟩) | (go_at_call 43; refine (mark_ _ _).calls.mono ?_; rintro e w4 ⟨_, rfl, hb4, rfl⟩) | (go_at_call 45; refine (tag_ _ _).calls.mono ?_; rintro e w5 ⟨_, rfl, hb5, rfl⟩) | (go_at_call 39; refine (right_ _ _).calls.mono ?_; rintro e w6 ⟨_, rfl, hb6, rfl⟩))
  go_ret
  exact ⟨_, rfl, by repeat (first | assumption | refine Ext.trans ?_ (by assumption)), rfl⟩
end Go.Proofs.Ytcfbdfgondmkoaa
/- Slices of integers as lists, and arenas, in a world that grows. -/
namespace Go.Proofs.Ytcfbdfgondmkoaa
open Go Go.RowKit
set_option linter.unusedSimpArgs false
set_option linter.unusedVariables false

theorem Ext.drewN (w : World) : ∀ n, Ext w (w.drewN n)
  | 0 => Ext.refl _
  | n + 1 => (Ext.drewN w n).trans (Ext.drew _)
/-- all blocks of w but those of N are in w' as they were -/
def Keep (N : Nat → Prop) (w w' : World) : Prop := w.heap.size ≤ w'.heap.size ∧ ∀ b, b < w.heap.size → ¬ N b → w'.heap[b]? = w.heap[b]?
theorem Keep.refl (N : Nat → Prop) (w : World) : Keep N w w := ⟨Nat.le_refl _, fun _ _ _ => rfl⟩
theorem Keep.trans {N : Nat → Prop} {a b c : World} (h : Keep N a b) (k : Keep N b c) : Keep N a c := ⟨Nat.le_trans h.1 k.1, fun x hx hn => (k.2 x (Nat.lt_of_lt_of_le hx h.1) hn).trans (h.2 x hx hn)⟩
theorem Ext.keep {N : Nat → Prop} {w w' : World} (h : Ext w w') : Keep N w w' := ⟨h.size, fun b hb _ => h.block b hb⟩
theorem Keep.ext {N : Nat → Prop} {a b c : World} (h : Keep N a b) (k : Ext b c) : Keep N a c := h.trans k.keep
theorem Keep.alloc {N : Nat → Prop} {a b : World} (h : Keep N a b) (o : Obj) : Keep N a (b.alloc o) := h.ext (Ext.alloc _ _)
theorem Keep.drew {N : Nat → Prop} {a b : World} (h : Keep N a b) : Keep N a b.drew := h.ext (Ext.drew _)
theorem Keep.setCell {N : Nat → Prop} {a b : World} (h : Keep N a b) (p : Addr) (v : Value) (hp : a.heap.size ≤ p.block ∨ N p.block) : Keep N a (b.setCell p v) :=
  ⟨by simpa [World.setCell] using h.1, fun x hx hn => by
    have hne : p.block ≠ x := fun e => by
      subst e
      rcases hp with hp | hp
      · omega
      · exact hn hp
    rw [← h.2 x hx hn]
    simp [World.setCell, Array.getElem?_modify, hne]⟩
theorem Keep.put {N : Nat → Prop} {a b : World} (h : Keep N a b) (x : Nat) (o : Obj) (hp : a.heap.size ≤ x ∨ N x) : Keep N a (put b x o) :=
  ⟨by simpa [Ytcfbdfgondmkoaa.put] using h.1, fun k hk hn => by
    have hne : x ≠ k := fun e => by
      subst e
      rcases hp with hp | hp
      · omega
      · exact hn hp
    rw [put_other hne]
    exact h.2 k hk hn⟩
theorem Keep.less {N M : Nat → Prop} {a b : World} (h : Keep N a b) (hm : ∀ x, x < a.heap.size → N x → M x) : Keep M a b := ⟨h.1, fun x hx hn => h.2 x hx fun k => hn (hm x hx k)⟩
theorem Keep.cell {N : Nat → Prop} {w w' : World} (h : Keep N w w') {a : Addr} (hb : a.block < w.heap.size) (hn : ¬ N a.block) : w'.cell? a = w.cell? a := World.cell?_of_block (h.2 _ hb hn)

/-- element i -/
def gi (l : List Int) (i : Nat) : Int := l.getD i 0
theorem gi_eq (l : List Int) (i : Nat) (h : i < l.length) : l[i] = gi l i := by simp [gi, List.getD_eq_getElem?_getD, h]
theorem gi_get {l : List Int} {i : Nat} (h : i < l.length) : l[i]? = some (gi l i) := by rw [← gi_eq l i h]; exact List.getElem?_eq_getElem h
theorem gi_ext {a b : List Int} (hl : a.length = b.length) (h : ∀ i, i < a.length → gi a i = gi b i) : a = b := by
  apply List.ext_getElem hl
  intro i h1 h2
  rw [gi_eq, gi_eq]
  exact h i h1
theorem gi_ne {a b : List Int} {i : Nat} (h : gi a i ≠ gi b i) : (a == b) = false := by
  simp; intro e; exact h (by rw [e])
theorem gi_set (l : List Int) (i j : Nat) (v : Int) (h : i < l.length) : gi (l.set i v) j = if i = j then v else gi l j := by
  unfold gi
  rw [List.getD_eq_getElem?_getD, List.getD_eq_getElem?_getD, List.getElem?_set]
  split
  · subst_vars; simp [h]
  · rfl
theorem wrap_nat {n : Nat} (h : n ≤ 9223372036854775807) : IntKind.i64.wrap (n : Int) = n := by rw [IntKind.wrap_i64]; omega
/-- this slice shows the numbers l; its row lies in no block of N -/
def IsInts (N : Nat → Prop) (w : World) (v : Value) (l : List Int) : Prop :=
  ∃ a cap, v = .slice a l.length cap ∧ l.length ≤ cap ∧ cap ≤ 9223372036854775807 ∧ (a = none → cap = 0) ∧ ∀ i, i < l.length → ∃ b off, a = some ⟨b, off, none⟩ ∧ b < w.heap.size ∧ ¬ N b ∧ w.cell? ⟨b, off + i, none⟩ = some (.int .i64 (gi l i))
theorem IsInts.keep {N : Nat → Prop} {w w' : World} {v : Value} {l : List Int} (h : IsInts N w v l) (k : Keep N w w') : IsInts N w' v l := by
  obtain ⟨a, cap, rfl, h1, h2, h3, h4⟩ := h
  exact ⟨a, cap, rfl, h1, h2, h3, fun i hi => by
    obtain ⟨b, off, e, hb, hn, hc⟩ := h4 i hi
    exact ⟨b, off, e, Nat.lt_of_lt_of_le hb k.1, hn, (k.cell (a := ⟨b, off + i, none⟩) hb hn).trans hc⟩⟩
theorem IsInts.ext {N : Nat → Prop} {w w' : World} {v : Value} {l : List Int} (h : IsInts N w v l) (k : Ext w w') : IsInts N w' v l := h.keep k.keep
theorem IsInts.less {N M : Nat → Prop} {w : World} {v : Value} {l : List Int} (h : IsInts N w v l) (hm : ∀ x, x < w.heap.size → M x → N x) : IsInts M w v l := by
  obtain ⟨a, cap, rfl, h1, h2, h3, h4⟩ := h
  exact ⟨a, cap, rfl, h1, h2, h3, fun i hi => by
    obtain ⟨b, off, e, hb, hn, hc⟩ := h4 i hi
    exact ⟨b, off, e, hb, fun k => hn (hm b hb k), hc⟩⟩
/-- as the walk wants it: address, length, cells -/
theorem IsInts.opened {N : Nat → Prop} {w : World} {v : Value} {l : List Int} (h : IsInts N w v l) : ∃ a cap, v = .slice a l.length cap ∧ l.length ≤ cap ∧ l.length ≤ 9223372036854775807 ∧ ∀ i, i < l.length → ∃ b off, a = some ⟨b, off, none⟩ ∧ b < w.heap.size ∧ ¬ N b ∧ w.cell? ⟨b, off + i, none⟩ = some (.int .i64 (gi l i)) := by
  obtain ⟨a, cap, rfl, h1, h2, h3, h4⟩ := h
  exact ⟨a, cap, rfl, h1, by omega, h4⟩

theorem exq {a b : World} (h : Ext a b := by with_reducible (repeat (first | assumption | exact Ext.refl _ | refine Ext.alloc' ?_ _ | refine Ext.store0 ?_ _ _ | refine Ext.storek ?_ _ _ _ | refine Ext.stores0 ?_ ?_ _ _ | refine Ext.storesk ?_ ?_ _ _ _ | refine Ext.drewN' ?_ _ | refine Ext.drew' ?_ | refine Ext.trans ?_ (by assumption)))) : Ext a b := h
theorem exn {a b : World} (h : Ext a b := by with_reducible (repeat (first | assumption | exact Ext.refl _ | refine Ext.alloc' ?_ _ | refine Ext.store0 ?_ _ _ | refine Ext.storek ?_ _ _ _ | refine Ext.storen ?_ (by omega) | refine Ext.stores0 ?_ ?_ _ _ | refine Ext.storesk ?_ ?_ _ _ _ | refine Ext.drewN' ?_ _ | refine Ext.drew' ?_ | refine Ext.trans ?_ (by assumption)))) : Ext a b := h
theorem keq {N : Nat → Prop} {a b : World} (h : Keep N a b := by with_reducible (repeat (first | assumption | exact Keep.refl _ _ | refine Keep.alloc ?_ _ | refine Keep.s ?_ (by first | assumption | exact Bx.mem (by omega) (by omega) | exact Up.mem (by omega)) | refine Keep.n ?_ (by omega) | refine Keep.ext ?_ (by assumption) | refine Keep.trans ?_ (by assumption) | refine Keep.drew ?_))) : Keep N a b := h
end Go.Proofs.Ytcfbdfgondmkoaa
/- Rows of integers compared, searched, counted. -/
namespace Go.Proofs.Ytcfbdfgondmkoaa
open Go Go.RowKit
set_option linter.unusedSimpArgs false
set_option linter.unusedVariables false
theorem equal_ (N : Nat → Prop) (va vb : Value) (a b : List Int) (w : World) (ha : IsInts N w va a) (hb : IsInts N w vb b) : Gives Proofs.Try.prog 122 #[va, vb] w (eqv (.bool (a == b))) := by
  obtain ⟨pa, ca, rfl, ra, la, ca0⟩ := ha.opened
  obtain ⟨pb, cb, rfl, rb, lb, cb0⟩ := hb.opened
  by_cases hl : a.length = b.length
  · have hl1 : ((a.length : Int) != (b.length : Int)) = false := by simp [hl]
    go_enter Proofs.Try.func122, Proofs.Try.ntmps122
    go_wp2
    go_loopw [13] (fun kk wr => ∃ k : Nat, k ≤ a.length ∧ kk = .int .i64 k ∧ (∀ i, i < k → gi a i = gi b i) ∧ Ext w wr) (fun kk _ => a.length - (intOf kk).toNat)
    case atStart => exact ⟨0, Nat.zero_le _, rfl, fun i hi => by omega, Ext.refl _⟩
    case round =>
      obtain ⟨k, hk, rfl, hall, hE⟩ := hrel
      by_cases hlt : k < a.length
      · have hlt1 : (k : Int) < (b.length : Int) := by omega
        obtain ⟨ba, oa, rfl, xa, na, ea⟩ := ca0 k hlt
        obtain ⟨bb, ob, rfl, xb, nb, eb⟩ := cb0 k (by omega)
        have ea' := cell_ext ea hE
        have eb' := cell_ext eb hE
        by_cases heq : gi a k = gi b k
        · have heq1 : (gi a k != gi b k) = false := by simp [heq]
          go_wp2
          go_quiet (fail)
          go_wp2
          go_roundw
          case rel => exact ⟨k + 1, by omega, by simp, fun i hi => (Nat.lt_succ_iff_lt_or_eq.1 hi).elim (hall i) (fun h => h ▸ heq), (by repeat (first | assumption | exact Ext.refl _ | refine Ext.trans ?_ (Ext.alloc _ _) | refine Ext.trans ?_ (Ext.drewN _ _) | refine Ext.trans ?_ (Ext.drew _) | refine Ext.trans ?_ (by assumption)))⟩
          case measure => simp [intOf]; omega
        · have heq1 : (gi a k != gi b k) = true := by simpa using heq
          go_wp2
          go_quiet (fail)
          go_wp2
          go_ret
          exact ⟨_, rfl, (by repeat (first | assumption | exact Ext.refl _ | refine Ext.trans ?_ (Ext.alloc _ _) | refine Ext.trans ?_ (Ext.drewN _ _) | refine Ext.trans ?_ (Ext.drew _) | refine Ext.trans ?_ (by assumption))), by rw [gi_ne heq]; rfl⟩
      · have hlt1 : ¬ (k : Int) < (b.length : Int) := by omega
        have hab : a = b := gi_ext hl fun i hi => hall i (by omega)
        go_wp2
        go_ret
        exact ⟨_, rfl, hE, by simp [hab, eqv]⟩
  · have hl1 : ((a.length : Int) != (b.length : Int)) = true := by simp; omega
    have hne : (a == b) = false := by simp; intro h; exact hl (by rw [h])
    go_enter Proofs.Try.func122, Proofs.Try.ntmps122
    go_wp2
    go_ret
    exact ⟨_, rfl, Ext.refl _, by rw [hne]; rfl⟩
theorem refInts_ (N : Nat → Prop) (va vb : Value) (a b : List Int) (w : World) (ha : IsInts N w va a) (hb : IsInts N w vb b) : Gives Proofs.Try.prog 72 #[va, vb] w (eqv (.bool (a == b))) := by
  obtain ⟨pa, ca, rfl, ra, la, ca0⟩ := ha.opened
  obtain ⟨pb, cb, rfl, rb, lb, cb0⟩ := hb.opened
  by_cases hl : a.length = b.length
  · have hl1 : ((a.length : Int) != (b.length : Int)) = false := by simp [hl]
    go_enter Proofs.Try.func72, Proofs.Try.ntmps72
    go_wp2
    go_loopw [5] (fun kk wr => ∃ k : Nat, k ≤ a.length ∧ kk = .int .i64 k ∧ (∀ i, i < k → gi a i = gi b i) ∧ Ext w wr) (fun kk _ => a.length - (intOf kk).toNat)
    case atStart => exact ⟨0, Nat.zero_le _, rfl, fun i hi => by omega, Ext.refl _⟩
    case round =>
      obtain ⟨k, hk, rfl, hall, hE⟩ := hrel
      by_cases hlt : k < a.length
      · have hlt1 : (k : Int) < (b.length : Int) := by omega
        obtain ⟨ba, oa, rfl, xa, na, ea⟩ := ca0 k hlt
        obtain ⟨bb, ob, rfl, xb, nb, eb⟩ := cb0 k (by omega)
        have ea' := cell_ext ea hE
        have eb' := cell_ext eb hE
        by_cases heq : gi a k = gi b k
        · have heq1 : (gi a k != gi b k) = false := by simp [heq]
          go_wp2
          go_quiet (fail)
          go_wp2
          go_roundw
          case rel => exact ⟨k + 1, by omega, by simp, fun i hi => (Nat.lt_succ_iff_lt_or_eq.1 hi).elim (hall i) (fun h => h ▸ heq), (by repeat (first | assumption | exact Ext.refl _ | refine Ext.trans ?_ (Ext.alloc _ _) | refine Ext.trans ?_ (Ext.drewN _ _) | refine Ext.trans ?_ (Ext.drew _) | refine Ext.trans ?_ (by assumption)))⟩
          case measure => simp [intOf]; omega
        · have heq1 : (gi a k != gi b k) = true := by simpa using heq
          go_wp2
          go_quiet (fail)
          go_wp2
          go_ret
          exact ⟨_, rfl, (by repeat (first | assumption | exact Ext.refl _ | refine Ext.trans ?_ (Ext.alloc _ _) | refine Ext.trans ?_ (Ext.drewN _ _) | refine Ext.trans ?_ (Ext.drew _) | refine Ext.trans ?_ (by assumption))), by rw [gi_ne heq]; rfl⟩
      · have hlt1 : ¬ (k : Int) < (b.length : Int) := by omega
        have hab : a = b := gi_ext hl fun i hi => hall i (by omega)
        go_wp2
        go_ret
        exact ⟨_, rfl, hE, by simp [hab, eqv]⟩
  · have hl1 : ((a.length : Int) != (b.length : Int)) = true := by simp; omega
    have hne : (a == b) = false := by simp; intro h; exact hl (by rw [h])
    go_enter Proofs.Try.func72, Proofs.Try.ntmps72
    go_wp2
    go_ret
    exact ⟨_, rfl, Ext.refl _, by rw [hne]; rfl⟩

end Go.Proofs.Ytcfbdfgondmkoaa
/- Arenas: what their plain questions answer. -/
namespace Go.Proofs.Ytcfbdfgondmkoaa
open Go Go.RowKit
set_option linter.unusedSimpArgs false
set_option linter.unusedVariables false

structure Arena where
  W : List Int
  G : List Int
  bad : Bool

def IsMem (N : Nat → Prop) (w : World) (v : Value) (m : Arena) : Prop := ∃ vw vg, v = .agg #[vw, vg, .bool m.bad] ∧ IsInts N w vw m.W ∧ IsInts N w vg m.G
theorem IsMem.keep {N : Nat → Prop} {w w' : World} {v : Value} {m : Arena} (h : IsMem N w v m) (k : Keep N w w') : IsMem N w' v m := by
  obtain ⟨vw, vg, h0, h1, h2⟩ := h
  exact ⟨vw, vg, h0, h1.keep k, h2.keep k⟩
theorem IsMem.ext {N : Nat → Prop} {w w' : World} {v : Value} {m : Arena} (h : IsMem N w v m) (k : Ext w w') : IsMem N w' v m := h.keep k.keep
theorem IsMem.less {N M : Nat → Prop} {w : World} {v : Value} {m : Arena} (h : IsMem N w v m) (hm : ∀ x, x < w.heap.size → M x → N x) : IsMem M w v m := by
  obtain ⟨vw, vg, h0, h1, h2⟩ := h
  exact ⟨vw, vg, h0, h1.less hm, h2.less hm⟩

/-- whose a place is -/
def nodeD (len : Nat) (at_ : Int) : Int := if at_ < 128 ∨ (len : Int) ≤ at_ ∨ (at_ - 128) % 4 = 0 then 0 else (at_ - 128) / 4 + 1

theorem node_ (N : Nat → Prop) (v : Value) (m : Arena) (x : Int) (w : World) (h : IsMem N w v m) (hx0 : -9223372036854775808 ≤ x) (hx1 : x ≤ 9223372036854775807) : Gives Proofs.Try.prog 59 #[v, .int .i64 x] w (eqv (.int .i64 (nodeD m.W.length x))) := by
  obtain ⟨vw, vg, rfl, hw, hg⟩ := h
  obtain ⟨aw, cw, rfl, rw_, lw, cwc⟩ := hw.opened
  by_cases h1 : x < 128
  · have e : nodeD m.W.length x = 0 := by unfold nodeD; rw [if_pos (.inl h1)]
    go_enter Proofs.Try.func59, Proofs.Try.ntmps59
    go_wp2
    go_ret
    exact ⟨_, rfl, (by repeat (first | assumption | exact Ext.refl _ | refine Ext.trans ?_ (Ext.alloc _ _) | refine Ext.trans ?_ (Ext.drewN _ _) | refine Ext.trans ?_ (Ext.drew _) | refine Ext.trans ?_ (by assumption))), by first | rfl | (rw [e]; rfl)⟩
  · by_cases h2 : (m.W.length : Int) ≤ x
    · have e : nodeD m.W.length x = 0 := by unfold nodeD; rw [if_pos (.inr (.inl h2))]
      go_enter Proofs.Try.func59, Proofs.Try.ntmps59
      go_wp2
      go_ret
      exact ⟨_, rfl, (by repeat (first | assumption | exact Ext.refl _ | refine Ext.trans ?_ (Ext.alloc _ _) | refine Ext.trans ?_ (Ext.drewN _ _) | refine Ext.trans ?_ (Ext.drew _) | refine Ext.trans ?_ (by assumption))), by first | rfl | (rw [e]; rfl)⟩
    · have tm : (x - 128).tmod 4 = (x - 128) % 4 := Int.tmod_eq_emod_of_nonneg (by omega)
      have td : (x - 128).tdiv 4 = (x - 128) / 4 := Int.tdiv_eq_ediv_of_nonneg (by omega)
      by_cases h3 : (x - 128) % 4 = 0
      · have e : nodeD m.W.length x = 0 := by unfold nodeD; rw [if_pos (.inr (.inr h3))]
        have h3' : ((x - 128) % 4 == 0) = true := by simp [h3]
        go_enter Proofs.Try.func59, Proofs.Try.ntmps59
        go_wp2
        go_ret
        exact ⟨_, rfl, (by repeat (first | assumption | exact Ext.refl _ | refine Ext.trans ?_ (Ext.alloc _ _) | refine Ext.trans ?_ (Ext.drewN _ _) | refine Ext.trans ?_ (Ext.drew _) | refine Ext.trans ?_ (by assumption))), by first | rfl | (rw [e]; rfl)⟩
      · have e : nodeD m.W.length x = (x - 128) / 4 + 1 := by unfold nodeD; rw [if_neg (by omega)]
        have h3' : ((x - 128) % 4 == 0) = false := by simp [h3]
        go_enter Proofs.Try.func59, Proofs.Try.ntmps59
        go_wp2
        go_ret
        exact ⟨_, rfl, (by repeat (first | assumption | exact Ext.refl _ | refine Ext.trans ?_ (Ext.alloc _ _) | refine Ext.trans ?_ (Ext.drewN _ _) | refine Ext.trans ?_ (Ext.drew _) | refine Ext.trans ?_ (by assumption))), by first | rfl | (rw [e]; rfl)⟩
end Go.Proofs.Ytcfbdfgondmkoaa
/- == and != of arrays of whole numbers. -/
namespace Go.Proofs.Ytcfbdfgondmkoaa
open Go Go.RowKit

/-- whole numbers as cells -/
def ints (xs : List Int) : List Value := xs.map (Value.int .i64)
theorem ints_get (xs : List Int) (i : Nat) : (ints xs)[i]? = (xs[i]?).map (Value.int .i64) := by simp [ints]

section
variable {P : Program} (w : World)
theorem run_part1 {e : TypeId} {d : TypeDesc} (he : P.underlying e = some d) (hd : (match d with | .struct _ | .array _ _ => true | _ => false) = false) (cs : Array Value) (i : Nat) (c : Value) (hc : cs[i]? = some c) : (part e cs i).run P w = .ok c w := by
  have hagg : (isAgg e).run P w = .ok false w := by
    unfold isAgg
    rw [Sem.run_bind, run_underlying he w]
    cases d <;> simp_all
  simp [part, hagg, hc]

theorem run_eqItems_ints {e : TypeId} (he : P.underlying e = some (.int .i64)) (d : Nat) (xs ys : List Int) (h : xs.length = ys.length) : ∀ (k : Nat), k ≤ xs.length →
    (Op.eqItems (d + 1) e 1 (ints xs).toArray (ints ys).toArray (List.range' (xs.length - k) k)).run P w = .ok (decide (xs.drop (xs.length - k) = ys.drop (xs.length - k))) w
  | 0, _ => by simp [Op.eqItems, ← h]
  | k + 1, hk => by
    have hlt : xs.length - (k + 1) < xs.length := by omega
    have e1 : xs.length - (k + 1) + 1 = xs.length - k := by omega
    have px : (part e (ints xs).toArray (xs.length - (k + 1))).run P w = .ok (.int .i64 xs[xs.length - (k + 1)]) w := run_part1 w he rfl _ _ _ (by simp [ints, hlt])
    have py : (part e (ints ys).toArray (xs.length - (k + 1))).run P w = .ok (.int .i64 (ys[xs.length - (k + 1)]'(by omega))) w := run_part1 w he rfl _ _ _ (by simp [ints, show xs.length - (k + 1) < ys.length by omega])
    have ih := run_eqItems_ints he d xs ys h k (by omega)
    rw [List.range'_succ]
    simp only [Op.eqItems, Sem.run_bind, Nat.mul_one, px, py, Result.andThen_ok, run_equalIn_int w d e .i64 .i64 _ _ he, e1]
    have dx : xs.drop (xs.length - (k + 1)) = xs[xs.length - (k + 1)] :: xs.drop (xs.length - k) := by rw [← e1]; exact List.drop_eq_getElem_cons hlt
    have dy : ys.drop (xs.length - (k + 1)) = ys[xs.length - (k + 1)]'(by omega) :: ys.drop (xs.length - k) := by rw [← e1]; exact List.drop_eq_getElem_cons (by omega)
    rw [dx, dy]
    by_cases hxy : xs[xs.length - (k + 1)] = ys[xs.length - (k + 1)]'(by omega)
    · simp [hxy, ih]
    · simp [hxy]

theorem run_equalIn_ints {t e : TypeId} (he : P.underlying e = some (.int .i64)) (d : Nat) (xs ys : List Int) (h : xs.length = ys.length) (ht : P.underlying t = some (.array xs.length e)) (hz : (P.info? e).map (·.size) = some 1) :
    (Op.equalIn (d + 2) t (.agg (ints xs).toArray) (.agg (ints ys).toArray)).run P w = .ok (decide (xs = ys)) w := by
  cases hi : P.info? e with
  | none => rw [hi] at hz; cases hz
  | some i =>
    rw [hi] at hz
    have hs : P.cellsOf e = 1 := by simp [Program.cellsOf, hi]; simpa using hz
    rw [run_equalIn_array w (d + 1) _ _ ht hi, hs]
    have := run_eqItems_ints w he d xs ys h xs.length (Nat.le_refl _)
    simpa [List.range_eq_range'] using this

theorem run_eql_ints {t e : TypeId} (he : P.underlying e = some (.int .i64)) (xs ys : List Int) (h : xs.length = ys.length) (ht : P.underlying t = some (.array xs.length e)) (hz : (P.info? e).map (·.size) = some 1) :
    (binOp .eql t (.agg (ints xs).toArray) (.agg (ints ys).toArray)).run P w = .ok (.bool (decide (xs = ys))) w := by
  have := run_equalIn_ints w he 9998 xs ys h ht hz
  simp only [binOp]
  simp [Op.equal, Op.maxDepth, this]
theorem run_neq_ints {t e : TypeId} (he : P.underlying e = some (.int .i64)) (xs ys : List Int) (h : xs.length = ys.length) (ht : P.underlying t = some (.array xs.length e)) (hz : (P.info? e).map (·.size) = some 1) :
    (binOp .neq t (.agg (ints xs).toArray) (.agg (ints ys).toArray)).run P w = .ok (.bool (!decide (xs = ys))) w := by
  have := run_equalIn_ints w he 9998 xs ys h ht hz
  simp only [binOp]
  simp [Op.equal, Op.maxDepth, this]
theorem eqGuard_agg {op : BinOp} {t : TypeId} {x y : Operand} {xs ys : Array Value} (hm : P.eqGuardType P.depth t = false) : (eqGuard op t x y (.agg xs) (.agg ys)).run P w = .ok () w := run_eqGuard_agg w op t x y xs ys hm
end
end Go.Proofs.Ytcfbdfgondmkoaa
/- Arenas: places, counts, what may be turned. -/
namespace Go.Proofs.Ytcfbdfgondmkoaa
open Go Go.RowKit
set_option linter.unusedSimpArgs false
set_option linter.unusedVariables false

theorem atF_ (n k : Int) (w : World) (h0 : -1000000000000 ≤ n) (h1 : n ≤ 1000000000000) (h2 : -1000000000000 ≤ k) (h3 : k ≤ 1000000000000) : Gives Proofs.Try.prog 57 #[.int .i64 n, .int .i64 k] w (eqv (.int .i64 (128 + 4 * (n - 1) + k))) := by
  go_enter Proofs.Try.func57, Proofs.Try.ntmps57
  go_wp2
  go_ret
  exact ⟨_, rfl, (by repeat (first | assumption | exact Ext.refl _ | refine Ext.trans ?_ (Ext.alloc _ _) | refine Ext.trans ?_ (Ext.drewN _ _) | refine Ext.trans ?_ (Ext.drew _) | refine Ext.trans ?_ (by assumption))), rfl⟩
theorem refAt_ (n k : Int) (w : World) (h0 : -1000000000000 ≤ n) (h1 : n ≤ 1000000000000) (h2 : -1000000000000 ≤ k) (h3 : k ≤ 1000000000000) : Gives Proofs.Try.prog 58 #[.int .i64 n, .int .i64 k] w (eqv (.int .i64 (128 + 4 * (n - 1) + k))) := by
  go_enter Proofs.Try.func58, Proofs.Try.ntmps58
  go_wp2
  go_ret
  exact ⟨_, rfl, (by repeat (first | assumption | exact Ext.refl _ | refine Ext.trans ?_ (Ext.alloc _ _) | refine Ext.trans ?_ (Ext.drewN _ _) | refine Ext.trans ?_ (Ext.drew _) | refine Ext.trans ?_ (by assumption))), rfl⟩

/-- are two pairs the same? -/
def pairEq (a b c d : Int) : Bool := decide (a = c ∧ b = d)
@[go_sem] theorem run_pair (a b c d : Int) (w : World) : (Op.equalIn 10000 75 (.agg #[.int .i64 a, .int .i64 b]) (.agg #[.int .i64 c, .int .i64 d])).run Proofs.Try.prog w = .ok (pairEq a b c d) w := by
  have := run_equalIn_ints (P := Proofs.Try.prog) w Proofs.Try.underlying3 9998 [a, b] [c, d] rfl Proofs.Try.underlying75 (by kernel_rfl)
  simpa [ints, pairEq] using this
/-- may a node be made something else? -/
def turnD (f t : Int) : Bool := pairEq f t 0 1 || pairEq f t 1 2 || pairEq f t 1 0 || pairEq f t 2 0
set_option maxRecDepth 100000 in
theorem turns_ (f t : Int) (w : World) : Gives Proofs.Try.prog 126 #[.int .i64 f, .int .i64 t] w (eqv (.bool (turnD f t))) := by
  cases h1 : pairEq f t 0 1
  · cases h2 : pairEq f t 1 2
    · cases h3 : pairEq f t 1 0
      · cases h4 : pairEq f t 2 0
        · go_enter Proofs.Try.func126, Proofs.Try.ntmps126
          go_wp2
          go_ret
          exact ⟨_, rfl, (by repeat (first | assumption | exact Ext.refl _ | refine Ext.trans ?_ (Ext.alloc _ _) | refine Ext.trans ?_ (Ext.drewN _ _) | refine Ext.trans ?_ (Ext.drew _) | refine Ext.trans ?_ (by assumption))), by simp [turnD, h1, h2, h3, h4, eqv]⟩
        · go_enter Proofs.Try.func126, Proofs.Try.ntmps126
          go_wp2
          go_ret
          exact ⟨_, rfl, (by repeat (first | assumption | exact Ext.refl _ | refine Ext.trans ?_ (Ext.alloc _ _) | refine Ext.trans ?_ (Ext.drewN _ _) | refine Ext.trans ?_ (Ext.drew _) | refine Ext.trans ?_ (by assumption))), by simp [turnD, h1, h2, h3, h4, eqv]⟩
      · go_enter Proofs.Try.func126, Proofs.Try.ntmps126
        go_wp2
        go_ret
        exact ⟨_, rfl, (by repeat (first | assumption | exact Ext.refl _ | refine Ext.trans ?_ (Ext.alloc _ _) | refine Ext.trans ?_ (Ext.drewN _ _) | refine Ext.trans ?_ (Ext.drew _) | refine Ext.trans ?_ (by assumption))), by simp [turnD, h1, h2, h3, eqv]⟩
    · go_enter Proofs.Try.func126, Proofs.Try.ntmps126
      go_wp2
      go_ret
      exact ⟨_, rfl, (by repeat (first | assumption | exact Ext.refl _ | refine Ext.trans ?_ (Ext.alloc _ _) | refine Ext.trans ?_ (Ext.drewN _ _) | refine Ext.trans ?_ (Ext.drew _) | refine Ext.trans ?_ (by assumption))), by simp [turnD, h1, h2, eqv]⟩
  · go_enter Proofs.Try.func126, Proofs.Try.ntmps126
    go_wp2
    go_ret
    exact ⟨_, rfl, (by repeat (first | assumption | exact Ext.refl _ | refine Ext.trans ?_ (Ext.alloc _ _) | refine Ext.trans ?_ (Ext.drewN _ _) | refine Ext.trans ?_ (Ext.drew _) | refine Ext.trans ?_ (by assumption))), by simp [turnD, h1, eqv]⟩
/-- how many from k on are x -/
def countD (G : List Int) (k : Nat) (x : Int) : Nat := (G.drop k).count x
theorem count_end {G : List Int} {k : Nat} (h : G.length ≤ k) (x : Int) : countD G k x = 0 := by unfold countD; rw [List.drop_eq_nil_of_le h]; simp
theorem count_at {G : List Int} {k : Nat} (h : k < G.length) (x : Int) : countD G k x = (if gi G k = x then 1 else 0) + countD G (k + 1) x := by
  unfold countD
  rw [List.drop_eq_getElem_cons h, gi_eq _ _ h, List.count_cons]
  by_cases e : gi G k = x <;> simp [e]
  omega
theorem count_ (N : Nat → Prop) (v : Value) (m : Arena) (x : Int) (w : World) (h : IsMem N w v m) (hG : 1 ≤ m.G.length) : Gives Proofs.Try.prog 61 #[v, .int .i64 x] w (eqv (.int .i64 (countD m.G 1 x : Nat))) := by
  obtain ⟨vw, vg, rfl, hw, hg⟩ := h
  obtain ⟨aw, cw, rfl, rw_, lw, cwc⟩ := hg.opened
  by_cases h1 : m.G.length = 1
  · have e : countD m.G 1 x = 0 := count_end (by omega) x
    go_enter Proofs.Try.func61, Proofs.Try.ntmps61
    go_wp2
    all_goals
      refine wp_loop_rounds 1 ?_
      rw [rounds_succ]
      go_wp2
      go_ret
      exact ⟨_, rfl, (by repeat (first | assumption | exact Ext.refl _ | refine Ext.trans ?_ (Ext.alloc _ _) | refine Ext.trans ?_ (Ext.drewN _ _) | refine Ext.trans ?_ (Ext.drew _) | refine Ext.trans ?_ (by assumption))), by first | rfl | (rw [e]; rfl)⟩
  · have h2 : ¬ cw = 1 := by omega
    obtain ⟨ba, oa, rfl, xa, na, _⟩ := cwc 1 (by omega)
    obtain ⟨g, hg'⟩ : ∃ g, g + 1 = m.G.length := ⟨m.G.length - 1, by omega⟩
    have hs : m.G.length - 1 = g := by omega
    go_enter Proofs.Try.func61, Proofs.Try.ntmps61
    go_wp2
    go_loopw [5, 12] (fun nn kk wr => ∃ k n : Nat, k ≤ g ∧ kk = .int .i64 k ∧ nn = .int .i64 n ∧ n + countD m.G (k + 1) x = countD m.G 1 x ∧ n ≤ k ∧ Ext w wr) (fun _ kk _ => g - (intOf kk).toNat)
    case atStart => exact ⟨0, 0, Nat.zero_le _, rfl, rfl, Nat.zero_add _, Nat.le_refl _, (by repeat (first | assumption | exact Ext.refl _ | refine Ext.trans ?_ (Ext.alloc _ _) | refine Ext.trans ?_ (Ext.drewN _ _) | refine Ext.trans ?_ (Ext.drew _) | refine Ext.trans ?_ (by assumption)))⟩
    case round =>
      obtain ⟨k, n, hk, rfl, rfl, hn, hnk, hE⟩ := hrel
      by_cases hlt : k < g
      · have hlt1 : (k : Int) < (g : Int) := by omega
        obtain ⟨b', o', e0, xb, nb, eb⟩ := cwc (k + 1) (by omega)
        simp only [Option.some.injEq, Addr.mk.injEq, and_true] at e0
        obtain ⟨rfl, rfl⟩ := e0
        have eb' : wr.cell? ⟨ba, oa + 1 + k, none⟩ = some (.int .i64 (gi m.G (k + 1))) := by
          rw [show oa + 1 + k = oa + (k + 1) by omega]; exact cell_ext eb hE
        have hc := count_at (G := m.G) (k := k + 1) (by omega) x
        by_cases heq : gi m.G (k + 1) = x
        · rw [if_pos heq] at hc
          have heq1 : (gi m.G (k + 1) == x) = true := by simp [heq]
          go_wp2
          go_roundw
          case rel => exact ⟨k + 1, n + 1, by omega, by simp, by simp, by omega, by omega, (by repeat (first | assumption | exact Ext.refl _ | refine Ext.trans ?_ (Ext.alloc _ _) | refine Ext.trans ?_ (Ext.drewN _ _) | refine Ext.trans ?_ (Ext.drew _) | refine Ext.trans ?_ (by assumption)))⟩
          case measure => simp [intOf]; omega
        · rw [if_neg heq] at hc
          have heq1 : (gi m.G (k + 1) == x) = false := by simp [heq]
          go_wp2
          go_roundw
          case rel => exact ⟨k + 1, n, by omega, by simp, by simp, by omega, by omega, (by repeat (first | assumption | exact Ext.refl _ | refine Ext.trans ?_ (Ext.alloc _ _) | refine Ext.trans ?_ (Ext.drewN _ _) | refine Ext.trans ?_ (Ext.drew _) | refine Ext.trans ?_ (by assumption)))⟩
          case measure => simp [intOf]; omega
      · have hlt1 : ¬ (k : Int) < (g : Int) := by omega
        rw [count_end (show m.G.length ≤ k + 1 by omega)] at hn
        have hn' : countD m.G 1 x = n := by omega
        go_wp2
        go_ret
        exact ⟨_, rfl, (by repeat (first | assumption | exact Ext.refl _ | refine Ext.trans ?_ (Ext.alloc _ _) | refine Ext.trans ?_ (Ext.drewN _ _) | refine Ext.trans ?_ (Ext.drew _) | refine Ext.trans ?_ (by assumption))), by first | rfl | (rw [hn']; rfl)⟩
end Go.Proofs.Ytcfbdfgondmkoaa
/- Arenas: are two the same; is one right. -/
namespace Go.Proofs.Ytcfbdfgondmkoaa
open Go Go.RowKit
set_option linter.unusedSimpArgs false
set_option linter.unusedVariables false

def sameD (a b : Arena) : Bool := (a.bad == b.bad) && ((a.W == b.W) && (a.G == b.G))
theorem memSame_ (N : Nat → Prop) (va vb : Value) (a b : Arena) (w : World) (ha : IsMem N w va a) (hb : IsMem N w vb b) : Gives Proofs.Try.prog 56 #[va, vb] w (eqv (.bool (sameD a b))) := by
  obtain ⟨xw, xg, rfl, hxw, hxg⟩ := ha
  obtain ⟨yw, yg, rfl, hyw, hyg⟩ := hb
  have kw := fun (w' : World) (h : Ext w w') => equal_ N xw yw a.W b.W w' (hxw.ext h) (hyw.ext h)
  have kg := fun (w' : World) (h : Ext w w') => equal_ N xg yg a.G b.G w' (hxg.ext h) (hyg.ext h)
  cases h1 : (a.bad == b.bad)
  · go_enter Proofs.Try.func56, Proofs.Try.ntmps56
    go_wp2
    go_ret
    exact ⟨_, rfl, (by repeat (first | assumption | exact Ext.refl _ | refine Ext.trans ?_ (Ext.alloc _ _) | refine Ext.trans ?_ (Ext.drewN _ _) | refine Ext.trans ?_ (Ext.drew _) | refine Ext.trans ?_ (by assumption))), by simp [sameD, h1, eqv]⟩
  · cases h2 : (a.W == b.W)
    · rw [h2] at kw
      go_enter Proofs.Try.func56, Proofs.Try.ntmps56
      go_wp2_with (fail)
      go_at_call 122; refine (kw _ (by repeat (first | assumption | exact Ext.refl _ | refine Ext.trans ?_ (Ext.alloc _ _) | refine Ext.trans ?_ (Ext.drewN _ _) | refine Ext.trans ?_ (Ext.drew _) | refine Ext.trans ?_ (by assumption)))).calls.mono ?_; rintro e w1 ⟨_, rfl, hb1, rfl⟩; obtain ⟨q1, f1⟩ := bcell hb1; have z1_0 : w.heap.size < w1.heap.size := (by have := hb1.size; first | omega | (simp at this; omega)); have z1_1 : w.heap.size + 1 < w1.heap.size := (by have := hb1.size; first | omega | (simp at this; omega))
      go_wp2
      go_ret
      exact ⟨_, rfl, (by repeat (first | assumption | exact Ext.refl _ | refine Ext.trans ?_ (Ext.alloc _ _) | refine Ext.trans ?_ (Ext.drewN _ _) | refine Ext.trans ?_ (Ext.drew _) | refine Ext.trans ?_ (by assumption))), by simp [sameD, h1, h2, eqv]⟩
    · rw [h2] at kw
      go_enter Proofs.Try.func56, Proofs.Try.ntmps56
      go_wp2_with (fail)
      go_at_call 122; refine (kw _ (by repeat (first | assumption | exact Ext.refl _ | refine Ext.trans ?_ (Ext.alloc _ _) | refine Ext.trans ?_ (Ext.drewN _ _) | refine Ext.trans ?_ (Ext.drew _) | refine Ext.trans ?_ (by assumption)))).calls.mono ?_; rintro e w1 ⟨_, rfl, hb1, rfl⟩; obtain ⟨q1, f1⟩ := bcell hb1; have z1_0 : w.heap.size < w1.heap.size := (by have := hb1.size; first | omega | (simp at this; omega)); have z1_1 : w.heap.size + 1 < w1.heap.size := (by have := hb1.size; first | omega | (simp at this; omega))
      go_wp2_with (fail)
      go_at_call 122; refine (kg _ (by repeat (first | assumption | exact Ext.refl _ | refine Ext.trans ?_ (Ext.alloc _ _) | refine Ext.trans ?_ (Ext.drewN _ _) | refine Ext.trans ?_ (Ext.drew _) | refine Ext.trans ?_ (by assumption)))).calls.mono ?_; rintro e w2 ⟨_, rfl, hb2, rfl⟩; obtain ⟨q2, f2⟩ := bcell hb2; have z2_0 : w.heap.size < w2.heap.size := (by have := hb2.size; first | omega | (simp at this; omega)); have z2_1 : w.heap.size + 1 < w2.heap.size := (by have := hb2.size; first | omega | (simp at this; omega))
      go_wp2
      go_ret
      exact ⟨_, rfl, (by repeat (first | assumption | exact Ext.refl _ | refine Ext.trans ?_ (Ext.alloc _ _) | refine Ext.trans ?_ (Ext.drewN _ _) | refine Ext.trans ?_ (Ext.drew _) | refine Ext.trans ?_ (by assumption))), by simp [sameD, h1, h2, eqv]⟩
theorem refSame_ (N : Nat → Prop) (va vb : Value) (a b : Arena) (w : World) (ha : IsMem N w va a) (hb : IsMem N w vb b) : Gives Proofs.Try.prog 54 #[va, vb] w (eqv (.bool (sameD a b))) := by
  obtain ⟨xw, xg, rfl, hxw, hxg⟩ := ha
  obtain ⟨yw, yg, rfl, hyw, hyg⟩ := hb
  have kw := fun (w' : World) (h : Ext w w') => refInts_ N xw yw a.W b.W w' (hxw.ext h) (hyw.ext h)
  have kg := fun (w' : World) (h : Ext w w') => refInts_ N xg yg a.G b.G w' (hxg.ext h) (hyg.ext h)
  cases h1 : (a.bad == b.bad) <;> cases h2 : (a.W == b.W) <;> cases h3 : (a.G == b.G) <;> rw [h2] at kw <;> rw [h3] at kg
  all_goals
    go_enter Proofs.Try.func54, Proofs.Try.ntmps54
    go_wp2_with (fail)
    go_at_call 72; refine (kw _ (by repeat (first | assumption | exact Ext.refl _ | refine Ext.trans ?_ (Ext.alloc _ _) | refine Ext.trans ?_ (Ext.drewN _ _) | refine Ext.trans ?_ (Ext.drew _) | refine Ext.trans ?_ (by assumption)))).calls.mono ?_; rintro e w1 ⟨_, rfl, hb1, rfl⟩; obtain ⟨q1, f1⟩ := bcell hb1; have z1_0 : w.heap.size < w1.heap.size := (by have := hb1.size; first | omega | (simp at this; omega)); have z1_1 : w.heap.size + 1 < w1.heap.size := (by have := hb1.size; first | omega | (simp at this; omega))
    go_wp2_with (fail)
    go_at_call 72; refine (kg _ (by repeat (first | assumption | exact Ext.refl _ | refine Ext.trans ?_ (Ext.alloc _ _) | refine Ext.trans ?_ (Ext.drewN _ _) | refine Ext.trans ?_ (Ext.drew _) | refine Ext.trans ?_ (by assumption)))).calls.mono ?_; rintro e w2 ⟨_, rfl, hb2, rfl⟩; obtain ⟨q2, f2⟩ := bcell hb2; have z2_0 : w.heap.size < w2.heap.size := (by have := hb2.size; first | omega | (simp at this; omega)); have z2_1 : w.heap.size + 1 < w2.heap.size := (by have := hb2.size; first | omega | (simp at this; omega))
    go_wp2
    go_ret
    exact ⟨_, rfl, (by repeat (first | assumption | exact Ext.refl _ | refine Ext.trans ?_ (Ext.alloc _ _) | refine Ext.trans ?_ (Ext.drewN _ _) | refine Ext.trans ?_ (Ext.drew _) | refine Ext.trans ?_ (by assumption))), by simp [sameD, h1, h2, h3, eqv]⟩
end Go.Proofs.Ytcfbdfgondmkoaa
/- Arenas: is one right; has one few nodes. -/
namespace Go.Proofs.Ytcfbdfgondmkoaa
open Go Go.RowKit
set_option linter.unusedSimpArgs false
set_option linter.unusedVariables false

def oddB (g : Int) : Bool := decide (g < 0) || decide (2 < g)
theorem odd_ (g : Int) (w : World) : Gives Proofs.Try.prog 120 #[.int .i64 g] w (eqv (.bool (oddB g))) := by
  by_cases h1 : g < 0
  · go_enter Proofs.Try.func120, Proofs.Try.ntmps120
    go_wp2
    go_ret
    exact ⟨_, rfl, (by repeat (first | assumption | exact Ext.refl _ | refine Ext.trans ?_ (Ext.alloc _ _) | refine Ext.trans ?_ (Ext.drewN _ _) | refine Ext.trans ?_ (Ext.drew _) | refine Ext.trans ?_ (by assumption))), by simp [oddB, h1, eqv]⟩
  · by_cases h2 : 2 < g
    · go_enter Proofs.Try.func120, Proofs.Try.ntmps120
      go_wp2
      go_ret
      exact ⟨_, rfl, (by repeat (first | assumption | exact Ext.refl _ | refine Ext.trans ?_ (Ext.alloc _ _) | refine Ext.trans ?_ (Ext.drewN _ _) | refine Ext.trans ?_ (Ext.drew _) | refine Ext.trans ?_ (by assumption))), by simp [oddB, h1, h2, eqv]⟩
    · go_enter Proofs.Try.func120, Proofs.Try.ntmps120
      go_wp2
      go_ret
      exact ⟨_, rfl, (by repeat (first | assumption | exact Ext.refl _ | refine Ext.trans ?_ (Ext.alloc _ _) | refine Ext.trans ?_ (Ext.drewN _ _) | refine Ext.trans ?_ (Ext.drew _) | refine Ext.trans ?_ (by assumption))), by simp [oddB, h1, h2, eqv]⟩
/-- the first odd one's place -/
theorem indexOdd_ (N : Nat → Prop) (v : Value) (l : List Int) (w : World) (h : IsInts N w v l) : Gives Proofs.Try.prog 157 #[v, .func (.func 120) #[] #[]] w (fun r _ => ∃ z : Int, r = .int .i64 z ∧ decide (0 ≤ z) = l.any oddB) := by
  obtain ⟨pa, ca, rfl, ra, la, ca0⟩ := h.opened
  go_enter Proofs.Try.func157, Proofs.Try.ntmps157
  go_wp2
  go_loopw [8] (fun kk wr => ∃ k : Nat, k ≤ l.length ∧ kk = .int .i64 k ∧ (∀ i, i < k → oddB (gi l i) = false) ∧ Ext w wr) (fun kk _ => l.length - (intOf kk).toNat)
  case atStart => exact ⟨0, Nat.zero_le _, rfl, fun i hi => by omega, (by repeat (first | assumption | exact Ext.refl _ | refine Ext.trans ?_ (Ext.alloc _ _) | refine Ext.trans ?_ (Ext.drewN _ _) | refine Ext.trans ?_ (Ext.drew _) | refine Ext.trans ?_ (by assumption)))⟩
  case round =>
    obtain ⟨k, hk, rfl, hall, hE⟩ := hrel
    by_cases hlt : k < l.length
    · have hlt1 : (k : Int) < (l.length : Int) := by omega
      obtain ⟨ba, oa, rfl, xa, na, ea⟩ := ca0 k hlt
      have ea' := cell_ext ea hE
      cases ho : oddB (gi l k)
      · go_wp2_with (fail)
        have hc := odd_ (gi l k) wr
        rw [ho] at hc
        go_at_call 120; refine (hc).calls.mono ?_; rintro e w1 ⟨_, rfl, hb1, rfl⟩; obtain ⟨q1, f1⟩ := bcell hb1
        go_wp2
        go_roundw
        case rel => exact ⟨k + 1, by omega, by simp, fun i hi => (Nat.lt_succ_iff_lt_or_eq.1 hi).elim (hall i) (fun h => h ▸ ho), (by repeat (first | assumption | exact Ext.refl _ | refine Ext.trans ?_ (Ext.alloc _ _) | refine Ext.trans ?_ (Ext.drewN _ _) | refine Ext.trans ?_ (Ext.drew _) | refine Ext.trans ?_ (by assumption)))⟩
        case measure => simp [intOf]; omega
      · go_wp2_with (fail)
        have hc := odd_ (gi l k) wr
        rw [ho] at hc
        go_at_call 120; refine (hc).calls.mono ?_; rintro e w1 ⟨_, rfl, hb1, rfl⟩; obtain ⟨q1, f1⟩ := bcell hb1
        go_wp2
        go_ret
        refine ⟨_, rfl, (by repeat (first | assumption | exact Ext.refl _ | refine Ext.trans ?_ (Ext.alloc _ _) | refine Ext.trans ?_ (Ext.drewN _ _) | refine Ext.trans ?_ (Ext.drew _) | refine Ext.trans ?_ (by assumption))), k, rfl, ?_⟩
        have : l.any oddB = true := List.any_eq_true.2 ⟨l[k], List.getElem_mem hlt, by rw [gi_eq]; exact ho⟩
        rw [this]
        simp
    · have hlt1 : ¬ (k : Int) < (l.length : Int) := by omega
      go_wp2
      go_ret
      refine ⟨_, rfl, (by repeat (first | assumption | exact Ext.refl _ | refine Ext.trans ?_ (Ext.alloc _ _) | refine Ext.trans ?_ (Ext.drewN _ _) | refine Ext.trans ?_ (Ext.drew _) | refine Ext.trans ?_ (by assumption))), -1, rfl, ?_⟩
      have : l.any oddB = false := by
        rw [List.any_eq_false]
        intro x hx
        obtain ⟨i, hi, rfl⟩ := List.getElem_of_mem hx
        rw [gi_eq, hall i (by omega)]
        simp
      rw [this]
      rfl
theorem containsOdd_ (N : Nat → Prop) (v : Value) (l : List Int) (w : World) (h : IsInts N w v l) : Gives Proofs.Try.prog 121 #[v, .func (.func 120) #[] #[]] w (eqv (.bool (l.any oddB))) := by
  go_enter Proofs.Try.func121, Proofs.Try.ntmps121
  go_wp2_with (fail)
  go_at_call 157
  refine (indexOdd_ N v l _ h).calls.mono ?_
  rintro e w1 ⟨_, rfl, hb1, z, rfl, hz⟩
  by_cases h0 : 0 ≤ z
  · go_wp2
    go_ret
    exact ⟨_, rfl, hb1, by rw [← hz]; simp [h0, eqv]⟩
  · go_wp2
    go_ret
    exact ⟨_, rfl, hb1, by rw [← hz]; simp [h0, eqv]⟩

/-- is an arena right? -/
def rightD (m : Arena) : Bool := decide (2 ≤ m.G.length ∧ m.G.length ≤ 201 ∧ m.W.length = 128 + 4 * (m.G.length - 1) ∧ gi m.G 0 = 0) && !m.G.any oddB
theorem memRight_ (N : Nat → Prop) (v : Value) (m : Arena) (w : World) (h : IsMem N w v m) : Gives Proofs.Try.prog 55 #[v] w (eqv (.bool (rightD m))) := by
  obtain ⟨vw, vg, rfl, hw, hg⟩ := h
  obtain ⟨aw, cw, rfl, rw_, lw, cwc⟩ := hw.opened
  obtain ⟨ag, cg, rfl, rg, lg, cgc⟩ := hg.opened
  by_cases h1 : 2 ≤ m.G.length
  · have h1' : ¬ (m.G.length : Int) - 1 < 1 := by omega
    obtain ⟨bg, og, rfl, xg, ng, eg⟩ := cgc 0 (by omega)
    rw [Nat.add_zero] at eg
    by_cases h2 : m.G.length ≤ 201
    · by_cases h3 : m.W.length = 128 + 4 * (m.G.length - 1)
      · have h3' : ((m.W.length : Int) == 128 + 4 * ((m.G.length : Int) - 1)) = true := by simp; omega
        by_cases h4 : gi m.G 0 = 0
        · have h4' : (gi m.G 0 == 0) = true := by simp [h4]
          go_enter Proofs.Try.func55, Proofs.Try.ntmps55
          go_wp2_with (fail)
          go_at_call 121
          refine (containsOdd_ N _ _ _ (hg.ext (by repeat (first | assumption | exact Ext.refl _ | refine Ext.trans ?_ (Ext.alloc _ _) | refine Ext.trans ?_ (Ext.drewN _ _) | refine Ext.trans ?_ (Ext.drew _) | refine Ext.trans ?_ (by assumption))))).calls.mono ?_
          rintro e w1 ⟨_, rfl, hb1, rfl⟩
          go_wp2
          go_ret
          exact ⟨_, rfl, (by repeat (first | assumption | exact Ext.refl _ | refine Ext.trans ?_ (Ext.alloc _ _) | refine Ext.trans ?_ (Ext.drewN _ _) | refine Ext.trans ?_ (Ext.drew _) | refine Ext.trans ?_ (by assumption))), by simp [rightD, h1, h2, h3, h4, eqv]; try omega⟩
        · have h4' : (gi m.G 0 == 0) = false := by simp [h4]
          go_enter Proofs.Try.func55, Proofs.Try.ntmps55
          go_wp2
          go_ret
          exact ⟨_, rfl, (by repeat (first | assumption | exact Ext.refl _ | refine Ext.trans ?_ (Ext.alloc _ _) | refine Ext.trans ?_ (Ext.drewN _ _) | refine Ext.trans ?_ (Ext.drew _) | refine Ext.trans ?_ (by assumption))), by simp [rightD, h4, eqv]⟩
      · have h3' : ((m.W.length : Int) == 128 + 4 * ((m.G.length : Int) - 1)) = false := by simp; omega
        go_enter Proofs.Try.func55, Proofs.Try.ntmps55
        go_wp2
        go_ret
        exact ⟨_, rfl, (by repeat (first | assumption | exact Ext.refl _ | refine Ext.trans ?_ (Ext.alloc _ _) | refine Ext.trans ?_ (Ext.drewN _ _) | refine Ext.trans ?_ (Ext.drew _) | refine Ext.trans ?_ (by assumption))), by simp [rightD, h3, eqv]⟩
    · have h2' : ¬ (m.G.length : Int) - 1 ≤ 200 := by omega
      go_enter Proofs.Try.func55, Proofs.Try.ntmps55
      go_wp2
      go_ret
      exact ⟨_, rfl, (by repeat (first | assumption | exact Ext.refl _ | refine Ext.trans ?_ (Ext.alloc _ _) | refine Ext.trans ?_ (Ext.drewN _ _) | refine Ext.trans ?_ (Ext.drew _) | refine Ext.trans ?_ (by assumption))), by simp [rightD, h2, eqv]⟩
  · have h1' : (m.G.length : Int) - 1 < 1 := by omega
    go_enter Proofs.Try.func55, Proofs.Try.ntmps55
    go_wp2
    go_ret
    exact ⟨_, rfl, (by repeat (first | assumption | exact Ext.refl _ | refine Ext.trans ?_ (Ext.alloc _ _) | refine Ext.trans ?_ (Ext.drewN _ _) | refine Ext.trans ?_ (Ext.drew _) | refine Ext.trans ?_ (by assumption))), by simp [rightD, h1, eqv]⟩
end Go.Proofs.Ytcfbdfgondmkoaa
/- Arenas: is one right, by the document; has one few nodes. -/
namespace Go.Proofs.Ytcfbdfgondmkoaa
open Go Go.RowKit
set_option linter.unusedSimpArgs false
set_option linter.unusedVariables false

theorem refMemRight_ (N : Nat → Prop) (v : Value) (m : Arena) (w : World) (h : IsMem N w v m) : Gives Proofs.Try.prog 53 #[v] w (eqv (.bool (rightD m))) := by
  obtain ⟨vw, vg, rfl, hw, hg⟩ := h
  obtain ⟨aw, cw, rfl, rw_, lw, cwc⟩ := hw.opened
  obtain ⟨ag, cg, rfl, rg, lg, cgc⟩ := hg.opened
  by_cases h1 : 2 ≤ m.G.length
  · have h1' : ¬ (m.G.length : Int) - 1 < 1 := by omega
    obtain ⟨bg, og, rfl, xg, ng, eg⟩ := cgc 0 (by omega)
    rw [Nat.add_zero] at eg
    by_cases h2 : m.G.length ≤ 201
    · have h2' : ¬ 200 < (m.G.length : Int) - 1 := by omega
      by_cases h3 : m.W.length = 128 + 4 * (m.G.length - 1)
      · have h3' : ((m.W.length : Int) != 128 + 4 * ((m.G.length : Int) - 1)) = false := by simp; omega
        have H3 := Lib.hid h3
        clear h3
        by_cases h4 : gi m.G 0 = 0
        · have h4' : (gi m.G 0 != 0) = false := by simp [h4]
          go_enter Proofs.Try.func53, Proofs.Try.ntmps53
          go_wp2
          go_loopw [4] (fun kk wr => ∃ k : Nat, k ≤ m.G.length ∧ kk = .int .i64 k ∧ (∀ i, i < k → oddB (gi m.G i) = false) ∧ Ext w wr ∧ Box wr w.heap.size #[.slice aw m.W.length cw, .slice (some ⟨bg, og, none⟩) m.G.length cg, .bool m.bad] 50) (fun kk _ => m.G.length - (intOf kk).toNat)
          case atStart => exact ⟨0, Nat.zero_le _, rfl, fun i hi => by omega, (by repeat (first | assumption | exact Ext.refl _ | refine Ext.trans ?_ (Ext.alloc _ _) | refine Ext.trans ?_ (Ext.drewN _ _) | refine Ext.trans ?_ (Ext.drew _) | refine Ext.trans ?_ (by assumption))), Box.new _ _ _⟩
          case round =>
            obtain ⟨k, hk, rfl, hall, hE, hB⟩ := hrel
            have c1 : wr.cell? ⟨w.heap.size, 1, none⟩ = some (.slice (some ⟨bg, og, none⟩) m.G.length cg) := hB.cell rfl
            by_cases hlt : k < m.G.length
            · have hlt1 : (k : Int) ≤ (m.G.length : Int) - 1 := by omega
              obtain ⟨b', o', e0, xb, nb, ea⟩ := cgc k hlt
              simp only [Option.some.injEq, Addr.mk.injEq, and_true] at e0
              obtain ⟨rfl, rfl⟩ := e0
              have ea' := cell_ext ea hE
              by_cases ho1 : gi m.G k < 0
              · go_wp2
                go_ret
                have : m.G.any oddB = true := List.any_eq_true.2 ⟨m.G[k], List.getElem_mem hlt, by rw [gi_eq]; simp [oddB, ho1]⟩
                exact ⟨_, rfl, (by repeat (first | assumption | exact Ext.refl _ | refine Ext.trans ?_ (Ext.alloc _ _) | refine Ext.trans ?_ (Ext.drewN _ _) | refine Ext.trans ?_ (Ext.drew _) | refine Ext.trans ?_ (by assumption))), by simp [rightD, this, eqv]⟩
              · by_cases ho2 : 2 < gi m.G k
                · go_wp2
                  go_ret
                  have : m.G.any oddB = true := List.any_eq_true.2 ⟨m.G[k], List.getElem_mem hlt, by rw [gi_eq]; simp [oddB, ho2]⟩
                  exact ⟨_, rfl, (by repeat (first | assumption | exact Ext.refl _ | refine Ext.trans ?_ (Ext.alloc _ _) | refine Ext.trans ?_ (Ext.drewN _ _) | refine Ext.trans ?_ (Ext.drew _) | refine Ext.trans ?_ (by assumption))), by simp [rightD, this, eqv]⟩
                · have ho : oddB (gi m.G k) = false := by simp [oddB]; omega
                  go_wp2
                  go_roundw
                  case rel => exact ⟨k + 1, by omega, by simp, fun i hi => (Nat.lt_succ_iff_lt_or_eq.1 hi).elim (hall i) (fun h => h ▸ ho), (by repeat (first | assumption | exact Ext.refl _ | refine Ext.trans ?_ (Ext.alloc _ _) | refine Ext.trans ?_ (Ext.drewN _ _) | refine Ext.trans ?_ (Ext.drew _) | refine Ext.trans ?_ (by assumption))), hB⟩
                  case measure => simp [intOf]; omega
            · have hlt1 : ¬ (k : Int) ≤ (m.G.length : Int) - 1 := by omega
              go_wp2
              go_ret
              have : m.G.any oddB = false := by
                rw [List.any_eq_false]
                intro x hx
                obtain ⟨i, hi, rfl⟩ := List.getElem_of_mem hx
                rw [gi_eq, hall i (by omega)]
                simp
              exact ⟨_, rfl, (by repeat (first | assumption | exact Ext.refl _ | refine Ext.trans ?_ (Ext.alloc _ _) | refine Ext.trans ?_ (Ext.drewN _ _) | refine Ext.trans ?_ (Ext.drew _) | refine Ext.trans ?_ (by assumption))), by have h3 := H3.out; simp [rightD, this, h1, h2, h3, h4, eqv]; try omega⟩
        · have h4' : (gi m.G 0 != 0) = true := by simp [h4]
          go_enter Proofs.Try.func53, Proofs.Try.ntmps53
          go_wp2
          go_ret
          exact ⟨_, rfl, (by repeat (first | assumption | exact Ext.refl _ | refine Ext.trans ?_ (Ext.alloc _ _) | refine Ext.trans ?_ (Ext.drewN _ _) | refine Ext.trans ?_ (Ext.drew _) | refine Ext.trans ?_ (by assumption))), by simp [rightD, h4, eqv]⟩
      · have h3' : ((m.W.length : Int) != 128 + 4 * ((m.G.length : Int) - 1)) = true := by simp; omega
        go_enter Proofs.Try.func53, Proofs.Try.ntmps53
        go_wp2
        go_ret
        exact ⟨_, rfl, (by repeat (first | assumption | exact Ext.refl _ | refine Ext.trans ?_ (Ext.alloc _ _) | refine Ext.trans ?_ (Ext.drewN _ _) | refine Ext.trans ?_ (Ext.drew _) | refine Ext.trans ?_ (by assumption))), by simp [rightD, h3, eqv]⟩
    · have h2' : 200 < (m.G.length : Int) - 1 := by omega
      go_enter Proofs.Try.func53, Proofs.Try.ntmps53
      go_wp2
      go_ret
      exact ⟨_, rfl, (by repeat (first | assumption | exact Ext.refl _ | refine Ext.trans ?_ (Ext.alloc _ _) | refine Ext.trans ?_ (Ext.drewN _ _) | refine Ext.trans ?_ (Ext.drew _) | refine Ext.trans ?_ (by assumption))), by simp [rightD, h2, eqv]⟩
  · have h1' : (m.G.length : Int) - 1 < 1 := by omega
    go_enter Proofs.Try.func53, Proofs.Try.ntmps53
    go_wp2
    go_ret
    exact ⟨_, rfl, (by repeat (first | assumption | exact Ext.refl _ | refine Ext.trans ?_ (Ext.alloc _ _) | refine Ext.trans ?_ (Ext.drewN _ _) | refine Ext.trans ?_ (Ext.drew _) | refine Ext.trans ?_ (by assumption))), by simp [rightD, h1, eqv]⟩

def smallD (m : Arena) (n : Nat) : Bool := decide (m.G.length ≤ n + 1 ∧ m.W.length ≤ 128 + 4 * n)
theorem memSmall_ (N : Nat → Prop) (v : Value) (m : Arena) (n : Nat) (hn : n ≤ 1000000) (w : World) (h : IsMem N w v m) : Gives Proofs.Try.prog 50 #[v, .int .i64 n] w (eqv (.bool (smallD m n))) := by
  obtain ⟨vw, vg, rfl, hw, hg⟩ := h
  obtain ⟨aw, cw, rfl, rw_, lw, cwc⟩ := hw.opened
  obtain ⟨ag, cg, rfl, rg, lg, cgc⟩ := hg.opened
  by_cases h1 : m.G.length ≤ n + 1
  · have h1' : (m.G.length : Int) ≤ (n : Int) + 1 := by omega
    by_cases h2 : m.W.length ≤ 128 + 4 * n
    · have h2' : (m.W.length : Int) ≤ 128 + 4 * (n : Int) := by omega
      go_enter Proofs.Try.func50, Proofs.Try.ntmps50
      go_wp2
      go_ret
      exact ⟨_, rfl, (by repeat (first | assumption | exact Ext.refl _ | refine Ext.trans ?_ (Ext.alloc _ _) | refine Ext.trans ?_ (Ext.drewN _ _) | refine Ext.trans ?_ (Ext.drew _) | refine Ext.trans ?_ (by assumption))), by simp [smallD, h1, h2, eqv]⟩
    · have h2' : ¬ (m.W.length : Int) ≤ 128 + 4 * (n : Int) := by omega
      go_enter Proofs.Try.func50, Proofs.Try.ntmps50
      go_wp2
      go_ret
      exact ⟨_, rfl, (by repeat (first | assumption | exact Ext.refl _ | refine Ext.trans ?_ (Ext.alloc _ _) | refine Ext.trans ?_ (Ext.drewN _ _) | refine Ext.trans ?_ (Ext.drew _) | refine Ext.trans ?_ (by assumption))), by simp [smallD, h2, eqv]⟩
  · have h1' : ¬ (m.G.length : Int) ≤ (n : Int) + 1 := by omega
    go_enter Proofs.Try.func50, Proofs.Try.ntmps50
    go_wp2
    go_ret
    exact ⟨_, rfl, (by repeat (first | assumption | exact Ext.refl _ | refine Ext.trans ?_ (Ext.alloc _ _) | refine Ext.trans ?_ (Ext.drewN _ _) | refine Ext.trans ?_ (Ext.drew _) | refine Ext.trans ?_ (by assumption))), by simp [smallD, h1, eqv]⟩
def mayD (m : Arena) (n : Nat) : Bool := smallD m n && rightD m
theorem memMay_ (N : Nat → Prop) (v : Value) (m : Arena) (n : Nat) (hn : n ≤ 1000000) (w : World) (h : IsMem N w v m) : Gives Proofs.Try.prog 63 #[v, .int .i64 n] w (eqv (.bool (mayD m n))) := by
  have ks := fun (w' : World) (e : Ext w w') => memSmall_ N v m n hn w' (h.ext e)
  have kr := fun (w' : World) (e : Ext w w') => refMemRight_ N v m w' (h.ext e)
  obtain ⟨vw, vg, rfl, hw, hg⟩ := h
  cases h1 : smallD m n
  · rw [h1] at ks
    go_enter Proofs.Try.func63, Proofs.Try.ntmps63
    go_wp2_with (fail)
    go_at_call 50; refine (ks _ (by repeat (first | assumption | exact Ext.refl _ | refine Ext.trans ?_ (Ext.alloc _ _) | refine Ext.trans ?_ (Ext.drewN _ _) | refine Ext.trans ?_ (Ext.drew _) | refine Ext.trans ?_ (by assumption)))).calls.mono ?_; rintro e w1 ⟨_, rfl, hb1, rfl⟩; obtain ⟨q1, f1⟩ := bcell hb1; have z1_0 : w.heap.size < w1.heap.size := (by have := hb1.size; first | omega | (simp at this; omega))
    go_wp2
    go_ret
    exact ⟨_, rfl, (by repeat (first | assumption | exact Ext.refl _ | refine Ext.trans ?_ (Ext.alloc _ _) | refine Ext.trans ?_ (Ext.drewN _ _) | refine Ext.trans ?_ (Ext.drew _) | refine Ext.trans ?_ (by assumption))), by simp [mayD, h1, eqv]⟩
  · rw [h1] at ks
    go_enter Proofs.Try.func63, Proofs.Try.ntmps63
    go_wp2_with (fail)
    go_at_call 50; refine (ks _ (by repeat (first | assumption | exact Ext.refl _ | refine Ext.trans ?_ (Ext.alloc _ _) | refine Ext.trans ?_ (Ext.drewN _ _) | refine Ext.trans ?_ (Ext.drew _) | refine Ext.trans ?_ (by assumption)))).calls.mono ?_; rintro e w1 ⟨_, rfl, hb1, rfl⟩; obtain ⟨q1, f1⟩ := bcell hb1; have z1_0 : w.heap.size < w1.heap.size := (by have := hb1.size; first | omega | (simp at this; omega))
    go_wp2_with (fail)
    go_at_call 53; refine (kr _ (by repeat (first | assumption | exact Ext.refl _ | refine Ext.trans ?_ (Ext.alloc _ _) | refine Ext.trans ?_ (Ext.drewN _ _) | refine Ext.trans ?_ (Ext.drew _) | refine Ext.trans ?_ (by assumption)))).calls.mono ?_; rintro e w2 ⟨_, rfl, hb2, rfl⟩; obtain ⟨q2, f2⟩ := bcell hb2; have z2_0 : w.heap.size < w2.heap.size := (by have := hb2.size; first | omega | (simp at this; omega))
    go_wp2
    go_ret
    exact ⟨_, rfl, (by repeat (first | assumption | exact Ext.refl _ | refine Ext.trans ?_ (Ext.alloc _ _) | refine Ext.trans ?_ (Ext.drewN _ _) | refine Ext.trans ?_ (Ext.drew _) | refine Ext.trans ?_ (by assumption))), by simp [mayD, h1, eqv]⟩
end Go.Proofs.Ytcfbdfgondmkoaa
/- Boxes seen cell by cell. -/
namespace Go.Proofs.Ytcfbdfgondmkoaa
open Go Go.RowKit
set_option linter.unusedSimpArgs false
set_option linter.unusedVariables false
theorem cells1 {w : World} {b : Nat} {c0 : Value} {t : TypeId} (h : Box w b #[c0] t) : w.cell? ⟨b, 0, none⟩ = some c0 ∧ w.frozen? ⟨b, 0, none⟩ = false := ⟨h.cell rfl, h.frozen⟩
theorem cells3 {w : World} {b : Nat} {c0 c1 c2 : Value} {t : TypeId} (h : Box w b #[c0, c1, c2] t) :
    w.cell? ⟨b, 0, none⟩ = some c0 ∧ w.cell? ⟨b, 1, none⟩ = some c1 ∧ w.cell? ⟨b, 2, none⟩ = some c2 ∧ w.frozen? ⟨b, 0, none⟩ = false ∧ w.frozen? ⟨b, 1, none⟩ = false ∧ w.frozen? ⟨b, 2, none⟩ = false :=
  ⟨h.cell rfl, h.cell rfl, h.cell rfl, h.frozen, h.frozen, h.frozen⟩
theorem cells5 {w : World} {b : Nat} {c0 c1 c2 c3 c4 : Value} {t : TypeId} (h : Box w b #[c0, c1, c2, c3, c4] t) :
    w.cell? ⟨b, 0, none⟩ = some c0 ∧ w.cell? ⟨b, 1, none⟩ = some c1 ∧ w.cell? ⟨b, 2, none⟩ = some c2 ∧ w.cell? ⟨b, 3, none⟩ = some c3 ∧ w.cell? ⟨b, 4, none⟩ = some c4 ∧ w.frozen? ⟨b, 0, none⟩ = false ∧ w.frozen? ⟨b, 1, none⟩ = false ∧ w.frozen? ⟨b, 2, none⟩ = false ∧ w.frozen? ⟨b, 3, none⟩ = false ∧ w.frozen? ⟨b, 4, none⟩ = false :=
  ⟨h.cell rfl, h.cell rfl, h.cell rfl, h.cell rfl, h.cell rfl, h.frozen, h.frozen, h.frozen, h.frozen, h.frozen⟩
theorem Box.setCell {w : World} {b off : Nat} {cs : Array Value} {t : TypeId} (h : Box w b cs t) (v : Value) : Box (w.setCell ⟨b, off, none⟩ v) b (cs.setIfInBounds off v) t := by
  rw [setCell_box h]; exact h.put
theorem Box.setOther {w : World} {b k off : Nat} {cs : Array Value} {t : TypeId} (h : Box w k cs t) (hne : b ≠ k) (v : Value) : Box (w.setCell ⟨b, off, none⟩ v) k cs t := by
  show (w.setCell ⟨b, off, none⟩ v).heap[k]? = _
  rw [show (w.setCell ⟨b, off, none⟩ v).heap[k]? = w.heap[k]? by simp [World.setCell, Array.getElem?_modify, hne]]
  exact h
theorem Ext.store {w w' : World} (h : Ext w w') (p : Addr) (v : Value) (hp : w.heap.size ≤ p.block) : Ext w (w'.setCell p v) := Below.setCell h hp v
theorem Ext.alloc' {w w' : World} (h : Ext w w') (o : Obj) : Ext w (w'.alloc o) := h.trans (Ext.alloc _ _)
theorem Ext.drew' {w w' : World} (h : Ext w w') : Ext w w'.drew := h.trans (Ext.drew _)
theorem Ext.drewN' {w w' : World} (h : Ext w w') (n : Nat) : Ext w (w'.drewN n) := h.trans (Ext.drewN _ _)
theorem Ext.store0 {w w' : World} (h : Ext w w') (o : Nat) (v : Value) : Ext w (w'.setCell ⟨w.heap.size, o, none⟩ v) := h.store _ _ (Nat.le_refl _)
theorem Ext.storek {w w' : World} (h : Ext w w') (k o : Nat) (v : Value) : Ext w (w'.setCell ⟨w.heap.size + k, o, none⟩ v) := h.store _ _ (Nat.le_add_right _ _)
theorem Ext.stores0 {w w' w1 : World} (h : Ext w w') (k : Ext w w1) (o : Nat) (v : Value) : Ext w (w'.setCell ⟨w1.heap.size, o, none⟩ v) := h.store _ _ k.size
theorem Ext.storesk {w w' w1 : World} (h : Ext w w') (g : Ext w w1) (k o : Nat) (v : Value) : Ext w (w'.setCell ⟨w1.heap.size + k, o, none⟩ v) := h.store _ _ (Nat.le_trans g.size (Nat.le_add_right _ _))
section
variable {P : Program} {fn : Func} {w : World}
theorem run_loadVar_box {t : TypeId} {d : TypeDesc} {T : TypeId} {b : Nat} {cs : Array Value} (hB : Box w b cs T) (ht : P.underlying t = some d) (hd : (match d with | .struct _ | .array _ _ => true | _ => false) = true)
    (hz : (P.info? t).map (·.size) = some cs.size) : (loadVar t ⟨b, 0, none⟩).run P w = .ok (.agg cs) w := by
  have hagg : (isAgg t).run P w = .ok true w := by
    unfold isAgg
    rw [Sem.run_bind, run_underlying ht w]
    cases d <;> simp_all
  have hl : (loadCells ⟨b, 0, none⟩ cs.size).run P w = .ok cs w := by
    have := run_loadCells_list (P := P) w ⟨b, 0, none⟩ cs.toList (fun j v hv => by
      have hadd : (⟨b, 0, none⟩ : Addr).add j = ⟨b, 0 + j, none⟩ := by unfold Addr.add; split <;> simp_all
      rw [hadd, Nat.zero_add]; exact hB.cell (by rw [nth_eq]; exact hv))
    simpa using this
  cases hi : P.info? t with
  | none => rw [hi] at hz; cases hz
  | some ti =>
    rw [hi] at hz
    have hs : ti.size = cs.size := by simpa using hz
    simp [loadVar, hagg, sizeOf, typeInfo, hi, hs, hl]
theorem ret_cell {p : Tmp} {t : TypeId} {d : TypeDesc} {T : TypeId} {b : Nat} {cs : Array Value} {tmps : Array Value} (hB : Box w b cs T) (hr : fn.results = #[.cell p t]) (hp : tmps.getD p undef = .pointer (some ⟨b, 0, none⟩)) (ht : P.underlying t = some d) (hd : (match d with | .struct _ | .array _ _ => true | _ => false) = true)
    (hz : (P.info? t).map (·.size) = some cs.size) : (results fn tmps).run P w = .ok (.agg cs) w := by
  have := run_loadVar_box (P := P) hB ht hd hz
  rw [Array.getD_eq_getD_getElem?] at hp
  simp only [results, hr]
  simp [Sem.run_bind, Result.andThen, hp, asAddr, this]
theorem ret_cell_tmp {p u : Tmp} {t : TypeId} {d : TypeDesc} {T : TypeId} {b : Nat} {cs : Array Value} {tmps : Array Value} (hB : Box w b cs T) (hr : fn.results = #[.cell p t, .tmp u]) (hp : tmps.getD p undef = .pointer (some ⟨b, 0, none⟩)) (ht : P.underlying t = some d) (hd : (match d with | .struct _ | .array _ _ => true | _ => false) = true)
    (hz : (P.info? t).map (·.size) = some cs.size) : (results fn tmps).run P w = .ok (.tuple #[.agg cs, tmps.getD u undef]) w := by
  have := run_loadVar_box (P := P) hB ht hd hz
  rw [Array.getD_eq_getD_getElem?] at hp
  simp only [results, hr]
  simp [Sem.run_bind, Result.andThen, hp, asAddr, this]
end
theorem run_eqIn_nofunc {P : Program} (d : Nat) (w : World) {t : TypeId} {a b : Array TypeId} {c : Bool} (h : P.underlying t = some (.func a b c)) : (Op.equalIn (d + 1) t .nilFunc .nilFunc).run P w = .ok true w := by
  simp [Op.equalIn, run_underlying h]
theorem run_eqIn_isfunc {P : Program} (d : Nat) (w : World) {t : TypeId} {a b : Array TypeId} {c : Bool} (h : P.underlying t = some (.func a b c)) (f : Fn) (x y : Array Value) : (Op.equalIn (d + 1) t (.func f x y) .nilFunc).run P w = .ok false w := by
  simp [Op.equalIn, run_underlying h]
@[go_sem] theorem run_nofunc (w : World) : (binOp .neq 155 .nilFunc .nilFunc).run Proofs.Try.prog w = .ok (.bool false) w := by
  have := run_eqIn_nofunc 9999 w Proofs.Try.underlying155
  simp only [binOp]
  simp [Op.equal, Op.maxDepth, this]
@[go_sem] theorem run_isfunc (w : World) (f : Fn) (x y : Array Value) : (binOp .neq 155 (.func f x y) .nilFunc).run Proofs.Try.prog w = .ok (.bool true) w := by
  have := run_eqIn_isfunc 9999 w Proofs.Try.underlying155 f x y
  simp only [binOp]
  simp [Op.equal, Op.maxDepth, this]
end Go.Proofs.Ytcfbdfgondmkoaa
/- Arenas: a word is touched. -/
namespace Go.Proofs.Ytcfbdfgondmkoaa
open Go Go.RowKit
set_option linter.unusedSimpArgs false
set_option linter.unusedVariables false

/-- what an arena's shape is -/
def Fits (m : Arena) : Prop := m.W.length = 128 + 4 * (m.G.length - 1) ∧ 1 ≤ m.G.length ∧ m.G.length ≤ 201
theorem Fits.of_right {m : Arena} (h : rightD m = true) : Fits m := by
  simp [rightD] at h
  exact ⟨h.1.2.2.1, by omega, by omega⟩
theorem nodeD_lt {m : Arena} (h : Fits m) (x : Int) : 0 ≤ nodeD m.W.length x ∧ nodeD m.W.length x < m.G.length := by
  obtain ⟨h1, h2, h3⟩ := h
  unfold nodeD
  split <;> omega
def freeAt (m : Arena) (x : Int) : Bool := decide (0 < nodeD m.W.length x) && (gi m.G (nodeD m.W.length x).toNat == 0)
def outside (m : Arena) (x : Int) : Bool := decide (x < 0) || decide ((m.W.length : Int) ≤ x)
def badAt (m : Arena) (x : Int) : Bool := m.bad || outside m x || freeAt m x
def touchD (m : Arena) (x : Int) : Arena := { m with bad := badAt m x }

set_option maxRecDepth 100000 in
theorem touch_ (N : Nat → Prop) (v : Value) (m : Arena) (x : Int) (w : World) (h : IsMem N w v m) (hf : Fits m) (hN : ∀ b, N b → b < w.heap.size) (hx0 : -9223372036854775808 ≤ x) (hx1 : x ≤ 9223372036854775807) : Gives Proofs.Try.prog 123 #[v, .int .i64 x, .nilFunc] w (fun r w' => IsMem N w' r (touchD m x)) := by
  have kn := fun (w' : World) (e : Ext w w') => node_ N v m x w' (h.ext e) hx0 hx1
  obtain ⟨n0, n1⟩ := nodeD_lt hf x
  obtain ⟨k, hk⟩ : ∃ k : Nat, nodeD m.W.length x = k := ⟨(nodeD m.W.length x).toNat, by omega⟩
  rw [hk] at kn n1
  obtain ⟨vw, vg, rfl, hw, hg⟩ := h
  obtain ⟨aw, cw, rfl, rw_, lw, cwc⟩ := hw.opened
  obtain ⟨ag, cg, rfl, rg, lg, cgc⟩ := hg.opened
  by_cases h1 : x < 0
  · have hbad : badAt m x = true := by simp [badAt, outside, h1]
    go_enter Proofs.Try.func123, Proofs.Try.ntmps123
    go_wp2_with (fail)
    go_at_call 59; refine (kn _ exq).calls.mono ?_; rintro e w1 ⟨_, rfl, hb1, rfl⟩; obtain ⟨q1, f1⟩ := bcell hb1; have z1_0 : w.heap.size < w1.heap.size := (by have := hb1.size; first | omega | (simp at this; omega)); have z1_1 : w.heap.size + 1 < w1.heap.size := (by have := hb1.size; first | omega | (simp at this; omega))
    have B0 : Box w1 w.heap.size #[.slice aw m.W.length cw, .slice ag m.G.length cg, .bool m.bad] 50 := ((Box.new _ _ _).alloc _).ext hb1
    have B1 : Box w1 (w.heap.size + 1) #[.slice none 0 0, .slice none 0 0, .bool false] 50 := Box.ext (by simpa using Box.new (w.alloc (Obj.cells #[.slice aw m.W.length cw, .slice ag m.G.length cg, .bool m.bad] 50)) #[.slice none 0 0, .slice none 0 0, .bool false] 50) hb1
    obtain ⟨c00, c01, c02, d00, d01, d02⟩ := cells3 B0
    obtain ⟨c10, c11, c12, d10, d11, d12⟩ := cells3 B1
    go_wp2
    have BF : Box ((((w1.setCell ⟨w.heap.size, 2, none⟩ (.bool true)).setCell ⟨w.heap.size + 1, 0, none⟩ (.slice aw m.W.length cw)).setCell ⟨w.heap.size + 1, 1, none⟩ (.slice ag m.G.length cg)).setCell ⟨w.heap.size + 1, 2, none⟩ (.bool true)) (w.heap.size + 1) #[.slice aw m.W.length cw, .slice ag m.G.length cg, .bool true] 50 := (((B1.setOther (by omega) _).setCell _).setCell _).setCell _
    exact bodyPost_ret (ret_cell BF Proofs.Try.results123 rfl Proofs.Try.underlying50 rfl (by kernel_rfl)) rfl ⟨_, rfl, exq, ⟨_, _, by rw [← hbad]; rfl, hw.ext exq, hg.ext exq⟩⟩
  · by_cases h2 : (m.W.length : Int) ≤ x
    · have hbad : badAt m x = true := by simp [badAt, outside, h2]
      go_enter Proofs.Try.func123, Proofs.Try.ntmps123
      go_wp2_with (fail)
      go_at_call 59; refine (kn _ exq).calls.mono ?_; rintro e w1 ⟨_, rfl, hb1, rfl⟩; obtain ⟨q1, f1⟩ := bcell hb1; have z1_0 : w.heap.size < w1.heap.size := (by have := hb1.size; first | omega | (simp at this; omega)); have z1_1 : w.heap.size + 1 < w1.heap.size := (by have := hb1.size; first | omega | (simp at this; omega))
      have B0 : Box w1 w.heap.size #[.slice aw m.W.length cw, .slice ag m.G.length cg, .bool m.bad] 50 := ((Box.new _ _ _).alloc _).ext hb1
      have B1 : Box w1 (w.heap.size + 1) #[.slice none 0 0, .slice none 0 0, .bool false] 50 := Box.ext (by simpa using Box.new (w.alloc (Obj.cells #[.slice aw m.W.length cw, .slice ag m.G.length cg, .bool m.bad] 50)) #[.slice none 0 0, .slice none 0 0, .bool false] 50) hb1
      obtain ⟨c00, c01, c02, d00, d01, d02⟩ := cells3 B0
      obtain ⟨c10, c11, c12, d10, d11, d12⟩ := cells3 B1
      go_wp2
      have BF : Box ((((w1.setCell ⟨w.heap.size, 2, none⟩ (.bool true)).setCell ⟨w.heap.size + 1, 0, none⟩ (.slice aw m.W.length cw)).setCell ⟨w.heap.size + 1, 1, none⟩ (.slice ag m.G.length cg)).setCell ⟨w.heap.size + 1, 2, none⟩ (.bool true)) (w.heap.size + 1) #[.slice aw m.W.length cw, .slice ag m.G.length cg, .bool true] 50 := (((B1.setOther (by omega) _).setCell _).setCell _).setCell _
      exact bodyPost_ret (ret_cell BF Proofs.Try.results123 rfl Proofs.Try.underlying50 rfl (by kernel_rfl)) rfl ⟨_, rfl, exq, ⟨_, _, by rw [← hbad]; rfl, hw.ext exq, hg.ext exq⟩⟩
    · by_cases h3 : 0 < k
      · obtain ⟨bg, og, rfl, xg, ng, eg⟩ := cgc k (by omega)
        have h3' : (0 : Int) < (k : Int) := by omega
        by_cases h4 : gi m.G k = 0
        · have h4' : (gi m.G k == 0) = true := by simp [h4]
          have hbad : badAt m x = true := by simp [badAt, freeAt, hk, h3, h4]
          go_enter Proofs.Try.func123, Proofs.Try.ntmps123
          go_wp2_with (fail)
          go_at_call 59; refine (kn _ exq).calls.mono ?_; rintro e w1 ⟨_, rfl, hb1, rfl⟩; obtain ⟨q1, f1⟩ := bcell hb1; have z1_0 : w.heap.size < w1.heap.size := (by have := hb1.size; first | omega | (simp at this; omega)); have z1_1 : w.heap.size + 1 < w1.heap.size := (by have := hb1.size; first | omega | (simp at this; omega))
          have B0 : Box w1 w.heap.size #[.slice aw m.W.length cw, .slice (some ⟨bg, og, none⟩) m.G.length cg, .bool m.bad] 50 := ((Box.new _ _ _).alloc _).ext hb1
          have B1 : Box w1 (w.heap.size + 1) #[.slice none 0 0, .slice none 0 0, .bool false] 50 := Box.ext (by simpa using Box.new (w.alloc (Obj.cells #[.slice aw m.W.length cw, .slice (some ⟨bg, og, none⟩) m.G.length cg, .bool m.bad] 50)) #[.slice none 0 0, .slice none 0 0, .bool false] 50) hb1
          obtain ⟨c00, c01, c02, d00, d01, d02⟩ := cells3 B0
          obtain ⟨c10, c11, c12, d10, d11, d12⟩ := cells3 B1
          have eg1 := cell_ext eg (exq : Ext w w1)
          go_wp2
          have BF : Box ((((w1.setCell ⟨w.heap.size, 2, none⟩ (.bool true)).setCell ⟨w.heap.size + 1, 0, none⟩ (.slice aw m.W.length cw)).setCell ⟨w.heap.size + 1, 1, none⟩ (.slice (some ⟨bg, og, none⟩) m.G.length cg)).setCell ⟨w.heap.size + 1, 2, none⟩ (.bool true)) (w.heap.size + 1) #[.slice aw m.W.length cw, .slice (some ⟨bg, og, none⟩) m.G.length cg, .bool true] 50 := (((B1.setOther (by omega) _).setCell _).setCell _).setCell _
          exact bodyPost_ret (ret_cell BF Proofs.Try.results123 rfl Proofs.Try.underlying50 rfl (by kernel_rfl)) rfl ⟨_, rfl, exq, ⟨_, _, by rw [← hbad]; rfl, hw.ext exq, hg.ext exq⟩⟩
        · have h4' : (gi m.G k == 0) = false := by simp [h4]
          have hbad : badAt m x = m.bad := by simp [badAt, outside, freeAt, hk, h1, h2, h3, h4]
          go_enter Proofs.Try.func123, Proofs.Try.ntmps123
          go_wp2_with (fail)
          go_at_call 59; refine (kn _ exq).calls.mono ?_; rintro e w1 ⟨_, rfl, hb1, rfl⟩; obtain ⟨q1, f1⟩ := bcell hb1; have z1_0 : w.heap.size < w1.heap.size := (by have := hb1.size; first | omega | (simp at this; omega)); have z1_1 : w.heap.size + 1 < w1.heap.size := (by have := hb1.size; first | omega | (simp at this; omega))
          have B0 : Box w1 w.heap.size #[.slice aw m.W.length cw, .slice (some ⟨bg, og, none⟩) m.G.length cg, .bool m.bad] 50 := ((Box.new _ _ _).alloc _).ext hb1
          have B1 : Box w1 (w.heap.size + 1) #[.slice none 0 0, .slice none 0 0, .bool false] 50 := Box.ext (by simpa using Box.new (w.alloc (Obj.cells #[.slice aw m.W.length cw, .slice (some ⟨bg, og, none⟩) m.G.length cg, .bool m.bad] 50)) #[.slice none 0 0, .slice none 0 0, .bool false] 50) hb1
          obtain ⟨c00, c01, c02, d00, d01, d02⟩ := cells3 B0
          obtain ⟨c10, c11, c12, d10, d11, d12⟩ := cells3 B1
          have eg1 := cell_ext eg (exq : Ext w w1)
          go_wp2
          have BF : Box (((w1.setCell ⟨w.heap.size + 1, 0, none⟩ (.slice aw m.W.length cw)).setCell ⟨w.heap.size + 1, 1, none⟩ (.slice (some ⟨bg, og, none⟩) m.G.length cg)).setCell ⟨w.heap.size + 1, 2, none⟩ (.bool m.bad)) (w.heap.size + 1) #[.slice aw m.W.length cw, .slice (some ⟨bg, og, none⟩) m.G.length cg, .bool m.bad] 50 := ((B1.setCell _).setCell _).setCell _
          exact bodyPost_ret (ret_cell BF Proofs.Try.results123 rfl Proofs.Try.underlying50 rfl (by kernel_rfl)) rfl ⟨_, rfl, exq, ⟨_, _, by rw [← hbad]; rfl, hw.ext exq, hg.ext exq⟩⟩
      · obtain rfl : k = 0 := by omega
        have hbad : badAt m x = m.bad := by simp [badAt, outside, freeAt, hk, h1, h2]
        go_enter Proofs.Try.func123, Proofs.Try.ntmps123
        go_wp2_with (fail)
        go_at_call 59; refine (kn _ exq).calls.mono ?_; rintro e w1 ⟨_, rfl, hb1, rfl⟩; obtain ⟨q1, f1⟩ := bcell hb1; have z1_0 : w.heap.size < w1.heap.size := (by have := hb1.size; first | omega | (simp at this; omega)); have z1_1 : w.heap.size + 1 < w1.heap.size := (by have := hb1.size; first | omega | (simp at this; omega))
        have B0 : Box w1 w.heap.size #[.slice aw m.W.length cw, .slice ag m.G.length cg, .bool m.bad] 50 := ((Box.new _ _ _).alloc _).ext hb1
        have B1 : Box w1 (w.heap.size + 1) #[.slice none 0 0, .slice none 0 0, .bool false] 50 := Box.ext (by simpa using Box.new (w.alloc (Obj.cells #[.slice aw m.W.length cw, .slice ag m.G.length cg, .bool m.bad] 50)) #[.slice none 0 0, .slice none 0 0, .bool false] 50) hb1
        obtain ⟨c00, c01, c02, d00, d01, d02⟩ := cells3 B0
        obtain ⟨c10, c11, c12, d10, d11, d12⟩ := cells3 B1
        go_wp2
        have BF : Box (((w1.setCell ⟨w.heap.size + 1, 0, none⟩ (.slice aw m.W.length cw)).setCell ⟨w.heap.size + 1, 1, none⟩ (.slice ag m.G.length cg)).setCell ⟨w.heap.size + 1, 2, none⟩ (.bool m.bad)) (w.heap.size + 1) #[.slice aw m.W.length cw, .slice ag m.G.length cg, .bool m.bad] 50 := ((B1.setCell _).setCell _).setCell _
        exact bodyPost_ret (ret_cell BF Proofs.Try.results123 rfl Proofs.Try.underlying50 rfl (by kernel_rfl)) rfl ⟨_, rfl, exq, ⟨_, _, by rw [← hbad]; rfl, hw.ext exq, hg.ext exq⟩⟩
end Go.Proofs.Ytcfbdfgondmkoaa
/- Arenas: whose a place is, by the document; counts, by the document. -/
namespace Go.Proofs.Ytcfbdfgondmkoaa
open Go Go.RowKit
set_option linter.unusedSimpArgs false
set_option linter.unusedVariables false

theorem nodeD_none {m : Arena} (h : Fits m) {x : Int} (hn : ∀ i k : Nat, 1 ≤ i → i < m.G.length → 1 ≤ k → k < 4 → x ≠ 128 + 4 * ((i : Int) - 1) + k) : nodeD m.W.length x = 0 := by
  obtain ⟨h1, h2, h3⟩ := h
  unfold nodeD
  split
  · rfl
  · rename_i hc
    exact absurd (show x = 128 + 4 * ((((x - 128) / 4 + 1).toNat : Int) - 1) + (((x - 128) % 4).toNat : Int) by omega) (hn _ _ (by omega) (by omega) (by omega) (by omega))
theorem nodeD_some {m : Arena} (h : Fits m) {i k : Nat} (h1 : 1 ≤ i) (h2 : i < m.G.length) (h3 : 1 ≤ k) (h4 : k < 4) : nodeD m.W.length (128 + 4 * ((i : Int) - 1) + k) = i := by
  obtain ⟨e1, e2, e3⟩ := h
  unfold nodeD
  split <;> omega
theorem refNode_ (N : Nat → Prop) (v : Value) (m : Arena) (x : Int) (w : World) (h : IsMem N w v m) (hf : Fits m) : Gives Proofs.Try.prog 60 #[v, .int .i64 x] w (eqv (.int .i64 (nodeD m.W.length x))) := by
  obtain ⟨vw, vg, rfl, hw, hg⟩ := h
  obtain ⟨ag, cg, rfl, rg, lg, cgc⟩ := hg.opened
  have hlen := hf.2.2
  go_enter Proofs.Try.func60, Proofs.Try.ntmps60
  go_wp2
  go_loopw [5] (fun ii wr => ∃ i : Nat, 1 ≤ i ∧ i ≤ m.G.length ∧ ii = .int .i64 i ∧ (∀ i' k : Nat, 1 ≤ i' → i' < i → 1 ≤ k → k < 4 → x ≠ 128 + 4 * ((i' : Int) - 1) + k) ∧ Ext w wr ∧ Box wr w.heap.size #[vw, .slice ag m.G.length cg, .bool m.bad] 50) (fun ii _ => m.G.length - (intOf ii).toNat)
  case atStart => exact ⟨1, Nat.le_refl _, hf.2.1, rfl, fun i' k _ _ => by omega, exq, Box.new _ _ _⟩
  case round =>
    obtain ⟨i, hi, hi2, rfl, hall, hE, hB⟩ := hrel
    rename World => wo
    obtain ⟨c0, c1, c2, d0, d1, d2⟩ := cells3 hB
    by_cases hlt : i < m.G.length
    · have hlt1 : (i : Int) < (m.G.length : Int) := by omega
      go_wp2
      go_loopw [6] (fun kk wr' => ∃ k : Nat, 1 ≤ k ∧ k ≤ 4 ∧ kk = .int .i64 k ∧ (∀ k' : Nat, 1 ≤ k' → k' < k → x ≠ 128 + 4 * ((i : Int) - 1) + k') ∧ Ext wo wr') (fun kk _ => 4 - (intOf kk).toNat)
      case atStart => exact ⟨1, Nat.le_refl _, by omega, rfl, fun k' _ _ => by omega, Ext.refl _⟩
      case round =>
        obtain ⟨k, hk, hk2, rfl, hall2, hE2⟩ := hrel
        have hEw : Ext w wo := hE
        by_cases hlt2 : k < 4
        · have hlt2' : (k : Int) < 4 := by omega
          have ca := refAt_ i k
          by_cases heq : 128 + 4 * ((i : Int) - 1) + k = x
          · go_wp2_with (fail)
            go_at_call 58
            refine (refAt_ i k _ (by omega) (by omega) (by omega) (by omega)).calls.mono ?_
            rintro e w1 ⟨_, rfl, hb1, rfl⟩
            rw [heq]
            go_wp2
            go_ret
            exact ⟨_, rfl, exq, by rw [← heq, nodeD_some hf hi hlt hk hlt2]; rfl⟩
          · have heq1 : (128 + 4 * ((i : Int) - 1) + k == x) = false := by simp [heq]
            go_wp2_with (fail)
            go_at_call 58
            refine (refAt_ i k _ (by omega) (by omega) (by omega) (by omega)).calls.mono ?_
            rintro e w1 ⟨_, rfl, hb1, rfl⟩
            go_wp2
            go_roundw
            case rel => exact ⟨k + 1, by omega, by omega, by simp, fun k' h1 h2 => (Nat.lt_succ_iff_lt_or_eq.1 h2).elim (hall2 k' h1) (fun h => by subst h; exact fun e => heq e.symm), exq⟩
            case measure => simp [intOf]; omega
        · have hlt2' : ¬ (k : Int) < 4 := by omega
          go_wp2
          go_roundw
          case rel => exact ⟨i + 1, by omega, by omega, by simp, fun i' k' h1 h2 h3 h4 => (Nat.lt_succ_iff_lt_or_eq.1 h2).elim (fun h => hall i' k' h1 h h3 h4) (fun h => by subst h; exact hall2 k' h3 (by omega)), exq, hB.ext hE2⟩
          case measure => simp [intOf]; omega
    · have hlt1 : ¬ (i : Int) < (m.G.length : Int) := by omega
      go_wp2
      go_ret
      exact ⟨_, rfl, exq, by rw [nodeD_none hf fun i' k h1 h2 h3 h4 => hall i' k h1 (by omega) h3 h4]; rfl⟩
theorem refCount_ (N : Nat → Prop) (v : Value) (m : Arena) (x : Int) (w : World) (h : IsMem N w v m) (hG : 1 ≤ m.G.length) : Gives Proofs.Try.prog 62 #[v, .int .i64 x] w (eqv (.int .i64 (countD m.G 1 x))) := by
  obtain ⟨vw, vg, rfl, hw, hg⟩ := h
  obtain ⟨ag, cg, rfl, rg, lg, cgc⟩ := hg.opened
  go_enter Proofs.Try.func62, Proofs.Try.ntmps62
  go_wp2
  go_loopw [5, 6] (fun nn kk wr => ∃ k n : Nat, 1 ≤ k ∧ k ≤ m.G.length ∧ kk = .int .i64 k ∧ nn = .int .i64 n ∧ n + countD m.G k x = countD m.G 1 x ∧ n ≤ k ∧ Ext w wr ∧ Box wr w.heap.size #[vw, .slice ag m.G.length cg, .bool m.bad] 50) (fun _ kk _ => m.G.length - (intOf kk).toNat)
  case atStart => exact ⟨1, 0, Nat.le_refl _, hG, rfl, rfl, Nat.zero_add _, by omega, exq, Box.new _ _ _⟩
  case round =>
    obtain ⟨k, n, hk1, hk, rfl, rfl, hn, hnk, hE, hB⟩ := hrel
    obtain ⟨c0, c1, c2, d0, d1, d2⟩ := cells3 hB
    by_cases hlt : k < m.G.length
    · have hlt1 : (k : Int) < (m.G.length : Int) := by omega
      obtain ⟨ba, oa, rfl, xb, nb, eb⟩ := cgc k hlt
      have eb' := cell_ext eb hE
      have hc := count_at (G := m.G) (k := k) (by omega) x
      by_cases heq : gi m.G k = x
      · rw [if_pos heq] at hc
        have heq1 : (gi m.G k == x) = true := by simp [heq]
        go_wp2
        go_roundw
        case rel => exact ⟨k + 1, n + 1, by omega, by omega, by simp, by simp, by omega, by omega, exq, hB⟩
        case measure => simp [intOf]; omega
      · rw [if_neg heq] at hc
        have heq1 : (gi m.G k == x) = false := by simp [heq]
        go_wp2
        go_roundw
        case rel => exact ⟨k + 1, n, by omega, by omega, by simp, by simp, by omega, by omega, exq, hB⟩
        case measure => simp [intOf]; omega
    · have hlt1 : ¬ (k : Int) < (m.G.length : Int) := by omega
      rw [count_end (show m.G.length ≤ k by omega)] at hn
      have hn' : countD m.G 1 x = n := by omega
      go_wp2
      go_ret
      exact ⟨_, rfl, exq, by first | rfl | (rw [hn']; rfl)⟩
end Go.Proofs.Ytcfbdfgondmkoaa
/- Blocks that a caller keeps for itself. -/
namespace Go.Proofs.Ytcfbdfgondmkoaa
open Go Go.RowKit
set_option linter.unusedSimpArgs false
set_option linter.unusedVariables false

/-- N, and the blocks from lo to hi -/
def Bx (N : Nat → Prop) (lo hi : Nat) : Nat → Prop := fun b => N b ∨ lo ≤ b ∧ b < hi
theorem Bx.lt {N : Nat → Prop} {w w' : World} (hN : ∀ b, N b → b < w.heap.size) (e : Ext w w') : ∀ b, Bx N w.heap.size w'.heap.size b → b < w'.heap.size :=
  fun b hb => hb.elim (fun k => Nat.lt_of_lt_of_le (hN b k) e.size) (fun k => k.2)
theorem Bx.new {N : Nat → Prop} {lo hi x : Nat} (h : x < lo) (hx : Bx N lo hi x) : N x := hx.elim id (fun k => absurd k.1 (by omega))
theorem Bx.mem {N : Nat → Prop} {lo hi x : Nat} (h : lo ≤ x) (h' : x < hi) : Bx N lo hi x := .inr ⟨h, h'⟩
theorem IsInts.at {N : Nat → Prop} {w w' : World} {v : Value} {l : List Int} (h : IsInts N w v l) (e : Ext w w') : IsInts (Bx N w.heap.size w'.heap.size) w' v l := (h.less (M := Bx N w.heap.size w'.heap.size) fun _ hy hn => Bx.new hy hn).ext e
theorem IsMem.at {N : Nat → Prop} {w w' : World} {v : Value} {m : Arena} (h : IsMem N w v m) (e : Ext w w') : IsMem (Bx N w.heap.size w'.heap.size) w' v m := (h.less (M := Bx N w.heap.size w'.heap.size) fun _ hy hn => Bx.new hy hn).ext e
theorem IsMem.back {N : Nat → Prop} {lo hi : Nat} {w : World} {v : Value} {m : Arena} (h : IsMem (Bx N lo hi) w v m) : IsMem N w v m := h.less fun _ _ hn => .inl hn
theorem IsInts.back {N : Nat → Prop} {lo hi : Nat} {w : World} {v : Value} {l : List Int} (h : IsInts (Bx N lo hi) w v l) : IsInts N w v l := h.less fun _ _ hn => .inl hn
/-- the two rows, laid open -/
theorem IsMem.opened {N : Nat → Prop} {w : World} {v : Value} {m : Arena} (h : IsMem N w v m) : ∃ aw cw ag cg, v = .agg #[.slice aw m.W.length cw, .slice ag m.G.length cg, .bool m.bad] ∧ IsInts N w (.slice aw m.W.length cw) m.W ∧ IsInts N w (.slice ag m.G.length cg) m.G := by
  obtain ⟨vw, vg, rfl, hw, hg⟩ := h
  obtain ⟨aw, cw, rfl, _⟩ := hw.opened
  obtain ⟨ag, cg, rfl, _⟩ := hg.opened
  exact ⟨aw, cw, ag, cg, rfl, hw, hg⟩
theorem IsMem.mk {N : Nat → Prop} {w : World} {aw ag : Value} {m : Arena} {b : Bool} (hb : b = m.bad) (hw : IsInts N w aw m.W) (hg : IsInts N w ag m.G) : IsMem N w (.agg #[aw, ag, .bool b]) m := by
  subst hb; exact ⟨_, _, rfl, hw, hg⟩
/-- stores into blocks that are kept -/
theorem Keep.s {N : Nat → Prop} {a b : World} (h : Keep N a b) {x o : Nat} {v : Value} (hx : N x) : Keep N a (b.setCell ⟨x, o, none⟩ v) := h.setCell _ _ (.inr hx)
theorem Keep.n {N : Nat → Prop} {a b : World} (h : Keep N a b) {x o : Nat} {v : Value} (hx : a.heap.size ≤ x) : Keep N a (b.setCell ⟨x, o, none⟩ v) := h.setCell _ _ (.inl hx)
/-- two boxes, one behind the other -/
theorem Box.two (w : World) (cs cs' : Array Value) (t t' : TypeId) : Box ((w.alloc (.cells cs t (0, 0))).alloc (.cells cs' t' (0, 0))) (w.heap.size + 1) cs' t' := by
  have := Box.new (w.alloc (.cells cs t (0, 0))) cs' t'
  simpa using this
theorem Box.three (w : World) (cs cs' cs'' : Array Value) (t t' t'' : TypeId) : Box (((w.alloc (.cells cs t (0, 0))).alloc (.cells cs' t' (0, 0))).alloc (.cells cs'' t'' (0, 0))) (w.heap.size + 2) cs'' t'' := by
  have := Box.new ((w.alloc (.cells cs t (0, 0))).alloc (.cells cs' t' (0, 0))) cs'' t''
  simpa using this
theorem Box.four (w : World) (cs cs' cs'' c4 : Array Value) (t t' t'' t4 : TypeId) : Box ((((w.alloc (.cells cs t (0, 0))).alloc (.cells cs' t' (0, 0))).alloc (.cells cs'' t'' (0, 0))).alloc (.cells c4 t4 (0, 0))) (w.heap.size + 3) c4 t4 := by
  have := Box.new (((w.alloc (.cells cs t (0, 0))).alloc (.cells cs' t' (0, 0))).alloc (.cells cs'' t'' (0, 0))) c4 t4
  simpa using this
end Go.Proofs.Ytcfbdfgondmkoaa
/- Rows of integers that a call has made for itself. -/
namespace Go.Proofs.Ytcfbdfgondmkoaa
open Go Go.RowKit
set_option linter.unusedSimpArgs false
set_option linter.unusedVariables false
set_option linter.unnecessarySimpa false

/-- this slice is the whole of a row of its own, in block b, not frozen -/
def Own (w : World) (v : Value) (l : List Int) (b : Nat) : Prop :=
  ∃ cap, v = .slice (some ⟨b, 0, none⟩) l.length cap ∧ l.length ≤ cap ∧ cap ≤ 9223372036854775807 ∧ b < w.heap.size ∧ ∀ i, i < l.length → w.cell? ⟨b, i, none⟩ = some (.int .i64 (gi l i)) ∧ w.frozen? ⟨b, i, none⟩ = false
theorem Own.ints {N : Nat → Prop} {w : World} {v : Value} {l : List Int} {b : Nat} (h : Own w v l b) (hn : ¬ N b) : IsInts N w v l := by
  obtain ⟨cap, rfl, h1, h2, h3, h4⟩ := h
  exact ⟨_, cap, rfl, h1, h2, fun e => by simp at e, fun i hi => ⟨b, 0, rfl, h3, hn, by rw [Nat.zero_add]; exact (h4 i hi).1⟩⟩
theorem Own.keep {N : Nat → Prop} {w w' : World} {v : Value} {l : List Int} {b : Nat} (h : Own w v l b) (k : Keep N w w') (hn : ¬ N b) : Own w' v l b := by
  obtain ⟨cap, rfl, h1, h2, h3, h4⟩ := h
  exact ⟨cap, rfl, h1, h2, Nat.lt_of_lt_of_le h3 k.1, fun i hi => ⟨(k.cell (a := ⟨b, i, none⟩) h3 hn).trans (h4 i hi).1, (World.frozen?_of_block (k.2 _ h3 hn)).trans (h4 i hi).2⟩⟩
theorem Own.ext {w w' : World} {v : Value} {l : List Int} {b : Nat} (h : Own w v l b) (k : Ext w w') : Own w' v l b := h.keep (N := fun _ => False) k.keep id
theorem Own.set {w : World} {v : Value} {l : List Int} {b k : Nat} (h : Own w v l b) (hk : k < l.length) (x : Int) : Own (w.setCell ⟨b, k, none⟩ (.int .i64 x)) v (l.set k x) b := by
  obtain ⟨cap, rfl, h1, h2, h3, h4⟩ := h
  refine ⟨cap, by simp, by simp; exact h1, h2, by simpa [World.setCell] using h3, fun i hi => ?_⟩
  have hi' : i < l.length := by simpa using hi
  rw [World.frozen?_setCell, gi_set l k i x hk]
  refine ⟨?_, (h4 i hi').2⟩
  by_cases e : k = i
  · subst e
    rw [if_pos rfl]
    exact World.cell?_setCell_same _ _ _ (h4 k hk).1
  · rw [if_neg e, World.cell?_setCell_other _ _ _ _ (by simpa using e)]
    exact (h4 i hi').1

def zeros (n : Nat) : Array Value := madeCells (Value.int .i64 0).cells (n * 1)
@[go_sem] theorem run_mk48 (n : Nat) (h : n ≤ 100000) (w : World) : (Instr.makeSlice 48 (.int .i64 n) (.int .i64 n)).run Proofs.Try.prog w = .ok (.slice (some ⟨w.heap.size, 0, none⟩) n n) (w.alloc (.cells (zeros n) 3)) := by
  cases hi : Proofs.Try.prog.info? 3 with
  | none => exact absurd (show (Proofs.Try.prog.info? 3).isSome = true by kernel_rfl) (by rw [hi]; simp)
  | some i =>
    have hz : i.zero = some (.int .i64 0) := by
      have : (Proofs.Try.prog.info? 3).bind (·.zero) = some (.int .i64 0) := by kernel_rfl
      rw [hi] at this; exact this
    have hs : i.size = 1 := by
      have : (Proofs.Try.prog.info? 3).map (·.size) = some 1 := by kernel_rfl
      rw [hi] at this; simpa using this
    have hb : i.bytes = 8 := by
      have : (Proofs.Try.prog.info? 3).map (·.bytes) = some 8 := by kernel_rfl
      rw [hi] at this; simpa using this
    have := run_make (P := Proofs.Try.prog) w 48 3 i _ Proofs.Try.underlying48 hi hz .i64 .i64 n n (by omega) (Int.le_refl _) (by rw [hb]; omega) (by omega)
    rw [hs] at this
    simpa [zeros] using this
theorem Own.made (w : World) (n : Nat) (h : n ≤ 100000) : Own (w.alloc (.cells (zeros n) 3)) (.slice (some ⟨w.heap.size, 0, none⟩) n n) (List.replicate n 0) w.heap.size := by
  refine ⟨n, by simp, by simp, by omega, by simp, fun i hi => ?_⟩
  have hi' : i < n := by simpa using hi
  have hB : Box (w.alloc (.cells (zeros n) 3)) w.heap.size (zeros n) 3 := Box.new _ _ _
  refine ⟨hB.cell ?_, hB.frozen⟩
  rw [nth_eq]
  simp [zeros, madeCells, hi', gi, List.getD_eq_getElem?_getD, Value.cells, Nat.mod_one]
@[go_sem] theorem eql48_some (a : Addr) (n c : Nat) (w : World) : (binOp .eql 48 (.slice (some a) n c) (.slice none 0 0)).run Proofs.Try.prog w = .ok (.bool false) w := by
  have : ∀ d, (Op.equalIn (d + 1) 48 (.slice (some a) n c) (.slice none 0 0)).run Proofs.Try.prog w = .ok false w := fun d => by simp [Op.equalIn, run_underlying Proofs.Try.underlying48]
  have := this 9999
  simp only [binOp]
  simp [Op.equal, Op.maxDepth, this]

theorem setCells_keep {N : Nat → Prop} {a : World} {b : Nat} (hb : a.heap.size ≤ b ∨ N b) : ∀ (vs : List Value) (o : Nat) (w : World), Keep N a w → Keep N a (w.setCells b o vs)
  | [], _, _, h => h
  | v :: vs, o, w, h => setCells_keep hb vs (o + 1) _ (h.setCell _ _ hb)
theorem setCells_ext {a : World} {b : Nat} (hb : a.heap.size ≤ b) : ∀ (vs : List Value) (o : Nat) (w : World), Ext a w → Ext a (w.setCells b o vs)
  | [], _, _, h => h
  | v :: vs, o, w, h => setCells_ext hb vs (o + 1) _ (h.store _ _ hb)
theorem setCells_size {b : Nat} : ∀ (vs : List Value) (o : Nat) (w : World), (w.setCells b o vs).heap.size = w.heap.size
  | [], _, _ => rfl
  | v :: vs, o, w => (setCells_size vs (o + 1) _).trans (by simp [World.setCell])
theorem one_size {t : TypeId} (h : (Proofs.Try.prog.info? t).map (·.size) = some 1) : (Proofs.Try.prog.info? t).map (·.size) = some 1 := h
/-- one row copied over another of the same length -/
theorem run_copy_own {N : Nat → Prop} {w : World} {vd vs : Value} {ld ls : List Int} {b : Nat} (hd : Own w vd ld b) (hs : IsInts N w vs ls) (hl : ld.length = ls.length) (h0 : 0 < ls.length) :
    ∃ w', (Builtin.copy_ #[48, 48] 3 #[vd, vs]).run Proofs.Try.prog w = .ok (goInt ls.length) w' ∧ Own w' vd ls b ∧ (∀ M, M b → Keep M w w') ∧ (∀ a, Ext a w → a.heap.size ≤ b → Ext a w') := by
  obtain ⟨cap, rfl, h1, h2, h3, h4⟩ := hd
  obtain ⟨a, cs, rfl, k1, k2, k3⟩ := hs.opened
  obtain ⟨bs, os, rfl, hbs, hns, _⟩ := k3 0 h0
  have hc : ∀ j v, (ints ls)[j]? = some v → w.cell? ((⟨bs, os, none⟩ : Addr).add j) = some v := fun j v hv => by
    rw [ints_get] at hv
    have hj : j < ls.length := by
      rcases Nat.lt_or_ge j ls.length with h | h
      · exact h
      · rw [List.getElem?_eq_none h] at hv; cases hv
    rw [gi_get hj] at hv
    obtain rfl : Value.int .i64 (gi ls j) = v := by simpa using hv
    obtain ⟨b', o', e, _, _, hcell⟩ := k3 j hj
    cases e
    have hadd : (⟨bs, os, none⟩ : Addr).add j = ⟨bs, os + j, none⟩ := by unfold Addr.add; split <;> simp_all
    rw [hadd]; exact hcell
  have hlen : (ints ls).length = ls.length := by simp [ints]
  have hr := run_copy_cells (P := Proofs.Try.prog) w 48 48 3 3 b 0 ld.length cap ⟨bs, os, none⟩ ls.length cs (ints ls) Proofs.Try.underlying48 (by kernel_rfl) (by rw [hlen, hl]; simp) hc
    (fun j hj => by rw [Nat.zero_add, (h4 j (by omega)).1]; rfl) (fun j hj => by rw [Nat.zero_add]; exact (h4 j (by omega)).2) (fun v hv => by
      obtain ⟨x, _, rfl⟩ := List.mem_map.1 (show v ∈ ls.map (Value.int .i64) from hv)
      rfl)
  rw [hlen] at hr
  refine ⟨_, hr, ⟨cap, by rw [hl], by omega, h2, by rw [setCells_size]; exact h3, fun i hi => ⟨?_, ?_⟩⟩, fun M hM => setCells_keep (.inr hM) _ _ _ (Keep.refl _ _), fun a ha hb => setCells_ext hb _ _ _ ha⟩
  · have := World.cell?_setCells_in b (ints ls) 0 w (fun j hj => by rw [Nat.zero_add, (h4 j (by omega)).1]; rfl) i (by omega)
    rw [Nat.zero_add] at this
    rw [this]
    simp [ints, gi_eq _ _ hi]
  · rw [World.frozen?_setCells]; exact (h4 i (by omega)).2
/-- all of a row appended to an empty one: a row of its own -/
theorem run_append_new {N : Nat → Prop} {w : World} {vs : Value} {ls : List Int} (a0 : Addr) (hs : IsInts N w vs ls) (h0 : 0 < ls.length) (hm : ls.length ≤ 100000) (ty : TypeId) :
    ∃ v' w', (Builtin.append_ #[48, 48] ty #[.slice (some a0) 0 0, vs]).run Proofs.Try.prog w = .ok v' w' ∧ Own w' v' ls w.heap.size ∧ Ext w w' := by
  obtain ⟨a, cs, rfl, k1, k2, k3⟩ := hs.opened
  obtain ⟨bs, os, rfl, hbs, hns, _⟩ := k3 0 h0
  have hc : ∀ j v, (ints ls)[j]? = some v → w.cell? ((⟨bs, os, none⟩ : Addr).add j) = some v := fun j v hv => by
    rw [ints_get] at hv
    have hj : j < ls.length := by
      rcases Nat.lt_or_ge j ls.length with h | h
      · exact h
      · rw [List.getElem?_eq_none h] at hv; cases hv
    rw [gi_get hj] at hv
    obtain rfl : Value.int .i64 (gi ls j) = v := by simpa using hv
    obtain ⟨b', o', e, _, _, hcell⟩ := k3 j hj
    cases e
    have hadd : (⟨bs, os, none⟩ : Addr).add j = ⟨bs, os + j, none⟩ := by unfold Addr.add; split <;> simp_all
    rw [hadd]; exact hcell
  have hlen : (ints ls).length = ls.length := by simp [ints]
  cases hi : Proofs.Try.prog.info? 3 with
  | none => exact absurd (show (Proofs.Try.prog.info? 3).isSome = true by kernel_rfl) (by rw [hi]; simp)
  | some i =>
    have hz : i.zero = some (.int .i64 0) := by
      have : (Proofs.Try.prog.info? 3).bind (·.zero) = some (.int .i64 0) := by kernel_rfl
      rw [hi] at this; exact this
    have hs : i.size = 1 := by
      have : (Proofs.Try.prog.info? 3).map (·.size) = some 1 := by kernel_rfl
      rw [hi] at this; simpa using this
    have hb : i.bytes = 8 := by
      have : (Proofs.Try.prog.info? 3).map (·.bytes) = some 8 := by kernel_rfl
      rw [hi] at this; simpa using this
    have hr := run_append_grow (P := Proofs.Try.prog) w 48 ty 3 i _ Proofs.Try.underlying48 hi hz a0 0 0 [] (by simp) (by simp) ⟨bs, os, none⟩ ls.length cs (ints ls) (by rw [hlen, hs]; simp) hc (by omega) (by omega)
      (by rw [Nat.zero_add, nextslicecap_zero h0, hb]; omega)
    simp only [Nat.zero_add] at hr
    have hge := grownCap_ge w ls.length 0 3
    have hcm := grownCap_le_maxLen w ls.length 0 3 (by simp [maxLen]; omega)
    refine ⟨_, _, hr, ⟨_, rfl, hge, by simpa [maxLen] using hcm, by simp, fun j hj => ?_⟩, (Ext.drew _).trans (Ext.alloc _ _)⟩
    have hB := Box.new w.drew ((([] : List Value).toArray ++ (ints ls).toArray ++ Builtin.zeroCells (Value.int .i64 0).cells (grownCap w ls.length 0 3 - ls.length))) 3
    refine ⟨hB.cell ?_, hB.frozen⟩
    rw [nth_eq]
    have hj' : j < (ints ls).length := by rw [hlen]; exact hj
    simp only [Array.toList_append, List.append_assoc, List.nil_append]
    rw [List.getElem?_append_left hj', ints_get, gi_get hj]
    rfl

section
variable {ops : Array Oper} {rest : List Oper} {o : Oper} {a : Act} {Q : Exit → Act → World → Prop} {w : World}
theorem wpList_append48 {N : Nat → Prop} {a0 : Addr} {vs : Value} {ls : List Int} (s x : Operand) (hg : o.guard = none) (hop : o.op = Op.call { callee := Callee.builtin Builtin.append, args := #[s, x], argTypes := #[48, 48] })
    (hs : a.eval s = .slice (some a0) 0 0) (hx : a.eval x = vs) (hrow : IsInts N w vs ls) (h0 : 0 < ls.length) (hm : ls.length ≤ 100000)
    (hK : ∀ v' w', Own w' v' ls w.heap.size → Ext w w' → wpList Proofs.Try.prog ops Q rest (a.put o.dst v') w') : wpList Proofs.Try.prog ops Q (o :: rest) a w := by
  refine wpList_plain hg fun K hK' => ?_
  obtain ⟨v', w', hrun, r1, r2⟩ := run_append_new a0 hrow h0 hm o.type
  unfold Oper.wp
  simp [execOp, hop, resolve, invoke, builtin, hs, hx, hrun, Result.andThen]
  exact hK' _ _ (hK v' w' r1 r2)
theorem wpList_copy48 {N : Nat → Prop} {vd vs : Value} {ld ls : List Int} {b : Nat} (s x : Operand) (hg : o.guard = none) (hop : o.op = Op.call { callee := Callee.builtin Builtin.copy, args := #[s, x], argTypes := #[48, 48] }) (hty : o.type = 3)
    (hs : a.eval s = vd) (hx : a.eval x = vs) (hd : Own w vd ld b) (hrow : IsInts N w vs ls) (hl : ld.length = ls.length) (h0 : 0 < ls.length)
    (hK : ∀ w', Own w' vd ls b → (∀ M, M b → Keep M w w') → (∀ a, Ext a w → a.heap.size ≤ b → Ext a w') → wpList Proofs.Try.prog ops Q rest (a.put o.dst (goInt ls.length)) w') : wpList Proofs.Try.prog ops Q (o :: rest) a w := by
  refine wpList_plain hg fun K hK' => ?_
  obtain ⟨w', hrun, r1, r2, r3⟩ := run_copy_own hd hrow hl h0
  unfold Oper.wp
  simp [execOp, hop, hty, resolve, invoke, builtin, hs, hx, hrun, Result.andThen]
  exact hK' _ _ (hK w' r1 r2 r3)
end
end Go.Proofs.Ytcfbdfgondmkoaa
