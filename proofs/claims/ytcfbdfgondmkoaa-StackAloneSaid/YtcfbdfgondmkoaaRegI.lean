/- The interface of the region's theorem: the obligations one by one. -/
import Derived.Test.YtcfbdfgondmkoaaReg
namespace Go.Proofs.Ytcfbdfgondmkoaa
open Go Go.RowKit

section
variable {P : Program} {ops : Array Oper} {Q : Exit → Act → World → Prop} {a0 : Act} {w0 : World} {X T L : List Nat} {G : List GP}

def EObl (P : Program) (ops : Array Oper) (a0 : Act) (w0 : World) (X T : List Nat) (G : List GP) (i : Nat) (o : Oper) (g : GP) : Prop :=
  ∀ a w, Since X w0 w → FrameAt ops a0 i a → Deps ops T G i a w → if Region.wanted o (yielded ops a.tmps) = true then Yes P o a w g else g undef w
def LObl (P : Program) (ops : Array Oper) (a0 : Act) (w0 : World) (X T : List Nat) (G : List GP) (i : Nat) (o : Oper) (g : GP) : Prop :=
  ∀ a w1 w, Since X w0 w1 → Since X w0 w → FrameAt ops a0 i a → Deps ops T G i a w1 → if Region.wanted o (yielded ops a.tmps) = true then Late P o a w1 w g else g undef w1
def SObl (P : Program) (ops : Array Oper) (a0 : Act) (w0 : World) (X T : List Nat) (G : List GP) (k i : Nat) (o : Oper) : Prop :=
  ∀ a w1 w, Since X w0 w1 → Since X w0 w → FrameAt ops a0 i a → Deps ops T G i a w1 → StoresRun P ops a (T.take k) w1 w → ∃ w', (execOp a.eval o).run P w = .ok .skip w' ∧ Since X w0 w'

/-- The obligations, in the text's order; l, G: what is left of the region and of the facts. -/
def Obls (P : Program) (ops : Array Oper) (a0 : Act) (w0 : World) (X T L : List Nat) (G0 : List GP) : Nat → List Oper → List GP → Prop
  | _, [], _ => True
  | i, o :: l, G => (match T.contains i, L.contains i with
      | true, _ => SObl P ops a0 w0 X T G0 (T.idxOf i) i o
      | false, true => LObl P ops a0 w0 X T G0 i o (G.headD anyG)
      | false, false => EObl P ops a0 w0 X T G0 i o (G.headD anyG)) ∧ Obls P ops a0 w0 X T L G0 (i + 1) l G.tail

def AllStable : List GP → Prop
  | [] => True
  | g :: l => Stable g ∧ AllStable l
theorem AllStable.mem : ∀ {G : List GP}, AllStable G → ∀ g ∈ G, Stable g
  | _ :: _, h, g, hg => by
    rcases List.mem_cons.1 hg with rfl | hg
    · exact h.1
    · exact AllStable.mem h.2 g hg

theorem Obls.at (l : List Oper) : ∀ (G' : List GP) (i j : Nat) (o : Oper), Obls P ops a0 w0 X T L G i l G' → l[j]? = some o →
    (T.contains (i + j) = true → SObl P ops a0 w0 X T G (T.idxOf (i + j)) (i + j) o) ∧
    (T.contains (i + j) = false → L.contains (i + j) = true → LObl P ops a0 w0 X T G (i + j) o (G'.getD j anyG)) ∧
    (T.contains (i + j) = false → L.contains (i + j) = false → EObl P ops a0 w0 X T G (i + j) o (G'.getD j anyG)) := by
  induction l with
  | nil => intro G' i j o _ ho; simp at ho
  | cons o1 l ih =>
    intro G' i j o h ho
    unfold Obls at h
    obtain ⟨h1, h2⟩ := h
    cases j with
    | zero =>
      simp at ho; subst ho
      simp only [Nat.add_zero]
      have hG : G'.headD anyG = G'.getD 0 anyG := by cases G' <;> rfl
      rw [hG] at h1
      refine ⟨fun hT => ?_, fun hT hL => ?_, fun hT hL => ?_⟩
      · rw [hT] at h1; exact h1
      · rw [hT, hL] at h1; exact h1
      · rw [hT, hL] at h1; exact h1
    | succ j =>
      have h3 := ih G'.tail (i + 1) j o h2 (by simpa using ho)
      have e1 : i + 1 + j = i + (j + 1) := by omega
      have e2 : G'.tail.getD j anyG = G'.getD (j + 1) anyG := by cases G' <;> simp
      rw [e1, e2] at h3
      exact h3

theorem region_lit {id : Nat} {l : List Oper} (T L X : List Nat) (G : List GP) (hm : P.follows .mixedOrders = true) (hc : chk l.toArray T L a0.tmps.size = true) (hG : AllStable G)
    (hop : Obls P l.toArray a0 w0 X T L G 0 l G)
    (hfin : ∀ w, Since X w0 w → FinAll T (fun a => ∀ w', StoresRun P l.toArray a T w w' → Q .normal a w') w l G 0 a0) : (Code.region id l.toArray true).wp P Q a0 w0 := by
  refine region_mono T L X G hm hc hG.mem (fun i o ho hT hL => ?_) (fun i o ho hL => ?_) (fun k o hk ho => ?_) (by simpa using hfin)
  · have := (Obls.at l G 0 i o hop (by simpa using ho)).2.2
    rw [Nat.zero_add] at this
    exact this hT hL
  · have h1 := (Obls.at l G 0 i o hop (by simpa using ho)).2.1
    rw [Nat.zero_add] at h1
    refine h1 ?_ hL
    simp only [chk, Bool.and_eq_true] at hc
    have := List.all_eq_true.1 hc.2 i (by simpa using hL)
    simpa using this
  · have h1 := (Obls.at l G 0 (T.getD k 0) o hop (by simpa using ho)).1
    rw [Nat.zero_add] at h1
    have hg : T.getD k 0 = T[k] := by rw [List.getD_eq_getElem?_getD, List.getElem?_eq_getElem hk]; rfl
    have h2 := h1 (by rw [hg]; simp)
    have hidx : T.idxOf (T.getD k 0) = k := by
      rw [hg]
      exact List.Nodup.idxOf_getElem (chk_nodup hc) k hk
    rw [hidx] at h2
    exact h2

/-! ### what an operation finds -/
/-- A list's n-th element (by structure: the unifier reckons it). -/
def nth {α : Type} : List α → Nat → Option α
  | [], _ => none
  | x :: _, 0 => some x
  | _ :: l, n + 1 => nth l n
theorem nth_eq {α : Type} : ∀ (l : List α) (n : Nat), nth l n = l[n]?
  | [], _ => by simp [nth]
  | x :: _, 0 => by simp [nth]
  | _ :: l, n + 1 => by simp [nth, nth_eq l n]
theorem nth_arr {α : Type} {cs : Array α} {n : Nat} {c : α} (h : nth cs.toList n = some c) : cs[n]? = some c := by rw [nth_eq] at h; simpa using h

def offB (ops : Array Oper) (i t : Nat) : Bool := (List.range ops.size).all fun j => match ops[j]? with | some o => o.dst != some t || waits ops j i | none => true
theorem FrameAt.off {a : Act} {i : Nat} (h : FrameAt ops a0 i a) (t : Nat) (ht : offB ops i t = true) {v : Value} (hv0 : nth a0.tmps.toList t = some v) : a.eval (.tmp t) = v := by
  have hv := nth_arr hv0
  have h1 : a.tmps[t]? = a0.tmps[t]? := by
    by_cases hw : ∃ (j : Nat) (o : Oper), ops[j]? = some o ∧ o.dst = some t
    · obtain ⟨j, o, ho, hd⟩ := hw
      have h2 := List.all_eq_true.1 ht j (List.mem_range.2 (Array.getElem?_eq_some_iff.1 ho).1)
      rw [ho] at h2
      simp only [hd, Bool.or_eq_true] at h2
      exact h.2 j o t ho (h2.resolve_left (by simp)) hd
    · exact h.1.2.2 t (fun j o ho hd => hw ⟨j, o, ho, hd⟩)
  show a.tmps.getD t undef = v
  rw [Array.getD_eq_getD_getElem?, h1, hv]; rfl

def depB (ops : Array Oper) (T : List Nat) (i j t : Nat) : Bool := waits ops i j && !T.contains j && (match ops[j]? with | some p => p.dst == some t | none => false)
theorem Deps.at {i : Nat} {a : Act} {w : World} (h : Deps ops T G i a w) (j t : Nat) (hb : depB ops T i j t = true) : (G.getD j anyG) (a.eval (.tmp t)) w := by
  simp only [depB, Bool.and_eq_true] at hb
  obtain ⟨oi, hoi, e, he, hbi, hon⟩ := waits_spec hb.1.1
  subst hon
  cases hp : ops[e.on]? with
  | none => rw [hp] at hb; cases hb.2
  | some p =>
    rw [hp] at hb
    have hd : p.dst = some t := by simpa using hb.2
    have := h oi hoi e he hbi (by simpa using hb.1.2) p hp
    rw [hd] at this
    exact this

section
variable {o : Oper} {a : Act} {w w1 : World} {g : GP} {c : Value}
theorem plain_ {A B : Prop} (hg : o.guard = none) (h : A) : if Region.wanted o (yielded ops a.tmps) = true then A else B := by
  rw [if_pos (by simp [Region.wanted, hg])]; exact h
theorem guard_on {A B : Prop} {j : Nat} {b : Bool} {t : Nat} (hg : o.guard = some (j, b)) (hj : (ops[j]?).bind (·.dst) = some t) (hv : a.eval (.tmp t) = .bool b) (h : A) : if Region.wanted o (yielded ops a.tmps) = true then A else B := by
  rw [if_pos]; exact h
  have hv' : a.tmps.getD t undef = .bool b := hv
  simp only [Region.wanted, hg, yielded, hj]
  rw [Array.getD_eq_getD_getElem?] at hv'
  cases hh : a.tmps[t]? with
  | none => rw [hh] at hv'; cases hv'
  | some x => rw [hh] at hv'; simp at hv'; subst hv'; simp [hh]
theorem guard_off {A B : Prop} {j : Nat} {b : Bool} {t : Nat} (hg : o.guard = some (j, b)) (hj : (ops[j]?).bind (·.dst) = some t) (hv : a.eval (.tmp t) = .bool !b) (h : B) : if Region.wanted o (yielded ops a.tmps) = true then A else B := by
  rw [if_neg]; exact h
  have hv' : a.tmps.getD t undef = .bool !b := hv
  simp only [Region.wanted, hg, yielded, hj]
  rw [Array.getD_eq_getD_getElem?] at hv'
  cases hh : a.tmps[t]? with
  | none => rw [hh] at hv'; cases hv'
  | some x => rw [hh] at hv'; simp at hv'; subst hv'; cases b <;> simp [hh]

theorem yes_eqv (h : (execOp a.eval o).run P w = .ok (.value c) w) (hd : o.dst.isSome = true) : Yes P o a w (eqv c) := by
  unfold Yes; rw [h]; exact ⟨Ext.refl _, rfl, fun h => by rw [h] at hd; cases hd⟩
theorem yes_val {v : Value} {w' : World} (h : (execOp a.eval o).run P w = .ok (.value v) w') (hx : Ext w w') (hg : g v w') (hd : o.dst.isSome = true) : Yes P o a w g := by
  unfold Yes; rw [h]; exact ⟨hx, hg, fun h => by rw [h] at hd; cases hd⟩
theorem yes_call {f : FuncId} {args : Array Value} (h : (execOp a.eval o).run P w = .ok (.enter f args) w) (hc : Calls P f args w fun e w'' => ∃ v, e = .returned v ∧ Ext w w'' ∧ g v w'') (hd : o.dst.isSome = true) : Yes P o a w g := by
  unfold Yes; rw [h]
  exact ⟨rfl, hc.mono fun e w'' ⟨v, h1, h2, h3⟩ => ⟨v, h1, h2, h3, fun h => by rw [h] at hd; cases hd⟩⟩
theorem late_eqv (h : (execOp a.eval o).run P w = .ok (.value c) w) (hd : o.dst.isSome = true) : Late P o a w1 w (eqv c) :=
  ⟨c, h, rfl, fun h => by rw [h] at hd; cases hd⟩
theorem late_val {v : Value} (h : (execOp a.eval o).run P w = .ok (.value v) w) (hg : g v w1) (hd : o.dst.isSome = true) : Late P o a w1 w g :=
  ⟨v, h, hg, fun h => by rw [h] at hd; cases hd⟩

/-- A call of a Go function with a body. -/
theorem run_call {c : Call} {f : FuncId} {fn : Func} (ho : o.op = .call c) (hc : c.callee = .value (.func f)) (hf : P.funcs[f]? = some fn) (hn : (fn.name == "runtime.NumGoroutine") = false) (hb : fn.body.isNone = false) {args : Array Value} (ha : c.args.map a.eval = args) :
    (execOp a.eval o).run P w = .ok (.enter f args) w := by
  obtain ⟨callee, cargs, ats⟩ := c
  simp only at hc ha
  subst hc ha
  have hn' : ¬ fn.name = "runtime.NumGoroutine" := by simpa using hn
  have hb' : ¬ fn.body = none := fun e => by rw [e] at hb; cases hb
  simp [execOp, ho, resolve, Act.eval, Deferred.ofValue, invoke, callFunc, hf, hn', hb']
end
end
end Go.Proofs.Ytcfbdfgondmkoaa
