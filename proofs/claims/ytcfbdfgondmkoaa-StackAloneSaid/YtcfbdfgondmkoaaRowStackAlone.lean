/- StackAlone: its walk lifted to the given statement. -/
import Derived.Test.YtcfbdfgondmkoaaStk4
import Derived.Test.YtcfbdfgondmkoaaAr6
import Derived.Test.YtcfbdfgondmkoaaShown4
import Derived.Test.YtcfbdfgondmkoaaRows
import Derived.Test.YtcfbdfgondmkoaaRdM
import Derived.Test.YtcfbdfgondmkoaaClosed
import Derived.WalkKit
import Derived.ProofKit
import Derived.OpenShut
import Derived.ShutString
import Derived.ChangeOld
import Derived.Below
namespace Go.Proofs.Ytcfbdfgondmkoaa
open Go Go.RowKit
set_option linter.unusedSimpArgs false
set_option linter.unusedVariables false
set_option linter.unnecessarySimpa false
set_option linter.unusedVariables false

section
variable {c n T : Nat} {s : SysD} {own : List (List Int)} {X L : List Int}
theorem Inv.walk (I : Inv c n T s own X L) : walkD s.M = (L, true) := walk_chain I.n2 I.lG I.lW I.chain I.nodup
theorem Inv.at (I : Inv c n T s own [] L) {p : Int} (h1 : 1 ≤ p) (h2 : p ≤ n) :
    held p own s.C ≤ 1 ∧ (L.elem p = decide (held p own s.C = 0)) ∧ (L.elem p = decide (gi s.M.G p.toNat = 0)) ∧ (L.elem p = false → gi s.M.G p.toNat = 1) := by
  have ha := I.all p
  rw [if_pos ⟨h1, h2⟩] at ha
  have hg := I.free p h1 h2
  by_cases hp : p ∈ L
  · have := List.count_pos_iff.2 hp
    rw [if_pos hp] at hg
    have he : L.elem p = true := by simpa using hp
    rw [he]
    have h0 : held p own s.C = 0 := by simp at ha; omega
    simp [hg, h0]
  · have := List.count_eq_zero.2 hp
    rw [if_neg hp] at hg
    have he : L.elem p = false := by simpa using hp
    rw [he]
    have h0 : held p own s.C = 1 := by simp at ha; omega
    simp [hg, h0]
theorem Inv.count (I : Inv c n T s own X L) : countD s.M.G 1 0 = 0 ↔ L = [] := by
  unfold countD
  have hG := I.lG
  rw [List.count_eq_zero]
  constructor
  · intro h
    cases L with
    | nil => rfl
    | cons q l =>
      exfalso
      obtain ⟨h1, h2⟩ := I.chain.mem (q := q) (by simp)
      have h3 := I.free q h1 h2
      rw [if_pos (by simp)] at h3
      apply h
      rw [List.mem_iff_getElem?]
      refine ⟨q.toNat - 1, ?_⟩
      rw [List.getElem?_drop, show 1 + (q.toNat - 1) = q.toNat by omega]
      unfold gi at h3
      rw [List.getD_eq_getElem?_getD] at h3
      obtain ⟨x, hx⟩ := getSome' (show q.toNat < s.M.G.length by omega)
      rw [hx] at h3 ⊢
      simpa using h3
  · intro h hm
    subst h
    rw [List.mem_iff_getElem?] at hm
    obtain ⟨i, hi⟩ := hm
    rw [List.getElem?_drop] at hi
    have hlt := get_lt hi
    have h3 := I.free ((1 + i : Nat) : Int) (by omega) (by omega)
    rw [if_neg (by simp)] at h3
    unfold gi at h3
    rw [List.getD_eq_getElem?_getD] at h3
    rw [show ((1 + i : Nat) : Int).toNat = 1 + i by omega, hi] at h3
    simp at h3
theorem Inv.top (I : Inv c n T s own X L) {i : Nat} {cc : CoreD} (h : s.C[i]? = some cc) : (topD s i = Option.none ∧ cc.F = []) ∨ ∃ f, topD s i = some f ∧ cc.F = [f] ∧ FrOk n T s.M.W f := by
  rcases I.cores i cc h with h0 | ⟨f, hf, hok⟩
  · exact .inl ⟨by rw [top_at h, h0]; rfl, h0⟩
  · exact .inr ⟨f, by rw [top_at h, hf]; rfl, hf, hok⟩
/-- the step of a core that is at nothing -/
theorem step4_idle {i : Nat} (h : topD s i = Option.none) : step4 s i = s := by unfold step4; rw [h]
/-- a pop's first step ends just where no node is free -/
theorem full_step (I : Inv c n T s own [] L) {i : Nat} {cc : CoreD} {f : FrameD} (hk : s.C[i]? = some cc) (hf : cc.F = [f]) (hT : T < 1000000) (hop : f.op = 1) (hpc : f.pc = 0) :
    ∃ cc', (step4 s i).C = s.C.set i cc' ∧ ((countD s.M.G 1 0 = 0 ∧ cc'.F = [] ∧ cc'.E = 2 ∧ (step4 s i).L.length = s.L.length + 1) ∨ (countD s.M.G 1 0 ≠ 0 ∧ cc'.F.length = 1)) := by
  obtain ⟨cc', hC, hst⟩ := step_inv I hk hf hT
  refine ⟨cc', hC, ?_⟩
  rcases hst with ⟨g, hg, _, _, h1⟩ | ⟨_, _, _, h4, _⟩ | ⟨_, _, _, h4, _⟩ | ⟨h1, h2, _, _, h5, h6, _⟩
  · exact .inr ⟨fun h => h1 hop hpc (I.count.1 h), by rw [hg]; rfl⟩
  · omega
  · omega
  · exact .inl ⟨I.count.2 h5, h1, h2, h6⟩
/-- the head's tag behind a step -/
theorem tag_step (I : Inv c n T s own [] L) {i : Nat} {cc : CoreD} {f : FrameD} (hk : s.C[i]? = some cc) (hf : cc.F = [f]) (hT : T < 1000000) :
    ∃ cc', (step4 s i).C = s.C.set i cc' ∧ (step4 s i).M.W.length = s.M.W.length ∧
      ((cc'.F = [] ∧ cc'.E = 0 ∧ tagI (gi (step4 s i).M.W 0) = tagI (gi s.M.W 0) + 1) ∨ ((cc'.F.length = 1 ∨ cc'.F = [] ∧ cc'.E = 2) ∧ gi (step4 s i).M.W 0 = gi s.M.W 0)) := by
  obtain ⟨cc', hC, hst⟩ := step_inv I hk hf hT
  refine ⟨cc', hC, ?_⟩
  rcases hst with ⟨g, hg, h0, I2, h1⟩ | ⟨h1, h2, _, h4, _, _, _, I2⟩ | ⟨h1, h2, _, h4, _, _, I2⟩ | ⟨h1, h2, _, _, h5, h6, h7, I2⟩
  · exact ⟨by rw [I2.lW, I.lW], .inr ⟨.inl (by rw [hg]; rfl), h0.2.1⟩⟩
  · exact ⟨by rw [I2.lW, I.lW], .inl ⟨h1, h2, by rw [I2.tag, I.tag]; rfl⟩⟩
  · exact ⟨by rw [I2.lW, I.lW], .inl ⟨h1, h2, by rw [I2.tag, I.tag]; rfl⟩⟩
  · exact ⟨by rw [h7], .inr ⟨.inr ⟨h1, h2⟩, by rw [h7]⟩⟩
end

/-- one round: each core takes a step, till one ends -/
def freeIn (c : Nat) (t : Int) : Nat → Nat → SysD → SysD × Bool
  | 0, _, s => (s, false)
  | k + 1, i, s => if (topD (step4 s (((i : Int) + t) % c).toNat) (((i : Int) + t) % c).toNat).isSome then freeIn c t k (i + 1) (step4 s (((i : Int) + t) % c).toNat) else (step4 s (((i : Int) + t) % c).toNat, true)
def freeOut (c : Nat) : List Int → SysD → SysD × Bool
  | [], s => (s, false)
  | t :: ts, s => if (freeIn c t c 0 s).2 then ((freeIn c t c 0 s).1, true) else freeOut c ts (freeIn c t c 0 s).1
/-- a core at an op that nothing disturbed: so many steps from its end -/
def Near (s : SysD) (j r : Nat) : Prop := ∃ cc f, s.C[j]? = some cc ∧ cc.F = [f] ∧ ((f.pc = 0 ∧ r = 3) ∨ (f.pc = 1 ∧ reg f = gi s.M.W 0 ∧ r = 2) ∨ (f.pc = 2 ∧ reg f = gi s.M.W 0 ∧ r = 1))
def Busy (c n T : Nat) (s : SysD) (own : List (List Int)) : Prop := (∃ L, Inv c n T s own [] L) ∧ ∀ (i : Nat) cc, s.C[i]? = some cc → cc.F.length = 1
theorem busy_step {c n T : Nat} {s : SysD} {own : List (List Int)} {i j r : Nat} (hB : Busy c n T s own) (hN : Near s j r) (hi : i < c) (hT : T < 1000000) :
    (topD (step4 s i) i).isSome = false ∨ (topD (step4 s i) i).isSome = true ∧ Busy c n T (step4 s i) own ∧ Near (step4 s i) j (if i = j then r - 1 else r) ∧ (i = j → 1 < r) := by
  obtain ⟨⟨L, I⟩, hall⟩ := hB
  obtain ⟨cc, hcc⟩ := getSome' (show i < s.C.length by rw [I.lc]; exact hi)
  obtain ⟨f, hf⟩ : ∃ f, cc.F = [f] := List.length_eq_one_iff.1 (hall i cc hcc)
  obtain ⟨cc', hC, hst⟩ := step_inv I hcc hf hT
  have hki := get_lt hcc
  have hget : (step4 s i).C[i]? = some cc' := by rw [hC]; simp [hki]
  have hoth : ∀ q, q ≠ i → (step4 s i).C[q]? = s.C[q]? := fun q hq => by rw [hC, List.getElem?_set_ne (Ne.symm hq)]
  have hno : cc'.F = [] → (topD (step4 s i) i).isSome = false := fun h => by rw [top_at hget, h]; rfl
  rcases hst with ⟨g, hg, ⟨g1, g2, g3, g4⟩, I2, _⟩ | ⟨h1, _⟩ | ⟨h1, _⟩ | ⟨h1, _⟩
  · right
    refine ⟨by rw [top_at hget, hg]; rfl, ⟨⟨L, I2⟩, fun q cq hq => ?_⟩, ?_⟩
    · by_cases hqi : q = i
      · subst hqi; rw [hget] at hq; cases hq; rw [hg]; rfl
      · rw [hoth q hqi] at hq; exact hall q cq hq
    · obtain ⟨cj, fj, hj, hfj, hn⟩ := hN
      by_cases hij : i = j
      · subst hij
        rw [hcc] at hj; cases hj
        obtain rfl : f = fj := by rw [hf] at hfj; simpa using hfj
        rw [if_pos rfl]
        have hreg : reg g = gi g.R (if f.op = 1 then 0 else 1) := by unfold reg; rw [g1]
        rcases hn with ⟨n1, rfl⟩ | ⟨n1, n2, rfl⟩ | ⟨n1, n2, rfl⟩
        · rcases g4 with ⟨_, g5, g6⟩ | ⟨g5, _⟩ | ⟨g5, _⟩
          · exact ⟨⟨cc', g, hget, hg, .inr (.inl ⟨g5, by rw [hreg, g6, g2], rfl⟩)⟩, fun _ => by omega⟩
          · omega
          · omega
        · rcases g4 with ⟨g5, _⟩ | ⟨_, g5, g6⟩ | ⟨g5, _⟩
          · omega
          · exact ⟨⟨cc', g, hget, hg, .inr (.inr ⟨g5, by rw [hreg, g6, g2]; exact n2, rfl⟩)⟩, fun _ => by omega⟩
          · omega
        · rcases g4 with ⟨g5, _⟩ | ⟨g5, _⟩ | ⟨_, _, g6⟩
          · omega
          · omega
          · exact absurd n2 g6
      · rw [if_neg hij]
        exact ⟨⟨cj, fj, by rw [hoth j (Ne.symm hij)]; exact hj, hfj, by rw [g2]; exact hn⟩, fun h => absurd h hij⟩
  · exact .inl (hno h1)
  · exact .inl (hno h1)
  · exact .inl (hno h1)
theorem near_lo {s : SysD} {j r : Nat} (h : Near s j r) : 1 ≤ r := by
  obtain ⟨_, _, _, _, h⟩ := h
  rcases h with ⟨_, rfl⟩ | ⟨_, _, rfl⟩ | ⟨_, _, rfl⟩ <;> omega
/-- a round, from its i-th turn on: it ends, or core j is one step nearer, if it was still to come -/
theorem freeIn_near {c n T : Nat} {own : List (List Int)} {j : Nat} {t : Int} (hc : 1 ≤ c) (hT : T < 1000000) : ∀ (k i r : Nat) (s : SysD), Busy c n T s own → Near s j r →
    (freeIn c t k i s).2 = true ∨ (freeIn c t k i s).2 = false ∧ Busy c n T (freeIn c t k i s).1 own ∧ ∃ r', Near (freeIn c t k i s).1 j r' ∧ r' ≤ r ∧ ((∃ q, i ≤ q ∧ q < i + k ∧ (((q : Int) + t) % c).toNat = j) → r' < r)
  | 0, i, r, s, hB, hN => .inr ⟨rfl, hB, r, hN, Nat.le_refl _, fun ⟨q, h1, h2, _⟩ => by omega⟩
  | k + 1, i, r, s, hB, hN => by
    have hi : (((i : Int) + t) % c).toNat < c := by have := Int.emod_lt_of_pos ((i : Int) + t) (show (0 : Int) < c by omega); have := Int.emod_nonneg ((i : Int) + t) (show (c : Int) ≠ 0 by omega); omega
    unfold freeIn
    rcases busy_step hB hN hi hT with h | ⟨h1, h2, h3, h4⟩
    · rw [if_neg (by rw [h]; decide)]; exact .inl rfl
    · rw [if_pos h1]
      rcases freeIn_near (t := t) hc hT k (i + 1) _ _ h2 h3 with h | ⟨h5, h6, r', h7, h8, h9⟩
      · exact .inl h
      · refine .inr ⟨h5, h6, r', h7, ?_, fun ⟨q, q1, q2, q3⟩ => ?_⟩
        · split at h8 <;> omega
        · have hlo := near_lo h7
          by_cases hq : q = i
          · subst hq
            rw [if_pos q3] at h8 
            have := h4 q3
            omega
          · have := h9 ⟨q, by omega, by omega, q3⟩
            split at this <;> omega
theorem turn_hits {c j : Nat} (hj : j < c) (t : Int) : ∃ q : Nat, 0 ≤ q ∧ q < 0 + c ∧ (((q : Int) + t) % c).toNat = j := by
  have h1 := Int.emod_lt_of_pos ((j : Int) - t) (show (0 : Int) < c by omega)
  have h2 := Int.emod_nonneg ((j : Int) - t) (show (c : Int) ≠ 0 by omega)
  refine ⟨(((j : Int) - t) % c).toNat, by omega, by omega, ?_⟩
  rw [Int.toNat_of_nonneg h2, Int.emod_add_emod]
  rw [show (j : Int) - t + t = j by omega, Int.emod_eq_of_lt (by omega) (by omega)]
  rfl
theorem freeOut_ends {c n T : Nat} {own : List (List Int)} {j : Nat} (hc : 1 ≤ c) (hj : j < c) (hT : T < 1000000) : ∀ (ts : List Int) (r : Nat) (s : SysD), Busy c n T s own → Near s j r → r ≤ ts.length → (freeOut c ts s).2 = true
  | [], r, s, _, hN, h => by have := near_lo hN; simp at h; omega
  | t :: ts, r, s, hB, hN, h => by
    unfold freeOut
    rcases freeIn_near (t := t) hc hT c 0 r s hB hN with h1 | ⟨h1, h2, r', h3, _, h4⟩
    · rw [if_pos h1]
    · rw [if_neg (by rw [h1]; decide)]
      have := h4 (turn_hits hj t)
      exact freeOut_ends hc hj hT ts r' _ h2 h3 (by simp at h; omega)
/-- PROGRESS -/
theorem free_plain {c n k : Nat} {st : SysD × List (List Int)} (hc : 1 ≤ c) (hk : k ≤ 1000) (h : PlayInv c n k st) (hbusy : ∀ i, i < c → (topD st.1 i).isSome = true) (ts : List Int) (hts : ts.length = 4) : (freeOut c ts st.1).2 = true := by
  obtain ⟨T, L, hT, I, _, j, cj, hj, hfr⟩ := h
  have hB : Busy c n T st.1 st.2 := ⟨⟨L, I⟩, fun i cc hi => by
    have hlt := get_lt hi
    rw [I.lc] at hlt
    have := hbusy i hlt
    rcases I.top hi with ⟨h1, _⟩ | ⟨f, _, h2, _⟩
    · rw [h1] at this; cases this
    · rw [h2]; rfl⟩
  have hlt := get_lt hj
  rw [I.lc] at hlt
  rcases hfr with h | ⟨f, hf, h⟩
  · have := hB.2 j cj hj
    rw [h] at this; cases this
  · rcases I.cores j cj hj with h0 | ⟨g, hg, _, hok⟩
    · rw [hf] at h0; cases h0
    · obtain rfl : f = g := by rw [hf] at hg; simpa using hg
      have hpc : f.pc = 0 ∨ f.pc = 1 ∨ f.pc = 2 := by
        rcases hok with ⟨_, h | ⟨h, _⟩⟩ | ⟨_, _, _, h | ⟨h, _⟩⟩ <;> omega
      have : ∃ r, r ≤ 3 ∧ Near st.1 j r := by
        rcases hpc with h1 | h1 | h1
        · exact ⟨3, by omega, cj, f, hj, hf, .inl ⟨h1, rfl⟩⟩
        · exact ⟨2, by omega, cj, f, hj, hf, .inr (.inl ⟨h1, h.resolve_left (by omega), rfl⟩)⟩
        · exact ⟨1, by omega, cj, f, hj, hf, .inr (.inr ⟨h1, h.resolve_left (by omega), rfl⟩)⟩
      obtain ⟨r, hr, hN⟩ := this
      exact freeOut_ends hc hlt (by omega) ts r st.1 hB hN (by omega)
end Go.Proofs.Ytcfbdfgondmkoaa
namespace Go.Proofs.Ytcfbdfgondmkoaa
open Go Go.RowKit
set_option linter.unusedSimpArgs false
set_option linter.unusedVariables false
set_option linter.unnecessarySimpa false
set_option linter.unusedVariables false

def three4 (s : SysD) : SysD := step4 (step4 (step4 s 0) 0) 0
def pop3 (s : SysD) : SysD := three4 (callS s 0 1 [0, 0, 0])
def push3 (s : SysD) (p : Int) : SysD := three4 (callS s 0 2 [p, 0, 0])
/-- the one core, at nothing -/
def Idle (s : SysD) : Prop := ∃ cc, s.C[0]? = some cc ∧ cc.F = []
section
variable {n T : Nat} {s : SysD} {own : List (List Int)} {L : List Int}
theorem set0 {α : Type} {l : List α} (h : l.length = 1) (x : α) : (l.set 0 x)[0]? = some x := by simp [h]
theorem one_list {α : Type} {l : List α} {x : α} (h : l.length = 1) (hx : l[0]? = some x) : l = [x] := by
  obtain ⟨y, rfl⟩ := List.length_eq_one_iff.1 h
  simpa using hx
/-- a step that goes on, alone -/
theorem alone_goes (I : Inv 1 n T s own [] L) (hT : T < 1000000) {cc : CoreD} {f : FrameD} (hk : s.C[0]? = some cc) (hf : cc.F = [f]) {v : Int} (hpc : f.pc = 0 ∧ ¬ (f.op = 1 ∧ L = []) ∧ v = gi s.M.W 0 ∨ f.pc = 1 ∧ v = reg f) :
    ∃ cc' g, (step4 s 0).C[0]? = some cc' ∧ cc'.F = [g] ∧ g.op = f.op ∧ g.pc = f.pc + 1 ∧ reg g = v ∧ gi (step4 s 0).M.W 0 = gi s.M.W 0 ∧ (step4 s 0).L = s.L ∧ Inv 1 n T (step4 s 0) own [] L := by
  obtain ⟨cc', hC, hst⟩ := step_inv (k := 0) I hk hf hT
  have hget : (step4 s 0).C[0]? = some cc' := by
    have : (step4 s ((0 : Nat) : Int)).C[0]? = some cc' := by rw [hC]; exact set0 I.lc _
    exact this
  rcases hst with ⟨g, hg, ⟨g1, g2, g3, g4⟩, I2, _⟩ | ⟨_, _, _, h, _⟩ | ⟨_, _, _, h, _⟩ | ⟨_, _, h1, h2, h3, _⟩
  · refine ⟨cc', g, hget, hg, g1, ?_, ?_, g2, g3, I2⟩
    · rcases g4 with ⟨h1, h2, _⟩ | ⟨h1, h2, _⟩ | ⟨h1, _⟩ <;> omega
    · unfold reg
      rw [g1]
      rcases g4 with ⟨h1, _, h2⟩ | ⟨h1, _, h2⟩ | ⟨h1, _⟩
      · rcases hpc with ⟨_, _, h3⟩ | ⟨h3, _⟩
        · rw [h2, h3]
        · omega
      · rcases hpc with ⟨h3, _⟩ | ⟨_, h3⟩
        · omega
        · rw [h2, h3]; rfl
      · rcases hpc with ⟨h3, _⟩ | ⟨h3, _⟩ <;> omega
  · rcases hpc with ⟨h3, _⟩ | ⟨h3, _⟩ <;> omega
  · rcases hpc with ⟨h3, _⟩ | ⟨h3, _⟩ <;> omega
  · rcases hpc with ⟨_, h4, _⟩ | ⟨h4, _⟩
    · exact absurd ⟨h1, h3⟩ h4
    · omega
theorem call_inv (I : Inv 1 n T s own [] L) (hi : Idle s) {op : Int} {l : List Int} {own' : List (List Int)} (hl : own'.length = 1) (hok : CoreOk n T s.M.W { core0 with F := [newF op l] }) (h : ∀ p, (own'.map (List.count p)).sum + pushC p { core0 with F := [newF op l] } = (own.map (List.count p)).sum) :
    Inv 1 n T (callS s 0 op l) own' [] L ∧ ∃ cc, (callS s 0 op l).C[0]? = some cc ∧ cc.F = [newF op l] ∧ (callS s 0 op l).M = s.M ∧ (callS s 0 op l).L = s.L := by
  obtain ⟨cc, hcc, h0⟩ := hi
  have e : callS s 0 op l = { s with C := s.C.set 0 { cc with F := [newF op l] } } := call_at (k := 0) hcc h0 op l
  rw [e]
  have hk := get_lt hcc
  have hpc : ∀ p, pushC p { cc with F := [newF op l] } = pushC p { core0 with F := [newF op l] } := fun p => rfl
  refine ⟨?_, _, set0 I.lc _, rfl, rfl, rfl⟩
  exact { I with
    lc := by simpa using I.lc
    lo := hl
    cores := fun i ci hi => by
      rcases set_get hk hi with ⟨_, rfl⟩ | ⟨_, h⟩
      · rcases hok with h | ⟨f, hf, h⟩
        · cases h
        · exact .inr ⟨f, hf, h⟩
      · exact I.cores i ci h
    all := fun p => by
      have h1 := held_set (p := p) (own := own') (cc' := { cc with F := [newF op l] }) hcc
      rw [pushC_nil h0, hpc] at h1
      have h2 := I.all p
      have h3 := h p
      show L.count p + held p own' (s.C.set 0 _) + List.count p [] = _
      rw [← h2]
      unfold held at h1 ⊢
      omega }
theorem alone_pop {o : List Int} {q : Int} (I : Inv 1 n T s [o] [] (q :: L)) (hT : T < 1000000) (hi : Idle s) :
    Inv 1 n (T + 1) (pop3 s) [o ++ [q]] [] L ∧ (∃ cc, (pop3 s).C[0]? = some cc ∧ cc.F = [] ∧ cc.V = q ∧ cc.E = 0) ∧ (pop3 s).L = s.L := by
  obtain ⟨I0, c0, h0, hf0, hM0, hL0⟩ := call_inv I hi (op := 1) (l := [0, 0, 0]) (own' := [o]) rfl (.inr ⟨_, rfl, rfl, .inl ⟨rfl, .inl rfl⟩⟩) (fun p => by simp [pushC, newF])
  unfold pop3 three4
  obtain ⟨c1, f1, h1, hf1, ho1, hp1, hr1, hW1, hL1, I1⟩ := alone_goes I0 hT h0 hf0 (v := gi (callS s 0 1 [0, 0, 0]).M.W 0) (.inl ⟨rfl, (fun h => (by have := h.2; simp at this)), rfl⟩)
  obtain ⟨c2, f2, h2, hf2, ho2, hp2, hr2, hW2, hL2, I2⟩ := alone_goes I1 hT h1 hf1 (.inr ⟨hp1, rfl⟩)
  have hop : f2.op = 1 := by rw [ho2, ho1]; rfl
  have hpc : f2.pc = 2 := by rw [hp2, hp1]; rfl
  have hreg : reg f2 = gi (step4 (step4 (callS s 0 1 [0, 0, 0]) 0) 0).M.W 0 := by rw [hr2, hr1, hW2, hW1]
  obtain ⟨c3, hC, hst⟩ := step_inv (k := 0) I2 h2 hf2 hT
  have hget : (step4 (step4 (step4 (callS s 0 1 [0, 0, 0]) 0) 0) 0).C[0]? = some c3 := by
    have : (step4 (step4 (step4 (callS s 0 1 [0, 0, 0]) 0) 0) ((0 : Nat) : Int)).C[0]? = some c3 := by rw [hC]; exact set0 I2.lc _
    exact this
  rcases hst with ⟨g, hg, ⟨g1, g2, g3, g4⟩, _, _⟩ | ⟨e1, e2, e3, e4, e5, L', e6, I3⟩ | ⟨_, _, h, _⟩ | ⟨_, _, _, h, _⟩
  · rcases g4 with ⟨h, _⟩ | ⟨h, _⟩ | ⟨_, _, h⟩
    · omega
    · omega
    · exact absurd hreg h
  · cases e6
    refine ⟨inv_own (own' := [o ++ [c3.V]]) (X' := []) I3 rfl (fun p => by simp), ⟨c3, hget, e1, rfl, e2⟩, ?_⟩
    have e5' : (step4 (step4 (step4 (callS s 0 1 [0, 0, 0]) 0) 0) 0).L = _ := e5
    rw [e5', hL2, hL1, hL0]
  · omega
  · omega
theorem alone_full {o : List Int} (I : Inv 1 n T s [o] [] []) (hT : T < 1000000) (hi : Idle s) :
    Inv 1 n T (pop3 s) [o] [] [] ∧ (∃ cc, (pop3 s).C[0]? = some cc ∧ cc.F = [] ∧ cc.E = 2) ∧ (pop3 s).L.length = s.L.length + 1 := by
  obtain ⟨I0, c0, h0, hf0, hM0, hL0⟩ := call_inv I hi (op := 1) (l := [0, 0, 0]) (own' := [o]) rfl (.inr ⟨_, rfl, rfl, .inl ⟨rfl, .inl rfl⟩⟩) (fun p => by simp [pushC, newF])
  unfold pop3 three4
  obtain ⟨c3, hC, hst⟩ := step_inv (k := 0) I0 h0 hf0 hT
  have hget : (step4 (callS s 0 1 [0, 0, 0]) 0).C[0]? = some c3 := by
    have : (step4 (callS s 0 1 [0, 0, 0]) ((0 : Nat) : Int)).C[0]? = some c3 := by rw [hC]; exact set0 I0.lc _
    exact this
  rcases hst with ⟨g, hg, _, _, h⟩ | ⟨_, _, _, h, _⟩ | ⟨_, _, h, _⟩ | ⟨e1, e2, _, _, _, e6, _, I3⟩
  · exact absurd rfl (h rfl rfl)
  · cases h
  · cases h
  · have ht : topD (step4 (callS s 0 1 [0, 0, 0]) 0) 0 = Option.none := by
      have := top_at (k := 0) hget
      rw [e1] at this; exact this
    have hn : step4 (step4 (callS s 0 1 [0, 0, 0]) 0) 0 = step4 (callS s 0 1 [0, 0, 0]) 0 := step4_idle (i := 0) ht
    rw [hn, hn]
    refine ⟨I3, ⟨c3, hget, e1, e2⟩, ?_⟩
    have e6' : (step4 (callS s 0 1 [0, 0, 0]) 0).L.length = _ := e6
    rw [e6', hL0]
theorem alone_push {o : List Int} {q : Int} (I : Inv 1 n T s [q :: o] [] L) (hT : T < 1000000) (hi : Idle s) :
    Inv 1 n (T + 1) (push3 s q) [o] [] (q :: L) ∧ Idle (push3 s q) ∧ (push3 s q).L = s.L := by
  have hq : 1 ≤ q ∧ q ≤ n := by
    have h1 := I.all q
    unfold held at h1
    simp at h1
    split at h1
    · assumption
    · omega
  obtain ⟨I0, c0, h0, hf0, hM0, hL0⟩ := call_inv I hi (op := 2) (l := [q, 0, 0]) (own' := [o]) rfl (.inr ⟨_, rfl, rfl, .inr ⟨rfl, hq.1, hq.2, .inl rfl⟩⟩) (fun p => by
    rw [pushC_one rfl]
    have : (if (newF 2 [q, 0, 0]).op = 2 ∧ gi (newF 2 [q, 0, 0]).R 0 = p then 1 else 0) = if q = p then 1 else 0 := by rw [newF_reg]; simp [newF]
    rw [this]
    simp [count_cons_if])
  unfold push3 three4
  obtain ⟨c1, f1, h1, hf1, ho1, hp1, hr1, hW1, hL1, I1⟩ := alone_goes I0 hT h0 hf0 (v := gi (callS s 0 2 [q, 0, 0]).M.W 0) (.inl ⟨rfl, (fun h => (by have h' : (2 : Int) = 1 := h.1; omega)), rfl⟩)
  obtain ⟨c2, f2, h2, hf2, ho2, hp2, hr2, hW2, hL2, I2⟩ := alone_goes I1 hT h1 hf1 (.inr ⟨hp1, rfl⟩)
  have hop : f2.op = 2 := by rw [ho2, ho1]; rfl
  have hpc : f2.pc = 2 := by rw [hp2, hp1]; rfl
  have hreg : reg f2 = gi (step4 (step4 (callS s 0 2 [q, 0, 0]) 0) 0).M.W 0 := by rw [hr2, hr1, hW2, hW1]
  obtain ⟨c3, hC, hst⟩ := step_inv (k := 0) I2 h2 hf2 hT
  have hget : (step4 (step4 (step4 (callS s 0 2 [q, 0, 0]) 0) 0) 0).C[0]? = some c3 := by
    have : (step4 (step4 (step4 (callS s 0 2 [q, 0, 0]) 0) 0) ((0 : Nat) : Int)).C[0]? = some c3 := by rw [hC]; exact set0 I2.lc _
    exact this
  rcases hst with ⟨g, hg, ⟨g1, g2, g3, g4⟩, _, _⟩ | ⟨_, _, h, _⟩ | ⟨e1, e2, e3, e4, e5, e6, I3⟩ | ⟨_, _, h, _⟩
  · rcases g4 with ⟨h, _⟩ | ⟨h, _⟩ | ⟨_, _, h⟩
    · omega
    · omega
    · exact absurd hreg h
  · omega
  · have e5' : (step4 (step4 (step4 (callS s 0 2 [q, 0, 0]) 0) 0) 0).L = _ := e5
    have hr0 : gi f2.R 0 = q := by
      have h4 := I0.all q
      have h5 := I2.all q
      unfold held at h4 h5
      rw [one_list I0.lc h0] at h4
      rw [one_list I2.lc h2] at h5
      have h6 : pushC q c0 = 1 := by rw [pushC_one hf0, if_pos ⟨rfl, rfl⟩]
      simp only [List.map_cons, List.map_nil, List.sum_cons, List.sum_nil] at h4 h5
      have h7 : pushC q c2 = 1 := by omega
      rw [pushC_one hf2] at h7
      by_cases h8 : f2.op = 2 ∧ gi f2.R 0 = q
      · exact h8.2
      · rw [if_neg h8] at h7; cases h7
    rw [hr0] at I3
    exact ⟨I3, ⟨c3, hget, e1⟩, by rw [e5', hL2, hL1, hL0]⟩
  · omega
end
/-- so many pops, one behind the other -/
def pops : Nat → SysD → SysD
  | 0, s => s
  | k + 1, s => pop3 (pops k s)
def pushes : Nat → SysD → SysD
  | 0, s => s
  | k + 1, s => push3 (pushes k s) (k + 1 : Nat)
def dnl : Nat → List Int
  | 0 => []
  | k + 1 => ((k + 1 : Nat) : Int) :: dnl k
theorem dnl_get : ∀ (k i : Nat), i < k → gi (dnl k) i = (k : Int) - i
  | 0, _, h => by omega
  | k + 1, 0, _ => by simp [dnl, gi]
  | k + 1, i + 1, h => by
    have := dnl_get k i (by omega)
    simp [dnl, gi] at this ⊢
    rw [this]; omega
theorem dnl_length : ∀ k, (dnl k).length = k
  | 0 => rfl
  | k + 1 => by simp [dnl, dnl_length k]
theorem upl_snoc : ∀ (k i : Nat), upl (k + 1) i = upl k i ++ [((i + k : Nat) : Int)]
  | 0, i => by simp [upl]
  | k + 1, i => by
    rw [upl, upl_snoc k (i + 1), upl]
    simp; omega
theorem new4_one {n : Nat} (hn : 1 ≤ n) (hn' : n ≤ 200) : Inv 1 n 0 (new4 1 n) [[]] [] (upl n 1) ∧ Idle (new4 1 n) ∧ (new4 1 n).L = [] := by
  obtain ⟨T, L, hT, I, hL, _⟩ := new4_inv (c := 1) (by decide) (by decide) hn hn'
  obtain rfl : T = 0 := by omega
  have hnew : newD n = ⟨List.replicate (128 + 4 * n) 0, List.replicate (n + 1) 0, false⟩ := by unfold newD; rw [if_pos (by omega)]; simp
  have hs : newIs ((1 : Nat) : Int) n = true := by unfold newIs; simp; omega
  have hS : newS ((1 : Nat) : Int) n = ⟨newD n, List.replicate 1 core0, []⟩ := by unfold newS; rw [hs]; simp
  have hE : newSE ((1 : Nat) : Int) n = 0 := by unfold newSE; rw [hs]; rfl
  have h4 : new4 ((1 : Nat) : Int) n = memS ⟨newD n, List.replicate 1 core0, []⟩ (fillD (newD n)) := by unfold new4; rw [if_pos hE, hS]
  have hw := I.walk
  have hM : (new4 ((1 : Nat) : Int) n).M = fillD (newD n) := by rw [h4]; rfl
  have hw2 := fill_walk (m := newD n) hn hn' (by rw [hnew]; simp) (by rw [hnew]; simp)
  have hw3 : walkD (new4 ((1 : Nat) : Int) n).M = (L, true) := hw
  rw [hM, hw2] at hw3
  obtain rfl : upl n 1 = L := by injection hw3
  refine ⟨I, ⟨core0, ?_, rfl⟩, List.eq_nil_of_length_eq_zero (by simpa using hL)⟩
  show (new4 ((1 : Nat) : Int) n).C[0]? = _
  rw [h4]; rfl
/-- the nodes come in order -/
theorem pops_inv {n : Nat} (hn : 1 ≤ n) (hn' : n ≤ 200) : ∀ k, k ≤ n → Inv 1 n k (pops k (new4 1 n)) [upl k 1] [] (upl (n - k) (k + 1)) ∧ (pops k (new4 1 n)).L = [] ∧ ∃ cc, (pops k (new4 1 n)).C[0]? = some cc ∧ cc.F = [] ∧ (0 < k → cc.V = (k : Int) ∧ cc.E = 0)
  | 0, _ => by
    obtain ⟨I, ⟨cc, h1, h2⟩, h3⟩ := new4_one hn hn'
    exact ⟨I, h3, cc, h1, h2, fun h => absurd h (by decide)⟩
  | k + 1, hk => by
    obtain ⟨I, h1, cc, h2, h3, _⟩ := pops_inv hn hn' k (by omega)
    have e : upl (n - k) (k + 1) = ((k + 1 : Nat) : Int) :: upl (n - (k + 1)) (k + 1 + 1) := by
      rw [show n - k = n - (k + 1) + 1 by omega]; rfl
    rw [e] at I
    obtain ⟨I', ⟨c', h4, h5, h6, h7⟩, h8⟩ := alone_pop I (by omega) ⟨cc, h2, h3⟩
    rw [show upl k 1 ++ [((k + 1 : Nat) : Int)] = upl (k + 1) 1 by rw [upl_snoc, Nat.add_comm 1 k]] at I'
    exact ⟨I', h8.trans h1, c', h4, h5, fun _ => ⟨h6, h7⟩⟩
theorem upl_shift (m k : Nat) : upl (m + 1) k = (k : Int) :: upl m (k + 1) := rfl
theorem pushes_inv {n : Nat} (hn : 1 ≤ n) (hn' : n ≤ 200) : ∀ k, k ≤ n → Inv 1 n (n + k) (pushes k (pops (n + 1) (new4 1 n))) [upl (n - k) (k + 1)] [] (dnl k) ∧ (pushes k (pops (n + 1) (new4 1 n))).L.length = 1 ∧ Idle (pushes k (pops (n + 1) (new4 1 n)))
  | 0, _ => by
    obtain ⟨I, h1, cc, h2, h3, _⟩ := pops_inv hn hn' n (Nat.le_refl _)
    rw [Nat.sub_self] at I
    obtain ⟨I', ⟨c', h4, h5, h6⟩, h7⟩ := alone_full I (by omega) ⟨cc, h2, h3⟩
    exact ⟨I', by show (pop3 (pops n (new4 1 n))).L.length = _; rw [h7, h1]; rfl, c', h4, h5⟩
  | k + 1, hk => by
    obtain ⟨I, h1, h2⟩ := pushes_inv hn hn' k (by omega)
    rw [show n - k = n - (k + 1) + 1 by omega, upl_shift] at I
    obtain ⟨I', h3, h4⟩ := alone_push I (by omega) h2
    exact ⟨I', by show (push3 _ _).L.length = _; rw [h4, h1], h3⟩
theorem last_full {n : Nat} (hn : 1 ≤ n) (hn' : n ≤ 200) : ∃ cc, (pops (n + 1) (new4 1 n)).C[0]? = some cc ∧ cc.F = [] ∧ cc.E = 2 := by
  obtain ⟨I, h1, cc, h2, h3, _⟩ := pops_inv hn hn' n (Nat.le_refl _)
  rw [Nat.sub_self] at I
  exact (alone_full I (by omega) ⟨cc, h2, h3⟩).2.1
end Go.Proofs.Ytcfbdfgondmkoaa
namespace Go.Proofs.Ytcfbdfgondmkoaa
open Go Go.RowKit
set_option linter.unusedSimpArgs false
set_option linter.unusedVariables false
set_option linter.unnecessarySimpa false

def Wk (c n k : Nat) (s : SysD) : Prop := (∃ T own L, T ≤ k ∧ Inv c n T s own [] L) ∧ s.L.length ≤ k
theorem Wk.ok {c n k : Nat} {s : SysD} (h : Wk c n k s) (hc : c ≤ 100) (hk : k ≤ 100000) : s.C.length ≤ 100000 ∧ (∀ (i : Nat) c, s.C[i]? = some c → c.F.length ≤ 100000) ∧ Fits s.M ∧ s.L.length ≤ 100000 := by
  obtain ⟨⟨T, own, L, hT, I⟩, hL⟩ := h
  refine ⟨by rw [I.lc]; omega, fun i cc hi => ?_, ?_, by omega⟩
  · rcases I.cores i cc hi with h | ⟨f, h, _⟩ <;> rw [h] <;> simp
  · have h1 := I.lW; have h2 := I.lG; have h3 := I.n2
    exact ⟨by rw [h1, h2]; omega, by omega, by omega⟩
theorem Wk.mono {c n k l : Nat} {s : SysD} (h : Wk c n k s) (hl : k ≤ l) : Wk c n l s := by
  obtain ⟨⟨T, own, L, hT, I⟩, hL⟩ := h
  exact ⟨⟨T, own, L, by omega, I⟩, by omega⟩
theorem Wk.step {c n k i : Nat} {s : SysD} (h : Wk c n k s) (hk : k < 1000000) (hi : i < c) : Wk c n (k + 1) (step4 s (i : Nat)) := by
  obtain ⟨⟨T, own, L, hT, I⟩, hL⟩ := h
  obtain ⟨cc, hcc⟩ := getSome' (show i < s.C.length by rw [I.lc]; exact hi)
  rcases I.top hcc with ⟨h1, _⟩ | ⟨f, h1, hf, _⟩
  · rw [show step4 s (i : Nat) = s from step4_idle h1]
    exact ⟨⟨T, own, L, by omega, I⟩, by omega⟩
  obtain ⟨cc', hC, hst⟩ := step_inv I hcc hf (by omega)
  obtain ⟨o, ho⟩ := getSome' (show i < own.length by rw [I.lo]; exact hi)
  rcases hst with ⟨g, hg, ⟨g1, g2, g3, g4⟩, I2, _⟩ | ⟨h1, h2, h3, h4, h5, L', h6, I2⟩ | ⟨h1, h2, h3, h4, h5, h6, I2⟩ | ⟨h1, h2, h3, h4, h5, h6, h7, I2⟩
  · exact ⟨⟨T, own, L, by omega, I2⟩, by rw [g3]; omega⟩
  · refine ⟨⟨T + 1, own.set i (o ++ [cc'.V]), L', by omega, inv_own I2 (by simp) fun p => ?_⟩, by rw [h5]; omega⟩
    have := sum_own_set ho (o ++ [cc'.V]) p
    rw [List.count_append] at this
    simp at this ⊢
    omega
  · exact ⟨⟨T + 1, own, _, by omega, I2⟩, by rw [h5]; omega⟩
  · exact ⟨⟨T, own, _, by omega, I2⟩, by rw [h6]; omega⟩
def st4 : Nat → SysD → SysD
  | 0, s => s
  | j + 1, s => step4 (st4 j s) 0
theorem st4_wk {n k : Nat} {s : SysD} (h : Wk 1 n k s) (hk : k ≤ 1000) : ∀ j, j ≤ 100 → Wk 1 n (k + j) (st4 j s)
  | 0, _ => h
  | j + 1, hj => (st4_wk h hk j (by omega)).step (i := 0) (by omega) (by omega)
theorem pop_wk {n k : Nat} (hn : 1 ≤ n) (hn' : n ≤ 200) (hk : k ≤ n) : Wk 1 n n (callS (pops k (new4 1 n)) 0 1 [0, 0, 0]) := by
  obtain ⟨I, h1, cc, h2, h3, _⟩ := pops_inv hn hn' k hk
  obtain ⟨I0, c0, h0, hf0, hM0, hL0⟩ := call_inv I ⟨cc, h2, h3⟩ (op := 1) (l := [0, 0, 0]) (own' := [upl k 1]) rfl (.inr ⟨_, rfl, rfl, .inl ⟨rfl, .inl rfl⟩⟩) (fun p => by simp [pushC, newF])
  exact ⟨⟨_, _, _, hk, I0⟩, by rw [hL0, h1]; simp⟩
theorem push_wk {n k : Nat} (hn : 1 ≤ n) (hn' : n ≤ 200) (hk : k < n) : Wk 1 n (n + n) (callS (pushes k (pops (n + 1) (new4 1 n))) 0 2 [((k + 1 : Nat) : Int), 0, 0]) := by
  obtain ⟨I, h1, h2⟩ := pushes_inv hn hn' k (by omega)
  rw [show n - k = n - (k + 1) + 1 by omega, upl_shift] at I
  obtain ⟨I0, c0, h0, hf0, hM0, hL0⟩ := call_inv I h2 (op := 2) (l := [((k + 1 : Nat) : Int), 0, 0]) (own' := [upl (n - (k + 1)) (k + 1 + 1)]) rfl (.inr ⟨_, rfl, rfl, .inr ⟨rfl, (show (1 : Int) ≤ ((k + 1 : Nat) : Int) by omega), (show ((k + 1 : Nat) : Int) ≤ n by omega), .inl rfl⟩⟩) (fun p => by
    rw [pushC_one rfl]
    have : (if (newF 2 [((k + 1 : Nat) : Int), 0, 0]).op = 2 ∧ gi (newF 2 [((k + 1 : Nat) : Int), 0, 0]).R 0 = p then 1 else 0) = if ((k + 1 : Nat) : Int) = p then 1 else 0 := by rw [newF_reg]; simp [newF]
    rw [this]
    simp [count_cons_if])
  exact ⟨⟨_, _, _, by omega, I0⟩, by rw [hL0, h1]; omega⟩
/-- what is read of a state -/
def Sh1 (n l : Nat) (s : SysD) : Prop := s.M.W.length = 128 + 4 * n ∧ s.M.G.length = n + 1 ∧ s.M.bad = false ∧ s.C.length = 1 ∧ s.L.length = l
theorem pops_sh {n k : Nat} (hn : 1 ≤ n) (hn' : n ≤ 200) (hk : k ≤ n) : Sh1 n 0 (pops k (new4 1 n)) ∧ ∃ cc, (pops k (new4 1 n)).C[0]? = some cc ∧ cc.F = [] ∧ (0 < k → cc.V = (k : Int) ∧ cc.E = 0) := by
  obtain ⟨I, h1, h2⟩ := pops_inv hn hn' k hk
  exact ⟨⟨I.lW, I.lG, I.ok, I.lc, by rw [h1]; rfl⟩, h2⟩
theorem pushes_sh {n k : Nat} (hn : 1 ≤ n) (hn' : n ≤ 200) (hk : k ≤ n) : Sh1 n 1 (pushes k (pops (n + 1) (new4 1 n))) := by
  obtain ⟨I, h1, h2⟩ := pushes_inv hn hn' k hk
  exact ⟨I.lW, I.lG, I.ok, I.lc, h1⟩
theorem pushes_end {n : Nat} (hn : 1 ≤ n) (hn' : n ≤ 200) : walkD (pushes n (pops (n + 1) (new4 1 n))).M = (dnl n, true) ∧ tagI (gi (pushes n (pops (n + 1) (new4 1 n))).M.W 0) = ((n + n : Nat) : Int) := by
  obtain ⟨I, h1, h2⟩ := pushes_inv hn hn' n (Nat.le_refl _)
  exact ⟨I.walk, I.tag⟩
end Go.Proofs.Ytcfbdfgondmkoaa
namespace Go.Proofs.Ytcfbdfgondmkoaa
open Go Go.RowKit
set_option linter.unusedSimpArgs false
set_option linter.unusedVariables false
set_option linter.unnecessarySimpa false

def AlR (w wk : World) (s : SysD) (wr : World) : Prop :=
  ∃ v0 v1 v2 v3 v4, Box wr wk.heap.size #[v0, v1, v2, v3, v4] 83 ∧ IsSys (Bx no wk.heap.size (wk.heap.size + 1)) wr (.agg #[v0, v1, v2, v3, v4]) s ∧ Ext w wr ∧ Ext wk wr
theorem pops_c {n k : Nat} (hn : 1 ≤ n) (hn' : n ≤ 200) (hk : k ≤ n + 1) : (pops k (new4 1 (n : Int))).C.length = 1 := by
  by_cases h : k ≤ n
  · exact (pops_sh hn hn' h).1.2.2.2.1
  · obtain rfl : k = n + 1 := by omega
    exact (pushes_sh (k := 0) hn hn' (by omega)).2.2.2.1
set_option maxHeartbeats 4000000 in
set_option maxRecDepth 100000 in
theorem stackAlone_ (z : Int) (w : World) (hz0 : 0 ≤ z) (hz9 : z ≤ 255) : Gives Proofs.Try.prog 33 #[.int .u8 z] w (eqv (.bool true)) := by
  obtain ⟨n, hn⟩ : ∃ n : Nat, (n : Int) = 1 + z % 40 := ⟨(1 + z % 40).toNat, by omega⟩
  have n1 : 1 ≤ n := by omega
  have n40 : n ≤ 40 := by omega
  have n200 : n ≤ 200 := by omega
  have hz3 : 1 + z % 40 = (n : Int) := hn.symm
  clear hn
  have F1 := Lib.hid (fun (k : Nat) (hk : k ≤ n) => pop_wk (k := k) n1 n200 hk)
  have F2 := Lib.hid (fun (k : Nat) (hk : k < n) => push_wk (k := k) n1 n200 hk)
  have F3 := Lib.hid (fun (k : Nat) (hk : k ≤ n) => pops_sh (k := k) n1 n200 hk)
  have F4 := Lib.hid (fun (k : Nat) (hk : k ≤ n) => pushes_sh (k := k) n1 n200 hk)
  have F5 := Lib.hid (last_full n1 n200)
  have F6 := Lib.hid (pushes_end n1 n200)
  have F7 := Lib.hid (fun (k : Nat) (hk : k ≤ n + 1) => pops_c (k := k) n1 n200 hk)
  have F8 := Lib.hid (fun w' => refNew4_ no 1 (n : Int) w' no_lt (show newIs 1 (n : Int) = true by unfold newIs; simp; omega))
  generalize new4 1 (n : Int) = S0 at F1 F2 F3 F4 F5 F6 F7 F8
  go_enter Proofs.Try.func33, Proofs.Try.ntmps33
  go_wp2_with (fail)
  go_at_call 104
  refine (shown4_ _).calls.mono ?_
  rintro e w1 ⟨_, rfl, hb1, rfl⟩
  have s1 : w.heap.size ≤ w1.heap.size := (by have h := hb1.size; first | omega | (simp at h; omega))
  go_wp2_with (fail)
  go_at_call 115
  refine (F8.out _).calls.mono ?_
  rintro e w2 ⟨_, rfl, hb2, hs0⟩
  obtain ⟨y1, y2, y3, y4, y5, y6, y7, y8, rfl, sW, sG, sC, sL⟩ := hs0.opened
  have s2 : w1.heap.size ≤ w2.heap.size := (by have h := hb2.size; first | omega | (simp at h; omega))
  go_wp2
  clear hz3 hz0
  have hWk : Ext w w2 := (by with_reducible (repeat (first | assumption | exact Ext.refl _ | refine Ext.alloc' ?_ _ | refine Ext.store0 ?_ _ _ | refine Ext.storek ?_ _ _ _ | refine Ext.stores0 ?_ ?_ _ _ | refine Ext.storesk ?_ ?_ _ _ _ | refine Ext.drewN' ?_ _ | refine Ext.drew' ?_ | refine Ext.trans ?_ (by assumption))))
  go_loopw [6] (fun i wr => ∃ (k : Nat) (p : Int), i = .int .i64 p ∧ p = (k : Int) + 1 ∧ k ≤ n + 1 ∧ AlR w w2 (pops k S0) wr) (fun i _ => n + 2 - (intOf i).toNat)
  case atStart => exact ⟨0, 1, rfl, rfl, by omega, _, _, _, _, _, (Box.newAt _ _ _ (by first | rfl | simp)), (IsSys.bxn hs0).ext (by with_reducible (repeat (first | assumption | exact Ext.refl _ | refine Ext.alloc' ?_ _ | refine Ext.store0 ?_ _ _ | refine Ext.storek ?_ _ _ _ | refine Ext.stores0 ?_ ?_ _ _ | refine Ext.storesk ?_ ?_ _ _ _ | refine Ext.drewN' ?_ _ | refine Ext.drew' ?_ | refine Ext.trans ?_ (by assumption)))), (by with_reducible (repeat (first | assumption | exact Ext.refl _ | refine Ext.alloc' ?_ _ | refine Ext.store0 ?_ _ _ | refine Ext.storek ?_ _ _ _ | refine Ext.stores0 ?_ ?_ _ _ | refine Ext.storesk ?_ ?_ _ _ _ | refine Ext.drewN' ?_ _ | refine Ext.drew' ?_ | refine Ext.trans ?_ (by assumption)))), (by with_reducible (repeat (first | assumption | exact Ext.refl _ | refine Ext.alloc' ?_ _ | refine Ext.store0 ?_ _ _ | refine Ext.storek ?_ _ _ _ | refine Ext.stores0 ?_ ?_ _ _ | refine Ext.storesk ?_ ?_ _ _ _ | refine Ext.drewN' ?_ _ | refine Ext.drew' ?_ | refine Ext.trans ?_ (by assumption))))⟩
  case round =>
    obtain ⟨k, p, rfl, hpk0, hk, hal⟩ := hrel
    have hpk1 : p ≤ (k : Int) + 1 := by omega
    have hpk2 : (k : Int) + 1 ≤ p := by omega
    clear hpk0
    obtain ⟨v0, v1, v2, v3, v4, hbx, hsys, hWx, hKx⟩ := hal
    obtain ⟨w9, rfl⟩ : ∃ w9 : World, w9 = wr := ⟨_, rfl⟩
    have sw9 : w2.heap.size < w9.heap.size := hbx.lt
    by_cases hlt : k < n + 1
    · have q1 : p ≤ (n : Int) + 1 := by omega
      have p0 : 1 ≤ p := by omega
      have wkp := F1.out k (by omega)
      have CL := (wkp.ok (by omega) (by omega)).1
      obtain ⟨cT_0, cT_1, cT_2, cT_3, cT_4, dT_0, dT_1, dT_2, dT_3, dT_4⟩ := cells5 hbx
      have zT : w2.heap.size < w9.heap.size := hbx.lt
      have PSH : (pops k S0).C.length = 1 := F7.out k hk
      go_wp2_with (fail)
      go_at_call 88
      refine (refCall_ (Bx no w2.heap.size (w2.heap.size + 1)) _ (pops k S0) 0 1 0 0 0 _ (hsys.ext (by with_reducible (repeat (first | assumption | exact Ext.refl _ | refine Ext.alloc' ?_ _ | refine Ext.store0 ?_ _ _ | refine Ext.storek ?_ _ _ _ | refine Ext.stores0 ?_ ?_ _ _ | refine Ext.storesk ?_ ?_ _ _ _ | refine Ext.drewN' ?_ _ | refine Ext.drew' ?_ | refine Ext.trans ?_ (by assumption))))) (fun b hb => (by have := hb.elim False.elim (fun q => q.2); omega)) (by rw [PSH]; decide)).calls.mono ?_
      rintro e w10 ⟨_, rfl, hb10, hr10⟩
      obtain ⟨r1, r2, r3, r4, r5, r6, r7, r8, rfl, _⟩ := hr10.opened
      have BT_10 : Box w10 (w2.heap.size) #[v0, v1, v2, v3, v4] 83 := hbx.ext hb10
      clear cT_0 cT_1 cT_2 cT_3 cT_4 dT_0 dT_1 dT_2 dT_3 dT_4 zT
      have s10 : w9.heap.size ≤ w10.heap.size := (by have h := hb10.size; first | omega | (simp at h; omega))
      obtain ⟨cT_0, cT_1, cT_2, cT_3, cT_4, dT_0, dT_1, dT_2, dT_3, dT_4⟩ := cells5 BT_10
      have zT : w2.heap.size < w10.heap.size := BT_10.lt
      go_wp2
      go_loopw [7] (fun i wr => ∃ j : Nat, i = .int .i64 j ∧ j ≤ 3 ∧ AlR w w2 (st4 j (callS (pops k S0) 0 1 [0, 0, 0])) wr) (fun i _ => 3 - (intOf i).toNat)
      case atStart => exact ⟨0, rfl, by omega, _, _, _, _, _, (((((BT_10.setCell _).setCell _).setCell _).setCell _).setCell _), IsSys.keep hr10 (by with_reducible (repeat (first | assumption | exact Keep.refl _ _ | refine Keep.alloc ?_ _ | refine Keep.s ?_ (by first | assumption | exact Bx.mem (by omega) (by omega) | exact Up.mem (by omega)) | refine Keep.n ?_ (by omega) | refine Keep.ext ?_ (by assumption) | refine Keep.trans ?_ (by assumption) | refine Keep.drew ?_))), (by with_reducible (repeat (first | assumption | exact Ext.refl _ | refine Ext.alloc' ?_ _ | refine Ext.store0 ?_ _ _ | refine Ext.storek ?_ _ _ _ | refine Ext.storen ?_ (by omega) | refine Ext.stores0 ?_ ?_ _ _ | refine Ext.storesk ?_ ?_ _ _ _ | refine Ext.drewN' ?_ _ | refine Ext.drew' ?_ | refine Ext.trans ?_ (by assumption)))), (by with_reducible (repeat (first | assumption | exact Ext.refl _ | refine Ext.alloc' ?_ _ | refine Ext.store0 ?_ _ _ | refine Ext.storek ?_ _ _ _ | refine Ext.storen ?_ (by omega) | refine Ext.stores0 ?_ ?_ _ _ | refine Ext.storesk ?_ ?_ _ _ _ | refine Ext.drewN' ?_ _ | refine Ext.drew' ?_ | refine Ext.trans ?_ (by assumption))))⟩
      case round =>
        obtain ⟨j, rfl, hj3, hal⟩ := hrel
        obtain ⟨v0, v1, v2, v3, v4, hbx, hsys, hWx, hKx⟩ := hal
        obtain ⟨w20, rfl⟩ : ∃ w20 : World, w20 = wr := ⟨_, rfl⟩
        have sw20 : w2.heap.size < w20.heap.size := hbx.lt
        by_cases hjl : j < 3
        · have q7 : (j : Int) < 3 := by omega
          have ok := (st4_wk wkp (by omega) j (by omega)).ok (by omega) (by omega)
          obtain ⟨cT_0, cT_1, cT_2, cT_3, cT_4, dT_0, dT_1, dT_2, dT_3, dT_4⟩ := cells5 hbx
          have zT : w2.heap.size < w20.heap.size := hbx.lt
          go_wp2_with (fail)
          go_at_call 111
          refine (step4_ (Bx no w2.heap.size (w2.heap.size + 1)) _ (st4 j (callS (pops k S0) 0 1 [0, 0, 0])) 0 _ (hsys.ext (by with_reducible (repeat (first | assumption | exact Ext.refl _ | refine Ext.alloc' ?_ _ | refine Ext.store0 ?_ _ _ | refine Ext.storek ?_ _ _ _ | refine Ext.stores0 ?_ ?_ _ _ | refine Ext.storesk ?_ ?_ _ _ _ | refine Ext.drewN' ?_ _ | refine Ext.drew' ?_ | refine Ext.trans ?_ (by assumption))))) (fun b hb => (by have := hb.elim False.elim (fun q => q.2); omega)) ok.1 ok.2.1 ok.2.2.1 ok.2.2.2).calls.mono ?_
          rintro e w21 ⟨_, rfl, hb21, hr21⟩
          obtain ⟨r1, r2, r3, r4, r5, r6, r7, r8, rfl, _⟩ := hr21.opened
          have BT_21 : Box w21 (w2.heap.size) #[v0, v1, v2, v3, v4] 83 := hbx.ext hb21
          clear cT_0 cT_1 cT_2 cT_3 cT_4 dT_0 dT_1 dT_2 dT_3 dT_4 zT
          have s21 : w20.heap.size ≤ w21.heap.size := (by have h := hb21.size; first | omega | (simp at h; omega))
          obtain ⟨cT_0, cT_1, cT_2, cT_3, cT_4, dT_0, dT_1, dT_2, dT_3, dT_4⟩ := cells5 BT_21
          have zT : w2.heap.size < w21.heap.size := BT_21.lt
          go_wp2
          go_roundw
          case rel => exact ⟨j + 1, by simp, by omega, _, _, _, _, _, (((((BT_21.setCell _).setCell _).setCell _).setCell _).setCell _), IsSys.keep hr21 (by with_reducible (repeat (first | assumption | exact Keep.refl _ _ | refine Keep.alloc ?_ _ | refine Keep.s ?_ (by first | assumption | exact Bx.mem (by omega) (by omega) | exact Up.mem (by omega)) | refine Keep.n ?_ (by omega) | refine Keep.ext ?_ (by assumption) | refine Keep.trans ?_ (by assumption) | refine Keep.drew ?_))), (by with_reducible (repeat (first | assumption | exact Ext.refl _ | refine Ext.alloc' ?_ _ | refine Ext.store0 ?_ _ _ | refine Ext.storek ?_ _ _ _ | refine Ext.storen ?_ (by omega) | refine Ext.stores0 ?_ ?_ _ _ | refine Ext.storesk ?_ ?_ _ _ _ | refine Ext.drewN' ?_ _ | refine Ext.drew' ?_ | refine Ext.trans ?_ (by assumption)))), (by with_reducible (repeat (first | assumption | exact Ext.refl _ | refine Ext.alloc' ?_ _ | refine Ext.store0 ?_ _ _ | refine Ext.storek ?_ _ _ _ | refine Ext.storen ?_ (by omega) | refine Ext.stores0 ?_ ?_ _ _ | refine Ext.storesk ?_ ?_ _ _ _ | refine Ext.drewN' ?_ _ | refine Ext.drew' ?_ | refine Ext.trans ?_ (by assumption))))⟩
          case measure => simp [intOf]; omega
        · obtain rfl : j = 3 := by omega
          have q7 : ¬ ((3 : Nat) : Int) < 3 := by decide
          have hsys : IsSys _ w20 (.agg #[v0, v1, v2, v3, v4]) (pops (k + 1) S0) := hsys
          by_cases hkn : k < n
          · have q8 : p ≤ (n : Int) := by omega
            obtain ⟨SH, cc, hcc, hcF, hcV⟩ := F3.out (k + 1) (by omega)
            obtain ⟨hcV, hcE⟩ := hcV (by omega)
            have q9 : ¬ (n : Int) < p := by omega
            obtain ⟨h1, h2, h3, h4, h5⟩ := SH
            obtain ⟨z1, z2, z3, z4, z5, z6, z7, z8, hze, zW, zG, zC, zL⟩ := hsys.lit h1 h2 h3 h4 h5
            obtain ⟨rfl, rfl, rfl, rfl, rfl⟩ : v0 = .slice z1 (128 + 4 * n) z2 ∧ v1 = .slice z3 (n + 1) z4 ∧ v2 = .bool false ∧ v3 = .slice z5 1 z6 ∧ v4 = .slice z7 0 z8 := by simpa using hze
            clear hze h1 h2 h3 h4 h5
            obtain ⟨bb, ob, af, cf, ar, cr, rfl, zx, zn, _, _, _, e0, e1, e2, _⟩ := IsCores.at zC hcc
            rw [hcF] at e0
            simp at e0 e1 e2
            rw [hcV] at e1
            rw [hcE] at e2
            rw [show ((k + 1 : Nat) : Int) = p by omega] at e1
            obtain ⟨cT_0, cT_1, cT_2, cT_3, cT_4, dT_0, dT_1, dT_2, dT_3, dT_4⟩ := cells5 hbx
            have zT : w2.heap.size < w20.heap.size := hbx.lt
            go_wp2
            go_roundw
            case rel => exact ⟨k + 1, p + 1, rfl, by omega, by omega, _, _, _, _, _, hbx, hsys, by assumption, by assumption⟩
            case measure => simp [intOf]; omega
          · have q8 : ¬ p ≤ (n : Int) := by omega
            obtain rfl : n = k := by omega
            obtain ⟨cc, hcc, hcF, hcE⟩ := F5.out
            have q9 : (n : Int) < p := by omega
            obtain ⟨h1, h2, h3, h4, h5⟩ := (F4.out 0 (by omega) : Sh1 n 1 (pops (n + 1) S0))
            obtain ⟨z1, z2, z3, z4, z5, z6, z7, z8, hze, zW, zG, zC, zL⟩ := hsys.lit h1 h2 h3 h4 h5
            obtain ⟨rfl, rfl, rfl, rfl, rfl⟩ : v0 = .slice z1 (128 + 4 * n) z2 ∧ v1 = .slice z3 (n + 1) z4 ∧ v2 = .bool false ∧ v3 = .slice z5 1 z6 ∧ v4 = .slice z7 1 z8 := by simpa using hze
            clear hze h1 h2 h3 h4 h5
            obtain ⟨bb, ob, af, cf, ar, cr, rfl, zx, zn, _, _, _, e0, e1, e2, _⟩ := IsCores.at zC hcc
            rw [hcF] at e0
            simp at e0 e1 e2
            rw [hcE] at e2
            obtain ⟨cT_0, cT_1, cT_2, cT_3, cT_4, dT_0, dT_1, dT_2, dT_3, dT_4⟩ := cells5 hbx
            have zT : w2.heap.size < w20.heap.size := hbx.lt
            go_wp2
            go_roundw
            case rel => exact ⟨n + 1, p + 1, rfl, by omega, by omega, _, _, _, _, _, hbx, hsys, by assumption, by assumption⟩
            case measure => simp [intOf]; omega
    · obtain rfl : k = n + 1 := by omega
      have q1 : ¬ p ≤ (n : Int) + 1 := by omega
      obtain ⟨cT_0, cT_1, cT_2, cT_3, cT_4, dT_0, dT_1, dT_2, dT_3, dT_4⟩ := cells5 hbx
      have zT : w2.heap.size < w9.heap.size := hbx.lt
      go_wp2
      clear hlt q1 hpk1 hpk2
      go_loopw [8] (fun i wr => ∃ (k : Nat) (p : Int), i = .int .i64 p ∧ p = (k : Int) + 1 ∧ k ≤ n ∧ AlR w w2 (pushes k (pops (n + 1) S0)) wr) (fun i _ => n + 1 - (intOf i).toNat)
      case atStart => exact ⟨0, 1, rfl, rfl, by omega, _, _, _, _, _, hbx, hsys, by assumption, by assumption⟩
      case round =>
        clear hbx hsys hWx hKx sw9
        obtain ⟨k, p, rfl, hpk0, hk, hal⟩ := hrel
        have hpk1 : p ≤ (k : Int) + 1 := by omega
        have hpk2 : (k : Int) + 1 ≤ p := by omega
        clear hpk0
        obtain ⟨v0, v1, v2, v3, v4, hbx, hsys, hWx, hKx⟩ := hal
        obtain ⟨w40, rfl⟩ : ∃ w40 : World, w40 = wr := ⟨_, rfl⟩
        have sw40 : w2.heap.size < w40.heap.size := hbx.lt
        by_cases hlt : k < n
        · have q1 : p ≤ (n : Int) := by omega
          have p0 : 1 ≤ p := by omega
          have wkp := F2.out k hlt
          rw [show ((k + 1 : Nat) : Int) = p by omega] at wkp
          have CL := (wkp.ok (by omega) (by omega)).1
          have PSH : (pushes k (pops (n + 1) S0)).C.length = 1 := (F4.out k hk).2.2.2.1
          obtain ⟨cT_0, cT_1, cT_2, cT_3, cT_4, dT_0, dT_1, dT_2, dT_3, dT_4⟩ := cells5 hbx
          have zT : w2.heap.size < w40.heap.size := hbx.lt
          go_wp2_with (fail)
          go_at_call 88
          refine (refCall_ (Bx no w2.heap.size (w2.heap.size + 1)) _ (pushes k (pops (n + 1) S0)) 0 2 p 0 0 _ (hsys.ext (by with_reducible (repeat (first | assumption | exact Ext.refl _ | refine Ext.alloc' ?_ _ | refine Ext.store0 ?_ _ _ | refine Ext.storek ?_ _ _ _ | refine Ext.stores0 ?_ ?_ _ _ | refine Ext.storesk ?_ ?_ _ _ _ | refine Ext.drewN' ?_ _ | refine Ext.drew' ?_ | refine Ext.trans ?_ (by assumption))))) (fun b hb => (by have := hb.elim False.elim (fun q => q.2); omega)) (by rw [PSH]; decide)).calls.mono ?_
          rintro e w41 ⟨_, rfl, hb41, hr41⟩
          obtain ⟨r1, r2, r3, r4, r5, r6, r7, r8, rfl, _⟩ := hr41.opened
          have BT_41 : Box w41 (w2.heap.size) #[v0, v1, v2, v3, v4] 83 := hbx.ext hb41
          clear cT_0 cT_1 cT_2 cT_3 cT_4 dT_0 dT_1 dT_2 dT_3 dT_4 zT
          have s41 : w40.heap.size ≤ w41.heap.size := (by have h := hb41.size; first | omega | (simp at h; omega))
          obtain ⟨cT_0, cT_1, cT_2, cT_3, cT_4, dT_0, dT_1, dT_2, dT_3, dT_4⟩ := cells5 BT_41
          have zT : w2.heap.size < w41.heap.size := BT_41.lt
          go_wp2
          go_loopw [9] (fun i wr => ∃ j : Nat, i = .int .i64 j ∧ j ≤ 3 ∧ AlR w w2 (st4 j (callS (pushes k (pops (n + 1) S0)) 0 2 [p, 0, 0])) wr) (fun i _ => 3 - (intOf i).toNat)
          case atStart => exact ⟨0, rfl, by omega, _, _, _, _, _, (((((BT_41.setCell _).setCell _).setCell _).setCell _).setCell _), IsSys.keep hr41 (by with_reducible (repeat (first | assumption | exact Keep.refl _ _ | refine Keep.alloc ?_ _ | refine Keep.s ?_ (by first | assumption | exact Bx.mem (by omega) (by omega) | exact Up.mem (by omega)) | refine Keep.n ?_ (by omega) | refine Keep.ext ?_ (by assumption) | refine Keep.trans ?_ (by assumption) | refine Keep.drew ?_))), (by with_reducible (repeat (first | assumption | exact Ext.refl _ | refine Ext.alloc' ?_ _ | refine Ext.store0 ?_ _ _ | refine Ext.storek ?_ _ _ _ | refine Ext.storen ?_ (by omega) | refine Ext.stores0 ?_ ?_ _ _ | refine Ext.storesk ?_ ?_ _ _ _ | refine Ext.drewN' ?_ _ | refine Ext.drew' ?_ | refine Ext.trans ?_ (by assumption)))), (by with_reducible (repeat (first | assumption | exact Ext.refl _ | refine Ext.alloc' ?_ _ | refine Ext.store0 ?_ _ _ | refine Ext.storek ?_ _ _ _ | refine Ext.storen ?_ (by omega) | refine Ext.stores0 ?_ ?_ _ _ | refine Ext.storesk ?_ ?_ _ _ _ | refine Ext.drewN' ?_ _ | refine Ext.drew' ?_ | refine Ext.trans ?_ (by assumption))))⟩
          case round =>
            obtain ⟨j, rfl, hj3, hal⟩ := hrel
            obtain ⟨v0, v1, v2, v3, v4, hbx, hsys, hWx, hKx⟩ := hal
            obtain ⟨w50, rfl⟩ : ∃ w50 : World, w50 = wr := ⟨_, rfl⟩
            have sw50 : w2.heap.size < w50.heap.size := hbx.lt
            by_cases hjl : j < 3
            · have q7 : (j : Int) < 3 := by omega
              have ok := (st4_wk wkp (by omega) j (by omega)).ok (by omega) (by omega)
              obtain ⟨cT_0, cT_1, cT_2, cT_3, cT_4, dT_0, dT_1, dT_2, dT_3, dT_4⟩ := cells5 hbx
              have zT : w2.heap.size < w50.heap.size := hbx.lt
              go_wp2_with (fail)
              go_at_call 111
              refine (step4_ (Bx no w2.heap.size (w2.heap.size + 1)) _ (st4 j (callS (pushes k (pops (n + 1) S0)) 0 2 [p, 0, 0])) 0 _ (hsys.ext (by with_reducible (repeat (first | assumption | exact Ext.refl _ | refine Ext.alloc' ?_ _ | refine Ext.store0 ?_ _ _ | refine Ext.storek ?_ _ _ _ | refine Ext.stores0 ?_ ?_ _ _ | refine Ext.storesk ?_ ?_ _ _ _ | refine Ext.drewN' ?_ _ | refine Ext.drew' ?_ | refine Ext.trans ?_ (by assumption))))) (fun b hb => (by have := hb.elim False.elim (fun q => q.2); omega)) ok.1 ok.2.1 ok.2.2.1 ok.2.2.2).calls.mono ?_
              rintro e w51 ⟨_, rfl, hb51, hr51⟩
              obtain ⟨r1, r2, r3, r4, r5, r6, r7, r8, rfl, _⟩ := hr51.opened
              have BT_51 : Box w51 (w2.heap.size) #[v0, v1, v2, v3, v4] 83 := hbx.ext hb51
              clear cT_0 cT_1 cT_2 cT_3 cT_4 dT_0 dT_1 dT_2 dT_3 dT_4 zT
              have s51 : w50.heap.size ≤ w51.heap.size := (by have h := hb51.size; first | omega | (simp at h; omega))
              obtain ⟨cT_0, cT_1, cT_2, cT_3, cT_4, dT_0, dT_1, dT_2, dT_3, dT_4⟩ := cells5 BT_51
              have zT : w2.heap.size < w51.heap.size := BT_51.lt
              go_wp2
              go_roundw
              case rel => exact ⟨j + 1, by simp, by omega, _, _, _, _, _, (((((BT_51.setCell _).setCell _).setCell _).setCell _).setCell _), IsSys.keep hr51 (by with_reducible (repeat (first | assumption | exact Keep.refl _ _ | refine Keep.alloc ?_ _ | refine Keep.s ?_ (by first | assumption | exact Bx.mem (by omega) (by omega) | exact Up.mem (by omega)) | refine Keep.n ?_ (by omega) | refine Keep.ext ?_ (by assumption) | refine Keep.trans ?_ (by assumption) | refine Keep.drew ?_))), (by with_reducible (repeat (first | assumption | exact Ext.refl _ | refine Ext.alloc' ?_ _ | refine Ext.store0 ?_ _ _ | refine Ext.storek ?_ _ _ _ | refine Ext.storen ?_ (by omega) | refine Ext.stores0 ?_ ?_ _ _ | refine Ext.storesk ?_ ?_ _ _ _ | refine Ext.drewN' ?_ _ | refine Ext.drew' ?_ | refine Ext.trans ?_ (by assumption)))), (by with_reducible (repeat (first | assumption | exact Ext.refl _ | refine Ext.alloc' ?_ _ | refine Ext.store0 ?_ _ _ | refine Ext.storek ?_ _ _ _ | refine Ext.storen ?_ (by omega) | refine Ext.stores0 ?_ ?_ _ _ | refine Ext.storesk ?_ ?_ _ _ _ | refine Ext.drewN' ?_ _ | refine Ext.drew' ?_ | refine Ext.trans ?_ (by assumption))))⟩
              case measure => simp [intOf]; omega
            · obtain rfl : j = 3 := by omega
              have q7 : ¬ ((3 : Nat) : Int) < 3 := by decide
              have hsys : IsSys (Bx no w2.heap.size (w2.heap.size + 1)) w50 (.agg #[v0, v1, v2, v3, v4]) (pushes (k + 1) (pops (n + 1) S0)) := by have h := hsys; rw [show p = ((k + 1 : Nat) : Int) by omega] at h; exact h
              obtain ⟨cT_0, cT_1, cT_2, cT_3, cT_4, dT_0, dT_1, dT_2, dT_3, dT_4⟩ := cells5 hbx
              have zT : w2.heap.size < w50.heap.size := hbx.lt
              go_wp2
              go_roundw
              case rel => exact ⟨k + 1, p + 1, rfl, by omega, by omega, _, _, _, _, _, hbx, hsys, by assumption, by assumption⟩
              case measure => simp [intOf]; omega
        · obtain rfl : n = k := by omega
          have q1 : ¬ p ≤ (n : Int) := by omega
          have SH := F4.out n (Nat.le_refl _)
          obtain ⟨PW, PT⟩ := F6.out
          obtain ⟨E, hE⟩ : ∃ E, E = pushes n (pops (n + 1) S0) := ⟨_, rfl⟩
          rw [← hE] at hsys SH PW PT
          clear hE
          have hbad := SH.2.2.1
          have fitE : Fits E.M := ⟨by rw [SH.1, SH.2.1]; omega, by rw [SH.2.1]; omega, by rw [SH.2.1]; omega⟩
          obtain ⟨l, hl, hln⟩ : ∃ l, dnl n = l ∧ l.length = n := ⟨_, rfl, dnl_length _⟩
          have hlg : ∀ j, j < n → gi l j = (n : Int) - j := by intro j hj; rw [← hl, dnl_get _ _ hj]
          rw [hl] at PW
          have KW := Lib.hid PW
          have hl1a : l.length ≤ n := by omega
          have hl1b : n ≤ l.length := by omega
          clear hl PW hln
          obtain ⟨h1, h2, h3, h4, h5⟩ := SH
          obtain ⟨z1, z2, z3, z4, z5, z6, z7, z8, hze, zW, zG, zC, zL⟩ := hsys.lit h1 h2 h3 h4 h5
          obtain ⟨rfl, rfl, rfl, rfl, rfl⟩ : v0 = .slice z1 (128 + 4 * n) z2 ∧ v1 = .slice z3 (n + 1) z4 ∧ v2 = .bool false ∧ v3 = .slice z5 1 z6 ∧ v4 = .slice z7 1 z8 := by simpa using hze
          clear hze h1 h2 h3 h4 h5
          have hMm : IsMem no w40 (.agg #[.slice z1 (128 + 4 * n) z2, .slice z3 (n + 1) z4, .bool false]) E.M := ⟨_, _, by rw [hbad], zW.less (fun _ _ h => h.elim), zG.less (fun _ _ h => h.elim)⟩
          obtain ⟨_, _, hwe, _, _, zW0⟩ := zW.opened
          obtain ⟨bw, ow, hze, zbw, _, ew0⟩ := zW0 0 (by have := fitE.1; omega)
          obtain ⟨rfl, _⟩ : z1 = _ ∧ True := by simp at hwe; exact ⟨hwe.1, trivial⟩
          cases hze
          clear hwe zW0
          obtain ⟨g, hg⟩ : ∃ g, g = gi E.M.W 0 := ⟨_, rfl⟩
          rw [← hg] at ew0 PT
          have kt : ∀ w' : World, Gives Proofs.Try.prog 46 #[.int .i64 g] w' (eqv (.int .i64 (2 * (n : Int)))) := fun w' => by
            have h := refTag_ g w'
            rw [show g / 2097152 % 1099511627776 = 2 * (n : Int) by have : tagI g = _ := PT; unfold tagI at this; omega] at h
            exact h
          clear hg PT hbad hsys
          simp at ew0
          obtain ⟨cT_0, cT_1, cT_2, cT_3, cT_4, dT_0, dT_1, dT_2, dT_3, dT_4⟩ := cells5 hbx
          have zT : w2.heap.size < w40.heap.size := hbx.lt
          go_wp2_with (fail)
          go_at_call 105
          refine (walk_ no _ E.M _ (hMm.ext (by with_reducible (repeat (first | assumption | exact Ext.refl _ | refine Ext.alloc' ?_ _ | refine Ext.store0 ?_ _ _ | refine Ext.storek ?_ _ _ _ | refine Ext.stores0 ?_ ?_ _ _ | refine Ext.storesk ?_ ?_ _ _ _ | refine Ext.drewN' ?_ _ | refine Ext.drew' ?_ | refine Ext.trans ?_ (by assumption))))) no_lt fitE).calls.mono ?_
          rintro e w41 ⟨_, rfl, hb41, u, rfl, hl1⟩
          rw [KW.out] at hl1 ⊢
          obtain ⟨la, lc, rfl, _, _, lz⟩ := hl1.opened
          have BT_41 : Box w41 (w2.heap.size) #[.slice (some ⟨bw, ow, none⟩) (128 + 4 * n) z2, .slice z3 (n + 1) z4, .bool false, .slice z5 1 z6, .slice z7 1 z8] 83 := hbx.ext hb41
          clear cT_0 cT_1 cT_2 cT_3 cT_4 dT_0 dT_1 dT_2 dT_3 dT_4 zT
          have s41 : w40.heap.size ≤ w41.heap.size := (by have h := hb41.size; first | omega | (simp at h; omega))
          obtain ⟨cT_0, cT_1, cT_2, cT_3, cT_4, dT_0, dT_1, dT_2, dT_3, dT_4⟩ := cells5 BT_41
          have zT : w2.heap.size < w41.heap.size := BT_41.lt
          go_wp2
          have hXw : Ext w40 w41 := (by with_reducible (repeat (first | assumption | exact Ext.refl _ | refine Ext.alloc' ?_ _ | refine Ext.store0 ?_ _ _ | refine Ext.storek ?_ _ _ _ | refine Ext.stores0 ?_ ?_ _ _ | refine Ext.storesk ?_ ?_ _ _ _ | refine Ext.drewN' ?_ _ | refine Ext.drew' ?_ | refine Ext.trans ?_ (by assumption))))
          have hww : Ext w w41 := hWx.trans hXw
          go_loopw [12] (fun i wr => ∃ k : Nat, i = .int .i64 k ∧ k ≤ n ∧ Ext w41 wr) (fun i _ => n - (intOf i).toNat)
          case atStart => exact ⟨0, rfl, by omega, Ext.refl _⟩
          case round =>
            obtain ⟨k, rfl, hkn, hbr⟩ := hrel
            obtain ⟨w60, rfl⟩ : ∃ w60 : World, w60 = wr := ⟨_, rfl⟩
            have hb60 : Ext w w60 := hww.trans hbr
            have hbx6 := Box.ext BT_41 hbr
            by_cases hlt : k < n
            · have q1 : (k : Int) < (l.length : Int) := by omega
              obtain ⟨a2, c2, he2, _, _, lz2⟩ := hl1.opened
              obtain ⟨rfl, rfl⟩ : la = a2 ∧ lc = c2 := by simpa using he2
              obtain ⟨bb, ob, rfl, zx, _, e0⟩ := lz2 k (by omega)
              have e9 := cell_ext e0 hbr
              rw [hlg k hlt] at e9
              obtain ⟨cT_0, cT_1, cT_2, cT_3, cT_4, dT_0, dT_1, dT_2, dT_3, dT_4⟩ := cells5 hbx6
              have zT : w2.heap.size < w60.heap.size := hbx6.lt
              go_wp2
              go_roundw
              case rel => exact ⟨k + 1, by first | (simp; done) | (simp; omega), by omega, (by with_reducible (repeat (first | assumption | exact Ext.refl _ | refine Ext.alloc' ?_ _ | refine Ext.store0 ?_ _ _ | refine Ext.storek ?_ _ _ _ | refine Ext.stores0 ?_ ?_ _ _ | refine Ext.storesk ?_ ?_ _ _ _ | refine Ext.drewN' ?_ _ | refine Ext.drew' ?_ | refine Ext.trans ?_ (by assumption))))⟩
              case measure => simp [intOf]; omega
            · obtain rfl : n = k := by omega
              have q1 : ¬ (n : Int) < (l.length : Int) := by omega
              have q2 : (l.length : Int) = (n : Int) := by omega
              have ew6 := cell_ext ew0 (hXw.trans hbr)
              obtain ⟨cT_0, cT_1, cT_2, cT_3, cT_4, dT_0, dT_1, dT_2, dT_3, dT_4⟩ := cells5 hbx6
              have zT : w2.heap.size < w60.heap.size := hbx6.lt
              go_wp2_with (fail)
              go_at_call 46
              refine (kt _).calls.mono ?_
              rintro e w61 ⟨_, rfl, hb61, rfl⟩
              have BT_61 : Box w61 (w2.heap.size) #[.slice (some ⟨bw, ow, none⟩) (128 + 4 * n) z2, .slice z3 (n + 1) z4, .bool false, .slice z5 1 z6, .slice z7 1 z8] 83 := hbx6.ext hb61
              clear cT_0 cT_1 cT_2 cT_3 cT_4 dT_0 dT_1 dT_2 dT_3 dT_4 zT
              have s61 : w60.heap.size ≤ w61.heap.size := (by have h := hb61.size; first | omega | (simp at h; omega))
              obtain ⟨cT_0, cT_1, cT_2, cT_3, cT_4, dT_0, dT_1, dT_2, dT_3, dT_4⟩ := cells5 BT_61
              have zT : w2.heap.size < w61.heap.size := BT_61.lt
              go_wp2
              go_ret
              exact ⟨_, rfl, (by with_reducible (repeat (first | assumption | exact Ext.refl _ | refine Ext.alloc' ?_ _ | refine Ext.store0 ?_ _ _ | refine Ext.storek ?_ _ _ _ | refine Ext.stores0 ?_ ?_ _ _ | refine Ext.storesk ?_ ?_ _ _ _ | refine Ext.drewN' ?_ _ | refine Ext.drew' ?_ | refine Ext.trans ?_ (by assumption)))), rfl⟩
end Go.Proofs.Ytcfbdfgondmkoaa
namespace Go.Proofs.Ytcfbdfgondmkoaa.stackAlone
open Go.ChangeShapes Go.WideShapes Go.ChangeAt Go.RowKit
set_option linter.unusedVariables false

set_option maxRecDepth 100000 in
theorem lifted (os : Os) (started : os.Started) (H : Type) (enc : TypeId × Value → H) :
    ReturnsInHanded {} Try.checked os 33 .any (Rows.stackAloneSpec.pre6 enc Try.prog Try.f33 Rows.stackAloneRow.domain false) (Rows.stackAloneSpec.post enc Try.prog Try.f33 false true false false) := by
  refine returnsInHanded_of_change (C := Try.checked) own started (by kernel_rfl) Try.func33
    (ChangeSpec.witness6 (enc := enc) (C := Try.checked) false ⟨#[], #[.int .u8 0], []⟩ 8 (by kernel_rfl) (by kernel_rfl) (by kernel_rfl) (by kernel_rfl)) ?_
  intro W base args ds gs before hval0 hW hcnd _
  have hval : ∀ (j : Nat) t v, Try.f33.params[j]? = some t → args[j]? = some v → Value.okWide Try.prog W .any base t v := hval0
  have hW' := hW
  obtain ⟨p, q, hA0, hV, rfl, hfz, hnd⟩ := hW
  have hA : DataW.TrodAll enc Try.prog W 0 (fun _ => true) true Try.f33.params.toList args.toList ds p := hA0
  rw [Try.params33] at hA hval
  obtain ⟨v0, vs0, d0, ds0, p0, q0, hargs, rfl, rfl, h0, r0⟩ := trodAll_cons hA
  obtain ⟨rfl, rfl, rfl⟩ := trodAll_nil r0
  obtain rfl : args = #[v0] := by cases args; simp_all
  obtain ⟨rfl, rfl⟩ := trodVars_none hV
  obtain ⟨z0, rfl, rfl, rfl, wz0⟩ := open_int (k := .u8) Try.underlying5 (hval 0 5 v0 rfl rfl) h0
  obtain ⟨loz0, hiz0⟩ := wf_u8 wz0
  clear hA0 hval0
  refine (stackAlone_ z0 W loz0 hiz0).calls.mono fun e W' ⟨v, he, bel, hv⟩ => ?_
  subst he; subst hv
  exact ⟨_, rfl, _, _, _, [], _, [], hW', trodAll_mk1 (shut_bool Try.underlying4 _), (trodAll_cons_mk (shut_int Try.underlying5 wz0) trodAll_mk0), rfl, bel.frame _, fun h => by cases h⟩

theorem facts (P : Program) (hP : P = Try.prog) : joinedFacts P 33 Try.f33 Rows.stackAloneSpec Rows.stackAloneRow = true := by
  unfold joinedFacts
  rw [show P.mayEnter = true by rw [hP]; exact mayEnter_, show P.liftsFinal = false by rw [hP]; exact liftsFinal_, show P.make = some .cut by rw [hP]; exact make_]
  subst hP
  kernel_rfl

theorem over : Rows.stackAloneRow.holds Try.pinned (OpenSpec.ofChange Rows.stackAloneSpec) :=
  OpenClaim.holds_of_wide 33 Try.f33 rfl rfl rfl rfl rfl rfl rfl ⟨rfl, rfl, rfl, rfl, rfl⟩ rfl rfl rfl rfl rfl (by kernel_rfl) Try.func33 (facts _ rfl)
    (of_decide_eq_true (by kernel_rfl)) (by unfold Func.isWrapper; first | (rw [if_pos (by decide +kernel)]; kernel_rfl) | (rw [if_neg (by decide +kernel)]; exact ⟨rfl, rfl⟩))
    (fun os started H enc _ => lifted os started H enc)

theorem proved : Rows.StackAloneSaid := over
end Go.Proofs.Ytcfbdfgondmkoaa.stackAlone
