/- The stack's law, plain: cores that pop and push by picks. -/
import Derived.Test.YtcfbdfgondmkoaaStk3
namespace Go.Proofs.Ytcfbdfgondmkoaa
open Go Go.RowKit
set_option linter.unusedSimpArgs false
set_option linter.unusedVariables false
set_option linter.unnecessarySimpa false
set_option linter.unusedVariables false

def gl (own : List (List Int)) (i : Nat) : List Int := own.getD i []
def lastC (s : SysD) (i : Nat) : CoreD := (s.C[i]?).getD core0
/-- a core that is at nothing pops, or pushes the first node that it has -/
def begin4 (s : SysD) (own : List (List Int)) (i : Nat) (pk : Int) : SysD × List (List Int) :=
  if (topD s i).isSome then (s, own)
  else if 0 < (gl own i).length ∧ pk / 8 % 2 = 1 then (callS s i 2 [gi (gl own i) 0, 0, 0], own.set i ((gl own i).drop 1))
  else (callS s i 1 [0, 0, 0], own)
def endOwn (s : SysD) (f : FrameD) (i : Nat) (own : List (List Int)) : List (List Int) :=
  if (lastC s i).F.length = 0 ∧ f.op = 1 ∧ (lastC s i).E = 0 then own.set i (gl own i ++ [(lastC s i).V]) else own
def play1 (c : Nat) (st : SysD × List (List Int)) (pk : Int) : SysD × List (List Int) :=
  let i := (pk % c).toNat
  let b := begin4 st.1 st.2 i pk
  (step4 b.1 i, endOwn (step4 b.1 i) (topF b.1 i) i b.2)
def playD (c n : Nat) (picks : List Int) : SysD × List (List Int) := picks.foldl (play1 c) (new4 c n, List.replicate c [])

def reg (f : FrameD) : Int := gi f.R (if f.op = 1 then 0 else 1)
def FreshC (w0 : Int) (c : CoreD) : Prop := c.F = [] ∨ ∃ f, c.F = [f] ∧ (f.pc = 0 ∨ reg f = w0)
def PlayInv (c n k : Nat) (st : SysD × List (List Int)) : Prop :=
  ∃ T L, T ≤ k ∧ Inv c n T st.1 st.2 [] L ∧ st.1.L.length ≤ k ∧ ∃ (j : Nat) (cj : CoreD), st.1.C[j]? = some cj ∧ FreshC (gi st.1.M.W 0) cj

theorem sum_own_set {own : List (List Int)} {i : Nat} {o : List Int} (h : own[i]? = some o) (x : List Int) (p : Int) : ((own.set i x).map (List.count p)).sum + o.count p = (own.map (List.count p)).sum + x.count p := sum_set (List.count p) own i x o h
theorem inv_own {c n T : Nat} {s : SysD} {own own' : List (List Int)} {X L : List Int} (I : Inv c n T s own X L) (hl : own'.length = own.length) {X' : List Int} (h : ∀ p, (own'.map (List.count p)).sum + X'.count p = (own.map (List.count p)).sum + X.count p) : Inv c n T s own' X' L :=
  { I with
    lo := hl.trans I.lo
    all := fun p => by
      have h1 := I.all p
      have h2 := h p
      unfold held at h1 ⊢
      rw [← h1]; omega }
theorem getSome' {α : Type} {l : List α} {i : Nat} (h : i < l.length) : ∃ x, l[i]? = some x := ⟨l[i], List.getElem?_eq_getElem h⟩
theorem gl_some {own : List (List Int)} {i : Nat} {o : List Int} (h : own[i]? = some o) : gl own i = o := by unfold gl; simp [List.getD_eq_getElem?_getD, h]
theorem lastC_some {s : SysD} {i : Nat} {c : CoreD} (h : s.C[i]? = some c) : lastC s i = c := by unfold lastC; rw [h]; rfl
theorem newF_reg (op a b c : Int) : gi (newF op [a, b, c]).R 0 = a := rfl

/-- behind the beginning: the core is at one op -/
theorem begin_inv {c n T : Nat} {s : SysD} {own : List (List Int)} {L : List Int} (I : Inv c n T s own [] L) {i : Nat} (hi : i < c) (pk : Int) :
    ∃ cc f, (begin4 s own i pk).1.C[i]? = some cc ∧ cc.F = [f] ∧ Inv c n T (begin4 s own i pk).1 (begin4 s own i pk).2 [] L ∧ (begin4 s own i pk).1.L = s.L ∧ (begin4 s own i pk).1.M = s.M ∧
      (∀ j, j ≠ i → (begin4 s own i pk).1.C[j]? = s.C[j]?) ∧ topF (begin4 s own i pk).1 i = f ∧ (∀ ci w0, s.C[i]? = some ci → FreshC w0 ci → FreshC w0 cc) := by
  obtain ⟨cc, hcc⟩ := getSome' (show i < s.C.length by rw [I.lc]; exact hi)
  obtain ⟨o, ho⟩ := getSome' (show i < own.length by rw [I.lo]; exact hi)
  rcases I.cores i cc hcc with h0 | ⟨f, hf, hok⟩
  · have ht : topD s i = none := by rw [top_at hcc, h0]; rfl
    unfold begin4
    rw [ht, gl_some ho, if_neg (by simp)]
    have hki : i < s.C.length := get_lt hcc
    by_cases hb : 0 < o.length ∧ pk / 8 % 2 = 1
    · rw [if_pos hb, call_at hcc h0]
      obtain ⟨p, l, rfl⟩ : ∃ p l, o = p :: l := by
        cases o with
        | nil => simp at hb
        | cons p l => exact ⟨p, l, rfl⟩
      have hg0 : gi (p :: l) 0 = p := rfl
      rw [hg0]
      have hp : 1 ≤ p ∧ p ≤ n := by
        have h1 := I.all p
        have h2 := sum_at (List.count p) own i _ ho
        rw [count_cons_if, if_pos rfl] at h2
        unfold held at h1
        split at h1
        · assumption
        · omega
      have hget : (s.C.set i { cc with F := [newF 2 [p, 0, 0]] })[i]? = some { cc with F := [newF 2 [p, 0, 0]] } := by simp [hki]
      refine ⟨_, _, hget, rfl, ?_, rfl, rfl, fun j hj => by simp [Ne.symm hj], ?_, fun _ _ _ _ => .inr ⟨_, rfl, .inl rfl⟩⟩
      · exact {
          n1 := I.n1, n2 := I.n2, lc := by simpa using I.lc, lo := by simpa using I.lo
          lW := I.lW, lG := I.lG, ok := I.ok, tag := I.tag, chain := I.chain
          cores := fun j cj hj => by
            rcases set_get hki hj with ⟨_, rfl⟩ | ⟨_, h⟩
            · exact .inr ⟨_, rfl, rfl, .inr ⟨rfl, hp.1, hp.2, .inl rfl⟩⟩
            · exact I.cores j cj h
          all := fun q => by
            have h1 := held_set (p := q) (own := own) (cc' := { cc with F := [newF 2 [p, 0, 0]] }) hcc
            rw [pushC_nil h0, pushC_one rfl] at h1
            have h2 := I.all q
            have h3 := sum_own_set ho l q
            rw [count_cons_if] at h3
            have e : (if (newF 2 [p, 0, 0]).op = 2 ∧ gi (newF 2 [p, 0, 0]).R 0 = q then 1 else 0) = if p = q then 1 else 0 := by
              rw [newF_reg]; simp [newF]
            rw [e] at h1
            show L.count q + held q (own.set i (List.drop 1 (p :: l))) (s.C.set i _) + List.count q [] = _
            rw [← h2, List.drop_one, List.tail_cons]
            unfold held at h1 ⊢
            omega
          free := I.free }
      · unfold topF; rw [top_at hget]; rfl
    · rw [if_neg hb, call_at hcc h0]
      have hget : (s.C.set i { cc with F := [newF 1 [0, 0, 0]] })[i]? = some { cc with F := [newF 1 [0, 0, 0]] } := by simp [hki]
      refine ⟨_, _, hget, rfl, ?_, rfl, rfl, fun j hj => by simp [Ne.symm hj], ?_, fun _ _ _ _ => .inr ⟨_, rfl, .inl rfl⟩⟩
      · exact I.core hcc (.inr ⟨_, rfl, rfl, .inl ⟨rfl, .inl rfl⟩⟩) (fun p => by rw [pushC_nil h0, pushC_one rfl]; simp [newF]) _
      · unfold topF; rw [top_at hget]; rfl
  · have ht : topD s i = some f := by rw [top_at hcc, hf]; rfl
    unfold begin4
    rw [ht, if_pos (by rfl)]
    exact ⟨cc, f, hcc, hf, I, rfl, rfl, fun _ _ => rfl, by unfold topF; rw [ht]; rfl, fun ci w0 h h' => by rw [hcc] at h; cases h; exact h'⟩

theorem play1_inv {c n k : Nat} {st : SysD × List (List Int)} (hc : 1 ≤ c) (hk : k < 1000) (h : PlayInv c n k st) (pk : Int) : PlayInv c n (k + 1) (play1 c st pk) := by
  obtain ⟨s, own⟩ := st
  obtain ⟨T, L, hT, I, hL, j, cj, hj, hfr⟩ := h
  have hi : (pk % (c : Int)).toNat < c := by have := Int.emod_lt_of_pos pk (show (0 : Int) < c by omega); have := Int.emod_nonneg pk (show (c : Int) ≠ 0 by omega); omega
  obtain ⟨cc, f, hcc, hf, I1, e1, e2, e3, e4, e5⟩ := begin_inv I hi pk
  unfold play1
  show PlayInv c n (k + 1) (step4 (begin4 s own (pk % (c : Int)).toNat pk).1 ((pk % (c : Int)).toNat : Nat), endOwn (step4 (begin4 s own (pk % (c : Int)).toNat pk).1 ((pk % (c : Int)).toNat : Nat)) (topF (begin4 s own (pk % (c : Int)).toNat pk).1 ((pk % (c : Int)).toNat : Nat)) (pk % (c : Int)).toNat (begin4 s own (pk % (c : Int)).toNat pk).2)
  rw [e4]
  generalize hiv : (pk % (c : Int)).toNat = i at *
  generalize begin4 s own i pk = b at *
  obtain ⟨s1, own1⟩ := b
  obtain ⟨cc', hC, hst⟩ := step_inv I1 hcc hf (by omega)
  have hki : i < s1.C.length := get_lt hcc
  have hget : (step4 s1 i).C[i]? = some cc' := by rw [hC]; simp [hki]
  obtain ⟨o, ho⟩ := getSome' (show i < own1.length by rw [I1.lo]; exact hi)
  have e1' : s1.L = s.L := e1
  have hL' : s.L.length ≤ k := hL
  have e2' : s1.M = s.M := e2
  have hoth : ∀ j, j ≠ i → (step4 s1 i).C[j]? = s.C[j]? := fun j hj => by
    rw [hC, List.getElem?_set_ne (Ne.symm hj)]; exact e3 j hj
  unfold endOwn
  show PlayInv c n (k + 1) (step4 s1 i, if (lastC (step4 s1 i) i).F.length = 0 ∧ f.op = 1 ∧ (lastC (step4 s1 i) i).E = 0 then own1.set i (gl own1 i ++ [(lastC (step4 s1 i) i).V]) else own1)
  rw [lastC_some hget, gl_some ho]
  rcases hst with ⟨g, hg, ⟨g1, g2, g3, g4⟩, I2, _⟩ | ⟨h1, h2, h3, h4, h5, L', h6, I2⟩ | ⟨h1, h2, h3, h4, h5, h6, I2⟩ | ⟨h1, h2, h3, h4, h5, h6, h7, I2⟩
  · rw [if_neg (by simp [hg])]
    refine ⟨T, L, by omega, I2, by rw [show (step4 s1 i).L = s1.L from g3, e1']; omega, ?_⟩
    by_cases hji : j = i
    · subst hji
      refine ⟨j, cc', hget, .inr ⟨g, hg, ?_⟩⟩
      have hf1 := e5 cj _ hj hfr
      show g.pc = 0 ∨ reg g = gi (step4 s1 j).M.W 0
      rw [g2]
      unfold reg
      rw [g1]
      rcases hf1 with h | ⟨f', hf', h⟩
      · rw [hf] at h; cases h
      · obtain rfl : f = f' := by rw [hf] at hf'; simpa using hf'
        rcases g4 with ⟨_, _, h7⟩ | ⟨h7, _, h8⟩ | ⟨_, h7, _⟩
        · exact .inr h7
        · rcases h with h | h
          · omega
          · right; rw [h8]; unfold reg at h; rw [h, e2']
        · exact .inl h7
    · refine ⟨j, cj, by rw [hoth j hji]; exact hj, ?_⟩
      show FreshC (gi (step4 s1 i).M.W 0) cj
      rw [g2, e2']; exact hfr
  · rw [if_pos ⟨by simp [h1], h3, h2⟩]
    refine ⟨T + 1, L', by omega, ?_, by rw [show (step4 s1 i).L = s1.L from h5, e1']; omega, i, cc', hget, .inl h1⟩
    refine inv_own I2 (by simp) fun p => ?_
    have := sum_own_set ho (o ++ [cc'.V]) p
    rw [List.count_append] at this
    simp at this ⊢
    omega
  · rw [if_neg (by omega)]
    exact ⟨T + 1, _, by omega, I2, by rw [show (step4 s1 i).L = s1.L from h5, e1']; omega, i, cc', hget, .inl h1⟩
  · rw [if_neg (by omega)]
    exact ⟨T, _, by omega, I2, by rw [show (step4 s1 i).L.length = s1.L.length + 1 from h6, e1']; omega, i, cc', hget, .inl h1⟩

theorem new4_inv {c n : Nat} (hc : 1 ≤ c) (hc' : c ≤ 8) (hn : 1 ≤ n) (hn' : n ≤ 200) : PlayInv c n 0 (new4 c n, List.replicate c []) := by
  have hnew : newD n = ⟨List.replicate (128 + 4 * n) 0, List.replicate (n + 1) 0, false⟩ := by unfold newD; rw [if_pos (by omega)]; simp
  have hs : newIs c n = true := by unfold newIs; simp; omega
  have hS : newS c n = ⟨newD n, List.replicate c core0, []⟩ := by unfold newS; rw [hs]; simp
  have hE : newSE c n = 0 := by unfold newSE; rw [hs]; rfl
  obtain ⟨W', e, h1, h2, h3⟩ := fill_spec (m := newD n) hn' (by rw [hnew]; simp) (by rw [hnew]; simp)
  have h4 : new4 c n = ⟨{ newD n with W := W' }, List.replicate c core0, []⟩ := by unfold new4; rw [if_pos hE, hS, e]; rfl
  rw [h4]
  refine ⟨0, upl n 1, Nat.le_refl _, ?_, by simp, 0, core0, by show (List.replicate c core0)[0]? = _; rw [List.getElem?_replicate, if_pos (by omega)], .inl rfl⟩
  have hz : ∀ p : Int, ((List.replicate c ([] : List Int)).map (List.count p)).sum = 0 := fun p => by simp
  have hz2 : ∀ p : Int, ((List.replicate c core0).map (pushC p)).sum = 0 := fun p => by
    simp [pushC, core0]
  exact {
    n1 := hn, n2 := hn', lc := by simp, lo := by simp
    lW := h1, lG := by rw [hnew]; simp, ok := by rw [hnew]
    tag := by show tagI (gi W' 0) = _; rw [h2]; rfl
    chain := by
      show Chain n W' (idx (gi W' 0)) _
      rw [h2]
      have := upl_chain h3 n 1 (by omega) (by omega)
      rw [if_neg (by omega)] at this
      exact this
    cores := fun i ci hi => by
      have := List.mem_of_getElem? hi
      rw [List.mem_replicate] at this
      exact .inl (by rw [this.2]; rfl)
    all := fun p => by
      unfold held
      rw [hz, hz2, upl_count]
      simp
      split <;> split <;> omega
    free := fun p h5 h6 => by
      rw [if_pos]
      · show gi (newD n).G _ = 0
        rw [hnew]
        simp [gi, List.getD_eq_getElem?_getD, List.getElem?_replicate]; split <;> rfl
      · apply List.count_pos_iff.1
        rw [upl_count, if_pos (by omega)]; decide }
theorem play_from {c n : Nat} (hc : 1 ≤ c) : ∀ (l : List Int) (k : Nat) (st : SysD × List (List Int)), k + l.length ≤ 1000 → PlayInv c n k st → PlayInv c n (k + l.length) (l.foldl (play1 c) st)
  | [], k, st, _, h => h
  | p :: l, k, st, hk, h => by
    have := play_from hc l (k + 1) (play1 c st p) (by simp at hk; omega) (play1_inv hc (by simp at hk; omega) h p)
    simp only [List.length_cons, List.foldl_cons]
    rw [show k + (l.length + 1) = k + 1 + l.length by omega]; exact this
theorem play_inv {c n : Nat} (hc : 1 ≤ c) (hc' : c ≤ 8) (hn : 1 ≤ n) (hn' : n ≤ 200) (l : List Int) (hl : l.length ≤ 1000) : PlayInv c n l.length (playD c n l) := by
  have := play_from hc l 0 _ (by omega) (new4_inv hc hc' hn hn')
  rw [Nat.zero_add] at this
  exact this
end Go.Proofs.Ytcfbdfgondmkoaa
