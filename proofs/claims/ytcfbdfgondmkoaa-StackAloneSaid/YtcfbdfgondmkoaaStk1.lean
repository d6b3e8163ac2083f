/- The stack's law, plain: what a step of a core does, where each core is at one op at most. -/
import Derived.Test.YtcfbdfgondmkoaaDat4
namespace Go.Proofs.Ytcfbdfgondmkoaa
open Go Go.RowKit
set_option linter.unusedSimpArgs false
set_option linter.unusedVariables false
set_option linter.unnecessarySimpa false

theorem word_idx (t i : Int) (_ : 0 ≤ i) (_ : i < 1048576) : idx (word t i 0) = i := by unfold idx word; omega
theorem word_tagI (t i : Int) (_ : 0 ≤ t) (_ : t < 1099511627776) : tagI (word t i 0) = t := by unfold tagI word; omega
def lk (p : Int) : Nat := (128 + 4 * (p - 1)).toNat
theorem gi_set_eq {l : List Int} {i : Nat} (v : Int) (h : i < l.length) : gi (l.set i v) i = v := by simp [gi, h]
theorem gi_set_ne {l : List Int} {i j : Nat} (v : Int) (h : i ≠ j) : gi (l.set i v) j = gi l j := by simp [gi, h]
theorem nodeD_link {n : Nat} {p : Int} (h : 1 ≤ p) : nodeD n (128 + 4 * (p - 1)) = 0 := by
  unfold nodeD
  rw [if_pos (by omega)]
theorem nodeD_0 (n : Nat) : nodeD n 0 = 0 := by unfold nodeD; rw [if_pos (by omega)]
/-- the cells that the list's steps touch: the head, and the nodes' links -/
def Cell (n : Nat) (x : Int) : Prop := x = 0 ∨ ∃ p : Int, 1 ≤ p ∧ p ≤ n ∧ x = 128 + 4 * (p - 1)
theorem Cell.link {n : Nat} {p : Int} (h : 1 ≤ p) (h' : p ≤ n) : Cell n (128 + 4 * (p - 1)) := .inr ⟨p, h, h', rfl⟩
theorem Cell.clean {n : Nat} {x : Int} {m : Arena} (h : Cell n x) (hW : m.W.length = 128 + 4 * n) (hb : m.bad = false) : outside m x = false ∧ badAt m x = false := by
  have h1 : outside m x = false := by
    rcases h with rfl | ⟨p, h3, h4, rfl⟩
    · simp [outside, hW]; omega
    · simp [outside, hW]; omega
  refine ⟨h1, ?_⟩
  have h2 : freeAt m x = false := by
    unfold freeAt
    rcases h with rfl | ⟨p, h3, h4, rfl⟩
    · rw [nodeD_0]; simp
    · rw [nodeD_link h3]; simp
  simp [badAt, hb, h1, h2]
theorem touch_clean {n : Nat} {x : Int} {m : Arena} (h : Cell n x) (hW : m.W.length = 128 + 4 * n) (hb : m.bad = false) : touchD m x = m := by
  unfold touchD
  rw [(h.clean hW hb).2, ← hb]
theorem load_clean {n : Nat} {x : Int} {m : Arena} (h : Cell n x) (hW : m.W.length = 128 + 4 * n) (hb : m.bad = false) : loadD m x = gi m.W x.toNat := by
  unfold loadD
  rw [(h.clean hW hb).1]; rfl
theorem store_clean {n : Nat} {x v : Int} {m : Arena} (h : Cell n x) (hW : m.W.length = 128 + 4 * n) (hb : m.bad = false) : storeD m x v = { m with W := m.W.set x.toNat v } := by
  unfold storeD
  rw [(h.clean hW hb).1, (h.clean hW hb).2]; simp [hb]
theorem casIs_0 {n : Nat} {m : Arena} (hW : m.W.length = 128 + 4 * n) (hb : m.bad = false) (old : Int) : casIs m 0 old = (gi m.W 0 == old) := by
  unfold casIs
  rw [(Cell.clean (n := n) (.inl rfl) hW hb).1]; rfl
theorem casD_yes {n : Nat} {m : Arena} (hW : m.W.length = 128 + 4 * n) (hb : m.bad = false) {old new : Int} (h : gi m.W 0 = old) : casD m 0 old new = { m with W := m.W.set 0 new } := by
  unfold casD
  rw [casIs_0 hW hb, h]
  simp only [BEq.rfl, if_true]
  exact store_clean (n := n) (.inl rfl) hW hb
theorem casD_no {n : Nat} {m : Arena} (hW : m.W.length = 128 + 4 * n) (hb : m.bad = false) {old new : Int} (h : gi m.W 0 ≠ old) : casD m 0 old new = m := by
  unfold casD
  rw [casIs_0 hW hb]
  have : (gi m.W 0 == old) = false := by simpa using h
  rw [this]
  exact touch_clean (n := n) (.inl rfl) hW hb

theorem sum_set {α : Type} (f : α → Nat) : ∀ (l : List α) (i : Nat) (x y : α), l[i]? = some y → ((l.set i x).map f).sum + f y = (l.map f).sum + f x
  | [], _, _, _, h => by cases h
  | a :: l, 0, x, y, h => by
    simp at h; subst h
    simp; omega
  | a :: l, i + 1, x, y, h => by
    have := sum_set f l i x y (by simpa using h)
    simp only [List.set_cons_succ, List.map_cons, List.sum_cons]; omega
theorem sum_at {α : Type} (f : α → Nat) : ∀ (l : List α) (i : Nat) (y : α), l[i]? = some y → f y ≤ (l.map f).sum
  | [], _, _, h => by cases h
  | a :: l, 0, y, h => by
    simp at h; subst h
    simp
  | a :: l, i + 1, y, h => by
    have := sum_at f l i y (by simpa using h)
    simp; omega
theorem sum_two {α : Type} (f : α → Nat) : ∀ (l : List α) (i j : Nat) (x y : α), i ≠ j → l[i]? = some x → l[j]? = some y → f x + f y ≤ (l.map f).sum
  | [], _, _, _, _, _, h, _ => by cases h
  | a :: l, 0, 0, _, _, h, _, _ => by cases h rfl
  | a :: l, 0, j + 1, x, y, _, h, h' => by
    simp at h; subst h
    have := sum_at f l j y (by simpa using h')
    simp; omega
  | a :: l, i + 1, 0, x, y, _, h, h' => by
    simp at h'; subst h'
    have := sum_at f l i x (by simpa using h)
    simp; omega
  | a :: l, i + 1, j + 1, x, y, hn, h, h' => by
    have := sum_two f l i j x y (by omega) (by simpa using h) (by simpa using h')
    simp; omega

/-- is a core at a push of this node? -/
def pushC (p : Int) (c : CoreD) : Nat := match c.F with
  | [f] => if f.op = 2 ∧ gi f.R 0 = p then 1 else 0
  | _ => 0
def held (p : Int) (own : List (List Int)) (cs : List CoreD) : Nat := (own.map (List.count p)).sum + (cs.map (pushC p)).sum
def PopOk (n T : Nat) (W : List Int) (f : FrameD) : Prop :=
  f.op = 1 ∧ (f.pc = 0 ∨ (f.pc = 1 ∨ f.pc = 2) ∧ tagI (gi f.R 0) ≤ T ∧ 1 ≤ idx (gi f.R 0) ∧ idx (gi f.R 0) ≤ n ∧ (f.pc = 2 → gi f.R 0 = gi W 0 → gi f.R 1 = gi W (lk (idx (gi f.R 0)))))
def PushOk (n T : Nat) (W : List Int) (f : FrameD) : Prop :=
  f.op = 2 ∧ 1 ≤ gi f.R 0 ∧ gi f.R 0 ≤ n ∧ (f.pc = 0 ∨ (f.pc = 1 ∨ f.pc = 2) ∧ tagI (gi f.R 1) ≤ T ∧ (f.pc = 2 → gi W (lk (gi f.R 0)) = idx (gi f.R 1)))
def FrOk (n T : Nat) (W : List Int) (f : FrameD) : Prop := f.R.length = 8 ∧ (PopOk n T W f ∨ PushOk n T W f)
def CoreOk (n T : Nat) (W : List Int) (c : CoreD) : Prop := c.F = [] ∨ ∃ f, c.F = [f] ∧ FrOk n T W f
/-- from a head, a list's nodes one behind the other -/
def Chain (n : Nat) (W : List Int) : Int → List Int → Prop
  | p, [] => p = 0
  | p, q :: l => p = q ∧ 1 ≤ q ∧ q ≤ n ∧ Chain n W (gi W (lk q)) l
theorem Chain.mem {n : Nat} {W : List Int} : ∀ {L : List Int} {p q : Int}, Chain n W p L → q ∈ L → 1 ≤ q ∧ q ≤ n
  | [], _, _, _, h => by cases h
  | r :: l, p, q, ⟨_, h1, h2, h3⟩, h => by
    rcases List.mem_cons.1 h with rfl | h
    · exact ⟨h1, h2⟩
    · exact Chain.mem h3 h
theorem Chain.keep {n : Nat} {W W' : List Int} : ∀ {L : List Int} {p : Int}, Chain n W p L → (∀ q, q ∈ L → gi W' (lk q) = gi W (lk q)) → Chain n W' p L
  | [], _, h, _ => h
  | r :: l, p, ⟨h0, h1, h2, h3⟩, h => ⟨h0, h1, h2, by rw [h r (by simp)]; exact h3.keep fun q hq => h q (by simp [hq])⟩
/-- what stands where cores pop and push -/
structure Inv (c n T : Nat) (s : SysD) (own : List (List Int)) (X L : List Int) : Prop where
  n1 : 1 ≤ n
  n2 : n ≤ 200
  lc : s.C.length = c
  lo : own.length = c
  lW : s.M.W.length = 128 + 4 * n
  lG : s.M.G.length = n + 1
  ok : s.M.bad = false
  tag : tagI (gi s.M.W 0) = T
  chain : Chain n s.M.W (idx (gi s.M.W 0)) L
  cores : ∀ (i : Nat) cc, s.C[i]? = some cc → CoreOk n T s.M.W cc
  all : ∀ p, L.count p + held p own s.C + X.count p = if 1 ≤ p ∧ p ≤ n then 1 else 0
  free : ∀ p : Int, 1 ≤ p → p ≤ n → gi s.M.G p.toNat = if p ∈ L then 0 else 1

theorem lk_pos (p : Int) (h : 1 ≤ p) : lk p ≠ 0 := by unfold lk; omega
theorem lk_inj {p q : Int} (hp : 1 ≤ p) (hq : 1 ≤ q) (h : lk p = lk q) : p = q := by unfold lk at h; omega
theorem link_lk {p : Int} (h : 1 ≤ p) (h' : p ≤ 200) : linkAt p = 128 + 4 * (p - 1) := linkAt_in (by omega) (by omega)
theorem top_at {s : SysD} {k : Nat} {cc : CoreD} (h : s.C[k]? = some cc) : topD s k = cc.F[cc.F.length - 1]? := by
  have hk : k < s.C.length := by
    rcases Nat.lt_or_ge k s.C.length with h' | h'
    · exact h'
    · rw [List.getElem?_eq_none h'] at h; cases h
  unfold topD hasD
  rw [if_pos (by simp; omega)]
  simp [h]
theorem do_at {s : SysD} {k : Nat} {cc : CoreD} {f : FrameD} (h : s.C[k]? = some cc) (hf : cc.F = [f]) (g : CoreD → CoreD) : doS s k g = { s with C := s.C.set k (g cc) } := by
  unfold doS
  rw [top_at h, hf]
  simp [h, withS]
theorem on_at {s : SysD} {k : Nat} {cc : CoreD} {f : FrameD} (h : s.C[k]? = some cc) (hf : cc.F = [f]) (m : Arena) (g : FrameD) (pc : Int) : onS s k m g pc = { M := m, C := s.C.set k { cc with F := [pcF g pc] }, L := s.L } := by
  unfold onS setS
  rw [do_at (s := memS s m) h hf]
  simp [memS, setC, hf]
theorem back_at {s : SysD} {k : Nat} {cc : CoreD} {f : FrameD} (h : s.C[k]? = some cc) (hf : cc.F = [f]) (v e : Int) : backS s k v e = { s with C := s.C.set k { cc with F := [], V := v, E := e } } := by
  unfold backS
  rw [do_at h hf]
  simp [backC, hf]
theorem backm_at {s : SysD} {k : Nat} {cc : CoreD} {f : FrameD} (h : s.C[k]? = some cc) (hf : cc.F = [f]) (m : Arena) (v e : Int) : backS (memS s m) k v e = { M := m, C := s.C.set k { cc with F := [], V := v, E := e }, L := s.L } :=
  back_at (s := memS s m) h hf v e
theorem call_at {s : SysD} {k : Nat} {cc : CoreD} (h : s.C[k]? = some cc) (hf : cc.F = []) (op : Int) (l : List Int) : callS s k op l = { s with C := s.C.set k { cc with F := [newF op l] } } := by
  have hk : k < s.C.length := by
    rcases Nat.lt_or_ge k s.C.length with h' | h'
    · exact h'
    · rw [List.getElem?_eq_none h'] at h; cases h
  unfold callS hasD
  rw [if_pos (by simp; omega)]
  simp [h, hf, withS, callC]
end Go.Proofs.Ytcfbdfgondmkoaa
