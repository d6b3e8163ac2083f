/- Texts of this work, put together: Stk1, Stk2, Stk3, StF, Stk4, StN, StW0, StW, Shown4, RdS, Closed. -/
import Derived.Test.YtcfbdfgondmkoaaM13
import Derived.Test.YtcfbdfgondmkoaaM3
import Derived.Maps.OwnOps
import Derived.Maps.Views
import Derived.Test.YtcfbdfgondmkoaaRows
import Derived.KernelRfl
import Derived.JoinedOf
/- The stack's law, plain: what a step of a core does, where each core is at one op at most. -/
namespace Go.Proofs.Ytcfbdfgondmkoaa
open Go Go.RowKit
set_option linter.unusedSimpArgs false
set_option linter.unusedVariables false
set_option linter.unnecessarySimpa false

theorem word_idx (t i : Int) (_ : 0 ≤ i) (_ : i < 1048576) : idx (word t i 0) = i := by unfold idx word; omega
theorem word_tagI (t i : Int) (_ : 0 ≤ t) (_ : t < 1099511627776) : tagI (word t i 0) = t := by unfold tagI word; omega
def lk (p : Int) : Nat := (128 + 4 * (p - 1)).toNat
theorem gi_set_eq {l : List Int} {i : Nat} (v : Int) (h : i < l.length) : gi (l.set i v) i = v := by simp [gi, h]
theorem gi_set_ne {l : List Int} {i j : Nat} (v : Int) (h : i ≠ j) : gi (l.set i v) j = gi l j := by simp [gi, h]
theorem nodeD_link {n : Nat} {p : Int} (h : 1 ≤ p) : nodeD n (128 + 4 * (p - 1)) = 0 := by
  unfold nodeD
  rw [if_pos (by omega)]
theorem nodeD_0 (n : Nat) : nodeD n 0 = 0 := by unfold nodeD; rw [if_pos (by omega)]
/-- the cells that the list's steps touch: the head, and the nodes' links -/
def Cell (n : Nat) (x : Int) : Prop := x = 0 ∨ ∃ p : Int, 1 ≤ p ∧ p ≤ n ∧ x = 128 + 4 * (p - 1)
theorem Cell.link {n : Nat} {p : Int} (h : 1 ≤ p) (h' : p ≤ n) : Cell n (128 + 4 * (p - 1)) := .inr ⟨p, h, h', rfl⟩
theorem Cell.clean {n : Nat} {x : Int} {m : Arena} (h : Cell n x) (hW : m.W.length = 128 + 4 * n) (hb : m.bad = false) : outside m x = false ∧ badAt m x = false := by
  have h1 : outside m x = false := by
    rcases h with rfl | ⟨p, h3, h4, rfl⟩
    · simp [outside, hW]; omega
    · simp [outside, hW]; omega
  refine ⟨h1, ?_⟩
  have h2 : freeAt m x = false := by
    unfold freeAt
    rcases h with rfl | ⟨p, h3, h4, rfl⟩
    · rw [nodeD_0]; simp
    · rw [nodeD_link h3]; simp
  simp [badAt, hb, h1, h2]
theorem touch_clean {n : Nat} {x : Int} {m : Arena} (h : Cell n x) (hW : m.W.length = 128 + 4 * n) (hb : m.bad = false) : touchD m x = m := by
  unfold touchD
  rw [(h.clean hW hb).2, ← hb]
theorem load_clean {n : Nat} {x : Int} {m : Arena} (h : Cell n x) (hW : m.W.length = 128 + 4 * n) (hb : m.bad = false) : loadD m x = gi m.W x.toNat := by
  unfold loadD
  rw [(h.clean hW hb).1]; rfl
theorem store_clean {n : Nat} {x v : Int} {m : Arena} (h : Cell n x) (hW : m.W.length = 128 + 4 * n) (hb : m.bad = false) : storeD m x v = { m with W := m.W.set x.toNat v } := by
  unfold storeD
  rw [(h.clean hW hb).1, (h.clean hW hb).2]; simp [hb]
theorem casIs_0 {n : Nat} {m : Arena} (hW : m.W.length = 128 + 4 * n) (hb : m.bad = false) (old : Int) : casIs m 0 old = (gi m.W 0 == old) := by
  unfold casIs
  rw [(Cell.clean (n := n) (.inl rfl) hW hb).1]; rfl
theorem casD_yes {n : Nat} {m : Arena} (hW : m.W.length = 128 + 4 * n) (hb : m.bad = false) {old new : Int} (h : gi m.W 0 = old) : casD m 0 old new = { m with W := m.W.set 0 new } := by
  unfold casD
  rw [casIs_0 hW hb, h]
  simp only [BEq.rfl, if_true]
  exact store_clean (n := n) (.inl rfl) hW hb
theorem casD_no {n : Nat} {m : Arena} (hW : m.W.length = 128 + 4 * n) (hb : m.bad = false) {old new : Int} (h : gi m.W 0 ≠ old) : casD m 0 old new = m := by
  unfold casD
  rw [casIs_0 hW hb]
  have : (gi m.W 0 == old) = false := by simpa using h
  rw [this]
  exact touch_clean (n := n) (.inl rfl) hW hb

theorem sum_set {α : Type} (f : α → Nat) : ∀ (l : List α) (i : Nat) (x y : α), l[i]? = some y → ((l.set i x).map f).sum + f y = (l.map f).sum + f x
  | [], _, _, _, h => by cases h
  | a :: l, 0, x, y, h => by
    simp at h; subst h
    simp; omega
  | a :: l, i + 1, x, y, h => by
    have := sum_set f l i x y (by simpa using h)
    simp only [List.set_cons_succ, List.map_cons, List.sum_cons]; omega
theorem sum_at {α : Type} (f : α → Nat) : ∀ (l : List α) (i : Nat) (y : α), l[i]? = some y → f y ≤ (l.map f).sum
  | [], _, _, h => by cases h
  | a :: l, 0, y, h => by
    simp at h; subst h
    simp
  | a :: l, i + 1, y, h => by
    have := sum_at f l i y (by simpa using h)
    simp; omega
theorem sum_two {α : Type} (f : α → Nat) : ∀ (l : List α) (i j : Nat) (x y : α), i ≠ j → l[i]? = some x → l[j]? = some y → f x + f y ≤ (l.map f).sum
  | [], _, _, _, _, _, h, _ => by cases h
  | a :: l, 0, 0, _, _, h, _, _ => by cases h rfl
  | a :: l, 0, j + 1, x, y, _, h, h' => by
    simp at h; subst h
    have := sum_at f l j y (by simpa using h')
    simp; omega
  | a :: l, i + 1, 0, x, y, _, h, h' => by
    simp at h'; subst h'
    have := sum_at f l i x (by simpa using h)
    simp; omega
  | a :: l, i + 1, j + 1, x, y, hn, h, h' => by
    have := sum_two f l i j x y (by omega) (by simpa using h) (by simpa using h')
    simp; omega

/-- is a core at a push of this node? -/
def pushC (p : Int) (c : CoreD) : Nat := match c.F with
  | [f] => if f.op = 2 ∧ gi f.R 0 = p then 1 else 0
  | _ => 0
def held (p : Int) (own : List (List Int)) (cs : List CoreD) : Nat := (own.map (List.count p)).sum + (cs.map (pushC p)).sum
def PopOk (n T : Nat) (W : List Int) (f : FrameD) : Prop :=
  f.op = 1 ∧ (f.pc = 0 ∨ (f.pc = 1 ∨ f.pc = 2) ∧ tagI (gi f.R 0) ≤ T ∧ 1 ≤ idx (gi f.R 0) ∧ idx (gi f.R 0) ≤ n ∧ (f.pc = 2 → gi f.R 0 = gi W 0 → gi f.R 1 = gi W (lk (idx (gi f.R 0)))))
def PushOk (n T : Nat) (W : List Int) (f : FrameD) : Prop :=
  f.op = 2 ∧ 1 ≤ gi f.R 0 ∧ gi f.R 0 ≤ n ∧ (f.pc = 0 ∨ (f.pc = 1 ∨ f.pc = 2) ∧ tagI (gi f.R 1) ≤ T ∧ (f.pc = 2 → gi W (lk (gi f.R 0)) = idx (gi f.R 1)))
def FrOk (n T : Nat) (W : List Int) (f : FrameD) : Prop := f.R.length = 8 ∧ (PopOk n T W f ∨ PushOk n T W f)
def CoreOk (n T : Nat) (W : List Int) (c : CoreD) : Prop := c.F = [] ∨ ∃ f, c.F = [f] ∧ FrOk n T W f
/-- from a head, a list's nodes one behind the other -/
def Chain (n : Nat) (W : List Int) : Int → List Int → Prop
  | p, [] => p = 0
  | p, q :: l => p = q ∧ 1 ≤ q ∧ q ≤ n ∧ Chain n W (gi W (lk q)) l
theorem Chain.mem {n : Nat} {W : List Int} : ∀ {L : List Int} {p q : Int}, Chain n W p L → q ∈ L → 1 ≤ q ∧ q ≤ n
  | [], _, _, _, h => by cases h
  | r :: l, p, q, ⟨_, h1, h2, h3⟩, h => by
    rcases List.mem_cons.1 h with rfl | h
    · exact ⟨h1, h2⟩
    · exact Chain.mem h3 h
theorem Chain.keep {n : Nat} {W W' : List Int} : ∀ {L : List Int} {p : Int}, Chain n W p L → (∀ q, q ∈ L → gi W' (lk q) = gi W (lk q)) → Chain n W' p L
  | [], _, h, _ => h
  | r :: l, p, ⟨h0, h1, h2, h3⟩, h => ⟨h0, h1, h2, by rw [h r (by simp)]; exact h3.keep fun q hq => h q (by simp [hq])⟩
/-- what stands where cores pop and push -/
structure Inv (c n T : Nat) (s : SysD) (own : List (List Int)) (X L : List Int) : Prop where
  n1 : 1 ≤ n
  n2 : n ≤ 200
  lc : s.C.length = c
  lo : own.length = c
  lW : s.M.W.length = 128 + 4 * n
  lG : s.M.G.length = n + 1
  ok : s.M.bad = false
  tag : tagI (gi s.M.W 0) = T
  chain : Chain n s.M.W (idx (gi s.M.W 0)) L
  cores : ∀ (i : Nat) cc, s.C[i]? = some cc → CoreOk n T s.M.W cc
  all : ∀ p, L.count p + held p own s.C + X.count p = if 1 ≤ p ∧ p ≤ n then 1 else 0
  free : ∀ p : Int, 1 ≤ p → p ≤ n → gi s.M.G p.toNat = if p ∈ L then 0 else 1

theorem lk_pos (p : Int) (h : 1 ≤ p) : lk p ≠ 0 := by unfold lk; omega
theorem lk_inj {p q : Int} (hp : 1 ≤ p) (hq : 1 ≤ q) (h : lk p = lk q) : p = q := by unfold lk at h; omega
theorem link_lk {p : Int} (h : 1 ≤ p) (h' : p ≤ 200) : linkAt p = 128 + 4 * (p - 1) := linkAt_in (by omega) (by omega)
theorem top_at {s : SysD} {k : Nat} {cc : CoreD} (h : s.C[k]? = some cc) : topD s k = cc.F[cc.F.length - 1]? := by
  have hk : k < s.C.length := by
    rcases Nat.lt_or_ge k s.C.length with h' | h'
    · exact h'
    · rw [List.getElem?_eq_none h'] at h; cases h
  unfold topD hasD
  rw [if_pos (by simp; omega)]
  simp [h]
theorem do_at {s : SysD} {k : Nat} {cc : CoreD} {f : FrameD} (h : s.C[k]? = some cc) (hf : cc.F = [f]) (g : CoreD → CoreD) : doS s k g = { s with C := s.C.set k (g cc) } := by
  unfold doS
  rw [top_at h, hf]
  simp [h, withS]
theorem on_at {s : SysD} {k : Nat} {cc : CoreD} {f : FrameD} (h : s.C[k]? = some cc) (hf : cc.F = [f]) (m : Arena) (g : FrameD) (pc : Int) : onS s k m g pc = { M := m, C := s.C.set k { cc with F := [pcF g pc] }, L := s.L } := by
  unfold onS setS
  rw [do_at (s := memS s m) h hf]
  simp [memS, setC, hf]
theorem back_at {s : SysD} {k : Nat} {cc : CoreD} {f : FrameD} (h : s.C[k]? = some cc) (hf : cc.F = [f]) (v e : Int) : backS s k v e = { s with C := s.C.set k { cc with F := [], V := v, E := e } } := by
  unfold backS
  rw [do_at h hf]
  simp [backC, hf]
theorem backm_at {s : SysD} {k : Nat} {cc : CoreD} {f : FrameD} (h : s.C[k]? = some cc) (hf : cc.F = [f]) (m : Arena) (v e : Int) : backS (memS s m) k v e = { M := m, C := s.C.set k { cc with F := [], V := v, E := e }, L := s.L } :=
  back_at (s := memS s m) h hf v e
theorem call_at {s : SysD} {k : Nat} {cc : CoreD} (h : s.C[k]? = some cc) (hf : cc.F = []) (op : Int) (l : List Int) : callS s k op l = { s with C := s.C.set k { cc with F := [newF op l] } } := by
  have hk : k < s.C.length := by
    rcases Nat.lt_or_ge k s.C.length with h' | h'
    · exact h'
    · rw [List.getElem?_eq_none h'] at h; cases h
  unfold callS hasD
  rw [if_pos (by simp; omega)]
  simp [h, hf, withS, callC]
end Go.Proofs.Ytcfbdfgondmkoaa
/- The stack's law, plain: a step of a core keeps what stands. -/
namespace Go.Proofs.Ytcfbdfgondmkoaa
open Go Go.RowKit
set_option linter.unusedSimpArgs false
set_option linter.unusedVariables false
set_option linter.unnecessarySimpa false
set_option linter.unusedVariables false

theorem get_lt {α : Type} {l : List α} {k : Nat} {x : α} (h : l[k]? = some x) : k < l.length := by
  rcases Nat.lt_or_ge k l.length with h' | h'
  · exact h'
  · rw [List.getElem?_eq_none h'] at h; cases h
theorem set_get {α : Type} {l : List α} {k i : Nat} {x y : α} (hk : k < l.length) (h : (l.set k x)[i]? = some y) : i = k ∧ y = x ∨ i ≠ k ∧ l[i]? = some y := by
  rw [List.getElem?_set] at h
  by_cases hi : k = i
  · subst hi; rw [if_pos rfl, if_pos hk] at h; left; exact ⟨rfl, (by simpa using h.symm)⟩
  · rw [if_neg hi] at h; right; exact ⟨fun e => hi e.symm, h⟩
theorem held_set {p : Int} {own : List (List Int)} {cs : List CoreD} {k : Nat} {cc cc' : CoreD} (h : cs[k]? = some cc) : held p own (cs.set k cc') + pushC p cc = held p own cs + pushC p cc' := by
  have := sum_set (pushC p) cs k cc' cc h
  unfold held; omega
theorem pushC_one {p : Int} {c : CoreD} {f : FrameD} (h : c.F = [f]) : pushC p c = if f.op = 2 ∧ gi f.R 0 = p then 1 else 0 := by unfold pushC; rw [h]
theorem pushC_nil {p : Int} {c : CoreD} (h : c.F = []) : pushC p c = 0 := by unfold pushC; rw [h]

section
variable {c n T : Nat} {s : SysD} {own : List (List Int)} {X L : List Int} {k : Nat} {cc : CoreD} {f : FrameD}
theorem Inv.core (I : Inv c n T s own X L) (hk : s.C[k]? = some cc) {cc' : CoreD} (hok : CoreOk n T s.M.W cc') (hc : ∀ p, pushC p cc' = pushC p cc) (ll : List EvD) : Inv c n T { M := s.M, C := s.C.set k cc', L := ll } own X L where
  n1 := I.n1
  n2 := I.n2
  lc := by simpa using I.lc
  lo := I.lo
  lW := I.lW
  lG := I.lG
  ok := I.ok
  tag := I.tag
  chain := I.chain
  cores := fun i ci hi => by
    rcases set_get (get_lt hk) hi with ⟨_, rfl⟩ | ⟨_, h⟩
    · exact hok
    · exact I.cores i ci h
  all := fun p => by
    have h1 := held_set (p := p) (own := own) (cc' := cc') hk
    have h2 := I.all p
    rw [hc p] at h1
    show L.count p + held p own (s.C.set k cc') + X.count p = _
    rw [← h2]; omega
  free := I.free
theorem Inv.nodup (I : Inv c n T s own X L) (p : Int) : L.count p ≤ 1 := by
  have := I.all p
  split at this <;> omega
/-- the head, if there is one -/
theorem Inv.head (I : Inv c n T s own X L) (h : 1 ≤ idx (gi s.M.W 0)) : ∃ L', L = idx (gi s.M.W 0) :: L' := by
  have := I.chain
  cases L with
  | nil => exact absurd this (by unfold Chain; omega)
  | cons q l => exact ⟨l, by rw [this.1]⟩
theorem Inv.none (I : Inv c n T s own X L) (h : idx (gi s.M.W 0) = 0) : L = [] := by
  have := I.chain
  cases L with
  | nil => rfl
  | cons q l => obtain ⟨h1, h2, _⟩ := this; omega
theorem tag_lo (x : Int) : 0 ≤ tagI x := by unfold tagI; omega

theorem PopOk.grow {T' : Nat} {W W' : List Int} (h : PopOk n T W f) (hT : T ≤ T') (hW : (∀ q, 1 ≤ q → q = idx (gi W 0) → gi W' (lk q) = gi W (lk q)) ∧ gi W' 0 = gi W 0 ∨ tagI (gi W' 0) = T + 1) : PopOk n T' W' f := by
  obtain ⟨h0, h1⟩ := h
  refine ⟨h0, ?_⟩
  rcases h1 with h1 | ⟨h1, h2, h3, h4, h5⟩
  · exact .inl h1
  · refine .inr ⟨h1, by omega, h3, h4, fun hp he => ?_⟩
    rcases hW with ⟨ha, hb⟩ | ha
    · rw [hb] at he
      rw [h5 hp he, ha _ h3 (by rw [he])]
    · rw [he, ha] at h2; omega
theorem PushOk.grow {T' : Nat} {W W' : List Int} (h : PushOk n T W f) (hT : T ≤ T') (hW : gi W' (lk (gi f.R 0)) = gi W (lk (gi f.R 0))) : PushOk n T' W' f := by
  obtain ⟨h0, h1, h2, h3⟩ := h
  refine ⟨h0, h1, h2, ?_⟩
  rcases h3 with h3 | ⟨h3, h4, h5⟩
  · exact .inl h3
  · exact .inr ⟨h3, by omega, fun hp => by rw [hW, h5 hp]⟩

/-- what a step that ends nothing leaves -/
def Goes (s s' : SysD) (k : Nat) (f g : FrameD) : Prop :=
  g.op = f.op ∧ gi s'.M.W 0 = gi s.M.W 0 ∧ s'.L = s.L ∧
  (f.pc = 0 ∧ g.pc = 1 ∧ gi g.R (if f.op = 1 then 0 else 1) = gi s.M.W 0 ∨ f.pc = 1 ∧ g.pc = 2 ∧ gi g.R (if f.op = 1 then 0 else 1) = gi f.R (if f.op = 1 then 0 else 1) ∨ f.pc = 2 ∧ g.pc = 0 ∧ gi f.R (if f.op = 1 then 0 else 1) ≠ gi s.M.W 0)
def Stepped (c n T : Nat) (s s' : SysD) (own : List (List Int)) (L : List Int) (k : Nat) (f : FrameD) (cc' : CoreD) : Prop :=
  (∃ g, cc'.F = [g] ∧ Goes s s' k f g ∧ Inv c n T s' own [] L ∧ (f.op = 1 → f.pc = 0 → L ≠ [])) ∨
  (cc'.F = [] ∧ cc'.E = 0 ∧ f.op = 1 ∧ f.pc = 2 ∧ s'.L = s.L ∧ ∃ L', L = cc'.V :: L' ∧ Inv c n (T + 1) s' own [cc'.V] L') ∨
  (cc'.F = [] ∧ cc'.E = 0 ∧ f.op = 2 ∧ f.pc = 2 ∧ s'.L = s.L ∧ cc'.V = gi f.R 0 ∧ Inv c n (T + 1) s' own [] (gi f.R 0 :: L)) ∨
  (cc'.F = [] ∧ cc'.E = 2 ∧ f.op = 1 ∧ f.pc = 0 ∧ L = [] ∧ s'.L.length = s.L.length + 1 ∧ s'.M = s.M ∧ Inv c n T s' own [] [])

theorem gi_set8 {l : List Int} {i j : Nat} {v : Int} (hl : l.length = 8) (hi : i < 8) : gi (l.set i v) j = if i = j then v else gi l j := by
  by_cases h : i = j
  · subst h; rw [if_pos rfl]; exact gi_set_eq v (by omega)
  · rw [if_neg h]; exact gi_set_ne v h
theorem count_cons_self' (p : Int) (l : List Int) : (p :: l).count p = l.count p + 1 := by simp
theorem count_cons_if (p q : Int) (l : List Int) : (p :: l).count q = l.count q + if p = q then 1 else 0 := by
  by_cases h : p = q
  · subst h; simp
  · rw [if_neg h, List.count_cons_of_ne h]; rfl

theorem step_pop (I : Inv c n T s own [] L) (hk : s.C[k]? = some cc) (hf : cc.F = [f]) (hT : T < 1000000) (h8 : f.R.length = 8) (hp : PopOk n T s.M.W f) :
    ∃ cc', (popS s k f).C = s.C.set k cc' ∧ Stepped c n T s (popS s k f) own L k f cc' := by
  have hW := I.lW
  have hb := I.ok
  have n1 := I.n1
  have n2 := I.n2
  have hkl := get_lt hk
  obtain ⟨hop, hp⟩ := hp
  have c0 : Cell n 0 := .inl rfl
  have hpush : ∀ p, pushC p cc = 0 := fun p => by rw [pushC_one hf, if_neg (by omega)]
  have hnone : ∀ p (g : FrameD), g.op = 1 → ∀ cx : CoreD, cx.F = [g] → pushC p cx = 0 := fun p g hg cx hx => by rw [pushC_one hx, if_neg (by omega)]
  unfold popS
  rcases hp with h0 | ⟨h12, ht, hi1, hi2, hnext⟩
  · rw [if_pos h0, load_clean c0 hW hb, touch_clean c0 hW hb]
    rw [show (0 : Int).toNat = 0 from rfl]
    by_cases hz : idx (gi s.M.W 0) = 0
    · rw [if_pos hz]
      have hL := I.none hz
      have hh : hasD s (k : Int) = true := by simp [hasD]; omega
      have hlog : logD (memS s s.M) k 9 0 0 0 = { s with L := s.L ++ [⟨(k : Int), 9, 0, 0, 0⟩] } := by
        unfold logD
        rw [show hasD (memS s s.M) (k : Int) = true from hh]
        rfl
      rw [hlog, back_at (s := { s with L := s.L ++ [⟨(k : Int), 9, 0, 0, 0⟩] }) hk hf]
      refine ⟨_, rfl, .inr (.inr (.inr ⟨rfl, rfl, hop, h0, hL, by simp, rfl, ?_⟩))⟩
      subst hL
      exact I.core hk (.inl rfl) (fun p => by rw [pushC_nil rfl, hpush]) _
    · rw [if_neg hz, on_at hk hf]
      refine ⟨_, rfl, .inl ⟨_, rfl, ⟨rfl, rfl, rfl, .inl ⟨h0, rfl, ?_⟩⟩, ?_, fun _ _ e => ?_⟩⟩
      · rw [if_pos hop]; show gi (f.R.set 0 _) 0 = _; rw [gi_set8 h8 (by decide)]; rfl
      · refine I.core hk (.inr ⟨_, rfl, ?_, .inl ⟨by exact hop, .inr ?_⟩⟩) (fun p => ?_) _
        · simpa [pcF, regF] using h8
        · refine ⟨.inl ?_, ?_, ?_, ?_, ?_⟩
          · rfl
          · show tagI (gi (f.R.set 0 _) 0) ≤ _; rw [gi_set8 h8 (by decide), if_pos rfl, I.tag]; omega
          · show 1 ≤ idx (gi (f.R.set 0 _) 0); rw [gi_set8 h8 (by decide), if_pos rfl]; have := idx_lo (gi s.M.W 0); omega
          · show idx (gi (f.R.set 0 _) 0) ≤ _
            rw [gi_set8 h8 (by decide), if_pos rfl]
            obtain ⟨L', hL'⟩ := I.head (by have := idx_lo (gi s.M.W 0); omega)
            exact (I.chain.mem (q := idx (gi s.M.W 0)) (by rw [hL']; simp)).2
          · intro h; exact absurd (show (1 : Int) = 2 from h) (by decide)
        · rw [hnone p _ (by exact hop) _ rfl, hpush]
      · have := I.chain
        rw [e] at this
        exact hz this
  · have hlk : linkAt (idx (gi f.R 0)) = 128 + 4 * (idx (gi f.R 0) - 1) := link_lk hi1 (by omega)
    have c1 : Cell n (linkAt (idx (gi f.R 0))) := by rw [hlk]; exact Cell.link hi1 hi2
    rcases h12 with h1 | h2
    · rw [if_neg (by omega), if_pos h1, load_clean c1 hW hb, touch_clean c1 hW hb, on_at hk hf]
      have hn : (linkAt (idx (gi f.R 0))).toNat = lk (idx (gi f.R 0)) := by rw [hlk]; rfl
      rw [hn]
      refine ⟨_, rfl, .inl ⟨_, rfl, ⟨rfl, rfl, rfl, .inr (.inl ⟨h1, rfl, ?_⟩)⟩, ?_, fun _ e => by omega⟩⟩
      · rw [if_pos hop]; show gi (f.R.set 1 _) 0 = _; rw [gi_set8 h8 (by decide)]; rfl
      · refine I.core hk (.inr ⟨_, rfl, ?_, .inl ⟨by exact hop, .inr ?_⟩⟩) (fun p => ?_) _
        · simpa [pcF, regF] using h8
        · refine ⟨.inr ?_, ?_, ?_, ?_, fun _ _ => ?_⟩
          · rfl
          · show tagI (gi (f.R.set 1 _) 0) ≤ _; rw [gi_set8 h8 (by decide)]; exact ht
          · show 1 ≤ idx (gi (f.R.set 1 _) 0); rw [gi_set8 h8 (by decide)]; exact hi1
          · show idx (gi (f.R.set 1 _) 0) ≤ _; rw [gi_set8 h8 (by decide)]; exact hi2
          · show gi (f.R.set 1 _) 1 = gi s.M.W (lk (idx (gi (f.R.set 1 _) 0)))
            rw [gi_set8 h8 (by decide), gi_set8 h8 (by decide)]; rfl
        · rw [hnone p _ (by exact hop) _ rfl, hpush]
    · rw [if_neg (by omega), if_neg (by omega), if_pos h2, casIs_0 hW hb]
      by_cases heq : gi s.M.W 0 = gi f.R 0
      · have hbeq : (gi s.M.W 0 == gi f.R 0) = true := by rw [heq]; exact BEq.rfl
        rw [if_pos hbeq, casD_yes hW hb heq]
        have hh : idx (gi s.M.W 0) = idx (gi f.R 0) := by rw [heq]
        obtain ⟨L', hL'⟩ := I.head (by rw [hh]; exact hi1)
        rw [hh] at hL'
        have hch := I.chain
        rw [hL'] at hch
        obtain ⟨_, _, _, hch⟩ := hch
        have hnx := hnext h2 heq.symm
        have hm : gi s.M.G (idx (gi f.R 0)).toNat = 0 := by rw [I.free _ hi1 hi2, if_pos (by rw [hL']; simp)]
        have hturn : turnMD { s.M with W := s.M.W.set 0 (nextW (gi f.R 0) (gi f.R 1) 0) } (idx (gi f.R 0)) 1 = { W := s.M.W.set 0 (nextW (gi f.R 0) (gi f.R 1) 0), G := s.M.G.set (idx (gi f.R 0)).toNat 1, bad := s.M.bad } := by
          have : turnIs { s.M with W := s.M.W.set 0 (nextW (gi f.R 0) (gi f.R 1) 0) } (idx (gi f.R 0)) 1 = true := by
            unfold turnIs
            show (decide (1 ≤ idx (gi f.R 0) ∧ idx (gi f.R 0) < s.M.G.length) && turnD (gi s.M.G (idx (gi f.R 0)).toNat) 1) = true
            rw [hm, I.lG]
            simp [turnD, pairEq]; omega
          unfold turnMD
          rw [if_pos this]
        rw [hturn, backm_at hk hf]
        have hnlo : 0 ≤ gi f.R 1 ∧ gi f.R 1 < 1048576 := by
          rw [hnx]
          cases L' with
          | nil => have : gi s.M.W (lk (idx (gi f.R 0))) = 0 := hch; omega
          | cons q l => obtain ⟨e, q1, q2, _⟩ := hch; omega
        have htl := tag_lo (gi f.R 0)
        have hW0 : gi (s.M.W.set 0 (nextW (gi f.R 0) (gi f.R 1) 0)) 0 = nextW (gi f.R 0) (gi f.R 1) 0 := gi_set_eq _ (by omega)
        have htag : tagI (nextW (gi f.R 0) (gi f.R 1) 0) = T + 1 := by
          show tagI (word (tagI (gi f.R 0) + 1) _ 0) = _
          have e : tagI (gi f.R 0) = T := by rw [← heq, I.tag]
          rw [word_tagI _ _ (by omega) (by omega)]; omega
        have hidx : idx (nextW (gi f.R 0) (gi f.R 1) 0) = gi f.R 1 := word_idx _ _ hnlo.1 hnlo.2
        have hlks : ∀ q, 1 ≤ q → gi (s.M.W.set 0 (nextW (gi f.R 0) (gi f.R 1) 0)) (lk q) = gi s.M.W (lk q) := fun q hq => gi_set_ne _ (Ne.symm (lk_pos q hq))
        refine ⟨_, rfl, .inr (.inl ⟨rfl, rfl, hop, h2, rfl, L', hL', ?_⟩)⟩
        exact {
          n1 := n1, n2 := n2, lc := by simpa [memS] using I.lc, lo := I.lo
          lW := by simpa [memS] using hW
          lG := by simpa [memS] using I.lG
          ok := hb
          tag := by show tagI (gi (s.M.W.set 0 _) 0) = _; rw [hW0, htag]; rfl
          chain := by
            show Chain n (s.M.W.set 0 _) (idx (gi (s.M.W.set 0 _) 0)) L'
            rw [hW0, hidx]
            have e := hch.keep fun q hq => hlks q (hch.mem hq).1
            rw [← hnx] at e
            exact e
          cores := fun i ci hi => by
            rcases set_get hkl hi with ⟨_, rfl⟩ | ⟨_, h⟩
            · exact .inl rfl
            · rcases I.cores i ci h with h | ⟨g, hg, g8, hg'⟩
              · exact .inl h
              · refine .inr ⟨g, hg, g8, hg'.elim (fun h => .inl (h.grow (Nat.le_succ _) (.inr (by show tagI (gi (s.M.W.set 0 _) 0) = _; rw [hW0, htag])))) (fun h => .inr (h.grow (Nat.le_succ _) (hlks _ h.2.1)))⟩
          all := fun p => by
            have h1 := held_set (p := p) (own := own) (cc' := { cc with F := [], V := idx (gi f.R 0), E := 0 }) hk
            rw [hpush, pushC_nil rfl] at h1
            have h2 := I.all p
            rw [hL', count_cons_if] at h2
            show L'.count p + held p own (s.C.set k _) + List.count p [idx (gi f.R 0)] = _
            rw [count_cons_if, ← h2]
            simp at h1 ⊢
            omega
          free := fun p hp1 hp2 => by
            show gi (s.M.G.set (idx (gi f.R 0)).toNat 1) p.toNat = _
            have hn := I.nodup (idx (gi f.R 0))
            rw [hL', count_cons_if, if_pos rfl] at hn
            by_cases he : idx (gi f.R 0) = p
            · rw [he, gi_set_eq _ (by rw [I.lG]; omega), if_neg]
              rw [← he]
              exact List.count_eq_zero.1 (by omega)
            · rw [gi_set_ne _ (by omega), I.free p hp1 hp2, hL']
              simp [Ne.symm he] }
      · have hbeq : (gi s.M.W 0 == gi f.R 0) = false := by simpa using heq
        rw [if_neg (by rw [hbeq]; decide), casD_no hW hb heq, on_at hk hf]
        refine ⟨_, rfl, .inl ⟨_, rfl, ⟨rfl, rfl, rfl, .inr (.inr ⟨h2, rfl, by rw [if_pos hop]; exact Ne.symm heq⟩)⟩, ?_, fun _ e => by omega⟩⟩
        refine I.core hk (.inr ⟨_, rfl, by exact h8, .inl ⟨by exact hop, .inl ?_⟩⟩) (fun p => ?_) _
        · rfl
        · rw [hnone p _ (by exact hop) _ rfl, hpush]
theorem step_push (I : Inv c n T s own [] L) (hk : s.C[k]? = some cc) (hf : cc.F = [f]) (hT : T < 1000000) (h8 : f.R.length = 8) (hp : PushOk n T s.M.W f) :
    ∃ cc', (pushS s k f).C = s.C.set k cc' ∧ Stepped c n T s (pushS s k f) own L k f cc' := by
  have hW := I.lW
  have hb := I.ok
  have n1 := I.n1
  have n2 := I.n2
  have hkl := get_lt hk
  obtain ⟨hop, hp1, hp2, hp⟩ := hp
  have c0 : Cell n 0 := .inl rfl
  have hpush : ∀ p, pushC p cc = if gi f.R 0 = p then 1 else 0 := fun p => by rw [pushC_one hf]; simp [hop]
  have hsome : ∀ p (g : FrameD), g.op = 2 → ∀ cx : CoreD, cx.F = [g] → pushC p cx = if gi g.R 0 = p then 1 else 0 := fun p g hg cx hx => by rw [pushC_one hx]; simp [hg]
  have hop1 : ¬ f.op = 1 := by omega
  have hheld : 1 ≤ held (gi f.R 0) own s.C := by
    have := sum_at (pushC (gi f.R 0)) s.C k cc hk
    rw [hpush, if_pos rfl] at this
    unfold held; omega
  have hnotin : gi f.R 0 ∉ L := by
    have := I.all (gi f.R 0)
    rw [if_pos ⟨hp1, hp2⟩] at this
    exact List.count_eq_zero.1 (by omega)
  unfold pushS
  rcases hp with h0 | ⟨h12, ht, hnext⟩
  · rw [if_pos h0, load_clean c0 hW hb, touch_clean c0 hW hb]
    rw [show (0 : Int).toNat = 0 from rfl]
    rw [on_at hk hf]
    refine ⟨_, rfl, .inl ⟨_, rfl, ⟨rfl, rfl, rfl, .inl ⟨h0, rfl, ?_⟩⟩, ?_, fun e _ => by omega⟩⟩
    · rw [if_neg hop1]; show gi (f.R.set 1 _) 1 = _; rw [gi_set8 h8 (by decide)]; rfl
    · refine I.core hk (.inr ⟨_, rfl, ?_, .inr ⟨by exact hop, ?_, ?_, .inr ⟨.inl ?_, ?_, ?_⟩⟩⟩) (fun p => ?_) _
      · simpa [pcF, regF] using h8
      · show 1 ≤ gi (f.R.set 1 _) 0; rw [gi_set8 h8 (by decide)]; exact hp1
      · show gi (f.R.set 1 _) 0 ≤ _; rw [gi_set8 h8 (by decide)]; exact hp2
      · rfl
      · show tagI (gi (f.R.set 1 _) 1) ≤ _; rw [gi_set8 h8 (by decide), if_pos rfl, I.tag]; omega
      · intro h; exact absurd (show (1 : Int) = 2 from h) (by decide)
      · rw [hsome p _ (by exact hop) _ rfl, hpush]
        show (if gi (f.R.set 1 _) 0 = p then 1 else 0) = _
        rw [gi_set8 h8 (by decide)]; rfl
  · have hlk : linkAt (gi f.R 0) = 128 + 4 * (gi f.R 0 - 1) := link_lk hp1 (by omega)
    have c1 : Cell n (linkAt (gi f.R 0)) := by rw [hlk]; exact Cell.link hp1 hp2
    rcases h12 with h1 | h2
    · rw [if_neg (by omega), if_pos h1, store_clean c1 hW hb]
      have hn : (linkAt (gi f.R 0)).toNat = lk (gi f.R 0) := by rw [hlk]; rfl
      rw [hn, on_at hk hf]
      have hW0 : gi (s.M.W.set (lk (gi f.R 0)) (idx (gi f.R 1))) 0 = gi s.M.W 0 := gi_set_ne _ (lk_pos _ hp1)
      have hlt : lk (gi f.R 0) < s.M.W.length := by unfold lk; omega
      refine ⟨_, rfl, .inl ⟨_, rfl, ⟨rfl, hW0, rfl, .inr (.inl ⟨h1, rfl, ?_⟩)⟩, ?_, fun e _ => by omega⟩⟩
      · rw [if_neg hop1]; rfl
      · exact {
          n1 := n1, n2 := n2, lc := by simpa using I.lc, lo := I.lo
          lW := by simpa using hW
          lG := I.lG
          ok := hb
          tag := by show tagI (gi (s.M.W.set _ _) 0) = _; rw [hW0, I.tag]
          chain := by
            show Chain n (s.M.W.set _ _) (idx (gi (s.M.W.set _ _) 0)) L
            rw [hW0]
            exact I.chain.keep fun q hq => gi_set_ne _ fun e => hnotin (by rw [lk_inj hp1 (I.chain.mem hq).1 e]; exact hq)
          cores := fun i ci hi => by
            rcases set_get hkl hi with ⟨_, rfl⟩ | ⟨hne, h⟩
            · refine .inr ⟨_, rfl, by exact h8, .inr ⟨by exact hop, by exact hp1, by exact hp2, .inr ⟨.inr rfl, by exact ht, fun _ => ?_⟩⟩⟩
              exact gi_set_eq _ hlt
            · rcases I.cores i ci h with h | ⟨g, hg, g8, hg'⟩
              · exact .inl h
              · refine .inr ⟨g, hg, g8, hg'.elim (fun h => .inl (h.grow (Nat.le_refl _) (.inl ⟨fun q hq e => ?_, hW0⟩))) (fun h' => .inr (h'.grow (Nat.le_refl _) ?_))⟩
                · refine gi_set_ne _ fun e' => hnotin ?_
                  rw [lk_inj hp1 hq e', e]
                  obtain ⟨L', hL'⟩ := I.head (by omega)
                  rw [hL']; simp
                · refine gi_set_ne _ fun e' => ?_
                  have e2 := lk_inj hp1 h'.2.1 e'
                  have := sum_two (pushC (gi f.R 0)) s.C i k ci cc hne h hk
                  rw [pushC_one hg, hpush, if_pos rfl, if_pos ⟨h'.1, e2.symm⟩] at this
                  have h3 := I.all (gi f.R 0)
                  rw [if_pos ⟨hp1, hp2⟩] at h3
                  unfold held at h3; omega
          all := fun p => by
            have h1 := held_set (p := p) (own := own) (cc' := { cc with F := [pcF f 2] }) hk
            rw [hpush, hsome p (pcF f 2) hop _ rfl] at h1
            have h2 := I.all p
            show L.count p + held p own (s.C.set k _) + List.count p [] = _
            rw [← h2]
            have e : (if gi (pcF f 2).R 0 = p then 1 else 0) = if gi f.R 0 = p then 1 else 0 := rfl
            rw [e] at h1
            omega
          free := I.free }
    · rw [if_neg (by omega), if_neg (by omega), if_pos h2, casIs_0 hW hb]
      by_cases heq : gi s.M.W 0 = gi f.R 1
      · have hbeq : (gi s.M.W 0 == gi f.R 1) = true := by rw [heq]; exact BEq.rfl
        rw [if_pos hbeq, casD_yes hW hb heq]
        have hnx := hnext h2
        have hm : gi s.M.G (gi f.R 0).toNat = 1 := by rw [I.free _ hp1 hp2, if_neg hnotin]
        have hturn : turnMD { s.M with W := s.M.W.set 0 (nextW (gi f.R 1) (gi f.R 0) 0) } (gi f.R 0) 0 = { W := s.M.W.set 0 (nextW (gi f.R 1) (gi f.R 0) 0), G := s.M.G.set (gi f.R 0).toNat 0, bad := s.M.bad } := by
          have : turnIs { s.M with W := s.M.W.set 0 (nextW (gi f.R 1) (gi f.R 0) 0) } (gi f.R 0) 0 = true := by
            unfold turnIs
            show (decide (1 ≤ gi f.R 0 ∧ gi f.R 0 < s.M.G.length) && turnD (gi s.M.G (gi f.R 0).toNat) 0) = true
            rw [hm, I.lG]
            simp [turnD, pairEq]; omega
          unfold turnMD
          rw [if_pos this]
        rw [hturn, backm_at hk hf]
        have htl := tag_lo (gi f.R 1)
        have hW0 : gi (s.M.W.set 0 (nextW (gi f.R 1) (gi f.R 0) 0)) 0 = nextW (gi f.R 1) (gi f.R 0) 0 := gi_set_eq _ (by omega)
        have htag : tagI (nextW (gi f.R 1) (gi f.R 0) 0) = T + 1 := by
          show tagI (word (tagI (gi f.R 1) + 1) _ 0) = _
          have e : tagI (gi f.R 1) = T := by rw [← heq, I.tag]
          rw [word_tagI _ _ (by omega) (by omega)]; omega
        have hidx : idx (nextW (gi f.R 1) (gi f.R 0) 0) = gi f.R 0 := word_idx _ _ (by omega) (by omega)
        have hlks : ∀ q, 1 ≤ q → gi (s.M.W.set 0 (nextW (gi f.R 1) (gi f.R 0) 0)) (lk q) = gi s.M.W (lk q) := fun q hq => gi_set_ne _ (Ne.symm (lk_pos q hq))
        refine ⟨_, rfl, .inr (.inr (.inl ⟨rfl, rfl, hop, h2, rfl, rfl, ?_⟩))⟩
        exact {
          n1 := n1, n2 := n2, lc := by simpa [memS] using I.lc, lo := I.lo
          lW := by simpa [memS] using hW
          lG := by simpa [memS] using I.lG
          ok := hb
          tag := by show tagI (gi (s.M.W.set 0 _) 0) = _; rw [hW0, htag]; rfl
          chain := by
            show Chain n (s.M.W.set 0 _) (idx (gi (s.M.W.set 0 _) 0)) (gi f.R 0 :: L)
            rw [hW0, hidx]
            refine ⟨rfl, hp1, hp2, ?_⟩
            rw [hlks _ hp1, hnx]
            have e := I.chain.keep fun q hq => hlks q (I.chain.mem hq).1
            rw [heq] at e
            exact e
          cores := fun i ci hi => by
            rcases set_get hkl hi with ⟨_, rfl⟩ | ⟨_, h⟩
            · exact .inl rfl
            · rcases I.cores i ci h with h | ⟨g, hg, g8, hg'⟩
              · exact .inl h
              · refine .inr ⟨g, hg, g8, hg'.elim (fun h => .inl (h.grow (Nat.le_succ _) (.inr (by show tagI (gi (s.M.W.set 0 _) 0) = _; rw [hW0, htag])))) (fun h => .inr (h.grow (Nat.le_succ _) (hlks _ h.2.1)))⟩
          all := fun p => by
            have h1 := held_set (p := p) (own := own) (cc' := { cc with F := [], V := gi f.R 0, E := 0 }) hk
            rw [hpush, pushC_nil rfl] at h1
            have h2 := I.all p
            show List.count p (gi f.R 0 :: L) + held p own (s.C.set k _) + List.count p [] = _
            rw [count_cons_if, ← h2]
            simp at h1 ⊢
            omega
          free := fun p h1 h2 => by
            show gi (s.M.G.set (gi f.R 0).toNat 0) p.toNat = _
            by_cases he : gi f.R 0 = p
            · rw [he, gi_set_eq _ (by rw [I.lG]; omega), if_pos (by simp)]
            · rw [gi_set_ne _ (by omega), I.free p h1 h2]
              simp [Ne.symm he] }
      · have hbeq : (gi s.M.W 0 == gi f.R 1) = false := by simpa using heq
        rw [if_neg (by rw [hbeq]; decide), casD_no hW hb heq, on_at hk hf]
        refine ⟨_, rfl, .inl ⟨_, rfl, ⟨rfl, rfl, rfl, .inr (.inr ⟨h2, rfl, by rw [if_neg hop1]; exact Ne.symm heq⟩)⟩, ?_, fun e _ => by omega⟩⟩
        refine I.core hk (.inr ⟨_, rfl, by exact h8, .inr ⟨by exact hop, by exact hp1, by exact hp2, .inl ?_⟩⟩) (fun p => ?_) _
        · rfl
        · rw [hsome p _ (by exact hop) _ rfl, hpush]; rfl
theorem step_inv (I : Inv c n T s own [] L) (hk : s.C[k]? = some cc) (hf : cc.F = [f]) (hT : T < 1000000) :
    ∃ cc', (step4 s k).C = s.C.set k cc' ∧ Stepped c n T s (step4 s k) own L k f cc' := by
  have ht : topD s k = some f := by rw [top_at hk, hf]; rfl
  rcases I.cores k cc hk with h | ⟨g, hg, h8, hok⟩
  · rw [hf] at h; cases h
  · obtain rfl : f = g := by rw [hf] at hg; simpa using hg
    unfold step4
    rw [ht]
    rcases hok with h | h
    · have := step_pop I hk hf hT h8 h
      simpa [h.1] using this
    · have := step_push I hk hf hT h8 h
      simpa [h.1] using this
end
end Go.Proofs.Ytcfbdfgondmkoaa
/- The stack's law, plain: a filled arena; the list that is walked; cores that pop and push by picks. -/
namespace Go.Proofs.Ytcfbdfgondmkoaa
open Go Go.RowKit
set_option linter.unusedSimpArgs false
set_option linter.unusedVariables false
set_option linter.unnecessarySimpa false
set_option linter.unusedVariables false

theorem Cell.safe {n : Nat} {x : Int} {m : Arena} (h : Cell n x) (hW : m.W.length = 128 + 4 * n) : outside m x = false ∧ badAt m x = m.bad := by
  have h1 : outside m x = false := by
    rcases h with rfl | ⟨p, h3, h4, rfl⟩
    · simp [outside, hW]; omega
    · simp [outside, hW]; omega
  refine ⟨h1, ?_⟩
  have h2 : freeAt m x = false := by
    unfold freeAt
    rcases h with rfl | ⟨p, h3, h4, rfl⟩
    · rw [nodeD_0]; simp
    · rw [nodeD_link h3]; simp
  simp [badAt, h1, h2]
theorem store_safe {n : Nat} {x v : Int} {m : Arena} (h : Cell n x) (hW : m.W.length = 128 + 4 * n) : storeD m x v = { m with W := m.W.set x.toNat v } := by
  unfold storeD
  rw [(h.safe hW).1, (h.safe hW).2]; rfl
theorem load_safe {n : Nat} {x : Int} {m : Arena} (h : Cell n x) (hW : m.W.length = 128 + 4 * n) : loadD m x = gi m.W x.toNat := by
  unfold loadD
  rw [(h.safe hW).1]; rfl
/-- what a node's link tells in a filled arena -/
def nextOf (n i : Nat) : Int := if i = n then 0 else (i : Int) + 1
theorem fillL_spec {n : Nat} (hn : n ≤ 200) : ∀ (k i : Nat) (m : Arena), i + k = n + 1 → 1 ≤ i → m.W.length = 128 + 4 * n → ∃ W', fillL n k i m = { m with W := W' } ∧ W'.length = 128 + 4 * n ∧
    (∀ p : Nat, i ≤ p → p ≤ n → gi W' (lk p) = nextOf n p) ∧ (∀ x, (∀ p : Nat, i ≤ p → p ≤ n → x ≠ lk p) → gi W' x = gi m.W x)
  | 0, i, m, h1, h2, h3 => ⟨m.W, rfl, h3, fun p _ _ => by omega, fun _ _ => rfl⟩
  | k + 1, i, m, h1, h2, h3 => by
    have hl : linkAt (i : Int) = 128 + 4 * ((i : Int) - 1) := link_lk (by omega) (by omega)
    have hs : storeD m (linkAt i) (nextOf n i) = { m with W := m.W.set (lk i) (nextOf n i) } := by
      rw [store_safe (n := n) (by rw [hl]; exact Cell.link (by omega) (by omega)) h3, hl]; rfl
    obtain ⟨W', e, h4, h5, h6⟩ := fillL_spec hn k (i + 1) { m with W := m.W.set (lk i) (nextOf n i) } (by omega) (by omega) (by simpa using h3)
    refine ⟨W', ?_, h4, fun p hp hq => ?_, fun x hx => ?_⟩
    · unfold fillL
      show fillL n k (i + 1) (storeD m (linkAt i) (nextOf n i)) = _
      rw [hs, e]
    · by_cases hpi : p = i
      · subst hpi
        rw [h6 _ fun q h7 h8 e => by have := lk_inj (by omega) (by omega) e; omega]
        exact gi_set_eq _ (by unfold lk; omega)
      · exact h5 p (by omega) hq
    · rw [h6 x fun p hp hq => hx p (by omega) hq]
      exact gi_set_ne _ (Ne.symm (hx i (Nat.le_refl _) (by omega)))
theorem fill_spec {n : Nat} {m : Arena} (hn : n ≤ 200) (hG : m.G.length = n + 1) (hW : m.W.length = 128 + 4 * n) : ∃ W', fillD m = { m with W := W' } ∧ W'.length = 128 + 4 * n ∧ gi W' 0 = 2 ∧ ∀ p : Nat, 1 ≤ p → p ≤ n → gi W' (lk p) = nextOf n p := by
  obtain ⟨W', e, h1, h2, _⟩ := fillL_spec hn n 1 m (by omega) (by omega) hW
  refine ⟨W'.set 0 2, ?_, by simpa using h1, gi_set_eq _ (by omega), fun p hp hq => ?_⟩
  · unfold fillD
    rw [show m.G.length - 1 = n by omega, e]
    exact store_safe (n := n) (.inl rfl) h1
  · rw [gi_set_ne _ (Ne.symm (lk_pos _ (by omega)))]; exact h2 p hp hq
theorem set_same {l : List Int} {i : Nat} {v : Int} (h : gi l i = v) : l.set i v = l := by
  apply List.ext_getElem (by simp)
  intro j h1 h2
  rw [List.getElem_set]
  split
  · rename_i e; subst e
    rw [← h]; simp [gi, h2]
  · rfl
theorem fillL_same {n : Nat} (hn : n ≤ 200) : ∀ (k i : Nat) (m : Arena), i + k = n + 1 → 1 ≤ i → m.W.length = 128 + 4 * n → (∀ p : Nat, i ≤ p → p ≤ n → gi m.W (lk p) = nextOf n p) → fillL n k i m = m
  | 0, i, m, h1, h2, h3, h4 => rfl
  | k + 1, i, m, h1, h2, h3, h4 => by
    have hl : linkAt (i : Int) = 128 + 4 * ((i : Int) - 1) := link_lk (by omega) (by omega)
    have hs : storeD m (linkAt i) (nextOf n i) = m := by
      rw [store_safe (n := n) (by rw [hl]; exact Cell.link (by omega) (by omega)) h3, hl]
      show { m with W := m.W.set (lk i) (nextOf n i) } = m
      rw [set_same (h4 i (Nat.le_refl _) (by omega))]
    unfold fillL
    show fillL n k (i + 1) (storeD m (linkAt i) (nextOf n i)) = _
    rw [hs]
    exact fillL_same hn k (i + 1) m (by omega) (by omega) h3 fun p hp hq => h4 p (by omega) hq
theorem fill_twice {n : Nat} {m : Arena} (hn : n ≤ 200) (hG : m.G.length = n + 1) (hW : m.W.length = 128 + 4 * n) : fillD (fillD m) = fillD m := by
  obtain ⟨W', e, h1, h2, h3⟩ := fill_spec hn hG hW
  rw [e]
  unfold fillD
  show storeD (fillL (m.G.length - 1) (m.G.length - 1) 1 { m with W := W' }) 0 2 = _
  rw [show m.G.length - 1 = n by omega, fillL_same hn n 1 { m with W := W' } (by omega) (by omega) h1 h3, store_safe (n := n) (.inl rfl) h1]
  show { m with W := W'.set 0 2 } = _
  rw [set_same h2]
/-- so many numbers from one on -/
def upl : Nat → Nat → List Int
  | 0, _ => []
  | k + 1, i => (i : Int) :: upl k (i + 1)
theorem upl_length : ∀ (k i : Nat), (upl k i).length = k
  | 0, _ => rfl
  | k + 1, i => by simp [upl, upl_length k]
theorem upl_get : ∀ (k i j : Nat), j < k → gi (upl k i) j = (i : Int) + j
  | 0, _, _, h => by omega
  | k + 1, i, 0, h => by simp [upl, gi]
  | k + 1, i, j + 1, h => by
    have := upl_get k (i + 1) j (by omega)
    simp [upl, gi] at this ⊢
    rw [this]; omega
theorem upl_count : ∀ (k i : Nat) (p : Int), (upl k i).count p = if (i : Int) ≤ p ∧ p < i + k then 1 else 0
  | 0, i, p => by simp [upl]
  | k + 1, i, p => by
    rw [upl, count_cons_if, upl_count k (i + 1) p]
    split <;> split <;> split <;> omega
theorem upl_chain {n : Nat} {W : List Int} (h : ∀ p : Nat, 1 ≤ p → p ≤ n → gi W (lk p) = nextOf n p) : ∀ (k i : Nat), 1 ≤ i → i + k = n + 1 → Chain n W (if k = 0 then 0 else i) (upl k i)
  | 0, i, _, _ => by simp [upl, Chain]
  | k + 1, i, h1, h2 => by
    refine ⟨by simp, by omega, by omega, ?_⟩
    rw [h i h1 (by omega)]
    have := upl_chain h k (i + 1) (by omega) (by omega)
    unfold nextOf
    by_cases hk : k = 0
    · rw [if_pos hk] at this; rw [if_pos (by omega)]; exact this
    · rw [if_neg hk] at this; rw [if_neg (by omega)]; simpa using this
theorem pigeon : ∀ (n : Nat) (L : List Int), (∀ p, L.count p ≤ 1) → (∀ p, p ∈ L → 1 ≤ p ∧ p ≤ n) → L.length ≤ n
  | 0, [], _, _ => by simp
  | 0, a :: l, _, h => by have := h a (by simp); omega
  | n + 1, L, h1, h2 => by
    have h3 : ∀ p, (L.erase (n + 1 : Nat)).count p ≤ 1 := fun p => by
      by_cases e : p = ((n + 1 : Nat) : Int)
      · subst e; rw [List.count_erase_self]; have := h1 ((n + 1 : Nat) : Int); omega
      · rw [List.count_erase_of_ne e]; exact h1 p
    have h4 : ∀ p, p ∈ L.erase ((n + 1 : Nat) : Int) → 1 ≤ p ∧ p ≤ n := fun p hp => by
      have hpL := List.mem_of_mem_erase hp
      have := h2 p hpL
      refine ⟨this.1, ?_⟩
      have : p ≠ ((n + 1 : Nat) : Int) := fun e => by
        subst e
        have h5 : 0 < (L.erase ((n + 1 : Nat) : Int)).count ((n + 1 : Nat) : Int) := List.count_pos_iff.2 hp
        rw [List.count_erase_self] at h5
        have := h1 ((n + 1 : Nat) : Int)
        omega
      omega
    have := pigeon n _ h3 h4
    have h5 : L.length ≤ (L.erase ((n + 1 : Nat) : Int)).length + 1 := by
      rw [List.length_erase]; split <;> omega
    omega
theorem walkF_chain {n : Nat} {m : Arena} (hn : n ≤ 200) (hG : m.G.length = n + 1) (hW : m.W.length = 128 + 4 * n) : ∀ (L : List Int) (p : Int) (k : Nat) (out : List Int), Chain n m.W p L → L.length < k → (∀ q, (out ++ L).count q ≤ 1) → walkF m k p out = (out ++ L, true)
  | [], p, 0, out, _, h, _ => by simp at h
  | [], p, k + 1, out, h, _, _ => by
    obtain rfl : p = 0 := h
    unfold walkF; simp
  | q :: l, p, 0, out, _, h, _ => by simp at h
  | q :: l, p, k + 1, out, ⟨e, h1, h2, h3⟩, hl, hc => by
    subst e
    have h4 : p ∉ out := fun hp => by
      have h5 := List.count_pos_iff.2 hp
      have := hc p
      rw [List.count_append, count_cons_if, if_pos rfl] at this
      omega
    have hlink : linkAt p = 128 + 4 * (p - 1) := link_lk h1 (by omega)
    have hld : loadD m (linkAt p) = gi m.W (lk p) := by rw [load_safe (n := n) (by rw [hlink]; exact Cell.link h1 h2) hW, hlink]; rfl
    unfold walkF
    rw [if_neg (by omega), if_neg (by rw [hG]; simp [h4]; omega), hld]
    have := walkF_chain hn hG hW l (gi m.W (lk p)) k (out ++ [p]) h3 (by simpa using hl) (by simpa using hc)
    rw [this]; simp
theorem walk_chain {n : Nat} {m : Arena} {L : List Int} (hn : n ≤ 200) (hG : m.G.length = n + 1) (hW : m.W.length = 128 + 4 * n) (h : Chain n m.W (idx (gi m.W 0)) L) (hc : ∀ q, L.count q ≤ 1) : walkD m = (L, true) := by
  unfold walkD
  rw [load_safe (n := n) (.inl rfl) hW]
  have := pigeon n L hc fun p hp => h.mem hp
  exact walkF_chain hn hG hW L _ _ [] h (by omega) (by simpa using hc)
theorem fill_walk {n : Nat} {m : Arena} (h1 : 1 ≤ n) (hn : n ≤ 200) (hG : m.G.length = n + 1) (hW : m.W.length = 128 + 4 * n) : walkD (fillD m) = (upl n 1, true) := by
  obtain ⟨W', e, h2, h3, h4⟩ := fill_spec hn hG hW
  rw [e]
  refine walk_chain (m := { m with W := W' }) hn hG h2 ?_ fun q => ?_
  · show Chain n W' (idx (gi W' 0)) _
    rw [h3]
    have := upl_chain h4 n 1 (by omega) (by omega)
    rw [if_neg (by omega)] at this
    exact this
  · rw [upl_count]; split <;> omega
end Go.Proofs.Ytcfbdfgondmkoaa
/- All nodes are laid into the list. -/
namespace Go.Proofs.Ytcfbdfgondmkoaa
open Go Go.RowKit
set_option linter.unusedSimpArgs false
set_option linter.unusedVariables false
set_option linter.unnecessarySimpa false

theorem of1_ (w : World) : Gives Proofs.Try.prog 37 #[.int .i64 0, .int .i64 1, .int .i64 0] w (eqv (.tuple #[.int .i64 2, .int .i64 0])) := by
  have h := of_ 0 1 0 w
  have e : ofV 0 1 0 = .tuple #[.int .i64 2, .int .i64 0] := by kernel_rfl
  rw [e] at h; exact h
theorem nextOf_mod {n k : Nat} (h1 : 1 ≤ k) (h2 : k ≤ n) : ((k : Int) + 1).tmod ((n : Int) + 1) = nextOf n k := by
  rw [Int.tmod_eq_emod_of_nonneg (by omega)]
  unfold nextOf
  split
  · rename_i e; subst e; exact Int.emod_self
  · exact Int.emod_eq_of_lt (by omega) (by omega)
theorem fits_store {m : Arena} {x v : Int} (h : Fits m) : Fits (storeD m x v) := by
  unfold storeD Fits
  split
  · exact h
  · simpa [Fits] using h
theorem fill_step {n k : Nat} {m mk : Arena} {v : Int} (hv : nextOf n k = v) (h : fillL n (n + 1 - k) k mk = fillL n n 1 m) (hk : k ≤ n) : fillL n (n + 1 - (k + 1)) (k + 1) (storeD mk (linkAt (k : Int)) v) = fillL n n 1 m := by
  rw [← h, show n + 1 - k = (n + 1 - (k + 1)) + 1 by omega, ← hv]
  rfl
def FillR (N : Nat → Prop) (w : World) (n : Nat) (m : Arena) (k : Nat) (wr : World) : Prop :=
  1 ≤ k ∧ k ≤ n + 1 ∧ ∃ mk a1 c1 a2 c2, Box wr w.heap.size #[.slice a1 mk.W.length c1, .slice a2 mk.G.length c2, .bool mk.bad] 50 ∧ Box wr (w.heap.size + 1) #[.slice none 0 0, .slice none 0 0, .bool false] 50 ∧
    IsMem (Bx N w.heap.size (w.heap.size + 2)) wr (.agg #[.slice a1 mk.W.length c1, .slice a2 mk.G.length c2, .bool mk.bad]) mk ∧ Ext w wr ∧ Fits mk ∧ mk.G.length = n + 1 ∧ fillL n (n + 1 - k) k mk = fillL n n 1 m
set_option maxHeartbeats 2000000 in
set_option maxRecDepth 100000 in
theorem fill_ (N : Nat → Prop) (va : Value) (m : Arena) (w : World) (h : IsMem N w va m) (hN : ∀ b, N b → b < w.heap.size) (hfit : Fits m) : Gives Proofs.Try.prog 109 #[va] w (fun r w' => IsMem N w' r (fillD m)) := by
  obtain ⟨n, hG⟩ : ∃ n, m.G.length = n + 1 := ⟨m.G.length - 1, by have := hfit.2.1; omega⟩
  have hn : n ≤ 200 := by have := hfit.2.2; omega
  obtain ⟨aw, cw, ag, cg, rfl, mw, mg⟩ := h.opened
  have hm := IsMem.mk (m := m) rfl mw mg
  clear h
  rw [hG] at hm ⊢
  go_enter Proofs.Try.func109, Proofs.Try.ntmps109
  go_wp2
  go_loopw [4] (fun i wr => ∃ k : Nat, i = .int .i64 k ∧ FillR N w n m k wr) (fun i _ => n + 1 - (intOf i).toNat)
  case atStart => exact ⟨1, rfl, Nat.le_refl _, by omega, m, aw, cw, ag, cg, by rw [hG]; exact ((Box.newAt _ _ _ (by first | rfl | simp)).alloc _), (Box.newAt _ _ _ (by first | rfl | simp)), by rw [hG]; exact (IsMem.bxn hm).keep keq, exq, hfit, hG, rfl⟩
  case round =>
    obtain ⟨k, rfl, hk1, hkn, mk, a1, e1, a2, e2, hb0, hb1, hmk, hbx, hfk, hGk, hfl⟩ := hrel
    obtain ⟨w5, rfl⟩ : ∃ w5 : World, w5 = wr := ⟨_, rfl⟩
    have s5 : w.heap.size + 2 ≤ w5.heap.size := by have := hb1.lt; omega
    have hHF := Lib.hid hfl; have hHG := Lib.hid hGk
    clear hfl hGk
    by_cases hlt : k ≤ n
    · have q1 : (k : Int) ≤ (n : Int) := by omega
      obtain ⟨c0_0, c0_1, c0_2, d0_0, d0_1, d0_2⟩ := cells3 hb0
      have z0 : w.heap.size < w5.heap.size := hb0.lt
      obtain ⟨c1_0, c1_1, c1_2, d1_0, d1_1, d1_2⟩ := cells3 hb1
      have z1 : w.heap.size + 1 < w5.heap.size := hb1.lt
      go_wp2_with (fail)
      have hX5 : Ext w w5 := exn
      have hK5 : Keep (Bx N w.heap.size (w.heap.size + 2)) w5 w5 := Keep.refl _ _
      have D0_5 := hb0
      have D1_5 := hb1
      have aM : IsMem (Bx N w.heap.size (w.heap.size + 2)) w5 (.agg #[.slice a1 mk.W.length e1, .slice a2 mk.G.length e2, .bool mk.bad]) mk := hmk
      clear c0_0 c0_1 c0_2 d0_0 d0_1 d0_2 z0 c1_0 c1_1 c1_2 d1_0 d1_1 d1_2 z1
      apply region_lit2 (T := [9]) (L := []) (X := [w.heap.size]) (G := [eqv _, eqv _, eqv _, eqv _, eqv (.int .i64 ((k : Int) + 1)), eqv _, eqv (.int .i64 ((n : Int) + 1)), eqv (.int .i64 (nextOf n k)), isMemN (Bx N w.heap.size (w.heap.size + 2)) (storeD mk (linkAt (k : Int)) (nextOf n k)), anyG])
      case hm => kernel_rfl
      case hop =>
        refine ⟨?_, ?_, ?_, ?_, ?_, ?_, ?_, ?_, ?_, ?_, trivial⟩
        · intro a wa hs hf hd
          have t1 := hf.off 1 (by kernel_rfl) rfl
          exact plain_ rfl (yes_eqv (o_load3 rfl Proofs.Try.underlying50 rfl (by kernel_rfl) t1 ((D0_5.since hs rfl).cell rfl) ((D0_5.since hs rfl).cell rfl) ((D0_5.since hs rfl).cell rfl)) rfl)
        · intro a wa hs hf hd
          have t4 := hf.off 4 (by kernel_rfl) rfl
          exact plain_ rfl (yes_eqv (o_move rfl t4) rfl)
        · intro a wa hs hf hd
          have t17 : a.eval (.tmp 17) = _ := hd.at 1 17 (by kernel_rfl)
          exact plain_ rfl (yes_gives (atw_ (k : Int) _) rfl rfl Proofs.Try.func57 (by kernel_rfl) (by kernel_rfl) (by simp only [List.map_toArray, List.map_cons, List.map_nil, eval_const, t17]) rfl)
        · intro a wa hs hf hd
          have t4 := hf.off 4 (by kernel_rfl) rfl
          exact plain_ rfl (yes_eqv (o_move rfl t4) rfl)
        · intro a wa hs hf hd
          have t19 : a.eval (.tmp 19) = _ := hd.at 3 19 (by kernel_rfl)
          exact plain_ rfl (yes_eqv (o_add rfl t19 rfl (by rw [IntKind.wrap_i64]; omega)) rfl)
        · intro a wa hs hf hd
          have t3 := hf.off 3 (by kernel_rfl) rfl
          exact plain_ rfl (yes_eqv (o_move rfl t3) rfl)
        · intro a wa hs hf hd
          have t21 : a.eval (.tmp 21) = _ := hd.at 5 21 (by kernel_rfl)
          exact plain_ rfl (yes_eqv (o_add rfl t21 rfl (by rw [IntKind.wrap_i64]; omega)) rfl)
        · intro a wa hs hf hd
          have t20 : a.eval (.tmp 20) = _ := hd.at 4 20 (by kernel_rfl)
          have t22 : a.eval (.tmp 22) = _ := hd.at 6 22 (by kernel_rfl)
          exact plain_ rfl (yes_eqv (o_rem rfl t20 t22 (by omega) (nextOf_mod (by omega) (by omega))) rfl)
        · intro a wa hs hf hd
          have t16 : a.eval (.tmp 16) = _ := hd.at 0 16 (by kernel_rfl)
          have t18 : a.eval (.tmp 18) = _ := hd.at 2 18 (by kernel_rfl)
          have t23 : a.eval (.tmp 23) = _ := hd.at 7 23 (by kernel_rfl)
          exact plain_ rfl (yes_gives (memStore_ (Bx N w.heap.size (w.heap.size + 2)) _ mk (linkAt (k : Int)) (nextOf n k) _ (aM.keep (Since.to_ext hs).keep) hfk (Bx.le hN (by have := (Since.to_ext hs).size; omega)) (linkAt_lo _).1 (linkAt_lo _).2) rfl rfl Proofs.Try.func68 (by kernel_rfl) (by kernel_rfl) (by simp only [List.map_toArray, List.map_cons, List.map_nil, t16, t18, t23]) rfl)
        · intro a wb wa hs1 hs hf hd hrun
          have t1 := hf.off 1 (by kernel_rfl) rfl
          have t24 := hd.at 8 24 (by kernel_rfl)
          subst hrun
          have q18 : IsMem (Bx N w.heap.size (w.heap.size + 2)) _ (a.eval (.tmp 24)) (storeD mk (linkAt (k : Int)) (nextOf n k)) := t24
          obtain ⟨u1, u2, u3, u4, hv, _⟩ := q18.opened
          exact ⟨_, o_store rfl t1 hv ((D0_5.since hs1 rfl)) (by kernel_rfl) (by simp [Value.cells, Value.oneCell']) (by first | (simp [Value.cells]; done) | (simp [Value.cells]; omega)) rfl, Since.put hs (.inr (by simp))⟩
      case hG => exact ⟨stable_eqv _, stable_eqv _, stable_eqv _, stable_eqv _, stable_eqv _, stable_eqv _, stable_eqv _, stable_eqv _, stable_isMemN _ _, stable_any, trivial⟩
      case hc => kernel_rfl
      case hfin =>
        intro v5 hs5
        rintro _ rfl _ rfl _ rfl _ rfl _ rfl _ rfl _ rfl _ rfl r11 hr11
        obtain ⟨u1, u2, u3, u4, rfl, mw0, mg0⟩ := IsMem.opened hr11
        rintro v5w ⟨o1, v1, ho1, hr1, rfl⟩
        cases ho1
        simp only [Act.put, List.setIfInBounds_toArray, List.set_cons_zero, List.set_cons_succ] at hr1 ⊢
        cases (hr1.symm.trans (o_store (v := .agg #[.slice u1 (storeD mk (linkAt (k : Int)) (nextOf n k)).W.length u2, .slice u3 (storeD mk (linkAt (k : Int)) (nextOf n k)).G.length u4, .bool (storeD mk (linkAt (k : Int)) (nextOf n k)).bad]) (new := #[.slice u1 (storeD mk (linkAt (k : Int)) (nextOf n k)).W.length u2, .slice u3 (storeD mk (linkAt (k : Int)) (nextOf n k)).G.length u4, .bool (storeD mk (linkAt (k : Int)) (nextOf n k)).bad]) rfl rfl rfl ((D0_5.since hs5 rfl)) (by kernel_rfl) (by simp [Value.cells, Value.oneCell']) (by first | (simp [Value.cells]; done) | (simp [Value.cells]; omega)) (by first | rfl | kernel_rfl)))
        obtain ⟨w6, hw6⟩ : ∃ x, x = (put v5 w.heap.size (.cells #[.slice u1 (storeD mk (linkAt (k : Int)) (nextOf n k)).W.length u2, .slice u3 (storeD mk (linkAt (k : Int)) (nextOf n k)).G.length u4, .bool (storeD mk (linkAt (k : Int)) (nextOf n k)).bad] 50 (0, 0))) := ⟨_, rfl⟩
        have hW6 : Ext w5 v5 := Since.to_ext hs5
        have hb6 : Ext w w6 := by rw [hw6]; exact Since.to_ext ((Since.of_ext (hX5.trans hW6)).put (.inl (by have := hX5.size; omega)))
        have hk6 : Keep (Bx N w.heap.size (w.heap.size + 2)) w5 w6 := by rw [hw6]; exact ((hK5.ext hW6).put _ _ (.inr (Bx.mem (by omega) (by omega))))
        have hq6 : Keep (Bx N w.heap.size (w.heap.size + 2)) v5 w6 := by rw [hw6]; exact ((Keep.refl _ _).put _ _ (.inr (Bx.mem (by omega) (by omega))))
        have B0_6 : Box w6 (w.heap.size) #[.slice u1 (storeD mk (linkAt (k : Int)) (nextOf n k)).W.length u2, .slice u3 (storeD mk (linkAt (k : Int)) (nextOf n k)).G.length u4, .bool (storeD mk (linkAt (k : Int)) (nextOf n k)).bad] 50 := by rw [hw6]; exact (D0_5.since hs5 rfl).put
        have B1_6 : Box w6 (w.heap.size + 1) #[.slice none 0 0, .slice none 0 0, .bool false] 50 := by rw [hw6]; exact (box_putOther (D1_5.since hs5 rfl) (by omega))
        have s6 : w5.heap.size ≤ w6.heap.size := by rw [hw6]; have := hW6.size; simpa [put] using this
        rw [← hw6]
        clear hw6
        obtain ⟨c0_0, c0_1, c0_2, d0_0, d0_1, d0_2⟩ := cells3 B0_6
        have z0 : w.heap.size < w6.heap.size := B0_6.lt
        obtain ⟨c1_0, c1_1, c1_2, d1_0, d1_1, d1_2⟩ := cells3 B1_6
        have z1 : w.heap.size + 1 < w6.heap.size := B1_6.lt
        have mw := IsInts.keep mw0 hq6
        have mg := IsInts.keep mg0 hq6
        clear hq6
        go_wp2
        go_roundw
        case rel => exact ⟨k + 1, by first | (simp; done) | (simp; omega), by omega, by omega, storeD mk (linkAt (k : Int)) (nextOf n k), u1, u2, u3, u4, B0_6, B1_6, IsMem.mk rfl mw mg, exn, fits_store hfk, by rw [← hHG.out]; rfl, fill_step rfl hHF.out hlt⟩
        case measure => simp [intOf]; omega
    · obtain rfl : k = n + 1 := by omega
      have q1 : ¬ ((n + 1 : Nat) : Int) ≤ (n : Int) := by omega
      obtain ⟨c0_0, c0_1, c0_2, d0_0, d0_1, d0_2⟩ := cells3 hb0
      have z0 : w.heap.size < w5.heap.size := hb0.lt
      obtain ⟨c1_0, c1_1, c1_2, d1_0, d1_1, d1_2⟩ := cells3 hb1
      have z1 : w.heap.size + 1 < w5.heap.size := hb1.lt
      go_wp2_with (fail)
      go_at_call 37
      refine (of1_ _).calls.mono ?_
      rintro e w6 ⟨_, rfl, hb6, rfl⟩
      have B0_6 : Box w6 (w.heap.size) #[.slice a1 mk.W.length e1, .slice a2 mk.G.length e2, .bool mk.bad] 50 := hb0.ext hb6
      have B1_6 : Box w6 (w.heap.size + 1) #[.slice none 0 0, .slice none 0 0, .bool false] 50 := hb1.ext hb6
      clear c0_0 c0_1 c0_2 d0_0 d0_1 d0_2 z0 c1_0 c1_1 c1_2 d1_0 d1_1 d1_2 z1
      have s6 : w5.heap.size ≤ w6.heap.size := (by have h := hb6.size; first | omega | (simp at h; omega))
      obtain ⟨c0_0, c0_1, c0_2, d0_0, d0_1, d0_2⟩ := cells3 B0_6
      have z0 : w.heap.size < w6.heap.size := B0_6.lt
      obtain ⟨c1_0, c1_1, c1_2, d1_0, d1_1, d1_2⟩ := cells3 B1_6
      have z1 : w.heap.size + 1 < w6.heap.size := B1_6.lt
      go_wp2_with (fail)
      go_at_call 68
      refine (memStore_ (Bx N w.heap.size (w.heap.size + 2)) _ mk 0 2 _ (hmk.keep keq) hfk (Bx.le hN (by first | omega | (simp <;> omega))) (by decide) (by decide)).calls.mono ?_
      rintro e w7 ⟨_, rfl, hb7, hu7⟩
      obtain ⟨u1, u2, u3, u4, rfl, uw, ug⟩ := hu7.opened
      have B0_7 : Box w7 (w.heap.size) #[.slice a1 mk.W.length e1, .slice a2 mk.G.length e2, .bool mk.bad] 50 := B0_6.ext hb7
      have B1_7 : Box w7 (w.heap.size + 1) #[.slice none 0 0, .slice none 0 0, .bool false] 50 := B1_6.ext hb7
      clear c0_0 c0_1 c0_2 d0_0 d0_1 d0_2 z0 c1_0 c1_1 c1_2 d1_0 d1_1 d1_2 z1
      have s7 : w6.heap.size ≤ w7.heap.size := (by have h := hb7.size; first | omega | (simp at h; omega))
      obtain ⟨c0_0, c0_1, c0_2, d0_0, d0_1, d0_2⟩ := cells3 B0_7
      have z0 : w.heap.size < w7.heap.size := B0_7.lt
      obtain ⟨c1_0, c1_1, c1_2, d1_0, d1_1, d1_2⟩ := cells3 B1_7
      have z1 : w.heap.size + 1 < w7.heap.size := B1_7.lt
      have hfd : fillD m = storeD mk 0 2 := (by have := hHF.out; unfold fillD; rw [hG]; show storeD (fillL n n 1 m) 0 2 = _; rw [← this, Nat.sub_self]; rfl)
      go_wp2
      exact bodyPost_ret (ret_cell (cs := #[.slice u1 (storeD mk 0 2).W.length u2, .slice u3 (storeD mk 0 2).G.length u4, .bool (storeD mk 0 2).bad]) (((B1_7.setCell _).setCell _).setCell _) Proofs.Try.results109 rfl Proofs.Try.underlying50 rfl (by kernel_rfl)) rfl ⟨_, rfl, exn, (by rw [hfd]; exact IsMem.less (IsMem.keep hu7 keq) (fun _ _ hn => .inl hn))⟩
set_option maxHeartbeats 2000000 in
set_option maxRecDepth 100000 in
theorem refFill_ (N : Nat → Prop) (va : Value) (m : Arena) (w : World) (h : IsMem N w va m) (hN : ∀ b, N b → b < w.heap.size) (hfit : Fits m) : Gives Proofs.Try.prog 110 #[va] w (fun r w' => IsMem N w' r (fillD m)) := by
  obtain ⟨n, hG⟩ : ∃ n, m.G.length = n + 1 := ⟨m.G.length - 1, by have := hfit.2.1; omega⟩
  have hn : n ≤ 200 := by have := hfit.2.2; omega
  obtain ⟨aw, cw, ag, cg, rfl, mw, mg⟩ := h.opened
  have hm := IsMem.mk (m := m) rfl mw mg
  clear h
  rw [hG] at hm ⊢
  go_enter Proofs.Try.func110, Proofs.Try.ntmps110
  go_wp2
  go_loopw [4] (fun i wr => ∃ k : Nat, i = .int .i64 k ∧ FillR N w n m k wr) (fun i _ => n + 1 - (intOf i).toNat)
  case atStart => exact ⟨1, rfl, Nat.le_refl _, by omega, m, aw, cw, ag, cg, by rw [hG]; exact ((Box.newAt _ _ _ (by first | rfl | simp)).alloc _), (Box.newAt _ _ _ (by first | rfl | simp)), by rw [hG]; exact (IsMem.bxn hm).keep keq, exq, hfit, hG, rfl⟩
  case round =>
    obtain ⟨k, rfl, hk1, hkn, mk, a1, e1, a2, e2, hb0, hb1, hmk, hbx, hfk, hGk, hfl⟩ := hrel
    obtain ⟨w5, rfl⟩ : ∃ w5 : World, w5 = wr := ⟨_, rfl⟩
    have s5 : w.heap.size + 2 ≤ w5.heap.size := by have := hb1.lt; omega
    have hHF := Lib.hid hfl; have hHG := Lib.hid hGk
    clear hfl hGk
    by_cases hlt : k ≤ n
    · have q1 : (k : Int) ≤ (n : Int) := by omega
      by_cases hkn2 : k = n
      · have q2 : ((k : Int) == (n : Int)) = true := by simp; omega
        obtain ⟨c0_0, c0_1, c0_2, d0_0, d0_1, d0_2⟩ := cells3 hb0
        have z0 : w.heap.size < w5.heap.size := hb0.lt
        obtain ⟨c1_0, c1_1, c1_2, d1_0, d1_1, d1_2⟩ := cells3 hb1
        have z1 : w.heap.size + 1 < w5.heap.size := hb1.lt
        go_wp2_with (fail)
        have hX8 : Ext w w5 := exn
        have hK8 : Keep (Bx N w.heap.size (w.heap.size + 2)) w5 w5 := Keep.refl _ _
        have D0_8 := hb0
        have D1_8 := hb1
        have aM : IsMem (Bx N w.heap.size (w.heap.size + 2)) w5 (.agg #[.slice a1 mk.W.length e1, .slice a2 mk.G.length e2, .bool mk.bad]) mk := hmk
        clear c0_0 c0_1 c0_2 d0_0 d0_1 d0_2 z0 c1_0 c1_1 c1_2 d1_0 d1_1 d1_2 z1
        apply region_lit2 (T := [5]) (L := []) (X := [w.heap.size]) (G := [eqv _, eqv _, eqv _, eqv _, isMemN (Bx N w.heap.size (w.heap.size + 2)) (storeD mk (linkAt (k : Int)) 0), anyG])
        case hm => kernel_rfl
        case hop =>
          refine ⟨?_, ?_, ?_, ?_, ?_, ?_, trivial⟩
          · intro a wa hs hf hd
            have t1 := hf.off 1 (by kernel_rfl) rfl
            exact plain_ rfl (yes_eqv (o_load3 rfl Proofs.Try.underlying50 rfl (by kernel_rfl) t1 ((D0_8.since hs rfl).cell rfl) ((D0_8.since hs rfl).cell rfl) ((D0_8.since hs rfl).cell rfl)) rfl)
          · intro a wa hs hf hd
            have t4 := hf.off 4 (by kernel_rfl) rfl
            exact plain_ rfl (yes_eqv (o_move rfl t4) rfl)
          · intro a wa hs hf hd
            have t21 : a.eval (.tmp 21) = _ := hd.at 1 21 (by kernel_rfl)
            exact plain_ rfl (yes_gives (refAtw_ (k : Int) _) rfl rfl Proofs.Try.func58 (by kernel_rfl) (by kernel_rfl) (by simp only [List.map_toArray, List.map_cons, List.map_nil, eval_const, t21]) rfl)
          · intro a wa hs hf hd
            have t5 := hf.off 5 (by kernel_rfl) rfl
            exact plain_ rfl (yes_eqv (o_move rfl t5) rfl)
          · intro a wa hs hf hd
            have t20 : a.eval (.tmp 20) = _ := hd.at 0 20 (by kernel_rfl)
            have t22 : a.eval (.tmp 22) = _ := hd.at 2 22 (by kernel_rfl)
            have t23 : a.eval (.tmp 23) = _ := hd.at 3 23 (by kernel_rfl)
            exact plain_ rfl (yes_gives (refStore_ (Bx N w.heap.size (w.heap.size + 2)) _ mk (linkAt (k : Int)) 0 _ (aM.keep (Since.to_ext hs).keep) hfk (Bx.le hN (by have := (Since.to_ext hs).size; omega))) rfl rfl Proofs.Try.func69 (by kernel_rfl) (by kernel_rfl) (by simp only [List.map_toArray, List.map_cons, List.map_nil, t20, t22, t23]) rfl)
          · intro a wb wa hs1 hs hf hd hrun
            have t1 := hf.off 1 (by kernel_rfl) rfl
            have t24 := hd.at 4 24 (by kernel_rfl)
            subst hrun
            have q18 : IsMem (Bx N w.heap.size (w.heap.size + 2)) _ (a.eval (.tmp 24)) (storeD mk (linkAt (k : Int)) 0) := t24
            obtain ⟨u1, u2, u3, u4, hv, _⟩ := q18.opened
            exact ⟨_, o_store rfl t1 hv ((D0_8.since hs1 rfl)) (by kernel_rfl) (by simp [Value.cells, Value.oneCell']) (by first | (simp [Value.cells]; done) | (simp [Value.cells]; omega)) rfl, Since.put hs (.inr (by simp))⟩
        case hG => exact ⟨stable_eqv _, stable_eqv _, stable_eqv _, stable_eqv _, stable_isMemN _ _, stable_any, trivial⟩
        case hc => kernel_rfl
        case hfin =>
          intro v8 hs8
          rintro _ rfl _ rfl _ rfl _ rfl r11 hr11
          obtain ⟨u1, u2, u3, u4, rfl, mw0, mg0⟩ := IsMem.opened hr11
          rintro v8w ⟨o1, v1, ho1, hr1, rfl⟩
          cases ho1
          simp only [Act.put, List.setIfInBounds_toArray, List.set_cons_zero, List.set_cons_succ] at hr1 ⊢
          cases (hr1.symm.trans (o_store (v := .agg #[.slice u1 (storeD mk (linkAt (k : Int)) 0).W.length u2, .slice u3 (storeD mk (linkAt (k : Int)) 0).G.length u4, .bool (storeD mk (linkAt (k : Int)) 0).bad]) (new := #[.slice u1 (storeD mk (linkAt (k : Int)) 0).W.length u2, .slice u3 (storeD mk (linkAt (k : Int)) 0).G.length u4, .bool (storeD mk (linkAt (k : Int)) 0).bad]) rfl rfl rfl ((D0_8.since hs8 rfl)) (by kernel_rfl) (by simp [Value.cells, Value.oneCell']) (by first | (simp [Value.cells]; done) | (simp [Value.cells]; omega)) (by first | rfl | kernel_rfl)))
          obtain ⟨w6, hw6⟩ : ∃ x, x = (put v8 w.heap.size (.cells #[.slice u1 (storeD mk (linkAt (k : Int)) 0).W.length u2, .slice u3 (storeD mk (linkAt (k : Int)) 0).G.length u4, .bool (storeD mk (linkAt (k : Int)) 0).bad] 50 (0, 0))) := ⟨_, rfl⟩
          have hW6 : Ext w5 v8 := Since.to_ext hs8
          have hb6 : Ext w w6 := by rw [hw6]; exact Since.to_ext ((Since.of_ext (hX8.trans hW6)).put (.inl (by have := hX8.size; omega)))
          have hk6 : Keep (Bx N w.heap.size (w.heap.size + 2)) w5 w6 := by rw [hw6]; exact ((hK8.ext hW6).put _ _ (.inr (Bx.mem (by omega) (by omega))))
          have hq6 : Keep (Bx N w.heap.size (w.heap.size + 2)) v8 w6 := by rw [hw6]; exact ((Keep.refl _ _).put _ _ (.inr (Bx.mem (by omega) (by omega))))
          have B0_6 : Box w6 (w.heap.size) #[.slice u1 (storeD mk (linkAt (k : Int)) 0).W.length u2, .slice u3 (storeD mk (linkAt (k : Int)) 0).G.length u4, .bool (storeD mk (linkAt (k : Int)) 0).bad] 50 := by rw [hw6]; exact (D0_8.since hs8 rfl).put
          have B1_6 : Box w6 (w.heap.size + 1) #[.slice none 0 0, .slice none 0 0, .bool false] 50 := by rw [hw6]; exact (box_putOther (D1_8.since hs8 rfl) (by omega))
          have s6 : w5.heap.size ≤ w6.heap.size := by rw [hw6]; have := hW6.size; simpa [put] using this
          rw [← hw6]
          clear hw6
          obtain ⟨c0_0, c0_1, c0_2, d0_0, d0_1, d0_2⟩ := cells3 B0_6
          have z0 : w.heap.size < w6.heap.size := B0_6.lt
          obtain ⟨c1_0, c1_1, c1_2, d1_0, d1_1, d1_2⟩ := cells3 B1_6
          have z1 : w.heap.size + 1 < w6.heap.size := B1_6.lt
          have mw := IsInts.keep mw0 hq6
          have mg := IsInts.keep mg0 hq6
          clear hq6
          go_wp2
          go_roundw
          case rel => exact ⟨k + 1, by first | (simp; done) | (simp; omega), by omega, by omega, storeD mk (linkAt (k : Int)) 0, u1, u2, u3, u4, B0_6, B1_6, IsMem.mk rfl mw mg, exn, fits_store hfk, by rw [← hHG.out]; rfl, fill_step (by unfold nextOf; rw [if_pos hkn2]) hHF.out hlt⟩
          case measure => simp [intOf]; omega
      · have q2 : ((k : Int) == (n : Int)) = false := by simp; omega
        obtain ⟨c0_0, c0_1, c0_2, d0_0, d0_1, d0_2⟩ := cells3 hb0
        have z0 : w.heap.size < w5.heap.size := hb0.lt
        obtain ⟨c1_0, c1_1, c1_2, d1_0, d1_1, d1_2⟩ := cells3 hb1
        have z1 : w.heap.size + 1 < w5.heap.size := hb1.lt
        go_wp2_with (fail)
        have hX8 : Ext w w5 := exn
        have hK8 : Keep (Bx N w.heap.size (w.heap.size + 2)) w5 w5 := Keep.refl _ _
        have D0_8 := hb0
        have D1_8 := hb1
        have aM : IsMem (Bx N w.heap.size (w.heap.size + 2)) w5 (.agg #[.slice a1 mk.W.length e1, .slice a2 mk.G.length e2, .bool mk.bad]) mk := hmk
        clear c0_0 c0_1 c0_2 d0_0 d0_1 d0_2 z0 c1_0 c1_1 c1_2 d1_0 d1_1 d1_2 z1
        apply region_lit2 (T := [5]) (L := []) (X := [w.heap.size]) (G := [eqv _, eqv _, eqv _, eqv _, isMemN (Bx N w.heap.size (w.heap.size + 2)) (storeD mk (linkAt (k : Int)) ((k : Int) + 1)), anyG])
        case hm => kernel_rfl
        case hop =>
          refine ⟨?_, ?_, ?_, ?_, ?_, ?_, trivial⟩
          · intro a wa hs hf hd
            have t1 := hf.off 1 (by kernel_rfl) rfl
            exact plain_ rfl (yes_eqv (o_load3 rfl Proofs.Try.underlying50 rfl (by kernel_rfl) t1 ((D0_8.since hs rfl).cell rfl) ((D0_8.since hs rfl).cell rfl) ((D0_8.since hs rfl).cell rfl)) rfl)
          · intro a wa hs hf hd
            have t4 := hf.off 4 (by kernel_rfl) rfl
            exact plain_ rfl (yes_eqv (o_move rfl t4) rfl)
          · intro a wa hs hf hd
            have t21 : a.eval (.tmp 21) = _ := hd.at 1 21 (by kernel_rfl)
            exact plain_ rfl (yes_gives (refAtw_ (k : Int) _) rfl rfl Proofs.Try.func58 (by kernel_rfl) (by kernel_rfl) (by simp only [List.map_toArray, List.map_cons, List.map_nil, eval_const, t21]) rfl)
          · intro a wa hs hf hd
            have t5 := hf.off 5 (by kernel_rfl) rfl
            exact plain_ rfl (yes_eqv (o_move rfl t5) rfl)
          · intro a wa hs hf hd
            have t20 : a.eval (.tmp 20) = _ := hd.at 0 20 (by kernel_rfl)
            have t22 : a.eval (.tmp 22) = _ := hd.at 2 22 (by kernel_rfl)
            have t23 : a.eval (.tmp 23) = _ := hd.at 3 23 (by kernel_rfl)
            exact plain_ rfl (yes_gives (refStore_ (Bx N w.heap.size (w.heap.size + 2)) _ mk (linkAt (k : Int)) ((k : Int) + 1) _ (aM.keep (Since.to_ext hs).keep) hfk (Bx.le hN (by have := (Since.to_ext hs).size; omega))) rfl rfl Proofs.Try.func69 (by kernel_rfl) (by kernel_rfl) (by simp only [List.map_toArray, List.map_cons, List.map_nil, t20, t22, t23]) rfl)
          · intro a wb wa hs1 hs hf hd hrun
            have t1 := hf.off 1 (by kernel_rfl) rfl
            have t24 := hd.at 4 24 (by kernel_rfl)
            subst hrun
            have q18 : IsMem (Bx N w.heap.size (w.heap.size + 2)) _ (a.eval (.tmp 24)) (storeD mk (linkAt (k : Int)) ((k : Int) + 1)) := t24
            obtain ⟨u1, u2, u3, u4, hv, _⟩ := q18.opened
            exact ⟨_, o_store rfl t1 hv ((D0_8.since hs1 rfl)) (by kernel_rfl) (by simp [Value.cells, Value.oneCell']) (by first | (simp [Value.cells]; done) | (simp [Value.cells]; omega)) rfl, Since.put hs (.inr (by simp))⟩
        case hG => exact ⟨stable_eqv _, stable_eqv _, stable_eqv _, stable_eqv _, stable_isMemN _ _, stable_any, trivial⟩
        case hc => kernel_rfl
        case hfin =>
          intro v8 hs8
          rintro _ rfl _ rfl _ rfl _ rfl r11 hr11
          obtain ⟨u1, u2, u3, u4, rfl, mw0, mg0⟩ := IsMem.opened hr11
          rintro v8w ⟨o1, v1, ho1, hr1, rfl⟩
          cases ho1
          simp only [Act.put, List.setIfInBounds_toArray, List.set_cons_zero, List.set_cons_succ] at hr1 ⊢
          cases (hr1.symm.trans (o_store (v := .agg #[.slice u1 (storeD mk (linkAt (k : Int)) ((k : Int) + 1)).W.length u2, .slice u3 (storeD mk (linkAt (k : Int)) ((k : Int) + 1)).G.length u4, .bool (storeD mk (linkAt (k : Int)) ((k : Int) + 1)).bad]) (new := #[.slice u1 (storeD mk (linkAt (k : Int)) ((k : Int) + 1)).W.length u2, .slice u3 (storeD mk (linkAt (k : Int)) ((k : Int) + 1)).G.length u4, .bool (storeD mk (linkAt (k : Int)) ((k : Int) + 1)).bad]) rfl rfl rfl ((D0_8.since hs8 rfl)) (by kernel_rfl) (by simp [Value.cells, Value.oneCell']) (by first | (simp [Value.cells]; done) | (simp [Value.cells]; omega)) (by first | rfl | kernel_rfl)))
          obtain ⟨w6, hw6⟩ : ∃ x, x = (put v8 w.heap.size (.cells #[.slice u1 (storeD mk (linkAt (k : Int)) ((k : Int) + 1)).W.length u2, .slice u3 (storeD mk (linkAt (k : Int)) ((k : Int) + 1)).G.length u4, .bool (storeD mk (linkAt (k : Int)) ((k : Int) + 1)).bad] 50 (0, 0))) := ⟨_, rfl⟩
          have hW6 : Ext w5 v8 := Since.to_ext hs8
          have hb6 : Ext w w6 := by rw [hw6]; exact Since.to_ext ((Since.of_ext (hX8.trans hW6)).put (.inl (by have := hX8.size; omega)))
          have hk6 : Keep (Bx N w.heap.size (w.heap.size + 2)) w5 w6 := by rw [hw6]; exact ((hK8.ext hW6).put _ _ (.inr (Bx.mem (by omega) (by omega))))
          have hq6 : Keep (Bx N w.heap.size (w.heap.size + 2)) v8 w6 := by rw [hw6]; exact ((Keep.refl _ _).put _ _ (.inr (Bx.mem (by omega) (by omega))))
          have B0_6 : Box w6 (w.heap.size) #[.slice u1 (storeD mk (linkAt (k : Int)) ((k : Int) + 1)).W.length u2, .slice u3 (storeD mk (linkAt (k : Int)) ((k : Int) + 1)).G.length u4, .bool (storeD mk (linkAt (k : Int)) ((k : Int) + 1)).bad] 50 := by rw [hw6]; exact (D0_8.since hs8 rfl).put
          have B1_6 : Box w6 (w.heap.size + 1) #[.slice none 0 0, .slice none 0 0, .bool false] 50 := by rw [hw6]; exact (box_putOther (D1_8.since hs8 rfl) (by omega))
          have s6 : w5.heap.size ≤ w6.heap.size := by rw [hw6]; have := hW6.size; simpa [put] using this
          rw [← hw6]
          clear hw6
          obtain ⟨c0_0, c0_1, c0_2, d0_0, d0_1, d0_2⟩ := cells3 B0_6
          have z0 : w.heap.size < w6.heap.size := B0_6.lt
          obtain ⟨c1_0, c1_1, c1_2, d1_0, d1_1, d1_2⟩ := cells3 B1_6
          have z1 : w.heap.size + 1 < w6.heap.size := B1_6.lt
          have mw := IsInts.keep mw0 hq6
          have mg := IsInts.keep mg0 hq6
          clear hq6
          go_wp2
          go_roundw
          case rel => exact ⟨k + 1, by first | (simp; done) | (simp; omega), by omega, by omega, storeD mk (linkAt (k : Int)) ((k : Int) + 1), u1, u2, u3, u4, B0_6, B1_6, IsMem.mk rfl mw mg, exn, fits_store hfk, by rw [← hHG.out]; rfl, fill_step (by unfold nextOf; rw [if_neg hkn2]) hHF.out hlt⟩
          case measure => simp [intOf]; omega
    · obtain rfl : k = n + 1 := by omega
      have q1 : ¬ ((n + 1 : Nat) : Int) ≤ (n : Int) := by omega
      obtain ⟨c0_0, c0_1, c0_2, d0_0, d0_1, d0_2⟩ := cells3 hb0
      have z0 : w.heap.size < w5.heap.size := hb0.lt
      obtain ⟨c1_0, c1_1, c1_2, d1_0, d1_1, d1_2⟩ := cells3 hb1
      have z1 : w.heap.size + 1 < w5.heap.size := hb1.lt
      go_wp2_with (fail)
      go_at_call 69
      refine (refStore_ (Bx N w.heap.size (w.heap.size + 2)) _ mk 0 2 _ (hmk.keep keq) hfk (Bx.le hN (by first | omega | (simp <;> omega)))).calls.mono ?_
      rintro e w6 ⟨_, rfl, hb6, hu6⟩
      obtain ⟨u1, u2, u3, u4, rfl, uw, ug⟩ := hu6.opened
      have B0_6 : Box w6 (w.heap.size) #[.slice a1 mk.W.length e1, .slice a2 mk.G.length e2, .bool mk.bad] 50 := hb0.ext hb6
      have B1_6 : Box w6 (w.heap.size + 1) #[.slice none 0 0, .slice none 0 0, .bool false] 50 := hb1.ext hb6
      clear c0_0 c0_1 c0_2 d0_0 d0_1 d0_2 z0 c1_0 c1_1 c1_2 d1_0 d1_1 d1_2 z1
      have s6 : w5.heap.size ≤ w6.heap.size := (by have h := hb6.size; first | omega | (simp at h; omega))
      obtain ⟨c0_0, c0_1, c0_2, d0_0, d0_1, d0_2⟩ := cells3 B0_6
      have z0 : w.heap.size < w6.heap.size := B0_6.lt
      obtain ⟨c1_0, c1_1, c1_2, d1_0, d1_1, d1_2⟩ := cells3 B1_6
      have z1 : w.heap.size + 1 < w6.heap.size := B1_6.lt
      have hfd : fillD m = storeD mk 0 2 := (by have := hHF.out; unfold fillD; rw [hG]; show storeD (fillL n n 1 m) 0 2 = _; rw [← this, Nat.sub_self]; rfl)
      go_wp2
      exact bodyPost_ret (ret_cell (cs := #[.slice u1 (storeD mk 0 2).W.length u2, .slice u3 (storeD mk 0 2).G.length u4, .bool (storeD mk 0 2).bad]) (((B1_6.setCell _).setCell _).setCell _) Proofs.Try.results110 rfl Proofs.Try.underlying50 rfl (by kernel_rfl)) rfl ⟨_, rfl, exn, (by rw [hfd]; exact IsMem.less (IsMem.keep hu6 keq) (fun _ _ hn => .inl hn))⟩
end Go.Proofs.Ytcfbdfgondmkoaa
/- The stack's law, plain: cores that pop and push by picks. -/
namespace Go.Proofs.Ytcfbdfgondmkoaa
open Go Go.RowKit
set_option linter.unusedSimpArgs false
set_option linter.unusedVariables false
set_option linter.unnecessarySimpa false
set_option linter.unusedVariables false

def gl (own : List (List Int)) (i : Nat) : List Int := own.getD i []
def lastC (s : SysD) (i : Nat) : CoreD := (s.C[i]?).getD core0
/-- a core that is at nothing pops, or pushes the first node that it has -/
def begin4 (s : SysD) (own : List (List Int)) (i : Nat) (pk : Int) : SysD × List (List Int) :=
  if (topD s i).isSome then (s, own)
  else if 0 < (gl own i).length ∧ pk / 8 % 2 = 1 then (callS s i 2 [gi (gl own i) 0, 0, 0], own.set i ((gl own i).drop 1))
  else (callS s i 1 [0, 0, 0], own)
def endOwn (s : SysD) (f : FrameD) (i : Nat) (own : List (List Int)) : List (List Int) :=
  if (lastC s i).F.length = 0 ∧ f.op = 1 ∧ (lastC s i).E = 0 then own.set i (gl own i ++ [(lastC s i).V]) else own
def play1 (c : Nat) (st : SysD × List (List Int)) (pk : Int) : SysD × List (List Int) :=
  let i := (pk % c).toNat
  let b := begin4 st.1 st.2 i pk
  (step4 b.1 i, endOwn (step4 b.1 i) (topF b.1 i) i b.2)
def playD (c n : Nat) (picks : List Int) : SysD × List (List Int) := picks.foldl (play1 c) (new4 c n, List.replicate c [])

def reg (f : FrameD) : Int := gi f.R (if f.op = 1 then 0 else 1)
def FreshC (w0 : Int) (c : CoreD) : Prop := c.F = [] ∨ ∃ f, c.F = [f] ∧ (f.pc = 0 ∨ reg f = w0)
def PlayInv (c n k : Nat) (st : SysD × List (List Int)) : Prop :=
  ∃ T L, T ≤ k ∧ Inv c n T st.1 st.2 [] L ∧ st.1.L.length ≤ k ∧ ∃ (j : Nat) (cj : CoreD), st.1.C[j]? = some cj ∧ FreshC (gi st.1.M.W 0) cj

theorem sum_own_set {own : List (List Int)} {i : Nat} {o : List Int} (h : own[i]? = some o) (x : List Int) (p : Int) : ((own.set i x).map (List.count p)).sum + o.count p = (own.map (List.count p)).sum + x.count p := sum_set (List.count p) own i x o h
theorem inv_own {c n T : Nat} {s : SysD} {own own' : List (List Int)} {X L : List Int} (I : Inv c n T s own X L) (hl : own'.length = own.length) {X' : List Int} (h : ∀ p, (own'.map (List.count p)).sum + X'.count p = (own.map (List.count p)).sum + X.count p) : Inv c n T s own' X' L :=
  { I with
    lo := hl.trans I.lo
    all := fun p => by
      have h1 := I.all p
      have h2 := h p
      unfold held at h1 ⊢
      rw [← h1]; omega }
theorem getSome' {α : Type} {l : List α} {i : Nat} (h : i < l.length) : ∃ x, l[i]? = some x := ⟨l[i], List.getElem?_eq_getElem h⟩
theorem gl_some {own : List (List Int)} {i : Nat} {o : List Int} (h : own[i]? = some o) : gl own i = o := by unfold gl; simp [List.getD_eq_getElem?_getD, h]
theorem lastC_some {s : SysD} {i : Nat} {c : CoreD} (h : s.C[i]? = some c) : lastC s i = c := by unfold lastC; rw [h]; rfl
theorem newF_reg (op a b c : Int) : gi (newF op [a, b, c]).R 0 = a := rfl

/-- behind the beginning: the core is at one op -/
theorem begin_inv {c n T : Nat} {s : SysD} {own : List (List Int)} {L : List Int} (I : Inv c n T s own [] L) {i : Nat} (hi : i < c) (pk : Int) :
    ∃ cc f, (begin4 s own i pk).1.C[i]? = some cc ∧ cc.F = [f] ∧ Inv c n T (begin4 s own i pk).1 (begin4 s own i pk).2 [] L ∧ (begin4 s own i pk).1.L = s.L ∧ (begin4 s own i pk).1.M = s.M ∧
      (∀ j, j ≠ i → (begin4 s own i pk).1.C[j]? = s.C[j]?) ∧ topF (begin4 s own i pk).1 i = f ∧ (∀ ci w0, s.C[i]? = some ci → FreshC w0 ci → FreshC w0 cc) := by
  obtain ⟨cc, hcc⟩ := getSome' (show i < s.C.length by rw [I.lc]; exact hi)
  obtain ⟨o, ho⟩ := getSome' (show i < own.length by rw [I.lo]; exact hi)
  rcases I.cores i cc hcc with h0 | ⟨f, hf, hok⟩
  · have ht : topD s i = none := by rw [top_at hcc, h0]; rfl
    unfold begin4
    rw [ht, gl_some ho, if_neg (by simp)]
    have hki : i < s.C.length := get_lt hcc
    by_cases hb : 0 < o.length ∧ pk / 8 % 2 = 1
    · rw [if_pos hb, call_at hcc h0]
      obtain ⟨p, l, rfl⟩ : ∃ p l, o = p :: l := by
        cases o with
        | nil => simp at hb
        | cons p l => exact ⟨p, l, rfl⟩
      have hg0 : gi (p :: l) 0 = p := rfl
      rw [hg0]
      have hp : 1 ≤ p ∧ p ≤ n := by
        have h1 := I.all p
        have h2 := sum_at (List.count p) own i _ ho
        rw [count_cons_if, if_pos rfl] at h2
        unfold held at h1
        split at h1
        · assumption
        · omega
      have hget : (s.C.set i { cc with F := [newF 2 [p, 0, 0]] })[i]? = some { cc with F := [newF 2 [p, 0, 0]] } := by simp [hki]
      refine ⟨_, _, hget, rfl, ?_, rfl, rfl, fun j hj => by simp [Ne.symm hj], ?_, fun _ _ _ _ => .inr ⟨_, rfl, .inl rfl⟩⟩
      · exact {
          n1 := I.n1, n2 := I.n2, lc := by simpa using I.lc, lo := by simpa using I.lo
          lW := I.lW, lG := I.lG, ok := I.ok, tag := I.tag, chain := I.chain
          cores := fun j cj hj => by
            rcases set_get hki hj with ⟨_, rfl⟩ | ⟨_, h⟩
            · exact .inr ⟨_, rfl, rfl, .inr ⟨rfl, hp.1, hp.2, .inl rfl⟩⟩
            · exact I.cores j cj h
          all := fun q => by
            have h1 := held_set (p := q) (own := own) (cc' := { cc with F := [newF 2 [p, 0, 0]] }) hcc
            rw [pushC_nil h0, pushC_one rfl] at h1
            have h2 := I.all q
            have h3 := sum_own_set ho l q
            rw [count_cons_if] at h3
            have e : (if (newF 2 [p, 0, 0]).op = 2 ∧ gi (newF 2 [p, 0, 0]).R 0 = q then 1 else 0) = if p = q then 1 else 0 := by
              rw [newF_reg]; simp [newF]
            rw [e] at h1
            show L.count q + held q (own.set i (List.drop 1 (p :: l))) (s.C.set i _) + List.count q [] = _
            rw [← h2, List.drop_one, List.tail_cons]
            unfold held at h1 ⊢
            omega
          free := I.free }
      · unfold topF; rw [top_at hget]; rfl
    · rw [if_neg hb, call_at hcc h0]
      have hget : (s.C.set i { cc with F := [newF 1 [0, 0, 0]] })[i]? = some { cc with F := [newF 1 [0, 0, 0]] } := by simp [hki]
      refine ⟨_, _, hget, rfl, ?_, rfl, rfl, fun j hj => by simp [Ne.symm hj], ?_, fun _ _ _ _ => .inr ⟨_, rfl, .inl rfl⟩⟩
      · exact I.core hcc (.inr ⟨_, rfl, rfl, .inl ⟨rfl, .inl rfl⟩⟩) (fun p => by rw [pushC_nil h0, pushC_one rfl]; simp [newF]) _
      · unfold topF; rw [top_at hget]; rfl
  · have ht : topD s i = some f := by rw [top_at hcc, hf]; rfl
    unfold begin4
    rw [ht, if_pos (by rfl)]
    exact ⟨cc, f, hcc, hf, I, rfl, rfl, fun _ _ => rfl, by unfold topF; rw [ht]; rfl, fun ci w0 h h' => by rw [hcc] at h; cases h; exact h'⟩

theorem play1_inv {c n k : Nat} {st : SysD × List (List Int)} (hc : 1 ≤ c) (hk : k < 1000) (h : PlayInv c n k st) (pk : Int) : PlayInv c n (k + 1) (play1 c st pk) := by
  obtain ⟨s, own⟩ := st
  obtain ⟨T, L, hT, I, hL, j, cj, hj, hfr⟩ := h
  have hi : (pk % (c : Int)).toNat < c := by have := Int.emod_lt_of_pos pk (show (0 : Int) < c by omega); have := Int.emod_nonneg pk (show (c : Int) ≠ 0 by omega); omega
  obtain ⟨cc, f, hcc, hf, I1, e1, e2, e3, e4, e5⟩ := begin_inv I hi pk
  unfold play1
  show PlayInv c n (k + 1) (step4 (begin4 s own (pk % (c : Int)).toNat pk).1 ((pk % (c : Int)).toNat : Nat), endOwn (step4 (begin4 s own (pk % (c : Int)).toNat pk).1 ((pk % (c : Int)).toNat : Nat)) (topF (begin4 s own (pk % (c : Int)).toNat pk).1 ((pk % (c : Int)).toNat : Nat)) (pk % (c : Int)).toNat (begin4 s own (pk % (c : Int)).toNat pk).2)
  rw [e4]
  generalize hiv : (pk % (c : Int)).toNat = i at *
  generalize begin4 s own i pk = b at *
  obtain ⟨s1, own1⟩ := b
  obtain ⟨cc', hC, hst⟩ := step_inv I1 hcc hf (by omega)
  have hki : i < s1.C.length := get_lt hcc
  have hget : (step4 s1 i).C[i]? = some cc' := by rw [hC]; simp [hki]
  obtain ⟨o, ho⟩ := getSome' (show i < own1.length by rw [I1.lo]; exact hi)
  have e1' : s1.L = s.L := e1
  have hL' : s.L.length ≤ k := hL
  have e2' : s1.M = s.M := e2
  have hoth : ∀ j, j ≠ i → (step4 s1 i).C[j]? = s.C[j]? := fun j hj => by
    rw [hC, List.getElem?_set_ne (Ne.symm hj)]; exact e3 j hj
  unfold endOwn
  show PlayInv c n (k + 1) (step4 s1 i, if (lastC (step4 s1 i) i).F.length = 0 ∧ f.op = 1 ∧ (lastC (step4 s1 i) i).E = 0 then own1.set i (gl own1 i ++ [(lastC (step4 s1 i) i).V]) else own1)
  rw [lastC_some hget, gl_some ho]
  rcases hst with ⟨g, hg, ⟨g1, g2, g3, g4⟩, I2, _⟩ | ⟨h1, h2, h3, h4, h5, L', h6, I2⟩ | ⟨h1, h2, h3, h4, h5, h6, I2⟩ | ⟨h1, h2, h3, h4, h5, h6, h7, I2⟩
  · rw [if_neg (by simp [hg])]
    refine ⟨T, L, by omega, I2, by rw [show (step4 s1 i).L = s1.L from g3, e1']; omega, ?_⟩
    by_cases hji : j = i
    · subst hji
      refine ⟨j, cc', hget, .inr ⟨g, hg, ?_⟩⟩
      have hf1 := e5 cj _ hj hfr
      show g.pc = 0 ∨ reg g = gi (step4 s1 j).M.W 0
      rw [g2]
      unfold reg
      rw [g1]
      rcases hf1 with h | ⟨f', hf', h⟩
      · rw [hf] at h; cases h
      · obtain rfl : f = f' := by rw [hf] at hf'; simpa using hf'
        rcases g4 with ⟨_, _, h7⟩ | ⟨h7, _, h8⟩ | ⟨_, h7, _⟩
        · exact .inr h7
        · rcases h with h | h
          · omega
          · right; rw [h8]; unfold reg at h; rw [h, e2']
        · exact .inl h7
    · refine ⟨j, cj, by rw [hoth j hji]; exact hj, ?_⟩
      show FreshC (gi (step4 s1 i).M.W 0) cj
      rw [g2, e2']; exact hfr
  · rw [if_pos ⟨by simp [h1], h3, h2⟩]
    refine ⟨T + 1, L', by omega, ?_, by rw [show (step4 s1 i).L = s1.L from h5, e1']; omega, i, cc', hget, .inl h1⟩
    refine inv_own I2 (by simp) fun p => ?_
    have := sum_own_set ho (o ++ [cc'.V]) p
    rw [List.count_append] at this
    simp at this ⊢
    omega
  · rw [if_neg (by omega)]
    exact ⟨T + 1, _, by omega, I2, by rw [show (step4 s1 i).L = s1.L from h5, e1']; omega, i, cc', hget, .inl h1⟩
  · rw [if_neg (by omega)]
    exact ⟨T, _, by omega, I2, by rw [show (step4 s1 i).L.length = s1.L.length + 1 from h6, e1']; omega, i, cc', hget, .inl h1⟩

theorem new4_inv {c n : Nat} (hc : 1 ≤ c) (hc' : c ≤ 8) (hn : 1 ≤ n) (hn' : n ≤ 200) : PlayInv c n 0 (new4 c n, List.replicate c []) := by
  have hnew : newD n = ⟨List.replicate (128 + 4 * n) 0, List.replicate (n + 1) 0, false⟩ := by unfold newD; rw [if_pos (by omega)]; simp
  have hs : newIs c n = true := by unfold newIs; simp; omega
  have hS : newS c n = ⟨newD n, List.replicate c core0, []⟩ := by unfold newS; rw [hs]; simp
  have hE : newSE c n = 0 := by unfold newSE; rw [hs]; rfl
  obtain ⟨W', e, h1, h2, h3⟩ := fill_spec (m := newD n) hn' (by rw [hnew]; simp) (by rw [hnew]; simp)
  have h4 : new4 c n = ⟨{ newD n with W := W' }, List.replicate c core0, []⟩ := by unfold new4; rw [if_pos hE, hS, e]; rfl
  rw [h4]
  refine ⟨0, upl n 1, Nat.le_refl _, ?_, by simp, 0, core0, by show (List.replicate c core0)[0]? = _; rw [List.getElem?_replicate, if_pos (by omega)], .inl rfl⟩
  have hz : ∀ p : Int, ((List.replicate c ([] : List Int)).map (List.count p)).sum = 0 := fun p => by simp
  have hz2 : ∀ p : Int, ((List.replicate c core0).map (pushC p)).sum = 0 := fun p => by
    simp [pushC, core0]
  exact {
    n1 := hn, n2 := hn', lc := by simp, lo := by simp
    lW := h1, lG := by rw [hnew]; simp, ok := by rw [hnew]
    tag := by show tagI (gi W' 0) = _; rw [h2]; rfl
    chain := by
      show Chain n W' (idx (gi W' 0)) _
      rw [h2]
      have := upl_chain h3 n 1 (by omega) (by omega)
      rw [if_neg (by omega)] at this
      exact this
    cores := fun i ci hi => by
      have := List.mem_of_getElem? hi
      rw [List.mem_replicate] at this
      exact .inl (by rw [this.2]; rfl)
    all := fun p => by
      unfold held
      rw [hz, hz2, upl_count]
      simp
      split <;> split <;> omega
    free := fun p h5 h6 => by
      rw [if_pos]
      · show gi (newD n).G _ = 0
        rw [hnew]
        simp [gi, List.getD_eq_getElem?_getD, List.getElem?_replicate]; split <;> rfl
      · apply List.count_pos_iff.1
        rw [upl_count, if_pos (by omega)]; decide }
theorem play_from {c n : Nat} (hc : 1 ≤ c) : ∀ (l : List Int) (k : Nat) (st : SysD × List (List Int)), k + l.length ≤ 1000 → PlayInv c n k st → PlayInv c n (k + l.length) (l.foldl (play1 c) st)
  | [], k, st, _, h => h
  | p :: l, k, st, hk, h => by
    have := play_from hc l (k + 1) (play1 c st p) (by simp at hk; omega) (play1_inv hc (by simp at hk; omega) h p)
    simp only [List.length_cons, List.foldl_cons]
    rw [show k + (l.length + 1) = k + 1 + l.length by omega]; exact this
theorem play_inv {c n : Nat} (hc : 1 ≤ c) (hc' : c ≤ 8) (hn : 1 ≤ n) (hn' : n ≤ 200) (l : List Int) (hl : l.length ≤ 1000) : PlayInv c n l.length (playD c n l) := by
  have := play_from hc l 0 _ (by omega) (new4_inv hc hc' hn hn')
  rw [Nat.zero_add] at this
  exact this
end Go.Proofs.Ytcfbdfgondmkoaa
/- A new system, all nodes in the list. -/
namespace Go.Proofs.Ytcfbdfgondmkoaa
open Go Go.RowKit
set_option linter.unusedSimpArgs false
set_option linter.unusedVariables false
set_option linter.unnecessarySimpa false

set_option maxHeartbeats 1000000 in
set_option maxRecDepth 100000 in
theorem refNew4_ (N : Nat → Prop) (c n : Int) (w : World) (hN : ∀ b, N b → b < w.heap.size) (hi : newIs c n = true) : Gives Proofs.Try.prog 115 #[.int .i64 c, .int .i64 n] w (fun r w' => IsSys N w' r (new4 c n)) := by
  have hE : newSE c n = 0 := by simp [newSE, hi]
  have hM : (newS c n).M = newD n := by simp [newS, hi]
  have hd : new4 c n = memS (newS c n) (fillD (newS c n).M) := by unfold new4; rw [if_pos hE, hM]
  rw [hd]
  have hfit : Fits (newS c n).M := by
    rw [hM]
    have h1 : 1 ≤ n ∧ n ≤ 200 := by simp [newIs] at hi; omega
    unfold newD Fits
    rw [if_pos h1]
    simp; omega
  have kn0 := fun (w' : World) (e : Ext w w') => refNewS_ (Bx N w.heap.size (w.heap.size + 1)) c n w'
  have kn : ∀ w' : World, w.heap.size + 1 ≤ w'.heap.size → Gives Proofs.Try.prog 76 #[.int .i64 c, .int .i64 n] w' (fun r w' => ∃ u, r = .tuple #[u, .int .i64 0] ∧ IsSys (Bx N w.heap.size (w.heap.size + 1)) w' u (newS c n)) := fun w' h => by
    have := refNewS_ (Bx N w.heap.size (w.heap.size + 1)) c n w' (Bx.le hN h)
    rw [hE] at this; exact this
  clear kn0 hE hM hd hi
  obtain ⟨s0, hs0⟩ : ∃ s, newS c n = s := ⟨_, rfl⟩
  rw [hs0] at kn hfit ⊢
  clear hs0
  go_enter Proofs.Try.func115, Proofs.Try.ntmps115
  go_wp2_with (fail)
  go_at_call 76
  refine (kn _ (by first | omega | (simp <;> omega))).calls.mono ?_
  rintro e w1 ⟨_, rfl, hb1, u, rfl, hu1⟩
  obtain ⟨r1, r2, r3, r4, r5, r6, r7, r8, rfl, rW, rG, rC, rL⟩ := hu1.opened
  have B0_1 : Box w1 (w.heap.size) #[.slice none 0 0, .slice none 0 0, .bool false, .slice none 0 0, .slice none 0 0] 83 := (Box.newAt _ _ _ (by first | rfl | simp)).ext hb1
  have s1 : w.heap.size + 1 ≤ w1.heap.size := (by have h := hb1.size; first | omega | (simp at h; omega))
  obtain ⟨c0_0, c0_1, c0_2, c0_3, c0_4, d0_0, d0_1, d0_2, d0_3, d0_4⟩ := cells5 B0_1
  have z0 : w.heap.size < w1.heap.size := B0_1.lt
  go_wp2_with (fail)
  obtain ⟨W4, hW⟩ : ∃ W, W = (w1.alloc (.cells #[.slice r1 s0.M.W.length r2, .slice r3 s0.M.G.length r4, .bool s0.M.bad, .slice r5 s0.C.length r6, .slice r7 s0.L.length r8] 83 (0, 0))) := ⟨_, rfl⟩
  have hX4 : Ext w W4 := by rw [hW]; exact exn
  have hK4 : Keep (Bx N w.heap.size (w.heap.size + 1)) w1 W4 := by rw [hW]; exact keq
  have D0_4 : Box (w1.alloc (.cells #[.slice r1 s0.M.W.length r2, .slice r3 s0.M.G.length r4, .bool s0.M.bad, .slice r5 s0.C.length r6, .slice r7 s0.L.length r8] 83 (0, 0))) (w.heap.size) #[.slice none 0 0, .slice none 0 0, .bool false, .slice none 0 0, .slice none 0 0] 83 := (B0_1.alloc _)
  rw [← hW] at D0_4
  have D1_4 : Box (w1.alloc (.cells #[.slice r1 s0.M.W.length r2, .slice r3 s0.M.G.length r4, .bool s0.M.bad, .slice r5 s0.C.length r6, .slice r7 s0.L.length r8] 83 (0, 0))) (w1.heap.size) #[.slice r1 s0.M.W.length r2, .slice r3 s0.M.G.length r4, .bool s0.M.bad, .slice r5 s0.C.length r6, .slice r7 s0.L.length r8] 83 := (Box.newAt _ _ _ (by first | rfl | simp))
  rw [← hW] at D1_4
  have y4 : w1.heap.size + 1 ≤ W4.heap.size := by rw [hW]; simp
  rw [← hW]
  clear hW
  have aS : IsSys (Bx N w.heap.size (w.heap.size + 1)) W4 (.agg #[.slice r1 s0.M.W.length r2, .slice r3 s0.M.G.length r4, .bool s0.M.bad, .slice r5 s0.C.length r6, .slice r7 s0.L.length r8]) s0 := (IsSys.mk rfl rW rG rC rL : IsSys (Bx N w.heap.size (w.heap.size + 1)) w1 _ s0).keep hK4
  have aM : IsMem (Bx N w.heap.size (w.heap.size + 1)) W4 (.agg #[.slice r1 s0.M.W.length r2, .slice r3 s0.M.G.length r4, .bool s0.M.bad]) s0.M := (IsMem.mk rfl rW rG : IsMem (Bx N w.heap.size (w.heap.size + 1)) w1 _ s0.M).keep hK4
  clear c0_0 c0_1 c0_2 c0_3 c0_4 d0_0 d0_1 d0_2 d0_3 d0_4 z0
  apply region_lit2 (T := [5]) (L := []) (X := [w.heap.size]) (G := [eqv _, eqv _, eqv _, isMemN (Bx N w.heap.size (w.heap.size + 1)) (fillD s0.M), isSysN (Bx N w.heap.size (w.heap.size + 1)) (memS s0 (fillD s0.M)), anyG])
  case hm => kernel_rfl
  case hop =>
    refine ⟨?_, ?_, ?_, ?_, ?_, ?_, trivial⟩
    · intro a wa hs hf hd
      have t5 := hf.off 5 (by kernel_rfl) rfl
      exact plain_ rfl (yes_eqv (o_load5 rfl Proofs.Try.underlying83 rfl (by kernel_rfl) t5 ((D1_4.since hs rfl).cell rfl) ((D1_4.since hs rfl).cell rfl) ((D1_4.since hs rfl).cell rfl) ((D1_4.since hs rfl).cell rfl) ((D1_4.since hs rfl).cell rfl)) rfl)
    · intro a wa hs hf hd
      have t5 := hf.off 5 (by kernel_rfl) rfl
      exact plain_ rfl (yes_eqv (o_fieldAddr rfl Proofs.Try.underlying83 rfl rfl (by kernel_rfl) t5) rfl)
    · intro a wa hs hf hd
      have t17 : a.eval (.tmp 17) = _ := hd.at 1 17 (by kernel_rfl)
      exact plain_ rfl (yes_eqv (o_load3 rfl Proofs.Try.underlying50 rfl (by kernel_rfl) t17 ((D1_4.since hs rfl).cell rfl) ((D1_4.since hs rfl).cell rfl) ((D1_4.since hs rfl).cell rfl)) rfl)
    · intro a wa hs hf hd
      have t18 : a.eval (.tmp 18) = _ := hd.at 2 18 (by kernel_rfl)
      exact plain_ rfl (yes_gives (refFill_ (Bx N w.heap.size (w.heap.size + 1)) _ s0.M _ (aM.keep (Since.to_ext hs).keep) (Bx.le hN (by have := (Since.to_ext hs).size; have := hX4.size; omega)) hfit) rfl rfl Proofs.Try.func110 (by kernel_rfl) (by kernel_rfl) (by simp only [List.map_toArray, List.map_cons, List.map_nil, t18]) rfl)
    · intro a wa hs hf hd
      have t16 : a.eval (.tmp 16) = _ := hd.at 0 16 (by kernel_rfl)
      have t19 := hd.at 3 19 (by kernel_rfl)
      exact plain_ rfl (yes_gives (refMem_ _ _ _ s0 (fillD s0.M) _ (aS.ext (Since.to_ext hs)) t19) rfl rfl Proofs.Try.func103 (by kernel_rfl) (by kernel_rfl) (by simp only [List.map_toArray, List.map_cons, List.map_nil, t16, t19]) rfl)
    · intro a wb wa hs1 hs hf hd hrun
      have t4 := hf.off 4 (by kernel_rfl) rfl
      have t20 := hd.at 4 20 (by kernel_rfl)
      subst hrun
      have q18 : IsSys (Bx N w.heap.size (w.heap.size + 1)) _ (a.eval (.tmp 20)) (memS s0 (fillD s0.M)) := t20
      obtain ⟨g1, g2, g3, g4, g5, g6, g7, g8, hv, _⟩ := q18.opened
      exact ⟨_, o_store rfl t4 hv ((D0_4.since hs1 rfl)) (by kernel_rfl) (by simp [Value.cells, Value.oneCell']) (by first | (simp [Value.cells]; done) | (simp [Value.cells]; omega)) rfl, Since.put hs (.inr (by simp))⟩
  case hG => exact ⟨stable_eqv _, stable_eqv _, stable_eqv _, stable_isMemN _ _, stable_isSysN _ _, stable_any, trivial⟩
  case hc => kernel_rfl
  case hfin =>
    intro v4 hs4
    rintro _ rfl _ rfl _ rfl j3 hj3 j4 hj4
    obtain ⟨g1, g2, g3, g4, g5, g6, g7, g8, rfl, gW, gG, gC, gL⟩ := IsSys.opened hj4
    rintro v4w ⟨o1, v1, ho1, hr1, rfl⟩
    cases ho1
    simp only [Act.put, List.setIfInBounds_toArray, List.set_cons_zero, List.set_cons_succ] at hr1 ⊢
    cases (hr1.symm.trans (o_store (v := .agg #[.slice g1 (memS s0 (fillD s0.M)).M.W.length g2, .slice g3 (memS s0 (fillD s0.M)).M.G.length g4, .bool (memS s0 (fillD s0.M)).M.bad, .slice g5 (memS s0 (fillD s0.M)).C.length g6, .slice g7 (memS s0 (fillD s0.M)).L.length g8]) (new := #[.slice g1 (memS s0 (fillD s0.M)).M.W.length g2, .slice g3 (memS s0 (fillD s0.M)).M.G.length g4, .bool (memS s0 (fillD s0.M)).M.bad, .slice g5 (memS s0 (fillD s0.M)).C.length g6, .slice g7 (memS s0 (fillD s0.M)).L.length g8]) rfl rfl rfl ((D0_4.since hs4 rfl)) (by kernel_rfl) (by simp [Value.cells, Value.oneCell']) (by first | (simp [Value.cells]; done) | (simp [Value.cells]; omega)) (by first | rfl | kernel_rfl)))
    obtain ⟨w2, hw2⟩ : ∃ x, x = (put v4 w.heap.size (.cells #[.slice g1 (memS s0 (fillD s0.M)).M.W.length g2, .slice g3 (memS s0 (fillD s0.M)).M.G.length g4, .bool (memS s0 (fillD s0.M)).M.bad, .slice g5 (memS s0 (fillD s0.M)).C.length g6, .slice g7 (memS s0 (fillD s0.M)).L.length g8] 83 (0, 0))) := ⟨_, rfl⟩
    have hW2 : Ext W4 v4 := Since.to_ext hs4
    have hb2 : Ext w w2 := by rw [hw2]; exact Since.to_ext ((Since.of_ext (hX4.trans hW2)).put (.inl (by have := hX4.size; omega)))
    have hk2 : Keep (Bx N w.heap.size (w.heap.size + 1)) w1 w2 := by rw [hw2]; exact ((hK4.ext hW2).put _ _ (.inr (Bx.mem (by omega) (by omega))))
    have hq2 : Keep (Bx N w.heap.size (w.heap.size + 1)) v4 w2 := by rw [hw2]; exact ((Keep.refl _ _).put _ _ (.inr (Bx.mem (by omega) (by omega))))
    have B0_2 : Box w2 (w.heap.size) #[.slice g1 (memS s0 (fillD s0.M)).M.W.length g2, .slice g3 (memS s0 (fillD s0.M)).M.G.length g4, .bool (memS s0 (fillD s0.M)).M.bad, .slice g5 (memS s0 (fillD s0.M)).C.length g6, .slice g7 (memS s0 (fillD s0.M)).L.length g8] 83 := by rw [hw2]; exact (D0_4.since hs4 rfl).put
    have B1_2 : Box w2 (w1.heap.size) #[.slice r1 s0.M.W.length r2, .slice r3 s0.M.G.length r4, .bool s0.M.bad, .slice r5 s0.C.length r6, .slice r7 s0.L.length r8] 83 := by rw [hw2]; exact (box_putOther (D1_4.since hs4 rfl) (by omega))
    have s2 : W4.heap.size ≤ w2.heap.size := by rw [hw2]; have := hW2.size; simpa [put] using this
    rw [← hw2]
    clear hw2
    obtain ⟨c0_0, c0_1, c0_2, c0_3, c0_4, d0_0, d0_1, d0_2, d0_3, d0_4⟩ := cells5 B0_2
    have z0 : w.heap.size < w2.heap.size := B0_2.lt
    obtain ⟨c1_0, c1_1, c1_2, c1_3, c1_4, d1_0, d1_1, d1_2, d1_3, d1_4⟩ := cells5 B1_2
    have z1 : w1.heap.size < w2.heap.size := B1_2.lt
    have hu2 : IsSys (Bx N w.heap.size (w.heap.size + 1)) w2 (.agg #[.slice g1 (memS s0 (fillD s0.M)).M.W.length g2, .slice g3 (memS s0 (fillD s0.M)).M.G.length g4, .bool (memS s0 (fillD s0.M)).M.bad, .slice g5 (memS s0 (fillD s0.M)).C.length g6, .slice g7 (memS s0 (fillD s0.M)).L.length g8]) (memS s0 (fillD s0.M)) := IsSys.keep (IsSys.mk rfl gW gG gC gL : IsSys (Bx N w.heap.size (w.heap.size + 1)) v4 _ (memS s0 (fillD s0.M))) hq2
    clear hq2
    go_wp2
    exact bodyPost_ret (ret_cell (cs := #[.slice g1 (memS s0 (fillD s0.M)).M.W.length g2, .slice g3 (memS s0 (fillD s0.M)).M.G.length g4, .bool (memS s0 (fillD s0.M)).M.bad, .slice g5 (memS s0 (fillD s0.M)).C.length g6, .slice g7 (memS s0 (fillD s0.M)).L.length g8]) B0_2 Proofs.Try.results115 rfl Proofs.Try.underlying83 rfl (by kernel_rfl)) rfl ⟨_, rfl, exn, IsSys.less (IsSys.keep hu2 keq) (fun _ _ hn => .inl hn)⟩
end Go.Proofs.Ytcfbdfgondmkoaa
/- Sets of numbers in a map of the call's own; the list that is walked. -/
namespace Go.Proofs.Ytcfbdfgondmkoaa
open Go Go.RowKit Go.Maps
set_option linter.unusedSimpArgs false
set_option linter.unusedVariables false
set_option linter.unnecessarySimpa false

theorem keyed3 : Keyed Proofs.Try.prog 3 := int_keyed Proofs.Try.underlying3
theorem und175 : Proofs.Try.prog.underlying 175 = some (.map 3 4) := by kernel_rfl
theorem lit_wf {p : Int} (h : -9223372036854775808 ≤ p) (h' : p ≤ 9223372036854775807) : (Lit.int .i64 p).wf = true := by
  have := wrap64_wf p
  rw [wrapI_in h h'] at this; exact this
theorem key3 {p : Int} (h : -9223372036854775808 ≤ p) (h' : p ≤ 9223372036854775807) : keyOf Proofs.Try.prog 3 (.int .i64 p) = some (.int .i64 p) := keyOf_int_mk Proofs.Try.underlying3 (lit_wf h h')
theorem isKey3 {p : Int} (h : -9223372036854775808 ≤ p) (h' : p ≤ 9223372036854775807) : WideAt.IsKeyLit (.int .i64 p) := keyed3.key (key3 h h')
def litI (p : Int) : Lit := .int .i64 p
/-- the set of these numbers, as a datum -/
def setD (out : List Int) : DataW Unit := setOf (.lit (.bool true)) (out.map litI)
theorem setD_snoc (out : List Int) (p : Int) : setD (out ++ [p]) = (setD out).put (litI p) (.lit (.bool true)) := by
  unfold setD
  rw [List.map_append, List.map_cons, List.map_nil, setOf_snoc]
theorem fold_at (u : DataW Unit) (p : Int) (z : DataW Unit) (hp : WideAt.IsKeyLit (litI p)) : ∀ (acc : List Int) (m : DataW Unit), IsMap m → ((acc.map litI).foldl (fun m x => m.put x u) m).atKey (litI p) z = if p ∈ acc then u else m.atKey (litI p) z
  | [], m, _ => by simp
  | a :: l, m, hm => by
    rw [List.map_cons, List.foldl_cons, fold_at u p z hp l _ (hm.put _ _)]
    by_cases h1 : p ∈ l
    · rw [if_pos h1, if_pos (by simp [h1])]
    · rw [if_neg h1]
      by_cases h2 : p = a
      · subst h2
        rw [if_pos (by simp), atKey_put_same hm hp]
      · rw [if_neg (by simp [h1, h2]), atKey_put_other (fun e => h2 (by unfold litI at e; injection e))]
theorem setD_at (out : List Int) (p : Int) (h : -9223372036854775808 ≤ p) (h' : p ≤ 9223372036854775807) : (setD out).atKey (litI p) (.lit (.bool false)) = .lit (.bool (decide (p ∈ out))) := by
  have := fold_at (.lit (.bool true)) p (.lit (.bool false)) (isKey3 h h') out (.map []) isMap_empty
  unfold setD setOf
  rw [this]
  by_cases hp : p ∈ out
  · rw [if_pos hp]; simp [hp]
  · rw [if_neg hp]
    simp [hp, DataW.atKey]
theorem plainElem_bool_inv {P : Program} {e : TypeId} (he : P.underlying e = some .bool) {v : Value} {z : DataW Unit × List MemPlace} (h : plainElem P e v = some z) : ∃ b, v = .bool b ∧ z = (.lit (.bool b), []) := by
  unfold plainElem at h
  rw [he] at h
  cases v <;> simp at h
  exact ⟨_, rfl, h.symm⟩
/-- block b is the map of the set of these numbers -/
def OwnSet (w : World) (b : Nat) (out : List Int) : Prop := w.ownsMap Proofs.Try.prog 3 (plainElem (H := Unit) Proofs.Try.prog 4) b out.length (setD out)
theorem OwnSet.keep {w w' : World} {b : Nat} {out : List Int} {M : Nat → Prop} (h : OwnSet w b out) (k : Keep M w w') (hn : ¬ M b) : OwnSet w' b out := by
  obtain ⟨es, clock, hb, h2⟩ := h
  exact ⟨es, clock, (k.2 b (Array.getElem?_eq_some_iff.1 hb).1 hn).trans hb, h2⟩
theorem OwnSet.look {w : World} {b : Nat} {out : List Int} (h : OwnSet w b out) {p : Int} (h1 : -9223372036854775808 ≤ p) (h2 : p ≤ 9223372036854775807) : (Instr.lookup 175 (.map (some b)) (.int .i64 p) false).run Proofs.Try.prog w = .ok (.bool (decide (p ∈ out))) w := by
  obtain ⟨v, ps, hrun, hv⟩ := World.ownsMap.lookup h keyed3 und175 (z := .bool false) (by simp [go_sem]; first | done | kernel_rfl) (plainElem_bool Proofs.Try.underlying4 false) (key3 h1 h2)
  obtain ⟨c, rfl, hc⟩ := plainElem_bool_inv Proofs.Try.underlying4 hv
  have h3 := setD_at out p h1 h2
  unfold litI at h3
  rw [h3] at hc
  simp at hc
  rw [hrun, ← hc.1]
end Go.Proofs.Ytcfbdfgondmkoaa
/- The list of free nodes, walked. -/
namespace Go.Proofs.Ytcfbdfgondmkoaa
open Go Go.RowKit Go.Maps
set_option linter.unusedSimpArgs false
set_option linter.unusedVariables false
set_option linter.unnecessarySimpa false

def lenV : Value → Nat
  | .slice _ n _ => n
  | _ => 0
def WalkR (N : Nat → Prop) (w : World) (m : Arena) (B : Nat) (cs : Array Value) (p : Int) (v : Value) (wr : World) : Prop :=
  ∃ out : List Int, Box wr w.heap.size cs 50 ∧ OwnSet wr (w.heap.size + 1) out ∧ OwnSl 1 3 RI B wr v out ∧ Ext w wr ∧ B ≤ wr.heap.size ∧ (∀ q, out.count q ≤ 1) ∧ (∀ q, q ∈ out → 1 ≤ q ∧ q < m.G.length) ∧ walkF m (m.G.length + 1 - out.length) p out = walkD m
theorem walk_cnt {out : List Int} {p : Int} (h : ∀ q, out.count q ≤ 1) (hp : p ∉ out) : ∀ q, (out ++ [p]).count q ≤ 1 := by
  intro q
  rw [List.count_append, count_cons_if]
  have h1 := h q
  by_cases e : p = q
  · subst e
    have := List.count_eq_zero.2 hp
    rw [if_pos rfl]; simp; omega
  · simp [e]; exact h1
theorem walk_mem {out : List Int} {p : Int} {n : Nat} (h : ∀ q, q ∈ out → 1 ≤ q ∧ q < n) (h1 : 1 ≤ p) (h2 : p < n) : ∀ q, q ∈ out ++ [p] → 1 ≤ q ∧ q < n := by
  intro q hq
  rcases List.mem_append.1 hq with hq | hq
  · exact h q hq
  · simp at hq; subst hq; exact ⟨h1, h2⟩
theorem walk_next {m : Arena} {out : List Int} {p v : Int} (h : walkF m (m.G.length + 1 - out.length) p out = walkD m) (hf : m.G.length + 1 - out.length = (m.G.length - out.length) + 1) (h0 : ¬ p = 0) (h1 : ¬ p < 0) (h2 : ¬ (m.G.length : Int) ≤ p) (h3 : p ∉ out) (hv : loadD m (linkAt p) = v) :
    walkF m (m.G.length + 1 - (out ++ [p]).length) v (out ++ [p]) = walkD m := by
  rw [← h, hf]
  conv => rhs; unfold walkF
  rw [if_neg h0, if_neg (fun e => e.elim h1 (fun e => e.elim h2 h3)), hv, show m.G.length + 1 - (out ++ [p]).length = m.G.length - out.length by rw [List.length_append, List.length_singleton]; omega]
section
variable {ops : Array Oper} {rest : List Oper} {o : Oper} {a : Act} {Q : Exit → Act → World → Prop} {w : World}
theorem wpList_append_genK {α : Type} {sz : Nat} {R : World → α → List Value → Prop} {M : Nat → Prop} {v vx : Value} {l1 l2 : List α} {t e : TypeId} {z : Value} {base : Nat} (hT : RowType t e sz z) (hzs : z.cells.size = sz) (hsz : 0 < sz) (hone : ∀ x cs, R w x cs → ∀ c ∈ cs, c.oneCell' = true) (hRw : ∀ w w' x cs, R w x cs → R w' x cs)
    (s x : Operand) (hg : o.guard = none) (hop : o.op = Op.call { callee := Callee.builtin Builtin.append, args := #[s, x], argTypes := #[t, t] })
    (hs : a.eval s = v) (hx : a.eval x = vx) (h1 : OwnSl sz e R base w v l1) (h2 : IsSl sz R M w vx l2) (hl : l1.length + l2.length ≤ 100000) (hbase : base ≤ w.heap.size)
    (hK : ∀ a' n' c' w', Hid (n' = (l1 ++ l2).length) → OwnSl sz e R base w' (.slice a' n' c') (l1 ++ l2) → (∀ b cs t, Box w b cs t → b < base → Box w' b cs t) → (∀ a, Ext a w → a.heap.size ≤ base → Ext a w') → w.heap.size ≤ w'.heap.size → Keep (fun k => base ≤ k) w w' → wpList Proofs.Try.prog ops Q rest (a.put o.dst (.slice a' n' c')) w') : wpList Proofs.Try.prog ops Q (o :: rest) a w :=
  wpList_append_osl s x hg hop hs hx hT hzs hsz h1 h2 hone (fun w' g x cs h => hRw _ _ _ _ h) hl hbase fun a' c' w' ho hgr =>
    hK a' _ c' w' (Lib.hid rfl) ho (fun b cs t hB hb => hB.keep (grown_keep (N := fun k => base ≤ k) hgr fun k hk => h1.base k hk) (by omega)) (fun a ha hsz => grown_ext hgr ha fun k hk => Nat.le_trans hsz (h1.base k hk)) hgr.size (grown_keep hgr fun k hk => h1.base k hk)
end
set_option maxHeartbeats 4000000 in
set_option maxRecDepth 100000 in
theorem walk_ (N : Nat → Prop) (va : Value) (m : Arena) (w : World) (h : IsMem N w va m) (hN : ∀ b, N b → b < w.heap.size) (hfit : Fits m) : Gives Proofs.Try.prog 105 #[va] w (fun r w' => ∃ u, r = .tuple #[u, .bool (walkD m).2] ∧ IsInts N w' u (walkD m).1) := by
  have hg1 : 1 ≤ m.G.length := hfit.2.1
  have hg2 : m.G.length ≤ 201 := hfit.2.2
  obtain ⟨aw, cw, ag, cg, rfl, mw0, mg0⟩ := h.opened
  have hmm := @run_makeMap Proofs.Try.prog
  obtain ⟨m0, hm0⟩ : ∃ m0, touchD m 0 = m0 := ⟨_, rfl⟩
  obtain ⟨v0, hv0⟩ : ∃ v, loadD m 0 = v := ⟨_, rfl⟩
  have kl0 : ∀ (w' : World) (va : Value), IsMem N w' va m → w.heap.size ≤ w'.heap.size → Gives Proofs.Try.prog 64 #[va, .int .i64 0] w' (fun r w' => ∃ u, r = .tuple #[u, .int .i64 v0] ∧ IsMem N w' u m0) := fun w' va hm hsz => by
    have := memLoad_ N va m 0 w' hm hfit (fun b hb => Nat.lt_of_lt_of_le (hN b hb) hsz) (by decide) (by decide)
    rw [hm0, hv0] at this; exact this
  have hstart : walkF m (m.G.length + 1 - ([] : List Int).length) (idx v0) [] = walkD m := by unfold walkD; rw [hv0]; rfl
  have hset0 : OwnSet ((w.alloc (.cells #[.slice aw m.W.length cw, .slice ag m.G.length cg, .bool m.bad] 50)).alloc (.map #[] 0)) (w.heap.size + 1) [] := by
    have := World.ownsMap_made (H := Unit) (w.alloc (.cells #[.slice aw m.W.length cw, .slice ag m.G.length cg, .bool m.bad] 50)) Proofs.Try.prog 3 (plainElem Proofs.Try.prog 4)
    simpa [OwnSet, setD, setOf] using this
  clear hm0 hv0
  go_enter Proofs.Try.func105, Proofs.Try.ntmps105
  go_wp2_with (fail)
  go_step3
  go_wp2_with (fail)
  go_at_call 64
  refine (kl0 _ _ (h.ext exq) (by first | omega | (simp <;> omega))).calls.mono ?_
  rintro e w1 ⟨_, rfl, hb1, u, rfl, hu1⟩
  obtain ⟨u1, u2, u3, u4, rfl, uw, ug⟩ := hu1.opened
  have B0_1 : Box w1 (w.heap.size) #[.slice aw m.W.length cw, .slice ag m.G.length cg, .bool m.bad] 50 := ((Box.newAt _ _ _ (by first | rfl | simp)).alloc _).ext hb1
  have s1 : w.heap.size + 2 ≤ w1.heap.size := (by have h := hb1.size; first | omega | (simp at h; omega))
  obtain ⟨c0_0, c0_1, c0_2, d0_0, d0_1, d0_2⟩ := cells3 B0_1
  have z0 : w.heap.size < w1.heap.size := B0_1.lt
  go_wp2_with (fail)
  go_at_call 41
  refine (idx_ v0 _).calls.mono ?_
  rintro e w2 ⟨_, rfl, hb2, rfl⟩
  have B0_2 : Box w2 (w.heap.size) #[.slice aw m.W.length cw, .slice ag m.G.length cg, .bool m.bad] 50 := (B0_1.alloc _).ext hb2
  have B1_2 : Box w2 (w1.heap.size) #[.slice u1 m0.W.length u2, .slice u3 m0.G.length u4, .bool m0.bad] 50 := (Box.newAt _ _ _ (by first | rfl | simp)).ext hb2
  clear c0_0 c0_1 c0_2 d0_0 d0_1 d0_2 z0
  have s2 : w1.heap.size + 1 ≤ w2.heap.size := (by have h := hb2.size; first | omega | (simp at h; omega))
  obtain ⟨c0_0, c0_1, c0_2, d0_0, d0_1, d0_2⟩ := cells3 B0_2
  have z0 : w.heap.size < w2.heap.size := B0_2.lt
  obtain ⟨c1_0, c1_1, c1_2, d1_0, d1_1, d1_2⟩ := cells3 B1_2
  have z1 : w1.heap.size < w2.heap.size := B1_2.lt
  go_wp2_with (fail)
  go_step3
  go_wp2
  obtain ⟨B, hB⟩ : ∃ B, B = w2.heap.size := ⟨_, rfl⟩
  have hB1 : w.heap.size + 2 ≤ B := (by rw [hB]; have h1 := s1; have h2 := s2; (try simp at h1); (try simp at h2); omega)
  have hB2 : B ≤ w2.heap.size := Nat.le_of_eq hB
  clear hB
  have hW2 : Ext w w2 := exq
  have hset2 : OwnSet w2 (w.heap.size + 1) [] := (hset0.keep (M := no) hb1.keep id).keep (M := no) ((Ext.keep exq : Keep no w1 (w1.alloc _)).trans hb2.keep) id
  go_loopw [4, 8] (fun v pp wr => ∃ p : Int, pp = .int .i64 p ∧ WalkR N w m B #[.slice aw m.W.length cw, .slice ag m.G.length cg, .bool m.bad] p v wr) (fun v _ _ => m.G.length + 1 - lenV v)
  case atStart => exact ⟨_, rfl, [], B0_2, hset2, OwnSl.none_, hW2, hB2, by simp, by simp, hstart⟩
  case round =>
    obtain ⟨p, rfl, out, hbx, hset, hown, hWx, hBx, hcnt, hmem, hwalk⟩ := hrel
    obtain ⟨w5, rfl⟩ : ∃ w5 : World, w5 = wr := ⟨_, rfl⟩
    obtain ⟨va, vc, rfl, hvc1, hvc2⟩ := hown.shape
    have hlen : out.length + 1 ≤ m.G.length := by have := pigeon (m.G.length - 1) out hcnt (fun q hq => by have := hmem q hq; omega); omega
    have s5 : B ≤ w5.heap.size := hBx
    have HW := Lib.hid hwalk; have HC := Lib.hid hcnt; have HM := Lib.hid hmem
    clear hwalk hcnt hmem
    have hfuel : m.G.length + 1 - out.length = (m.G.length - out.length) + 1 := by omega
    have HF := Lib.hid hfuel
    clear hfuel
    by_cases hp0 : p = 0
    · subst hp0
      have hd : walkD m = (out, true) := by rw [← HW.out, HF.out]; rfl
      obtain ⟨c0_0, c0_1, c0_2, d0_0, d0_1, d0_2⟩ := cells3 hbx
      have z0 : w.heap.size < w5.heap.size := hbx.lt
      go_wp2
      try rw [Exit.noGoto_ret]
      go_ret2
      exact ⟨_, rfl, exq, .slice va out.length vc, by rw [hd]; first | done | rfl, by rw [hd]; exact hown.ints fun b hb hn => by have := hN b hn; omega⟩
    · have q0 : (p == 0) = false := by simpa using hp0
      by_cases hneg : p < 0
      · have hd : walkD m = ([], false) := by rw [← HW.out, HF.out]; unfold walkF; rw [if_neg hp0, if_pos (.inl hneg)]
        obtain ⟨c0_0, c0_1, c0_2, d0_0, d0_1, d0_2⟩ := cells3 hbx
        have z0 : w.heap.size < w5.heap.size := hbx.lt
        go_wp2
        try rw [Exit.noGoto_ret]
        go_ret2
        exact ⟨_, rfl, exq, .slice none 0 0, by rw [hd]; first | done | rfl, by rw [hd]; exact nil_ints _ _⟩
      · by_cases hbig : (m.G.length : Int) ≤ p
        · have hd : walkD m = ([], false) := by rw [← HW.out, HF.out]; unfold walkF; rw [if_neg hp0, if_pos (.inr (.inl hbig))]
          obtain ⟨c0_0, c0_1, c0_2, d0_0, d0_1, d0_2⟩ := cells3 hbx
          have z0 : w.heap.size < w5.heap.size := hbx.lt
          go_wp2
          try rw [Exit.noGoto_ret]
          go_ret2
          exact ⟨_, rfl, exq, .slice none 0 0, by rw [hd]; first | done | rfl, by rw [hd]; exact nil_ints _ _⟩
        · have hlook := hset.look (p := p) (by omega) (by omega)
          by_cases hin : p ∈ out
          · have hd : walkD m = ([], false) := by rw [← HW.out, HF.out]; unfold walkF; rw [if_neg hp0, if_pos (.inr (.inr hin))]
            rw [show decide (p ∈ out) = true by simpa using hin] at hlook
            obtain ⟨c0_0, c0_1, c0_2, d0_0, d0_1, d0_2⟩ := cells3 hbx
            have z0 : w.heap.size < w5.heap.size := hbx.lt
            go_wp2
            try rw [Exit.noGoto_ret]
            go_ret2
            exact ⟨_, rfl, exq, .slice none 0 0, by rw [hd]; first | done | rfl, by rw [hd]; exact nil_ints _ _⟩
          · rw [show decide (p ∈ out) = false by simpa using hin] at hlook
            have hp1 : 1 ≤ p := by omega
            obtain ⟨m1, hm1⟩ : ∃ m1, touchD m (linkAt p) = m1 := ⟨_, rfl⟩
            obtain ⟨v, hv⟩ : ∃ v, loadD m (linkAt p) = v := ⟨_, rfl⟩
            have kl : ∀ (w' : World) (va : Value), IsMem N w' va m → w.heap.size ≤ w'.heap.size → Gives Proofs.Try.prog 64 #[va, .int .i64 (linkAt p)] w' (fun r w' => ∃ u, r = .tuple #[u, .int .i64 v] ∧ IsMem N w' u m1) := fun w' va hm hsz => by
              have := memLoad_ N va m (linkAt p) w' hm hfit (fun b hb => Nat.lt_of_lt_of_le (hN b hb) hsz) (linkAt_lo _).1 (linkAt_lo _).2
              rw [hm1, hv] at this; exact this
            have HV := Lib.hid hv
            clear hv hm1
            obtain ⟨c0_0, c0_1, c0_2, d0_0, d0_1, d0_2⟩ := cells3 hbx
            have z0 : w.heap.size < w5.heap.size := hbx.lt
            go_wp2_with (first | (at_builtin; refine wpList_append_genK (base := B) rowI zs1 (by decide) one_int' (fun _ _ _ _ h => h) (.tmp 38) (.tmp 40) rfl rfl rfl rfl (OwnSl.extW hown exq) (IsSl.one (sz := 1) (cs := [.int .i64 p]) (Box.newAt _ _ _ (by first | rfl | simp)) rfl rfl) (by first | omega | (simp <;> omega)) (by first | omega | (simp <;> omega)) ?_; intro fa fan fc w6 Hfa ho6 kb6 kx6 ks6 kk6; have hb6 : Ext w w6 := kx6 w exq (by omega); have hset6 : OwnSet w6 (w.heap.size + 1) out := (OwnSet.keep (M := no) hset (Ext.keep exq) (fun q => q)).keep kk6 (by omega); have B0_6 : Box w6 (w.heap.size) #[.slice aw m.W.length cw, .slice ag m.G.length cg, .bool m.bad] 50 := kb6 _ _ _ (hbx.alloc _) (by omega); clear c0_0 c0_1 c0_2 d0_0 d0_1 d0_2 z0; have s6 : w5.heap.size + 1 ≤ w6.heap.size := (by have h := ks6; simp at h; omega); obtain ⟨c0_0, c0_1, c0_2, d0_0, d0_1, d0_2⟩ := cells3 B0_6; have z0 : w.heap.size < w6.heap.size := B0_6.lt) | (at_mapUpdate; refine wpList_mapUpdate_own _ rfl _ _ _ 175 rfl 3 4 keyed3 und175 _ (w.heap.size + 1) out.length _ rfl hset6 (by unfold maxLen; omega) _ _ _ rfl rfl (key3 (p := p) (by omega) (by omega)) _ [] (plainElem_bool Proofs.Try.underlying4 true) ?_; intro w7 hset7 hgr7; have hb7 : Ext w w7 := grown_ext hgr7 hb6 (fun k e => (by cases e; omega)); have hkm7 : Keep (fun k => k = (w.heap.size + 1)) w6 w7 := grown_keep hgr7 (fun k e => (by cases e; rfl)); have B0_7 : Box w7 (w.heap.size) #[.slice aw m.W.length cw, .slice ag m.G.length cg, .bool m.bad] 50 := (B0_6.keep hkm7 (by omega)); clear c0_0 c0_1 c0_2 d0_0 d0_1 d0_2 z0; have s7 : w6.heap.size ≤ w7.heap.size := hgr7.size; obtain ⟨c0_0, c0_1, c0_2, d0_0, d0_1, d0_2⟩ := cells3 B0_7; have z0 : w.heap.size < w7.heap.size := B0_7.lt))
            have hX10 : Ext w w7 := exn
            have hK10 : Keep N w7 w7 := Keep.refl _ _
            have D0_10 := B0_7
            have aM : IsMem N w7 (.agg #[.slice aw m.W.length cw, .slice ag m.G.length cg, .bool m.bad]) m := h.ext hb7
            clear c0_0 c0_1 c0_2 d0_0 d0_1 d0_2 z0
            apply region_lit2 (T := []) (L := []) (X := []) (G := [eqv _, eqv _, eqv _, isTupN N m1 (.int .i64 v), isTupN N m1 (.int .i64 v), isMemN N m1, eqv (.int .i64 v), eqv _])
            case hm => kernel_rfl
            case hop =>
              refine ⟨?_, ?_, ?_, ?_, ?_, ?_, ?_, ?_, trivial⟩
              · intro a wa hs hf hd
                have t1 := hf.off 1 (by kernel_rfl) rfl
                exact plain_ rfl (yes_eqv (o_load3 rfl Proofs.Try.underlying50 rfl (by kernel_rfl) t1 ((D0_10.since hs rfl).cell rfl) ((D0_10.since hs rfl).cell rfl) ((D0_10.since hs rfl).cell rfl)) rfl)
              · intro a wa hs hf hd
                have t8 := hf.off 8 (by kernel_rfl) rfl
                exact plain_ rfl (yes_eqv (o_move rfl t8) rfl)
              · intro a wa hs hf hd
                have t44 : a.eval (.tmp 44) = _ := hd.at 1 44 (by kernel_rfl)
                exact plain_ rfl (yes_gives (atw_ p _) rfl rfl Proofs.Try.func57 (by kernel_rfl) (by kernel_rfl) (by simp only [List.map_toArray, List.map_cons, List.map_nil, eval_const, t44]) rfl)
              · intro a wa hs hf hd
                have t43 : a.eval (.tmp 43) = _ := hd.at 0 43 (by kernel_rfl)
                have t45 : a.eval (.tmp 45) = _ := hd.at 2 45 (by kernel_rfl)
                exact plain_ rfl (yes_gives (kl _ _ (aM.ext (Since.to_ext hs)) (by have := (Since.to_ext hs).size; have := hX10.size; omega)) rfl rfl Proofs.Try.func64 (by kernel_rfl) (by kernel_rfl) (by simp only [List.map_toArray, List.map_cons, List.map_nil, t43, t45]) rfl)
              · intro a wa hs hf hd
                have t46 := hd.at 3 46 (by kernel_rfl)
                obtain ⟨u, hu, hm⟩ := t46
                exact plain_ rfl (yes_val (runs_ok (o_move rfl hu)) (Ext.refl _) ⟨u, rfl, hm⟩ rfl)
              · intro a wa hs hf hd
                have t42 := hd.at 4 42 (by kernel_rfl)
                obtain ⟨u, hu, hm⟩ := t42
                exact plain_ rfl (yes_val (runs_ok (o_extract rfl hu rfl)) (Ext.refl _) hm rfl)
              · intro a wa hs hf hd
                have t42 := hd.at 4 42 (by kernel_rfl)
                obtain ⟨u, hu, hm⟩ := t42
                exact plain_ rfl (yes_eqv (o_extract rfl hu rfl) rfl)
              · intro a wa hs hf hd
                have t48 : a.eval (.tmp 48) = _ := hd.at 6 48 (by kernel_rfl)
                exact plain_ rfl (yes_eqv (o_assign rfl t48) rfl)
            case hG => exact ⟨stable_eqv _, stable_eqv _, stable_eqv _, stable_isTupN _ _ _, stable_isTupN _ _ _, stable_isMemN _ _, stable_eqv _, stable_eqv _, trivial⟩
            case hc => kernel_rfl
            case hfin =>
              intro v10 hs10
              rintro _ rfl _ rfl _ rfl _ ⟨p3, rfl, h3⟩ _ ⟨p4, rfl, h4⟩ p5 h5 _ rfl _ rfl
              obtain ⟨u1, u2, u3, u4, rfl, uw, ug⟩ := IsMem.opened h5
              intro x hx
              rw [hx]
              clear hx x
              simp only [Act.put, List.setIfInBounds_toArray, List.set_cons_zero, List.set_cons_succ]
              obtain ⟨w8, hw8⟩ : ∃ x, x = v10 := ⟨_, rfl⟩
              have hb8 : Ext w w8 := by rw [hw8]; exact hX10.trans (Since.to_ext hs10)
              have hk8 : Keep N w7 w8 := by rw [hw8]; exact hK10.ext (Since.to_ext hs10)
              have hQ8 : Ext w7 w8 := by rw [hw8]; exact Since.to_ext hs10
              have B0_8 : Box w8 (w.heap.size) #[.slice aw m.W.length cw, .slice ag m.G.length cg, .bool m.bad] 50 := by rw [hw8]; exact (D0_10.since hs10 rfl)
              have s8 : w7.heap.size ≤ w8.heap.size := by rw [hw8]; exact (Since.to_ext hs10).size
              rw [← hw8]
              clear hw8
              obtain ⟨c0_0, c0_1, c0_2, d0_0, d0_1, d0_2⟩ := cells3 B0_8
              have z0 : w.heap.size < w8.heap.size := B0_8.lt
              have hset7b : OwnSet w7 (w.heap.size + 1) (out ++ [p]) := by unfold OwnSet; rw [setD_snoc, List.length_append]; exact hset7
              have hset8 : OwnSet w8 (w.heap.size + 1) (out ++ [p]) := hset7b.keep (M := no) hQ8.keep (fun q => q)
              have hown7 : OwnSl 1 3 RI B w7 (.slice fa fan fc) (out ++ [p]) := ho6.keep hkm7 (fun b hb e => by have := ho6.base b hb; omega) (fun _ _ h => h)
              have hown8 : OwnSl 1 3 RI B w8 (.slice fa fan fc) (out ++ [p]) := hown7.extW hQ8
              go_wp2
              go_roundw
              case rel => exact ⟨v, rfl, out ++ [p], B0_8, hset8, hown8, hb8, by omega, walk_cnt HC.out hin, walk_mem HM.out hp1 (by omega), walk_next HW.out HF.out hp0 (by omega) (by omega) hin HV.out⟩
              case measure => rw [show lenV (.slice fa fan fc) = out.length + 1 by show fan = _; rw [Hfa.out]; simp]; show _ < m.G.length + 1 - out.length; omega
end Go.Proofs.Ytcfbdfgondmkoaa
/- Chapter 4: the document's example. -/
namespace Go.Proofs.Ytcfbdfgondmkoaa
open Go Go.RowKit
set_option linter.unusedSimpArgs false
set_option linter.unusedVariables false
set_option linter.unnecessarySimpa false

theorem IsSys.lit {N : Nat → Prop} {w : World} {v : Value} {s : SysD} (h : IsSys N w v s) {a b n m : Nat} {d : Bool} (h1 : s.M.W.length = a) (h2 : s.M.G.length = b) (h3 : s.M.bad = d) (h4 : s.C.length = n) (h5 : s.L.length = m) :
    ∃ aw cw ag cg ac cc al cl, v = .agg #[.slice aw a cw, .slice ag b cg, .bool d, .slice ac n cc, .slice al m cl] ∧ IsInts N w (.slice aw a cw) s.M.W ∧ IsInts N w (.slice ag b cg) s.M.G ∧ IsCores N w (.slice ac n cc) s.C ∧ IsEvs N w (.slice al m cl) s.L := by
  subst h1 h2 h3 h4 h5
  exact h.opened
def y4a : SysD := newS 1 3
def y4b : SysD := memS y4a (fillD y4a.M)
def zs4 : Nat → SysD
  | 0 => callS y4b 0 1 [0, 0, 0]
  | k + 1 => step4 (zs4 k) 0
def fitsB (m : Arena) : Bool := decide (m.W.length = 128 + 4 * (m.G.length - 1) ∧ 1 ≤ m.G.length ∧ m.G.length ≤ 201)
theorem fitsB_iff {m : Arena} (h : fitsB m = true) : Fits m := by simpa [fitsB, Fits] using h
def okS (s : SysD) : Bool := decide (s.C.length ≤ 100) && (s.C.all (fun c => decide (c.F.length ≤ 100)) && (fitsB s.M && decide (s.L.length ≤ 100)))
theorem okS_iff {s : SysD} (h : okS s = true) : s.C.length ≤ 100000 ∧ (∀ (i : Nat) c, s.C[i]? = some c → c.F.length ≤ 100000) ∧ Fits s.M ∧ s.L.length ≤ 100000 := by
  simp only [okS, Bool.and_eq_true, decide_eq_true_eq] at h
  obtain ⟨h1, h2, h3, h4⟩ := h
  refine ⟨by omega, fun i c hi => ?_, fitsB_iff h3, by omega⟩
  have := List.all_eq_true.1 h2 c (List.mem_of_getElem? hi)
  simp at this; omega
theorem zs4_ok {k : Nat} (h : k < 3) : (zs4 k).C.length ≤ 100000 ∧ (∀ (i : Nat) c, (zs4 k).C[i]? = some c → c.F.length ≤ 100000) ∧ Fits (zs4 k).M ∧ (zs4 k).L.length ≤ 100000 := by
  match k, h with
  | 0, _ => exact okS_iff (by kernel_rfl)
  | 1, _ => exact okS_iff (by kernel_rfl)
  | 2, _ => exact okS_iff (by kernel_rfl)
theorem y4fit : Fits y4a.M := fitsB_iff (by kernel_rfl)
theorem y4fitb : Fits y4b.M := fitsB_iff (by kernel_rfl)
theorem zs4fit3 : Fits (zs4 3).M := fitsB_iff (by kernel_rfl)
def k4 : CoreD := ((zs4 3).C[0]?).getD core0
theorem zs43 : (zs4 3).C[0]? = some k4 := by kernel_rfl
theorem ints_box {w : World} {b : Nat} {cs : Array Value} {t : TypeId} {l : List Int} (h : Box w b cs t) (hc : cs.toList = l.map (Value.int .i64)) (hx : l.length ≤ 1000) : IsInts no w (.slice (some ⟨b, 0, none⟩) l.length l.length) l := by
  refine ⟨_, _, rfl, Nat.le_refl _, ?_, fun e => by simp at e, fun i hi => ⟨b, 0, rfl, h.lt, id, ?_⟩⟩
  · omega
  · rw [Nat.zero_add]
    refine h.cell ?_
    rw [nth_eq, hc]
    simp [gi, List.getD_eq_getElem?_getD, hi]
def Sh4R (w wk : World) (l1 : List Int) (vl : Value) (k : Nat) (wr : World) : Prop :=
  k ≤ 3 ∧ ∃ v0 v1 v2 v3 v4, Box wr wk.heap.size #[v0, v1, v2, v3, v4] 83 ∧ IsSys (Bx no wk.heap.size (wk.heap.size + 1)) wr (.agg #[v0, v1, v2, v3, v4]) (zs4 k) ∧ IsInts (Bx no wk.heap.size (wk.heap.size + 1)) wr vl l1 ∧ Ext w wr
set_option maxHeartbeats 4000000 in
set_option maxRecDepth 100000 in
theorem shown4_ (w : World) : Gives Proofs.Try.prog 104 #[] w (eqv (.bool true)) := by
  go_enter Proofs.Try.func104, Proofs.Try.ntmps104
  go_wp2_with (fail)
  go_at_call 76
  refine (refNewS_ no 1 3 _ no_lt).calls.mono ?_
  rintro e w1 ⟨_, rfl, hb1, u, rfl, hu1⟩
  rw [show newSE 1 3 = 0 by kernel_rfl]
  rw [show newS 1 3 = y4a from rfl] at hu1
  obtain ⟨r1, r2, r3, r4, r5, r6, r7, r8, rfl, rW, rG, rC, rL⟩ := hu1.opened
  have aw := rW.bxn (hi := w1.heap.size + 1)
  have ag := rG.bxn (hi := w1.heap.size + 1)
  have ac := IsCores.bxn (hi := w1.heap.size + 1) rC
  have al := IsEvs.bxn (hi := w1.heap.size + 1) rL
  have s1 : w.heap.size ≤ w1.heap.size := (by have h := hb1.size; first | omega | (simp at h; omega))
  go_wp2_with (fail)
  obtain ⟨W2, hW⟩ : ∃ W, W = (w1.alloc (.cells #[.slice r1 y4a.M.W.length r2, .slice r3 y4a.M.G.length r4, .bool y4a.M.bad, .slice r5 y4a.C.length r6, .slice r7 y4a.L.length r8] 83 (0, 0))) := ⟨_, rfl⟩
  have hX2 : Ext w W2 := by rw [hW]; exact exn
  have hK2 : Keep (Bx no w1.heap.size (w1.heap.size + 1)) w1 W2 := by rw [hW]; exact keq
  have D0_2 : Box (w1.alloc (.cells #[.slice r1 y4a.M.W.length r2, .slice r3 y4a.M.G.length r4, .bool y4a.M.bad, .slice r5 y4a.C.length r6, .slice r7 y4a.L.length r8] 83 (0, 0))) (w1.heap.size) #[.slice r1 y4a.M.W.length r2, .slice r3 y4a.M.G.length r4, .bool y4a.M.bad, .slice r5 y4a.C.length r6, .slice r7 y4a.L.length r8] 83 := (Box.newAt _ _ _ (by first | rfl | simp))
  rw [← hW] at D0_2
  have y2 : w1.heap.size + 1 ≤ W2.heap.size := by rw [hW]; simp
  rw [← hW]
  clear hW
  have aS : IsSys (Bx no w1.heap.size (w1.heap.size + 1)) W2 (.agg #[.slice r1 y4a.M.W.length r2, .slice r3 y4a.M.G.length r4, .bool y4a.M.bad, .slice r5 y4a.C.length r6, .slice r7 y4a.L.length r8]) y4a := (IsSys.mk rfl aw ag ac al : IsSys (Bx no w1.heap.size (w1.heap.size + 1)) w1 _ y4a).keep hK2
  have aM : IsMem (Bx no w1.heap.size (w1.heap.size + 1)) W2 (.agg #[.slice r1 y4a.M.W.length r2, .slice r3 y4a.M.G.length r4, .bool y4a.M.bad]) y4a.M := (IsMem.mk rfl aw ag : IsMem (Bx no w1.heap.size (w1.heap.size + 1)) w1 _ y4a.M).keep hK2
  apply region_lit2 (T := [5]) (L := []) (X := [w1.heap.size]) (G := [eqv _, eqv _, eqv _, isMemN (Bx no w1.heap.size (w1.heap.size + 1)) (fillD y4a.M), isSysN (Bx no w1.heap.size (w1.heap.size + 1)) y4b, anyG])
  case hm => kernel_rfl
  case hop =>
    refine ⟨?_, ?_, ?_, ?_, ?_, ?_, trivial⟩
    · intro a wa hs hf hd
      have t1 := hf.off 1 (by kernel_rfl) rfl
      exact plain_ rfl (yes_eqv (o_load5 rfl Proofs.Try.underlying83 rfl (by kernel_rfl) t1 ((D0_2.since hs rfl).cell rfl) ((D0_2.since hs rfl).cell rfl) ((D0_2.since hs rfl).cell rfl) ((D0_2.since hs rfl).cell rfl) ((D0_2.since hs rfl).cell rfl)) rfl)
    · intro a wa hs hf hd
      have t1 := hf.off 1 (by kernel_rfl) rfl
      exact plain_ rfl (yes_eqv (o_fieldAddr rfl Proofs.Try.underlying83 rfl rfl (by kernel_rfl) t1) rfl)
    · intro a wa hs hf hd
      have t14 : a.eval (.tmp 14) = _ := hd.at 1 14 (by kernel_rfl)
      exact plain_ rfl (yes_eqv (o_load3 rfl Proofs.Try.underlying50 rfl (by kernel_rfl) t14 ((D0_2.since hs rfl).cell rfl) ((D0_2.since hs rfl).cell rfl) ((D0_2.since hs rfl).cell rfl)) rfl)
    · intro a wa hs hf hd
      have t15 : a.eval (.tmp 15) = _ := hd.at 2 15 (by kernel_rfl)
      exact plain_ rfl (yes_gives (fill_ (Bx no w1.heap.size (w1.heap.size + 1)) _ y4a.M _ (aM.keep (Since.to_ext hs).keep) (fun b hb => (by have := hb.elim False.elim (fun q => q.2); have := (Since.to_ext hs).size; omega)) y4fit) rfl rfl Proofs.Try.func109 (by kernel_rfl) (by kernel_rfl) (by simp only [List.map_toArray, List.map_cons, List.map_nil, t15]) rfl)
    · intro a wa hs hf hd
      have t13 : a.eval (.tmp 13) = _ := hd.at 0 13 (by kernel_rfl)
      have t16 := hd.at 3 16 (by kernel_rfl)
      exact plain_ rfl (yes_gives (refMem_ _ _ _ y4a (fillD y4a.M) _ (aS.ext (Since.to_ext hs)) t16) rfl rfl Proofs.Try.func103 (by kernel_rfl) (by kernel_rfl) (by simp only [List.map_toArray, List.map_cons, List.map_nil, t13, t16]) rfl)
    · intro a wb wa hs1 hs hf hd hrun
      have t1 := hf.off 1 (by kernel_rfl) rfl
      have t17 := hd.at 4 17 (by kernel_rfl)
      subst hrun
      have q18 : IsSys (Bx no w1.heap.size (w1.heap.size + 1)) _ (a.eval (.tmp 17)) y4b := t17
      obtain ⟨g1, g2, g3, g4, g5, g6, g7, g8, hv, _⟩ := q18.opened
      exact ⟨_, o_store rfl t1 hv ((D0_2.since hs1 rfl)) (by kernel_rfl) (by simp [Value.cells, Value.oneCell']) (by first | (simp [Value.cells]; done) | (simp [Value.cells]; omega)) rfl, Since.put hs (.inr (by simp))⟩
  case hG => exact ⟨stable_eqv _, stable_eqv _, stable_eqv _, stable_isMemN _ _, stable_isSysN _ _, stable_any, trivial⟩
  case hc => kernel_rfl
  case hfin =>
    intro v2 hs2
    rintro _ rfl _ rfl _ rfl j3 hj3 j4 hj4
    obtain ⟨g1, g2, g3, g4, g5, g6, g7, g8, rfl, gW0, gG0, gC0, gL0⟩ := IsSys.opened hj4
    rintro v2w ⟨o1, v1, ho1, hr1, rfl⟩
    cases ho1
    simp only [Act.put, List.setIfInBounds_toArray, List.set_cons_zero, List.set_cons_succ] at hr1 ⊢
    cases (hr1.symm.trans (o_store (v := .agg #[.slice g1 y4b.M.W.length g2, .slice g3 y4b.M.G.length g4, .bool y4b.M.bad, .slice g5 y4b.C.length g6, .slice g7 y4b.L.length g8]) (new := #[.slice g1 y4b.M.W.length g2, .slice g3 y4b.M.G.length g4, .bool y4b.M.bad, .slice g5 y4b.C.length g6, .slice g7 y4b.L.length g8]) rfl rfl rfl ((D0_2.since hs2 rfl)) (by kernel_rfl) (by simp [Value.cells, Value.oneCell']) (by first | (simp [Value.cells]; done) | (simp [Value.cells]; omega)) (by first | rfl | kernel_rfl)))
    obtain ⟨w2, hw2⟩ : ∃ x, x = (put v2 w1.heap.size (.cells #[.slice g1 y4b.M.W.length g2, .slice g3 y4b.M.G.length g4, .bool y4b.M.bad, .slice g5 y4b.C.length g6, .slice g7 y4b.L.length g8] 83 (0, 0))) := ⟨_, rfl⟩
    have hW2 : Ext W2 v2 := Since.to_ext hs2
    have hb2 : Ext w w2 := by rw [hw2]; exact Since.to_ext ((Since.of_ext (hX2.trans hW2)).put (.inl (by have := hX2.size; omega)))
    have hk2 : Keep (Bx no w1.heap.size (w1.heap.size + 1)) w1 w2 := by rw [hw2]; exact ((hK2.ext hW2).put _ _ (.inr (Bx.mem (by omega) (by omega))))
    have hq2 : Keep (Bx no w1.heap.size (w1.heap.size + 1)) v2 w2 := by rw [hw2]; exact ((Keep.refl _ _).put _ _ (.inr (Bx.mem (by omega) (by omega))))
    have B0_2 : Box w2 (w1.heap.size) #[.slice g1 y4b.M.W.length g2, .slice g3 y4b.M.G.length g4, .bool y4b.M.bad, .slice g5 y4b.C.length g6, .slice g7 y4b.L.length g8] 83 := by rw [hw2]; exact (D0_2.since hs2 rfl).put
    have s2 : W2.heap.size ≤ w2.heap.size := by rw [hw2]; have := hW2.size; simpa [put] using this
    rw [← hw2]
    clear hw2
    obtain ⟨c0_0, c0_1, c0_2, c0_3, c0_4, d0_0, d0_1, d0_2, d0_3, d0_4⟩ := cells5 B0_2
    have z0 : w1.heap.size < w2.heap.size := B0_2.lt
    have hy0 : IsSys no w2 (.agg #[.slice g1 y4b.M.W.length g2, .slice g3 y4b.M.G.length g4, .bool y4b.M.bad, .slice g5 y4b.C.length g6, .slice g7 y4b.L.length g8]) y4b := (IsSys.keep (IsSys.mk rfl gW0 gG0 gC0 gL0 : IsSys (Bx no w1.heap.size (w1.heap.size + 1)) v2 _ y4b) hq2).less (fun _ _ h => h.elim)
    obtain ⟨_, _, _, _, _, _, _, _, hye, gW, gG, gC, gL⟩ := hy0.opened
    cases hye
    clear hq2
    go_wp2_with (fail)
    go_at_call 105
    refine (walk_ no _ y4b.M _ (IsMem.mk rfl (IsInts.ext gW exq) (IsInts.ext gG exq)) no_lt y4fitb).calls.mono ?_
    rintro e w3 ⟨_, rfl, hb3, u, rfl, hl1⟩
    rw [show (walkD y4b.M).2 = true by kernel_rfl]
    obtain ⟨l1, hl1e⟩ : ∃ l, (walkD y4b.M).1 = l := ⟨_, rfl⟩
    rw [hl1e] at hl1
    have HL1 := Lib.hid hl1e
    clear hl1e
    obtain ⟨la, lc, rfl, _⟩ := hl1.opened
    have B0_3 : Box w3 (w1.heap.size) #[.slice g1 y4b.M.W.length g2, .slice g3 y4b.M.G.length g4, .bool y4b.M.bad, .slice g5 y4b.C.length g6, .slice g7 y4b.L.length g8] 83 := B0_2.ext hb3
    clear c0_0 c0_1 c0_2 c0_3 c0_4 d0_0 d0_1 d0_2 d0_3 d0_4 z0
    have s3 : w2.heap.size ≤ w3.heap.size := (by have h := hb3.size; first | omega | (simp at h; omega))
    obtain ⟨c0_0, c0_1, c0_2, c0_3, c0_4, d0_0, d0_1, d0_2, d0_3, d0_4⟩ := cells5 B0_3
    have z0 : w1.heap.size < w3.heap.size := B0_3.lt
    go_wp2_with (fail)
    go_at_call 88
    refine (refCall_ no _ y4b 0 1 0 0 0 _ (IsSys.mk rfl (IsInts.ext gW exq) (IsInts.ext gG exq) (IsCores.keep gC (show Ext _ _ from exq).keep) (IsEvs.keep gL (show Ext _ _ from exq).keep)) no_lt (by rw [show y4b.C.length = 1 by kernel_rfl]; decide)).calls.mono ?_
    rintro e w4 ⟨_, rfl, hb4, ht⟩
    rw [show callS y4b 0 1 [0, 0, 0] = zs4 0 from rfl] at ht
    obtain ⟨t1, t2, t3, t4, t5, t6, t7, t8, rfl, tW, tG, tC, tL⟩ := ht.opened
    have B0_4 : Box w4 (w1.heap.size) #[.slice g1 y4b.M.W.length g2, .slice g3 y4b.M.G.length g4, .bool y4b.M.bad, .slice g5 y4b.C.length g6, .slice g7 y4b.L.length g8] 83 := B0_3.ext hb4
    clear c0_0 c0_1 c0_2 c0_3 c0_4 d0_0 d0_1 d0_2 d0_3 d0_4 z0
    have s4 : w3.heap.size ≤ w4.heap.size := (by have h := hb4.size; first | omega | (simp at h; omega))
    obtain ⟨c0_0, c0_1, c0_2, c0_3, c0_4, d0_0, d0_1, d0_2, d0_3, d0_4⟩ := cells5 B0_4
    have z0 : w1.heap.size < w4.heap.size := B0_4.lt
    go_wp2
    obtain ⟨B, hB⟩ : ∃ B, B = w4.heap.size := ⟨_, rfl⟩
    have hWk : Ext w w4 := exq
    go_loopw [6] (fun i wr => ∃ k : Nat, i = .int .i64 k ∧ Sh4R w w4 l1 (.slice la l1.length lc) k wr) (fun i _ => 3 - (intOf i).toNat)
    case atStart => exact ⟨0, rfl, by omega, _, _, _, _, _, (Box.newAt _ _ _ (by first | rfl | simp)), (IsSys.bxn ht).ext exq, ((IsInts.ext hl1 (show Ext _ w4 from exq)).bxn).ext exq, exq⟩
    case round =>
    obtain ⟨k, rfl, hk3, v0, v1, v2, v3, v4, hbx, hsys, hl, hWx⟩ := hrel
    obtain ⟨w9, rfl⟩ : ∃ w9 : World, w9 = wr := ⟨_, rfl⟩
    have s9 : w4.heap.size < w9.heap.size := hbx.lt
    by_cases hlt : k < 3
    · have q1 : (k : Int) < 3 := by omega
      obtain ⟨cT_0, cT_1, cT_2, cT_3, cT_4, dT_0, dT_1, dT_2, dT_3, dT_4⟩ := cells5 hbx
      have zT : w4.heap.size < w9.heap.size := hbx.lt
      go_wp2_with (fail)
      go_at_call 111
      refine (step4_ (Bx no w4.heap.size (w4.heap.size + 1)) _ (zs4 k) 0 _ (hsys.ext exq) (fun b hb => (by have := hb.elim False.elim (fun q => q.2); omega)) (zs4_ok hlt).1 (zs4_ok hlt).2.1 (zs4_ok hlt).2.2.1 (zs4_ok hlt).2.2.2).calls.mono ?_
      rintro e w10 ⟨_, rfl, hb10, hr10⟩
      obtain ⟨r1, r2, r3, r4, r5, r6, r7, r8, rfl, _⟩ := hr10.opened
      have BT_10 : Box w10 (w4.heap.size) #[v0, v1, v2, v3, v4] 83 := hbx.ext hb10
      clear cT_0 cT_1 cT_2 cT_3 cT_4 dT_0 dT_1 dT_2 dT_3 dT_4 zT
      have s10 : w9.heap.size ≤ w10.heap.size := (by have h := hb10.size; first | omega | (simp at h; omega))
      obtain ⟨cT_0, cT_1, cT_2, cT_3, cT_4, dT_0, dT_1, dT_2, dT_3, dT_4⟩ := cells5 BT_10
      have zT : w4.heap.size < w10.heap.size := BT_10.lt
      go_wp2
      go_roundw
      case rel => exact ⟨k + 1, by simp, by omega, _, _, _, _, _, (((((BT_10.setCell _).setCell _).setCell _).setCell _).setCell _), IsSys.keep hr10 keq, IsInts.keep hl keq, exn⟩
      case measure => simp [intOf]; omega
    · obtain rfl : k = 3 := by omega
      have q1 : ¬ ((3 : Nat) : Int) < 3 := by decide
      obtain ⟨z1, z2, z3, z4, z5, z6, z7, z8, hze, zW, zG, zC, zL⟩ := hsys.lit (a := 140) (b := 4) (d := false) (n := 1) (m := 0) (by kernel_rfl) (by kernel_rfl) (by kernel_rfl) (by kernel_rfl) (by kernel_rfl)
      obtain ⟨rfl, rfl, rfl, rfl, rfl⟩ : v0 = .slice z1 140 z2 ∧ v1 = .slice z3 4 z4 ∧ v2 = .bool false ∧ v3 = .slice z5 1 z6 ∧ v4 = .slice z7 0 z8 := by simpa using hze
      clear hze
      obtain ⟨bb, ob, af, cf, ar, cr, rfl, zx, zn, _, _, _, e0, e1, _⟩ := IsCores.at zC (i := 0) (c := k4) zs43
      rw [show k4.F.length = 0 by kernel_rfl] at e0
      rw [show k4.V = 1 by kernel_rfl] at e1
      simp at e0 e1
      obtain ⟨cT_0, cT_1, cT_2, cT_3, cT_4, dT_0, dT_1, dT_2, dT_3, dT_4⟩ := cells5 hbx
      have zT : w4.heap.size < w9.heap.size := hbx.lt
      go_wp2_with (fail)
      go_at_call 105
      refine (walk_ no _ (zs4 3).M _ (IsMem.mk (m := (zs4 3).M) (by kernel_rfl) (IsInts.ext (zW.less fun _ _ h => h.elim) exq) (IsInts.ext (zG.less fun _ _ h => h.elim) exq)) no_lt zs4fit3).calls.mono ?_
      rintro e w10 ⟨_, rfl, hb10, u, rfl, hl2⟩
      rw [show (walkD (zs4 3).M).2 = true by kernel_rfl]
      obtain ⟨l2, hl2e⟩ : ∃ l, (walkD (zs4 3).M).1 = l := ⟨_, rfl⟩
      rw [hl2e] at hl2
      have HL2 := Lib.hid hl2e
      clear hl2e
      obtain ⟨lb, ld, rfl, _⟩ := hl2.opened
      have e0_10 := cell_ext e0 (show Ext w9 w10 from exq)
      have e1_10 := cell_ext e1 (show Ext w9 w10 from exq)
      have xb10 : bb < w10.heap.size := World.block_lt_of_cell? _ _ e1_10
      have BT_10 : Box w10 (w4.heap.size) #[.slice z1 140 z2, .slice z3 4 z4, .bool false, .slice (some ⟨bb, ob, none⟩) 1 z6, .slice z7 0 z8] 83 := hbx.ext hb10
      clear cT_0 cT_1 cT_2 cT_3 cT_4 dT_0 dT_1 dT_2 dT_3 dT_4 zT
      have s10 : w9.heap.size ≤ w10.heap.size := (by have h := hb10.size; first | omega | (simp at h; omega))
      obtain ⟨cT_0, cT_1, cT_2, cT_3, cT_4, dT_0, dT_1, dT_2, dT_3, dT_4⟩ := cells5 BT_10
      have zT : w4.heap.size < w10.heap.size := BT_10.lt
      go_wp2_with (fail)
      go_at_call 72
      refine (refInts_ no _ _ l1 [1, 2, 3] _ (IsInts.ext (hl.less (fun _ _ h => h.elim)) exq) (ints_box (Box.newAt _ _ _ (by first | rfl | simp)) rfl (by decide))).calls.mono ?_
      rintro e w11 ⟨_, rfl, hb11, rfl⟩
      rw [show (l1 == [1, 2, 3]) = true by rw [← HL1.out]; kernel_rfl]
      have e0_11 := cell_ext e0 (show Ext w9 w11 from exq)
      have e1_11 := cell_ext e1 (show Ext w9 w11 from exq)
      have xb11 : bb < w11.heap.size := World.block_lt_of_cell? _ _ e1_11
      have BT_11 : Box w11 (w4.heap.size) #[.slice z1 140 z2, .slice z3 4 z4, .bool false, .slice (some ⟨bb, ob, none⟩) 1 z6, .slice z7 0 z8] 83 := (BT_10.alloc _).ext hb11
      clear cT_0 cT_1 cT_2 cT_3 cT_4 dT_0 dT_1 dT_2 dT_3 dT_4 zT
      have s11 : w10.heap.size + 1 ≤ w11.heap.size := (by have h := hb11.size; first | omega | (simp at h; omega))
      obtain ⟨cT_0, cT_1, cT_2, cT_3, cT_4, dT_0, dT_1, dT_2, dT_3, dT_4⟩ := cells5 BT_11
      have zT : w4.heap.size < w11.heap.size := BT_11.lt
      go_wp2_with (fail)
      go_at_call 72
      refine (refInts_ no _ _ l2 [2, 3] _ (IsInts.ext (hl2) exq) (ints_box (Box.newAt _ _ _ (by first | rfl | simp)) rfl (by decide))).calls.mono ?_
      rintro e w12 ⟨_, rfl, hb12, rfl⟩
      rw [show (l2 == [2, 3]) = true by rw [← HL2.out]; kernel_rfl]
      have e0_12 := cell_ext e0 (show Ext w9 w12 from exq)
      have e1_12 := cell_ext e1 (show Ext w9 w12 from exq)
      have xb12 : bb < w12.heap.size := World.block_lt_of_cell? _ _ e1_12
      have BT_12 : Box w12 (w4.heap.size) #[.slice z1 140 z2, .slice z3 4 z4, .bool false, .slice (some ⟨bb, ob, none⟩) 1 z6, .slice z7 0 z8] 83 := (BT_11.alloc _).ext hb12
      clear cT_0 cT_1 cT_2 cT_3 cT_4 dT_0 dT_1 dT_2 dT_3 dT_4 zT
      have s12 : w11.heap.size + 1 ≤ w12.heap.size := (by have h := hb12.size; first | omega | (simp at h; omega))
      obtain ⟨cT_0, cT_1, cT_2, cT_3, cT_4, dT_0, dT_1, dT_2, dT_3, dT_4⟩ := cells5 BT_12
      have zT : w4.heap.size < w12.heap.size := BT_12.lt
      go_wp2_with (fail)
      go_at_call 107
      refine (own4_ 1 _).calls.mono ?_
      rintro e w13 ⟨_, rfl, hb13, rfl⟩
      rw [show own4 1 = true by rfl]
      have e0_13 := cell_ext e0 (show Ext w9 w13 from exq)
      have e1_13 := cell_ext e1 (show Ext w9 w13 from exq)
      have xb13 : bb < w13.heap.size := World.block_lt_of_cell? _ _ e1_13
      have BT_13 : Box w13 (w4.heap.size) #[.slice z1 140 z2, .slice z3 4 z4, .bool false, .slice (some ⟨bb, ob, none⟩) 1 z6, .slice z7 0 z8] 83 := BT_12.ext hb13
      clear cT_0 cT_1 cT_2 cT_3 cT_4 dT_0 dT_1 dT_2 dT_3 dT_4 zT
      have s13 : w12.heap.size ≤ w13.heap.size := (by have h := hb13.size; first | omega | (simp at h; omega))
      obtain ⟨cT_0, cT_1, cT_2, cT_3, cT_4, dT_0, dT_1, dT_2, dT_3, dT_4⟩ := cells5 BT_13
      have zT : w4.heap.size < w13.heap.size := BT_13.lt
      go_wp2_with (fail)
      go_at_call 107
      refine (own4_ 3 _).calls.mono ?_
      rintro e w14 ⟨_, rfl, hb14, rfl⟩
      rw [show own4 3 = false by rfl]
      have e0_14 := cell_ext e0 (show Ext w9 w14 from exq)
      have e1_14 := cell_ext e1 (show Ext w9 w14 from exq)
      have xb14 : bb < w14.heap.size := World.block_lt_of_cell? _ _ e1_14
      have BT_14 : Box w14 (w4.heap.size) #[.slice z1 140 z2, .slice z3 4 z4, .bool false, .slice (some ⟨bb, ob, none⟩) 1 z6, .slice z7 0 z8] 83 := BT_13.ext hb14
      clear cT_0 cT_1 cT_2 cT_3 cT_4 dT_0 dT_1 dT_2 dT_3 dT_4 zT
      have s14 : w13.heap.size ≤ w14.heap.size := (by have h := hb14.size; first | omega | (simp at h; omega))
      obtain ⟨cT_0, cT_1, cT_2, cT_3, cT_4, dT_0, dT_1, dT_2, dT_3, dT_4⟩ := cells5 BT_14
      have zT : w4.heap.size < w14.heap.size := BT_14.lt
      go_wp2
      go_ret
      exact ⟨_, rfl, exn, rfl⟩
end Go.Proofs.Ytcfbdfgondmkoaa
/- Systems among a law's arguments. -/
namespace Go.Proofs.Ytcfbdfgondmkoaa
open Go Go.RowKit Go.WideShapes
set_option linter.unusedSimpArgs false
set_option linter.unusedVariables false
set_option linter.unnecessarySimpa false

theorem add_at (b off n : Nat) : (⟨b, off, none⟩ : Addr).add n = ⟨b, off + n, none⟩ := by unfold Addr.add; split <;> simp_all
section
variable {H : Type} {enc : TypeId × Value → H} {w : World} {cs : List Value}
theorem Rd.sl {α : Type} {sz : Nat} {R : World → α → List Value → Prop} {t e : TypeId} (ht : Proofs.Try.prog.underlying t = some (.slice e)) (hz : Proofs.Try.prog.cellsOf e = sz) (hsz : 0 < sz) (hE : ∀ cs, Rd enc Proofs.Try.prog w e cs → cs.length = sz ∧ ∃ x : α, R w x cs)
    (h : Rd enc Proofs.Try.prog w t cs) : ∃ v l, cs = [v] ∧ IsSl sz R no w v l := by
  rcases Rd.slice h ht with rfl | ⟨a, len, cap, rfl, hl, hm, hx⟩
  · exact ⟨_, [], rfl, none, 0, rfl, by simp, by omega, fun _ => rfl, fun i x hi => by simp at hi⟩
  · rw [hz] at hx
    have hc : ∀ i, i < cap → ∃ (x : α) (r : List Value), r.length = sz ∧ R w x r ∧ ∀ j c, r[j]? = some c → w.cell? ((a.add (i * sz)).add j) = some c := fun i hi => by
      obtain ⟨r, h1, h2⟩ := hx i hi
      obtain ⟨hrl, x, hR⟩ := hE r h2
      obtain ⟨_, _, h3⟩ := World.cells?_some h1
      refine ⟨x, r, hrl, hR, fun j c hj => ?_⟩
      have hjl : j < sz := by
        rw [← hrl]
        rcases Nat.lt_or_ge j r.length with h | h
        · exact h
        · rw [List.getElem?_eq_none h] at hj; cases hj
      have := h3 j hjl
      rw [this]; exact hj
    have hch := Classical.choice (show Nonempty (∀ i : Nat, i < cap → { p : α × List Value // p.2.length = sz ∧ R w p.1 p.2 ∧ ∀ j c, p.2[j]? = some c → w.cell? ((a.add (i * sz)).add j) = some c }) from
      ⟨fun i hi => ⟨⟨Classical.choose (hc i hi), Classical.choose (Classical.choose_spec (hc i hi))⟩, Classical.choose_spec (Classical.choose_spec (hc i hi))⟩⟩)
    by_cases h0 : cap = 0
    · subst h0
      obtain rfl : len = 0 := by omega
      exact ⟨_, [], rfl, some a, 0, rfl, by simp, by omega, fun e => by simp at e, fun i x hi => by simp at hi⟩
    · obtain ⟨x0, r0, hr0, _, hcell0⟩ := hc 0 (by omega)
      have hspot : a.spot = none := by
        have h1 := hcell0 0 (r0[0]'(by omega)) (List.getElem?_eq_getElem _)
        have := World.cell?_spot h1
        simpa [Addr.add] using this
      obtain ⟨b, off, spot⟩ := a
      simp at hspot
      subst hspot
      let f : Nat → α := fun i => if hi : i < cap then (hch i hi).1.1 else x0
      refine ⟨_, (List.range len).map f, rfl, some ⟨b, off, none⟩, cap, by simp, by simpa using hl, by simpa [maxLen] using hm, fun e => by simp at e, fun i x hi => ?_⟩
      have hil : i < len := by
        rcases Nat.lt_or_ge i len with h | h
        · exact h
        · rw [List.getElem?_eq_none (by simpa using h)] at hi; cases hi
      have hic : i < cap := by omega
      rw [List.getElem?_map, List.getElem?_range hil] at hi
      have hfx : f i = x := by simpa using hi
      have hfi : f i = (hch i hic).1.1 := by simp only [f, dif_pos hic]
      have hs := (hch i hic).2
      have hadd : ∀ j, ((⟨b, off, none⟩ : Addr).add (i * sz)).add j = ⟨b, off + i * sz + j, none⟩ := fun j => by rw [add_at, add_at]
      refine ⟨b, off, (hch i hic).1.2, rfl, ?_, id, hs.1, fun j c hj => by rw [← hadd j]; exact hs.2.2 j c hj, by rw [← hfx, hfi]; exact hs.2.1⟩
      have h1 := hs.2.2 0 ((hch i hic).1.2[0]'(by rw [hs.1]; omega)) (List.getElem?_eq_getElem _)
      rw [hadd] at h1
      exact World.block_lt_of_cell? w _ h1
theorem Rd.i64 {n : TypeId} (hn : Proofs.Try.prog.underlying n = some (.int .i64)) {x : Value} (h : Rd enc Proofs.Try.prog w n [x]) : ∃ z, x = .int .i64 z := by
  obtain ⟨z, e, _⟩ := Rd.int (k := .i64) h hn
  exact ⟨z, by simpa using e⟩
theorem Rd.i64s {t : TypeId} {n : Nat} (ht : Proofs.Try.prog.underlying t = some (.array n 3)) (h : Rd enc Proofs.Try.prog w t cs) (i : Nat) (hi : i < n) : ∃ z, (cs.drop (i * 1)).take 1 = [.int .i64 z] := by
  obtain ⟨z, e, _⟩ := Rd.int (k := .i64) (Rd.elem h ht i hi (m := 1) (by kernel_rfl)) Proofs.Try.underlying3
  exact ⟨z, e⟩
theorem Rd.ev (h : Rd enc Proofs.Try.prog w 108 cs) : cs.length = 5 ∧ ∃ e, RE w e cs := by
  have hl := (Rd.struct h Proofs.Try.underlying108).1
  rw [show Proofs.Try.prog.cellsOf 108 = 5 by kernel_rfl] at hl
  obtain ⟨v0, v1, v2, v3, v4, rfl⟩ : ∃ v0 v1 v2 v3 v4, cs = [v0, v1, v2, v3, v4] := by
    match cs, hl with
    | [a, b, c, d, e], _ => exact ⟨a, b, c, d, e, rfl⟩
  obtain ⟨z0, rfl⟩ := Rd.i64 Proofs.Try.underlying3 (x := v0) (by have q := Rd.field h Proofs.Try.underlying108 0 (n := 1) rfl (by kernel_rfl); exact q)
  obtain ⟨z1, rfl⟩ := Rd.i64 Proofs.Try.underlying3 (x := v1) (by have q := Rd.field h Proofs.Try.underlying108 1 (n := 1) rfl (by kernel_rfl); exact q)
  obtain ⟨z2, rfl⟩ := Rd.i64 Proofs.Try.underlying3 (x := v2) (by have q := Rd.field h Proofs.Try.underlying108 2 (n := 1) rfl (by kernel_rfl); exact q)
  obtain ⟨z3, rfl⟩ := Rd.i64 Proofs.Try.underlying3 (x := v3) (by have q := Rd.field h Proofs.Try.underlying108 3 (n := 1) rfl (by kernel_rfl); exact q)
  obtain ⟨z4, rfl⟩ := Rd.i64 Proofs.Try.underlying3 (x := v4) (by have q := Rd.field h Proofs.Try.underlying108 4 (n := 1) rfl (by kernel_rfl); exact q)
  exact ⟨rfl, ⟨z0, z1, z2, z3, z4⟩, rfl⟩
theorem Rd.frame (h : Rd enc Proofs.Try.prog w 95 cs) : cs.length = 11 ∧ ∃ f, RF no w f cs := by
  have hl := (Rd.struct h Proofs.Try.underlying95).1
  rw [show Proofs.Try.prog.cellsOf 95 = 11 by kernel_rfl] at hl
  obtain ⟨v0, v1, v2, v3, v4, v5, v6, v7, v8, v9, v10, rfl⟩ : ∃ v0 v1 v2 v3 v4 v5 v6 v7 v8 v9 v10, cs = [v0, v1, v2, v3, v4, v5, v6, v7, v8, v9, v10] := by
    match cs, hl with
    | [a, b, c, d, e, f, g, h, i, j, k], _ => exact ⟨a, b, c, d, e, f, g, h, i, j, k, rfl⟩
  obtain ⟨z0, rfl⟩ := Rd.i64 Proofs.Try.underlying3 (x := v0) (by have q := Rd.field h Proofs.Try.underlying95 0 (n := 1) rfl (by kernel_rfl); exact q)
  obtain ⟨z1, rfl⟩ := Rd.i64 Proofs.Try.underlying3 (x := v1) (by have q := Rd.field h Proofs.Try.underlying95 1 (n := 1) rfl (by kernel_rfl); exact q)
  have hR : Rd enc Proofs.Try.prog w 93 [v2, v3, v4, v5, v6, v7, v8, v9] := by have q := Rd.field h Proofs.Try.underlying95 2 (n := 8) rfl (by kernel_rfl); exact q
  obtain ⟨z2, q0⟩ := Rd.i64s Proofs.Try.underlying93 hR 0 (by decide)
  obtain rfl : v2 = .int .i64 z2 := by simpa using q0
  obtain ⟨z3, q1⟩ := Rd.i64s Proofs.Try.underlying93 hR 1 (by decide)
  obtain rfl : v3 = .int .i64 z3 := by simpa using q1
  obtain ⟨z4, q2⟩ := Rd.i64s Proofs.Try.underlying93 hR 2 (by decide)
  obtain rfl : v4 = .int .i64 z4 := by simpa using q2
  obtain ⟨z5, q3⟩ := Rd.i64s Proofs.Try.underlying93 hR 3 (by decide)
  obtain rfl : v5 = .int .i64 z5 := by simpa using q3
  obtain ⟨z6, q4⟩ := Rd.i64s Proofs.Try.underlying93 hR 4 (by decide)
  obtain rfl : v6 = .int .i64 z6 := by simpa using q4
  obtain ⟨z7, q5⟩ := Rd.i64s Proofs.Try.underlying93 hR 5 (by decide)
  obtain rfl : v7 = .int .i64 z7 := by simpa using q5
  obtain ⟨z8, q6⟩ := Rd.i64s Proofs.Try.underlying93 hR 6 (by decide)
  obtain rfl : v8 = .int .i64 z8 := by simpa using q6
  obtain ⟨z9, q7⟩ := Rd.i64s Proofs.Try.underlying93 hR 7 (by decide)
  obtain rfl : v9 = .int .i64 z9 := by simpa using q7
  obtain ⟨u, l, e, hu⟩ := Rd.ints (cs := [v10]) (by have q := Rd.field h Proofs.Try.underlying95 3 (n := 1) rfl (by kernel_rfl); exact q)
  obtain rfl : v10 = u := by simpa using e
  exact ⟨rfl, ⟨z0, z1, [z2, z3, z4, z5, z6, z7, z8, z9], l⟩, rfl, _, rfl, hu⟩
theorem Rd.core (h : Rd enc Proofs.Try.prog w 116 cs) : cs.length = 7 ∧ ∃ c, RC no w c cs := by
  have hl := (Rd.struct h Proofs.Try.underlying116).1
  rw [show Proofs.Try.prog.cellsOf 116 = 7 by kernel_rfl] at hl
  obtain ⟨v0, v1, v2, v3, v4, v5, v6, rfl⟩ : ∃ v0 v1 v2 v3 v4 v5 v6, cs = [v0, v1, v2, v3, v4, v5, v6] := by
    match cs, hl with
    | [a, b, c, d, e, f, g], _ => exact ⟨a, b, c, d, e, f, g, rfl⟩
  obtain ⟨u0, l0, e0, h0⟩ := Rd.sl (R := RF no) (sz := 11) Proofs.Try.underlying114 (by kernel_rfl) (by decide) (fun _ h => Rd.frame h) (cs := [v0]) (by have q := Rd.field h Proofs.Try.underlying116 0 (n := 1) rfl (by kernel_rfl); exact q)
  obtain rfl : v0 = u0 := by simpa using e0
  obtain ⟨z1, rfl⟩ := Rd.i64 Proofs.Try.underlying3 (x := v1) (by have q := Rd.field h Proofs.Try.underlying116 1 (n := 1) rfl (by kernel_rfl); exact q)
  obtain ⟨z2, rfl⟩ := Rd.i64 Proofs.Try.underlying25 (x := v2) (by have q := Rd.field h Proofs.Try.underlying116 2 (n := 1) rfl (by kernel_rfl); exact q)
  have hX : Rd enc Proofs.Try.prog w 41 [v3, v4, v5] := by have q := Rd.field h Proofs.Try.underlying116 3 (n := 3) rfl (by kernel_rfl); exact q
  obtain ⟨z3, q0⟩ := Rd.i64s Proofs.Try.underlying41 hX 0 (by decide)
  obtain rfl : v3 = .int .i64 z3 := by simpa using q0
  obtain ⟨z4, q1⟩ := Rd.i64s Proofs.Try.underlying41 hX 1 (by decide)
  obtain rfl : v4 = .int .i64 z4 := by simpa using q1
  obtain ⟨z5, q2⟩ := Rd.i64s Proofs.Try.underlying41 hX 2 (by decide)
  obtain rfl : v5 = .int .i64 z5 := by simpa using q2
  obtain ⟨u, l, e, hu⟩ := Rd.ints (cs := [v6]) (by have q := Rd.field h Proofs.Try.underlying116 4 (n := 1) rfl (by kernel_rfl); exact q)
  obtain rfl : v6 = u := by simpa using e
  exact ⟨rfl, ⟨l0, z1, z2, [z3, z4, z5], l⟩, rfl, _, _, rfl, h0, hu⟩
theorem Rd.sys (h : Rd enc Proofs.Try.prog w 83 cs) : ∃ v0 v1 v2 v3 v4 s, cs = [v0, v1, v2, v3, v4] ∧ IsSys no w (.agg #[v0, v1, v2, v3, v4]) s := by
  have hl := (Rd.struct h Proofs.Try.underlying83).1
  rw [show Proofs.Try.prog.cellsOf 83 = 5 by kernel_rfl] at hl
  obtain ⟨v0, v1, v2, v3, v4, rfl⟩ : ∃ v0 v1 v2 v3 v4, cs = [v0, v1, v2, v3, v4] := by
    match cs, hl with
    | [a, b, c, d, e], _ => exact ⟨a, b, c, d, e, rfl⟩
  obtain ⟨y0, y1, y2, m, e, hm⟩ := Rd.mem (cs := [v0, v1, v2]) (by have q := Rd.field h Proofs.Try.underlying83 0 (n := 3) rfl (by kernel_rfl); exact q)
  obtain ⟨rfl, rfl, rfl⟩ : v0 = y0 ∧ v1 = y1 ∧ v2 = y2 := by simpa using e
  obtain ⟨u3, l3, e3, h3⟩ := Rd.sl (R := RC no) (sz := 7) Proofs.Try.underlying80 (by kernel_rfl) (by decide) (fun _ h => Rd.core h) (cs := [v3]) (by have q := Rd.field h Proofs.Try.underlying83 1 (n := 1) rfl (by kernel_rfl); exact q)
  obtain rfl : v3 = u3 := by simpa using e3
  obtain ⟨u4, l4, e4, h4⟩ := Rd.sl (R := RE) (sz := 5) Proofs.Try.underlying81 (by kernel_rfl) (by decide) (fun _ h => Rd.ev h) (cs := [v4]) (by have q := Rd.field h Proofs.Try.underlying83 2 (n := 1) rfl (by kernel_rfl); exact q)
  obtain rfl : v4 = u4 := by simpa using e4
  exact ⟨_, _, _, _, _, ⟨m, l3, l4⟩, rfl, _, _, _, _, _, rfl, hm, h3, h4⟩
end
end Go.Proofs.Ytcfbdfgondmkoaa
/- The closed facts of the rows that work over the order of the initialisers. -/
namespace Go.Proofs.Ytcfbdfgondmkoaa
open Go
def orderSigns : List Char := ['h', 'a', 'r', 'n', 'e', 's', 's', ' ', '6', 'b', '9', 'a', '1', '6', '2', 'b', 'd', 'b', 'b', '2', '1', 'd', 'c', '9', '0', 'd', '8', 'b', 'a', '4', 'c', 'c', '9', '0', '8', 'e', '8', '6', 'c', 'e', '3', 'a', 'a', '3', 'b', 'd', '3', 'b', '8', '8', '3', 'e', '5', '4', '2', '4', 'b', '1', '8', '7', 'e', '0', '7', '3', '7', 'b', '1', 'b', '1', 'e', 'a', '9', ' ', 'c', 'u', 't', ' ', 'a', 't', ' ', 'h', 'a', 'z', 'e', 'l', '/', 'h', 'a', 'z', 'e', 'l', 'l', 'a', 'w', '0', '1', '.', 'P', 'a', 'c', 'k', 'T', 'e', 'l', 'l', 's', ' ', 'h', 'a', 'z', 'e', 'l', '/', 'h', 'a', 'z', 'e', 'l', 'l', 'a', 'w', '0', '1', '.', 'P', 'a', 'c', 'k', 'B', 'a', 'c', 'k', ' ', 'h', 'a', 'z', 'e', 'l', '/', 'h', 'a', 'z', 'e', 'l', 'l', 'a', 'w', '0', '1', '.', 'P', 'a', 'c', 'k', 'N', 'e', 'x', 't', ' ', 'h', 'a', 'z', 'e', 'l', '/', 'h', 'a', 'z', 'e', 'l', 'l', 'a', 'w', '0', '1', '.', 'P', 'a', 'c', 'k', 'A', 'p', 'a', 'r', 't', ' ', 'h', 'a', 'z', 'e', 'l', '/', 'h', 'a', 'z', 'e', 'l', 'l', 'a', 'w', '0', '1', '.', 'P', 'a', 'c', 'k', 'P', 'a', 'r', 't', 's', ' ', 'h', 'a', 'z', 'e', 'l', '/', 'h', 'a', 'z', 'e', 'l', 'l', 'a', 'w', '0', '1', '.', 'P', 'a', 'c', 'k', 'O', 'n', 'e', ' ', 'h', 'a', 'z', 'e', 'l', '/', 'h', 'a', 'z', 'e', 'l', 'l', 'a', 'w', '0', '1', '.', 'P', 'a', 'c', 'k', 'W', 'r', 'a', 'p', 's', ' ', 'h', 'a', 'z', 'e', 'l', '/', 'h', 'a', 'z', 'e', 'l', 'l', 'a', 'w', '0', '1', '.', 'P', 'a', 'c', 'k', 'O', 'd', 'd', ' ', 'h', 'a', 'z', 'e', 'l', '/', 'h', 'a', 'z', 'e', 'l', 'l', 'a', 'w', '0', '2', '.', 'M', 'e', 'm', 'T', 'e', 'l', 'l', 's', ' ', 'h', 'a', 'z', 'e', 'l', '/', 'h', 'a', 'z', 'e', 'l', 'l', 'a', 'w', '0', '2', '.', 'M', 'e', 'm', 'D', 'o', 'e', 's', ' ', 'h', 'a', 'z', 'e', 'l', '/', 'h', 'a', 'z', 'e', 'l', 'l', 'a', 'w', '0', '2', '.', 'M', 'e', 'm', 'B', 'a', 'c', 'k', ' ', 'h', 'a', 'z', 'e', 'l', '/', 'h', 'a', 'z', 'e', 'l', 'l', 'a', 'w', '0', '2', '.', 'M', 'e', 'm', 'G', 'u', 'a', 'r', 'd', 's', ' ', 'h', 'a', 'z', 'e', 'l', '/', 'h', 'a', 'z', 'e', 'l', 'l', 'a', 'w', '0', '2', '.', 'M', 'e', 'm', 'T', 'w', 'i', 'c', 'e', ' ', 'h', 'a', 'z', 'e', 'l', '/', 'h', 'a', 'z', 'e', 'l', 'l', 'a', 'w', '0', '2', '.', 'M', 'e', 'm', 'P', 'l', 'a', 'c', 'e', 's', ' ', 'h', 'a', 'z', 'e', 'l', '/', 'h', 'a', 'z', 'e', 'l', 'l', 'a', 'w', '0', '2', '.', 'M', 'e', 'm', 'T', 'u', 'r', 'n', 's', ' ', 'h', 'a', 'z', 'e', 'l', '/', 'h', 'a', 'z', 'e', 'l', 'l', 'a', 'w', '0', '2', '.', 'M', 'e', 'm', 'C', 'o', 'u', 'n', 't', 's', ' ', 'h', 'a', 'z', 'e', 'l', '/', 'h', 'a', 'z', 'e', 'l', 'l', 'a', 'w', '0', '3', '.', 'C', 'o', 'r', 'e', 'T', 'e', 'l', 'l', 's', ' ', 'h', 'a', 'z', 'e', 'l', '/', 'h', 'a', 'z', 'e', 'l', 'l', 'a', 'w', '0', '3', '.', 'C', 'o', 'r', 'e', 'D', 'o', 'e', 's', ' ', 'h', 'a', 'z', 'e', 'l', '/', 'h', 'a', 'z', 'e', 'l', 'l', 'a', 'w', '0', '3', '.', 'C', 'o', 'r', 'e', 'L', 'o', 'g', 's', ' ', 'h', 'a', 'z', 'e', 'l', '/', 'h', 'a', 'z', 'e', 'l', 'l', 'a', 'w', '0', '3', '.', 'C', 'o', 'r', 'e', 'N', 'e', 'w', 's', ' ', 'h', 'a', 'z', 'e', 'l', '/', 'h', 'a', 'z', 'e', 'l', 'l', 'a', 'w', '0', '3', '.', 'C', 'o', 'r', 'e', 'S', 'a', 'm', 'e', ' ', 'h', 'a', 'z', 'e', 'l', '/', 'h', 'a', 'z', 'e', 'l', 'l', 'a', 'w', '0', '5', '.', 'H', 'a', 'z', 'T', 'e', 'l', 'l', 's', ' ', 'h', 'a', 'z', 'e', 'l', '/', 'h', 'a', 'z', 'e', 'l', 'l', 'a', 'w', '0', '5', '.', 'H', 'a', 'z', 'C', 'l', 'e', 'a', 'r', 's', ' ', 'h', 'a', 'z', 'e', 'l', '/', 'h', 'a', 'z', 'e', 'l', 'l', 'a', 'w', '0', '5', '.', 'H', 'a', 'z', 'N', 'a', 'm', 'e', 's', ' ', 'h', 'a', 'z', 'e', 'l', '/', 'h', 'a', 'z', 'e', 'l', 'l', 'a', 'w', '0', '5', '.', 'H', 'a', 'z', 'P', 'l', 'a', 'c', 'e', 's', ' ', 'h', 'a', 'z', 'e', 'l', '/', 'h', 'a', 'z', 'e', 'l', 'l', 'a', 'w', '0', '5', '.', 'H', 'a', 'z', 'A', 'p', 'a', 'r', 't', ' ', 'h', 'a', 'z', 'e', 'l', '/', 'h', 'a', 'z', 'e', 'l', 'l', 'a', 'w', '0', '4', '.', 'S', 't', 'a', 'c', 'k', 'T', 'e', 'l', 'l', 's', ' ', 'h', 'a', 'z', 'e', 'l', '/', 'h', 'a', 'z', 'e', 'l', 'l', 'a', 'w', '0', '4', '.', 'S', 't', 'a', 'c', 'k', 'S', 'a', 'f', 'e', ' ', 'h', 'a', 'z', 'e', 'l', '/', 'h', 'a', 'z', 'e', 'l', 'l', 'a', 'w', '0', '4', '.', 'S', 't', 'a', 'c', 'k', 'F', 'u', 'l', 'l', ' ', 'h', 'a', 'z', 'e', 'l', '/', 'h', 'a', 'z', 'e', 'l', 'l', 'a', 'w', '0', '4', '.', 'S', 't', 'a', 'c', 'k', 'F', 'r', 'e', 'e', ' ', 'h', 'a', 'z', 'e', 'l', '/', 'h', 'a', 'z', 'e', 'l', 'l', 'a', 'w', '0', '4', '.', 'S', 't', 'a', 'c', 'k', 'A', 'l', 'o', 'n', 'e', ' ', 'h', 'a', 'z', 'e', 'l', '/', 'h', 'a', 'z', 'e', 'l', 'l', 'a', 'w', '0', '4', '.', 'S', 't', 'a', 'c', 'k', 'F', 'i', 'l', 'l', 's', ' ', 'h', 'a', 'z', 'e', 'l', '/', 'h', 'a', 'z', 'e', 'l', 'l', 'a', 'w', '0', '4', '.', 'S', 't', 'a', 'c', 'k', 'T', 'a', 'g', 's']
def orderWords : List (List Char) := [['a', 't'], ['h', 'a', 'z', 'e', 'l', '/', 'h', 'a', 'z', 'e', 'l', 'l', 'a', 'w', '0', '1', '.', 'P', 'a', 'c', 'k', 'T', 'e', 'l', 'l', 's'], ['h', 'a', 'z', 'e', 'l', '/', 'h', 'a', 'z', 'e', 'l', 'l', 'a', 'w', '0', '1', '.', 'P', 'a', 'c', 'k', 'B', 'a', 'c', 'k'], ['h', 'a', 'z', 'e', 'l', '/', 'h', 'a', 'z', 'e', 'l', 'l', 'a', 'w', '0', '1', '.', 'P', 'a', 'c', 'k', 'N', 'e', 'x', 't'], ['h', 'a', 'z', 'e', 'l', '/', 'h', 'a', 'z', 'e', 'l', 'l', 'a', 'w', '0', '1', '.', 'P', 'a', 'c', 'k', 'A', 'p', 'a', 'r', 't'], ['h', 'a', 'z', 'e', 'l', '/', 'h', 'a', 'z', 'e', 'l', 'l', 'a', 'w', '0', '1', '.', 'P', 'a', 'c', 'k', 'P', 'a', 'r', 't', 's'], ['h', 'a', 'z', 'e', 'l', '/', 'h', 'a', 'z', 'e', 'l', 'l', 'a', 'w', '0', '1', '.', 'P', 'a', 'c', 'k', 'O', 'n', 'e'], ['h', 'a', 'z', 'e', 'l', '/', 'h', 'a', 'z', 'e', 'l', 'l', 'a', 'w', '0', '1', '.', 'P', 'a', 'c', 'k', 'W', 'r', 'a', 'p', 's'], ['h', 'a', 'z', 'e', 'l', '/', 'h', 'a', 'z', 'e', 'l', 'l', 'a', 'w', '0', '1', '.', 'P', 'a', 'c', 'k', 'O', 'd', 'd'], ['h', 'a', 'z', 'e', 'l', '/', 'h', 'a', 'z', 'e', 'l', 'l', 'a', 'w', '0', '2', '.', 'M', 'e', 'm', 'T', 'e', 'l', 'l', 's'], ['h', 'a', 'z', 'e', 'l', '/', 'h', 'a', 'z', 'e', 'l', 'l', 'a', 'w', '0', '2', '.', 'M', 'e', 'm', 'D', 'o', 'e', 's'], ['h', 'a', 'z', 'e', 'l', '/', 'h', 'a', 'z', 'e', 'l', 'l', 'a', 'w', '0', '2', '.', 'M', 'e', 'm', 'B', 'a', 'c', 'k'], ['h', 'a', 'z', 'e', 'l', '/', 'h', 'a', 'z', 'e', 'l', 'l', 'a', 'w', '0', '2', '.', 'M', 'e', 'm', 'G', 'u', 'a', 'r', 'd', 's'], ['h', 'a', 'z', 'e', 'l', '/', 'h', 'a', 'z', 'e', 'l', 'l', 'a', 'w', '0', '2', '.', 'M', 'e', 'm', 'T', 'w', 'i', 'c', 'e'], ['h', 'a', 'z', 'e', 'l', '/', 'h', 'a', 'z', 'e', 'l', 'l', 'a', 'w', '0', '2', '.', 'M', 'e', 'm', 'P', 'l', 'a', 'c', 'e', 's'], ['h', 'a', 'z', 'e', 'l', '/', 'h', 'a', 'z', 'e', 'l', 'l', 'a', 'w', '0', '2', '.', 'M', 'e', 'm', 'T', 'u', 'r', 'n', 's'], ['h', 'a', 'z', 'e', 'l', '/', 'h', 'a', 'z', 'e', 'l', 'l', 'a', 'w', '0', '2', '.', 'M', 'e', 'm', 'C', 'o', 'u', 'n', 't', 's'], ['h', 'a', 'z', 'e', 'l', '/', 'h', 'a', 'z', 'e', 'l', 'l', 'a', 'w', '0', '3', '.', 'C', 'o', 'r', 'e', 'T', 'e', 'l', 'l', 's'], ['h', 'a', 'z', 'e', 'l', '/', 'h', 'a', 'z', 'e', 'l', 'l', 'a', 'w', '0', '3', '.', 'C', 'o', 'r', 'e', 'D', 'o', 'e', 's'], ['h', 'a', 'z', 'e', 'l', '/', 'h', 'a', 'z', 'e', 'l', 'l', 'a', 'w', '0', '3', '.', 'C', 'o', 'r', 'e', 'L', 'o', 'g', 's'], ['h', 'a', 'z', 'e', 'l', '/', 'h', 'a', 'z', 'e', 'l', 'l', 'a', 'w', '0', '3', '.', 'C', 'o', 'r', 'e', 'N', 'e', 'w', 's'], ['h', 'a', 'z', 'e', 'l', '/', 'h', 'a', 'z', 'e', 'l', 'l', 'a', 'w', '0', '3', '.', 'C', 'o', 'r', 'e', 'S', 'a', 'm', 'e'], ['h', 'a', 'z', 'e', 'l', '/', 'h', 'a', 'z', 'e', 'l', 'l', 'a', 'w', '0', '5', '.', 'H', 'a', 'z', 'T', 'e', 'l', 'l', 's'], ['h', 'a', 'z', 'e', 'l', '/', 'h', 'a', 'z', 'e', 'l', 'l', 'a', 'w', '0', '5', '.', 'H', 'a', 'z', 'C', 'l', 'e', 'a', 'r', 's'], ['h', 'a', 'z', 'e', 'l', '/', 'h', 'a', 'z', 'e', 'l', 'l', 'a', 'w', '0', '5', '.', 'H', 'a', 'z', 'N', 'a', 'm', 'e', 's'], ['h', 'a', 'z', 'e', 'l', '/', 'h', 'a', 'z', 'e', 'l', 'l', 'a', 'w', '0', '5', '.', 'H', 'a', 'z', 'P', 'l', 'a', 'c', 'e', 's'], ['h', 'a', 'z', 'e', 'l', '/', 'h', 'a', 'z', 'e', 'l', 'l', 'a', 'w', '0', '5', '.', 'H', 'a', 'z', 'A', 'p', 'a', 'r', 't'], ['h', 'a', 'z', 'e', 'l', '/', 'h', 'a', 'z', 'e', 'l', 'l', 'a', 'w', '0', '4', '.', 'S', 't', 'a', 'c', 'k', 'T', 'e', 'l', 'l', 's'], ['h', 'a', 'z', 'e', 'l', '/', 'h', 'a', 'z', 'e', 'l', 'l', 'a', 'w', '0', '4', '.', 'S', 't', 'a', 'c', 'k', 'S', 'a', 'f', 'e'], ['h', 'a', 'z', 'e', 'l', '/', 'h', 'a', 'z', 'e', 'l', 'l', 'a', 'w', '0', '4', '.', 'S', 't', 'a', 'c', 'k', 'F', 'u', 'l', 'l'], ['h', 'a', 'z', 'e', 'l', '/', 'h', 'a', 'z', 'e', 'l', 'l', 'a', 'w', '0', '4', '.', 'S', 't', 'a', 'c', 'k', 'F', 'r', 'e', 'e'], ['h', 'a', 'z', 'e', 'l', '/', 'h', 'a', 'z', 'e', 'l', 'l', 'a', 'w', '0', '4', '.', 'S', 't', 'a', 'c', 'k', 'A', 'l', 'o', 'n', 'e'], ['h', 'a', 'z', 'e', 'l', '/', 'h', 'a', 'z', 'e', 'l', 'l', 'a', 'w', '0', '4', '.', 'S', 't', 'a', 'c', 'k', 'F', 'i', 'l', 'l', 's'], ['h', 'a', 'z', 'e', 'l', '/', 'h', 'a', 'z', 'e', 'l', 'l', 'a', 'w', '0', '4', '.', 'S', 't', 'a', 'c', 'k', 'T', 'a', 'g', 's']]
set_option maxRecDepth 100000 in
theorem order_ : Try.prog.initOrder.toList = orderSigns := (congrArg String.toList (show Try.prog.initOrder = String.ofList orderSigns by kernel_rfl)).trans String.toList_ofList
theorem words_ : behindMainWord (wordsSigns Try.prog.initOrder.toList) = ['c', 'u', 't'] :: orderWords := by rw [order_]; kernel_rfl
theorem lifts_ : stripLifts liftWords (['c', 'u', 't'] :: orderWords) = ([], ['c', 'u', 't'] :: orderWords) := by kernel_rfl
theorem make_of (P : Program) (R : List (List Char)) (h : behindMainWord (wordsSigns P.initOrder.toList) = ['c', 'u', 't'] :: R) : P.make = some .cut := by
  unfold Program.make; rw [h]; dsimp only; rw [if_neg (by decide), if_pos (by simp)]
theorem heads_of (P : Program) (R : List (List Char)) (h : behindMainWord (wordsSigns P.initOrder.toList) = ['c', 'u', 't'] :: R) (h2 : stripLifts liftWords (['c', 'u', 't'] :: R) = ([], ['c', 'u', 't'] :: R)) : P.headLifts = [] := by
  unfold Program.headLifts; rw [h, h2]; simp
theorem finals_of (P : Program) (R : List (List Char)) (h : behindMainWord (wordsSigns P.initOrder.toList) = ['c', 'u', 't'] :: R) (h2 : stripLifts liftWords (['c', 'u', 't'] :: R) = ([], ['c', 'u', 't'] :: R)) : P.liftsFinal = false := by
  unfold Program.liftsFinal; rw [h, heads_of P R h h2]; simp
theorem enter_of (P : Program) (R : List (List Char)) (h : behindMainWord (wordsSigns P.initOrder.toList) = ['c', 'u', 't'] :: R) (h2 : stripLifts liftWords (['c', 'u', 't'] :: R) = ([], ['c', 'u', 't'] :: R))
    (h3 : P.laysLater = false) (h4 : P.bearsReflect = false) (h5 : P.doorFits [] = true) : P.mayEnter = true := by
  unfold Program.mayEnter; rw [h]; dsimp only; rw [h2, h3, h4, h5]; simp
theorem make_ : Try.prog.make = some .cut := make_of _ _ words_
theorem liftsFinal_ : Try.prog.liftsFinal = false := finals_of _ _ words_ lifts_
theorem laysLater_ : Try.prog.laysLater = false := by kernel_rfl
theorem bearsReflect_ : Try.prog.bearsReflect = false := by kernel_rfl
theorem doorFits_ : Try.prog.doorFits [] = true := by kernel_rfl
theorem mayEnter_ : Try.prog.mayEnter = true := enter_of _ _ words_ lifts_ laysLater_ bearsReflect_ doorFits_
end Go.Proofs.Ytcfbdfgondmkoaa
