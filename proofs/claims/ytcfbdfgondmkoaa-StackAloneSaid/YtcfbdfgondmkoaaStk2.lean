/- The stack's law, plain: a step of a core keeps what stands. -/
import Derived.Test.YtcfbdfgondmkoaaStk1
namespace Go.Proofs.Ytcfbdfgondmkoaa
open Go Go.RowKit
set_option linter.unusedSimpArgs false
set_option linter.unusedVariables false
set_option linter.unnecessarySimpa false
set_option linter.unusedVariables false

theorem get_lt {α : Type} {l : List α} {k : Nat} {x : α} (h : l[k]? = some x) : k < l.length := by
  rcases Nat.lt_or_ge k l.length with h' | h'
  · exact h'
  · rw [List.getElem?_eq_none h'] at h; cases h
theorem set_get {α : Type} {l : List α} {k i : Nat} {x y : α} (hk : k < l.length) (h : (l.set k x)[i]? = some y) : i = k ∧ y = x ∨ i ≠ k ∧ l[i]? = some y := by
  rw [List.getElem?_set] at h
  by_cases hi : k = i
  · subst hi; rw [if_pos rfl, if_pos hk] at h; left; exact ⟨rfl, (by simpa using h.symm)⟩
  · rw [if_neg hi] at h; right; exact ⟨fun e => hi e.symm, h⟩
theorem held_set {p : Int} {own : List (List Int)} {cs : List CoreD} {k : Nat} {cc cc' : CoreD} (h : cs[k]? = some cc) : held p own (cs.set k cc') + pushC p cc = held p own cs + pushC p cc' := by
  have := sum_set (pushC p) cs k cc' cc h
  unfold held; omega
theorem pushC_one {p : Int} {c : CoreD} {f : FrameD} (h : c.F = [f]) : pushC p c = if f.op = 2 ∧ gi f.R 0 = p then 1 else 0 := by unfold pushC; rw [h]
theorem pushC_nil {p : Int} {c : CoreD} (h : c.F = []) : pushC p c = 0 := by unfold pushC; rw [h]

section
variable {c n T : Nat} {s : SysD} {own : List (List Int)} {X L : List Int} {k : Nat} {cc : CoreD} {f : FrameD}
theorem Inv.core (I : Inv c n T s own X L) (hk : s.C[k]? = some cc) {cc' : CoreD} (hok : CoreOk n T s.M.W cc') (hc : ∀ p, pushC p cc' = pushC p cc) (ll : List EvD) : Inv c n T { M := s.M, C := s.C.set k cc', L := ll } own X L where
  n1 := I.n1
  n2 := I.n2
  lc := by simpa using I.lc
  lo := I.lo
  lW := I.lW
  lG := I.lG
  ok := I.ok
  tag := I.tag
  chain := I.chain
  cores := fun i ci hi => by
    rcases set_get (get_lt hk) hi with ⟨_, rfl⟩ | ⟨_, h⟩
    · exact hok
    · exact I.cores i ci h
  all := fun p => by
    have h1 := held_set (p := p) (own := own) (cc' := cc') hk
    have h2 := I.all p
    rw [hc p] at h1
    show L.count p + held p own (s.C.set k cc') + X.count p = _
    rw [← h2]; omega
  free := I.free
theorem Inv.nodup (I : Inv c n T s own X L) (p : Int) : L.count p ≤ 1 := by
  have := I.all p
  split at this <;> omega
/-- the head, if there is one -/
theorem Inv.head (I : Inv c n T s own X L) (h : 1 ≤ idx (gi s.M.W 0)) : ∃ L', L = idx (gi s.M.W 0) :: L' := by
  have := I.chain
  cases L with
  | nil => exact absurd this (by unfold Chain; omega)
  | cons q l => exact ⟨l, by rw [this.1]⟩
theorem Inv.none (I : Inv c n T s own X L) (h : idx (gi s.M.W 0) = 0) : L = [] := by
  have := I.chain
  cases L with
  | nil => rfl
  | cons q l => obtain ⟨h1, h2, _⟩ := this; omega
theorem tag_lo (x : Int) : 0 ≤ tagI x := by unfold tagI; omega

theorem PopOk.grow {T' : Nat} {W W' : List Int} (h : PopOk n T W f) (hT : T ≤ T') (hW : (∀ q, 1 ≤ q → q = idx (gi W 0) → gi W' (lk q) = gi W (lk q)) ∧ gi W' 0 = gi W 0 ∨ tagI (gi W' 0) = T + 1) : PopOk n T' W' f := by
  obtain ⟨h0, h1⟩ := h
  refine ⟨h0, ?_⟩
  rcases h1 with h1 | ⟨h1, h2, h3, h4, h5⟩
  · exact .inl h1
  · refine .inr ⟨h1, by omega, h3, h4, fun hp he => ?_⟩
    rcases hW with ⟨ha, hb⟩ | ha
    · rw [hb] at he
      rw [h5 hp he, ha _ h3 (by rw [he])]
    · rw [he, ha] at h2; omega
theorem PushOk.grow {T' : Nat} {W W' : List Int} (h : PushOk n T W f) (hT : T ≤ T') (hW : gi W' (lk (gi f.R 0)) = gi W (lk (gi f.R 0))) : PushOk n T' W' f := by
  obtain ⟨h0, h1, h2, h3⟩ := h
  refine ⟨h0, h1, h2, ?_⟩
  rcases h3 with h3 | ⟨h3, h4, h5⟩
  · exact .inl h3
  · exact .inr ⟨h3, by omega, fun hp => by rw [hW, h5 hp]⟩

/-- what a step that ends nothing leaves -/
def Goes (s s' : SysD) (k : Nat) (f g : FrameD) : Prop :=
  g.op = f.op ∧ gi s'.M.W 0 = gi s.M.W 0 ∧ s'.L = s.L ∧
  (f.pc = 0 ∧ g.pc = 1 ∧ gi g.R (if f.op = 1 then 0 else 1) = gi s.M.W 0 ∨ f.pc = 1 ∧ g.pc = 2 ∧ gi g.R (if f.op = 1 then 0 else 1) = gi f.R (if f.op = 1 then 0 else 1) ∨ f.pc = 2 ∧ g.pc = 0 ∧ gi f.R (if f.op = 1 then 0 else 1) ≠ gi s.M.W 0)
def Stepped (c n T : Nat) (s s' : SysD) (own : List (List Int)) (L : List Int) (k : Nat) (f : FrameD) (cc' : CoreD) : Prop :=
  (∃ g, cc'.F = [g] ∧ Goes s s' k f g ∧ Inv c n T s' own [] L ∧ (f.op = 1 → f.pc = 0 → L ≠ [])) ∨
  (cc'.F = [] ∧ cc'.E = 0 ∧ f.op = 1 ∧ f.pc = 2 ∧ s'.L = s.L ∧ ∃ L', L = cc'.V :: L' ∧ Inv c n (T + 1) s' own [cc'.V] L') ∨
  (cc'.F = [] ∧ cc'.E = 0 ∧ f.op = 2 ∧ f.pc = 2 ∧ s'.L = s.L ∧ cc'.V = gi f.R 0 ∧ Inv c n (T + 1) s' own [] (gi f.R 0 :: L)) ∨
  (cc'.F = [] ∧ cc'.E = 2 ∧ f.op = 1 ∧ f.pc = 0 ∧ L = [] ∧ s'.L.length = s.L.length + 1 ∧ s'.M = s.M ∧ Inv c n T s' own [] [])

theorem gi_set8 {l : List Int} {i j : Nat} {v : Int} (hl : l.length = 8) (hi : i < 8) : gi (l.set i v) j = if i = j then v else gi l j := by
  by_cases h : i = j
  · subst h; rw [if_pos rfl]; exact gi_set_eq v (by omega)
  · rw [if_neg h]; exact gi_set_ne v h
theorem count_cons_self' (p : Int) (l : List Int) : (p :: l).count p = l.count p + 1 := by simp
theorem count_cons_if (p q : Int) (l : List Int) : (p :: l).count q = l.count q + if p = q then 1 else 0 := by
  by_cases h : p = q
  · subst h; simp
  · rw [if_neg h, List.count_cons_of_ne h]; rfl

theorem step_pop (I : Inv c n T s own [] L) (hk : s.C[k]? = some cc) (hf : cc.F = [f]) (hT : T < 1000000) (h8 : f.R.length = 8) (hp : PopOk n T s.M.W f) :
    ∃ cc', (popS s k f).C = s.C.set k cc' ∧ Stepped c n T s (popS s k f) own L k f cc' := by
  have hW := I.lW
  have hb := I.ok
  have n1 := I.n1
  have n2 := I.n2
  have hkl := get_lt hk
  obtain ⟨hop, hp⟩ := hp
  have c0 : Cell n 0 := .inl rfl
  have hpush : ∀ p, pushC p cc = 0 := fun p => by rw [pushC_one hf, if_neg (by omega)]
  have hnone : ∀ p (g : FrameD), g.op = 1 → ∀ cx : CoreD, cx.F = [g] → pushC p cx = 0 := fun p g hg cx hx => by rw [pushC_one hx, if_neg (by omega)]
  unfold popS
  rcases hp with h0 | ⟨h12, ht, hi1, hi2, hnext⟩
  · rw [if_pos h0, load_clean c0 hW hb, touch_clean c0 hW hb]
    rw [show (0 : Int).toNat = 0 from rfl]
    by_cases hz : idx (gi s.M.W 0) = 0
    · rw [if_pos hz]
      have hL := I.none hz
      have hh : hasD s (k : Int) = true := by simp [hasD]; omega
      have hlog : logD (memS s s.M) k 9 0 0 0 = { s with L := s.L ++ [⟨(k : Int), 9, 0, 0, 0⟩] } := by
        unfold logD
        rw [show hasD (memS s s.M) (k : Int) = true from hh]
        rfl
      rw [hlog, back_at (s := { s with L := s.L ++ [⟨(k : Int), 9, 0, 0, 0⟩] }) hk hf]
      refine ⟨_, rfl, .inr (.inr (.inr ⟨rfl, rfl, hop, h0, hL, by simp, rfl, ?_⟩))⟩
      subst hL
      exact I.core hk (.inl rfl) (fun p => by rw [pushC_nil rfl, hpush]) _
    · rw [if_neg hz, on_at hk hf]
      refine ⟨_, rfl, .inl ⟨_, rfl, ⟨rfl, rfl, rfl, .inl ⟨h0, rfl, ?_⟩⟩, ?_, fun _ _ e => ?_⟩⟩
      · rw [if_pos hop]; show gi (f.R.set 0 _) 0 = _; rw [gi_set8 h8 (by decide)]; rfl
      · refine I.core hk (.inr ⟨_, rfl, ?_, .inl ⟨by exact hop, .inr ?_⟩⟩) (fun p => ?_) _
        · simpa [pcF, regF] using h8
        · refine ⟨.inl ?_, ?_, ?_, ?_, ?_⟩
          · rfl
          · show tagI (gi (f.R.set 0 _) 0) ≤ _; rw [gi_set8 h8 (by decide), if_pos rfl, I.tag]; omega
          · show 1 ≤ idx (gi (f.R.set 0 _) 0); rw [gi_set8 h8 (by decide), if_pos rfl]; have := idx_lo (gi s.M.W 0); omega
          · show idx (gi (f.R.set 0 _) 0) ≤ _
            rw [gi_set8 h8 (by decide), if_pos rfl]
            obtain ⟨L', hL'⟩ := I.head (by have := idx_lo (gi s.M.W 0); omega)
            exact (I.chain.mem (q := idx (gi s.M.W 0)) (by rw [hL']; simp)).2
          · intro h; exact absurd (show (1 : Int) = 2 from h) (by decide)
        · rw [hnone p _ (by exact hop) _ rfl, hpush]
      · have := I.chain
        rw [e] at this
        exact hz this
  · have hlk : linkAt (idx (gi f.R 0)) = 128 + 4 * (idx (gi f.R 0) - 1) := link_lk hi1 (by omega)
    have c1 : Cell n (linkAt (idx (gi f.R 0))) := by rw [hlk]; exact Cell.link hi1 hi2
    rcases h12 with h1 | h2
    · rw [if_neg (by omega), if_pos h1, load_clean c1 hW hb, touch_clean c1 hW hb, on_at hk hf]
      have hn : (linkAt (idx (gi f.R 0))).toNat = lk (idx (gi f.R 0)) := by rw [hlk]; rfl
      rw [hn]
      refine ⟨_, rfl, .inl ⟨_, rfl, ⟨rfl, rfl, rfl, .inr (.inl ⟨h1, rfl, ?_⟩)⟩, ?_, fun _ e => by omega⟩⟩
      · rw [if_pos hop]; show gi (f.R.set 1 _) 0 = _; rw [gi_set8 h8 (by decide)]; rfl
      · refine I.core hk (.inr ⟨_, rfl, ?_, .inl ⟨by exact hop, .inr ?_⟩⟩) (fun p => ?_) _
        · simpa [pcF, regF] using h8
        · refine ⟨.inr ?_, ?_, ?_, ?_, fun _ _ => ?_⟩
          · rfl
          · show tagI (gi (f.R.set 1 _) 0) ≤ _; rw [gi_set8 h8 (by decide)]; exact ht
          · show 1 ≤ idx (gi (f.R.set 1 _) 0); rw [gi_set8 h8 (by decide)]; exact hi1
          · show idx (gi (f.R.set 1 _) 0) ≤ _; rw [gi_set8 h8 (by decide)]; exact hi2
          · show gi (f.R.set 1 _) 1 = gi s.M.W (lk (idx (gi (f.R.set 1 _) 0)))
            rw [gi_set8 h8 (by decide), gi_set8 h8 (by decide)]; rfl
        · rw [hnone p _ (by exact hop) _ rfl, hpush]
    · rw [if_neg (by omega), if_neg (by omega), if_pos h2, casIs_0 hW hb]
      by_cases heq : gi s.M.W 0 = gi f.R 0
      · have hbeq : (gi s.M.W 0 == gi f.R 0) = true := by rw [heq]; exact BEq.rfl
        rw [if_pos hbeq, casD_yes hW hb heq]
        have hh : idx (gi s.M.W 0) = idx (gi f.R 0) := by rw [heq]
        obtain ⟨L', hL'⟩ := I.head (by rw [hh]; exact hi1)
        rw [hh] at hL'
        have hch := I.chain
        rw [hL'] at hch
        obtain ⟨_, _, _, hch⟩ := hch
        have hnx := hnext h2 heq.symm
        have hm : gi s.M.G (idx (gi f.R 0)).toNat = 0 := by rw [I.free _ hi1 hi2, if_pos (by rw [hL']; simp)]
        have hturn : turnMD { s.M with W := s.M.W.set 0 (nextW (gi f.R 0) (gi f.R 1) 0) } (idx (gi f.R 0)) 1 = { W := s.M.W.set 0 (nextW (gi f.R 0) (gi f.R 1) 0), G := s.M.G.set (idx (gi f.R 0)).toNat 1, bad := s.M.bad } := by
          have : turnIs { s.M with W := s.M.W.set 0 (nextW (gi f.R 0) (gi f.R 1) 0) } (idx (gi f.R 0)) 1 = true := by
            unfold turnIs
            show (decide (1 ≤ idx (gi f.R 0) ∧ idx (gi f.R 0) < s.M.G.length) && turnD (gi s.M.G (idx (gi f.R 0)).toNat) 1) = true
            rw [hm, I.lG]
            simp [turnD, pairEq]; omega
          unfold turnMD
          rw [if_pos this]
        rw [hturn, backm_at hk hf]
        have hnlo : 0 ≤ gi f.R 1 ∧ gi f.R 1 < 1048576 := by
          rw [hnx]
          cases L' with
          | nil => have : gi s.M.W (lk (idx (gi f.R 0))) = 0 := hch; omega
          | cons q l => obtain ⟨e, q1, q2, _⟩ := hch; omega
        have htl := tag_lo (gi f.R 0)
        have hW0 : gi (s.M.W.set 0 (nextW (gi f.R 0) (gi f.R 1) 0)) 0 = nextW (gi f.R 0) (gi f.R 1) 0 := gi_set_eq _ (by omega)
        have htag : tagI (nextW (gi f.R 0) (gi f.R 1) 0) = T + 1 := by
          show tagI (word (tagI (gi f.R 0) + 1) _ 0) = _
          have e : tagI (gi f.R 0) = T := by rw [← heq, I.tag]
          rw [word_tagI _ _ (by omega) (by omega)]; omega
        have hidx : idx (nextW (gi f.R 0) (gi f.R 1) 0) = gi f.R 1 := word_idx _ _ hnlo.1 hnlo.2
        have hlks : ∀ q, 1 ≤ q → gi (s.M.W.set 0 (nextW (gi f.R 0) (gi f.R 1) 0)) (lk q) = gi s.M.W (lk q) := fun q hq => gi_set_ne _ (Ne.symm (lk_pos q hq))
        refine ⟨_, rfl, .inr (.inl ⟨rfl, rfl, hop, h2, rfl, L', hL', ?_⟩)⟩
        exact {
          n1 := n1, n2 := n2, lc := by simpa [memS] using I.lc, lo := I.lo
          lW := by simpa [memS] using hW
          lG := by simpa [memS] using I.lG
          ok := hb
          tag := by show tagI (gi (s.M.W.set 0 _) 0) = _; rw [hW0, htag]; rfl
          chain := by
            show Chain n (s.M.W.set 0 _) (idx (gi (s.M.W.set 0 _) 0)) L'
            rw [hW0, hidx]
            have e := hch.keep fun q hq => hlks q (hch.mem hq).1
            rw [← hnx] at e
            exact e
          cores := fun i ci hi => by
            rcases set_get hkl hi with ⟨_, rfl⟩ | ⟨_, h⟩
            · exact .inl rfl
            · rcases I.cores i ci h with h | ⟨g, hg, g8, hg'⟩
              · exact .inl h
              · refine .inr ⟨g, hg, g8, hg'.elim (fun h => .inl (h.grow (Nat.le_succ _) (.inr (by show tagI (gi (s.M.W.set 0 _) 0) = _; rw [hW0, htag])))) (fun h => .inr (h.grow (Nat.le_succ _) (hlks _ h.2.1)))⟩
          all := fun p => by
            have h1 := held_set (p := p) (own := own) (cc' := { cc with F := [], V := idx (gi f.R 0), E := 0 }) hk
            rw [hpush, pushC_nil rfl] at h1
            have h2 := I.all p
            rw [hL', count_cons_if] at h2
            show L'.count p + held p own (s.C.set k _) + List.count p [idx (gi f.R 0)] = _
            rw [count_cons_if, ← h2]
            simp at h1 ⊢
            omega
          free := fun p hp1 hp2 => by
            show gi (s.M.G.set (idx (gi f.R 0)).toNat 1) p.toNat = _
            have hn := I.nodup (idx (gi f.R 0))
            rw [hL', count_cons_if, if_pos rfl] at hn
            by_cases he : idx (gi f.R 0) = p
            · rw [he, gi_set_eq _ (by rw [I.lG]; omega), if_neg]
              rw [← he]
              exact List.count_eq_zero.1 (by omega)
            · rw [gi_set_ne _ (by omega), I.free p hp1 hp2, hL']
              simp [Ne.symm he] }
      · have hbeq : (gi s.M.W 0 == gi f.R 0) = false := by simpa using heq
        rw [if_neg (by rw [hbeq]; decide), casD_no hW hb heq, on_at hk hf]
        refine ⟨_, rfl, .inl ⟨_, rfl, ⟨rfl, rfl, rfl, .inr (.inr ⟨h2, rfl, by rw [if_pos hop]; exact Ne.symm heq⟩)⟩, ?_, fun _ e => by omega⟩⟩
        refine I.core hk (.inr ⟨_, rfl, by exact h8, .inl ⟨by exact hop, .inl ?_⟩⟩) (fun p => ?_) _
        · rfl
        · rw [hnone p _ (by exact hop) _ rfl, hpush]
theorem step_push (I : Inv c n T s own [] L) (hk : s.C[k]? = some cc) (hf : cc.F = [f]) (hT : T < 1000000) (h8 : f.R.length = 8) (hp : PushOk n T s.M.W f) :
    ∃ cc', (pushS s k f).C = s.C.set k cc' ∧ Stepped c n T s (pushS s k f) own L k f cc' := by
  have hW := I.lW
  have hb := I.ok
  have n1 := I.n1
  have n2 := I.n2
  have hkl := get_lt hk
  obtain ⟨hop, hp1, hp2, hp⟩ := hp
  have c0 : Cell n 0 := .inl rfl
  have hpush : ∀ p, pushC p cc = if gi f.R 0 = p then 1 else 0 := fun p => by rw [pushC_one hf]; simp [hop]
  have hsome : ∀ p (g : FrameD), g.op = 2 → ∀ cx : CoreD, cx.F = [g] → pushC p cx = if gi g.R 0 = p then 1 else 0 := fun p g hg cx hx => by rw [pushC_one hx]; simp [hg]
  have hop1 : ¬ f.op = 1 := by omega
  have hheld : 1 ≤ held (gi f.R 0) own s.C := by
    have := sum_at (pushC (gi f.R 0)) s.C k cc hk
    rw [hpush, if_pos rfl] at this
    unfold held; omega
  have hnotin : gi f.R 0 ∉ L := by
    have := I.all (gi f.R 0)
    rw [if_pos ⟨hp1, hp2⟩] at this
    exact List.count_eq_zero.1 (by omega)
  unfold pushS
  rcases hp with h0 | ⟨h12, ht, hnext⟩
  · rw [if_pos h0, load_clean c0 hW hb, touch_clean c0 hW hb]
    rw [show (0 : Int).toNat = 0 from rfl]
    rw [on_at hk hf]
    refine ⟨_, rfl, .inl ⟨_, rfl, ⟨rfl, rfl, rfl, .inl ⟨h0, rfl, ?_⟩⟩, ?_, fun e _ => by omega⟩⟩
    · rw [if_neg hop1]; show gi (f.R.set 1 _) 1 = _; rw [gi_set8 h8 (by decide)]; rfl
    · refine I.core hk (.inr ⟨_, rfl, ?_, .inr ⟨by exact hop, ?_, ?_, .inr ⟨.inl ?_, ?_, ?_⟩⟩⟩) (fun p => ?_) _
      · simpa [pcF, regF] using h8
      · show 1 ≤ gi (f.R.set 1 _) 0; rw [gi_set8 h8 (by decide)]; exact hp1
      · show gi (f.R.set 1 _) 0 ≤ _; rw [gi_set8 h8 (by decide)]; exact hp2
      · rfl
      · show tagI (gi (f.R.set 1 _) 1) ≤ _; rw [gi_set8 h8 (by decide), if_pos rfl, I.tag]; omega
      · intro h; exact absurd (show (1 : Int) = 2 from h) (by decide)
      · rw [hsome p _ (by exact hop) _ rfl, hpush]
        show (if gi (f.R.set 1 _) 0 = p then 1 else 0) = _
        rw [gi_set8 h8 (by decide)]; rfl
  · have hlk : linkAt (gi f.R 0) = 128 + 4 * (gi f.R 0 - 1) := link_lk hp1 (by omega)
    have c1 : Cell n (linkAt (gi f.R 0)) := by rw [hlk]; exact Cell.link hp1 hp2
    rcases h12 with h1 | h2
    · rw [if_neg (by omega), if_pos h1, store_clean c1 hW hb]
      have hn : (linkAt (gi f.R 0)).toNat = lk (gi f.R 0) := by rw [hlk]; rfl
      rw [hn, on_at hk hf]
      have hW0 : gi (s.M.W.set (lk (gi f.R 0)) (idx (gi f.R 1))) 0 = gi s.M.W 0 := gi_set_ne _ (lk_pos _ hp1)
      have hlt : lk (gi f.R 0) < s.M.W.length := by unfold lk; omega
      refine ⟨_, rfl, .inl ⟨_, rfl, ⟨rfl, hW0, rfl, .inr (.inl ⟨h1, rfl, ?_⟩)⟩, ?_, fun e _ => by omega⟩⟩
      · rw [if_neg hop1]; rfl
      · exact {
          n1 := n1, n2 := n2, lc := by simpa using I.lc, lo := I.lo
          lW := by simpa using hW
          lG := I.lG
          ok := hb
          tag := by show tagI (gi (s.M.W.set _ _) 0) = _; rw [hW0, I.tag]
          chain := by
            show Chain n (s.M.W.set _ _) (idx (gi (s.M.W.set _ _) 0)) L
            rw [hW0]
            exact I.chain.keep fun q hq => gi_set_ne _ fun e => hnotin (by rw [lk_inj hp1 (I.chain.mem hq).1 e]; exact hq)
          cores := fun i ci hi => by
            rcases set_get hkl hi with ⟨_, rfl⟩ | ⟨hne, h⟩
            · refine .inr ⟨_, rfl, by exact h8, .inr ⟨by exact hop, by exact hp1, by exact hp2, .inr ⟨.inr rfl, by exact ht, fun _ => ?_⟩⟩⟩
              exact gi_set_eq _ hlt
            · rcases I.cores i ci h with h | ⟨g, hg, g8, hg'⟩
              · exact .inl h
              · refine .inr ⟨g, hg, g8, hg'.elim (fun h => .inl (h.grow (Nat.le_refl _) (.inl ⟨fun q hq e => ?_, hW0⟩))) (fun h' => .inr (h'.grow (Nat.le_refl _) ?_))⟩
                · refine gi_set_ne _ fun e' => hnotin ?_
                  rw [lk_inj hp1 hq e', e]
                  obtain ⟨L', hL'⟩ := I.head (by omega)
                  rw [hL']; simp
                · refine gi_set_ne _ fun e' => ?_
                  have e2 := lk_inj hp1 h'.2.1 e'
                  have := sum_two (pushC (gi f.R 0)) s.C i k ci cc hne h hk
                  rw [pushC_one hg, hpush, if_pos rfl, if_pos ⟨h'.1, e2.symm⟩] at this
                  have h3 := I.all (gi f.R 0)
                  rw [if_pos ⟨hp1, hp2⟩] at h3
                  unfold held at h3; omega
          all := fun p => by
            have h1 := held_set (p := p) (own := own) (cc' := { cc with F := [pcF f 2] }) hk
            rw [hpush, hsome p (pcF f 2) hop _ rfl] at h1
            have h2 := I.all p
            show L.count p + held p own (s.C.set k _) + List.count p [] = _
            rw [← h2]
            have e : (if gi (pcF f 2).R 0 = p then 1 else 0) = if gi f.R 0 = p then 1 else 0 := rfl
            rw [e] at h1
            omega
          free := I.free }
    · rw [if_neg (by omega), if_neg (by omega), if_pos h2, casIs_0 hW hb]
      by_cases heq : gi s.M.W 0 = gi f.R 1
      · have hbeq : (gi s.M.W 0 == gi f.R 1) = true := by rw [heq]; exact BEq.rfl
        rw [if_pos hbeq, casD_yes hW hb heq]
        have hnx := hnext h2
        have hm : gi s.M.G (gi f.R 0).toNat = 1 := by rw [I.free _ hp1 hp2, if_neg hnotin]
        have hturn : turnMD { s.M with W := s.M.W.set 0 (nextW (gi f.R 1) (gi f.R 0) 0) } (gi f.R 0) 0 = { W := s.M.W.set 0 (nextW (gi f.R 1) (gi f.R 0) 0), G := s.M.G.set (gi f.R 0).toNat 0, bad := s.M.bad } := by
          have : turnIs { s.M with W := s.M.W.set 0 (nextW (gi f.R 1) (gi f.R 0) 0) } (gi f.R 0) 0 = true := by
            unfold turnIs
            show (decide (1 ≤ gi f.R 0 ∧ gi f.R 0 < s.M.G.length) && turnD (gi s.M.G (gi f.R 0).toNat) 0) = true
            rw [hm, I.lG]
            simp [turnD, pairEq]; omega
          unfold turnMD
          rw [if_pos this]
        rw [hturn, backm_at hk hf]
        have htl := tag_lo (gi f.R 1)
        have hW0 : gi (s.M.W.set 0 (nextW (gi f.R 1) (gi f.R 0) 0)) 0 = nextW (gi f.R 1) (gi f.R 0) 0 := gi_set_eq _ (by omega)
        have htag : tagI (nextW (gi f.R 1) (gi f.R 0) 0) = T + 1 := by
          show tagI (word (tagI (gi f.R 1) + 1) _ 0) = _
          have e : tagI (gi f.R 1) = T := by rw [← heq, I.tag]
          rw [word_tagI _ _ (by omega) (by omega)]; omega
        have hidx : idx (nextW (gi f.R 1) (gi f.R 0) 0) = gi f.R 0 := word_idx _ _ (by omega) (by omega)
        have hlks : ∀ q, 1 ≤ q → gi (s.M.W.set 0 (nextW (gi f.R 1) (gi f.R 0) 0)) (lk q) = gi s.M.W (lk q) := fun q hq => gi_set_ne _ (Ne.symm (lk_pos q hq))
        refine ⟨_, rfl, .inr (.inr (.inl ⟨rfl, rfl, hop, h2, rfl, rfl, ?_⟩))⟩
        exact {
          n1 := n1, n2 := n2, lc := by simpa [memS] using I.lc, lo := I.lo
          lW := by simpa [memS] using hW
          lG := by simpa [memS] using I.lG
          ok := hb
          tag := by show tagI (gi (s.M.W.set 0 _) 0) = _; rw [hW0, htag]; rfl
          chain := by
            show Chain n (s.M.W.set 0 _) (idx (gi (s.M.W.set 0 _) 0)) (gi f.R 0 :: L)
            rw [hW0, hidx]
            refine ⟨rfl, hp1, hp2, ?_⟩
            rw [hlks _ hp1, hnx]
            have e := I.chain.keep fun q hq => hlks q (I.chain.mem hq).1
            rw [heq] at e
            exact e
          cores := fun i ci hi => by
            rcases set_get hkl hi with ⟨_, rfl⟩ | ⟨_, h⟩
            · exact .inl rfl
            · rcases I.cores i ci h with h | ⟨g, hg, g8, hg'⟩
              · exact .inl h
              · refine .inr ⟨g, hg, g8, hg'.elim (fun h => .inl (h.grow (Nat.le_succ _) (.inr (by show tagI (gi (s.M.W.set 0 _) 0) = _; rw [hW0, htag])))) (fun h => .inr (h.grow (Nat.le_succ _) (hlks _ h.2.1)))⟩
          all := fun p => by
            have h1 := held_set (p := p) (own := own) (cc' := { cc with F := [], V := gi f.R 0, E := 0 }) hk
            rw [hpush, pushC_nil rfl] at h1
            have h2 := I.all p
            show List.count p (gi f.R 0 :: L) + held p own (s.C.set k _) + List.count p [] = _
            rw [count_cons_if, ← h2]
            simp at h1 ⊢
            omega
          free := fun p h1 h2 => by
            show gi (s.M.G.set (gi f.R 0).toNat 0) p.toNat = _
            by_cases he : gi f.R 0 = p
            · rw [he, gi_set_eq _ (by rw [I.lG]; omega), if_pos (by simp)]
            · rw [gi_set_ne _ (by omega), I.free p h1 h2]
              simp [Ne.symm he] }
      · have hbeq : (gi s.M.W 0 == gi f.R 1) = false := by simpa using heq
        rw [if_neg (by rw [hbeq]; decide), casD_no hW hb heq, on_at hk hf]
        refine ⟨_, rfl, .inl ⟨_, rfl, ⟨rfl, rfl, rfl, .inr (.inr ⟨h2, rfl, by rw [if_neg hop1]; exact Ne.symm heq⟩)⟩, ?_, fun e _ => by omega⟩⟩
        refine I.core hk (.inr ⟨_, rfl, by exact h8, .inr ⟨by exact hop, by exact hp1, by exact hp2, .inl ?_⟩⟩) (fun p => ?_) _
        · rfl
        · rw [hsome p _ (by exact hop) _ rfl, hpush]; rfl
theorem step_inv (I : Inv c n T s own [] L) (hk : s.C[k]? = some cc) (hf : cc.F = [f]) (hT : T < 1000000) :
    ∃ cc', (step4 s k).C = s.C.set k cc' ∧ Stepped c n T s (step4 s k) own L k f cc' := by
  have ht : topD s k = some f := by rw [top_at hk, hf]; rfl
  rcases I.cores k cc hk with h | ⟨g, hg, h8, hok⟩
  · rw [hf] at h; cases h
  · obtain rfl : f = g := by rw [hf] at hg; simpa using hg
    unfold step4
    rw [ht]
    rcases hok with h | h
    · have := step_pop I hk hf hT h8 h
      simpa [h.1] using this
    · have := step_push I hk hf hT h8 h
      simpa [h.1] using this
end
end Go.Proofs.Ytcfbdfgondmkoaa
