/- Texts of this work, put together: Stk7, PlA, StB, StF, StN. -/
import Derived.Test.YtcfbdfgondmkoaaM5
/- The stack's law, plain: what a step asks of its state, along a play. -/
namespace Go.Proofs.Ytcfbdfgondmkoaa
open Go Go.RowKit
set_option linter.unusedSimpArgs false
set_option linter.unusedVariables false
set_option linter.unnecessarySimpa false

def Wk (c n k : Nat) (s : SysD) : Prop := (∃ T own L, T ≤ k ∧ Inv c n T s own [] L) ∧ s.L.length ≤ k
theorem Wk.ok {c n k : Nat} {s : SysD} (h : Wk c n k s) (hc : c ≤ 100) (hk : k ≤ 100000) : s.C.length ≤ 100000 ∧ (∀ (i : Nat) c, s.C[i]? = some c → c.F.length ≤ 100000) ∧ Fits s.M ∧ s.L.length ≤ 100000 := by
  obtain ⟨⟨T, own, L, hT, I⟩, hL⟩ := h
  refine ⟨by rw [I.lc]; omega, fun i cc hi => ?_, ?_, by omega⟩
  · rcases I.cores i cc hi with h | ⟨f, h, _⟩ <;> rw [h] <;> simp
  · have h1 := I.lW; have h2 := I.lG; have h3 := I.n2
    exact ⟨by rw [h1, h2]; omega, by omega, by omega⟩
theorem Wk.mono {c n k l : Nat} {s : SysD} (h : Wk c n k s) (hl : k ≤ l) : Wk c n l s := by
  obtain ⟨⟨T, own, L, hT, I⟩, hL⟩ := h
  exact ⟨⟨T, own, L, by omega, I⟩, by omega⟩
theorem Wk.step {c n k i : Nat} {s : SysD} (h : Wk c n k s) (hk : k < 1000000) (hi : i < c) : Wk c n (k + 1) (step4 s (i : Nat)) := by
  obtain ⟨⟨T, own, L, hT, I⟩, hL⟩ := h
  obtain ⟨cc, hcc⟩ := getSome' (show i < s.C.length by rw [I.lc]; exact hi)
  rcases I.top hcc with ⟨h1, _⟩ | ⟨f, h1, hf, _⟩
  · rw [show step4 s (i : Nat) = s from step4_idle h1]
    exact ⟨⟨T, own, L, by omega, I⟩, by omega⟩
  obtain ⟨cc', hC, hst⟩ := step_inv I hcc hf (by omega)
  obtain ⟨o, ho⟩ := getSome' (show i < own.length by rw [I.lo]; exact hi)
  rcases hst with ⟨g, hg, ⟨g1, g2, g3, g4⟩, I2, _⟩ | ⟨h1, h2, h3, h4, h5, L', h6, I2⟩ | ⟨h1, h2, h3, h4, h5, h6, I2⟩ | ⟨h1, h2, h3, h4, h5, h6, h7, I2⟩
  · exact ⟨⟨T, own, L, by omega, I2⟩, by rw [g3]; omega⟩
  · refine ⟨⟨T + 1, own.set i (o ++ [cc'.V]), L', by omega, inv_own I2 (by simp) fun p => ?_⟩, by rw [h5]; omega⟩
    have := sum_own_set ho (o ++ [cc'.V]) p
    rw [List.count_append] at this
    simp at this ⊢
    omega
  · exact ⟨⟨T + 1, own, _, by omega, I2⟩, by rw [h5]; omega⟩
  · exact ⟨⟨T, own, _, by omega, I2⟩, by rw [h6]; omega⟩
def st4 : Nat → SysD → SysD
  | 0, s => s
  | j + 1, s => step4 (st4 j s) 0
theorem st4_wk {n k : Nat} {s : SysD} (h : Wk 1 n k s) (hk : k ≤ 1000) : ∀ j, j ≤ 100 → Wk 1 n (k + j) (st4 j s)
  | 0, _ => h
  | j + 1, hj => (st4_wk h hk j (by omega)).step (i := 0) (by omega) (by omega)
theorem pop_wk {n k : Nat} (hn : 1 ≤ n) (hn' : n ≤ 200) (hk : k ≤ n) : Wk 1 n n (callS (pops k (new4 1 n)) 0 1 [0, 0, 0]) := by
  obtain ⟨I, h1, cc, h2, h3, _⟩ := pops_inv hn hn' k hk
  obtain ⟨I0, c0, h0, hf0, hM0, hL0⟩ := call_inv I ⟨cc, h2, h3⟩ (op := 1) (l := [0, 0, 0]) (own' := [upl k 1]) rfl (.inr ⟨_, rfl, rfl, .inl ⟨rfl, .inl rfl⟩⟩) (fun p => by simp [pushC, newF])
  exact ⟨⟨_, _, _, hk, I0⟩, by rw [hL0, h1]; simp⟩
theorem push_wk {n k : Nat} (hn : 1 ≤ n) (hn' : n ≤ 200) (hk : k < n) : Wk 1 n (n + n) (callS (pushes k (pops (n + 1) (new4 1 n))) 0 2 [((k + 1 : Nat) : Int), 0, 0]) := by
  obtain ⟨I, h1, h2⟩ := pushes_inv hn hn' k (by omega)
  rw [show n - k = n - (k + 1) + 1 by omega, upl_shift] at I
  obtain ⟨I0, c0, h0, hf0, hM0, hL0⟩ := call_inv I h2 (op := 2) (l := [((k + 1 : Nat) : Int), 0, 0]) (own' := [upl (n - (k + 1)) (k + 1 + 1)]) rfl (.inr ⟨_, rfl, rfl, .inr ⟨rfl, (show (1 : Int) ≤ ((k + 1 : Nat) : Int) by omega), (show ((k + 1 : Nat) : Int) ≤ n by omega), .inl rfl⟩⟩) (fun p => by
    rw [pushC_one rfl]
    have : (if (newF 2 [((k + 1 : Nat) : Int), 0, 0]).op = 2 ∧ gi (newF 2 [((k + 1 : Nat) : Int), 0, 0]).R 0 = p then 1 else 0) = if ((k + 1 : Nat) : Int) = p then 1 else 0 := by rw [newF_reg]; simp [newF]
    rw [this]
    simp [count_cons_if])
  exact ⟨⟨_, _, _, by omega, I0⟩, by rw [hL0, h1]; omega⟩
/-- what is read of a state -/
def Sh1 (n l : Nat) (s : SysD) : Prop := s.M.W.length = 128 + 4 * n ∧ s.M.G.length = n + 1 ∧ s.M.bad = false ∧ s.C.length = 1 ∧ s.L.length = l
theorem pops_sh {n k : Nat} (hn : 1 ≤ n) (hn' : n ≤ 200) (hk : k ≤ n) : Sh1 n 0 (pops k (new4 1 n)) ∧ ∃ cc, (pops k (new4 1 n)).C[0]? = some cc ∧ cc.F = [] ∧ (0 < k → cc.V = (k : Int) ∧ cc.E = 0) := by
  obtain ⟨I, h1, h2⟩ := pops_inv hn hn' k hk
  exact ⟨⟨I.lW, I.lG, I.ok, I.lc, by rw [h1]; rfl⟩, h2⟩
theorem pushes_sh {n k : Nat} (hn : 1 ≤ n) (hn' : n ≤ 200) (hk : k ≤ n) : Sh1 n 1 (pushes k (pops (n + 1) (new4 1 n))) := by
  obtain ⟨I, h1, h2⟩ := pushes_inv hn hn' k hk
  exact ⟨I.lW, I.lG, I.ok, I.lc, h1⟩
theorem pushes_end {n : Nat} (hn : 1 ≤ n) (hn' : n ≤ 200) : walkD (pushes n (pops (n + 1) (new4 1 n))).M = (dnl n, true) ∧ tagI (gi (pushes n (pops (n + 1) (new4 1 n))).M.W 0) = ((n + n : Nat) : Int) := by
  obtain ⟨I, h1, h2⟩ := pushes_inv hn hn' n (Nat.le_refl _)
  exact ⟨I.walk, I.tag⟩
end Go.Proofs.Ytcfbdfgondmkoaa
/- The play of chapter 4's law, plain: what a round asks of its state. -/
namespace Go.Proofs.Ytcfbdfgondmkoaa
open Go Go.RowKit
set_option linter.unusedSimpArgs false
set_option linter.unusedVariables false
set_option linter.unnecessarySimpa false

def PlayOk (c n k : Nat) (st : SysD × List (List Int)) : Prop := PlayInv c n k st ∧ ∀ l ∈ st.2, l.length ≤ k
def play0 (c n : Nat) : SysD × List (List Int) := (new4 c n, List.replicate c [])
theorem gl_mem {own : List (List Int)} {i k : Nat} (h : ∀ l ∈ own, l.length ≤ k) : (gl own i).length ≤ k := by
  unfold gl
  rw [List.getD_eq_getElem?_getD]
  cases ho : own[i]? with
  | none => simp
  | some o => exact h o (List.mem_of_getElem? ho)
theorem set_len {own : List (List Int)} {i k : Nat} {x : List Int} (h : ∀ l ∈ own, l.length ≤ k) (hx : x.length ≤ k) : ∀ l ∈ own.set i x, l.length ≤ k := by
  intro l hl
  rcases List.mem_or_eq_of_mem_set hl with h1 | rfl
  · exact h l h1
  · exact hx
theorem begin4_len {s : SysD} {own : List (List Int)} {i k : Nat} {pk : Int} (h : ∀ l ∈ own, l.length ≤ k) : ∀ l ∈ (begin4 s own i pk).2, l.length ≤ k := by
  unfold begin4
  split
  · exact h
  · split
    · refine set_len h ?_
      have := gl_mem (i := i) h
      simp
      omega
    · exact h
theorem endOwn_len {s : SysD} {f : FrameD} {own : List (List Int)} {i k : Nat} (h : ∀ l ∈ own, l.length ≤ k) : ∀ l ∈ endOwn s f i own, l.length ≤ k + 1 := by
  have h' : ∀ l ∈ own, l.length ≤ k + 1 := fun l hl => by have := h l hl; omega
  unfold endOwn
  split
  · refine set_len h' ?_
    have := gl_mem (i := i) h
    simp
    omega
  · exact h'
theorem PlayOk.next {c n k : Nat} {st : SysD × List (List Int)} (hc : 1 ≤ c) (hk : k < 1000) (h : PlayOk c n k st) (pk : Int) : PlayOk c n (k + 1) (play1 c st pk) :=
  ⟨play1_inv hc hk h.1 pk, endOwn_len (begin4_len h.2)⟩
theorem PlayOk.start {c n : Nat} (hc : 1 ≤ c) (hc' : c ≤ 8) (hn : 1 ≤ n) (hn' : n ≤ 200) : PlayOk c n 0 (play0 c n) :=
  ⟨new4_inv hc hc' hn hn', fun l hl => by simp [play0] at hl; simp [hl.2]⟩
theorem PlayOk.lens {c n k : Nat} {s : SysD} {own : List (List Int)} (h : PlayOk c n k (s, own)) : own.length = c ∧ s.C.length = c := by
  obtain ⟨⟨T, L, hT, I, hL, _⟩, h2⟩ := h
  exact ⟨I.lo, I.lc⟩
theorem PlayOk.round {c n k i : Nat} {s s1 : SysD} {own own1 : List (List Int)} {pk : Int} (h : PlayOk c n k (s, own)) (hk : k < 1000) (hi : i < c) (hb : begin4 s own i pk = (s1, own1)) :
    ∃ f c2, topF s1 i = f ∧ Wk c n k s1 ∧ own1.length = c ∧ s1.C.length = c ∧ (step4 s1 i).C.length = c ∧ (step4 s1 i).C[i]? = some c2 ∧ (gl own1 i).length ≤ k ∧ ∃ l, own1[i]? = some l ∧ gl own1 i = l := by
  obtain ⟨⟨T, L, hT, I, hL, _⟩, h2⟩ := h
  have I : Inv c n T s own [] L := I
  have h2 : ∀ l ∈ own, l.length ≤ k := h2
  have hL : s.L.length ≤ k := hL
  obtain ⟨cc, f, hcc, hf, I1, e1, e2, e3, e4, e5⟩ := begin_inv I hi pk
  have h3 := begin4_len (s := s) (i := i) (pk := pk) h2
  rw [hb] at hcc I1 e1 e2 e4 h3
  have hw : Wk c n k s1 := ⟨⟨T, own1, L, hT, I1⟩, by have : s1.L = s.L := e1; rw [this]; exact hL⟩
  have hw2 := hw.step (by omega) hi
  obtain ⟨⟨T2, own2, L2, hT2, I2⟩, _⟩ := hw2
  obtain ⟨c2, hc2⟩ := getSome' (show i < (step4 s1 i).C.length by rw [I2.lc]; exact hi)
  obtain ⟨o, ho⟩ := getSome' (show i < own1.length by rw [I1.lo]; exact hi)
  exact ⟨f, c2, e4, hw, I1.lo, I1.lc, I2.lc, hc2, gl_mem h3, o, ho, gl_some ho⟩
theorem play_take {c k : Nat} {l : List Int} {st0 : SysD × List (List Int)} (hk : k < l.length) : (l.take (k + 1)).foldl (play1 c) st0 = play1 c ((l.take k).foldl (play1 c) st0) (gi l k) := by
  have : l.take (k + 1) = l.take k ++ [gi l k] := by
    rw [List.take_succ_eq_append_getElem hk]
    simp [gi, hk]
  rw [this, List.foldl_append]
  rfl
theorem play1_eq {c : Nat} {s s1 : SysD} {own own1 : List (List Int)} {pk : Int} {i : Nat} (hi : (pk % c).toNat = i) (hb : begin4 s own i pk = (s1, own1)) : play1 c (s, own) pk = (step4 s1 i, endOwn (step4 s1 i) (topF s1 i) i own1) := by
  unfold play1
  show (step4 (begin4 s own (pk % (c : Int)).toNat pk).1 ((pk % (c : Int)).toNat : Nat), endOwn (step4 (begin4 s own (pk % (c : Int)).toNat pk).1 ((pk % (c : Int)).toNat : Nat)) (topF (begin4 s own (pk % (c : Int)).toNat pk).1 ((pk % (c : Int)).toNat : Nat)) (pk % (c : Int)).toNat (begin4 s own (pk % (c : Int)).toNat pk).2) = _
  rw [hi, hb]
theorem endOwn_on {s : SysD} {f : FrameD} {i : Nat} {own : List (List Int)} {c2 : CoreD} {l : List Int} (h2 : s.C[i]? = some c2) (hl : gl own i = l) (h : c2.F.length = 0 ∧ f.op = 1 ∧ c2.E = 0) : endOwn s f i own = own.set i (l ++ [c2.V]) := by
  unfold endOwn
  rw [lastC_some h2, if_pos h, hl]
theorem endOwn_off {s : SysD} {f : FrameD} {i : Nat} {own : List (List Int)} {c2 : CoreD} (h2 : s.C[i]? = some c2) (h : ¬ (c2.F.length = 0 ∧ f.op = 1 ∧ c2.E = 0)) : endOwn s f i own = own := by
  unfold endOwn
  rw [lastC_some h2, if_neg h]
theorem begin4_busy {s : SysD} {own : List (List Int)} {i : Nat} {pk : Int} (h : (topD s i).isSome = true) : begin4 s own i pk = (s, own) := by
  unfold begin4; rw [if_pos h]
theorem begin4_push {s : SysD} {own : List (List Int)} {i : Nat} {pk : Int} {l : List Int} (h : (topD s i).isSome = false) (hl : gl own i = l) (h0 : 0 < l.length) (h1 : pk / 8 % 2 = 1) : begin4 s own i pk = (callS s i 2 [gi l 0, 0, 0], own.set i (l.drop 1)) := by
  unfold begin4; rw [if_neg (by simp [h]), hl, if_pos ⟨h0, h1⟩]
theorem begin4_pop {s : SysD} {own : List (List Int)} {i : Nat} {pk : Int} {l : List Int} (h : (topD s i).isSome = false) (hl : gl own i = l) (h1 : ¬ (0 < l.length ∧ pk / 8 % 2 = 1)) : begin4 s own i pk = (callS s i 1 [0, 0, 0], own) := by
  unfold begin4; rw [if_neg (by simp [h]), hl, if_neg h1]
end Go.Proofs.Ytcfbdfgondmkoaa
/- A step of a core at the list of free nodes: pop and push. -/
namespace Go.Proofs.Ytcfbdfgondmkoaa
open Go Go.RowKit
set_option linter.unusedSimpArgs false
set_option linter.unusedVariables false
set_option linter.unnecessarySimpa false

theorem logD_C (s : SysD) (id kind a b v : Int) : (logD s id kind a b v).C = s.C := by unfold logD; split <;> rfl
set_option maxHeartbeats 1000000 in
set_option maxRecDepth 100000 in
theorem pop_z0 (N : Nat → Prop) (s : SysD) (id op q0 q1 q2 q3 q4 q5 q6 q7 : Int) (fS : List Int) (aw ag ac al ga : Option Addr) (cw cg cc cl gc : Nat) (w : World) (hw : IsInts N w (.slice aw s.M.W.length cw) s.M.W) (hg : IsInts N w (.slice ag s.M.G.length cg) s.M.G) (hc : IsCores N w (.slice ac s.C.length cc) s.C) (hl : IsEvs N w (.slice al s.L.length cl) s.L) (fs : IsInts N w (.slice ga fS.length gc) fS)
    (hN : ∀ b, N b → b < w.heap.size) (hC : s.C.length ≤ 100000) (hFm : ∀ (i : Nat) c, s.C[i]? = some c → c.F.length ≤ 100000) (hfit : Fits s.M) (hL : s.L.length ≤ 100000) (hi : (idx (loadD s.M 0) == 0) = true) :
    Gives Proofs.Try.prog 152 #[.agg #[.slice aw s.M.W.length cw, .slice ag s.M.G.length cg, .bool s.M.bad, .slice ac s.C.length cc, .slice al s.L.length cl], .int .i64 id, .agg #[.int .i64 op, .int .i64 0, .int .i64 q0, .int .i64 q1, .int .i64 q2, .int .i64 q3, .int .i64 q4, .int .i64 q5, .int .i64 q6, .int .i64 q7, .slice ga fS.length gc]] w (fun r w' => IsSys N w' r (backS (logD (memS s (touchD s.M 0)) id 9 0 0 0) id 0 2)) := by
  have hwB := hw.bxn (hi := w.heap.size + 3)
  have hgB := hg.bxn (hi := w.heap.size + 3)
  have hcB := hc.bxn (hi := w.heap.size + 3)
  have hlB := hl.bxn (hi := w.heap.size + 3)
  have fsB := fs.bxn (hi := w.heap.size + 3)
  obtain ⟨m1, hm1⟩ : ∃ m, touchD s.M 0 = m := ⟨_, rfl⟩
  obtain ⟨v, hv⟩ : ∃ x, loadD s.M 0 = x := ⟨_, rfl⟩
  have kl : ∀ (w' : World) (va : Value), IsMem (Bx N w.heap.size (w.heap.size + 3)) w' va s.M → w.heap.size + 3 ≤ w'.heap.size → Gives Proofs.Try.prog 64 #[va, .int .i64 (0)] w' (fun r w' => ∃ u, r = .tuple #[u, .int .i64 v] ∧ IsMem (Bx N w.heap.size (w.heap.size + 3)) w' u m1) := fun w' va hm hsz => by
    have := memLoad_ (Bx N w.heap.size (w.heap.size + 3)) va s.M (0) w' hm hfit (Bx.le hN hsz) (by decide) (by decide)
    rw [hm1, hv] at this; exact this
  rw [hm1]
  try rw [hv]
  rw [hv] at hi
  clear hm1 hv
  go_enter Proofs.Try.func152, Proofs.Try.ntmps152
  go_wp2_with (fail)
  go_at_call 64
  refine (kl _ _ (IsMem.mk rfl (IsInts.keep hwB keq) (IsInts.keep hgB keq)) (by first | omega | (simp <;> omega))).calls.mono ?_
  rintro e w1 ⟨_, rfl, hb1, u, rfl, hu1⟩
  obtain ⟨u1, u2, u3, u4, rfl, mw, mg⟩ := hu1.opened
  have B0_1 : Box w1 (w.heap.size) #[.slice aw s.M.W.length cw, .slice ag s.M.G.length cg, .bool s.M.bad, .slice ac s.C.length cc, .slice al s.L.length cl] 83 := (((Box.newAt _ _ _ (by first | rfl | simp)).alloc _).alloc _).ext hb1
  have B1_1 : Box w1 (w.heap.size + 1) #[.int .i64 op, .int .i64 0, .int .i64 q0, .int .i64 q1, .int .i64 q2, .int .i64 q3, .int .i64 q4, .int .i64 q5, .int .i64 q6, .int .i64 q7, .slice ga fS.length gc] 95 := ((Box.newAt _ _ _ (by first | rfl | simp)).alloc _).ext hb1
  have B2_1 : Box w1 (w.heap.size + 1 + 1) #[.slice none 0 0, .slice none 0 0, .bool false, .slice none 0 0, .slice none 0 0] 83 := (Box.newAt _ _ _ (by first | rfl | simp)).ext hb1
  have s1 : w.heap.size + 3 ≤ w1.heap.size := (by have h := hb1.size; first | omega | (simp at h; omega))
  obtain ⟨c0_0, c0_1, c0_2, c0_3, c0_4, d0_0, d0_1, d0_2, d0_3, d0_4⟩ := cells5 B0_1
  have z0 : w.heap.size < w1.heap.size := B0_1.lt
  obtain ⟨⟨c1_0, c1_1, c1_2, c1_3, c1_4, c1_5, c1_6, c1_7, c1_8, c1_9, c1_10⟩, d1_0, d1_1, d1_2, d1_3, d1_4, d1_5, d1_6, d1_7, d1_8, d1_9, d1_10⟩ := cells11 B1_1
  have z1 : w.heap.size + 1 < w1.heap.size := B1_1.lt
  obtain ⟨c2_0, c2_1, c2_2, c2_3, c2_4, d2_0, d2_1, d2_2, d2_3, d2_4⟩ := cells5 B2_1
  have z2 : w.heap.size + 1 + 1 < w1.heap.size := B2_1.lt
  go_wp2_with (fail)
  go_at_call 41
  refine (idx_ v _).calls.mono ?_
  rintro e w2 ⟨_, rfl, hb2, rfl⟩
  have B0_2 : Box w2 (w.heap.size) #[.slice u1 m1.W.length u2, .slice u3 m1.G.length u4, .bool m1.bad, .slice ac s.C.length cc, .slice al s.L.length cl] 83 := ((((B0_1.setCell _).setCell _).setCell _).setOther (by first | omega | (simp <;> omega)) _).ext hb2
  have B1_2 : Box w2 (w.heap.size + 1) #[.int .i64 op, .int .i64 0, .int .i64 v, .int .i64 q1, .int .i64 q2, .int .i64 q3, .int .i64 q4, .int .i64 q5, .int .i64 q6, .int .i64 q7, .slice ga fS.length gc] 95 := ((((B1_1.setOther (by first | omega | (simp <;> omega)) _).setOther (by first | omega | (simp <;> omega)) _).setOther (by first | omega | (simp <;> omega)) _).setCell _).ext hb2
  have B2_2 : Box w2 (w.heap.size + 1 + 1) #[.slice none 0 0, .slice none 0 0, .bool false, .slice none 0 0, .slice none 0 0] 83 := ((((B2_1.setOther (by first | omega | (simp <;> omega)) _).setOther (by first | omega | (simp <;> omega)) _).setOther (by first | omega | (simp <;> omega)) _).setOther (by first | omega | (simp <;> omega)) _).ext hb2
  clear c0_0 c0_1 c0_2 c0_3 c0_4 d0_0 d0_1 d0_2 d0_3 d0_4 z0 c1_0 c1_1 c1_2 c1_3 c1_4 c1_5 c1_6 c1_7 c1_8 c1_9 c1_10 d1_0 d1_1 d1_2 d1_3 d1_4 d1_5 d1_6 d1_7 d1_8 d1_9 d1_10 z1 c2_0 c2_1 c2_2 c2_3 c2_4 d2_0 d2_1 d2_2 d2_3 d2_4 z2
  have s2 : w1.heap.size ≤ w2.heap.size := (by have h := hb2.size; first | omega | (simp at h; omega))
  obtain ⟨c0_0, c0_1, c0_2, c0_3, c0_4, d0_0, d0_1, d0_2, d0_3, d0_4⟩ := cells5 B0_2
  have z0 : w.heap.size < w2.heap.size := B0_2.lt
  obtain ⟨⟨c1_0, c1_1, c1_2, c1_3, c1_4, c1_5, c1_6, c1_7, c1_8, c1_9, c1_10⟩, d1_0, d1_1, d1_2, d1_3, d1_4, d1_5, d1_6, d1_7, d1_8, d1_9, d1_10⟩ := cells11 B1_2
  have z1 : w.heap.size + 1 < w2.heap.size := B1_2.lt
  obtain ⟨c2_0, c2_1, c2_2, c2_3, c2_4, d2_0, d2_1, d2_2, d2_3, d2_4⟩ := cells5 B2_2
  have z2 : w.heap.size + 1 + 1 < w2.heap.size := B2_2.lt
  go_wp2_with (fail)
  go_at_call 87
  refine (log_ (Bx N w.heap.size (w.heap.size + 3)) _ (memS s m1) id 9 0 0 0 _ (IsSys.mk rfl (IsInts.keep mw keq) (IsInts.keep mg keq) (IsCores.keep hcB keq) (IsEvs.keep hlB keq) : IsSys (Bx N w.heap.size (w.heap.size + 3)) _ _ (memS s m1)) (Bx.le hN (by first | omega | (simp <;> omega))) hL).calls.mono ?_
  rintro e w3 ⟨_, rfl, hb3, ht⟩
  obtain ⟨t1, t2, t3, t4, t5, t6, t7, t8, rfl, tW, tG, tC, tL⟩ := ht.opened
  have B0_3 : Box w3 (w.heap.size) #[.slice u1 m1.W.length u2, .slice u3 m1.G.length u4, .bool m1.bad, .slice ac s.C.length cc, .slice al s.L.length cl] 83 := B0_2.ext hb3
  have B1_3 : Box w3 (w.heap.size + 1) #[.int .i64 op, .int .i64 0, .int .i64 v, .int .i64 q1, .int .i64 q2, .int .i64 q3, .int .i64 q4, .int .i64 q5, .int .i64 q6, .int .i64 q7, .slice ga fS.length gc] 95 := B1_2.ext hb3
  have B2_3 : Box w3 (w.heap.size + 1 + 1) #[.slice none 0 0, .slice none 0 0, .bool false, .slice none 0 0, .slice none 0 0] 83 := B2_2.ext hb3
  clear c0_0 c0_1 c0_2 c0_3 c0_4 d0_0 d0_1 d0_2 d0_3 d0_4 z0 c1_0 c1_1 c1_2 c1_3 c1_4 c1_5 c1_6 c1_7 c1_8 c1_9 c1_10 d1_0 d1_1 d1_2 d1_3 d1_4 d1_5 d1_6 d1_7 d1_8 d1_9 d1_10 z1 c2_0 c2_1 c2_2 c2_3 c2_4 d2_0 d2_1 d2_2 d2_3 d2_4 z2
  have s3 : w2.heap.size ≤ w3.heap.size := (by have h := hb3.size; first | omega | (simp at h; omega))
  obtain ⟨c0_0, c0_1, c0_2, c0_3, c0_4, d0_0, d0_1, d0_2, d0_3, d0_4⟩ := cells5 B0_3
  have z0 : w.heap.size < w3.heap.size := B0_3.lt
  obtain ⟨⟨c1_0, c1_1, c1_2, c1_3, c1_4, c1_5, c1_6, c1_7, c1_8, c1_9, c1_10⟩, d1_0, d1_1, d1_2, d1_3, d1_4, d1_5, d1_6, d1_7, d1_8, d1_9, d1_10⟩ := cells11 B1_3
  have z1 : w.heap.size + 1 < w3.heap.size := B1_3.lt
  obtain ⟨c2_0, c2_1, c2_2, c2_3, c2_4, d2_0, d2_1, d2_2, d2_3, d2_4⟩ := cells5 B2_3
  have z2 : w.heap.size + 1 + 1 < w3.heap.size := B2_3.lt
  go_wp2_with (fail)
  go_at_call 86
  refine (back_ (Bx N w.heap.size (w.heap.size + 3)) _ (logD (memS s m1) id 9 0 0 0) id 0 2 _ (IsSys.mk rfl (IsInts.keep tW keq) (IsInts.keep tG keq) (IsCores.keep tC keq) (IsEvs.keep tL keq) : IsSys (Bx N w.heap.size (w.heap.size + 3)) _ _ (logD (memS s m1) id 9 0 0 0)) (Bx.le hN (by first | omega | (simp <;> omega))) (by rw [logD_C]; exact hC)).calls.mono ?_
  rintro e w4 ⟨_, rfl, hb4, hu4⟩
  obtain ⟨r1, r2, r3, r4, r5, r6, r7, r8, rfl, rW, rG, rC, rL⟩ := hu4.opened
  have B0_4 : Box w4 (w.heap.size) #[.slice u1 m1.W.length u2, .slice u3 m1.G.length u4, .bool m1.bad, .slice ac s.C.length cc, .slice al s.L.length cl] 83 := B0_3.ext hb4
  have B1_4 : Box w4 (w.heap.size + 1) #[.int .i64 op, .int .i64 0, .int .i64 v, .int .i64 q1, .int .i64 q2, .int .i64 q3, .int .i64 q4, .int .i64 q5, .int .i64 q6, .int .i64 q7, .slice ga fS.length gc] 95 := B1_3.ext hb4
  have B2_4 : Box w4 (w.heap.size + 1 + 1) #[.slice none 0 0, .slice none 0 0, .bool false, .slice none 0 0, .slice none 0 0] 83 := B2_3.ext hb4
  clear c0_0 c0_1 c0_2 c0_3 c0_4 d0_0 d0_1 d0_2 d0_3 d0_4 z0 c1_0 c1_1 c1_2 c1_3 c1_4 c1_5 c1_6 c1_7 c1_8 c1_9 c1_10 d1_0 d1_1 d1_2 d1_3 d1_4 d1_5 d1_6 d1_7 d1_8 d1_9 d1_10 z1 c2_0 c2_1 c2_2 c2_3 c2_4 d2_0 d2_1 d2_2 d2_3 d2_4 z2
  have s4 : w3.heap.size ≤ w4.heap.size := (by have h := hb4.size; first | omega | (simp at h; omega))
  obtain ⟨c0_0, c0_1, c0_2, c0_3, c0_4, d0_0, d0_1, d0_2, d0_3, d0_4⟩ := cells5 B0_4
  have z0 : w.heap.size < w4.heap.size := B0_4.lt
  obtain ⟨⟨c1_0, c1_1, c1_2, c1_3, c1_4, c1_5, c1_6, c1_7, c1_8, c1_9, c1_10⟩, d1_0, d1_1, d1_2, d1_3, d1_4, d1_5, d1_6, d1_7, d1_8, d1_9, d1_10⟩ := cells11 B1_4
  have z1 : w.heap.size + 1 < w4.heap.size := B1_4.lt
  obtain ⟨c2_0, c2_1, c2_2, c2_3, c2_4, d2_0, d2_1, d2_2, d2_3, d2_4⟩ := cells5 B2_4
  have z2 : w.heap.size + 1 + 1 < w4.heap.size := B2_4.lt
  go_wp2
  exact bodyPost_ret (ret_cell (cs := #[.slice r1 (backS (logD (memS s m1) id 9 0 0 0) id 0 2).M.W.length r2, .slice r3 (backS (logD (memS s m1) id 9 0 0 0) id 0 2).M.G.length r4, .bool (backS (logD (memS s m1) id 9 0 0 0) id 0 2).M.bad, .slice r5 (backS (logD (memS s m1) id 9 0 0 0) id 0 2).C.length r6, .slice r7 (backS (logD (memS s m1) id 9 0 0 0) id 0 2).L.length r8]) (((((B2_4.setCell _).setCell _).setCell _).setCell _).setCell _) Proofs.Try.results152 rfl Proofs.Try.underlying83 rfl (by kernel_rfl)) rfl ⟨_, rfl, exn, IsSys.less (IsSys.keep hu4 keq) (fun _ _ hn => .inl hn)⟩
set_option maxHeartbeats 1000000 in
set_option maxRecDepth 100000 in
theorem pop_n0 (N : Nat → Prop) (s : SysD) (id op q0 q1 q2 q3 q4 q5 q6 q7 : Int) (fS : List Int) (aw ag ac al ga : Option Addr) (cw cg cc cl gc : Nat) (w : World) (hw : IsInts N w (.slice aw s.M.W.length cw) s.M.W) (hg : IsInts N w (.slice ag s.M.G.length cg) s.M.G) (hc : IsCores N w (.slice ac s.C.length cc) s.C) (hl : IsEvs N w (.slice al s.L.length cl) s.L) (fs : IsInts N w (.slice ga fS.length gc) fS)
    (hN : ∀ b, N b → b < w.heap.size) (hC : s.C.length ≤ 100000) (hFm : ∀ (i : Nat) c, s.C[i]? = some c → c.F.length ≤ 100000) (hfit : Fits s.M) (hi : (idx (loadD s.M 0) == 0) = false) :
    Gives Proofs.Try.prog 152 #[.agg #[.slice aw s.M.W.length cw, .slice ag s.M.G.length cg, .bool s.M.bad, .slice ac s.C.length cc, .slice al s.L.length cl], .int .i64 id, .agg #[.int .i64 op, .int .i64 0, .int .i64 q0, .int .i64 q1, .int .i64 q2, .int .i64 q3, .int .i64 q4, .int .i64 q5, .int .i64 q6, .int .i64 q7, .slice ga fS.length gc]] w (fun r w' => IsSys N w' r (onS s id (touchD s.M 0) ⟨op, 0, [loadD s.M 0, q1, q2, q3, q4, q5, q6, q7], fS⟩ 1)) := by
  have hwB := hw.bxn (hi := w.heap.size + 3)
  have hgB := hg.bxn (hi := w.heap.size + 3)
  have hcB := hc.bxn (hi := w.heap.size + 3)
  have hlB := hl.bxn (hi := w.heap.size + 3)
  have fsB := fs.bxn (hi := w.heap.size + 3)
  obtain ⟨m1, hm1⟩ : ∃ m, touchD s.M 0 = m := ⟨_, rfl⟩
  obtain ⟨v, hv⟩ : ∃ x, loadD s.M 0 = x := ⟨_, rfl⟩
  have kl : ∀ (w' : World) (va : Value), IsMem (Bx N w.heap.size (w.heap.size + 3)) w' va s.M → w.heap.size + 3 ≤ w'.heap.size → Gives Proofs.Try.prog 64 #[va, .int .i64 (0)] w' (fun r w' => ∃ u, r = .tuple #[u, .int .i64 v] ∧ IsMem (Bx N w.heap.size (w.heap.size + 3)) w' u m1) := fun w' va hm hsz => by
    have := memLoad_ (Bx N w.heap.size (w.heap.size + 3)) va s.M (0) w' hm hfit (Bx.le hN hsz) (by decide) (by decide)
    rw [hm1, hv] at this; exact this
  rw [hm1]
  try rw [hv]
  rw [hv] at hi
  clear hm1 hv
  go_enter Proofs.Try.func152, Proofs.Try.ntmps152
  go_wp2_with (fail)
  go_at_call 64
  refine (kl _ _ (IsMem.mk rfl (IsInts.keep hwB keq) (IsInts.keep hgB keq)) (by first | omega | (simp <;> omega))).calls.mono ?_
  rintro e w1 ⟨_, rfl, hb1, u, rfl, hu1⟩
  obtain ⟨u1, u2, u3, u4, rfl, mw, mg⟩ := hu1.opened
  have B0_1 : Box w1 (w.heap.size) #[.slice aw s.M.W.length cw, .slice ag s.M.G.length cg, .bool s.M.bad, .slice ac s.C.length cc, .slice al s.L.length cl] 83 := (((Box.newAt _ _ _ (by first | rfl | simp)).alloc _).alloc _).ext hb1
  have B1_1 : Box w1 (w.heap.size + 1) #[.int .i64 op, .int .i64 0, .int .i64 q0, .int .i64 q1, .int .i64 q2, .int .i64 q3, .int .i64 q4, .int .i64 q5, .int .i64 q6, .int .i64 q7, .slice ga fS.length gc] 95 := ((Box.newAt _ _ _ (by first | rfl | simp)).alloc _).ext hb1
  have B2_1 : Box w1 (w.heap.size + 1 + 1) #[.slice none 0 0, .slice none 0 0, .bool false, .slice none 0 0, .slice none 0 0] 83 := (Box.newAt _ _ _ (by first | rfl | simp)).ext hb1
  have s1 : w.heap.size + 3 ≤ w1.heap.size := (by have h := hb1.size; first | omega | (simp at h; omega))
  obtain ⟨c0_0, c0_1, c0_2, c0_3, c0_4, d0_0, d0_1, d0_2, d0_3, d0_4⟩ := cells5 B0_1
  have z0 : w.heap.size < w1.heap.size := B0_1.lt
  obtain ⟨⟨c1_0, c1_1, c1_2, c1_3, c1_4, c1_5, c1_6, c1_7, c1_8, c1_9, c1_10⟩, d1_0, d1_1, d1_2, d1_3, d1_4, d1_5, d1_6, d1_7, d1_8, d1_9, d1_10⟩ := cells11 B1_1
  have z1 : w.heap.size + 1 < w1.heap.size := B1_1.lt
  obtain ⟨c2_0, c2_1, c2_2, c2_3, c2_4, d2_0, d2_1, d2_2, d2_3, d2_4⟩ := cells5 B2_1
  have z2 : w.heap.size + 1 + 1 < w1.heap.size := B2_1.lt
  go_wp2_with (fail)
  go_at_call 41
  refine (idx_ v _).calls.mono ?_
  rintro e w2 ⟨_, rfl, hb2, rfl⟩
  have B0_2 : Box w2 (w.heap.size) #[.slice u1 m1.W.length u2, .slice u3 m1.G.length u4, .bool m1.bad, .slice ac s.C.length cc, .slice al s.L.length cl] 83 := ((((B0_1.setCell _).setCell _).setCell _).setOther (by first | omega | (simp <;> omega)) _).ext hb2
  have B1_2 : Box w2 (w.heap.size + 1) #[.int .i64 op, .int .i64 0, .int .i64 v, .int .i64 q1, .int .i64 q2, .int .i64 q3, .int .i64 q4, .int .i64 q5, .int .i64 q6, .int .i64 q7, .slice ga fS.length gc] 95 := ((((B1_1.setOther (by first | omega | (simp <;> omega)) _).setOther (by first | omega | (simp <;> omega)) _).setOther (by first | omega | (simp <;> omega)) _).setCell _).ext hb2
  have B2_2 : Box w2 (w.heap.size + 1 + 1) #[.slice none 0 0, .slice none 0 0, .bool false, .slice none 0 0, .slice none 0 0] 83 := ((((B2_1.setOther (by first | omega | (simp <;> omega)) _).setOther (by first | omega | (simp <;> omega)) _).setOther (by first | omega | (simp <;> omega)) _).setOther (by first | omega | (simp <;> omega)) _).ext hb2
  clear c0_0 c0_1 c0_2 c0_3 c0_4 d0_0 d0_1 d0_2 d0_3 d0_4 z0 c1_0 c1_1 c1_2 c1_3 c1_4 c1_5 c1_6 c1_7 c1_8 c1_9 c1_10 d1_0 d1_1 d1_2 d1_3 d1_4 d1_5 d1_6 d1_7 d1_8 d1_9 d1_10 z1 c2_0 c2_1 c2_2 c2_3 c2_4 d2_0 d2_1 d2_2 d2_3 d2_4 z2
  have s2 : w1.heap.size ≤ w2.heap.size := (by have h := hb2.size; first | omega | (simp at h; omega))
  obtain ⟨c0_0, c0_1, c0_2, c0_3, c0_4, d0_0, d0_1, d0_2, d0_3, d0_4⟩ := cells5 B0_2
  have z0 : w.heap.size < w2.heap.size := B0_2.lt
  obtain ⟨⟨c1_0, c1_1, c1_2, c1_3, c1_4, c1_5, c1_6, c1_7, c1_8, c1_9, c1_10⟩, d1_0, d1_1, d1_2, d1_3, d1_4, d1_5, d1_6, d1_7, d1_8, d1_9, d1_10⟩ := cells11 B1_2
  have z1 : w.heap.size + 1 < w2.heap.size := B1_2.lt
  obtain ⟨c2_0, c2_1, c2_2, c2_3, c2_4, d2_0, d2_1, d2_2, d2_3, d2_4⟩ := cells5 B2_2
  have z2 : w.heap.size + 1 + 1 < w2.heap.size := B2_2.lt
  go_wp2_with (fail)
  go_at_call 165
  refine (on4_ (Bx N w.heap.size (w.heap.size + 3)) _ _ (memS s m1) id 1 ⟨op, 0, [v, q1, q2, q3, q4, q5, q6, q7], fS⟩ _ (IsSys.mk rfl (IsInts.keep mw keq) (IsInts.keep mg keq) (IsCores.keep hcB keq) (IsEvs.keep hlB keq) : IsSys (Bx N w.heap.size (w.heap.size + 3)) _ _ (memS s m1)) (IsFrame.ofLit (IsInts.keep fsB keq) : IsFrame _ _ _ ⟨op, 0, [v, q1, q2, q3, q4, q5, q6, q7], fS⟩) (Bx.le hN (by first | omega | (simp <;> omega))) hC hFm).calls.mono ?_
  rintro e w3 ⟨_, rfl, hb3, hu3⟩
  obtain ⟨r1, r2, r3, r4, r5, r6, r7, r8, rfl, rW, rG, rC, rL⟩ := hu3.opened
  have B0_3 : Box w3 (w.heap.size) #[.slice u1 m1.W.length u2, .slice u3 m1.G.length u4, .bool m1.bad, .slice ac s.C.length cc, .slice al s.L.length cl] 83 := B0_2.ext hb3
  have B1_3 : Box w3 (w.heap.size + 1) #[.int .i64 op, .int .i64 0, .int .i64 v, .int .i64 q1, .int .i64 q2, .int .i64 q3, .int .i64 q4, .int .i64 q5, .int .i64 q6, .int .i64 q7, .slice ga fS.length gc] 95 := B1_2.ext hb3
  have B2_3 : Box w3 (w.heap.size + 1 + 1) #[.slice none 0 0, .slice none 0 0, .bool false, .slice none 0 0, .slice none 0 0] 83 := B2_2.ext hb3
  clear c0_0 c0_1 c0_2 c0_3 c0_4 d0_0 d0_1 d0_2 d0_3 d0_4 z0 c1_0 c1_1 c1_2 c1_3 c1_4 c1_5 c1_6 c1_7 c1_8 c1_9 c1_10 d1_0 d1_1 d1_2 d1_3 d1_4 d1_5 d1_6 d1_7 d1_8 d1_9 d1_10 z1 c2_0 c2_1 c2_2 c2_3 c2_4 d2_0 d2_1 d2_2 d2_3 d2_4 z2
  have s3 : w2.heap.size ≤ w3.heap.size := (by have h := hb3.size; first | omega | (simp at h; omega))
  obtain ⟨c0_0, c0_1, c0_2, c0_3, c0_4, d0_0, d0_1, d0_2, d0_3, d0_4⟩ := cells5 B0_3
  have z0 : w.heap.size < w3.heap.size := B0_3.lt
  obtain ⟨⟨c1_0, c1_1, c1_2, c1_3, c1_4, c1_5, c1_6, c1_7, c1_8, c1_9, c1_10⟩, d1_0, d1_1, d1_2, d1_3, d1_4, d1_5, d1_6, d1_7, d1_8, d1_9, d1_10⟩ := cells11 B1_3
  have z1 : w.heap.size + 1 < w3.heap.size := B1_3.lt
  obtain ⟨c2_0, c2_1, c2_2, c2_3, c2_4, d2_0, d2_1, d2_2, d2_3, d2_4⟩ := cells5 B2_3
  have z2 : w.heap.size + 1 + 1 < w3.heap.size := B2_3.lt
  go_wp2
  exact bodyPost_ret (ret_cell (cs := #[.slice r1 (setS (memS s m1) id (pcF ⟨op, 0, [v, q1, q2, q3, q4, q5, q6, q7], fS⟩ 1)).M.W.length r2, .slice r3 (setS (memS s m1) id (pcF ⟨op, 0, [v, q1, q2, q3, q4, q5, q6, q7], fS⟩ 1)).M.G.length r4, .bool (setS (memS s m1) id (pcF ⟨op, 0, [v, q1, q2, q3, q4, q5, q6, q7], fS⟩ 1)).M.bad, .slice r5 (setS (memS s m1) id (pcF ⟨op, 0, [v, q1, q2, q3, q4, q5, q6, q7], fS⟩ 1)).C.length r6, .slice r7 (setS (memS s m1) id (pcF ⟨op, 0, [v, q1, q2, q3, q4, q5, q6, q7], fS⟩ 1)).L.length r8]) (((((B2_3.setCell _).setCell _).setCell _).setCell _).setCell _) Proofs.Try.results152 rfl Proofs.Try.underlying83 rfl (by kernel_rfl)) rfl ⟨_, rfl, exn, IsSys.less (IsSys.keep hu3 keq) (fun _ _ hn => .inl hn)⟩
set_option maxHeartbeats 1000000 in
set_option maxRecDepth 100000 in
theorem pop_1 (N : Nat → Prop) (s : SysD) (id op q0 q1 q2 q3 q4 q5 q6 q7 : Int) (fS : List Int) (aw ag ac al ga : Option Addr) (cw cg cc cl gc : Nat) (w : World) (hw : IsInts N w (.slice aw s.M.W.length cw) s.M.W) (hg : IsInts N w (.slice ag s.M.G.length cg) s.M.G) (hc : IsCores N w (.slice ac s.C.length cc) s.C) (hl : IsEvs N w (.slice al s.L.length cl) s.L) (fs : IsInts N w (.slice ga fS.length gc) fS)
    (hN : ∀ b, N b → b < w.heap.size) (hC : s.C.length ≤ 100000) (hFm : ∀ (i : Nat) c, s.C[i]? = some c → c.F.length ≤ 100000) (hfit : Fits s.M)  :
    Gives Proofs.Try.prog 152 #[.agg #[.slice aw s.M.W.length cw, .slice ag s.M.G.length cg, .bool s.M.bad, .slice ac s.C.length cc, .slice al s.L.length cl], .int .i64 id, .agg #[.int .i64 op, .int .i64 1, .int .i64 q0, .int .i64 q1, .int .i64 q2, .int .i64 q3, .int .i64 q4, .int .i64 q5, .int .i64 q6, .int .i64 q7, .slice ga fS.length gc]] w (fun r w' => IsSys N w' r (onS s id (touchD s.M (linkAt (idx q0))) ⟨op, 1, [q0, loadD s.M (linkAt (idx q0)), q2, q3, q4, q5, q6, q7], fS⟩ 2)) := by
  have hwB := hw.bxn (hi := w.heap.size + 3)
  have hgB := hg.bxn (hi := w.heap.size + 3)
  have hcB := hc.bxn (hi := w.heap.size + 3)
  have hlB := hl.bxn (hi := w.heap.size + 3)
  have fsB := fs.bxn (hi := w.heap.size + 3)
  obtain ⟨m1, hm1⟩ : ∃ m, touchD s.M (linkAt (idx q0)) = m := ⟨_, rfl⟩
  obtain ⟨v, hv⟩ : ∃ x, loadD s.M (linkAt (idx q0)) = x := ⟨_, rfl⟩
  have kl : ∀ (w' : World) (va : Value), IsMem (Bx N w.heap.size (w.heap.size + 3)) w' va s.M → w.heap.size + 3 ≤ w'.heap.size → Gives Proofs.Try.prog 64 #[va, .int .i64 ((linkAt (idx q0)))] w' (fun r w' => ∃ u, r = .tuple #[u, .int .i64 v] ∧ IsMem (Bx N w.heap.size (w.heap.size + 3)) w' u m1) := fun w' va hm hsz => by
    have := memLoad_ (Bx N w.heap.size (w.heap.size + 3)) va s.M ((linkAt (idx q0))) w' hm hfit (Bx.le hN hsz) (linkAt_lo _).1 (linkAt_lo _).2
    rw [hm1, hv] at this; exact this
  rw [hm1]
  try rw [hv]
  clear hm1 hv
  go_enter Proofs.Try.func152, Proofs.Try.ntmps152
  go_wp2_with (fail)
  obtain ⟨W8, hW⟩ : ∃ W, W = (((w.alloc (.cells #[.slice aw s.M.W.length cw, .slice ag s.M.G.length cg, .bool s.M.bad, .slice ac s.C.length cc, .slice al s.L.length cl] 83 (0, 0))).alloc (.cells #[.int .i64 op, .int .i64 1, .int .i64 q0, .int .i64 q1, .int .i64 q2, .int .i64 q3, .int .i64 q4, .int .i64 q5, .int .i64 q6, .int .i64 q7, .slice ga fS.length gc] 95 (0, 0))).alloc (.cells #[.slice none 0 0, .slice none 0 0, .bool false, .slice none 0 0, .slice none 0 0] 83 (0, 0))) := ⟨_, rfl⟩
  have hX8 : Ext w W8 := by rw [hW]; exact exn
  have hK8 : Keep (Bx N w.heap.size (w.heap.size + 3)) w W8 := by rw [hW]; exact keq
  have D0_8 : Box (((w.alloc (.cells #[.slice aw s.M.W.length cw, .slice ag s.M.G.length cg, .bool s.M.bad, .slice ac s.C.length cc, .slice al s.L.length cl] 83 (0, 0))).alloc (.cells #[.int .i64 op, .int .i64 1, .int .i64 q0, .int .i64 q1, .int .i64 q2, .int .i64 q3, .int .i64 q4, .int .i64 q5, .int .i64 q6, .int .i64 q7, .slice ga fS.length gc] 95 (0, 0))).alloc (.cells #[.slice none 0 0, .slice none 0 0, .bool false, .slice none 0 0, .slice none 0 0] 83 (0, 0))) (w.heap.size) #[.slice aw s.M.W.length cw, .slice ag s.M.G.length cg, .bool s.M.bad, .slice ac s.C.length cc, .slice al s.L.length cl] 83 := (((Box.newAt _ _ _ (by first | rfl | simp)).alloc _).alloc _)
  rw [← hW] at D0_8
  have D1_8 : Box (((w.alloc (.cells #[.slice aw s.M.W.length cw, .slice ag s.M.G.length cg, .bool s.M.bad, .slice ac s.C.length cc, .slice al s.L.length cl] 83 (0, 0))).alloc (.cells #[.int .i64 op, .int .i64 1, .int .i64 q0, .int .i64 q1, .int .i64 q2, .int .i64 q3, .int .i64 q4, .int .i64 q5, .int .i64 q6, .int .i64 q7, .slice ga fS.length gc] 95 (0, 0))).alloc (.cells #[.slice none 0 0, .slice none 0 0, .bool false, .slice none 0 0, .slice none 0 0] 83 (0, 0))) (w.heap.size + 1) #[.int .i64 op, .int .i64 1, .int .i64 q0, .int .i64 q1, .int .i64 q2, .int .i64 q3, .int .i64 q4, .int .i64 q5, .int .i64 q6, .int .i64 q7, .slice ga fS.length gc] 95 := ((Box.newAt _ _ _ (by first | rfl | simp)).alloc _)
  rw [← hW] at D1_8
  have D2_8 : Box (((w.alloc (.cells #[.slice aw s.M.W.length cw, .slice ag s.M.G.length cg, .bool s.M.bad, .slice ac s.C.length cc, .slice al s.L.length cl] 83 (0, 0))).alloc (.cells #[.int .i64 op, .int .i64 1, .int .i64 q0, .int .i64 q1, .int .i64 q2, .int .i64 q3, .int .i64 q4, .int .i64 q5, .int .i64 q6, .int .i64 q7, .slice ga fS.length gc] 95 (0, 0))).alloc (.cells #[.slice none 0 0, .slice none 0 0, .bool false, .slice none 0 0, .slice none 0 0] 83 (0, 0))) (w.heap.size + 1 + 1) #[.slice none 0 0, .slice none 0 0, .bool false, .slice none 0 0, .slice none 0 0] 83 := (Box.newAt _ _ _ (by first | rfl | simp))
  rw [← hW] at D2_8
  have y8 : w.heap.size + 3 ≤ W8.heap.size := by rw [hW]; simp
  rw [← hW]
  clear hW
  have aM : IsMem (Bx N w.heap.size (w.heap.size + 3)) W8 (.agg #[.slice aw s.M.W.length cw, .slice ag s.M.G.length cg, .bool s.M.bad]) s.M := (IsMem.mk rfl hwB hgB : IsMem (Bx N w.heap.size (w.heap.size + 3)) w _ s.M).keep ((Keep.refl _ _).ext hX8)
  apply region_lit2 (T := [12, 15]) (L := [10, 13, 14]) (X := [w.heap.size, w.heap.size + 1]) (G := [eqv _, eqv _, eqv _, eqv _, eqv _, eqv _, eqv _, isTupN (Bx N w.heap.size (w.heap.size + 3)) m1 (.int .i64 v), isTupN (Bx N w.heap.size (w.heap.size + 3)) m1 (.int .i64 v), isMemN (Bx N w.heap.size (w.heap.size + 3)) m1, eqv (.int .i64 v), eqv _, anyG, eqv _, eqv _, anyG])
  case hm => kernel_rfl
  case hop =>
    refine ⟨?_, ?_, ?_, ?_, ?_, ?_, ?_, ?_, ?_, ?_, ?_, ?_, ?_, ?_, ?_, ?_, trivial⟩
    · intro a wa hs hf hd
      have t3 := hf.off 3 (by kernel_rfl) rfl
      exact plain_ rfl (yes_eqv (o_fieldAddr rfl Proofs.Try.underlying83 rfl rfl (by kernel_rfl) t3) rfl)
    · intro a wa hs hf hd
      have t40 : a.eval (.tmp 40) = _ := hd.at 0 40 (by kernel_rfl)
      exact plain_ rfl (yes_eqv (o_load3 rfl Proofs.Try.underlying50 rfl (by kernel_rfl) t40 ((D0_8.since hs rfl).cell rfl) ((D0_8.since hs rfl).cell rfl) ((D0_8.since hs rfl).cell rfl)) rfl)
    · intro a wa hs hf hd
      have t5 := hf.off 5 (by kernel_rfl) rfl
      exact plain_ rfl (yes_eqv (o_fieldAddr rfl Proofs.Try.underlying95 rfl rfl (by kernel_rfl) t5) rfl)
    · intro a wa hs hf hd
      have t42 : a.eval (.tmp 42) = _ := hd.at 2 42 (by kernel_rfl)
      exact plain_ rfl (yes_eqv (o_indexAddrA (sz := 1) rfl Proofs.Try.underlying93 (by kernel_rfl) t42 rfl (by decide) (by decide)) rfl)
    · intro a wa hs hf hd
      have t43 : a.eval (.tmp 43) = _ := hd.at 3 43 (by kernel_rfl)
      exact plain_ rfl (yes_eqv (o_load1 rfl Proofs.Try.underlying3 rfl t43 ((D1_8.since hs rfl).cell rfl)) rfl)
    · intro a wa hs hf hd
      have t44 : a.eval (.tmp 44) = _ := hd.at 4 44 (by kernel_rfl)
      exact plain_ rfl (yes_gives (idx_ q0 _) rfl rfl Proofs.Try.func41 (by kernel_rfl) (by kernel_rfl) (by simp only [List.map_toArray, List.map_cons, List.map_nil, t44]) rfl)
    · intro a wa hs hf hd
      have t45 : a.eval (.tmp 45) = _ := hd.at 5 45 (by kernel_rfl)
      exact plain_ rfl (yes_gives (atw_ (idx q0) _) rfl rfl Proofs.Try.func57 (by kernel_rfl) (by kernel_rfl) (by simp only [List.map_toArray, List.map_cons, List.map_nil, eval_const, t45]) rfl)
    · intro a wa hs hf hd
      have t41 : a.eval (.tmp 41) = _ := hd.at 1 41 (by kernel_rfl)
      have t46 : a.eval (.tmp 46) = _ := hd.at 6 46 (by kernel_rfl)
      exact plain_ rfl (yes_gives (kl _ _ (aM.keep (Since.to_ext hs).keep) (by have := (Since.to_ext hs).size; have := hX8.size; omega)) rfl rfl Proofs.Try.func64 (by kernel_rfl) (by kernel_rfl) (by simp only [List.map_toArray, List.map_cons, List.map_nil, t41, t46]) rfl)
    · intro a wa hs hf hd
      have t47 := hd.at 7 47 (by kernel_rfl)
      obtain ⟨u, hu, hm⟩ := t47
      exact plain_ rfl (yes_val (runs_ok (o_move rfl hu)) (Ext.refl _) ⟨u, rfl, hm⟩ rfl)
    · intro a wa hs hf hd
      have t39 := hd.at 8 39 (by kernel_rfl)
      obtain ⟨u, hu, hm⟩ := t39
      exact plain_ rfl (yes_val (runs_ok (o_extract rfl hu rfl)) (Ext.refl _) hm rfl)
    · intro a wb wa hs1 hs hf hd
      have t39 := hd.at 8 39 (by kernel_rfl)
      obtain ⟨u, hu, hm⟩ := t39
      exact plain_ rfl (late_eqv (o_extract rfl hu rfl) rfl)
    · intro a wa hs hf hd
      have t3 := hf.off 3 (by kernel_rfl) rfl
      exact plain_ rfl (yes_eqv (o_fieldAddr rfl Proofs.Try.underlying83 rfl rfl (by kernel_rfl) t3) rfl)
    · intro a wb wa hs1 hs hf hd hrun
      have t50 : a.eval (.tmp 50) = _ := hd.at 11 50 (by kernel_rfl)
      have t48 := hd.at 9 48 (by kernel_rfl)
      subst hrun
      have q18 : IsMem (Bx N w.heap.size (w.heap.size + 3)) _ (a.eval (.tmp 48)) m1 := t48
      obtain ⟨u1, u2, u3, u4, hv, _⟩ := q18.opened
      exact ⟨_, o_store rfl t50 hv ((D0_8.since hs1 rfl)) (by kernel_rfl) (by simp [Value.cells, Value.oneCell']) (by first | (simp [Value.cells]; done) | (simp [Value.cells]; omega)) rfl, Since.put hs (.inr (by simp))⟩
    · intro a wb wa hs1 hs hf hd
      have t5 := hf.off 5 (by kernel_rfl) rfl
      exact plain_ rfl (late_eqv (o_fieldAddr rfl Proofs.Try.underlying95 rfl rfl (by kernel_rfl) t5) rfl)
    · intro a wb wa hs1 hs hf hd
      have t51 : a.eval (.tmp 51) = _ := hd.at 13 51 (by kernel_rfl)
      exact plain_ rfl (late_eqv (o_indexAddrA (sz := 1) rfl Proofs.Try.underlying93 (by kernel_rfl) t51 rfl (by decide) (by decide)) rfl)
    · intro a wb wa hs1 hs hf hd hrun
      have t52 : a.eval (.tmp 52) = _ := hd.at 14 52 (by kernel_rfl)
      have t49 : a.eval (.tmp 49) = _ := hd.at 10 49 (by kernel_rfl)
      have t50 : a.eval (.tmp 50) = _ := hd.at 11 50 (by kernel_rfl)
      have t48 := hd.at 9 48 (by kernel_rfl)
      obtain ⟨o1, v1, ho1, hr1, rfl⟩ := hrun
      cases ho1
      have q18 : IsMem (Bx N w.heap.size (w.heap.size + 3)) _ (a.eval (.tmp 48)) m1 := t48
      obtain ⟨u1, u2, u3, u4, hv, _⟩ := q18.opened
      cases (hr1.symm.trans (o_store (v := .agg #[.slice u1 m1.W.length u2, .slice u3 m1.G.length u4, .bool m1.bad]) (new := #[.slice u1 m1.W.length u2, .slice u3 m1.G.length u4, .bool m1.bad, .slice ac s.C.length cc, .slice al s.L.length cl]) rfl t50 hv ((D0_8.since hs1 rfl)) (by kernel_rfl) (by simp [Value.cells, Value.oneCell']) (by first | (simp [Value.cells]; done) | (simp [Value.cells]; omega)) rfl))
      exact ⟨_, o_store rfl t52 t49 ((box_putOther (D1_8.since hs1 rfl) (by omega))) (by kernel_rfl) (by simp [Value.cells, Value.oneCell']) (by first | (simp [Value.cells]; done) | (simp [Value.cells]; omega)) rfl, Since.put hs (.inr (by simp))⟩
  case hG => exact ⟨stable_eqv _, stable_eqv _, stable_eqv _, stable_eqv _, stable_eqv _, stable_eqv _, stable_eqv _, stable_isTupN _ _ _, stable_isTupN _ _ _, stable_isMemN _ _, stable_eqv _, stable_eqv _, stable_any, stable_eqv _, stable_eqv _, stable_any, trivial⟩
  case hc => kernel_rfl
  case hfin =>
    intro v8 hs8
    rintro _ rfl _ rfl _ rfl _ rfl _ rfl _ rfl _ rfl _ ⟨p7, rfl, h7⟩ _ ⟨p8, rfl, h8⟩ p9 h9 _ rfl _ rfl _ rfl _ rfl
    obtain ⟨u1, u2, u3, u4, rfl, uw, ug⟩ := IsMem.opened h9
    rintro v8w ⟨o1, v1, ho1, hr1, o2, v2, ho2, hr2, rfl⟩
    cases ho1
    cases ho2
    simp only [Act.put, List.setIfInBounds_toArray, List.set_cons_zero, List.set_cons_succ] at hr1 hr2 ⊢
    cases (hr1.symm.trans (o_store (v := .agg #[.slice u1 m1.W.length u2, .slice u3 m1.G.length u4, .bool m1.bad]) (new := #[.slice u1 m1.W.length u2, .slice u3 m1.G.length u4, .bool m1.bad, .slice ac s.C.length cc, .slice al s.L.length cl]) rfl rfl rfl ((D0_8.since hs8 rfl)) (by kernel_rfl) (by simp [Value.cells, Value.oneCell']) (by first | (simp [Value.cells]; done) | (simp [Value.cells]; omega)) (by first | rfl | kernel_rfl)))
    cases (hr2.symm.trans (o_store (v := .int .i64 v) (new := #[.int .i64 op, .int .i64 1, .int .i64 q0, .int .i64 v, .int .i64 q2, .int .i64 q3, .int .i64 q4, .int .i64 q5, .int .i64 q6, .int .i64 q7, .slice ga fS.length gc]) rfl rfl rfl ((box_putOther (D1_8.since hs8 rfl) (by omega))) (by kernel_rfl) (by simp [Value.cells, Value.oneCell']) (by first | (simp [Value.cells]; done) | (simp [Value.cells]; omega)) (by first | rfl | kernel_rfl)))
    obtain ⟨w1, hw1⟩ : ∃ x, x = (put (put v8 w.heap.size (.cells #[.slice u1 m1.W.length u2, .slice u3 m1.G.length u4, .bool m1.bad, .slice ac s.C.length cc, .slice al s.L.length cl] 83 (0, 0))) (w.heap.size + 1) (.cells #[.int .i64 op, .int .i64 1, .int .i64 q0, .int .i64 v, .int .i64 q2, .int .i64 q3, .int .i64 q4, .int .i64 q5, .int .i64 q6, .int .i64 q7, .slice ga fS.length gc] 95 (0, 0))) := ⟨_, rfl⟩
    have hW1 : Ext W8 v8 := Since.to_ext hs8
    have hb1 : Ext w w1 := by rw [hw1]; exact Since.to_ext (((Since.of_ext (hX8.trans hW1)).put (.inl (by have := hX8.size; omega))).put (.inl (by have := hX8.size; omega)))
    have hk1 : Keep (Bx N w.heap.size (w.heap.size + 3)) w w1 := by rw [hw1]; exact (((hK8.ext hW1).put _ _ (.inr (Bx.mem (by omega) (by omega)))).put _ _ (.inr (Bx.mem (by omega) (by omega))))
    have hq1 : Keep (Bx N w.heap.size (w.heap.size + 3)) v8 w1 := by rw [hw1]; exact (((Keep.refl _ _).put _ _ (.inr (Bx.mem (by omega) (by omega)))).put _ _ (.inr (Bx.mem (by omega) (by omega))))
    have B0_1 : Box w1 (w.heap.size) #[.slice u1 m1.W.length u2, .slice u3 m1.G.length u4, .bool m1.bad, .slice ac s.C.length cc, .slice al s.L.length cl] 83 := by rw [hw1]; exact (box_putOther (D0_8.since hs8 rfl).put (by omega))
    have B1_1 : Box w1 (w.heap.size + 1) #[.int .i64 op, .int .i64 1, .int .i64 q0, .int .i64 v, .int .i64 q2, .int .i64 q3, .int .i64 q4, .int .i64 q5, .int .i64 q6, .int .i64 q7, .slice ga fS.length gc] 95 := by rw [hw1]; exact (box_putOther (D1_8.since hs8 rfl) (by omega)).put
    have B2_1 : Box w1 (w.heap.size + 1 + 1) #[.slice none 0 0, .slice none 0 0, .bool false, .slice none 0 0, .slice none 0 0] 83 := by rw [hw1]; exact (box_putOther (box_putOther (D2_8.since hs8 rfl) (by omega)) (by omega))
    have s1 : W8.heap.size ≤ w1.heap.size := by rw [hw1]; have := hW1.size; simpa [put] using this
    rw [← hw1]
    clear hw1
    obtain ⟨c0_0, c0_1, c0_2, c0_3, c0_4, d0_0, d0_1, d0_2, d0_3, d0_4⟩ := cells5 B0_1
    have z0 : w.heap.size < w1.heap.size := B0_1.lt
    obtain ⟨⟨c1_0, c1_1, c1_2, c1_3, c1_4, c1_5, c1_6, c1_7, c1_8, c1_9, c1_10⟩, d1_0, d1_1, d1_2, d1_3, d1_4, d1_5, d1_6, d1_7, d1_8, d1_9, d1_10⟩ := cells11 B1_1
    have z1 : w.heap.size + 1 < w1.heap.size := B1_1.lt
    obtain ⟨c2_0, c2_1, c2_2, c2_3, c2_4, d2_0, d2_1, d2_2, d2_3, d2_4⟩ := cells5 B2_1
    have z2 : w.heap.size + 1 + 1 < w1.heap.size := B2_1.lt
    have mw := IsInts.keep uw hq1
    have mg := IsInts.keep ug hq1
    clear hq1
    go_wp2_with (fail)
    go_at_call 165
    refine (on4_ (Bx N w.heap.size (w.heap.size + 3)) _ _ (memS s m1) id 2 ⟨op, 1, [q0, v, q2, q3, q4, q5, q6, q7], fS⟩ _ (IsSys.mk rfl (IsInts.keep mw keq) (IsInts.keep mg keq) (IsCores.keep hcB keq) (IsEvs.keep hlB keq) : IsSys (Bx N w.heap.size (w.heap.size + 3)) _ _ (memS s m1)) (IsFrame.ofLit (IsInts.keep fsB keq) : IsFrame _ _ _ ⟨op, 1, [q0, v, q2, q3, q4, q5, q6, q7], fS⟩) (Bx.le hN (by first | omega | (simp <;> omega))) hC hFm).calls.mono ?_
    rintro e w2 ⟨_, rfl, hb2, hu2⟩
    obtain ⟨r1, r2, r3, r4, r5, r6, r7, r8, rfl, rW, rG, rC, rL⟩ := hu2.opened
    have B0_2 : Box w2 (w.heap.size) #[.slice u1 m1.W.length u2, .slice u3 m1.G.length u4, .bool m1.bad, .slice ac s.C.length cc, .slice al s.L.length cl] 83 := B0_1.ext hb2
    have B1_2 : Box w2 (w.heap.size + 1) #[.int .i64 op, .int .i64 1, .int .i64 q0, .int .i64 v, .int .i64 q2, .int .i64 q3, .int .i64 q4, .int .i64 q5, .int .i64 q6, .int .i64 q7, .slice ga fS.length gc] 95 := B1_1.ext hb2
    have B2_2 : Box w2 (w.heap.size + 1 + 1) #[.slice none 0 0, .slice none 0 0, .bool false, .slice none 0 0, .slice none 0 0] 83 := B2_1.ext hb2
    clear c0_0 c0_1 c0_2 c0_3 c0_4 d0_0 d0_1 d0_2 d0_3 d0_4 z0 c1_0 c1_1 c1_2 c1_3 c1_4 c1_5 c1_6 c1_7 c1_8 c1_9 c1_10 d1_0 d1_1 d1_2 d1_3 d1_4 d1_5 d1_6 d1_7 d1_8 d1_9 d1_10 z1 c2_0 c2_1 c2_2 c2_3 c2_4 d2_0 d2_1 d2_2 d2_3 d2_4 z2
    have s2 : w1.heap.size ≤ w2.heap.size := (by have h := hb2.size; first | omega | (simp at h; omega))
    obtain ⟨c0_0, c0_1, c0_2, c0_3, c0_4, d0_0, d0_1, d0_2, d0_3, d0_4⟩ := cells5 B0_2
    have z0 : w.heap.size < w2.heap.size := B0_2.lt
    obtain ⟨⟨c1_0, c1_1, c1_2, c1_3, c1_4, c1_5, c1_6, c1_7, c1_8, c1_9, c1_10⟩, d1_0, d1_1, d1_2, d1_3, d1_4, d1_5, d1_6, d1_7, d1_8, d1_9, d1_10⟩ := cells11 B1_2
    have z1 : w.heap.size + 1 < w2.heap.size := B1_2.lt
    obtain ⟨c2_0, c2_1, c2_2, c2_3, c2_4, d2_0, d2_1, d2_2, d2_3, d2_4⟩ := cells5 B2_2
    have z2 : w.heap.size + 1 + 1 < w2.heap.size := B2_2.lt
    go_wp2
    exact bodyPost_ret (ret_cell (cs := #[.slice r1 (setS (memS s m1) id (pcF ⟨op, 1, [q0, v, q2, q3, q4, q5, q6, q7], fS⟩ 2)).M.W.length r2, .slice r3 (setS (memS s m1) id (pcF ⟨op, 1, [q0, v, q2, q3, q4, q5, q6, q7], fS⟩ 2)).M.G.length r4, .bool (setS (memS s m1) id (pcF ⟨op, 1, [q0, v, q2, q3, q4, q5, q6, q7], fS⟩ 2)).M.bad, .slice r5 (setS (memS s m1) id (pcF ⟨op, 1, [q0, v, q2, q3, q4, q5, q6, q7], fS⟩ 2)).C.length r6, .slice r7 (setS (memS s m1) id (pcF ⟨op, 1, [q0, v, q2, q3, q4, q5, q6, q7], fS⟩ 2)).L.length r8]) (((((B2_2.setCell _).setCell _).setCell _).setCell _).setCell _) Proofs.Try.results152 rfl Proofs.Try.underlying83 rfl (by kernel_rfl)) rfl ⟨_, rfl, exn, IsSys.less (IsSys.keep hu2 keq) (fun _ _ hn => .inl hn)⟩
set_option maxHeartbeats 1000000 in
set_option maxRecDepth 100000 in
theorem pop_y2 (N : Nat → Prop) (s : SysD) (id op q0 q1 q2 q3 q4 q5 q6 q7 : Int) (fS : List Int) (aw ag ac al ga : Option Addr) (cw cg cc cl gc : Nat) (w : World) (hw : IsInts N w (.slice aw s.M.W.length cw) s.M.W) (hg : IsInts N w (.slice ag s.M.G.length cg) s.M.G) (hc : IsCores N w (.slice ac s.C.length cc) s.C) (hl : IsEvs N w (.slice al s.L.length cl) s.L) (fs : IsInts N w (.slice ga fS.length gc) fS)
    (hN : ∀ b, N b → b < w.heap.size) (hC : s.C.length ≤ 100000) (hFm : ∀ (i : Nat) c, s.C[i]? = some c → c.F.length ≤ 100000) (hfit : Fits s.M) (hcas : casIs s.M 0 q0 = true) (hfit1 : Fits (casD s.M 0 q0 (nextW q0 q1 0))) :
    Gives Proofs.Try.prog 152 #[.agg #[.slice aw s.M.W.length cw, .slice ag s.M.G.length cg, .bool s.M.bad, .slice ac s.C.length cc, .slice al s.L.length cl], .int .i64 id, .agg #[.int .i64 op, .int .i64 2, .int .i64 q0, .int .i64 q1, .int .i64 q2, .int .i64 q3, .int .i64 q4, .int .i64 q5, .int .i64 q6, .int .i64 q7, .slice ga fS.length gc]] w (fun r w' => IsSys N w' r (backS (memS s (turnMD (casD s.M 0 q0 (nextW q0 q1 0)) (idx q0) 1)) id (idx q0) 0)) := by
  have hwB := hw.bxn (hi := w.heap.size + 3)
  have hgB := hg.bxn (hi := w.heap.size + 3)
  have hcB := hc.bxn (hi := w.heap.size + 3)
  have hlB := hl.bxn (hi := w.heap.size + 3)
  have fsB := fs.bxn (hi := w.heap.size + 3)
  obtain ⟨m1, hm1⟩ : ∃ m, casD s.M 0 q0 (nextW q0 q1 0) = m := ⟨_, rfl⟩
  obtain ⟨nw, hnw⟩ : ∃ n, (nextW q0 q1 0) = n := ⟨_, rfl⟩
  have kx : ∀ w' : World, Gives Proofs.Try.prog 47 #[.int .i64 q0, .int .i64 q1, .int .i64 0] w' (eqv (.int .i64 nw)) := fun w' => by have := next_ q0 q1 0 w'; rw [hnw] at this; exact this
  have ks : ∀ (w' : World) (va : Value), IsMem (Bx N w.heap.size (w.heap.size + 3)) w' va s.M → w.heap.size + 3 ≤ w'.heap.size → Gives Proofs.Try.prog 66 #[va, .int .i64 0, .int .i64 q0, .int .i64 nw] w' (fun r w' => ∃ u, r = .tuple #[u, .bool true] ∧ IsMem (Bx N w.heap.size (w.heap.size + 3)) w' u m1) := fun w' va hm hsz => by
    have := memCas_ (Bx N w.heap.size (w.heap.size + 3)) va s.M 0 q0 (nextW q0 q1 0) w' hm hfit (Bx.le hN hsz) (by decide) (by decide)
    rw [hm1, hcas, hnw] at this; exact this
  rw [hm1] at hfit1
  obtain ⟨m2, hm2⟩ : ∃ m, turnMD m1 (idx q0) 1 = m := ⟨_, rfl⟩
  have kt : ∀ (w' : World) (va : Value), IsMem (Bx N w.heap.size (w.heap.size + 3)) w' va m1 → w.heap.size + 3 ≤ w'.heap.size → Gives Proofs.Try.prog 70 #[va, .int .i64 (idx q0), .int .i64 1] w' (fun r w' => IsMem (Bx N w.heap.size (w.heap.size + 3)) w' r m2) := fun w' va hm hsz => by
    have := memTurn_ (Bx N w.heap.size (w.heap.size + 3)) va m1 (idx q0) 1 w' hm hfit1 (Bx.le hN hsz)
    rw [hm2] at this; exact this
  rw [hm1, hm2]
  clear hm1 hm2 hnw
  go_enter Proofs.Try.func152, Proofs.Try.ntmps152
  go_wp2_with (fail)
  obtain ⟨W11, hW⟩ : ∃ W, W = (((w.alloc (.cells #[.slice aw s.M.W.length cw, .slice ag s.M.G.length cg, .bool s.M.bad, .slice ac s.C.length cc, .slice al s.L.length cl] 83 (0, 0))).alloc (.cells #[.int .i64 op, .int .i64 2, .int .i64 q0, .int .i64 q1, .int .i64 q2, .int .i64 q3, .int .i64 q4, .int .i64 q5, .int .i64 q6, .int .i64 q7, .slice ga fS.length gc] 95 (0, 0))).alloc (.cells #[.slice none 0 0, .slice none 0 0, .bool false, .slice none 0 0, .slice none 0 0] 83 (0, 0))) := ⟨_, rfl⟩
  have hX11 : Ext w W11 := by rw [hW]; exact exn
  have hK11 : Keep (Bx N w.heap.size (w.heap.size + 3)) w W11 := by rw [hW]; exact keq
  have D0_11 : Box (((w.alloc (.cells #[.slice aw s.M.W.length cw, .slice ag s.M.G.length cg, .bool s.M.bad, .slice ac s.C.length cc, .slice al s.L.length cl] 83 (0, 0))).alloc (.cells #[.int .i64 op, .int .i64 2, .int .i64 q0, .int .i64 q1, .int .i64 q2, .int .i64 q3, .int .i64 q4, .int .i64 q5, .int .i64 q6, .int .i64 q7, .slice ga fS.length gc] 95 (0, 0))).alloc (.cells #[.slice none 0 0, .slice none 0 0, .bool false, .slice none 0 0, .slice none 0 0] 83 (0, 0))) (w.heap.size) #[.slice aw s.M.W.length cw, .slice ag s.M.G.length cg, .bool s.M.bad, .slice ac s.C.length cc, .slice al s.L.length cl] 83 := (((Box.newAt _ _ _ (by first | rfl | simp)).alloc _).alloc _)
  rw [← hW] at D0_11
  have D1_11 : Box (((w.alloc (.cells #[.slice aw s.M.W.length cw, .slice ag s.M.G.length cg, .bool s.M.bad, .slice ac s.C.length cc, .slice al s.L.length cl] 83 (0, 0))).alloc (.cells #[.int .i64 op, .int .i64 2, .int .i64 q0, .int .i64 q1, .int .i64 q2, .int .i64 q3, .int .i64 q4, .int .i64 q5, .int .i64 q6, .int .i64 q7, .slice ga fS.length gc] 95 (0, 0))).alloc (.cells #[.slice none 0 0, .slice none 0 0, .bool false, .slice none 0 0, .slice none 0 0] 83 (0, 0))) (w.heap.size + 1) #[.int .i64 op, .int .i64 2, .int .i64 q0, .int .i64 q1, .int .i64 q2, .int .i64 q3, .int .i64 q4, .int .i64 q5, .int .i64 q6, .int .i64 q7, .slice ga fS.length gc] 95 := ((Box.newAt _ _ _ (by first | rfl | simp)).alloc _)
  rw [← hW] at D1_11
  have D2_11 : Box (((w.alloc (.cells #[.slice aw s.M.W.length cw, .slice ag s.M.G.length cg, .bool s.M.bad, .slice ac s.C.length cc, .slice al s.L.length cl] 83 (0, 0))).alloc (.cells #[.int .i64 op, .int .i64 2, .int .i64 q0, .int .i64 q1, .int .i64 q2, .int .i64 q3, .int .i64 q4, .int .i64 q5, .int .i64 q6, .int .i64 q7, .slice ga fS.length gc] 95 (0, 0))).alloc (.cells #[.slice none 0 0, .slice none 0 0, .bool false, .slice none 0 0, .slice none 0 0] 83 (0, 0))) (w.heap.size + 1 + 1) #[.slice none 0 0, .slice none 0 0, .bool false, .slice none 0 0, .slice none 0 0] 83 := (Box.newAt _ _ _ (by first | rfl | simp))
  rw [← hW] at D2_11
  have y11 : w.heap.size + 3 ≤ W11.heap.size := by rw [hW]; simp
  rw [← hW]
  clear hW
  have aM : IsMem (Bx N w.heap.size (w.heap.size + 3)) W11 (.agg #[.slice aw s.M.W.length cw, .slice ag s.M.G.length cg, .bool s.M.bad]) s.M := (IsMem.mk rfl hwB hgB : IsMem (Bx N w.heap.size (w.heap.size + 3)) w _ s.M).keep ((Keep.refl _ _).ext hX11)
  apply region_lit2 (T := [17]) (L := [15, 18]) (X := []) (G := [eqv _, eqv _, eqv _, eqv _, eqv _, eqv _, eqv _, eqv _, eqv _, eqv _, eqv _, eqv _, isTupN (Bx N w.heap.size (w.heap.size + 3)) m1 (.bool true), isTupN (Bx N w.heap.size (w.heap.size + 3)) m1 (.bool true), isMemN (Bx N w.heap.size (w.heap.size + 3)) m1, eqv (.bool true), isNew W11.heap.size #[.slice none 0 0, .slice none 0 0, .bool false] 50, anyG, eqv _])
  case hm => kernel_rfl
  case hop =>
    refine ⟨?_, ?_, ?_, ?_, ?_, ?_, ?_, ?_, ?_, ?_, ?_, ?_, ?_, ?_, ?_, ?_, ?_, ?_, ?_, trivial⟩
    · intro a wa hs hf hd
      have t3 := hf.off 3 (by kernel_rfl) rfl
      exact plain_ rfl (yes_eqv (o_fieldAddr rfl Proofs.Try.underlying83 rfl rfl (by kernel_rfl) t3) rfl)
    · intro a wa hs hf hd
      have t60 : a.eval (.tmp 60) = _ := hd.at 0 60 (by kernel_rfl)
      exact plain_ rfl (yes_eqv (o_load3 rfl Proofs.Try.underlying50 rfl (by kernel_rfl) t60 ((D0_11.since hs rfl).cell rfl) ((D0_11.since hs rfl).cell rfl) ((D0_11.since hs rfl).cell rfl)) rfl)
    · intro a wa hs hf hd
      have t5 := hf.off 5 (by kernel_rfl) rfl
      exact plain_ rfl (yes_eqv (o_fieldAddr rfl Proofs.Try.underlying95 rfl rfl (by kernel_rfl) t5) rfl)
    · intro a wa hs hf hd
      have t62 : a.eval (.tmp 62) = _ := hd.at 2 62 (by kernel_rfl)
      exact plain_ rfl (yes_eqv (o_indexAddrA (sz := 1) rfl Proofs.Try.underlying93 (by kernel_rfl) t62 rfl (by decide) (by decide)) rfl)
    · intro a wa hs hf hd
      have t63 : a.eval (.tmp 63) = _ := hd.at 3 63 (by kernel_rfl)
      exact plain_ rfl (yes_eqv (o_load1 rfl Proofs.Try.underlying3 rfl t63 ((D1_11.since hs rfl).cell rfl)) rfl)
    · intro a wa hs hf hd
      have t5 := hf.off 5 (by kernel_rfl) rfl
      exact plain_ rfl (yes_eqv (o_fieldAddr rfl Proofs.Try.underlying95 rfl rfl (by kernel_rfl) t5) rfl)
    · intro a wa hs hf hd
      have t65 : a.eval (.tmp 65) = _ := hd.at 5 65 (by kernel_rfl)
      exact plain_ rfl (yes_eqv (o_indexAddrA (sz := 1) rfl Proofs.Try.underlying93 (by kernel_rfl) t65 rfl (by decide) (by decide)) rfl)
    · intro a wa hs hf hd
      have t66 : a.eval (.tmp 66) = _ := hd.at 6 66 (by kernel_rfl)
      exact plain_ rfl (yes_eqv (o_load1 rfl Proofs.Try.underlying3 rfl t66 ((D1_11.since hs rfl).cell rfl)) rfl)
    · intro a wa hs hf hd
      have t5 := hf.off 5 (by kernel_rfl) rfl
      exact plain_ rfl (yes_eqv (o_fieldAddr rfl Proofs.Try.underlying95 rfl rfl (by kernel_rfl) t5) rfl)
    · intro a wa hs hf hd
      have t68 : a.eval (.tmp 68) = _ := hd.at 8 68 (by kernel_rfl)
      exact plain_ rfl (yes_eqv (o_indexAddrA (sz := 1) rfl Proofs.Try.underlying93 (by kernel_rfl) t68 rfl (by decide) (by decide)) rfl)
    · intro a wa hs hf hd
      have t69 : a.eval (.tmp 69) = _ := hd.at 9 69 (by kernel_rfl)
      exact plain_ rfl (yes_eqv (o_load1 rfl Proofs.Try.underlying3 rfl t69 ((D1_11.since hs rfl).cell rfl)) rfl)
    · intro a wa hs hf hd
      have t67 : a.eval (.tmp 67) = _ := hd.at 7 67 (by kernel_rfl)
      have t70 : a.eval (.tmp 70) = _ := hd.at 10 70 (by kernel_rfl)
      exact plain_ rfl (yes_gives (kx _) rfl rfl Proofs.Try.func47 (by kernel_rfl) (by kernel_rfl) (by simp only [List.map_toArray, List.map_cons, List.map_nil, eval_const, t67, t70]) rfl)
    · intro a wa hs hf hd
      have t61 : a.eval (.tmp 61) = _ := hd.at 1 61 (by kernel_rfl)
      have t64 : a.eval (.tmp 64) = _ := hd.at 4 64 (by kernel_rfl)
      have t71 : a.eval (.tmp 71) = _ := hd.at 11 71 (by kernel_rfl)
      exact plain_ rfl (yes_gives (ks _ _ (aM.keep (Since.to_ext hs).keep) (by have := (Since.to_ext hs).size; have := hX11.size; omega)) rfl rfl Proofs.Try.func66 (by kernel_rfl) (by kernel_rfl) (by simp only [List.map_toArray, List.map_cons, List.map_nil, eval_const, t61, t64, t71]) rfl)
    · intro a wa hs hf hd
      have t72 := hd.at 12 72 (by kernel_rfl)
      obtain ⟨u, hu, hm⟩ := t72
      exact plain_ rfl (yes_val (runs_ok (o_move rfl hu)) (Ext.refl _) ⟨u, rfl, hm⟩ rfl)
    · intro a wa hs hf hd
      have t59 := hd.at 13 59 (by kernel_rfl)
      obtain ⟨u, hu, hm⟩ := t59
      exact plain_ rfl (yes_val (runs_ok (o_extract rfl hu rfl)) (Ext.refl _) hm rfl)
    · intro a wb wa hs1 hs hf hd
      have t59 := hd.at 13 59 (by kernel_rfl)
      obtain ⟨u, hu, hm⟩ := t59
      exact plain_ rfl (late_eqv (o_extract rfl hu rfl) rfl)
    · intro a wa hs hf hd
      exact plain_ rfl (yes_new (z := .agg #[.slice none 0 0, .slice none 0 0, .bool false]) rfl (by kernel_rfl) (by kernel_rfl) rfl hs.size)
    · intro a wb wa hs1 hs hf hd hrun
      have t7 := hd.at 16 7 (by kernel_rfl)
      have t73 := hd.at 14 73 (by kernel_rfl)
      subst hrun
      have q18 : IsMem (Bx N w.heap.size (w.heap.size + 3)) _ (a.eval (.tmp 73)) m1 := t73
      obtain ⟨u1, u2, u3, u4, hv, _⟩ := q18.opened
      obtain ⟨bk, hp, hk, hBk⟩ := t7
      exact ⟨_, o_store rfl hp hv hBk (by kernel_rfl) (by simp [Value.cells, Value.oneCell']) (by first | (simp [Value.cells]; done) | (simp [Value.cells]; omega)) rfl, Since.put hs (.inl hk)⟩
    · intro a wb wa hs1 hs hf hd
      have t74 : a.eval (.tmp 74) = _ := hd.at 15 74 (by kernel_rfl)
      exact plain_ rfl (late_eqv (o_assign rfl t74) rfl)
  case hG => exact ⟨stable_eqv _, stable_eqv _, stable_eqv _, stable_eqv _, stable_eqv _, stable_eqv _, stable_eqv _, stable_eqv _, stable_eqv _, stable_eqv _, stable_eqv _, stable_eqv _, stable_isTupN _ _ _, stable_isTupN _ _ _, stable_isMemN _ _, stable_eqv _, stable_isNew _ _ _, stable_any, stable_eqv _, trivial⟩
  case hc => kernel_rfl
  case hfin =>
    intro v11 hs11
    rintro _ rfl _ rfl _ rfl _ rfl _ rfl _ rfl _ rfl _ rfl _ rfl _ rfl _ rfl _ rfl _ ⟨p12, rfl, h12⟩ _ ⟨p13, rfl, h13⟩ p14 h14 _ rfl _ ⟨bn16, rfl, hbn16, hBn16⟩ _ rfl
    obtain ⟨u1, u2, u3, u4, rfl, uw, ug⟩ := IsMem.opened h14
    rintro v11w ⟨o1, v1, ho1, hr1, rfl⟩
    cases ho1
    simp only [Act.put, List.setIfInBounds_toArray, List.set_cons_zero, List.set_cons_succ] at hr1 ⊢
    cases (hr1.symm.trans (o_store (v := .agg #[.slice u1 m1.W.length u2, .slice u3 m1.G.length u4, .bool m1.bad]) (new := #[.slice u1 m1.W.length u2, .slice u3 m1.G.length u4, .bool m1.bad]) rfl rfl rfl ((hBn16)) (by kernel_rfl) (by simp [Value.cells, Value.oneCell']) (by first | (simp [Value.cells]; done) | (simp [Value.cells]; omega)) (by first | rfl | kernel_rfl)))
    obtain ⟨w1, hw1⟩ : ∃ x, x = (put v11 bn16 (.cells #[.slice u1 m1.W.length u2, .slice u3 m1.G.length u4, .bool m1.bad] 50 (0, 0))) := ⟨_, rfl⟩
    have hW1 : Ext W11 v11 := Since.to_ext hs11
    have hb1 : Ext w w1 := by rw [hw1]; exact Since.to_ext ((Since.of_ext (hX11.trans hW1)).put (.inl (by have := hX11.size; omega)))
    have hk1 : Keep (Bx N w.heap.size (w.heap.size + 3)) w w1 := by rw [hw1]; exact ((hK11.ext hW1).put _ _ (.inl (by omega)))
    have hq1 : ∀ M v l, IsInts M v11 v l → IsInts M w1 v l := by intro M v l h; rw [hw1]; exact h.putNew hBn16 zero50
    have B0_1 : Box w1 (w.heap.size) #[.slice aw s.M.W.length cw, .slice ag s.M.G.length cg, .bool s.M.bad, .slice ac s.C.length cc, .slice al s.L.length cl] 83 := by rw [hw1]; exact (box_putOther (D0_11.since hs11 rfl) (by omega))
    have B1_1 : Box w1 (w.heap.size + 1) #[.int .i64 op, .int .i64 2, .int .i64 q0, .int .i64 q1, .int .i64 q2, .int .i64 q3, .int .i64 q4, .int .i64 q5, .int .i64 q6, .int .i64 q7, .slice ga fS.length gc] 95 := by rw [hw1]; exact (box_putOther (D1_11.since hs11 rfl) (by omega))
    have B2_1 : Box w1 (w.heap.size + 1 + 1) #[.slice none 0 0, .slice none 0 0, .bool false, .slice none 0 0, .slice none 0 0] 83 := by rw [hw1]; exact (box_putOther (D2_11.since hs11 rfl) (by omega))
    have BN11_16_1 : Box w1 (bn16) #[.slice u1 m1.W.length u2, .slice u3 m1.G.length u4, .bool m1.bad] 50 := by rw [hw1]; exact (hBn16).put
    have s1 : W11.heap.size ≤ w1.heap.size := by rw [hw1]; have := hW1.size; simpa [put] using this
    rw [← hw1]
    clear hw1
    obtain ⟨c0_0, c0_1, c0_2, c0_3, c0_4, d0_0, d0_1, d0_2, d0_3, d0_4⟩ := cells5 B0_1
    have z0 : w.heap.size < w1.heap.size := B0_1.lt
    obtain ⟨⟨c1_0, c1_1, c1_2, c1_3, c1_4, c1_5, c1_6, c1_7, c1_8, c1_9, c1_10⟩, d1_0, d1_1, d1_2, d1_3, d1_4, d1_5, d1_6, d1_7, d1_8, d1_9, d1_10⟩ := cells11 B1_1
    have z1 : w.heap.size + 1 < w1.heap.size := B1_1.lt
    obtain ⟨c2_0, c2_1, c2_2, c2_3, c2_4, d2_0, d2_1, d2_2, d2_3, d2_4⟩ := cells5 B2_1
    have z2 : w.heap.size + 1 + 1 < w1.heap.size := B2_1.lt
    obtain ⟨cN11_16_0, cN11_16_1, cN11_16_2, dN11_16_0, dN11_16_1, dN11_16_2⟩ := cells3 BN11_16_1
    have zN11_16 : bn16 < w1.heap.size := BN11_16_1.lt
    have mw := hq1 _ _ _ uw
    have mg := hq1 _ _ _ ug
    clear hq1
    go_wp2_with (fail)
    go_at_call 41
    refine (idx_ q0 _).calls.mono ?_
    rintro e w2 ⟨_, rfl, hb2, rfl⟩
    have B0_2 : Box w2 (w.heap.size) #[.slice u1 m1.W.length u2, .slice u3 m1.G.length u4, .bool m1.bad, .slice ac s.C.length cc, .slice al s.L.length cl] 83 := (((B0_1.setCell _).setCell _).setCell _).ext hb2
    have B1_2 : Box w2 (w.heap.size + 1) #[.int .i64 op, .int .i64 2, .int .i64 q0, .int .i64 q1, .int .i64 q2, .int .i64 q3, .int .i64 q4, .int .i64 q5, .int .i64 q6, .int .i64 q7, .slice ga fS.length gc] 95 := (((B1_1.setOther (by first | omega | (simp <;> omega)) _).setOther (by first | omega | (simp <;> omega)) _).setOther (by first | omega | (simp <;> omega)) _).ext hb2
    have B2_2 : Box w2 (w.heap.size + 1 + 1) #[.slice none 0 0, .slice none 0 0, .bool false, .slice none 0 0, .slice none 0 0] 83 := (((B2_1.setOther (by first | omega | (simp <;> omega)) _).setOther (by first | omega | (simp <;> omega)) _).setOther (by first | omega | (simp <;> omega)) _).ext hb2
    have BN11_16_2 : Box w2 (bn16) #[.slice u1 m1.W.length u2, .slice u3 m1.G.length u4, .bool m1.bad] 50 := (((BN11_16_1.setOther (by first | omega | (simp <;> omega)) _).setOther (by first | omega | (simp <;> omega)) _).setOther (by first | omega | (simp <;> omega)) _).ext hb2
    clear c0_0 c0_1 c0_2 c0_3 c0_4 d0_0 d0_1 d0_2 d0_3 d0_4 z0 c1_0 c1_1 c1_2 c1_3 c1_4 c1_5 c1_6 c1_7 c1_8 c1_9 c1_10 d1_0 d1_1 d1_2 d1_3 d1_4 d1_5 d1_6 d1_7 d1_8 d1_9 d1_10 z1 c2_0 c2_1 c2_2 c2_3 c2_4 d2_0 d2_1 d2_2 d2_3 d2_4 z2 cN11_16_0 cN11_16_1 cN11_16_2 dN11_16_0 dN11_16_1 dN11_16_2 zN11_16
    have s2 : w1.heap.size ≤ w2.heap.size := (by have h := hb2.size; first | omega | (simp at h; omega))
    obtain ⟨c0_0, c0_1, c0_2, c0_3, c0_4, d0_0, d0_1, d0_2, d0_3, d0_4⟩ := cells5 B0_2
    have z0 : w.heap.size < w2.heap.size := B0_2.lt
    obtain ⟨⟨c1_0, c1_1, c1_2, c1_3, c1_4, c1_5, c1_6, c1_7, c1_8, c1_9, c1_10⟩, d1_0, d1_1, d1_2, d1_3, d1_4, d1_5, d1_6, d1_7, d1_8, d1_9, d1_10⟩ := cells11 B1_2
    have z1 : w.heap.size + 1 < w2.heap.size := B1_2.lt
    obtain ⟨c2_0, c2_1, c2_2, c2_3, c2_4, d2_0, d2_1, d2_2, d2_3, d2_4⟩ := cells5 B2_2
    have z2 : w.heap.size + 1 + 1 < w2.heap.size := B2_2.lt
    obtain ⟨cN11_16_0, cN11_16_1, cN11_16_2, dN11_16_0, dN11_16_1, dN11_16_2⟩ := cells3 BN11_16_2
    have zN11_16 : bn16 < w2.heap.size := BN11_16_2.lt
    go_wp2_with (fail)
    go_at_call 70
    refine (kt _ _ (IsMem.mk rfl (IsInts.keep mw keq) (IsInts.keep mg keq) : IsMem (Bx N w.heap.size (w.heap.size + 3)) _ _ m1) (by first | omega | (simp <;> omega))).calls.mono ?_
    rintro e w3 ⟨_, rfl, hb3, hu3⟩
    obtain ⟨n1, n2, n3, n4, rfl, nw2, ng2⟩ := hu3.opened
    have B0_3 : Box w3 (w.heap.size) #[.slice u1 m1.W.length u2, .slice u3 m1.G.length u4, .bool m1.bad, .slice ac s.C.length cc, .slice al s.L.length cl] 83 := B0_2.ext hb3
    have B1_3 : Box w3 (w.heap.size + 1) #[.int .i64 op, .int .i64 2, .int .i64 q0, .int .i64 q1, .int .i64 q2, .int .i64 q3, .int .i64 q4, .int .i64 q5, .int .i64 q6, .int .i64 q7, .slice ga fS.length gc] 95 := B1_2.ext hb3
    have B2_3 : Box w3 (w.heap.size + 1 + 1) #[.slice none 0 0, .slice none 0 0, .bool false, .slice none 0 0, .slice none 0 0] 83 := B2_2.ext hb3
    have BN11_16_3 : Box w3 (bn16) #[.slice u1 m1.W.length u2, .slice u3 m1.G.length u4, .bool m1.bad] 50 := BN11_16_2.ext hb3
    clear c0_0 c0_1 c0_2 c0_3 c0_4 d0_0 d0_1 d0_2 d0_3 d0_4 z0 c1_0 c1_1 c1_2 c1_3 c1_4 c1_5 c1_6 c1_7 c1_8 c1_9 c1_10 d1_0 d1_1 d1_2 d1_3 d1_4 d1_5 d1_6 d1_7 d1_8 d1_9 d1_10 z1 c2_0 c2_1 c2_2 c2_3 c2_4 d2_0 d2_1 d2_2 d2_3 d2_4 z2 cN11_16_0 cN11_16_1 cN11_16_2 dN11_16_0 dN11_16_1 dN11_16_2 zN11_16
    have s3 : w2.heap.size ≤ w3.heap.size := (by have h := hb3.size; first | omega | (simp at h; omega))
    obtain ⟨c0_0, c0_1, c0_2, c0_3, c0_4, d0_0, d0_1, d0_2, d0_3, d0_4⟩ := cells5 B0_3
    have z0 : w.heap.size < w3.heap.size := B0_3.lt
    obtain ⟨⟨c1_0, c1_1, c1_2, c1_3, c1_4, c1_5, c1_6, c1_7, c1_8, c1_9, c1_10⟩, d1_0, d1_1, d1_2, d1_3, d1_4, d1_5, d1_6, d1_7, d1_8, d1_9, d1_10⟩ := cells11 B1_3
    have z1 : w.heap.size + 1 < w3.heap.size := B1_3.lt
    obtain ⟨c2_0, c2_1, c2_2, c2_3, c2_4, d2_0, d2_1, d2_2, d2_3, d2_4⟩ := cells5 B2_3
    have z2 : w.heap.size + 1 + 1 < w3.heap.size := B2_3.lt
    obtain ⟨cN11_16_0, cN11_16_1, cN11_16_2, dN11_16_0, dN11_16_1, dN11_16_2⟩ := cells3 BN11_16_3
    have zN11_16 : bn16 < w3.heap.size := BN11_16_3.lt
    go_wp2_with (fail)
    go_at_call 86
    refine (back_ (Bx N w.heap.size (w.heap.size + 3)) _ (memS s m2) id (idx q0) 0 _ (IsSys.mk rfl (IsInts.keep nw2 keq) (IsInts.keep ng2 keq) (IsCores.keep hcB keq) (IsEvs.keep hlB keq) : IsSys (Bx N w.heap.size (w.heap.size + 3)) _ _ (memS s m2)) (Bx.le hN (by first | omega | (simp <;> omega))) hC).calls.mono ?_
    rintro e w4 ⟨_, rfl, hb4, hu4⟩
    obtain ⟨r1, r2, r3, r4, r5, r6, r7, r8, rfl, rW, rG, rC, rL⟩ := hu4.opened
    have B0_4 : Box w4 (w.heap.size) #[.slice n1 m2.W.length n2, .slice n3 m2.G.length n4, .bool m2.bad, .slice ac s.C.length cc, .slice al s.L.length cl] 83 := (((B0_3.setCell _).setCell _).setCell _).ext hb4
    have B1_4 : Box w4 (w.heap.size + 1) #[.int .i64 op, .int .i64 2, .int .i64 q0, .int .i64 q1, .int .i64 q2, .int .i64 q3, .int .i64 q4, .int .i64 q5, .int .i64 q6, .int .i64 q7, .slice ga fS.length gc] 95 := (((B1_3.setOther (by first | omega | (simp <;> omega)) _).setOther (by first | omega | (simp <;> omega)) _).setOther (by first | omega | (simp <;> omega)) _).ext hb4
    have B2_4 : Box w4 (w.heap.size + 1 + 1) #[.slice none 0 0, .slice none 0 0, .bool false, .slice none 0 0, .slice none 0 0] 83 := (((B2_3.setOther (by first | omega | (simp <;> omega)) _).setOther (by first | omega | (simp <;> omega)) _).setOther (by first | omega | (simp <;> omega)) _).ext hb4
    have BN11_16_4 : Box w4 (bn16) #[.slice u1 m1.W.length u2, .slice u3 m1.G.length u4, .bool m1.bad] 50 := (((BN11_16_3.setOther (by first | omega | (simp <;> omega)) _).setOther (by first | omega | (simp <;> omega)) _).setOther (by first | omega | (simp <;> omega)) _).ext hb4
    clear c0_0 c0_1 c0_2 c0_3 c0_4 d0_0 d0_1 d0_2 d0_3 d0_4 z0 c1_0 c1_1 c1_2 c1_3 c1_4 c1_5 c1_6 c1_7 c1_8 c1_9 c1_10 d1_0 d1_1 d1_2 d1_3 d1_4 d1_5 d1_6 d1_7 d1_8 d1_9 d1_10 z1 c2_0 c2_1 c2_2 c2_3 c2_4 d2_0 d2_1 d2_2 d2_3 d2_4 z2 cN11_16_0 cN11_16_1 cN11_16_2 dN11_16_0 dN11_16_1 dN11_16_2 zN11_16
    have s4 : w3.heap.size ≤ w4.heap.size := (by have h := hb4.size; first | omega | (simp at h; omega))
    obtain ⟨c0_0, c0_1, c0_2, c0_3, c0_4, d0_0, d0_1, d0_2, d0_3, d0_4⟩ := cells5 B0_4
    have z0 : w.heap.size < w4.heap.size := B0_4.lt
    obtain ⟨⟨c1_0, c1_1, c1_2, c1_3, c1_4, c1_5, c1_6, c1_7, c1_8, c1_9, c1_10⟩, d1_0, d1_1, d1_2, d1_3, d1_4, d1_5, d1_6, d1_7, d1_8, d1_9, d1_10⟩ := cells11 B1_4
    have z1 : w.heap.size + 1 < w4.heap.size := B1_4.lt
    obtain ⟨c2_0, c2_1, c2_2, c2_3, c2_4, d2_0, d2_1, d2_2, d2_3, d2_4⟩ := cells5 B2_4
    have z2 : w.heap.size + 1 + 1 < w4.heap.size := B2_4.lt
    obtain ⟨cN11_16_0, cN11_16_1, cN11_16_2, dN11_16_0, dN11_16_1, dN11_16_2⟩ := cells3 BN11_16_4
    have zN11_16 : bn16 < w4.heap.size := BN11_16_4.lt
    go_wp2
    exact bodyPost_ret (ret_cell (cs := #[.slice r1 (backS (memS s m2) id (idx q0) 0).M.W.length r2, .slice r3 (backS (memS s m2) id (idx q0) 0).M.G.length r4, .bool (backS (memS s m2) id (idx q0) 0).M.bad, .slice r5 (backS (memS s m2) id (idx q0) 0).C.length r6, .slice r7 (backS (memS s m2) id (idx q0) 0).L.length r8]) (((((B2_4.setCell _).setCell _).setCell _).setCell _).setCell _) Proofs.Try.results152 rfl Proofs.Try.underlying83 rfl (by kernel_rfl)) rfl ⟨_, rfl, exn, IsSys.less (IsSys.keep hu4 keq) (fun _ _ hn => .inl hn)⟩
set_option maxHeartbeats 1000000 in
set_option maxRecDepth 100000 in
theorem pop_n2 (N : Nat → Prop) (s : SysD) (id op q0 q1 q2 q3 q4 q5 q6 q7 : Int) (fS : List Int) (aw ag ac al ga : Option Addr) (cw cg cc cl gc : Nat) (w : World) (hw : IsInts N w (.slice aw s.M.W.length cw) s.M.W) (hg : IsInts N w (.slice ag s.M.G.length cg) s.M.G) (hc : IsCores N w (.slice ac s.C.length cc) s.C) (hl : IsEvs N w (.slice al s.L.length cl) s.L) (fs : IsInts N w (.slice ga fS.length gc) fS)
    (hN : ∀ b, N b → b < w.heap.size) (hC : s.C.length ≤ 100000) (hFm : ∀ (i : Nat) c, s.C[i]? = some c → c.F.length ≤ 100000) (hfit : Fits s.M) (hcas : casIs s.M 0 q0 = false) :
    Gives Proofs.Try.prog 152 #[.agg #[.slice aw s.M.W.length cw, .slice ag s.M.G.length cg, .bool s.M.bad, .slice ac s.C.length cc, .slice al s.L.length cl], .int .i64 id, .agg #[.int .i64 op, .int .i64 2, .int .i64 q0, .int .i64 q1, .int .i64 q2, .int .i64 q3, .int .i64 q4, .int .i64 q5, .int .i64 q6, .int .i64 q7, .slice ga fS.length gc]] w (fun r w' => IsSys N w' r (onS s id (casD s.M 0 q0 (nextW q0 q1 0)) ⟨op, 2, [q0, q1, q2, q3, q4, q5, q6, q7], fS⟩ 0)) := by
  have hwB := hw.bxn (hi := w.heap.size + 3)
  have hgB := hg.bxn (hi := w.heap.size + 3)
  have hcB := hc.bxn (hi := w.heap.size + 3)
  have hlB := hl.bxn (hi := w.heap.size + 3)
  have fsB := fs.bxn (hi := w.heap.size + 3)
  obtain ⟨m1, hm1⟩ : ∃ m, casD s.M 0 q0 (nextW q0 q1 0) = m := ⟨_, rfl⟩
  obtain ⟨nw, hnw⟩ : ∃ n, (nextW q0 q1 0) = n := ⟨_, rfl⟩
  have kx : ∀ w' : World, Gives Proofs.Try.prog 47 #[.int .i64 q0, .int .i64 q1, .int .i64 0] w' (eqv (.int .i64 nw)) := fun w' => by have := next_ q0 q1 0 w'; rw [hnw] at this; exact this
  have ks : ∀ (w' : World) (va : Value), IsMem (Bx N w.heap.size (w.heap.size + 3)) w' va s.M → w.heap.size + 3 ≤ w'.heap.size → Gives Proofs.Try.prog 66 #[va, .int .i64 0, .int .i64 q0, .int .i64 nw] w' (fun r w' => ∃ u, r = .tuple #[u, .bool false] ∧ IsMem (Bx N w.heap.size (w.heap.size + 3)) w' u m1) := fun w' va hm hsz => by
    have := memCas_ (Bx N w.heap.size (w.heap.size + 3)) va s.M 0 q0 (nextW q0 q1 0) w' hm hfit (Bx.le hN hsz) (by decide) (by decide)
    rw [hm1, hcas, hnw] at this; exact this
  rw [hm1]
  clear hm1 hnw
  go_enter Proofs.Try.func152, Proofs.Try.ntmps152
  go_wp2_with (fail)
  obtain ⟨W11, hW⟩ : ∃ W, W = (((w.alloc (.cells #[.slice aw s.M.W.length cw, .slice ag s.M.G.length cg, .bool s.M.bad, .slice ac s.C.length cc, .slice al s.L.length cl] 83 (0, 0))).alloc (.cells #[.int .i64 op, .int .i64 2, .int .i64 q0, .int .i64 q1, .int .i64 q2, .int .i64 q3, .int .i64 q4, .int .i64 q5, .int .i64 q6, .int .i64 q7, .slice ga fS.length gc] 95 (0, 0))).alloc (.cells #[.slice none 0 0, .slice none 0 0, .bool false, .slice none 0 0, .slice none 0 0] 83 (0, 0))) := ⟨_, rfl⟩
  have hX11 : Ext w W11 := by rw [hW]; exact exn
  have hK11 : Keep (Bx N w.heap.size (w.heap.size + 3)) w W11 := by rw [hW]; exact keq
  have D0_11 : Box (((w.alloc (.cells #[.slice aw s.M.W.length cw, .slice ag s.M.G.length cg, .bool s.M.bad, .slice ac s.C.length cc, .slice al s.L.length cl] 83 (0, 0))).alloc (.cells #[.int .i64 op, .int .i64 2, .int .i64 q0, .int .i64 q1, .int .i64 q2, .int .i64 q3, .int .i64 q4, .int .i64 q5, .int .i64 q6, .int .i64 q7, .slice ga fS.length gc] 95 (0, 0))).alloc (.cells #[.slice none 0 0, .slice none 0 0, .bool false, .slice none 0 0, .slice none 0 0] 83 (0, 0))) (w.heap.size) #[.slice aw s.M.W.length cw, .slice ag s.M.G.length cg, .bool s.M.bad, .slice ac s.C.length cc, .slice al s.L.length cl] 83 := (((Box.newAt _ _ _ (by first | rfl | simp)).alloc _).alloc _)
  rw [← hW] at D0_11
  have D1_11 : Box (((w.alloc (.cells #[.slice aw s.M.W.length cw, .slice ag s.M.G.length cg, .bool s.M.bad, .slice ac s.C.length cc, .slice al s.L.length cl] 83 (0, 0))).alloc (.cells #[.int .i64 op, .int .i64 2, .int .i64 q0, .int .i64 q1, .int .i64 q2, .int .i64 q3, .int .i64 q4, .int .i64 q5, .int .i64 q6, .int .i64 q7, .slice ga fS.length gc] 95 (0, 0))).alloc (.cells #[.slice none 0 0, .slice none 0 0, .bool false, .slice none 0 0, .slice none 0 0] 83 (0, 0))) (w.heap.size + 1) #[.int .i64 op, .int .i64 2, .int .i64 q0, .int .i64 q1, .int .i64 q2, .int .i64 q3, .int .i64 q4, .int .i64 q5, .int .i64 q6, .int .i64 q7, .slice ga fS.length gc] 95 := ((Box.newAt _ _ _ (by first | rfl | simp)).alloc _)
  rw [← hW] at D1_11
  have D2_11 : Box (((w.alloc (.cells #[.slice aw s.M.W.length cw, .slice ag s.M.G.length cg, .bool s.M.bad, .slice ac s.C.length cc, .slice al s.L.length cl] 83 (0, 0))).alloc (.cells #[.int .i64 op, .int .i64 2, .int .i64 q0, .int .i64 q1, .int .i64 q2, .int .i64 q3, .int .i64 q4, .int .i64 q5, .int .i64 q6, .int .i64 q7, .slice ga fS.length gc] 95 (0, 0))).alloc (.cells #[.slice none 0 0, .slice none 0 0, .bool false, .slice none 0 0, .slice none 0 0] 83 (0, 0))) (w.heap.size + 1 + 1) #[.slice none 0 0, .slice none 0 0, .bool false, .slice none 0 0, .slice none 0 0] 83 := (Box.newAt _ _ _ (by first | rfl | simp))
  rw [← hW] at D2_11
  have y11 : w.heap.size + 3 ≤ W11.heap.size := by rw [hW]; simp
  rw [← hW]
  clear hW
  have aM : IsMem (Bx N w.heap.size (w.heap.size + 3)) W11 (.agg #[.slice aw s.M.W.length cw, .slice ag s.M.G.length cg, .bool s.M.bad]) s.M := (IsMem.mk rfl hwB hgB : IsMem (Bx N w.heap.size (w.heap.size + 3)) w _ s.M).keep ((Keep.refl _ _).ext hX11)
  apply region_lit2 (T := [17]) (L := [15, 18]) (X := []) (G := [eqv _, eqv _, eqv _, eqv _, eqv _, eqv _, eqv _, eqv _, eqv _, eqv _, eqv _, eqv _, isTupN (Bx N w.heap.size (w.heap.size + 3)) m1 (.bool false), isTupN (Bx N w.heap.size (w.heap.size + 3)) m1 (.bool false), isMemN (Bx N w.heap.size (w.heap.size + 3)) m1, eqv (.bool false), isNew W11.heap.size #[.slice none 0 0, .slice none 0 0, .bool false] 50, anyG, eqv _])
  case hm => kernel_rfl
  case hop =>
    refine ⟨?_, ?_, ?_, ?_, ?_, ?_, ?_, ?_, ?_, ?_, ?_, ?_, ?_, ?_, ?_, ?_, ?_, ?_, ?_, trivial⟩
    · intro a wa hs hf hd
      have t3 := hf.off 3 (by kernel_rfl) rfl
      exact plain_ rfl (yes_eqv (o_fieldAddr rfl Proofs.Try.underlying83 rfl rfl (by kernel_rfl) t3) rfl)
    · intro a wa hs hf hd
      have t60 : a.eval (.tmp 60) = _ := hd.at 0 60 (by kernel_rfl)
      exact plain_ rfl (yes_eqv (o_load3 rfl Proofs.Try.underlying50 rfl (by kernel_rfl) t60 ((D0_11.since hs rfl).cell rfl) ((D0_11.since hs rfl).cell rfl) ((D0_11.since hs rfl).cell rfl)) rfl)
    · intro a wa hs hf hd
      have t5 := hf.off 5 (by kernel_rfl) rfl
      exact plain_ rfl (yes_eqv (o_fieldAddr rfl Proofs.Try.underlying95 rfl rfl (by kernel_rfl) t5) rfl)
    · intro a wa hs hf hd
      have t62 : a.eval (.tmp 62) = _ := hd.at 2 62 (by kernel_rfl)
      exact plain_ rfl (yes_eqv (o_indexAddrA (sz := 1) rfl Proofs.Try.underlying93 (by kernel_rfl) t62 rfl (by decide) (by decide)) rfl)
    · intro a wa hs hf hd
      have t63 : a.eval (.tmp 63) = _ := hd.at 3 63 (by kernel_rfl)
      exact plain_ rfl (yes_eqv (o_load1 rfl Proofs.Try.underlying3 rfl t63 ((D1_11.since hs rfl).cell rfl)) rfl)
    · intro a wa hs hf hd
      have t5 := hf.off 5 (by kernel_rfl) rfl
      exact plain_ rfl (yes_eqv (o_fieldAddr rfl Proofs.Try.underlying95 rfl rfl (by kernel_rfl) t5) rfl)
    · intro a wa hs hf hd
      have t65 : a.eval (.tmp 65) = _ := hd.at 5 65 (by kernel_rfl)
      exact plain_ rfl (yes_eqv (o_indexAddrA (sz := 1) rfl Proofs.Try.underlying93 (by kernel_rfl) t65 rfl (by decide) (by decide)) rfl)
    · intro a wa hs hf hd
      have t66 : a.eval (.tmp 66) = _ := hd.at 6 66 (by kernel_rfl)
      exact plain_ rfl (yes_eqv (o_load1 rfl Proofs.Try.underlying3 rfl t66 ((D1_11.since hs rfl).cell rfl)) rfl)
    · intro a wa hs hf hd
      have t5 := hf.off 5 (by kernel_rfl) rfl
      exact plain_ rfl (yes_eqv (o_fieldAddr rfl Proofs.Try.underlying95 rfl rfl (by kernel_rfl) t5) rfl)
    · intro a wa hs hf hd
      have t68 : a.eval (.tmp 68) = _ := hd.at 8 68 (by kernel_rfl)
      exact plain_ rfl (yes_eqv (o_indexAddrA (sz := 1) rfl Proofs.Try.underlying93 (by kernel_rfl) t68 rfl (by decide) (by decide)) rfl)
    · intro a wa hs hf hd
      have t69 : a.eval (.tmp 69) = _ := hd.at 9 69 (by kernel_rfl)
      exact plain_ rfl (yes_eqv (o_load1 rfl Proofs.Try.underlying3 rfl t69 ((D1_11.since hs rfl).cell rfl)) rfl)
    · intro a wa hs hf hd
      have t67 : a.eval (.tmp 67) = _ := hd.at 7 67 (by kernel_rfl)
      have t70 : a.eval (.tmp 70) = _ := hd.at 10 70 (by kernel_rfl)
      exact plain_ rfl (yes_gives (kx _) rfl rfl Proofs.Try.func47 (by kernel_rfl) (by kernel_rfl) (by simp only [List.map_toArray, List.map_cons, List.map_nil, eval_const, t67, t70]) rfl)
    · intro a wa hs hf hd
      have t61 : a.eval (.tmp 61) = _ := hd.at 1 61 (by kernel_rfl)
      have t64 : a.eval (.tmp 64) = _ := hd.at 4 64 (by kernel_rfl)
      have t71 : a.eval (.tmp 71) = _ := hd.at 11 71 (by kernel_rfl)
      exact plain_ rfl (yes_gives (ks _ _ (aM.keep (Since.to_ext hs).keep) (by have := (Since.to_ext hs).size; have := hX11.size; omega)) rfl rfl Proofs.Try.func66 (by kernel_rfl) (by kernel_rfl) (by simp only [List.map_toArray, List.map_cons, List.map_nil, eval_const, t61, t64, t71]) rfl)
    · intro a wa hs hf hd
      have t72 := hd.at 12 72 (by kernel_rfl)
      obtain ⟨u, hu, hm⟩ := t72
      exact plain_ rfl (yes_val (runs_ok (o_move rfl hu)) (Ext.refl _) ⟨u, rfl, hm⟩ rfl)
    · intro a wa hs hf hd
      have t59 := hd.at 13 59 (by kernel_rfl)
      obtain ⟨u, hu, hm⟩ := t59
      exact plain_ rfl (yes_val (runs_ok (o_extract rfl hu rfl)) (Ext.refl _) hm rfl)
    · intro a wb wa hs1 hs hf hd
      have t59 := hd.at 13 59 (by kernel_rfl)
      obtain ⟨u, hu, hm⟩ := t59
      exact plain_ rfl (late_eqv (o_extract rfl hu rfl) rfl)
    · intro a wa hs hf hd
      exact plain_ rfl (yes_new (z := .agg #[.slice none 0 0, .slice none 0 0, .bool false]) rfl (by kernel_rfl) (by kernel_rfl) rfl hs.size)
    · intro a wb wa hs1 hs hf hd hrun
      have t7 := hd.at 16 7 (by kernel_rfl)
      have t73 := hd.at 14 73 (by kernel_rfl)
      subst hrun
      have q18 : IsMem (Bx N w.heap.size (w.heap.size + 3)) _ (a.eval (.tmp 73)) m1 := t73
      obtain ⟨u1, u2, u3, u4, hv, _⟩ := q18.opened
      obtain ⟨bk, hp, hk, hBk⟩ := t7
      exact ⟨_, o_store rfl hp hv hBk (by kernel_rfl) (by simp [Value.cells, Value.oneCell']) (by first | (simp [Value.cells]; done) | (simp [Value.cells]; omega)) rfl, Since.put hs (.inl hk)⟩
    · intro a wb wa hs1 hs hf hd
      have t74 : a.eval (.tmp 74) = _ := hd.at 15 74 (by kernel_rfl)
      exact plain_ rfl (late_eqv (o_assign rfl t74) rfl)
  case hG => exact ⟨stable_eqv _, stable_eqv _, stable_eqv _, stable_eqv _, stable_eqv _, stable_eqv _, stable_eqv _, stable_eqv _, stable_eqv _, stable_eqv _, stable_eqv _, stable_eqv _, stable_isTupN _ _ _, stable_isTupN _ _ _, stable_isMemN _ _, stable_eqv _, stable_isNew _ _ _, stable_any, stable_eqv _, trivial⟩
  case hc => kernel_rfl
  case hfin =>
    intro v11 hs11
    rintro _ rfl _ rfl _ rfl _ rfl _ rfl _ rfl _ rfl _ rfl _ rfl _ rfl _ rfl _ rfl _ ⟨p12, rfl, h12⟩ _ ⟨p13, rfl, h13⟩ p14 h14 _ rfl _ ⟨bn16, rfl, hbn16, hBn16⟩ _ rfl
    obtain ⟨u1, u2, u3, u4, rfl, uw, ug⟩ := IsMem.opened h14
    rintro v11w ⟨o1, v1, ho1, hr1, rfl⟩
    cases ho1
    simp only [Act.put, List.setIfInBounds_toArray, List.set_cons_zero, List.set_cons_succ] at hr1 ⊢
    cases (hr1.symm.trans (o_store (v := .agg #[.slice u1 m1.W.length u2, .slice u3 m1.G.length u4, .bool m1.bad]) (new := #[.slice u1 m1.W.length u2, .slice u3 m1.G.length u4, .bool m1.bad]) rfl rfl rfl ((hBn16)) (by kernel_rfl) (by simp [Value.cells, Value.oneCell']) (by first | (simp [Value.cells]; done) | (simp [Value.cells]; omega)) (by first | rfl | kernel_rfl)))
    obtain ⟨w1, hw1⟩ : ∃ x, x = (put v11 bn16 (.cells #[.slice u1 m1.W.length u2, .slice u3 m1.G.length u4, .bool m1.bad] 50 (0, 0))) := ⟨_, rfl⟩
    have hW1 : Ext W11 v11 := Since.to_ext hs11
    have hb1 : Ext w w1 := by rw [hw1]; exact Since.to_ext ((Since.of_ext (hX11.trans hW1)).put (.inl (by have := hX11.size; omega)))
    have hk1 : Keep (Bx N w.heap.size (w.heap.size + 3)) w w1 := by rw [hw1]; exact ((hK11.ext hW1).put _ _ (.inl (by omega)))
    have hq1 : ∀ M v l, IsInts M v11 v l → IsInts M w1 v l := by intro M v l h; rw [hw1]; exact h.putNew hBn16 zero50
    have B0_1 : Box w1 (w.heap.size) #[.slice aw s.M.W.length cw, .slice ag s.M.G.length cg, .bool s.M.bad, .slice ac s.C.length cc, .slice al s.L.length cl] 83 := by rw [hw1]; exact (box_putOther (D0_11.since hs11 rfl) (by omega))
    have B1_1 : Box w1 (w.heap.size + 1) #[.int .i64 op, .int .i64 2, .int .i64 q0, .int .i64 q1, .int .i64 q2, .int .i64 q3, .int .i64 q4, .int .i64 q5, .int .i64 q6, .int .i64 q7, .slice ga fS.length gc] 95 := by rw [hw1]; exact (box_putOther (D1_11.since hs11 rfl) (by omega))
    have B2_1 : Box w1 (w.heap.size + 1 + 1) #[.slice none 0 0, .slice none 0 0, .bool false, .slice none 0 0, .slice none 0 0] 83 := by rw [hw1]; exact (box_putOther (D2_11.since hs11 rfl) (by omega))
    have BN11_16_1 : Box w1 (bn16) #[.slice u1 m1.W.length u2, .slice u3 m1.G.length u4, .bool m1.bad] 50 := by rw [hw1]; exact (hBn16).put
    have s1 : W11.heap.size ≤ w1.heap.size := by rw [hw1]; have := hW1.size; simpa [put] using this
    rw [← hw1]
    clear hw1
    obtain ⟨c0_0, c0_1, c0_2, c0_3, c0_4, d0_0, d0_1, d0_2, d0_3, d0_4⟩ := cells5 B0_1
    have z0 : w.heap.size < w1.heap.size := B0_1.lt
    obtain ⟨⟨c1_0, c1_1, c1_2, c1_3, c1_4, c1_5, c1_6, c1_7, c1_8, c1_9, c1_10⟩, d1_0, d1_1, d1_2, d1_3, d1_4, d1_5, d1_6, d1_7, d1_8, d1_9, d1_10⟩ := cells11 B1_1
    have z1 : w.heap.size + 1 < w1.heap.size := B1_1.lt
    obtain ⟨c2_0, c2_1, c2_2, c2_3, c2_4, d2_0, d2_1, d2_2, d2_3, d2_4⟩ := cells5 B2_1
    have z2 : w.heap.size + 1 + 1 < w1.heap.size := B2_1.lt
    obtain ⟨cN11_16_0, cN11_16_1, cN11_16_2, dN11_16_0, dN11_16_1, dN11_16_2⟩ := cells3 BN11_16_1
    have zN11_16 : bn16 < w1.heap.size := BN11_16_1.lt
    have mw := hq1 _ _ _ uw
    have mg := hq1 _ _ _ ug
    clear hq1
    go_wp2_with (fail)
    go_at_call 165
    refine (on4_ (Bx N w.heap.size (w.heap.size + 3)) _ _ (memS s m1) id 0 ⟨op, 2, [q0, q1, q2, q3, q4, q5, q6, q7], fS⟩ _ (IsSys.mk rfl (IsInts.keep mw keq) (IsInts.keep mg keq) (IsCores.keep hcB keq) (IsEvs.keep hlB keq) : IsSys (Bx N w.heap.size (w.heap.size + 3)) _ _ (memS s m1)) (IsFrame.ofLit (IsInts.keep fsB keq) : IsFrame _ _ _ ⟨op, 2, [q0, q1, q2, q3, q4, q5, q6, q7], fS⟩) (Bx.le hN (by first | omega | (simp <;> omega))) hC hFm).calls.mono ?_
    rintro e w2 ⟨_, rfl, hb2, hu2⟩
    obtain ⟨r1, r2, r3, r4, r5, r6, r7, r8, rfl, rW, rG, rC, rL⟩ := hu2.opened
    have B0_2 : Box w2 (w.heap.size) #[.slice u1 m1.W.length u2, .slice u3 m1.G.length u4, .bool m1.bad, .slice ac s.C.length cc, .slice al s.L.length cl] 83 := (((B0_1.setCell _).setCell _).setCell _).ext hb2
    have B1_2 : Box w2 (w.heap.size + 1) #[.int .i64 op, .int .i64 2, .int .i64 q0, .int .i64 q1, .int .i64 q2, .int .i64 q3, .int .i64 q4, .int .i64 q5, .int .i64 q6, .int .i64 q7, .slice ga fS.length gc] 95 := (((B1_1.setOther (by first | omega | (simp <;> omega)) _).setOther (by first | omega | (simp <;> omega)) _).setOther (by first | omega | (simp <;> omega)) _).ext hb2
    have B2_2 : Box w2 (w.heap.size + 1 + 1) #[.slice none 0 0, .slice none 0 0, .bool false, .slice none 0 0, .slice none 0 0] 83 := (((B2_1.setOther (by first | omega | (simp <;> omega)) _).setOther (by first | omega | (simp <;> omega)) _).setOther (by first | omega | (simp <;> omega)) _).ext hb2
    have BN11_16_2 : Box w2 (bn16) #[.slice u1 m1.W.length u2, .slice u3 m1.G.length u4, .bool m1.bad] 50 := (((BN11_16_1.setOther (by first | omega | (simp <;> omega)) _).setOther (by first | omega | (simp <;> omega)) _).setOther (by first | omega | (simp <;> omega)) _).ext hb2
    clear c0_0 c0_1 c0_2 c0_3 c0_4 d0_0 d0_1 d0_2 d0_3 d0_4 z0 c1_0 c1_1 c1_2 c1_3 c1_4 c1_5 c1_6 c1_7 c1_8 c1_9 c1_10 d1_0 d1_1 d1_2 d1_3 d1_4 d1_5 d1_6 d1_7 d1_8 d1_9 d1_10 z1 c2_0 c2_1 c2_2 c2_3 c2_4 d2_0 d2_1 d2_2 d2_3 d2_4 z2 cN11_16_0 cN11_16_1 cN11_16_2 dN11_16_0 dN11_16_1 dN11_16_2 zN11_16
    have s2 : w1.heap.size ≤ w2.heap.size := (by have h := hb2.size; first | omega | (simp at h; omega))
    obtain ⟨c0_0, c0_1, c0_2, c0_3, c0_4, d0_0, d0_1, d0_2, d0_3, d0_4⟩ := cells5 B0_2
    have z0 : w.heap.size < w2.heap.size := B0_2.lt
    obtain ⟨⟨c1_0, c1_1, c1_2, c1_3, c1_4, c1_5, c1_6, c1_7, c1_8, c1_9, c1_10⟩, d1_0, d1_1, d1_2, d1_3, d1_4, d1_5, d1_6, d1_7, d1_8, d1_9, d1_10⟩ := cells11 B1_2
    have z1 : w.heap.size + 1 < w2.heap.size := B1_2.lt
    obtain ⟨c2_0, c2_1, c2_2, c2_3, c2_4, d2_0, d2_1, d2_2, d2_3, d2_4⟩ := cells5 B2_2
    have z2 : w.heap.size + 1 + 1 < w2.heap.size := B2_2.lt
    obtain ⟨cN11_16_0, cN11_16_1, cN11_16_2, dN11_16_0, dN11_16_1, dN11_16_2⟩ := cells3 BN11_16_2
    have zN11_16 : bn16 < w2.heap.size := BN11_16_2.lt
    go_wp2
    exact bodyPost_ret (ret_cell (cs := #[.slice r1 (setS (memS s m1) id (pcF ⟨op, 2, [q0, q1, q2, q3, q4, q5, q6, q7], fS⟩ 0)).M.W.length r2, .slice r3 (setS (memS s m1) id (pcF ⟨op, 2, [q0, q1, q2, q3, q4, q5, q6, q7], fS⟩ 0)).M.G.length r4, .bool (setS (memS s m1) id (pcF ⟨op, 2, [q0, q1, q2, q3, q4, q5, q6, q7], fS⟩ 0)).M.bad, .slice r5 (setS (memS s m1) id (pcF ⟨op, 2, [q0, q1, q2, q3, q4, q5, q6, q7], fS⟩ 0)).C.length r6, .slice r7 (setS (memS s m1) id (pcF ⟨op, 2, [q0, q1, q2, q3, q4, q5, q6, q7], fS⟩ 0)).L.length r8]) (((((B2_2.setCell _).setCell _).setCell _).setCell _).setCell _) Proofs.Try.results152 rfl Proofs.Try.underlying83 rfl (by kernel_rfl)) rfl ⟨_, rfl, exn, IsSys.less (IsSys.keep hu2 keq) (fun _ _ hn => .inl hn)⟩
set_option maxHeartbeats 1000000 in
set_option maxRecDepth 100000 in
theorem pop_o (N : Nat → Prop) (s : SysD) (id op pc q0 q1 q2 q3 q4 q5 q6 q7 : Int) (fS : List Int) (aw ag ac al ga : Option Addr) (cw cg cc cl gc : Nat) (w : World) (hw : IsInts N w (.slice aw s.M.W.length cw) s.M.W) (hg : IsInts N w (.slice ag s.M.G.length cg) s.M.G) (hc : IsCores N w (.slice ac s.C.length cc) s.C) (hl : IsEvs N w (.slice al s.L.length cl) s.L) (fs : IsInts N w (.slice ga fS.length gc) fS)
    (hN : ∀ b, N b → b < w.heap.size) (hC : s.C.length ≤ 100000) (hFm : ∀ (i : Nat) c, s.C[i]? = some c → c.F.length ≤ 100000) (hfit : Fits s.M) (p0 : (pc == 0) = false) (p1 : (pc == 1) = false) (p2 : (pc == 2) = false) (p3 : (pc != 0) = true) (p4 : (pc != 2) = true) :
    Gives Proofs.Try.prog 152 #[.agg #[.slice aw s.M.W.length cw, .slice ag s.M.G.length cg, .bool s.M.bad, .slice ac s.C.length cc, .slice al s.L.length cl], .int .i64 id, .agg #[.int .i64 op, .int .i64 pc, .int .i64 q0, .int .i64 q1, .int .i64 q2, .int .i64 q3, .int .i64 q4, .int .i64 q5, .int .i64 q6, .int .i64 q7, .slice ga fS.length gc]] w (fun r w' => IsSys N w' r (s)) := by
  have hwB := hw.bxn (hi := w.heap.size + 3)
  have hgB := hg.bxn (hi := w.heap.size + 3)
  have hcB := hc.bxn (hi := w.heap.size + 3)
  have hlB := hl.bxn (hi := w.heap.size + 3)
  have fsB := fs.bxn (hi := w.heap.size + 3)
  go_enter Proofs.Try.func152, Proofs.Try.ntmps152
  go_wp2
  exact bodyPost_ret (ret_cell (cs := #[.slice aw s.M.W.length cw, .slice ag s.M.G.length cg, .bool s.M.bad, .slice ac s.C.length cc, .slice al s.L.length cl]) (Box.newAt _ _ _ (by first | rfl | simp)) Proofs.Try.results152 rfl Proofs.Try.underlying83 rfl (by kernel_rfl)) rfl ⟨_, rfl, exn, IsSys.mk rfl (hw.ext exn) (hg.ext exn) (IsCores.keep hc (show Ext w _ from exn).keep) (IsEvs.keep hl (show Ext w _ from exn).keep)⟩
set_option maxHeartbeats 1000000 in
set_option maxRecDepth 100000 in
theorem push_n0 (N : Nat → Prop) (s : SysD) (id op q0 q1 q2 q3 q4 q5 q6 q7 : Int) (fS : List Int) (aw ag ac al ga : Option Addr) (cw cg cc cl gc : Nat) (w : World) (hw : IsInts N w (.slice aw s.M.W.length cw) s.M.W) (hg : IsInts N w (.slice ag s.M.G.length cg) s.M.G) (hc : IsCores N w (.slice ac s.C.length cc) s.C) (hl : IsEvs N w (.slice al s.L.length cl) s.L) (fs : IsInts N w (.slice ga fS.length gc) fS)
    (hN : ∀ b, N b → b < w.heap.size) (hC : s.C.length ≤ 100000) (hFm : ∀ (i : Nat) c, s.C[i]? = some c → c.F.length ≤ 100000) (hfit : Fits s.M)  :
    Gives Proofs.Try.prog 153 #[.agg #[.slice aw s.M.W.length cw, .slice ag s.M.G.length cg, .bool s.M.bad, .slice ac s.C.length cc, .slice al s.L.length cl], .int .i64 id, .agg #[.int .i64 op, .int .i64 0, .int .i64 q0, .int .i64 q1, .int .i64 q2, .int .i64 q3, .int .i64 q4, .int .i64 q5, .int .i64 q6, .int .i64 q7, .slice ga fS.length gc]] w (fun r w' => IsSys N w' r (onS s id (touchD s.M 0) ⟨op, 0, [q0, loadD s.M 0, q2, q3, q4, q5, q6, q7], fS⟩ 1)) := by
  have hwB := hw.bxn (hi := w.heap.size + 3)
  have hgB := hg.bxn (hi := w.heap.size + 3)
  have hcB := hc.bxn (hi := w.heap.size + 3)
  have hlB := hl.bxn (hi := w.heap.size + 3)
  have fsB := fs.bxn (hi := w.heap.size + 3)
  obtain ⟨m1, hm1⟩ : ∃ m, touchD s.M 0 = m := ⟨_, rfl⟩
  obtain ⟨v, hv⟩ : ∃ x, loadD s.M 0 = x := ⟨_, rfl⟩
  have kl : ∀ (w' : World) (va : Value), IsMem (Bx N w.heap.size (w.heap.size + 3)) w' va s.M → w.heap.size + 3 ≤ w'.heap.size → Gives Proofs.Try.prog 64 #[va, .int .i64 (0)] w' (fun r w' => ∃ u, r = .tuple #[u, .int .i64 v] ∧ IsMem (Bx N w.heap.size (w.heap.size + 3)) w' u m1) := fun w' va hm hsz => by
    have := memLoad_ (Bx N w.heap.size (w.heap.size + 3)) va s.M (0) w' hm hfit (Bx.le hN hsz) (by decide) (by decide)
    rw [hm1, hv] at this; exact this
  rw [hm1]
  try rw [hv]
  clear hm1 hv
  go_enter Proofs.Try.func153, Proofs.Try.ntmps153
  go_wp2_with (fail)
  go_at_call 64
  refine (kl _ _ (IsMem.mk rfl (IsInts.keep hwB keq) (IsInts.keep hgB keq)) (by first | omega | (simp <;> omega))).calls.mono ?_
  rintro e w1 ⟨_, rfl, hb1, u, rfl, hu1⟩
  obtain ⟨u1, u2, u3, u4, rfl, mw, mg⟩ := hu1.opened
  have B0_1 : Box w1 (w.heap.size) #[.slice aw s.M.W.length cw, .slice ag s.M.G.length cg, .bool s.M.bad, .slice ac s.C.length cc, .slice al s.L.length cl] 83 := (((Box.newAt _ _ _ (by first | rfl | simp)).alloc _).alloc _).ext hb1
  have B1_1 : Box w1 (w.heap.size + 1) #[.int .i64 op, .int .i64 0, .int .i64 q0, .int .i64 q1, .int .i64 q2, .int .i64 q3, .int .i64 q4, .int .i64 q5, .int .i64 q6, .int .i64 q7, .slice ga fS.length gc] 95 := ((Box.newAt _ _ _ (by first | rfl | simp)).alloc _).ext hb1
  have B2_1 : Box w1 (w.heap.size + 1 + 1) #[.slice none 0 0, .slice none 0 0, .bool false, .slice none 0 0, .slice none 0 0] 83 := (Box.newAt _ _ _ (by first | rfl | simp)).ext hb1
  have s1 : w.heap.size + 3 ≤ w1.heap.size := (by have h := hb1.size; first | omega | (simp at h; omega))
  obtain ⟨c0_0, c0_1, c0_2, c0_3, c0_4, d0_0, d0_1, d0_2, d0_3, d0_4⟩ := cells5 B0_1
  have z0 : w.heap.size < w1.heap.size := B0_1.lt
  obtain ⟨⟨c1_0, c1_1, c1_2, c1_3, c1_4, c1_5, c1_6, c1_7, c1_8, c1_9, c1_10⟩, d1_0, d1_1, d1_2, d1_3, d1_4, d1_5, d1_6, d1_7, d1_8, d1_9, d1_10⟩ := cells11 B1_1
  have z1 : w.heap.size + 1 < w1.heap.size := B1_1.lt
  obtain ⟨c2_0, c2_1, c2_2, c2_3, c2_4, d2_0, d2_1, d2_2, d2_3, d2_4⟩ := cells5 B2_1
  have z2 : w.heap.size + 1 + 1 < w1.heap.size := B2_1.lt
  go_wp2_with (fail)
  go_at_call 165
  refine (on4_ (Bx N w.heap.size (w.heap.size + 3)) _ _ (memS s m1) id 1 ⟨op, 0, [q0, v, q2, q3, q4, q5, q6, q7], fS⟩ _ (IsSys.mk rfl (IsInts.keep mw keq) (IsInts.keep mg keq) (IsCores.keep hcB keq) (IsEvs.keep hlB keq) : IsSys (Bx N w.heap.size (w.heap.size + 3)) _ _ (memS s m1)) (IsFrame.ofLit (IsInts.keep fsB keq) : IsFrame _ _ _ ⟨op, 0, [q0, v, q2, q3, q4, q5, q6, q7], fS⟩) (Bx.le hN (by first | omega | (simp <;> omega))) hC hFm).calls.mono ?_
  rintro e w2 ⟨_, rfl, hb2, hu2⟩
  obtain ⟨r1, r2, r3, r4, r5, r6, r7, r8, rfl, rW, rG, rC, rL⟩ := hu2.opened
  have B0_2 : Box w2 (w.heap.size) #[.slice u1 m1.W.length u2, .slice u3 m1.G.length u4, .bool m1.bad, .slice ac s.C.length cc, .slice al s.L.length cl] 83 := ((((B0_1.setCell _).setCell _).setCell _).setOther (by first | omega | (simp <;> omega)) _).ext hb2
  have B1_2 : Box w2 (w.heap.size + 1) #[.int .i64 op, .int .i64 0, .int .i64 q0, .int .i64 v, .int .i64 q2, .int .i64 q3, .int .i64 q4, .int .i64 q5, .int .i64 q6, .int .i64 q7, .slice ga fS.length gc] 95 := ((((B1_1.setOther (by first | omega | (simp <;> omega)) _).setOther (by first | omega | (simp <;> omega)) _).setOther (by first | omega | (simp <;> omega)) _).setCell _).ext hb2
  have B2_2 : Box w2 (w.heap.size + 1 + 1) #[.slice none 0 0, .slice none 0 0, .bool false, .slice none 0 0, .slice none 0 0] 83 := ((((B2_1.setOther (by first | omega | (simp <;> omega)) _).setOther (by first | omega | (simp <;> omega)) _).setOther (by first | omega | (simp <;> omega)) _).setOther (by first | omega | (simp <;> omega)) _).ext hb2
  clear c0_0 c0_1 c0_2 c0_3 c0_4 d0_0 d0_1 d0_2 d0_3 d0_4 z0 c1_0 c1_1 c1_2 c1_3 c1_4 c1_5 c1_6 c1_7 c1_8 c1_9 c1_10 d1_0 d1_1 d1_2 d1_3 d1_4 d1_5 d1_6 d1_7 d1_8 d1_9 d1_10 z1 c2_0 c2_1 c2_2 c2_3 c2_4 d2_0 d2_1 d2_2 d2_3 d2_4 z2
  have s2 : w1.heap.size ≤ w2.heap.size := (by have h := hb2.size; first | omega | (simp at h; omega))
  obtain ⟨c0_0, c0_1, c0_2, c0_3, c0_4, d0_0, d0_1, d0_2, d0_3, d0_4⟩ := cells5 B0_2
  have z0 : w.heap.size < w2.heap.size := B0_2.lt
  obtain ⟨⟨c1_0, c1_1, c1_2, c1_3, c1_4, c1_5, c1_6, c1_7, c1_8, c1_9, c1_10⟩, d1_0, d1_1, d1_2, d1_3, d1_4, d1_5, d1_6, d1_7, d1_8, d1_9, d1_10⟩ := cells11 B1_2
  have z1 : w.heap.size + 1 < w2.heap.size := B1_2.lt
  obtain ⟨c2_0, c2_1, c2_2, c2_3, c2_4, d2_0, d2_1, d2_2, d2_3, d2_4⟩ := cells5 B2_2
  have z2 : w.heap.size + 1 + 1 < w2.heap.size := B2_2.lt
  go_wp2
  exact bodyPost_ret (ret_cell (cs := #[.slice r1 (setS (memS s m1) id (pcF ⟨op, 0, [q0, v, q2, q3, q4, q5, q6, q7], fS⟩ 1)).M.W.length r2, .slice r3 (setS (memS s m1) id (pcF ⟨op, 0, [q0, v, q2, q3, q4, q5, q6, q7], fS⟩ 1)).M.G.length r4, .bool (setS (memS s m1) id (pcF ⟨op, 0, [q0, v, q2, q3, q4, q5, q6, q7], fS⟩ 1)).M.bad, .slice r5 (setS (memS s m1) id (pcF ⟨op, 0, [q0, v, q2, q3, q4, q5, q6, q7], fS⟩ 1)).C.length r6, .slice r7 (setS (memS s m1) id (pcF ⟨op, 0, [q0, v, q2, q3, q4, q5, q6, q7], fS⟩ 1)).L.length r8]) (((((B2_2.setCell _).setCell _).setCell _).setCell _).setCell _) Proofs.Try.results153 rfl Proofs.Try.underlying83 rfl (by kernel_rfl)) rfl ⟨_, rfl, exn, IsSys.less (IsSys.keep hu2 keq) (fun _ _ hn => .inl hn)⟩
set_option maxHeartbeats 1000000 in
set_option maxRecDepth 100000 in
theorem push_1 (N : Nat → Prop) (s : SysD) (id op q0 q1 q2 q3 q4 q5 q6 q7 : Int) (fS : List Int) (aw ag ac al ga : Option Addr) (cw cg cc cl gc : Nat) (w : World) (hw : IsInts N w (.slice aw s.M.W.length cw) s.M.W) (hg : IsInts N w (.slice ag s.M.G.length cg) s.M.G) (hc : IsCores N w (.slice ac s.C.length cc) s.C) (hl : IsEvs N w (.slice al s.L.length cl) s.L) (fs : IsInts N w (.slice ga fS.length gc) fS)
    (hN : ∀ b, N b → b < w.heap.size) (hC : s.C.length ≤ 100000) (hFm : ∀ (i : Nat) c, s.C[i]? = some c → c.F.length ≤ 100000) (hfit : Fits s.M)  :
    Gives Proofs.Try.prog 153 #[.agg #[.slice aw s.M.W.length cw, .slice ag s.M.G.length cg, .bool s.M.bad, .slice ac s.C.length cc, .slice al s.L.length cl], .int .i64 id, .agg #[.int .i64 op, .int .i64 1, .int .i64 q0, .int .i64 q1, .int .i64 q2, .int .i64 q3, .int .i64 q4, .int .i64 q5, .int .i64 q6, .int .i64 q7, .slice ga fS.length gc]] w (fun r w' => IsSys N w' r (onS s id (storeD s.M (linkAt q0) (idx q1)) ⟨op, 1, [q0, q1, q2, q3, q4, q5, q6, q7], fS⟩ 2)) := by
  have hwB := hw.bxn (hi := w.heap.size + 3)
  have hgB := hg.bxn (hi := w.heap.size + 3)
  have hcB := hc.bxn (hi := w.heap.size + 3)
  have hlB := hl.bxn (hi := w.heap.size + 3)
  have fsB := fs.bxn (hi := w.heap.size + 3)
  obtain ⟨m1, hm1⟩ : ∃ m, storeD s.M (linkAt q0) (idx q1) = m := ⟨_, rfl⟩
  have ks : ∀ (w' : World) (va : Value), IsMem (Bx N w.heap.size (w.heap.size + 3)) w' va s.M → w.heap.size + 3 ≤ w'.heap.size → Gives Proofs.Try.prog 68 #[va, .int .i64 (linkAt q0), .int .i64 (idx q1)] w' (fun r w' => IsMem (Bx N w.heap.size (w.heap.size + 3)) w' r m1) := fun w' va hm hsz => by
    have := memStore_ (Bx N w.heap.size (w.heap.size + 3)) va s.M (linkAt q0) (idx q1) w' hm hfit (Bx.le hN hsz) (linkAt_lo _).1 (linkAt_lo _).2
    rw [hm1] at this; exact this
  rw [hm1]
  clear hm1
  go_enter Proofs.Try.func153, Proofs.Try.ntmps153
  go_wp2_with (fail)
  obtain ⟨W6, hW⟩ : ∃ W, W = (((w.alloc (.cells #[.slice aw s.M.W.length cw, .slice ag s.M.G.length cg, .bool s.M.bad, .slice ac s.C.length cc, .slice al s.L.length cl] 83 (0, 0))).alloc (.cells #[.int .i64 op, .int .i64 1, .int .i64 q0, .int .i64 q1, .int .i64 q2, .int .i64 q3, .int .i64 q4, .int .i64 q5, .int .i64 q6, .int .i64 q7, .slice ga fS.length gc] 95 (0, 0))).alloc (.cells #[.slice none 0 0, .slice none 0 0, .bool false, .slice none 0 0, .slice none 0 0] 83 (0, 0))) := ⟨_, rfl⟩
  have hX6 : Ext w W6 := by rw [hW]; exact exn
  have hK6 : Keep (Bx N w.heap.size (w.heap.size + 3)) w W6 := by rw [hW]; exact keq
  have D0_6 : Box (((w.alloc (.cells #[.slice aw s.M.W.length cw, .slice ag s.M.G.length cg, .bool s.M.bad, .slice ac s.C.length cc, .slice al s.L.length cl] 83 (0, 0))).alloc (.cells #[.int .i64 op, .int .i64 1, .int .i64 q0, .int .i64 q1, .int .i64 q2, .int .i64 q3, .int .i64 q4, .int .i64 q5, .int .i64 q6, .int .i64 q7, .slice ga fS.length gc] 95 (0, 0))).alloc (.cells #[.slice none 0 0, .slice none 0 0, .bool false, .slice none 0 0, .slice none 0 0] 83 (0, 0))) (w.heap.size) #[.slice aw s.M.W.length cw, .slice ag s.M.G.length cg, .bool s.M.bad, .slice ac s.C.length cc, .slice al s.L.length cl] 83 := (((Box.newAt _ _ _ (by first | rfl | simp)).alloc _).alloc _)
  rw [← hW] at D0_6
  have D1_6 : Box (((w.alloc (.cells #[.slice aw s.M.W.length cw, .slice ag s.M.G.length cg, .bool s.M.bad, .slice ac s.C.length cc, .slice al s.L.length cl] 83 (0, 0))).alloc (.cells #[.int .i64 op, .int .i64 1, .int .i64 q0, .int .i64 q1, .int .i64 q2, .int .i64 q3, .int .i64 q4, .int .i64 q5, .int .i64 q6, .int .i64 q7, .slice ga fS.length gc] 95 (0, 0))).alloc (.cells #[.slice none 0 0, .slice none 0 0, .bool false, .slice none 0 0, .slice none 0 0] 83 (0, 0))) (w.heap.size + 1) #[.int .i64 op, .int .i64 1, .int .i64 q0, .int .i64 q1, .int .i64 q2, .int .i64 q3, .int .i64 q4, .int .i64 q5, .int .i64 q6, .int .i64 q7, .slice ga fS.length gc] 95 := ((Box.newAt _ _ _ (by first | rfl | simp)).alloc _)
  rw [← hW] at D1_6
  have D2_6 : Box (((w.alloc (.cells #[.slice aw s.M.W.length cw, .slice ag s.M.G.length cg, .bool s.M.bad, .slice ac s.C.length cc, .slice al s.L.length cl] 83 (0, 0))).alloc (.cells #[.int .i64 op, .int .i64 1, .int .i64 q0, .int .i64 q1, .int .i64 q2, .int .i64 q3, .int .i64 q4, .int .i64 q5, .int .i64 q6, .int .i64 q7, .slice ga fS.length gc] 95 (0, 0))).alloc (.cells #[.slice none 0 0, .slice none 0 0, .bool false, .slice none 0 0, .slice none 0 0] 83 (0, 0))) (w.heap.size + 1 + 1) #[.slice none 0 0, .slice none 0 0, .bool false, .slice none 0 0, .slice none 0 0] 83 := (Box.newAt _ _ _ (by first | rfl | simp))
  rw [← hW] at D2_6
  have y6 : w.heap.size + 3 ≤ W6.heap.size := by rw [hW]; simp
  rw [← hW]
  clear hW
  have aM : IsMem (Bx N w.heap.size (w.heap.size + 3)) W6 (.agg #[.slice aw s.M.W.length cw, .slice ag s.M.G.length cg, .bool s.M.bad]) s.M := (IsMem.mk rfl hwB hgB : IsMem (Bx N w.heap.size (w.heap.size + 3)) w _ s.M).keep ((Keep.refl _ _).ext hX6)
  apply region_lit2 (T := [12]) (L := []) (X := [w.heap.size]) (G := [eqv _, eqv _, eqv _, eqv _, eqv _, eqv _, eqv _, eqv _, eqv _, eqv _, isMemN (Bx N w.heap.size (w.heap.size + 3)) m1, eqv _, anyG])
  case hm => kernel_rfl
  case hop =>
    refine ⟨?_, ?_, ?_, ?_, ?_, ?_, ?_, ?_, ?_, ?_, ?_, ?_, ?_, trivial⟩
    · intro a wa hs hf hd
      have t3 := hf.off 3 (by kernel_rfl) rfl
      exact plain_ rfl (yes_eqv (o_fieldAddr rfl Proofs.Try.underlying83 rfl rfl (by kernel_rfl) t3) rfl)
    · intro a wa hs hf hd
      have t28 : a.eval (.tmp 28) = _ := hd.at 0 28 (by kernel_rfl)
      exact plain_ rfl (yes_eqv (o_load3 rfl Proofs.Try.underlying50 rfl (by kernel_rfl) t28 ((D0_6.since hs rfl).cell rfl) ((D0_6.since hs rfl).cell rfl) ((D0_6.since hs rfl).cell rfl)) rfl)
    · intro a wa hs hf hd
      have t5 := hf.off 5 (by kernel_rfl) rfl
      exact plain_ rfl (yes_eqv (o_fieldAddr rfl Proofs.Try.underlying95 rfl rfl (by kernel_rfl) t5) rfl)
    · intro a wa hs hf hd
      have t30 : a.eval (.tmp 30) = _ := hd.at 2 30 (by kernel_rfl)
      exact plain_ rfl (yes_eqv (o_indexAddrA (sz := 1) rfl Proofs.Try.underlying93 (by kernel_rfl) t30 rfl (by decide) (by decide)) rfl)
    · intro a wa hs hf hd
      have t31 : a.eval (.tmp 31) = _ := hd.at 3 31 (by kernel_rfl)
      exact plain_ rfl (yes_eqv (o_load1 rfl Proofs.Try.underlying3 rfl t31 ((D1_6.since hs rfl).cell rfl)) rfl)
    · intro a wa hs hf hd
      have t32 : a.eval (.tmp 32) = _ := hd.at 4 32 (by kernel_rfl)
      exact plain_ rfl (yes_gives (atw_ q0 _) rfl rfl Proofs.Try.func57 (by kernel_rfl) (by kernel_rfl) (by simp only [List.map_toArray, List.map_cons, List.map_nil, eval_const, t32]) rfl)
    · intro a wa hs hf hd
      have t5 := hf.off 5 (by kernel_rfl) rfl
      exact plain_ rfl (yes_eqv (o_fieldAddr rfl Proofs.Try.underlying95 rfl rfl (by kernel_rfl) t5) rfl)
    · intro a wa hs hf hd
      have t34 : a.eval (.tmp 34) = _ := hd.at 6 34 (by kernel_rfl)
      exact plain_ rfl (yes_eqv (o_indexAddrA (sz := 1) rfl Proofs.Try.underlying93 (by kernel_rfl) t34 rfl (by decide) (by decide)) rfl)
    · intro a wa hs hf hd
      have t35 : a.eval (.tmp 35) = _ := hd.at 7 35 (by kernel_rfl)
      exact plain_ rfl (yes_eqv (o_load1 rfl Proofs.Try.underlying3 rfl t35 ((D1_6.since hs rfl).cell rfl)) rfl)
    · intro a wa hs hf hd
      have t36 : a.eval (.tmp 36) = _ := hd.at 8 36 (by kernel_rfl)
      exact plain_ rfl (yes_gives (idx_ q1 _) rfl rfl Proofs.Try.func41 (by kernel_rfl) (by kernel_rfl) (by simp only [List.map_toArray, List.map_cons, List.map_nil, t36]) rfl)
    · intro a wa hs hf hd
      have t29 : a.eval (.tmp 29) = _ := hd.at 1 29 (by kernel_rfl)
      have t33 : a.eval (.tmp 33) = _ := hd.at 5 33 (by kernel_rfl)
      have t37 : a.eval (.tmp 37) = _ := hd.at 9 37 (by kernel_rfl)
      exact plain_ rfl (yes_gives (ks _ _ (aM.keep (Since.to_ext hs).keep) (by have := (Since.to_ext hs).size; have := hX6.size; omega)) rfl rfl Proofs.Try.func68 (by kernel_rfl) (by kernel_rfl) (by simp only [List.map_toArray, List.map_cons, List.map_nil, t29, t33, t37]) rfl)
    · intro a wa hs hf hd
      have t3 := hf.off 3 (by kernel_rfl) rfl
      exact plain_ rfl (yes_eqv (o_fieldAddr rfl Proofs.Try.underlying83 rfl rfl (by kernel_rfl) t3) rfl)
    · intro a wb wa hs1 hs hf hd hrun
      have t39 : a.eval (.tmp 39) = _ := hd.at 11 39 (by kernel_rfl)
      have t38 := hd.at 10 38 (by kernel_rfl)
      subst hrun
      have q18 : IsMem (Bx N w.heap.size (w.heap.size + 3)) _ (a.eval (.tmp 38)) m1 := t38
      obtain ⟨u1, u2, u3, u4, hv, _⟩ := q18.opened
      exact ⟨_, o_store rfl t39 hv ((D0_6.since hs1 rfl)) (by kernel_rfl) (by simp [Value.cells, Value.oneCell']) (by first | (simp [Value.cells]; done) | (simp [Value.cells]; omega)) rfl, Since.put hs (.inr (by simp))⟩
  case hG => exact ⟨stable_eqv _, stable_eqv _, stable_eqv _, stable_eqv _, stable_eqv _, stable_eqv _, stable_eqv _, stable_eqv _, stable_eqv _, stable_eqv _, stable_isMemN _ _, stable_eqv _, stable_any, trivial⟩
  case hc => kernel_rfl
  case hfin =>
    intro v6 hs6
    rintro _ rfl _ rfl _ rfl _ rfl _ rfl _ rfl _ rfl _ rfl _ rfl _ rfl r11 hr11 _ rfl
    obtain ⟨u1, u2, u3, u4, rfl, mw0, mg0⟩ := IsMem.opened hr11
    rintro v6w ⟨o1, v1, ho1, hr1, rfl⟩
    cases ho1
    simp only [Act.put, List.setIfInBounds_toArray, List.set_cons_zero, List.set_cons_succ] at hr1 ⊢
    cases (hr1.symm.trans (o_store (v := .agg #[.slice u1 m1.W.length u2, .slice u3 m1.G.length u4, .bool m1.bad]) (new := #[.slice u1 m1.W.length u2, .slice u3 m1.G.length u4, .bool m1.bad, .slice ac s.C.length cc, .slice al s.L.length cl]) rfl rfl rfl ((D0_6.since hs6 rfl)) (by kernel_rfl) (by simp [Value.cells, Value.oneCell']) (by first | (simp [Value.cells]; done) | (simp [Value.cells]; omega)) (by first | rfl | kernel_rfl)))
    obtain ⟨w1, hw1⟩ : ∃ x, x = (put v6 w.heap.size (.cells #[.slice u1 m1.W.length u2, .slice u3 m1.G.length u4, .bool m1.bad, .slice ac s.C.length cc, .slice al s.L.length cl] 83 (0, 0))) := ⟨_, rfl⟩
    have hW1 : Ext W6 v6 := Since.to_ext hs6
    have hb1 : Ext w w1 := by rw [hw1]; exact Since.to_ext ((Since.of_ext (hX6.trans hW1)).put (.inl (by have := hX6.size; omega)))
    have hk1 : Keep (Bx N w.heap.size (w.heap.size + 3)) w w1 := by rw [hw1]; exact ((hK6.ext hW1).put _ _ (.inr (Bx.mem (by omega) (by omega))))
    have hq1 : Keep (Bx N w.heap.size (w.heap.size + 3)) v6 w1 := by rw [hw1]; exact ((Keep.refl _ _).put _ _ (.inr (Bx.mem (by omega) (by omega))))
    have B0_1 : Box w1 (w.heap.size) #[.slice u1 m1.W.length u2, .slice u3 m1.G.length u4, .bool m1.bad, .slice ac s.C.length cc, .slice al s.L.length cl] 83 := by rw [hw1]; exact (D0_6.since hs6 rfl).put
    have B1_1 : Box w1 (w.heap.size + 1) #[.int .i64 op, .int .i64 1, .int .i64 q0, .int .i64 q1, .int .i64 q2, .int .i64 q3, .int .i64 q4, .int .i64 q5, .int .i64 q6, .int .i64 q7, .slice ga fS.length gc] 95 := by rw [hw1]; exact (box_putOther (D1_6.since hs6 rfl) (by omega))
    have B2_1 : Box w1 (w.heap.size + 1 + 1) #[.slice none 0 0, .slice none 0 0, .bool false, .slice none 0 0, .slice none 0 0] 83 := by rw [hw1]; exact (box_putOther (D2_6.since hs6 rfl) (by omega))
    have s1 : W6.heap.size ≤ w1.heap.size := by rw [hw1]; have := hW1.size; simpa [put] using this
    rw [← hw1]
    clear hw1
    obtain ⟨c0_0, c0_1, c0_2, c0_3, c0_4, d0_0, d0_1, d0_2, d0_3, d0_4⟩ := cells5 B0_1
    have z0 : w.heap.size < w1.heap.size := B0_1.lt
    obtain ⟨⟨c1_0, c1_1, c1_2, c1_3, c1_4, c1_5, c1_6, c1_7, c1_8, c1_9, c1_10⟩, d1_0, d1_1, d1_2, d1_3, d1_4, d1_5, d1_6, d1_7, d1_8, d1_9, d1_10⟩ := cells11 B1_1
    have z1 : w.heap.size + 1 < w1.heap.size := B1_1.lt
    obtain ⟨c2_0, c2_1, c2_2, c2_3, c2_4, d2_0, d2_1, d2_2, d2_3, d2_4⟩ := cells5 B2_1
    have z2 : w.heap.size + 1 + 1 < w1.heap.size := B2_1.lt
    have mw := IsInts.keep mw0 hq1
    have mg := IsInts.keep mg0 hq1
    clear hq1
    go_wp2_with (fail)
    go_at_call 165
    refine (on4_ (Bx N w.heap.size (w.heap.size + 3)) _ _ (memS s m1) id 2 ⟨op, 1, [q0, q1, q2, q3, q4, q5, q6, q7], fS⟩ _ (IsSys.mk rfl (IsInts.keep mw keq) (IsInts.keep mg keq) (IsCores.keep hcB keq) (IsEvs.keep hlB keq) : IsSys (Bx N w.heap.size (w.heap.size + 3)) _ _ (memS s m1)) (IsFrame.ofLit (IsInts.keep fsB keq) : IsFrame _ _ _ ⟨op, 1, [q0, q1, q2, q3, q4, q5, q6, q7], fS⟩) (Bx.le hN (by first | omega | (simp <;> omega))) hC hFm).calls.mono ?_
    rintro e w2 ⟨_, rfl, hb2, hu2⟩
    obtain ⟨r1, r2, r3, r4, r5, r6, r7, r8, rfl, rW, rG, rC, rL⟩ := hu2.opened
    have B0_2 : Box w2 (w.heap.size) #[.slice u1 m1.W.length u2, .slice u3 m1.G.length u4, .bool m1.bad, .slice ac s.C.length cc, .slice al s.L.length cl] 83 := B0_1.ext hb2
    have B1_2 : Box w2 (w.heap.size + 1) #[.int .i64 op, .int .i64 1, .int .i64 q0, .int .i64 q1, .int .i64 q2, .int .i64 q3, .int .i64 q4, .int .i64 q5, .int .i64 q6, .int .i64 q7, .slice ga fS.length gc] 95 := B1_1.ext hb2
    have B2_2 : Box w2 (w.heap.size + 1 + 1) #[.slice none 0 0, .slice none 0 0, .bool false, .slice none 0 0, .slice none 0 0] 83 := B2_1.ext hb2
    clear c0_0 c0_1 c0_2 c0_3 c0_4 d0_0 d0_1 d0_2 d0_3 d0_4 z0 c1_0 c1_1 c1_2 c1_3 c1_4 c1_5 c1_6 c1_7 c1_8 c1_9 c1_10 d1_0 d1_1 d1_2 d1_3 d1_4 d1_5 d1_6 d1_7 d1_8 d1_9 d1_10 z1 c2_0 c2_1 c2_2 c2_3 c2_4 d2_0 d2_1 d2_2 d2_3 d2_4 z2
    have s2 : w1.heap.size ≤ w2.heap.size := (by have h := hb2.size; first | omega | (simp at h; omega))
    obtain ⟨c0_0, c0_1, c0_2, c0_3, c0_4, d0_0, d0_1, d0_2, d0_3, d0_4⟩ := cells5 B0_2
    have z0 : w.heap.size < w2.heap.size := B0_2.lt
    obtain ⟨⟨c1_0, c1_1, c1_2, c1_3, c1_4, c1_5, c1_6, c1_7, c1_8, c1_9, c1_10⟩, d1_0, d1_1, d1_2, d1_3, d1_4, d1_5, d1_6, d1_7, d1_8, d1_9, d1_10⟩ := cells11 B1_2
    have z1 : w.heap.size + 1 < w2.heap.size := B1_2.lt
    obtain ⟨c2_0, c2_1, c2_2, c2_3, c2_4, d2_0, d2_1, d2_2, d2_3, d2_4⟩ := cells5 B2_2
    have z2 : w.heap.size + 1 + 1 < w2.heap.size := B2_2.lt
    go_wp2
    exact bodyPost_ret (ret_cell (cs := #[.slice r1 (setS (memS s m1) id (pcF ⟨op, 1, [q0, q1, q2, q3, q4, q5, q6, q7], fS⟩ 2)).M.W.length r2, .slice r3 (setS (memS s m1) id (pcF ⟨op, 1, [q0, q1, q2, q3, q4, q5, q6, q7], fS⟩ 2)).M.G.length r4, .bool (setS (memS s m1) id (pcF ⟨op, 1, [q0, q1, q2, q3, q4, q5, q6, q7], fS⟩ 2)).M.bad, .slice r5 (setS (memS s m1) id (pcF ⟨op, 1, [q0, q1, q2, q3, q4, q5, q6, q7], fS⟩ 2)).C.length r6, .slice r7 (setS (memS s m1) id (pcF ⟨op, 1, [q0, q1, q2, q3, q4, q5, q6, q7], fS⟩ 2)).L.length r8]) (((((B2_2.setCell _).setCell _).setCell _).setCell _).setCell _) Proofs.Try.results153 rfl Proofs.Try.underlying83 rfl (by kernel_rfl)) rfl ⟨_, rfl, exn, IsSys.less (IsSys.keep hu2 keq) (fun _ _ hn => .inl hn)⟩
set_option maxHeartbeats 1000000 in
set_option maxRecDepth 100000 in
theorem push_y2 (N : Nat → Prop) (s : SysD) (id op q0 q1 q2 q3 q4 q5 q6 q7 : Int) (fS : List Int) (aw ag ac al ga : Option Addr) (cw cg cc cl gc : Nat) (w : World) (hw : IsInts N w (.slice aw s.M.W.length cw) s.M.W) (hg : IsInts N w (.slice ag s.M.G.length cg) s.M.G) (hc : IsCores N w (.slice ac s.C.length cc) s.C) (hl : IsEvs N w (.slice al s.L.length cl) s.L) (fs : IsInts N w (.slice ga fS.length gc) fS)
    (hN : ∀ b, N b → b < w.heap.size) (hC : s.C.length ≤ 100000) (hFm : ∀ (i : Nat) c, s.C[i]? = some c → c.F.length ≤ 100000) (hfit : Fits s.M) (hcas : casIs s.M 0 q1 = true) (hfit1 : Fits (casD s.M 0 q1 (nextW q1 q0 0))) :
    Gives Proofs.Try.prog 153 #[.agg #[.slice aw s.M.W.length cw, .slice ag s.M.G.length cg, .bool s.M.bad, .slice ac s.C.length cc, .slice al s.L.length cl], .int .i64 id, .agg #[.int .i64 op, .int .i64 2, .int .i64 q0, .int .i64 q1, .int .i64 q2, .int .i64 q3, .int .i64 q4, .int .i64 q5, .int .i64 q6, .int .i64 q7, .slice ga fS.length gc]] w (fun r w' => IsSys N w' r (backS (memS s (turnMD (casD s.M 0 q1 (nextW q1 q0 0)) q0 0)) id q0 0)) := by
  have hwB := hw.bxn (hi := w.heap.size + 3)
  have hgB := hg.bxn (hi := w.heap.size + 3)
  have hcB := hc.bxn (hi := w.heap.size + 3)
  have hlB := hl.bxn (hi := w.heap.size + 3)
  have fsB := fs.bxn (hi := w.heap.size + 3)
  obtain ⟨m1, hm1⟩ : ∃ m, casD s.M 0 q1 (nextW q1 q0 0) = m := ⟨_, rfl⟩
  obtain ⟨nw, hnw⟩ : ∃ n, (nextW q1 q0 0) = n := ⟨_, rfl⟩
  have kx : ∀ w' : World, Gives Proofs.Try.prog 47 #[.int .i64 q1, .int .i64 q0, .int .i64 0] w' (eqv (.int .i64 nw)) := fun w' => by have := next_ q1 q0 0 w'; rw [hnw] at this; exact this
  have ks : ∀ (w' : World) (va : Value), IsMem (Bx N w.heap.size (w.heap.size + 3)) w' va s.M → w.heap.size + 3 ≤ w'.heap.size → Gives Proofs.Try.prog 66 #[va, .int .i64 0, .int .i64 q1, .int .i64 nw] w' (fun r w' => ∃ u, r = .tuple #[u, .bool true] ∧ IsMem (Bx N w.heap.size (w.heap.size + 3)) w' u m1) := fun w' va hm hsz => by
    have := memCas_ (Bx N w.heap.size (w.heap.size + 3)) va s.M 0 q1 (nextW q1 q0 0) w' hm hfit (Bx.le hN hsz) (by decide) (by decide)
    rw [hm1, hcas, hnw] at this; exact this
  rw [hm1] at hfit1
  obtain ⟨m2, hm2⟩ : ∃ m, turnMD m1 q0 0 = m := ⟨_, rfl⟩
  have kt : ∀ (w' : World) (va : Value), IsMem (Bx N w.heap.size (w.heap.size + 3)) w' va m1 → w.heap.size + 3 ≤ w'.heap.size → Gives Proofs.Try.prog 70 #[va, .int .i64 q0, .int .i64 0] w' (fun r w' => IsMem (Bx N w.heap.size (w.heap.size + 3)) w' r m2) := fun w' va hm hsz => by
    have := memTurn_ (Bx N w.heap.size (w.heap.size + 3)) va m1 q0 0 w' hm hfit1 (Bx.le hN hsz)
    rw [hm2] at this; exact this
  rw [hm1, hm2]
  clear hm1 hm2 hnw
  go_enter Proofs.Try.func153, Proofs.Try.ntmps153
  go_wp2_with (fail)
  obtain ⟨W9, hW⟩ : ∃ W, W = (((w.alloc (.cells #[.slice aw s.M.W.length cw, .slice ag s.M.G.length cg, .bool s.M.bad, .slice ac s.C.length cc, .slice al s.L.length cl] 83 (0, 0))).alloc (.cells #[.int .i64 op, .int .i64 2, .int .i64 q0, .int .i64 q1, .int .i64 q2, .int .i64 q3, .int .i64 q4, .int .i64 q5, .int .i64 q6, .int .i64 q7, .slice ga fS.length gc] 95 (0, 0))).alloc (.cells #[.slice none 0 0, .slice none 0 0, .bool false, .slice none 0 0, .slice none 0 0] 83 (0, 0))) := ⟨_, rfl⟩
  have hX9 : Ext w W9 := by rw [hW]; exact exn
  have hK9 : Keep (Bx N w.heap.size (w.heap.size + 3)) w W9 := by rw [hW]; exact keq
  have D0_9 : Box (((w.alloc (.cells #[.slice aw s.M.W.length cw, .slice ag s.M.G.length cg, .bool s.M.bad, .slice ac s.C.length cc, .slice al s.L.length cl] 83 (0, 0))).alloc (.cells #[.int .i64 op, .int .i64 2, .int .i64 q0, .int .i64 q1, .int .i64 q2, .int .i64 q3, .int .i64 q4, .int .i64 q5, .int .i64 q6, .int .i64 q7, .slice ga fS.length gc] 95 (0, 0))).alloc (.cells #[.slice none 0 0, .slice none 0 0, .bool false, .slice none 0 0, .slice none 0 0] 83 (0, 0))) (w.heap.size) #[.slice aw s.M.W.length cw, .slice ag s.M.G.length cg, .bool s.M.bad, .slice ac s.C.length cc, .slice al s.L.length cl] 83 := (((Box.newAt _ _ _ (by first | rfl | simp)).alloc _).alloc _)
  rw [← hW] at D0_9
  have D1_9 : Box (((w.alloc (.cells #[.slice aw s.M.W.length cw, .slice ag s.M.G.length cg, .bool s.M.bad, .slice ac s.C.length cc, .slice al s.L.length cl] 83 (0, 0))).alloc (.cells #[.int .i64 op, .int .i64 2, .int .i64 q0, .int .i64 q1, .int .i64 q2, .int .i64 q3, .int .i64 q4, .int .i64 q5, .int .i64 q6, .int .i64 q7, .slice ga fS.length gc] 95 (0, 0))).alloc (.cells #[.slice none 0 0, .slice none 0 0, .bool false, .slice none 0 0, .slice none 0 0] 83 (0, 0))) (w.heap.size + 1) #[.int .i64 op, .int .i64 2, .int .i64 q0, .int .i64 q1, .int .i64 q2, .int .i64 q3, .int .i64 q4, .int .i64 q5, .int .i64 q6, .int .i64 q7, .slice ga fS.length gc] 95 := ((Box.newAt _ _ _ (by first | rfl | simp)).alloc _)
  rw [← hW] at D1_9
  have D2_9 : Box (((w.alloc (.cells #[.slice aw s.M.W.length cw, .slice ag s.M.G.length cg, .bool s.M.bad, .slice ac s.C.length cc, .slice al s.L.length cl] 83 (0, 0))).alloc (.cells #[.int .i64 op, .int .i64 2, .int .i64 q0, .int .i64 q1, .int .i64 q2, .int .i64 q3, .int .i64 q4, .int .i64 q5, .int .i64 q6, .int .i64 q7, .slice ga fS.length gc] 95 (0, 0))).alloc (.cells #[.slice none 0 0, .slice none 0 0, .bool false, .slice none 0 0, .slice none 0 0] 83 (0, 0))) (w.heap.size + 1 + 1) #[.slice none 0 0, .slice none 0 0, .bool false, .slice none 0 0, .slice none 0 0] 83 := (Box.newAt _ _ _ (by first | rfl | simp))
  rw [← hW] at D2_9
  have y9 : w.heap.size + 3 ≤ W9.heap.size := by rw [hW]; simp
  rw [← hW]
  clear hW
  have aM : IsMem (Bx N w.heap.size (w.heap.size + 3)) W9 (.agg #[.slice aw s.M.W.length cw, .slice ag s.M.G.length cg, .bool s.M.bad]) s.M := (IsMem.mk rfl hwB hgB : IsMem (Bx N w.heap.size (w.heap.size + 3)) w _ s.M).keep ((Keep.refl _ _).ext hX9)
  apply region_lit2 (T := [17]) (L := [15, 18]) (X := []) (G := [eqv _, eqv _, eqv _, eqv _, eqv _, eqv _, eqv _, eqv _, eqv _, eqv _, eqv _, eqv _, isTupN (Bx N w.heap.size (w.heap.size + 3)) m1 (.bool true), isTupN (Bx N w.heap.size (w.heap.size + 3)) m1 (.bool true), isMemN (Bx N w.heap.size (w.heap.size + 3)) m1, eqv (.bool true), isNew W9.heap.size #[.slice none 0 0, .slice none 0 0, .bool false] 50, anyG, eqv _])
  case hm => kernel_rfl
  case hop =>
    refine ⟨?_, ?_, ?_, ?_, ?_, ?_, ?_, ?_, ?_, ?_, ?_, ?_, ?_, ?_, ?_, ?_, ?_, ?_, ?_, trivial⟩
    · intro a wa hs hf hd
      have t3 := hf.off 3 (by kernel_rfl) rfl
      exact plain_ rfl (yes_eqv (o_fieldAddr rfl Proofs.Try.underlying83 rfl rfl (by kernel_rfl) t3) rfl)
    · intro a wa hs hf hd
      have t47 : a.eval (.tmp 47) = _ := hd.at 0 47 (by kernel_rfl)
      exact plain_ rfl (yes_eqv (o_load3 rfl Proofs.Try.underlying50 rfl (by kernel_rfl) t47 ((D0_9.since hs rfl).cell rfl) ((D0_9.since hs rfl).cell rfl) ((D0_9.since hs rfl).cell rfl)) rfl)
    · intro a wa hs hf hd
      have t5 := hf.off 5 (by kernel_rfl) rfl
      exact plain_ rfl (yes_eqv (o_fieldAddr rfl Proofs.Try.underlying95 rfl rfl (by kernel_rfl) t5) rfl)
    · intro a wa hs hf hd
      have t49 : a.eval (.tmp 49) = _ := hd.at 2 49 (by kernel_rfl)
      exact plain_ rfl (yes_eqv (o_indexAddrA (sz := 1) rfl Proofs.Try.underlying93 (by kernel_rfl) t49 rfl (by decide) (by decide)) rfl)
    · intro a wa hs hf hd
      have t50 : a.eval (.tmp 50) = _ := hd.at 3 50 (by kernel_rfl)
      exact plain_ rfl (yes_eqv (o_load1 rfl Proofs.Try.underlying3 rfl t50 ((D1_9.since hs rfl).cell rfl)) rfl)
    · intro a wa hs hf hd
      have t5 := hf.off 5 (by kernel_rfl) rfl
      exact plain_ rfl (yes_eqv (o_fieldAddr rfl Proofs.Try.underlying95 rfl rfl (by kernel_rfl) t5) rfl)
    · intro a wa hs hf hd
      have t52 : a.eval (.tmp 52) = _ := hd.at 5 52 (by kernel_rfl)
      exact plain_ rfl (yes_eqv (o_indexAddrA (sz := 1) rfl Proofs.Try.underlying93 (by kernel_rfl) t52 rfl (by decide) (by decide)) rfl)
    · intro a wa hs hf hd
      have t53 : a.eval (.tmp 53) = _ := hd.at 6 53 (by kernel_rfl)
      exact plain_ rfl (yes_eqv (o_load1 rfl Proofs.Try.underlying3 rfl t53 ((D1_9.since hs rfl).cell rfl)) rfl)
    · intro a wa hs hf hd
      have t5 := hf.off 5 (by kernel_rfl) rfl
      exact plain_ rfl (yes_eqv (o_fieldAddr rfl Proofs.Try.underlying95 rfl rfl (by kernel_rfl) t5) rfl)
    · intro a wa hs hf hd
      have t55 : a.eval (.tmp 55) = _ := hd.at 8 55 (by kernel_rfl)
      exact plain_ rfl (yes_eqv (o_indexAddrA (sz := 1) rfl Proofs.Try.underlying93 (by kernel_rfl) t55 rfl (by decide) (by decide)) rfl)
    · intro a wa hs hf hd
      have t56 : a.eval (.tmp 56) = _ := hd.at 9 56 (by kernel_rfl)
      exact plain_ rfl (yes_eqv (o_load1 rfl Proofs.Try.underlying3 rfl t56 ((D1_9.since hs rfl).cell rfl)) rfl)
    · intro a wa hs hf hd
      have t54 : a.eval (.tmp 54) = _ := hd.at 7 54 (by kernel_rfl)
      have t57 : a.eval (.tmp 57) = _ := hd.at 10 57 (by kernel_rfl)
      exact plain_ rfl (yes_gives (kx _) rfl rfl Proofs.Try.func47 (by kernel_rfl) (by kernel_rfl) (by simp only [List.map_toArray, List.map_cons, List.map_nil, eval_const, t54, t57]) rfl)
    · intro a wa hs hf hd
      have t48 : a.eval (.tmp 48) = _ := hd.at 1 48 (by kernel_rfl)
      have t51 : a.eval (.tmp 51) = _ := hd.at 4 51 (by kernel_rfl)
      have t58 : a.eval (.tmp 58) = _ := hd.at 11 58 (by kernel_rfl)
      exact plain_ rfl (yes_gives (ks _ _ (aM.keep (Since.to_ext hs).keep) (by have := (Since.to_ext hs).size; have := hX9.size; omega)) rfl rfl Proofs.Try.func66 (by kernel_rfl) (by kernel_rfl) (by simp only [List.map_toArray, List.map_cons, List.map_nil, eval_const, t48, t51, t58]) rfl)
    · intro a wa hs hf hd
      have t59 := hd.at 12 59 (by kernel_rfl)
      obtain ⟨u, hu, hm⟩ := t59
      exact plain_ rfl (yes_val (runs_ok (o_move rfl hu)) (Ext.refl _) ⟨u, rfl, hm⟩ rfl)
    · intro a wa hs hf hd
      have t46 := hd.at 13 46 (by kernel_rfl)
      obtain ⟨u, hu, hm⟩ := t46
      exact plain_ rfl (yes_val (runs_ok (o_extract rfl hu rfl)) (Ext.refl _) hm rfl)
    · intro a wb wa hs1 hs hf hd
      have t46 := hd.at 13 46 (by kernel_rfl)
      obtain ⟨u, hu, hm⟩ := t46
      exact plain_ rfl (late_eqv (o_extract rfl hu rfl) rfl)
    · intro a wa hs hf hd
      exact plain_ rfl (yes_new (z := .agg #[.slice none 0 0, .slice none 0 0, .bool false]) rfl (by kernel_rfl) (by kernel_rfl) rfl hs.size)
    · intro a wb wa hs1 hs hf hd hrun
      have t7 := hd.at 16 7 (by kernel_rfl)
      have t60 := hd.at 14 60 (by kernel_rfl)
      subst hrun
      have q18 : IsMem (Bx N w.heap.size (w.heap.size + 3)) _ (a.eval (.tmp 60)) m1 := t60
      obtain ⟨u1, u2, u3, u4, hv, _⟩ := q18.opened
      obtain ⟨bk, hp, hk, hBk⟩ := t7
      exact ⟨_, o_store rfl hp hv hBk (by kernel_rfl) (by simp [Value.cells, Value.oneCell']) (by first | (simp [Value.cells]; done) | (simp [Value.cells]; omega)) rfl, Since.put hs (.inl hk)⟩
    · intro a wb wa hs1 hs hf hd
      have t61 : a.eval (.tmp 61) = _ := hd.at 15 61 (by kernel_rfl)
      exact plain_ rfl (late_eqv (o_assign rfl t61) rfl)
  case hG => exact ⟨stable_eqv _, stable_eqv _, stable_eqv _, stable_eqv _, stable_eqv _, stable_eqv _, stable_eqv _, stable_eqv _, stable_eqv _, stable_eqv _, stable_eqv _, stable_eqv _, stable_isTupN _ _ _, stable_isTupN _ _ _, stable_isMemN _ _, stable_eqv _, stable_isNew _ _ _, stable_any, stable_eqv _, trivial⟩
  case hc => kernel_rfl
  case hfin =>
    intro v9 hs9
    rintro _ rfl _ rfl _ rfl _ rfl _ rfl _ rfl _ rfl _ rfl _ rfl _ rfl _ rfl _ rfl _ ⟨p12, rfl, h12⟩ _ ⟨p13, rfl, h13⟩ p14 h14 _ rfl _ ⟨bn16, rfl, hbn16, hBn16⟩ _ rfl
    obtain ⟨u1, u2, u3, u4, rfl, uw, ug⟩ := IsMem.opened h14
    rintro v9w ⟨o1, v1, ho1, hr1, rfl⟩
    cases ho1
    simp only [Act.put, List.setIfInBounds_toArray, List.set_cons_zero, List.set_cons_succ] at hr1 ⊢
    cases (hr1.symm.trans (o_store (v := .agg #[.slice u1 m1.W.length u2, .slice u3 m1.G.length u4, .bool m1.bad]) (new := #[.slice u1 m1.W.length u2, .slice u3 m1.G.length u4, .bool m1.bad]) rfl rfl rfl ((hBn16)) (by kernel_rfl) (by simp [Value.cells, Value.oneCell']) (by first | (simp [Value.cells]; done) | (simp [Value.cells]; omega)) (by first | rfl | kernel_rfl)))
    obtain ⟨w1, hw1⟩ : ∃ x, x = (put v9 bn16 (.cells #[.slice u1 m1.W.length u2, .slice u3 m1.G.length u4, .bool m1.bad] 50 (0, 0))) := ⟨_, rfl⟩
    have hW1 : Ext W9 v9 := Since.to_ext hs9
    have hb1 : Ext w w1 := by rw [hw1]; exact Since.to_ext ((Since.of_ext (hX9.trans hW1)).put (.inl (by have := hX9.size; omega)))
    have hk1 : Keep (Bx N w.heap.size (w.heap.size + 3)) w w1 := by rw [hw1]; exact ((hK9.ext hW1).put _ _ (.inl (by omega)))
    have hq1 : ∀ M v l, IsInts M v9 v l → IsInts M w1 v l := by intro M v l h; rw [hw1]; exact h.putNew hBn16 zero50
    have B0_1 : Box w1 (w.heap.size) #[.slice aw s.M.W.length cw, .slice ag s.M.G.length cg, .bool s.M.bad, .slice ac s.C.length cc, .slice al s.L.length cl] 83 := by rw [hw1]; exact (box_putOther (D0_9.since hs9 rfl) (by omega))
    have B1_1 : Box w1 (w.heap.size + 1) #[.int .i64 op, .int .i64 2, .int .i64 q0, .int .i64 q1, .int .i64 q2, .int .i64 q3, .int .i64 q4, .int .i64 q5, .int .i64 q6, .int .i64 q7, .slice ga fS.length gc] 95 := by rw [hw1]; exact (box_putOther (D1_9.since hs9 rfl) (by omega))
    have B2_1 : Box w1 (w.heap.size + 1 + 1) #[.slice none 0 0, .slice none 0 0, .bool false, .slice none 0 0, .slice none 0 0] 83 := by rw [hw1]; exact (box_putOther (D2_9.since hs9 rfl) (by omega))
    have BN9_16_1 : Box w1 (bn16) #[.slice u1 m1.W.length u2, .slice u3 m1.G.length u4, .bool m1.bad] 50 := by rw [hw1]; exact (hBn16).put
    have s1 : W9.heap.size ≤ w1.heap.size := by rw [hw1]; have := hW1.size; simpa [put] using this
    rw [← hw1]
    clear hw1
    obtain ⟨c0_0, c0_1, c0_2, c0_3, c0_4, d0_0, d0_1, d0_2, d0_3, d0_4⟩ := cells5 B0_1
    have z0 : w.heap.size < w1.heap.size := B0_1.lt
    obtain ⟨⟨c1_0, c1_1, c1_2, c1_3, c1_4, c1_5, c1_6, c1_7, c1_8, c1_9, c1_10⟩, d1_0, d1_1, d1_2, d1_3, d1_4, d1_5, d1_6, d1_7, d1_8, d1_9, d1_10⟩ := cells11 B1_1
    have z1 : w.heap.size + 1 < w1.heap.size := B1_1.lt
    obtain ⟨c2_0, c2_1, c2_2, c2_3, c2_4, d2_0, d2_1, d2_2, d2_3, d2_4⟩ := cells5 B2_1
    have z2 : w.heap.size + 1 + 1 < w1.heap.size := B2_1.lt
    obtain ⟨cN9_16_0, cN9_16_1, cN9_16_2, dN9_16_0, dN9_16_1, dN9_16_2⟩ := cells3 BN9_16_1
    have zN9_16 : bn16 < w1.heap.size := BN9_16_1.lt
    have mw := hq1 _ _ _ uw
    have mg := hq1 _ _ _ ug
    clear hq1
    go_wp2_with (fail)
    go_at_call 70
    refine (kt _ _ (IsMem.mk rfl (IsInts.keep mw keq) (IsInts.keep mg keq) : IsMem (Bx N w.heap.size (w.heap.size + 3)) _ _ m1) (by first | omega | (simp <;> omega))).calls.mono ?_
    rintro e w2 ⟨_, rfl, hb2, hu2⟩
    obtain ⟨n1, n2, n3, n4, rfl, nw2, ng2⟩ := hu2.opened
    have B0_2 : Box w2 (w.heap.size) #[.slice u1 m1.W.length u2, .slice u3 m1.G.length u4, .bool m1.bad, .slice ac s.C.length cc, .slice al s.L.length cl] 83 := (((B0_1.setCell _).setCell _).setCell _).ext hb2
    have B1_2 : Box w2 (w.heap.size + 1) #[.int .i64 op, .int .i64 2, .int .i64 q0, .int .i64 q1, .int .i64 q2, .int .i64 q3, .int .i64 q4, .int .i64 q5, .int .i64 q6, .int .i64 q7, .slice ga fS.length gc] 95 := (((B1_1.setOther (by first | omega | (simp <;> omega)) _).setOther (by first | omega | (simp <;> omega)) _).setOther (by first | omega | (simp <;> omega)) _).ext hb2
    have B2_2 : Box w2 (w.heap.size + 1 + 1) #[.slice none 0 0, .slice none 0 0, .bool false, .slice none 0 0, .slice none 0 0] 83 := (((B2_1.setOther (by first | omega | (simp <;> omega)) _).setOther (by first | omega | (simp <;> omega)) _).setOther (by first | omega | (simp <;> omega)) _).ext hb2
    have BN9_16_2 : Box w2 (bn16) #[.slice u1 m1.W.length u2, .slice u3 m1.G.length u4, .bool m1.bad] 50 := (((BN9_16_1.setOther (by first | omega | (simp <;> omega)) _).setOther (by first | omega | (simp <;> omega)) _).setOther (by first | omega | (simp <;> omega)) _).ext hb2
    clear c0_0 c0_1 c0_2 c0_3 c0_4 d0_0 d0_1 d0_2 d0_3 d0_4 z0 c1_0 c1_1 c1_2 c1_3 c1_4 c1_5 c1_6 c1_7 c1_8 c1_9 c1_10 d1_0 d1_1 d1_2 d1_3 d1_4 d1_5 d1_6 d1_7 d1_8 d1_9 d1_10 z1 c2_0 c2_1 c2_2 c2_3 c2_4 d2_0 d2_1 d2_2 d2_3 d2_4 z2 cN9_16_0 cN9_16_1 cN9_16_2 dN9_16_0 dN9_16_1 dN9_16_2 zN9_16
    have s2 : w1.heap.size ≤ w2.heap.size := (by have h := hb2.size; first | omega | (simp at h; omega))
    obtain ⟨c0_0, c0_1, c0_2, c0_3, c0_4, d0_0, d0_1, d0_2, d0_3, d0_4⟩ := cells5 B0_2
    have z0 : w.heap.size < w2.heap.size := B0_2.lt
    obtain ⟨⟨c1_0, c1_1, c1_2, c1_3, c1_4, c1_5, c1_6, c1_7, c1_8, c1_9, c1_10⟩, d1_0, d1_1, d1_2, d1_3, d1_4, d1_5, d1_6, d1_7, d1_8, d1_9, d1_10⟩ := cells11 B1_2
    have z1 : w.heap.size + 1 < w2.heap.size := B1_2.lt
    obtain ⟨c2_0, c2_1, c2_2, c2_3, c2_4, d2_0, d2_1, d2_2, d2_3, d2_4⟩ := cells5 B2_2
    have z2 : w.heap.size + 1 + 1 < w2.heap.size := B2_2.lt
    obtain ⟨cN9_16_0, cN9_16_1, cN9_16_2, dN9_16_0, dN9_16_1, dN9_16_2⟩ := cells3 BN9_16_2
    have zN9_16 : bn16 < w2.heap.size := BN9_16_2.lt
    go_wp2_with (fail)
    go_at_call 86
    refine (back_ (Bx N w.heap.size (w.heap.size + 3)) _ (memS s m2) id q0 0 _ (IsSys.mk rfl (IsInts.keep nw2 keq) (IsInts.keep ng2 keq) (IsCores.keep hcB keq) (IsEvs.keep hlB keq) : IsSys (Bx N w.heap.size (w.heap.size + 3)) _ _ (memS s m2)) (Bx.le hN (by first | omega | (simp <;> omega))) hC).calls.mono ?_
    rintro e w3 ⟨_, rfl, hb3, hu3⟩
    obtain ⟨r1, r2, r3, r4, r5, r6, r7, r8, rfl, rW, rG, rC, rL⟩ := hu3.opened
    have B0_3 : Box w3 (w.heap.size) #[.slice n1 m2.W.length n2, .slice n3 m2.G.length n4, .bool m2.bad, .slice ac s.C.length cc, .slice al s.L.length cl] 83 := (((B0_2.setCell _).setCell _).setCell _).ext hb3
    have B1_3 : Box w3 (w.heap.size + 1) #[.int .i64 op, .int .i64 2, .int .i64 q0, .int .i64 q1, .int .i64 q2, .int .i64 q3, .int .i64 q4, .int .i64 q5, .int .i64 q6, .int .i64 q7, .slice ga fS.length gc] 95 := (((B1_2.setOther (by first | omega | (simp <;> omega)) _).setOther (by first | omega | (simp <;> omega)) _).setOther (by first | omega | (simp <;> omega)) _).ext hb3
    have B2_3 : Box w3 (w.heap.size + 1 + 1) #[.slice none 0 0, .slice none 0 0, .bool false, .slice none 0 0, .slice none 0 0] 83 := (((B2_2.setOther (by first | omega | (simp <;> omega)) _).setOther (by first | omega | (simp <;> omega)) _).setOther (by first | omega | (simp <;> omega)) _).ext hb3
    have BN9_16_3 : Box w3 (bn16) #[.slice u1 m1.W.length u2, .slice u3 m1.G.length u4, .bool m1.bad] 50 := (((BN9_16_2.setOther (by first | omega | (simp <;> omega)) _).setOther (by first | omega | (simp <;> omega)) _).setOther (by first | omega | (simp <;> omega)) _).ext hb3
    clear c0_0 c0_1 c0_2 c0_3 c0_4 d0_0 d0_1 d0_2 d0_3 d0_4 z0 c1_0 c1_1 c1_2 c1_3 c1_4 c1_5 c1_6 c1_7 c1_8 c1_9 c1_10 d1_0 d1_1 d1_2 d1_3 d1_4 d1_5 d1_6 d1_7 d1_8 d1_9 d1_10 z1 c2_0 c2_1 c2_2 c2_3 c2_4 d2_0 d2_1 d2_2 d2_3 d2_4 z2 cN9_16_0 cN9_16_1 cN9_16_2 dN9_16_0 dN9_16_1 dN9_16_2 zN9_16
    have s3 : w2.heap.size ≤ w3.heap.size := (by have h := hb3.size; first | omega | (simp at h; omega))
    obtain ⟨c0_0, c0_1, c0_2, c0_3, c0_4, d0_0, d0_1, d0_2, d0_3, d0_4⟩ := cells5 B0_3
    have z0 : w.heap.size < w3.heap.size := B0_3.lt
    obtain ⟨⟨c1_0, c1_1, c1_2, c1_3, c1_4, c1_5, c1_6, c1_7, c1_8, c1_9, c1_10⟩, d1_0, d1_1, d1_2, d1_3, d1_4, d1_5, d1_6, d1_7, d1_8, d1_9, d1_10⟩ := cells11 B1_3
    have z1 : w.heap.size + 1 < w3.heap.size := B1_3.lt
    obtain ⟨c2_0, c2_1, c2_2, c2_3, c2_4, d2_0, d2_1, d2_2, d2_3, d2_4⟩ := cells5 B2_3
    have z2 : w.heap.size + 1 + 1 < w3.heap.size := B2_3.lt
    obtain ⟨cN9_16_0, cN9_16_1, cN9_16_2, dN9_16_0, dN9_16_1, dN9_16_2⟩ := cells3 BN9_16_3
    have zN9_16 : bn16 < w3.heap.size := BN9_16_3.lt
    go_wp2
    exact bodyPost_ret (ret_cell (cs := #[.slice r1 (backS (memS s m2) id q0 0).M.W.length r2, .slice r3 (backS (memS s m2) id q0 0).M.G.length r4, .bool (backS (memS s m2) id q0 0).M.bad, .slice r5 (backS (memS s m2) id q0 0).C.length r6, .slice r7 (backS (memS s m2) id q0 0).L.length r8]) (((((B2_3.setCell _).setCell _).setCell _).setCell _).setCell _) Proofs.Try.results153 rfl Proofs.Try.underlying83 rfl (by kernel_rfl)) rfl ⟨_, rfl, exn, IsSys.less (IsSys.keep hu3 keq) (fun _ _ hn => .inl hn)⟩
set_option maxHeartbeats 1000000 in
set_option maxRecDepth 100000 in
theorem push_n2 (N : Nat → Prop) (s : SysD) (id op q0 q1 q2 q3 q4 q5 q6 q7 : Int) (fS : List Int) (aw ag ac al ga : Option Addr) (cw cg cc cl gc : Nat) (w : World) (hw : IsInts N w (.slice aw s.M.W.length cw) s.M.W) (hg : IsInts N w (.slice ag s.M.G.length cg) s.M.G) (hc : IsCores N w (.slice ac s.C.length cc) s.C) (hl : IsEvs N w (.slice al s.L.length cl) s.L) (fs : IsInts N w (.slice ga fS.length gc) fS)
    (hN : ∀ b, N b → b < w.heap.size) (hC : s.C.length ≤ 100000) (hFm : ∀ (i : Nat) c, s.C[i]? = some c → c.F.length ≤ 100000) (hfit : Fits s.M) (hcas : casIs s.M 0 q1 = false) :
    Gives Proofs.Try.prog 153 #[.agg #[.slice aw s.M.W.length cw, .slice ag s.M.G.length cg, .bool s.M.bad, .slice ac s.C.length cc, .slice al s.L.length cl], .int .i64 id, .agg #[.int .i64 op, .int .i64 2, .int .i64 q0, .int .i64 q1, .int .i64 q2, .int .i64 q3, .int .i64 q4, .int .i64 q5, .int .i64 q6, .int .i64 q7, .slice ga fS.length gc]] w (fun r w' => IsSys N w' r (onS s id (casD s.M 0 q1 (nextW q1 q0 0)) ⟨op, 2, [q0, q1, q2, q3, q4, q5, q6, q7], fS⟩ 0)) := by
  have hwB := hw.bxn (hi := w.heap.size + 3)
  have hgB := hg.bxn (hi := w.heap.size + 3)
  have hcB := hc.bxn (hi := w.heap.size + 3)
  have hlB := hl.bxn (hi := w.heap.size + 3)
  have fsB := fs.bxn (hi := w.heap.size + 3)
  obtain ⟨m1, hm1⟩ : ∃ m, casD s.M 0 q1 (nextW q1 q0 0) = m := ⟨_, rfl⟩
  obtain ⟨nw, hnw⟩ : ∃ n, (nextW q1 q0 0) = n := ⟨_, rfl⟩
  have kx : ∀ w' : World, Gives Proofs.Try.prog 47 #[.int .i64 q1, .int .i64 q0, .int .i64 0] w' (eqv (.int .i64 nw)) := fun w' => by have := next_ q1 q0 0 w'; rw [hnw] at this; exact this
  have ks : ∀ (w' : World) (va : Value), IsMem (Bx N w.heap.size (w.heap.size + 3)) w' va s.M → w.heap.size + 3 ≤ w'.heap.size → Gives Proofs.Try.prog 66 #[va, .int .i64 0, .int .i64 q1, .int .i64 nw] w' (fun r w' => ∃ u, r = .tuple #[u, .bool false] ∧ IsMem (Bx N w.heap.size (w.heap.size + 3)) w' u m1) := fun w' va hm hsz => by
    have := memCas_ (Bx N w.heap.size (w.heap.size + 3)) va s.M 0 q1 (nextW q1 q0 0) w' hm hfit (Bx.le hN hsz) (by decide) (by decide)
    rw [hm1, hcas, hnw] at this; exact this
  rw [hm1]
  clear hm1 hnw
  go_enter Proofs.Try.func153, Proofs.Try.ntmps153
  go_wp2_with (fail)
  obtain ⟨W9, hW⟩ : ∃ W, W = (((w.alloc (.cells #[.slice aw s.M.W.length cw, .slice ag s.M.G.length cg, .bool s.M.bad, .slice ac s.C.length cc, .slice al s.L.length cl] 83 (0, 0))).alloc (.cells #[.int .i64 op, .int .i64 2, .int .i64 q0, .int .i64 q1, .int .i64 q2, .int .i64 q3, .int .i64 q4, .int .i64 q5, .int .i64 q6, .int .i64 q7, .slice ga fS.length gc] 95 (0, 0))).alloc (.cells #[.slice none 0 0, .slice none 0 0, .bool false, .slice none 0 0, .slice none 0 0] 83 (0, 0))) := ⟨_, rfl⟩
  have hX9 : Ext w W9 := by rw [hW]; exact exn
  have hK9 : Keep (Bx N w.heap.size (w.heap.size + 3)) w W9 := by rw [hW]; exact keq
  have D0_9 : Box (((w.alloc (.cells #[.slice aw s.M.W.length cw, .slice ag s.M.G.length cg, .bool s.M.bad, .slice ac s.C.length cc, .slice al s.L.length cl] 83 (0, 0))).alloc (.cells #[.int .i64 op, .int .i64 2, .int .i64 q0, .int .i64 q1, .int .i64 q2, .int .i64 q3, .int .i64 q4, .int .i64 q5, .int .i64 q6, .int .i64 q7, .slice ga fS.length gc] 95 (0, 0))).alloc (.cells #[.slice none 0 0, .slice none 0 0, .bool false, .slice none 0 0, .slice none 0 0] 83 (0, 0))) (w.heap.size) #[.slice aw s.M.W.length cw, .slice ag s.M.G.length cg, .bool s.M.bad, .slice ac s.C.length cc, .slice al s.L.length cl] 83 := (((Box.newAt _ _ _ (by first | rfl | simp)).alloc _).alloc _)
  rw [← hW] at D0_9
  have D1_9 : Box (((w.alloc (.cells #[.slice aw s.M.W.length cw, .slice ag s.M.G.length cg, .bool s.M.bad, .slice ac s.C.length cc, .slice al s.L.length cl] 83 (0, 0))).alloc (.cells #[.int .i64 op, .int .i64 2, .int .i64 q0, .int .i64 q1, .int .i64 q2, .int .i64 q3, .int .i64 q4, .int .i64 q5, .int .i64 q6, .int .i64 q7, .slice ga fS.length gc] 95 (0, 0))).alloc (.cells #[.slice none 0 0, .slice none 0 0, .bool false, .slice none 0 0, .slice none 0 0] 83 (0, 0))) (w.heap.size + 1) #[.int .i64 op, .int .i64 2, .int .i64 q0, .int .i64 q1, .int .i64 q2, .int .i64 q3, .int .i64 q4, .int .i64 q5, .int .i64 q6, .int .i64 q7, .slice ga fS.length gc] 95 := ((Box.newAt _ _ _ (by first | rfl | simp)).alloc _)
  rw [← hW] at D1_9
  have D2_9 : Box (((w.alloc (.cells #[.slice aw s.M.W.length cw, .slice ag s.M.G.length cg, .bool s.M.bad, .slice ac s.C.length cc, .slice al s.L.length cl] 83 (0, 0))).alloc (.cells #[.int .i64 op, .int .i64 2, .int .i64 q0, .int .i64 q1, .int .i64 q2, .int .i64 q3, .int .i64 q4, .int .i64 q5, .int .i64 q6, .int .i64 q7, .slice ga fS.length gc] 95 (0, 0))).alloc (.cells #[.slice none 0 0, .slice none 0 0, .bool false, .slice none 0 0, .slice none 0 0] 83 (0, 0))) (w.heap.size + 1 + 1) #[.slice none 0 0, .slice none 0 0, .bool false, .slice none 0 0, .slice none 0 0] 83 := (Box.newAt _ _ _ (by first | rfl | simp))
  rw [← hW] at D2_9
  have y9 : w.heap.size + 3 ≤ W9.heap.size := by rw [hW]; simp
  rw [← hW]
  clear hW
  have aM : IsMem (Bx N w.heap.size (w.heap.size + 3)) W9 (.agg #[.slice aw s.M.W.length cw, .slice ag s.M.G.length cg, .bool s.M.bad]) s.M := (IsMem.mk rfl hwB hgB : IsMem (Bx N w.heap.size (w.heap.size + 3)) w _ s.M).keep ((Keep.refl _ _).ext hX9)
  apply region_lit2 (T := [17]) (L := [15, 18]) (X := []) (G := [eqv _, eqv _, eqv _, eqv _, eqv _, eqv _, eqv _, eqv _, eqv _, eqv _, eqv _, eqv _, isTupN (Bx N w.heap.size (w.heap.size + 3)) m1 (.bool false), isTupN (Bx N w.heap.size (w.heap.size + 3)) m1 (.bool false), isMemN (Bx N w.heap.size (w.heap.size + 3)) m1, eqv (.bool false), isNew W9.heap.size #[.slice none 0 0, .slice none 0 0, .bool false] 50, anyG, eqv _])
  case hm => kernel_rfl
  case hop =>
    refine ⟨?_, ?_, ?_, ?_, ?_, ?_, ?_, ?_, ?_, ?_, ?_, ?_, ?_, ?_, ?_, ?_, ?_, ?_, ?_, trivial⟩
    · intro a wa hs hf hd
      have t3 := hf.off 3 (by kernel_rfl) rfl
      exact plain_ rfl (yes_eqv (o_fieldAddr rfl Proofs.Try.underlying83 rfl rfl (by kernel_rfl) t3) rfl)
    · intro a wa hs hf hd
      have t47 : a.eval (.tmp 47) = _ := hd.at 0 47 (by kernel_rfl)
      exact plain_ rfl (yes_eqv (o_load3 rfl Proofs.Try.underlying50 rfl (by kernel_rfl) t47 ((D0_9.since hs rfl).cell rfl) ((D0_9.since hs rfl).cell rfl) ((D0_9.since hs rfl).cell rfl)) rfl)
    · intro a wa hs hf hd
      have t5 := hf.off 5 (by kernel_rfl) rfl
      exact plain_ rfl (yes_eqv (o_fieldAddr rfl Proofs.Try.underlying95 rfl rfl (by kernel_rfl) t5) rfl)
    · intro a wa hs hf hd
      have t49 : a.eval (.tmp 49) = _ := hd.at 2 49 (by kernel_rfl)
      exact plain_ rfl (yes_eqv (o_indexAddrA (sz := 1) rfl Proofs.Try.underlying93 (by kernel_rfl) t49 rfl (by decide) (by decide)) rfl)
    · intro a wa hs hf hd
      have t50 : a.eval (.tmp 50) = _ := hd.at 3 50 (by kernel_rfl)
      exact plain_ rfl (yes_eqv (o_load1 rfl Proofs.Try.underlying3 rfl t50 ((D1_9.since hs rfl).cell rfl)) rfl)
    · intro a wa hs hf hd
      have t5 := hf.off 5 (by kernel_rfl) rfl
      exact plain_ rfl (yes_eqv (o_fieldAddr rfl Proofs.Try.underlying95 rfl rfl (by kernel_rfl) t5) rfl)
    · intro a wa hs hf hd
      have t52 : a.eval (.tmp 52) = _ := hd.at 5 52 (by kernel_rfl)
      exact plain_ rfl (yes_eqv (o_indexAddrA (sz := 1) rfl Proofs.Try.underlying93 (by kernel_rfl) t52 rfl (by decide) (by decide)) rfl)
    · intro a wa hs hf hd
      have t53 : a.eval (.tmp 53) = _ := hd.at 6 53 (by kernel_rfl)
      exact plain_ rfl (yes_eqv (o_load1 rfl Proofs.Try.underlying3 rfl t53 ((D1_9.since hs rfl).cell rfl)) rfl)
    · intro a wa hs hf hd
      have t5 := hf.off 5 (by kernel_rfl) rfl
      exact plain_ rfl (yes_eqv (o_fieldAddr rfl Proofs.Try.underlying95 rfl rfl (by kernel_rfl) t5) rfl)
    · intro a wa hs hf hd
      have t55 : a.eval (.tmp 55) = _ := hd.at 8 55 (by kernel_rfl)
      exact plain_ rfl (yes_eqv (o_indexAddrA (sz := 1) rfl Proofs.Try.underlying93 (by kernel_rfl) t55 rfl (by decide) (by decide)) rfl)
    · intro a wa hs hf hd
      have t56 : a.eval (.tmp 56) = _ := hd.at 9 56 (by kernel_rfl)
      exact plain_ rfl (yes_eqv (o_load1 rfl Proofs.Try.underlying3 rfl t56 ((D1_9.since hs rfl).cell rfl)) rfl)
    · intro a wa hs hf hd
      have t54 : a.eval (.tmp 54) = _ := hd.at 7 54 (by kernel_rfl)
      have t57 : a.eval (.tmp 57) = _ := hd.at 10 57 (by kernel_rfl)
      exact plain_ rfl (yes_gives (kx _) rfl rfl Proofs.Try.func47 (by kernel_rfl) (by kernel_rfl) (by simp only [List.map_toArray, List.map_cons, List.map_nil, eval_const, t54, t57]) rfl)
    · intro a wa hs hf hd
      have t48 : a.eval (.tmp 48) = _ := hd.at 1 48 (by kernel_rfl)
      have t51 : a.eval (.tmp 51) = _ := hd.at 4 51 (by kernel_rfl)
      have t58 : a.eval (.tmp 58) = _ := hd.at 11 58 (by kernel_rfl)
      exact plain_ rfl (yes_gives (ks _ _ (aM.keep (Since.to_ext hs).keep) (by have := (Since.to_ext hs).size; have := hX9.size; omega)) rfl rfl Proofs.Try.func66 (by kernel_rfl) (by kernel_rfl) (by simp only [List.map_toArray, List.map_cons, List.map_nil, eval_const, t48, t51, t58]) rfl)
    · intro a wa hs hf hd
      have t59 := hd.at 12 59 (by kernel_rfl)
      obtain ⟨u, hu, hm⟩ := t59
      exact plain_ rfl (yes_val (runs_ok (o_move rfl hu)) (Ext.refl _) ⟨u, rfl, hm⟩ rfl)
    · intro a wa hs hf hd
      have t46 := hd.at 13 46 (by kernel_rfl)
      obtain ⟨u, hu, hm⟩ := t46
      exact plain_ rfl (yes_val (runs_ok (o_extract rfl hu rfl)) (Ext.refl _) hm rfl)
    · intro a wb wa hs1 hs hf hd
      have t46 := hd.at 13 46 (by kernel_rfl)
      obtain ⟨u, hu, hm⟩ := t46
      exact plain_ rfl (late_eqv (o_extract rfl hu rfl) rfl)
    · intro a wa hs hf hd
      exact plain_ rfl (yes_new (z := .agg #[.slice none 0 0, .slice none 0 0, .bool false]) rfl (by kernel_rfl) (by kernel_rfl) rfl hs.size)
    · intro a wb wa hs1 hs hf hd hrun
      have t7 := hd.at 16 7 (by kernel_rfl)
      have t60 := hd.at 14 60 (by kernel_rfl)
      subst hrun
      have q18 : IsMem (Bx N w.heap.size (w.heap.size + 3)) _ (a.eval (.tmp 60)) m1 := t60
      obtain ⟨u1, u2, u3, u4, hv, _⟩ := q18.opened
      obtain ⟨bk, hp, hk, hBk⟩ := t7
      exact ⟨_, o_store rfl hp hv hBk (by kernel_rfl) (by simp [Value.cells, Value.oneCell']) (by first | (simp [Value.cells]; done) | (simp [Value.cells]; omega)) rfl, Since.put hs (.inl hk)⟩
    · intro a wb wa hs1 hs hf hd
      have t61 : a.eval (.tmp 61) = _ := hd.at 15 61 (by kernel_rfl)
      exact plain_ rfl (late_eqv (o_assign rfl t61) rfl)
  case hG => exact ⟨stable_eqv _, stable_eqv _, stable_eqv _, stable_eqv _, stable_eqv _, stable_eqv _, stable_eqv _, stable_eqv _, stable_eqv _, stable_eqv _, stable_eqv _, stable_eqv _, stable_isTupN _ _ _, stable_isTupN _ _ _, stable_isMemN _ _, stable_eqv _, stable_isNew _ _ _, stable_any, stable_eqv _, trivial⟩
  case hc => kernel_rfl
  case hfin =>
    intro v9 hs9
    rintro _ rfl _ rfl _ rfl _ rfl _ rfl _ rfl _ rfl _ rfl _ rfl _ rfl _ rfl _ rfl _ ⟨p12, rfl, h12⟩ _ ⟨p13, rfl, h13⟩ p14 h14 _ rfl _ ⟨bn16, rfl, hbn16, hBn16⟩ _ rfl
    obtain ⟨u1, u2, u3, u4, rfl, uw, ug⟩ := IsMem.opened h14
    rintro v9w ⟨o1, v1, ho1, hr1, rfl⟩
    cases ho1
    simp only [Act.put, List.setIfInBounds_toArray, List.set_cons_zero, List.set_cons_succ] at hr1 ⊢
    cases (hr1.symm.trans (o_store (v := .agg #[.slice u1 m1.W.length u2, .slice u3 m1.G.length u4, .bool m1.bad]) (new := #[.slice u1 m1.W.length u2, .slice u3 m1.G.length u4, .bool m1.bad]) rfl rfl rfl ((hBn16)) (by kernel_rfl) (by simp [Value.cells, Value.oneCell']) (by first | (simp [Value.cells]; done) | (simp [Value.cells]; omega)) (by first | rfl | kernel_rfl)))
    obtain ⟨w1, hw1⟩ : ∃ x, x = (put v9 bn16 (.cells #[.slice u1 m1.W.length u2, .slice u3 m1.G.length u4, .bool m1.bad] 50 (0, 0))) := ⟨_, rfl⟩
    have hW1 : Ext W9 v9 := Since.to_ext hs9
    have hb1 : Ext w w1 := by rw [hw1]; exact Since.to_ext ((Since.of_ext (hX9.trans hW1)).put (.inl (by have := hX9.size; omega)))
    have hk1 : Keep (Bx N w.heap.size (w.heap.size + 3)) w w1 := by rw [hw1]; exact ((hK9.ext hW1).put _ _ (.inl (by omega)))
    have hq1 : ∀ M v l, IsInts M v9 v l → IsInts M w1 v l := by intro M v l h; rw [hw1]; exact h.putNew hBn16 zero50
    have B0_1 : Box w1 (w.heap.size) #[.slice aw s.M.W.length cw, .slice ag s.M.G.length cg, .bool s.M.bad, .slice ac s.C.length cc, .slice al s.L.length cl] 83 := by rw [hw1]; exact (box_putOther (D0_9.since hs9 rfl) (by omega))
    have B1_1 : Box w1 (w.heap.size + 1) #[.int .i64 op, .int .i64 2, .int .i64 q0, .int .i64 q1, .int .i64 q2, .int .i64 q3, .int .i64 q4, .int .i64 q5, .int .i64 q6, .int .i64 q7, .slice ga fS.length gc] 95 := by rw [hw1]; exact (box_putOther (D1_9.since hs9 rfl) (by omega))
    have B2_1 : Box w1 (w.heap.size + 1 + 1) #[.slice none 0 0, .slice none 0 0, .bool false, .slice none 0 0, .slice none 0 0] 83 := by rw [hw1]; exact (box_putOther (D2_9.since hs9 rfl) (by omega))
    have BN9_16_1 : Box w1 (bn16) #[.slice u1 m1.W.length u2, .slice u3 m1.G.length u4, .bool m1.bad] 50 := by rw [hw1]; exact (hBn16).put
    have s1 : W9.heap.size ≤ w1.heap.size := by rw [hw1]; have := hW1.size; simpa [put] using this
    rw [← hw1]
    clear hw1
    obtain ⟨c0_0, c0_1, c0_2, c0_3, c0_4, d0_0, d0_1, d0_2, d0_3, d0_4⟩ := cells5 B0_1
    have z0 : w.heap.size < w1.heap.size := B0_1.lt
    obtain ⟨⟨c1_0, c1_1, c1_2, c1_3, c1_4, c1_5, c1_6, c1_7, c1_8, c1_9, c1_10⟩, d1_0, d1_1, d1_2, d1_3, d1_4, d1_5, d1_6, d1_7, d1_8, d1_9, d1_10⟩ := cells11 B1_1
    have z1 : w.heap.size + 1 < w1.heap.size := B1_1.lt
    obtain ⟨c2_0, c2_1, c2_2, c2_3, c2_4, d2_0, d2_1, d2_2, d2_3, d2_4⟩ := cells5 B2_1
    have z2 : w.heap.size + 1 + 1 < w1.heap.size := B2_1.lt
    obtain ⟨cN9_16_0, cN9_16_1, cN9_16_2, dN9_16_0, dN9_16_1, dN9_16_2⟩ := cells3 BN9_16_1
    have zN9_16 : bn16 < w1.heap.size := BN9_16_1.lt
    have mw := hq1 _ _ _ uw
    have mg := hq1 _ _ _ ug
    clear hq1
    go_wp2_with (fail)
    go_at_call 165
    refine (on4_ (Bx N w.heap.size (w.heap.size + 3)) _ _ (memS s m1) id 0 ⟨op, 2, [q0, q1, q2, q3, q4, q5, q6, q7], fS⟩ _ (IsSys.mk rfl (IsInts.keep mw keq) (IsInts.keep mg keq) (IsCores.keep hcB keq) (IsEvs.keep hlB keq) : IsSys (Bx N w.heap.size (w.heap.size + 3)) _ _ (memS s m1)) (IsFrame.ofLit (IsInts.keep fsB keq) : IsFrame _ _ _ ⟨op, 2, [q0, q1, q2, q3, q4, q5, q6, q7], fS⟩) (Bx.le hN (by first | omega | (simp <;> omega))) hC hFm).calls.mono ?_
    rintro e w2 ⟨_, rfl, hb2, hu2⟩
    obtain ⟨r1, r2, r3, r4, r5, r6, r7, r8, rfl, rW, rG, rC, rL⟩ := hu2.opened
    have B0_2 : Box w2 (w.heap.size) #[.slice u1 m1.W.length u2, .slice u3 m1.G.length u4, .bool m1.bad, .slice ac s.C.length cc, .slice al s.L.length cl] 83 := (((B0_1.setCell _).setCell _).setCell _).ext hb2
    have B1_2 : Box w2 (w.heap.size + 1) #[.int .i64 op, .int .i64 2, .int .i64 q0, .int .i64 q1, .int .i64 q2, .int .i64 q3, .int .i64 q4, .int .i64 q5, .int .i64 q6, .int .i64 q7, .slice ga fS.length gc] 95 := (((B1_1.setOther (by first | omega | (simp <;> omega)) _).setOther (by first | omega | (simp <;> omega)) _).setOther (by first | omega | (simp <;> omega)) _).ext hb2
    have B2_2 : Box w2 (w.heap.size + 1 + 1) #[.slice none 0 0, .slice none 0 0, .bool false, .slice none 0 0, .slice none 0 0] 83 := (((B2_1.setOther (by first | omega | (simp <;> omega)) _).setOther (by first | omega | (simp <;> omega)) _).setOther (by first | omega | (simp <;> omega)) _).ext hb2
    have BN9_16_2 : Box w2 (bn16) #[.slice u1 m1.W.length u2, .slice u3 m1.G.length u4, .bool m1.bad] 50 := (((BN9_16_1.setOther (by first | omega | (simp <;> omega)) _).setOther (by first | omega | (simp <;> omega)) _).setOther (by first | omega | (simp <;> omega)) _).ext hb2
    clear c0_0 c0_1 c0_2 c0_3 c0_4 d0_0 d0_1 d0_2 d0_3 d0_4 z0 c1_0 c1_1 c1_2 c1_3 c1_4 c1_5 c1_6 c1_7 c1_8 c1_9 c1_10 d1_0 d1_1 d1_2 d1_3 d1_4 d1_5 d1_6 d1_7 d1_8 d1_9 d1_10 z1 c2_0 c2_1 c2_2 c2_3 c2_4 d2_0 d2_1 d2_2 d2_3 d2_4 z2 cN9_16_0 cN9_16_1 cN9_16_2 dN9_16_0 dN9_16_1 dN9_16_2 zN9_16
    have s2 : w1.heap.size ≤ w2.heap.size := (by have h := hb2.size; first | omega | (simp at h; omega))
    obtain ⟨c0_0, c0_1, c0_2, c0_3, c0_4, d0_0, d0_1, d0_2, d0_3, d0_4⟩ := cells5 B0_2
    have z0 : w.heap.size < w2.heap.size := B0_2.lt
    obtain ⟨⟨c1_0, c1_1, c1_2, c1_3, c1_4, c1_5, c1_6, c1_7, c1_8, c1_9, c1_10⟩, d1_0, d1_1, d1_2, d1_3, d1_4, d1_5, d1_6, d1_7, d1_8, d1_9, d1_10⟩ := cells11 B1_2
    have z1 : w.heap.size + 1 < w2.heap.size := B1_2.lt
    obtain ⟨c2_0, c2_1, c2_2, c2_3, c2_4, d2_0, d2_1, d2_2, d2_3, d2_4⟩ := cells5 B2_2
    have z2 : w.heap.size + 1 + 1 < w2.heap.size := B2_2.lt
    obtain ⟨cN9_16_0, cN9_16_1, cN9_16_2, dN9_16_0, dN9_16_1, dN9_16_2⟩ := cells3 BN9_16_2
    have zN9_16 : bn16 < w2.heap.size := BN9_16_2.lt
    go_wp2
    exact bodyPost_ret (ret_cell (cs := #[.slice r1 (setS (memS s m1) id (pcF ⟨op, 2, [q0, q1, q2, q3, q4, q5, q6, q7], fS⟩ 0)).M.W.length r2, .slice r3 (setS (memS s m1) id (pcF ⟨op, 2, [q0, q1, q2, q3, q4, q5, q6, q7], fS⟩ 0)).M.G.length r4, .bool (setS (memS s m1) id (pcF ⟨op, 2, [q0, q1, q2, q3, q4, q5, q6, q7], fS⟩ 0)).M.bad, .slice r5 (setS (memS s m1) id (pcF ⟨op, 2, [q0, q1, q2, q3, q4, q5, q6, q7], fS⟩ 0)).C.length r6, .slice r7 (setS (memS s m1) id (pcF ⟨op, 2, [q0, q1, q2, q3, q4, q5, q6, q7], fS⟩ 0)).L.length r8]) (((((B2_2.setCell _).setCell _).setCell _).setCell _).setCell _) Proofs.Try.results153 rfl Proofs.Try.underlying83 rfl (by kernel_rfl)) rfl ⟨_, rfl, exn, IsSys.less (IsSys.keep hu2 keq) (fun _ _ hn => .inl hn)⟩
set_option maxHeartbeats 1000000 in
set_option maxRecDepth 100000 in
theorem push_o (N : Nat → Prop) (s : SysD) (id op pc q0 q1 q2 q3 q4 q5 q6 q7 : Int) (fS : List Int) (aw ag ac al ga : Option Addr) (cw cg cc cl gc : Nat) (w : World) (hw : IsInts N w (.slice aw s.M.W.length cw) s.M.W) (hg : IsInts N w (.slice ag s.M.G.length cg) s.M.G) (hc : IsCores N w (.slice ac s.C.length cc) s.C) (hl : IsEvs N w (.slice al s.L.length cl) s.L) (fs : IsInts N w (.slice ga fS.length gc) fS)
    (hN : ∀ b, N b → b < w.heap.size) (hC : s.C.length ≤ 100000) (hFm : ∀ (i : Nat) c, s.C[i]? = some c → c.F.length ≤ 100000) (hfit : Fits s.M) (p0 : (pc == 0) = false) (p1 : (pc == 1) = false) (p2 : (pc == 2) = false) (p3 : (pc != 0) = true) (p4 : (pc != 2) = true) :
    Gives Proofs.Try.prog 153 #[.agg #[.slice aw s.M.W.length cw, .slice ag s.M.G.length cg, .bool s.M.bad, .slice ac s.C.length cc, .slice al s.L.length cl], .int .i64 id, .agg #[.int .i64 op, .int .i64 pc, .int .i64 q0, .int .i64 q1, .int .i64 q2, .int .i64 q3, .int .i64 q4, .int .i64 q5, .int .i64 q6, .int .i64 q7, .slice ga fS.length gc]] w (fun r w' => IsSys N w' r (s)) := by
  have hwB := hw.bxn (hi := w.heap.size + 3)
  have hgB := hg.bxn (hi := w.heap.size + 3)
  have hcB := hc.bxn (hi := w.heap.size + 3)
  have hlB := hl.bxn (hi := w.heap.size + 3)
  have fsB := fs.bxn (hi := w.heap.size + 3)
  go_enter Proofs.Try.func153, Proofs.Try.ntmps153
  go_wp2
  exact bodyPost_ret (ret_cell (cs := #[.slice aw s.M.W.length cw, .slice ag s.M.G.length cg, .bool s.M.bad, .slice ac s.C.length cc, .slice al s.L.length cl]) (Box.newAt _ _ _ (by first | rfl | simp)) Proofs.Try.results153 rfl Proofs.Try.underlying83 rfl (by kernel_rfl)) rfl ⟨_, rfl, exn, IsSys.mk rfl (hw.ext exn) (hg.ext exn) (IsCores.keep hc (show Ext w _ from exn).keep) (IsEvs.keep hl (show Ext w _ from exn).keep)⟩
theorem fits_cas {m : Arena} {x old new : Int} (h : Fits m) : Fits (casD m x old new) := by
  unfold casD
  split
  · unfold storeD Fits
    split
    · exact h
    · simpa [Fits] using h
  · exact h
theorem pop_ (N : Nat → Prop) (va vf : Value) (s : SysD) (id : Int) (f : FrameD) (w : World) (h : IsSys N w va s) (hf : IsFrame N w vf f) (hN : ∀ b, N b → b < w.heap.size) (hC : s.C.length ≤ 100000) (hFm : ∀ (i : Nat) c, s.C[i]? = some c → c.F.length ≤ 100000) (hfit : Fits s.M) (hL : s.L.length ≤ 100000) :
    Gives Proofs.Try.prog 152 #[va, .int .i64 id, vf] w (fun r w' => IsSys N w' r (popS s id f)) := by
  obtain ⟨aw, cw, ag, cg, ac, cc, al, cl, rfl, hw, hg, hc, hl⟩ := h.opened
  obtain ⟨op, pc, q0, q1, q2, q3, q4, q5, q6, q7, S, ga, gc, rfl, rfl, fs⟩ := hf.lit
  by_cases h0 : pc = 0
  · subst h0
    have e : popS s id ⟨op, 0, [q0, q1, q2, q3, q4, q5, q6, q7], S⟩ = if idx (loadD s.M 0) = 0 then backS (logD (memS s (touchD s.M 0)) id 9 0 0 0) id 0 2 else onS s id (touchD s.M 0) ⟨op, 0, [loadD s.M 0, q1, q2, q3, q4, q5, q6, q7], S⟩ 1 := rfl
    by_cases hi : idx (loadD s.M 0) = 0
    · rw [e, if_pos hi]
      exact pop_z0 N s id op q0 q1 q2 q3 q4 q5 q6 q7 S aw ag ac al ga cw cg cc cl gc w hw hg hc hl fs hN hC hFm hfit hL (by simpa using hi)
    · rw [e, if_neg hi]
      exact pop_n0 N s id op q0 q1 q2 q3 q4 q5 q6 q7 S aw ag ac al ga cw cg cc cl gc w hw hg hc hl fs hN hC hFm hfit (by simpa using hi)
  · by_cases h1 : pc = 1
    · subst h1
      exact pop_1 N s id op q0 q1 q2 q3 q4 q5 q6 q7 S aw ag ac al ga cw cg cc cl gc w hw hg hc hl fs hN hC hFm hfit
    · by_cases h2 : pc = 2
      · subst h2
        have e : popS s id ⟨op, 2, [q0, q1, q2, q3, q4, q5, q6, q7], S⟩ = if casIs s.M 0 q0 then backS (memS s (turnMD (casD s.M 0 q0 (nextW q0 q1 0)) (idx q0) 1)) id (idx q0) 0 else onS s id (casD s.M 0 q0 (nextW q0 q1 0)) ⟨op, 2, [q0, q1, q2, q3, q4, q5, q6, q7], S⟩ 0 := rfl
        cases hcas : casIs s.M 0 q0 with
        | true =>
          rw [e, if_pos hcas]
          exact pop_y2 N s id op q0 q1 q2 q3 q4 q5 q6 q7 S aw ag ac al ga cw cg cc cl gc w hw hg hc hl fs hN hC hFm hfit hcas (fits_cas hfit)
        | false =>
          rw [e, if_neg (by rw [hcas]; decide)]
          exact pop_n2 N s id op q0 q1 q2 q3 q4 q5 q6 q7 S aw ag ac al ga cw cg cc cl gc w hw hg hc hl fs hN hC hFm hfit hcas
      · have e : popS s id ⟨op, pc, [q0, q1, q2, q3, q4, q5, q6, q7], S⟩ = s := by unfold popS; rw [if_neg h0, if_neg h1, if_neg h2]
        rw [e]
        exact pop_o N s id op pc q0 q1 q2 q3 q4 q5 q6 q7 S aw ag ac al ga cw cg cc cl gc w hw hg hc hl fs hN hC hFm hfit (by simpa using h0) (by simpa using h1) (by simpa using h2) (by simpa using h0) (by simpa using h2)
theorem push_ (N : Nat → Prop) (va vf : Value) (s : SysD) (id : Int) (f : FrameD) (w : World) (h : IsSys N w va s) (hf : IsFrame N w vf f) (hN : ∀ b, N b → b < w.heap.size) (hC : s.C.length ≤ 100000) (hFm : ∀ (i : Nat) c, s.C[i]? = some c → c.F.length ≤ 100000) (hfit : Fits s.M) :
    Gives Proofs.Try.prog 153 #[va, .int .i64 id, vf] w (fun r w' => IsSys N w' r (pushS s id f)) := by
  obtain ⟨aw, cw, ag, cg, ac, cc, al, cl, rfl, hw, hg, hc, hl⟩ := h.opened
  obtain ⟨op, pc, q0, q1, q2, q3, q4, q5, q6, q7, S, ga, gc, rfl, rfl, fs⟩ := hf.lit
  by_cases h0 : pc = 0
  · subst h0
    exact push_n0 N s id op q0 q1 q2 q3 q4 q5 q6 q7 S aw ag ac al ga cw cg cc cl gc w hw hg hc hl fs hN hC hFm hfit
  · by_cases h1 : pc = 1
    · subst h1
      exact push_1 N s id op q0 q1 q2 q3 q4 q5 q6 q7 S aw ag ac al ga cw cg cc cl gc w hw hg hc hl fs hN hC hFm hfit
    · by_cases h2 : pc = 2
      · subst h2
        have e : pushS s id ⟨op, 2, [q0, q1, q2, q3, q4, q5, q6, q7], S⟩ = if casIs s.M 0 q1 then backS (memS s (turnMD (casD s.M 0 q1 (nextW q1 q0 0)) q0 0)) id q0 0 else onS s id (casD s.M 0 q1 (nextW q1 q0 0)) ⟨op, 2, [q0, q1, q2, q3, q4, q5, q6, q7], S⟩ 0 := rfl
        cases hcas : casIs s.M 0 q1 with
        | true =>
          rw [e, if_pos hcas]
          exact push_y2 N s id op q0 q1 q2 q3 q4 q5 q6 q7 S aw ag ac al ga cw cg cc cl gc w hw hg hc hl fs hN hC hFm hfit hcas (fits_cas hfit)
        | false =>
          rw [e, if_neg (by rw [hcas]; decide)]
          exact push_n2 N s id op q0 q1 q2 q3 q4 q5 q6 q7 S aw ag ac al ga cw cg cc cl gc w hw hg hc hl fs hN hC hFm hfit hcas
      · have e : pushS s id ⟨op, pc, [q0, q1, q2, q3, q4, q5, q6, q7], S⟩ = s := by unfold pushS; rw [if_neg h0, if_neg h1, if_neg h2]
        rw [e]
        exact push_o N s id op pc q0 q1 q2 q3 q4 q5 q6 q7 S aw ag ac al ga cw cg cc cl gc w hw hg hc hl fs hN hC hFm hfit (by simpa using h0) (by simpa using h1) (by simpa using h2) (by simpa using h0) (by simpa using h2)
set_option maxHeartbeats 1000000 in
set_option maxRecDepth 100000 in
theorem step4_none (N : Nat → Prop) (s : SysD) (id  : Int) (aw ag ac al : Option Addr) (cw cg cc cl : Nat) (w : World) (hw : IsInts N w (.slice aw s.M.W.length cw) s.M.W) (hg : IsInts N w (.slice ag s.M.G.length cg) s.M.G) (hc : IsCores N w (.slice ac s.C.length cc) s.C) (hl : IsEvs N w (.slice al s.L.length cl) s.L)
    (hN : ∀ b, N b → b < w.heap.size) (hC : s.C.length ≤ 100000) (hFm : ∀ (i : Nat) c, s.C[i]? = some c → c.F.length ≤ 100000) (hfit : Fits s.M) (hL : s.L.length ≤ 100000) (ht : topD s id = none)  :
    Gives Proofs.Try.prog 111 #[.agg #[.slice aw s.M.W.length cw, .slice ag s.M.G.length cg, .bool s.M.bad, .slice ac s.C.length cc, .slice al s.L.length cl], .int .i64 id] w (fun r w' => IsSys N w' r (s)) := by
  have hwB := hw.bxn (hi := w.heap.size + 2)
  have hgB := hg.bxn (hi := w.heap.size + 2)
  have hcB := hc.bxn (hi := w.heap.size + 2)
  have hlB := hl.bxn (hi := w.heap.size + 2)
  have h : IsSys N w (.agg #[.slice aw s.M.W.length cw, .slice ag s.M.G.length cg, .bool s.M.bad, .slice ac s.C.length cc, .slice al s.L.length cl]) s := IsSys.mk rfl hw hg hc hl
  have kt : ∀ w' : World, Ext w w' → Gives Proofs.Try.prog 81 #[.agg #[.slice aw s.M.W.length cw, .slice ag s.M.G.length cg, .bool s.M.bad, .slice ac s.C.length cc, .slice al s.L.length cl], .int .i64 id] w' (fun r w' => ∃ u, r = .tuple #[u, .bool (topD s id).isSome] ∧ IsFrame (Bx N w.heap.size (w.heap.size + 2)) w' u (topF s id)) := fun w' e => top_ (Bx N w.heap.size (w.heap.size + 2)) _ s id w' ((IsSys.bxn h).ext e)
  rw [show (topD s id).isSome = false by rw [ht]; rfl] at kt
  obtain ⟨tf, htf⟩ : ∃ f, topF s id = f := ⟨_, rfl⟩
  rw [htf] at kt
  clear htf
  clear ht h
  go_enter Proofs.Try.func111, Proofs.Try.ntmps111
  go_wp2_with (fail)
  go_at_call 81
  refine (kt _ exq).calls.mono ?_
  rintro e w1 ⟨_, rfl, hb1, u, rfl, hu1⟩
  obtain ⟨fa, fc, rfl, f8, fs1⟩ := hu1.opened
  have B0_1 : Box w1 (w.heap.size) #[.slice aw s.M.W.length cw, .slice ag s.M.G.length cg, .bool s.M.bad, .slice ac s.C.length cc, .slice al s.L.length cl] 83 := ((Box.newAt _ _ _ (by first | rfl | simp)).alloc _).ext hb1
  have B1_1 : Box w1 (w.heap.size + 1) #[.slice none 0 0, .slice none 0 0, .bool false, .slice none 0 0, .slice none 0 0] 83 := (Box.newAt _ _ _ (by first | rfl | simp)).ext hb1
  have s1 : w.heap.size + 2 ≤ w1.heap.size := (by have h := hb1.size; first | omega | (simp at h; omega))
  obtain ⟨c0_0, c0_1, c0_2, c0_3, c0_4, d0_0, d0_1, d0_2, d0_3, d0_4⟩ := cells5 B0_1
  have z0 : w.heap.size < w1.heap.size := B0_1.lt
  obtain ⟨c1_0, c1_1, c1_2, c1_3, c1_4, d1_0, d1_1, d1_2, d1_3, d1_4⟩ := cells5 B1_1
  have z1 : w.heap.size + 1 < w1.heap.size := B1_1.lt
  go_wp2
  exact bodyPost_ret (ret_cell (cs := #[.slice aw s.M.W.length cw, .slice ag s.M.G.length cg, .bool s.M.bad, .slice ac s.C.length cc, .slice al s.L.length cl]) ((((((B1_1.setCell _).setCell _).setCell _).setCell _).setCell _).alloc _) Proofs.Try.results111 rfl Proofs.Try.underlying83 rfl (by kernel_rfl)) rfl ⟨_, rfl, exn, IsSys.mk rfl (hw.ext exn) (hg.ext exn) (IsCores.keep hc (show Ext w _ from exn).keep) (IsEvs.keep hl (show Ext w _ from exn).keep)⟩
set_option maxHeartbeats 1000000 in
set_option maxRecDepth 100000 in
theorem step4_p1 (N : Nat → Prop) (s : SysD) (id pc q0 q1 q2 q3 q4 q5 q6 q7 : Int) (fS : List Int) (aw ag ac al : Option Addr) (cw cg cc cl : Nat) (w : World) (hw : IsInts N w (.slice aw s.M.W.length cw) s.M.W) (hg : IsInts N w (.slice ag s.M.G.length cg) s.M.G) (hc : IsCores N w (.slice ac s.C.length cc) s.C) (hl : IsEvs N w (.slice al s.L.length cl) s.L)
    (hN : ∀ b, N b → b < w.heap.size) (hC : s.C.length ≤ 100000) (hFm : ∀ (i : Nat) c, s.C[i]? = some c → c.F.length ≤ 100000) (hfit : Fits s.M) (hL : s.L.length ≤ 100000) (ht : topD s id = some ⟨1, pc, [q0, q1, q2, q3, q4, q5, q6, q7], fS⟩)  :
    Gives Proofs.Try.prog 111 #[.agg #[.slice aw s.M.W.length cw, .slice ag s.M.G.length cg, .bool s.M.bad, .slice ac s.C.length cc, .slice al s.L.length cl], .int .i64 id] w (fun r w' => IsSys N w' r (popS s id ⟨1, pc, [q0, q1, q2, q3, q4, q5, q6, q7], fS⟩)) := by
  have hwB := hw.bxn (hi := w.heap.size + 2)
  have hgB := hg.bxn (hi := w.heap.size + 2)
  have hcB := hc.bxn (hi := w.heap.size + 2)
  have hlB := hl.bxn (hi := w.heap.size + 2)
  have h : IsSys N w (.agg #[.slice aw s.M.W.length cw, .slice ag s.M.G.length cg, .bool s.M.bad, .slice ac s.C.length cc, .slice al s.L.length cl]) s := IsSys.mk rfl hw hg hc hl
  have kt : ∀ w' : World, Ext w w' → Gives Proofs.Try.prog 81 #[.agg #[.slice aw s.M.W.length cw, .slice ag s.M.G.length cg, .bool s.M.bad, .slice ac s.C.length cc, .slice al s.L.length cl], .int .i64 id] w' (fun r w' => ∃ u, r = .tuple #[u, .bool (topD s id).isSome] ∧ IsFrame (Bx N w.heap.size (w.heap.size + 2)) w' u (topF s id)) := fun w' e => top_ (Bx N w.heap.size (w.heap.size + 2)) _ s id w' ((IsSys.bxn h).ext e)
  rw [show (topD s id).isSome = true by rw [ht]; rfl] at kt
  rw [show topF s id = ⟨1, pc, [q0, q1, q2, q3, q4, q5, q6, q7], fS⟩ by unfold topF; rw [ht]; rfl] at kt
  clear ht h
  go_enter Proofs.Try.func111, Proofs.Try.ntmps111
  go_wp2_with (fail)
  go_at_call 81
  refine (kt _ exq).calls.mono ?_
  rintro e w1 ⟨_, rfl, hb1, u, rfl, hu1⟩
  obtain ⟨ga, gc, rfl, fs1⟩ := IsFrame.litv hu1
  have B0_1 : Box w1 (w.heap.size) #[.slice aw s.M.W.length cw, .slice ag s.M.G.length cg, .bool s.M.bad, .slice ac s.C.length cc, .slice al s.L.length cl] 83 := ((Box.newAt _ _ _ (by first | rfl | simp)).alloc _).ext hb1
  have B1_1 : Box w1 (w.heap.size + 1) #[.slice none 0 0, .slice none 0 0, .bool false, .slice none 0 0, .slice none 0 0] 83 := (Box.newAt _ _ _ (by first | rfl | simp)).ext hb1
  have s1 : w.heap.size + 2 ≤ w1.heap.size := (by have h := hb1.size; first | omega | (simp at h; omega))
  obtain ⟨c0_0, c0_1, c0_2, c0_3, c0_4, d0_0, d0_1, d0_2, d0_3, d0_4⟩ := cells5 B0_1
  have z0 : w.heap.size < w1.heap.size := B0_1.lt
  obtain ⟨c1_0, c1_1, c1_2, c1_3, c1_4, d1_0, d1_1, d1_2, d1_3, d1_4⟩ := cells5 B1_1
  have z1 : w.heap.size + 1 < w1.heap.size := B1_1.lt
  go_wp2_with (fail)
  go_at_call 152
  refine (pop_ (Bx N w.heap.size (w.heap.size + 2)) _ _ s id ⟨1, pc, [q0, q1, q2, q3, q4, q5, q6, q7], fS⟩ _ (IsSys.mk rfl (IsInts.keep hwB keq) (IsInts.keep hgB keq) (IsCores.keep hcB keq) (IsEvs.keep hlB keq) : IsSys (Bx N w.heap.size (w.heap.size + 2)) _ _ s) (IsFrame.ofLit (IsInts.keep fs1 keq)) (Bx.le hN (by first | omega | (simp <;> omega))) hC hFm hfit hL).calls.mono ?_
  rintro e w2 ⟨_, rfl, hb2, hu2⟩
  obtain ⟨r1, r2, r3, r4, r5, r6, r7, r8, rfl, rW, rG, rC, rL⟩ := hu2.opened
  have B0_2 : Box w2 (w.heap.size) #[.slice aw s.M.W.length cw, .slice ag s.M.G.length cg, .bool s.M.bad, .slice ac s.C.length cc, .slice al s.L.length cl] 83 := (B0_1.alloc _).ext hb2
  have B1_2 : Box w2 (w.heap.size + 1) #[.slice none 0 0, .slice none 0 0, .bool false, .slice none 0 0, .slice none 0 0] 83 := (B1_1.alloc _).ext hb2
  have B2_2 : Box w2 (w1.heap.size) #[.int .i64 1, .int .i64 pc, .int .i64 q0, .int .i64 q1, .int .i64 q2, .int .i64 q3, .int .i64 q4, .int .i64 q5, .int .i64 q6, .int .i64 q7, .slice ga fS.length gc] 95 := (Box.newAt _ _ _ (by first | rfl | simp)).ext hb2
  clear c0_0 c0_1 c0_2 c0_3 c0_4 d0_0 d0_1 d0_2 d0_3 d0_4 z0 c1_0 c1_1 c1_2 c1_3 c1_4 d1_0 d1_1 d1_2 d1_3 d1_4 z1
  have s2 : w1.heap.size + 1 ≤ w2.heap.size := (by have h := hb2.size; first | omega | (simp at h; omega))
  obtain ⟨c0_0, c0_1, c0_2, c0_3, c0_4, d0_0, d0_1, d0_2, d0_3, d0_4⟩ := cells5 B0_2
  have z0 : w.heap.size < w2.heap.size := B0_2.lt
  obtain ⟨c1_0, c1_1, c1_2, c1_3, c1_4, d1_0, d1_1, d1_2, d1_3, d1_4⟩ := cells5 B1_2
  have z1 : w.heap.size + 1 < w2.heap.size := B1_2.lt
  obtain ⟨⟨c2_0, c2_1, c2_2, c2_3, c2_4, c2_5, c2_6, c2_7, c2_8, c2_9, c2_10⟩, d2_0, d2_1, d2_2, d2_3, d2_4, d2_5, d2_6, d2_7, d2_8, d2_9, d2_10⟩ := cells11 B2_2
  have z2 : w1.heap.size < w2.heap.size := B2_2.lt
  go_wp2
  exact bodyPost_ret (ret_cell (cs := #[.slice r1 (popS s id ⟨1, pc, [q0, q1, q2, q3, q4, q5, q6, q7], fS⟩).M.W.length r2, .slice r3 (popS s id ⟨1, pc, [q0, q1, q2, q3, q4, q5, q6, q7], fS⟩).M.G.length r4, .bool (popS s id ⟨1, pc, [q0, q1, q2, q3, q4, q5, q6, q7], fS⟩).M.bad, .slice r5 (popS s id ⟨1, pc, [q0, q1, q2, q3, q4, q5, q6, q7], fS⟩).C.length r6, .slice r7 (popS s id ⟨1, pc, [q0, q1, q2, q3, q4, q5, q6, q7], fS⟩).L.length r8]) (((((B1_2.setCell _).setCell _).setCell _).setCell _).setCell _) Proofs.Try.results111 rfl Proofs.Try.underlying83 rfl (by kernel_rfl)) rfl ⟨_, rfl, exn, IsSys.less (IsSys.keep hu2 keq) (fun _ _ hn => .inl hn)⟩
set_option maxHeartbeats 1000000 in
set_option maxRecDepth 100000 in
theorem step4_p2 (N : Nat → Prop) (s : SysD) (id pc q0 q1 q2 q3 q4 q5 q6 q7 : Int) (fS : List Int) (aw ag ac al : Option Addr) (cw cg cc cl : Nat) (w : World) (hw : IsInts N w (.slice aw s.M.W.length cw) s.M.W) (hg : IsInts N w (.slice ag s.M.G.length cg) s.M.G) (hc : IsCores N w (.slice ac s.C.length cc) s.C) (hl : IsEvs N w (.slice al s.L.length cl) s.L)
    (hN : ∀ b, N b → b < w.heap.size) (hC : s.C.length ≤ 100000) (hFm : ∀ (i : Nat) c, s.C[i]? = some c → c.F.length ≤ 100000) (hfit : Fits s.M) (hL : s.L.length ≤ 100000) (ht : topD s id = some ⟨2, pc, [q0, q1, q2, q3, q4, q5, q6, q7], fS⟩)  :
    Gives Proofs.Try.prog 111 #[.agg #[.slice aw s.M.W.length cw, .slice ag s.M.G.length cg, .bool s.M.bad, .slice ac s.C.length cc, .slice al s.L.length cl], .int .i64 id] w (fun r w' => IsSys N w' r (pushS s id ⟨2, pc, [q0, q1, q2, q3, q4, q5, q6, q7], fS⟩)) := by
  have hwB := hw.bxn (hi := w.heap.size + 2)
  have hgB := hg.bxn (hi := w.heap.size + 2)
  have hcB := hc.bxn (hi := w.heap.size + 2)
  have hlB := hl.bxn (hi := w.heap.size + 2)
  have h : IsSys N w (.agg #[.slice aw s.M.W.length cw, .slice ag s.M.G.length cg, .bool s.M.bad, .slice ac s.C.length cc, .slice al s.L.length cl]) s := IsSys.mk rfl hw hg hc hl
  have kt : ∀ w' : World, Ext w w' → Gives Proofs.Try.prog 81 #[.agg #[.slice aw s.M.W.length cw, .slice ag s.M.G.length cg, .bool s.M.bad, .slice ac s.C.length cc, .slice al s.L.length cl], .int .i64 id] w' (fun r w' => ∃ u, r = .tuple #[u, .bool (topD s id).isSome] ∧ IsFrame (Bx N w.heap.size (w.heap.size + 2)) w' u (topF s id)) := fun w' e => top_ (Bx N w.heap.size (w.heap.size + 2)) _ s id w' ((IsSys.bxn h).ext e)
  rw [show (topD s id).isSome = true by rw [ht]; rfl] at kt
  rw [show topF s id = ⟨2, pc, [q0, q1, q2, q3, q4, q5, q6, q7], fS⟩ by unfold topF; rw [ht]; rfl] at kt
  clear ht h
  go_enter Proofs.Try.func111, Proofs.Try.ntmps111
  go_wp2_with (fail)
  go_at_call 81
  refine (kt _ exq).calls.mono ?_
  rintro e w1 ⟨_, rfl, hb1, u, rfl, hu1⟩
  obtain ⟨ga, gc, rfl, fs1⟩ := IsFrame.litv hu1
  have B0_1 : Box w1 (w.heap.size) #[.slice aw s.M.W.length cw, .slice ag s.M.G.length cg, .bool s.M.bad, .slice ac s.C.length cc, .slice al s.L.length cl] 83 := ((Box.newAt _ _ _ (by first | rfl | simp)).alloc _).ext hb1
  have B1_1 : Box w1 (w.heap.size + 1) #[.slice none 0 0, .slice none 0 0, .bool false, .slice none 0 0, .slice none 0 0] 83 := (Box.newAt _ _ _ (by first | rfl | simp)).ext hb1
  have s1 : w.heap.size + 2 ≤ w1.heap.size := (by have h := hb1.size; first | omega | (simp at h; omega))
  obtain ⟨c0_0, c0_1, c0_2, c0_3, c0_4, d0_0, d0_1, d0_2, d0_3, d0_4⟩ := cells5 B0_1
  have z0 : w.heap.size < w1.heap.size := B0_1.lt
  obtain ⟨c1_0, c1_1, c1_2, c1_3, c1_4, d1_0, d1_1, d1_2, d1_3, d1_4⟩ := cells5 B1_1
  have z1 : w.heap.size + 1 < w1.heap.size := B1_1.lt
  go_wp2_with (fail)
  go_at_call 153
  refine (push_ (Bx N w.heap.size (w.heap.size + 2)) _ _ s id ⟨2, pc, [q0, q1, q2, q3, q4, q5, q6, q7], fS⟩ _ (IsSys.mk rfl (IsInts.keep hwB keq) (IsInts.keep hgB keq) (IsCores.keep hcB keq) (IsEvs.keep hlB keq) : IsSys (Bx N w.heap.size (w.heap.size + 2)) _ _ s) (IsFrame.ofLit (IsInts.keep fs1 keq)) (Bx.le hN (by first | omega | (simp <;> omega))) hC hFm hfit).calls.mono ?_
  rintro e w2 ⟨_, rfl, hb2, hu2⟩
  obtain ⟨r1, r2, r3, r4, r5, r6, r7, r8, rfl, rW, rG, rC, rL⟩ := hu2.opened
  have B0_2 : Box w2 (w.heap.size) #[.slice aw s.M.W.length cw, .slice ag s.M.G.length cg, .bool s.M.bad, .slice ac s.C.length cc, .slice al s.L.length cl] 83 := (B0_1.alloc _).ext hb2
  have B1_2 : Box w2 (w.heap.size + 1) #[.slice none 0 0, .slice none 0 0, .bool false, .slice none 0 0, .slice none 0 0] 83 := (B1_1.alloc _).ext hb2
  have B2_2 : Box w2 (w1.heap.size) #[.int .i64 2, .int .i64 pc, .int .i64 q0, .int .i64 q1, .int .i64 q2, .int .i64 q3, .int .i64 q4, .int .i64 q5, .int .i64 q6, .int .i64 q7, .slice ga fS.length gc] 95 := (Box.newAt _ _ _ (by first | rfl | simp)).ext hb2
  clear c0_0 c0_1 c0_2 c0_3 c0_4 d0_0 d0_1 d0_2 d0_3 d0_4 z0 c1_0 c1_1 c1_2 c1_3 c1_4 d1_0 d1_1 d1_2 d1_3 d1_4 z1
  have s2 : w1.heap.size + 1 ≤ w2.heap.size := (by have h := hb2.size; first | omega | (simp at h; omega))
  obtain ⟨c0_0, c0_1, c0_2, c0_3, c0_4, d0_0, d0_1, d0_2, d0_3, d0_4⟩ := cells5 B0_2
  have z0 : w.heap.size < w2.heap.size := B0_2.lt
  obtain ⟨c1_0, c1_1, c1_2, c1_3, c1_4, d1_0, d1_1, d1_2, d1_3, d1_4⟩ := cells5 B1_2
  have z1 : w.heap.size + 1 < w2.heap.size := B1_2.lt
  obtain ⟨⟨c2_0, c2_1, c2_2, c2_3, c2_4, c2_5, c2_6, c2_7, c2_8, c2_9, c2_10⟩, d2_0, d2_1, d2_2, d2_3, d2_4, d2_5, d2_6, d2_7, d2_8, d2_9, d2_10⟩ := cells11 B2_2
  have z2 : w1.heap.size < w2.heap.size := B2_2.lt
  go_wp2
  exact bodyPost_ret (ret_cell (cs := #[.slice r1 (pushS s id ⟨2, pc, [q0, q1, q2, q3, q4, q5, q6, q7], fS⟩).M.W.length r2, .slice r3 (pushS s id ⟨2, pc, [q0, q1, q2, q3, q4, q5, q6, q7], fS⟩).M.G.length r4, .bool (pushS s id ⟨2, pc, [q0, q1, q2, q3, q4, q5, q6, q7], fS⟩).M.bad, .slice r5 (pushS s id ⟨2, pc, [q0, q1, q2, q3, q4, q5, q6, q7], fS⟩).C.length r6, .slice r7 (pushS s id ⟨2, pc, [q0, q1, q2, q3, q4, q5, q6, q7], fS⟩).L.length r8]) (((((B1_2.setCell _).setCell _).setCell _).setCell _).setCell _) Proofs.Try.results111 rfl Proofs.Try.underlying83 rfl (by kernel_rfl)) rfl ⟨_, rfl, exn, IsSys.less (IsSys.keep hu2 keq) (fun _ _ hn => .inl hn)⟩
set_option maxHeartbeats 1000000 in
set_option maxRecDepth 100000 in
theorem step4_x (N : Nat → Prop) (s : SysD) (id op pc q0 q1 q2 q3 q4 q5 q6 q7 : Int) (fS : List Int) (aw ag ac al : Option Addr) (cw cg cc cl : Nat) (w : World) (hw : IsInts N w (.slice aw s.M.W.length cw) s.M.W) (hg : IsInts N w (.slice ag s.M.G.length cg) s.M.G) (hc : IsCores N w (.slice ac s.C.length cc) s.C) (hl : IsEvs N w (.slice al s.L.length cl) s.L)
    (hN : ∀ b, N b → b < w.heap.size) (hC : s.C.length ≤ 100000) (hFm : ∀ (i : Nat) c, s.C[i]? = some c → c.F.length ≤ 100000) (hfit : Fits s.M) (hL : s.L.length ≤ 100000) (ht : topD s id = some ⟨op, pc, [q0, q1, q2, q3, q4, q5, q6, q7], fS⟩) (o1 : (op == 1) = false) (o2 : (op == 2) = false) :
    Gives Proofs.Try.prog 111 #[.agg #[.slice aw s.M.W.length cw, .slice ag s.M.G.length cg, .bool s.M.bad, .slice ac s.C.length cc, .slice al s.L.length cl], .int .i64 id] w (fun r w' => IsSys N w' r (s)) := by
  have hwB := hw.bxn (hi := w.heap.size + 2)
  have hgB := hg.bxn (hi := w.heap.size + 2)
  have hcB := hc.bxn (hi := w.heap.size + 2)
  have hlB := hl.bxn (hi := w.heap.size + 2)
  have h : IsSys N w (.agg #[.slice aw s.M.W.length cw, .slice ag s.M.G.length cg, .bool s.M.bad, .slice ac s.C.length cc, .slice al s.L.length cl]) s := IsSys.mk rfl hw hg hc hl
  have kt : ∀ w' : World, Ext w w' → Gives Proofs.Try.prog 81 #[.agg #[.slice aw s.M.W.length cw, .slice ag s.M.G.length cg, .bool s.M.bad, .slice ac s.C.length cc, .slice al s.L.length cl], .int .i64 id] w' (fun r w' => ∃ u, r = .tuple #[u, .bool (topD s id).isSome] ∧ IsFrame (Bx N w.heap.size (w.heap.size + 2)) w' u (topF s id)) := fun w' e => top_ (Bx N w.heap.size (w.heap.size + 2)) _ s id w' ((IsSys.bxn h).ext e)
  rw [show (topD s id).isSome = true by rw [ht]; rfl] at kt
  rw [show topF s id = ⟨op, pc, [q0, q1, q2, q3, q4, q5, q6, q7], fS⟩ by unfold topF; rw [ht]; rfl] at kt
  clear ht h
  go_enter Proofs.Try.func111, Proofs.Try.ntmps111
  go_wp2_with (fail)
  go_at_call 81
  refine (kt _ exq).calls.mono ?_
  rintro e w1 ⟨_, rfl, hb1, u, rfl, hu1⟩
  obtain ⟨ga, gc, rfl, fs1⟩ := IsFrame.litv hu1
  have B0_1 : Box w1 (w.heap.size) #[.slice aw s.M.W.length cw, .slice ag s.M.G.length cg, .bool s.M.bad, .slice ac s.C.length cc, .slice al s.L.length cl] 83 := ((Box.newAt _ _ _ (by first | rfl | simp)).alloc _).ext hb1
  have B1_1 : Box w1 (w.heap.size + 1) #[.slice none 0 0, .slice none 0 0, .bool false, .slice none 0 0, .slice none 0 0] 83 := (Box.newAt _ _ _ (by first | rfl | simp)).ext hb1
  have s1 : w.heap.size + 2 ≤ w1.heap.size := (by have h := hb1.size; first | omega | (simp at h; omega))
  obtain ⟨c0_0, c0_1, c0_2, c0_3, c0_4, d0_0, d0_1, d0_2, d0_3, d0_4⟩ := cells5 B0_1
  have z0 : w.heap.size < w1.heap.size := B0_1.lt
  obtain ⟨c1_0, c1_1, c1_2, c1_3, c1_4, d1_0, d1_1, d1_2, d1_3, d1_4⟩ := cells5 B1_1
  have z1 : w.heap.size + 1 < w1.heap.size := B1_1.lt
  go_wp2
  exact bodyPost_ret (ret_cell (cs := #[.slice aw s.M.W.length cw, .slice ag s.M.G.length cg, .bool s.M.bad, .slice ac s.C.length cc, .slice al s.L.length cl]) ((((((B1_1.setCell _).setCell _).setCell _).setCell _).setCell _).alloc _) Proofs.Try.results111 rfl Proofs.Try.underlying83 rfl (by kernel_rfl)) rfl ⟨_, rfl, exn, IsSys.mk rfl (hw.ext exn) (hg.ext exn) (IsCores.keep hc (show Ext w _ from exn).keep) (IsEvs.keep hl (show Ext w _ from exn).keep)⟩
theorem step4_ (N : Nat → Prop) (va : Value) (s : SysD) (id : Int) (w : World) (h : IsSys N w va s) (hN : ∀ b, N b → b < w.heap.size) (hC : s.C.length ≤ 100000) (hFm : ∀ (i : Nat) c, s.C[i]? = some c → c.F.length ≤ 100000) (hfit : Fits s.M) (hL : s.L.length ≤ 100000) :
    Gives Proofs.Try.prog 111 #[va, .int .i64 id] w (fun r w' => IsSys N w' r (step4 s id)) := by
  have h8 := h.top8 (id := id)
  obtain ⟨aw, cw, ag, cg, ac, cc, al, cl, rfl, hw, hg, hc, hl⟩ := h.opened
  clear h
  cases ht : topD s id with
  | none =>
    have e : step4 s id = s := by unfold step4; rw [ht]
    rw [e]
    exact step4_none N s id aw ag ac al cw cg cc cl w hw hg hc hl hN hC hFm hfit hL ht
  | some f =>
    have h8' := h8 f ht
    obtain ⟨op, pc, R, S⟩ := f
    obtain ⟨q0, q1, q2, q3, q4, q5, q6, q7, rfl⟩ := list8 h8'
    clear h8 h8'
    by_cases h1 : op = 1
    · subst h1
      have e : step4 s id = popS s id ⟨1, pc, [q0, q1, q2, q3, q4, q5, q6, q7], S⟩ := by unfold step4; rw [ht]; rfl
      rw [e]
      exact step4_p1 N s id pc q0 q1 q2 q3 q4 q5 q6 q7 S aw ag ac al cw cg cc cl w hw hg hc hl hN hC hFm hfit hL ht
    · by_cases h2 : op = 2
      · subst h2
        have e : step4 s id = pushS s id ⟨2, pc, [q0, q1, q2, q3, q4, q5, q6, q7], S⟩ := by unfold step4; rw [ht]; rfl
        rw [e]
        exact step4_p2 N s id pc q0 q1 q2 q3 q4 q5 q6 q7 S aw ag ac al cw cg cc cl w hw hg hc hl hN hC hFm hfit hL ht
      · have e : step4 s id = s := by
          unfold step4; rw [ht]
          show (if op = 1 then _ else if op = 2 then _ else _) = _
          rw [if_neg h1, if_neg h2]
        rw [e]
        exact step4_x N s id op pc q0 q1 q2 q3 q4 q5 q6 q7 S aw ag ac al cw cg cc cl w hw hg hc hl hN hC hFm hfit hL ht (by simpa using h1) (by simpa using h2)
end Go.Proofs.Ytcfbdfgondmkoaa
/- All nodes are laid into the list. -/
namespace Go.Proofs.Ytcfbdfgondmkoaa
open Go Go.RowKit
set_option linter.unusedSimpArgs false
set_option linter.unusedVariables false
set_option linter.unnecessarySimpa false

theorem of1_ (w : World) : Gives Proofs.Try.prog 37 #[.int .i64 0, .int .i64 1, .int .i64 0] w (eqv (.tuple #[.int .i64 2, .int .i64 0])) := by
  have h := of_ 0 1 0 w
  have e : ofV 0 1 0 = .tuple #[.int .i64 2, .int .i64 0] := by kernel_rfl
  rw [e] at h; exact h
theorem nextOf_mod {n k : Nat} (h1 : 1 ≤ k) (h2 : k ≤ n) : ((k : Int) + 1).tmod ((n : Int) + 1) = nextOf n k := by
  rw [Int.tmod_eq_emod_of_nonneg (by omega)]
  unfold nextOf
  split
  · rename_i e; subst e; exact Int.emod_self
  · exact Int.emod_eq_of_lt (by omega) (by omega)
theorem fits_store {m : Arena} {x v : Int} (h : Fits m) : Fits (storeD m x v) := by
  unfold storeD Fits
  split
  · exact h
  · simpa [Fits] using h
theorem fill_step {n k : Nat} {m mk : Arena} {v : Int} (hv : nextOf n k = v) (h : fillL n (n + 1 - k) k mk = fillL n n 1 m) (hk : k ≤ n) : fillL n (n + 1 - (k + 1)) (k + 1) (storeD mk (linkAt (k : Int)) v) = fillL n n 1 m := by
  rw [← h, show n + 1 - k = (n + 1 - (k + 1)) + 1 by omega, ← hv]
  rfl
def FillR (N : Nat → Prop) (w : World) (n : Nat) (m : Arena) (k : Nat) (wr : World) : Prop :=
  1 ≤ k ∧ k ≤ n + 1 ∧ ∃ mk a1 c1 a2 c2, Box wr w.heap.size #[.slice a1 mk.W.length c1, .slice a2 mk.G.length c2, .bool mk.bad] 50 ∧ Box wr (w.heap.size + 1) #[.slice none 0 0, .slice none 0 0, .bool false] 50 ∧
    IsMem (Bx N w.heap.size (w.heap.size + 2)) wr (.agg #[.slice a1 mk.W.length c1, .slice a2 mk.G.length c2, .bool mk.bad]) mk ∧ Ext w wr ∧ Fits mk ∧ mk.G.length = n + 1 ∧ fillL n (n + 1 - k) k mk = fillL n n 1 m
set_option maxHeartbeats 2000000 in
set_option maxRecDepth 100000 in
theorem fill_ (N : Nat → Prop) (va : Value) (m : Arena) (w : World) (h : IsMem N w va m) (hN : ∀ b, N b → b < w.heap.size) (hfit : Fits m) : Gives Proofs.Try.prog 109 #[va] w (fun r w' => IsMem N w' r (fillD m)) := by
  obtain ⟨n, hG⟩ : ∃ n, m.G.length = n + 1 := ⟨m.G.length - 1, by have := hfit.2.1; omega⟩
  have hn : n ≤ 200 := by have := hfit.2.2; omega
  obtain ⟨aw, cw, ag, cg, rfl, mw, mg⟩ := h.opened
  have hm := IsMem.mk (m := m) rfl mw mg
  clear h
  rw [hG] at hm ⊢
  go_enter Proofs.Try.func109, Proofs.Try.ntmps109
  go_wp2
  go_loopw [4] (fun i wr => ∃ k : Nat, i = .int .i64 k ∧ FillR N w n m k wr) (fun i _ => n + 1 - (intOf i).toNat)
  case atStart => exact ⟨1, rfl, Nat.le_refl _, by omega, m, aw, cw, ag, cg, by rw [hG]; exact ((Box.newAt _ _ _ (by first | rfl | simp)).alloc _), (Box.newAt _ _ _ (by first | rfl | simp)), by rw [hG]; exact (IsMem.bxn hm).keep keq, exq, hfit, hG, rfl⟩
  case round =>
    obtain ⟨k, rfl, hk1, hkn, mk, a1, e1, a2, e2, hb0, hb1, hmk, hbx, hfk, hGk, hfl⟩ := hrel
    obtain ⟨w5, rfl⟩ : ∃ w5 : World, w5 = wr := ⟨_, rfl⟩
    have s5 : w.heap.size + 2 ≤ w5.heap.size := by have := hb1.lt; omega
    have hHF := Lib.hid hfl; have hHG := Lib.hid hGk
    clear hfl hGk
    by_cases hlt : k ≤ n
    · have q1 : (k : Int) ≤ (n : Int) := by omega
      obtain ⟨c0_0, c0_1, c0_2, d0_0, d0_1, d0_2⟩ := cells3 hb0
      have z0 : w.heap.size < w5.heap.size := hb0.lt
      obtain ⟨c1_0, c1_1, c1_2, d1_0, d1_1, d1_2⟩ := cells3 hb1
      have z1 : w.heap.size + 1 < w5.heap.size := hb1.lt
      go_wp2_with (fail)
      have hX5 : Ext w w5 := exn
      have hK5 : Keep (Bx N w.heap.size (w.heap.size + 2)) w5 w5 := Keep.refl _ _
      have D0_5 := hb0
      have D1_5 := hb1
      have aM : IsMem (Bx N w.heap.size (w.heap.size + 2)) w5 (.agg #[.slice a1 mk.W.length e1, .slice a2 mk.G.length e2, .bool mk.bad]) mk := hmk
      clear c0_0 c0_1 c0_2 d0_0 d0_1 d0_2 z0 c1_0 c1_1 c1_2 d1_0 d1_1 d1_2 z1
      apply region_lit2 (T := [9]) (L := []) (X := [w.heap.size]) (G := [eqv _, eqv _, eqv _, eqv _, eqv (.int .i64 ((k : Int) + 1)), eqv _, eqv (.int .i64 ((n : Int) + 1)), eqv (.int .i64 (nextOf n k)), isMemN (Bx N w.heap.size (w.heap.size + 2)) (storeD mk (linkAt (k : Int)) (nextOf n k)), anyG])
      case hm => kernel_rfl
      case hop =>
        refine ⟨?_, ?_, ?_, ?_, ?_, ?_, ?_, ?_, ?_, ?_, trivial⟩
        · intro a wa hs hf hd
          have t1 := hf.off 1 (by kernel_rfl) rfl
          exact plain_ rfl (yes_eqv (o_load3 rfl Proofs.Try.underlying50 rfl (by kernel_rfl) t1 ((D0_5.since hs rfl).cell rfl) ((D0_5.since hs rfl).cell rfl) ((D0_5.since hs rfl).cell rfl)) rfl)
        · intro a wa hs hf hd
          have t4 := hf.off 4 (by kernel_rfl) rfl
          exact plain_ rfl (yes_eqv (o_move rfl t4) rfl)
        · intro a wa hs hf hd
          have t17 : a.eval (.tmp 17) = _ := hd.at 1 17 (by kernel_rfl)
          exact plain_ rfl (yes_gives (atw_ (k : Int) _) rfl rfl Proofs.Try.func57 (by kernel_rfl) (by kernel_rfl) (by simp only [List.map_toArray, List.map_cons, List.map_nil, eval_const, t17]) rfl)
        · intro a wa hs hf hd
          have t4 := hf.off 4 (by kernel_rfl) rfl
          exact plain_ rfl (yes_eqv (o_move rfl t4) rfl)
        · intro a wa hs hf hd
          have t19 : a.eval (.tmp 19) = _ := hd.at 3 19 (by kernel_rfl)
          exact plain_ rfl (yes_eqv (o_add rfl t19 rfl (by rw [IntKind.wrap_i64]; omega)) rfl)
        · intro a wa hs hf hd
          have t3 := hf.off 3 (by kernel_rfl) rfl
          exact plain_ rfl (yes_eqv (o_move rfl t3) rfl)
        · intro a wa hs hf hd
          have t21 : a.eval (.tmp 21) = _ := hd.at 5 21 (by kernel_rfl)
          exact plain_ rfl (yes_eqv (o_add rfl t21 rfl (by rw [IntKind.wrap_i64]; omega)) rfl)
        · intro a wa hs hf hd
          have t20 : a.eval (.tmp 20) = _ := hd.at 4 20 (by kernel_rfl)
          have t22 : a.eval (.tmp 22) = _ := hd.at 6 22 (by kernel_rfl)
          exact plain_ rfl (yes_eqv (o_rem rfl t20 t22 (by omega) (nextOf_mod (by omega) (by omega))) rfl)
        · intro a wa hs hf hd
          have t16 : a.eval (.tmp 16) = _ := hd.at 0 16 (by kernel_rfl)
          have t18 : a.eval (.tmp 18) = _ := hd.at 2 18 (by kernel_rfl)
          have t23 : a.eval (.tmp 23) = _ := hd.at 7 23 (by kernel_rfl)
          exact plain_ rfl (yes_gives (memStore_ (Bx N w.heap.size (w.heap.size + 2)) _ mk (linkAt (k : Int)) (nextOf n k) _ (aM.keep (Since.to_ext hs).keep) hfk (Bx.le hN (by have := (Since.to_ext hs).size; omega)) (linkAt_lo _).1 (linkAt_lo _).2) rfl rfl Proofs.Try.func68 (by kernel_rfl) (by kernel_rfl) (by simp only [List.map_toArray, List.map_cons, List.map_nil, t16, t18, t23]) rfl)
        · intro a wb wa hs1 hs hf hd hrun
          have t1 := hf.off 1 (by kernel_rfl) rfl
          have t24 := hd.at 8 24 (by kernel_rfl)
          subst hrun
          have q18 : IsMem (Bx N w.heap.size (w.heap.size + 2)) _ (a.eval (.tmp 24)) (storeD mk (linkAt (k : Int)) (nextOf n k)) := t24
          obtain ⟨u1, u2, u3, u4, hv, _⟩ := q18.opened
          exact ⟨_, o_store rfl t1 hv ((D0_5.since hs1 rfl)) (by kernel_rfl) (by simp [Value.cells, Value.oneCell']) (by first | (simp [Value.cells]; done) | (simp [Value.cells]; omega)) rfl, Since.put hs (.inr (by simp))⟩
      case hG => exact ⟨stable_eqv _, stable_eqv _, stable_eqv _, stable_eqv _, stable_eqv _, stable_eqv _, stable_eqv _, stable_eqv _, stable_isMemN _ _, stable_any, trivial⟩
      case hc => kernel_rfl
      case hfin =>
        intro v5 hs5
        rintro _ rfl _ rfl _ rfl _ rfl _ rfl _ rfl _ rfl _ rfl r11 hr11
        obtain ⟨u1, u2, u3, u4, rfl, mw0, mg0⟩ := IsMem.opened hr11
        rintro v5w ⟨o1, v1, ho1, hr1, rfl⟩
        cases ho1
        simp only [Act.put, List.setIfInBounds_toArray, List.set_cons_zero, List.set_cons_succ] at hr1 ⊢
        cases (hr1.symm.trans (o_store (v := .agg #[.slice u1 (storeD mk (linkAt (k : Int)) (nextOf n k)).W.length u2, .slice u3 (storeD mk (linkAt (k : Int)) (nextOf n k)).G.length u4, .bool (storeD mk (linkAt (k : Int)) (nextOf n k)).bad]) (new := #[.slice u1 (storeD mk (linkAt (k : Int)) (nextOf n k)).W.length u2, .slice u3 (storeD mk (linkAt (k : Int)) (nextOf n k)).G.length u4, .bool (storeD mk (linkAt (k : Int)) (nextOf n k)).bad]) rfl rfl rfl ((D0_5.since hs5 rfl)) (by kernel_rfl) (by simp [Value.cells, Value.oneCell']) (by first | (simp [Value.cells]; done) | (simp [Value.cells]; omega)) (by first | rfl | kernel_rfl)))
        obtain ⟨w6, hw6⟩ : ∃ x, x = (put v5 w.heap.size (.cells #[.slice u1 (storeD mk (linkAt (k : Int)) (nextOf n k)).W.length u2, .slice u3 (storeD mk (linkAt (k : Int)) (nextOf n k)).G.length u4, .bool (storeD mk (linkAt (k : Int)) (nextOf n k)).bad] 50 (0, 0))) := ⟨_, rfl⟩
        have hW6 : Ext w5 v5 := Since.to_ext hs5
        have hb6 : Ext w w6 := by rw [hw6]; exact Since.to_ext ((Since.of_ext (hX5.trans hW6)).put (.inl (by have := hX5.size; omega)))
        have hk6 : Keep (Bx N w.heap.size (w.heap.size + 2)) w5 w6 := by rw [hw6]; exact ((hK5.ext hW6).put _ _ (.inr (Bx.mem (by omega) (by omega))))
        have hq6 : Keep (Bx N w.heap.size (w.heap.size + 2)) v5 w6 := by rw [hw6]; exact ((Keep.refl _ _).put _ _ (.inr (Bx.mem (by omega) (by omega))))
        have B0_6 : Box w6 (w.heap.size) #[.slice u1 (storeD mk (linkAt (k : Int)) (nextOf n k)).W.length u2, .slice u3 (storeD mk (linkAt (k : Int)) (nextOf n k)).G.length u4, .bool (storeD mk (linkAt (k : Int)) (nextOf n k)).bad] 50 := by rw [hw6]; exact (D0_5.since hs5 rfl).put
        have B1_6 : Box w6 (w.heap.size + 1) #[.slice none 0 0, .slice none 0 0, .bool false] 50 := by rw [hw6]; exact (box_putOther (D1_5.since hs5 rfl) (by omega))
        have s6 : w5.heap.size ≤ w6.heap.size := by rw [hw6]; have := hW6.size; simpa [put] using this
        rw [← hw6]
        clear hw6
        obtain ⟨c0_0, c0_1, c0_2, d0_0, d0_1, d0_2⟩ := cells3 B0_6
        have z0 : w.heap.size < w6.heap.size := B0_6.lt
        obtain ⟨c1_0, c1_1, c1_2, d1_0, d1_1, d1_2⟩ := cells3 B1_6
        have z1 : w.heap.size + 1 < w6.heap.size := B1_6.lt
        have mw := IsInts.keep mw0 hq6
        have mg := IsInts.keep mg0 hq6
        clear hq6
        go_wp2
        go_roundw
        case rel => exact ⟨k + 1, by first | (simp; done) | (simp; omega), by omega, by omega, storeD mk (linkAt (k : Int)) (nextOf n k), u1, u2, u3, u4, B0_6, B1_6, IsMem.mk rfl mw mg, exn, fits_store hfk, by rw [← hHG.out]; rfl, fill_step rfl hHF.out hlt⟩
        case measure => simp [intOf]; omega
    · obtain rfl : k = n + 1 := by omega
      have q1 : ¬ ((n + 1 : Nat) : Int) ≤ (n : Int) := by omega
      obtain ⟨c0_0, c0_1, c0_2, d0_0, d0_1, d0_2⟩ := cells3 hb0
      have z0 : w.heap.size < w5.heap.size := hb0.lt
      obtain ⟨c1_0, c1_1, c1_2, d1_0, d1_1, d1_2⟩ := cells3 hb1
      have z1 : w.heap.size + 1 < w5.heap.size := hb1.lt
      go_wp2_with (fail)
      go_at_call 37
      refine (of1_ _).calls.mono ?_
      rintro e w6 ⟨_, rfl, hb6, rfl⟩
      have B0_6 : Box w6 (w.heap.size) #[.slice a1 mk.W.length e1, .slice a2 mk.G.length e2, .bool mk.bad] 50 := hb0.ext hb6
      have B1_6 : Box w6 (w.heap.size + 1) #[.slice none 0 0, .slice none 0 0, .bool false] 50 := hb1.ext hb6
      clear c0_0 c0_1 c0_2 d0_0 d0_1 d0_2 z0 c1_0 c1_1 c1_2 d1_0 d1_1 d1_2 z1
      have s6 : w5.heap.size ≤ w6.heap.size := (by have h := hb6.size; first | omega | (simp at h; omega))
      obtain ⟨c0_0, c0_1, c0_2, d0_0, d0_1, d0_2⟩ := cells3 B0_6
      have z0 : w.heap.size < w6.heap.size := B0_6.lt
      obtain ⟨c1_0, c1_1, c1_2, d1_0, d1_1, d1_2⟩ := cells3 B1_6
      have z1 : w.heap.size + 1 < w6.heap.size := B1_6.lt
      go_wp2_with (fail)
      go_at_call 68
      refine (memStore_ (Bx N w.heap.size (w.heap.size + 2)) _ mk 0 2 _ (hmk.keep keq) hfk (Bx.le hN (by first | omega | (simp <;> omega))) (by decide) (by decide)).calls.mono ?_
      rintro e w7 ⟨_, rfl, hb7, hu7⟩
      obtain ⟨u1, u2, u3, u4, rfl, uw, ug⟩ := hu7.opened
      have B0_7 : Box w7 (w.heap.size) #[.slice a1 mk.W.length e1, .slice a2 mk.G.length e2, .bool mk.bad] 50 := B0_6.ext hb7
      have B1_7 : Box w7 (w.heap.size + 1) #[.slice none 0 0, .slice none 0 0, .bool false] 50 := B1_6.ext hb7
      clear c0_0 c0_1 c0_2 d0_0 d0_1 d0_2 z0 c1_0 c1_1 c1_2 d1_0 d1_1 d1_2 z1
      have s7 : w6.heap.size ≤ w7.heap.size := (by have h := hb7.size; first | omega | (simp at h; omega))
      obtain ⟨c0_0, c0_1, c0_2, d0_0, d0_1, d0_2⟩ := cells3 B0_7
      have z0 : w.heap.size < w7.heap.size := B0_7.lt
      obtain ⟨c1_0, c1_1, c1_2, d1_0, d1_1, d1_2⟩ := cells3 B1_7
      have z1 : w.heap.size + 1 < w7.heap.size := B1_7.lt
      have hfd : fillD m = storeD mk 0 2 := (by have := hHF.out; unfold fillD; rw [hG]; show storeD (fillL n n 1 m) 0 2 = _; rw [← this, Nat.sub_self]; rfl)
      go_wp2
      exact bodyPost_ret (ret_cell (cs := #[.slice u1 (storeD mk 0 2).W.length u2, .slice u3 (storeD mk 0 2).G.length u4, .bool (storeD mk 0 2).bad]) (((B1_7.setCell _).setCell _).setCell _) Proofs.Try.results109 rfl Proofs.Try.underlying50 rfl (by kernel_rfl)) rfl ⟨_, rfl, exn, (by rw [hfd]; exact IsMem.less (IsMem.keep hu7 keq) (fun _ _ hn => .inl hn))⟩
set_option maxHeartbeats 2000000 in
set_option maxRecDepth 100000 in
theorem refFill_ (N : Nat → Prop) (va : Value) (m : Arena) (w : World) (h : IsMem N w va m) (hN : ∀ b, N b → b < w.heap.size) (hfit : Fits m) : Gives Proofs.Try.prog 110 #[va] w (fun r w' => IsMem N w' r (fillD m)) := by
  obtain ⟨n, hG⟩ : ∃ n, m.G.length = n + 1 := ⟨m.G.length - 1, by have := hfit.2.1; omega⟩
  have hn : n ≤ 200 := by have := hfit.2.2; omega
  obtain ⟨aw, cw, ag, cg, rfl, mw, mg⟩ := h.opened
  have hm := IsMem.mk (m := m) rfl mw mg
  clear h
  rw [hG] at hm ⊢
  go_enter Proofs.Try.func110, Proofs.Try.ntmps110
  go_wp2
  go_loopw [4] (fun i wr => ∃ k : Nat, i = .int .i64 k ∧ FillR N w n m k wr) (fun i _ => n + 1 - (intOf i).toNat)
  case atStart => exact ⟨1, rfl, Nat.le_refl _, by omega, m, aw, cw, ag, cg, by rw [hG]; exact ((Box.newAt _ _ _ (by first | rfl | simp)).alloc _), (Box.newAt _ _ _ (by first | rfl | simp)), by rw [hG]; exact (IsMem.bxn hm).keep keq, exq, hfit, hG, rfl⟩
  case round =>
    obtain ⟨k, rfl, hk1, hkn, mk, a1, e1, a2, e2, hb0, hb1, hmk, hbx, hfk, hGk, hfl⟩ := hrel
    obtain ⟨w5, rfl⟩ : ∃ w5 : World, w5 = wr := ⟨_, rfl⟩
    have s5 : w.heap.size + 2 ≤ w5.heap.size := by have := hb1.lt; omega
    have hHF := Lib.hid hfl; have hHG := Lib.hid hGk
    clear hfl hGk
    by_cases hlt : k ≤ n
    · have q1 : (k : Int) ≤ (n : Int) := by omega
      by_cases hkn2 : k = n
      · have q2 : ((k : Int) == (n : Int)) = true := by simp; omega
        obtain ⟨c0_0, c0_1, c0_2, d0_0, d0_1, d0_2⟩ := cells3 hb0
        have z0 : w.heap.size < w5.heap.size := hb0.lt
        obtain ⟨c1_0, c1_1, c1_2, d1_0, d1_1, d1_2⟩ := cells3 hb1
        have z1 : w.heap.size + 1 < w5.heap.size := hb1.lt
        go_wp2_with (fail)
        have hX8 : Ext w w5 := exn
        have hK8 : Keep (Bx N w.heap.size (w.heap.size + 2)) w5 w5 := Keep.refl _ _
        have D0_8 := hb0
        have D1_8 := hb1
        have aM : IsMem (Bx N w.heap.size (w.heap.size + 2)) w5 (.agg #[.slice a1 mk.W.length e1, .slice a2 mk.G.length e2, .bool mk.bad]) mk := hmk
        clear c0_0 c0_1 c0_2 d0_0 d0_1 d0_2 z0 c1_0 c1_1 c1_2 d1_0 d1_1 d1_2 z1
        apply region_lit2 (T := [5]) (L := []) (X := [w.heap.size]) (G := [eqv _, eqv _, eqv _, eqv _, isMemN (Bx N w.heap.size (w.heap.size + 2)) (storeD mk (linkAt (k : Int)) 0), anyG])
        case hm => kernel_rfl
        case hop =>
          refine ⟨?_, ?_, ?_, ?_, ?_, ?_, trivial⟩
          · intro a wa hs hf hd
            have t1 := hf.off 1 (by kernel_rfl) rfl
            exact plain_ rfl (yes_eqv (o_load3 rfl Proofs.Try.underlying50 rfl (by kernel_rfl) t1 ((D0_8.since hs rfl).cell rfl) ((D0_8.since hs rfl).cell rfl) ((D0_8.since hs rfl).cell rfl)) rfl)
          · intro a wa hs hf hd
            have t4 := hf.off 4 (by kernel_rfl) rfl
            exact plain_ rfl (yes_eqv (o_move rfl t4) rfl)
          · intro a wa hs hf hd
            have t21 : a.eval (.tmp 21) = _ := hd.at 1 21 (by kernel_rfl)
            exact plain_ rfl (yes_gives (refAtw_ (k : Int) _) rfl rfl Proofs.Try.func58 (by kernel_rfl) (by kernel_rfl) (by simp only [List.map_toArray, List.map_cons, List.map_nil, eval_const, t21]) rfl)
          · intro a wa hs hf hd
            have t5 := hf.off 5 (by kernel_rfl) rfl
            exact plain_ rfl (yes_eqv (o_move rfl t5) rfl)
          · intro a wa hs hf hd
            have t20 : a.eval (.tmp 20) = _ := hd.at 0 20 (by kernel_rfl)
            have t22 : a.eval (.tmp 22) = _ := hd.at 2 22 (by kernel_rfl)
            have t23 : a.eval (.tmp 23) = _ := hd.at 3 23 (by kernel_rfl)
            exact plain_ rfl (yes_gives (refStore_ (Bx N w.heap.size (w.heap.size + 2)) _ mk (linkAt (k : Int)) 0 _ (aM.keep (Since.to_ext hs).keep) hfk (Bx.le hN (by have := (Since.to_ext hs).size; omega))) rfl rfl Proofs.Try.func69 (by kernel_rfl) (by kernel_rfl) (by simp only [List.map_toArray, List.map_cons, List.map_nil, t20, t22, t23]) rfl)
          · intro a wb wa hs1 hs hf hd hrun
            have t1 := hf.off 1 (by kernel_rfl) rfl
            have t24 := hd.at 4 24 (by kernel_rfl)
            subst hrun
            have q18 : IsMem (Bx N w.heap.size (w.heap.size + 2)) _ (a.eval (.tmp 24)) (storeD mk (linkAt (k : Int)) 0) := t24
            obtain ⟨u1, u2, u3, u4, hv, _⟩ := q18.opened
            exact ⟨_, o_store rfl t1 hv ((D0_8.since hs1 rfl)) (by kernel_rfl) (by simp [Value.cells, Value.oneCell']) (by first | (simp [Value.cells]; done) | (simp [Value.cells]; omega)) rfl, Since.put hs (.inr (by simp))⟩
        case hG => exact ⟨stable_eqv _, stable_eqv _, stable_eqv _, stable_eqv _, stable_isMemN _ _, stable_any, trivial⟩
        case hc => kernel_rfl
        case hfin =>
          intro v8 hs8
          rintro _ rfl _ rfl _ rfl _ rfl r11 hr11
          obtain ⟨u1, u2, u3, u4, rfl, mw0, mg0⟩ := IsMem.opened hr11
          rintro v8w ⟨o1, v1, ho1, hr1, rfl⟩
          cases ho1
          simp only [Act.put, List.setIfInBounds_toArray, List.set_cons_zero, List.set_cons_succ] at hr1 ⊢
          cases (hr1.symm.trans (o_store (v := .agg #[.slice u1 (storeD mk (linkAt (k : Int)) 0).W.length u2, .slice u3 (storeD mk (linkAt (k : Int)) 0).G.length u4, .bool (storeD mk (linkAt (k : Int)) 0).bad]) (new := #[.slice u1 (storeD mk (linkAt (k : Int)) 0).W.length u2, .slice u3 (storeD mk (linkAt (k : Int)) 0).G.length u4, .bool (storeD mk (linkAt (k : Int)) 0).bad]) rfl rfl rfl ((D0_8.since hs8 rfl)) (by kernel_rfl) (by simp [Value.cells, Value.oneCell']) (by first | (simp [Value.cells]; done) | (simp [Value.cells]; omega)) (by first | rfl | kernel_rfl)))
          obtain ⟨w6, hw6⟩ : ∃ x, x = (put v8 w.heap.size (.cells #[.slice u1 (storeD mk (linkAt (k : Int)) 0).W.length u2, .slice u3 (storeD mk (linkAt (k : Int)) 0).G.length u4, .bool (storeD mk (linkAt (k : Int)) 0).bad] 50 (0, 0))) := ⟨_, rfl⟩
          have hW6 : Ext w5 v8 := Since.to_ext hs8
          have hb6 : Ext w w6 := by rw [hw6]; exact Since.to_ext ((Since.of_ext (hX8.trans hW6)).put (.inl (by have := hX8.size; omega)))
          have hk6 : Keep (Bx N w.heap.size (w.heap.size + 2)) w5 w6 := by rw [hw6]; exact ((hK8.ext hW6).put _ _ (.inr (Bx.mem (by omega) (by omega))))
          have hq6 : Keep (Bx N w.heap.size (w.heap.size + 2)) v8 w6 := by rw [hw6]; exact ((Keep.refl _ _).put _ _ (.inr (Bx.mem (by omega) (by omega))))
          have B0_6 : Box w6 (w.heap.size) #[.slice u1 (storeD mk (linkAt (k : Int)) 0).W.length u2, .slice u3 (storeD mk (linkAt (k : Int)) 0).G.length u4, .bool (storeD mk (linkAt (k : Int)) 0).bad] 50 := by rw [hw6]; exact (D0_8.since hs8 rfl).put
          have B1_6 : Box w6 (w.heap.size + 1) #[.slice none 0 0, .slice none 0 0, .bool false] 50 := by rw [hw6]; exact (box_putOther (D1_8.since hs8 rfl) (by omega))
          have s6 : w5.heap.size ≤ w6.heap.size := by rw [hw6]; have := hW6.size; simpa [put] using this
          rw [← hw6]
          clear hw6
          obtain ⟨c0_0, c0_1, c0_2, d0_0, d0_1, d0_2⟩ := cells3 B0_6
          have z0 : w.heap.size < w6.heap.size := B0_6.lt
          obtain ⟨c1_0, c1_1, c1_2, d1_0, d1_1, d1_2⟩ := cells3 B1_6
          have z1 : w.heap.size + 1 < w6.heap.size := B1_6.lt
          have mw := IsInts.keep mw0 hq6
          have mg := IsInts.keep mg0 hq6
          clear hq6
          go_wp2
          go_roundw
          case rel => exact ⟨k + 1, by first | (simp; done) | (simp; omega), by omega, by omega, storeD mk (linkAt (k : Int)) 0, u1, u2, u3, u4, B0_6, B1_6, IsMem.mk rfl mw mg, exn, fits_store hfk, by rw [← hHG.out]; rfl, fill_step (by unfold nextOf; rw [if_pos hkn2]) hHF.out hlt⟩
          case measure => simp [intOf]; omega
      · have q2 : ((k : Int) == (n : Int)) = false := by simp; omega
        obtain ⟨c0_0, c0_1, c0_2, d0_0, d0_1, d0_2⟩ := cells3 hb0
        have z0 : w.heap.size < w5.heap.size := hb0.lt
        obtain ⟨c1_0, c1_1, c1_2, d1_0, d1_1, d1_2⟩ := cells3 hb1
        have z1 : w.heap.size + 1 < w5.heap.size := hb1.lt
        go_wp2_with (fail)
        have hX8 : Ext w w5 := exn
        have hK8 : Keep (Bx N w.heap.size (w.heap.size + 2)) w5 w5 := Keep.refl _ _
        have D0_8 := hb0
        have D1_8 := hb1
        have aM : IsMem (Bx N w.heap.size (w.heap.size + 2)) w5 (.agg #[.slice a1 mk.W.length e1, .slice a2 mk.G.length e2, .bool mk.bad]) mk := hmk
        clear c0_0 c0_1 c0_2 d0_0 d0_1 d0_2 z0 c1_0 c1_1 c1_2 d1_0 d1_1 d1_2 z1
        apply region_lit2 (T := [5]) (L := []) (X := [w.heap.size]) (G := [eqv _, eqv _, eqv _, eqv _, isMemN (Bx N w.heap.size (w.heap.size + 2)) (storeD mk (linkAt (k : Int)) ((k : Int) + 1)), anyG])
        case hm => kernel_rfl
        case hop =>
          refine ⟨?_, ?_, ?_, ?_, ?_, ?_, trivial⟩
          · intro a wa hs hf hd
            have t1 := hf.off 1 (by kernel_rfl) rfl
            exact plain_ rfl (yes_eqv (o_load3 rfl Proofs.Try.underlying50 rfl (by kernel_rfl) t1 ((D0_8.since hs rfl).cell rfl) ((D0_8.since hs rfl).cell rfl) ((D0_8.since hs rfl).cell rfl)) rfl)
          · intro a wa hs hf hd
            have t4 := hf.off 4 (by kernel_rfl) rfl
            exact plain_ rfl (yes_eqv (o_move rfl t4) rfl)
          · intro a wa hs hf hd
            have t21 : a.eval (.tmp 21) = _ := hd.at 1 21 (by kernel_rfl)
            exact plain_ rfl (yes_gives (refAtw_ (k : Int) _) rfl rfl Proofs.Try.func58 (by kernel_rfl) (by kernel_rfl) (by simp only [List.map_toArray, List.map_cons, List.map_nil, eval_const, t21]) rfl)
          · intro a wa hs hf hd
            have t5 := hf.off 5 (by kernel_rfl) rfl
            exact plain_ rfl (yes_eqv (o_move rfl t5) rfl)
          · intro a wa hs hf hd
            have t20 : a.eval (.tmp 20) = _ := hd.at 0 20 (by kernel_rfl)
            have t22 : a.eval (.tmp 22) = _ := hd.at 2 22 (by kernel_rfl)
            have t23 : a.eval (.tmp 23) = _ := hd.at 3 23 (by kernel_rfl)
            exact plain_ rfl (yes_gives (refStore_ (Bx N w.heap.size (w.heap.size + 2)) _ mk (linkAt (k : Int)) ((k : Int) + 1) _ (aM.keep (Since.to_ext hs).keep) hfk (Bx.le hN (by have := (Since.to_ext hs).size; omega))) rfl rfl Proofs.Try.func69 (by kernel_rfl) (by kernel_rfl) (by simp only [List.map_toArray, List.map_cons, List.map_nil, t20, t22, t23]) rfl)
          · intro a wb wa hs1 hs hf hd hrun
            have t1 := hf.off 1 (by kernel_rfl) rfl
            have t24 := hd.at 4 24 (by kernel_rfl)
            subst hrun
            have q18 : IsMem (Bx N w.heap.size (w.heap.size + 2)) _ (a.eval (.tmp 24)) (storeD mk (linkAt (k : Int)) ((k : Int) + 1)) := t24
            obtain ⟨u1, u2, u3, u4, hv, _⟩ := q18.opened
            exact ⟨_, o_store rfl t1 hv ((D0_8.since hs1 rfl)) (by kernel_rfl) (by simp [Value.cells, Value.oneCell']) (by first | (simp [Value.cells]; done) | (simp [Value.cells]; omega)) rfl, Since.put hs (.inr (by simp))⟩
        case hG => exact ⟨stable_eqv _, stable_eqv _, stable_eqv _, stable_eqv _, stable_isMemN _ _, stable_any, trivial⟩
        case hc => kernel_rfl
        case hfin =>
          intro v8 hs8
          rintro _ rfl _ rfl _ rfl _ rfl r11 hr11
          obtain ⟨u1, u2, u3, u4, rfl, mw0, mg0⟩ := IsMem.opened hr11
          rintro v8w ⟨o1, v1, ho1, hr1, rfl⟩
          cases ho1
          simp only [Act.put, List.setIfInBounds_toArray, List.set_cons_zero, List.set_cons_succ] at hr1 ⊢
          cases (hr1.symm.trans (o_store (v := .agg #[.slice u1 (storeD mk (linkAt (k : Int)) ((k : Int) + 1)).W.length u2, .slice u3 (storeD mk (linkAt (k : Int)) ((k : Int) + 1)).G.length u4, .bool (storeD mk (linkAt (k : Int)) ((k : Int) + 1)).bad]) (new := #[.slice u1 (storeD mk (linkAt (k : Int)) ((k : Int) + 1)).W.length u2, .slice u3 (storeD mk (linkAt (k : Int)) ((k : Int) + 1)).G.length u4, .bool (storeD mk (linkAt (k : Int)) ((k : Int) + 1)).bad]) rfl rfl rfl ((D0_8.since hs8 rfl)) (by kernel_rfl) (by simp [Value.cells, Value.oneCell']) (by first | (simp [Value.cells]; done) | (simp [Value.cells]; omega)) (by first | rfl | kernel_rfl)))
          obtain ⟨w6, hw6⟩ : ∃ x, x = (put v8 w.heap.size (.cells #[.slice u1 (storeD mk (linkAt (k : Int)) ((k : Int) + 1)).W.length u2, .slice u3 (storeD mk (linkAt (k : Int)) ((k : Int) + 1)).G.length u4, .bool (storeD mk (linkAt (k : Int)) ((k : Int) + 1)).bad] 50 (0, 0))) := ⟨_, rfl⟩
          have hW6 : Ext w5 v8 := Since.to_ext hs8
          have hb6 : Ext w w6 := by rw [hw6]; exact Since.to_ext ((Since.of_ext (hX8.trans hW6)).put (.inl (by have := hX8.size; omega)))
          have hk6 : Keep (Bx N w.heap.size (w.heap.size + 2)) w5 w6 := by rw [hw6]; exact ((hK8.ext hW6).put _ _ (.inr (Bx.mem (by omega) (by omega))))
          have hq6 : Keep (Bx N w.heap.size (w.heap.size + 2)) v8 w6 := by rw [hw6]; exact ((Keep.refl _ _).put _ _ (.inr (Bx.mem (by omega) (by omega))))
          have B0_6 : Box w6 (w.heap.size) #[.slice u1 (storeD mk (linkAt (k : Int)) ((k : Int) + 1)).W.length u2, .slice u3 (storeD mk (linkAt (k : Int)) ((k : Int) + 1)).G.length u4, .bool (storeD mk (linkAt (k : Int)) ((k : Int) + 1)).bad] 50 := by rw [hw6]; exact (D0_8.since hs8 rfl).put
          have B1_6 : Box w6 (w.heap.size + 1) #[.slice none 0 0, .slice none 0 0, .bool false] 50 := by rw [hw6]; exact (box_putOther (D1_8.since hs8 rfl) (by omega))
          have s6 : w5.heap.size ≤ w6.heap.size := by rw [hw6]; have := hW6.size; simpa [put] using this
          rw [← hw6]
          clear hw6
          obtain ⟨c0_0, c0_1, c0_2, d0_0, d0_1, d0_2⟩ := cells3 B0_6
          have z0 : w.heap.size < w6.heap.size := B0_6.lt
          obtain ⟨c1_0, c1_1, c1_2, d1_0, d1_1, d1_2⟩ := cells3 B1_6
          have z1 : w.heap.size + 1 < w6.heap.size := B1_6.lt
          have mw := IsInts.keep mw0 hq6
          have mg := IsInts.keep mg0 hq6
          clear hq6
          go_wp2
          go_roundw
          case rel => exact ⟨k + 1, by first | (simp; done) | (simp; omega), by omega, by omega, storeD mk (linkAt (k : Int)) ((k : Int) + 1), u1, u2, u3, u4, B0_6, B1_6, IsMem.mk rfl mw mg, exn, fits_store hfk, by rw [← hHG.out]; rfl, fill_step (by unfold nextOf; rw [if_neg hkn2]) hHF.out hlt⟩
          case measure => simp [intOf]; omega
    · obtain rfl : k = n + 1 := by omega
      have q1 : ¬ ((n + 1 : Nat) : Int) ≤ (n : Int) := by omega
      obtain ⟨c0_0, c0_1, c0_2, d0_0, d0_1, d0_2⟩ := cells3 hb0
      have z0 : w.heap.size < w5.heap.size := hb0.lt
      obtain ⟨c1_0, c1_1, c1_2, d1_0, d1_1, d1_2⟩ := cells3 hb1
      have z1 : w.heap.size + 1 < w5.heap.size := hb1.lt
      go_wp2_with (fail)
      go_at_call 69
      refine (refStore_ (Bx N w.heap.size (w.heap.size + 2)) _ mk 0 2 _ (hmk.keep keq) hfk (Bx.le hN (by first | omega | (simp <;> omega)))).calls.mono ?_
      rintro e w6 ⟨_, rfl, hb6, hu6⟩
      obtain ⟨u1, u2, u3, u4, rfl, uw, ug⟩ := hu6.opened
      have B0_6 : Box w6 (w.heap.size) #[.slice a1 mk.W.length e1, .slice a2 mk.G.length e2, .bool mk.bad] 50 := hb0.ext hb6
      have B1_6 : Box w6 (w.heap.size + 1) #[.slice none 0 0, .slice none 0 0, .bool false] 50 := hb1.ext hb6
      clear c0_0 c0_1 c0_2 d0_0 d0_1 d0_2 z0 c1_0 c1_1 c1_2 d1_0 d1_1 d1_2 z1
      have s6 : w5.heap.size ≤ w6.heap.size := (by have h := hb6.size; first | omega | (simp at h; omega))
      obtain ⟨c0_0, c0_1, c0_2, d0_0, d0_1, d0_2⟩ := cells3 B0_6
      have z0 : w.heap.size < w6.heap.size := B0_6.lt
      obtain ⟨c1_0, c1_1, c1_2, d1_0, d1_1, d1_2⟩ := cells3 B1_6
      have z1 : w.heap.size + 1 < w6.heap.size := B1_6.lt
      have hfd : fillD m = storeD mk 0 2 := (by have := hHF.out; unfold fillD; rw [hG]; show storeD (fillL n n 1 m) 0 2 = _; rw [← this, Nat.sub_self]; rfl)
      go_wp2
      exact bodyPost_ret (ret_cell (cs := #[.slice u1 (storeD mk 0 2).W.length u2, .slice u3 (storeD mk 0 2).G.length u4, .bool (storeD mk 0 2).bad]) (((B1_6.setCell _).setCell _).setCell _) Proofs.Try.results110 rfl Proofs.Try.underlying50 rfl (by kernel_rfl)) rfl ⟨_, rfl, exn, (by rw [hfd]; exact IsMem.less (IsMem.keep hu6 keq) (fun _ _ hn => .inl hn))⟩
end Go.Proofs.Ytcfbdfgondmkoaa
/- A new system, all nodes in the list. -/
namespace Go.Proofs.Ytcfbdfgondmkoaa
open Go Go.RowKit
set_option linter.unusedSimpArgs false
set_option linter.unusedVariables false
set_option linter.unnecessarySimpa false

set_option maxHeartbeats 1000000 in
set_option maxRecDepth 100000 in
theorem refNew4_ (N : Nat → Prop) (c n : Int) (w : World) (hN : ∀ b, N b → b < w.heap.size) (hi : newIs c n = true) : Gives Proofs.Try.prog 115 #[.int .i64 c, .int .i64 n] w (fun r w' => IsSys N w' r (new4 c n)) := by
  have hE : newSE c n = 0 := by simp [newSE, hi]
  have hM : (newS c n).M = newD n := by simp [newS, hi]
  have hd : new4 c n = memS (newS c n) (fillD (newS c n).M) := by unfold new4; rw [if_pos hE, hM]
  rw [hd]
  have hfit : Fits (newS c n).M := by
    rw [hM]
    have h1 : 1 ≤ n ∧ n ≤ 200 := by simp [newIs] at hi; omega
    unfold newD Fits
    rw [if_pos h1]
    simp; omega
  have kn0 := fun (w' : World) (e : Ext w w') => refNewS_ (Bx N w.heap.size (w.heap.size + 1)) c n w'
  have kn : ∀ w' : World, w.heap.size + 1 ≤ w'.heap.size → Gives Proofs.Try.prog 76 #[.int .i64 c, .int .i64 n] w' (fun r w' => ∃ u, r = .tuple #[u, .int .i64 0] ∧ IsSys (Bx N w.heap.size (w.heap.size + 1)) w' u (newS c n)) := fun w' h => by
    have := refNewS_ (Bx N w.heap.size (w.heap.size + 1)) c n w' (Bx.le hN h)
    rw [hE] at this; exact this
  clear kn0 hE hM hd hi
  obtain ⟨s0, hs0⟩ : ∃ s, newS c n = s := ⟨_, rfl⟩
  rw [hs0] at kn hfit ⊢
  clear hs0
  go_enter Proofs.Try.func115, Proofs.Try.ntmps115
  go_wp2_with (fail)
  go_at_call 76
  refine (kn _ (by first | omega | (simp <;> omega))).calls.mono ?_
  rintro e w1 ⟨_, rfl, hb1, u, rfl, hu1⟩
  obtain ⟨r1, r2, r3, r4, r5, r6, r7, r8, rfl, rW, rG, rC, rL⟩ := hu1.opened
  have B0_1 : Box w1 (w.heap.size) #[.slice none 0 0, .slice none 0 0, .bool false, .slice none 0 0, .slice none 0 0] 83 := (Box.newAt _ _ _ (by first | rfl | simp)).ext hb1
  have s1 : w.heap.size + 1 ≤ w1.heap.size := (by have h := hb1.size; first | omega | (simp at h; omega))
  obtain ⟨c0_0, c0_1, c0_2, c0_3, c0_4, d0_0, d0_1, d0_2, d0_3, d0_4⟩ := cells5 B0_1
  have z0 : w.heap.size < w1.heap.size := B0_1.lt
  go_wp2_with (fail)
  obtain ⟨W4, hW⟩ : ∃ W, W = (w1.alloc (.cells #[.slice r1 s0.M.W.length r2, .slice r3 s0.M.G.length r4, .bool s0.M.bad, .slice r5 s0.C.length r6, .slice r7 s0.L.length r8] 83 (0, 0))) := ⟨_, rfl⟩
  have hX4 : Ext w W4 := by rw [hW]; exact exn
  have hK4 : Keep (Bx N w.heap.size (w.heap.size + 1)) w1 W4 := by rw [hW]; exact keq
  have D0_4 : Box (w1.alloc (.cells #[.slice r1 s0.M.W.length r2, .slice r3 s0.M.G.length r4, .bool s0.M.bad, .slice r5 s0.C.length r6, .slice r7 s0.L.length r8] 83 (0, 0))) (w.heap.size) #[.slice none 0 0, .slice none 0 0, .bool false, .slice none 0 0, .slice none 0 0] 83 := (B0_1.alloc _)
  rw [← hW] at D0_4
  have D1_4 : Box (w1.alloc (.cells #[.slice r1 s0.M.W.length r2, .slice r3 s0.M.G.length r4, .bool s0.M.bad, .slice r5 s0.C.length r6, .slice r7 s0.L.length r8] 83 (0, 0))) (w1.heap.size) #[.slice r1 s0.M.W.length r2, .slice r3 s0.M.G.length r4, .bool s0.M.bad, .slice r5 s0.C.length r6, .slice r7 s0.L.length r8] 83 := (Box.newAt _ _ _ (by first | rfl | simp))
  rw [← hW] at D1_4
  have y4 : w1.heap.size + 1 ≤ W4.heap.size := by rw [hW]; simp
  rw [← hW]
  clear hW
  have aS : IsSys (Bx N w.heap.size (w.heap.size + 1)) W4 (.agg #[.slice r1 s0.M.W.length r2, .slice r3 s0.M.G.length r4, .bool s0.M.bad, .slice r5 s0.C.length r6, .slice r7 s0.L.length r8]) s0 := (IsSys.mk rfl rW rG rC rL : IsSys (Bx N w.heap.size (w.heap.size + 1)) w1 _ s0).keep hK4
  have aM : IsMem (Bx N w.heap.size (w.heap.size + 1)) W4 (.agg #[.slice r1 s0.M.W.length r2, .slice r3 s0.M.G.length r4, .bool s0.M.bad]) s0.M := (IsMem.mk rfl rW rG : IsMem (Bx N w.heap.size (w.heap.size + 1)) w1 _ s0.M).keep hK4
  clear c0_0 c0_1 c0_2 c0_3 c0_4 d0_0 d0_1 d0_2 d0_3 d0_4 z0
  apply region_lit2 (T := [5]) (L := []) (X := [w.heap.size]) (G := [eqv _, eqv _, eqv _, isMemN (Bx N w.heap.size (w.heap.size + 1)) (fillD s0.M), isSysN (Bx N w.heap.size (w.heap.size + 1)) (memS s0 (fillD s0.M)), anyG])
  case hm => kernel_rfl
  case hop =>
    refine ⟨?_, ?_, ?_, ?_, ?_, ?_, trivial⟩
    · intro a wa hs hf hd
      have t5 := hf.off 5 (by kernel_rfl) rfl
      exact plain_ rfl (yes_eqv (o_load5 rfl Proofs.Try.underlying83 rfl (by kernel_rfl) t5 ((D1_4.since hs rfl).cell rfl) ((D1_4.since hs rfl).cell rfl) ((D1_4.since hs rfl).cell rfl) ((D1_4.since hs rfl).cell rfl) ((D1_4.since hs rfl).cell rfl)) rfl)
    · intro a wa hs hf hd
      have t5 := hf.off 5 (by kernel_rfl) rfl
      exact plain_ rfl (yes_eqv (o_fieldAddr rfl Proofs.Try.underlying83 rfl rfl (by kernel_rfl) t5) rfl)
    · intro a wa hs hf hd
      have t17 : a.eval (.tmp 17) = _ := hd.at 1 17 (by kernel_rfl)
      exact plain_ rfl (yes_eqv (o_load3 rfl Proofs.Try.underlying50 rfl (by kernel_rfl) t17 ((D1_4.since hs rfl).cell rfl) ((D1_4.since hs rfl).cell rfl) ((D1_4.since hs rfl).cell rfl)) rfl)
    · intro a wa hs hf hd
      have t18 : a.eval (.tmp 18) = _ := hd.at 2 18 (by kernel_rfl)
      exact plain_ rfl (yes_gives (refFill_ (Bx N w.heap.size (w.heap.size + 1)) _ s0.M _ (aM.keep (Since.to_ext hs).keep) (Bx.le hN (by have := (Since.to_ext hs).size; have := hX4.size; omega)) hfit) rfl rfl Proofs.Try.func110 (by kernel_rfl) (by kernel_rfl) (by simp only [List.map_toArray, List.map_cons, List.map_nil, t18]) rfl)
    · intro a wa hs hf hd
      have t16 : a.eval (.tmp 16) = _ := hd.at 0 16 (by kernel_rfl)
      have t19 := hd.at 3 19 (by kernel_rfl)
      exact plain_ rfl (yes_gives (refMem_ _ _ _ s0 (fillD s0.M) _ (aS.ext (Since.to_ext hs)) t19) rfl rfl Proofs.Try.func103 (by kernel_rfl) (by kernel_rfl) (by simp only [List.map_toArray, List.map_cons, List.map_nil, t16, t19]) rfl)
    · intro a wb wa hs1 hs hf hd hrun
      have t4 := hf.off 4 (by kernel_rfl) rfl
      have t20 := hd.at 4 20 (by kernel_rfl)
      subst hrun
      have q18 : IsSys (Bx N w.heap.size (w.heap.size + 1)) _ (a.eval (.tmp 20)) (memS s0 (fillD s0.M)) := t20
      obtain ⟨g1, g2, g3, g4, g5, g6, g7, g8, hv, _⟩ := q18.opened
      exact ⟨_, o_store rfl t4 hv ((D0_4.since hs1 rfl)) (by kernel_rfl) (by simp [Value.cells, Value.oneCell']) (by first | (simp [Value.cells]; done) | (simp [Value.cells]; omega)) rfl, Since.put hs (.inr (by simp))⟩
  case hG => exact ⟨stable_eqv _, stable_eqv _, stable_eqv _, stable_isMemN _ _, stable_isSysN _ _, stable_any, trivial⟩
  case hc => kernel_rfl
  case hfin =>
    intro v4 hs4
    rintro _ rfl _ rfl _ rfl j3 hj3 j4 hj4
    obtain ⟨g1, g2, g3, g4, g5, g6, g7, g8, rfl, gW, gG, gC, gL⟩ := IsSys.opened hj4
    rintro v4w ⟨o1, v1, ho1, hr1, rfl⟩
    cases ho1
    simp only [Act.put, List.setIfInBounds_toArray, List.set_cons_zero, List.set_cons_succ] at hr1 ⊢
    cases (hr1.symm.trans (o_store (v := .agg #[.slice g1 (memS s0 (fillD s0.M)).M.W.length g2, .slice g3 (memS s0 (fillD s0.M)).M.G.length g4, .bool (memS s0 (fillD s0.M)).M.bad, .slice g5 (memS s0 (fillD s0.M)).C.length g6, .slice g7 (memS s0 (fillD s0.M)).L.length g8]) (new := #[.slice g1 (memS s0 (fillD s0.M)).M.W.length g2, .slice g3 (memS s0 (fillD s0.M)).M.G.length g4, .bool (memS s0 (fillD s0.M)).M.bad, .slice g5 (memS s0 (fillD s0.M)).C.length g6, .slice g7 (memS s0 (fillD s0.M)).L.length g8]) rfl rfl rfl ((D0_4.since hs4 rfl)) (by kernel_rfl) (by simp [Value.cells, Value.oneCell']) (by first | (simp [Value.cells]; done) | (simp [Value.cells]; omega)) (by first | rfl | kernel_rfl)))
    obtain ⟨w2, hw2⟩ : ∃ x, x = (put v4 w.heap.size (.cells #[.slice g1 (memS s0 (fillD s0.M)).M.W.length g2, .slice g3 (memS s0 (fillD s0.M)).M.G.length g4, .bool (memS s0 (fillD s0.M)).M.bad, .slice g5 (memS s0 (fillD s0.M)).C.length g6, .slice g7 (memS s0 (fillD s0.M)).L.length g8] 83 (0, 0))) := ⟨_, rfl⟩
    have hW2 : Ext W4 v4 := Since.to_ext hs4
    have hb2 : Ext w w2 := by rw [hw2]; exact Since.to_ext ((Since.of_ext (hX4.trans hW2)).put (.inl (by have := hX4.size; omega)))
    have hk2 : Keep (Bx N w.heap.size (w.heap.size + 1)) w1 w2 := by rw [hw2]; exact ((hK4.ext hW2).put _ _ (.inr (Bx.mem (by omega) (by omega))))
    have hq2 : Keep (Bx N w.heap.size (w.heap.size + 1)) v4 w2 := by rw [hw2]; exact ((Keep.refl _ _).put _ _ (.inr (Bx.mem (by omega) (by omega))))
    have B0_2 : Box w2 (w.heap.size) #[.slice g1 (memS s0 (fillD s0.M)).M.W.length g2, .slice g3 (memS s0 (fillD s0.M)).M.G.length g4, .bool (memS s0 (fillD s0.M)).M.bad, .slice g5 (memS s0 (fillD s0.M)).C.length g6, .slice g7 (memS s0 (fillD s0.M)).L.length g8] 83 := by rw [hw2]; exact (D0_4.since hs4 rfl).put
    have B1_2 : Box w2 (w1.heap.size) #[.slice r1 s0.M.W.length r2, .slice r3 s0.M.G.length r4, .bool s0.M.bad, .slice r5 s0.C.length r6, .slice r7 s0.L.length r8] 83 := by rw [hw2]; exact (box_putOther (D1_4.since hs4 rfl) (by omega))
    have s2 : W4.heap.size ≤ w2.heap.size := by rw [hw2]; have := hW2.size; simpa [put] using this
    rw [← hw2]
    clear hw2
    obtain ⟨c0_0, c0_1, c0_2, c0_3, c0_4, d0_0, d0_1, d0_2, d0_3, d0_4⟩ := cells5 B0_2
    have z0 : w.heap.size < w2.heap.size := B0_2.lt
    obtain ⟨c1_0, c1_1, c1_2, c1_3, c1_4, d1_0, d1_1, d1_2, d1_3, d1_4⟩ := cells5 B1_2
    have z1 : w1.heap.size < w2.heap.size := B1_2.lt
    have hu2 : IsSys (Bx N w.heap.size (w.heap.size + 1)) w2 (.agg #[.slice g1 (memS s0 (fillD s0.M)).M.W.length g2, .slice g3 (memS s0 (fillD s0.M)).M.G.length g4, .bool (memS s0 (fillD s0.M)).M.bad, .slice g5 (memS s0 (fillD s0.M)).C.length g6, .slice g7 (memS s0 (fillD s0.M)).L.length g8]) (memS s0 (fillD s0.M)) := IsSys.keep (IsSys.mk rfl gW gG gC gL : IsSys (Bx N w.heap.size (w.heap.size + 1)) v4 _ (memS s0 (fillD s0.M))) hq2
    clear hq2
    go_wp2
    exact bodyPost_ret (ret_cell (cs := #[.slice g1 (memS s0 (fillD s0.M)).M.W.length g2, .slice g3 (memS s0 (fillD s0.M)).M.G.length g4, .bool (memS s0 (fillD s0.M)).M.bad, .slice g5 (memS s0 (fillD s0.M)).C.length g6, .slice g7 (memS s0 (fillD s0.M)).L.length g8]) B0_2 Proofs.Try.results115 rfl Proofs.Try.underlying83 rfl (by kernel_rfl)) rfl ⟨_, rfl, exn, IsSys.less (IsSys.keep hu2 keq) (fun _ _ hn => .inl hn)⟩
end Go.Proofs.Ytcfbdfgondmkoaa
