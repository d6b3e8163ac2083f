/- The stack's law, plain: a filled arena; the list that is walked; cores that pop and push by picks. -/
import Derived.Test.YtcfbdfgondmkoaaStk2
namespace Go.Proofs.Ytcfbdfgondmkoaa
open Go Go.RowKit
set_option linter.unusedSimpArgs false
set_option linter.unusedVariables false
set_option linter.unnecessarySimpa false
set_option linter.unusedVariables false

theorem Cell.safe {n : Nat} {x : Int} {m : Arena} (h : Cell n x) (hW : m.W.length = 128 + 4 * n) : outside m x = false ∧ badAt m x = m.bad := by
  have h1 : outside m x = false := by
    rcases h with rfl | ⟨p, h3, h4, rfl⟩
    · simp [outside, hW]; omega
    · simp [outside, hW]; omega
  refine ⟨h1, ?_⟩
  have h2 : freeAt m x = false := by
    unfold freeAt
    rcases h with rfl | ⟨p, h3, h4, rfl⟩
    · rw [nodeD_0]; simp
    · rw [nodeD_link h3]; simp
  simp [badAt, h1, h2]
theorem store_safe {n : Nat} {x v : Int} {m : Arena} (h : Cell n x) (hW : m.W.length = 128 + 4 * n) : storeD m x v = { m with W := m.W.set x.toNat v } := by
  unfold storeD
  rw [(h.safe hW).1, (h.safe hW).2]; rfl
theorem load_safe {n : Nat} {x : Int} {m : Arena} (h : Cell n x) (hW : m.W.length = 128 + 4 * n) : loadD m x = gi m.W x.toNat := by
  unfold loadD
  rw [(h.safe hW).1]; rfl
/-- what a node's link tells in a filled arena -/
def nextOf (n i : Nat) : Int := if i = n then 0 else (i : Int) + 1
theorem fillL_spec {n : Nat} (hn : n ≤ 200) : ∀ (k i : Nat) (m : Arena), i + k = n + 1 → 1 ≤ i → m.W.length = 128 + 4 * n → ∃ W', fillL n k i m = { m with W := W' } ∧ W'.length = 128 + 4 * n ∧
    (∀ p : Nat, i ≤ p → p ≤ n → gi W' (lk p) = nextOf n p) ∧ (∀ x, (∀ p : Nat, i ≤ p → p ≤ n → x ≠ lk p) → gi W' x = gi m.W x)
  | 0, i, m, h1, h2, h3 => ⟨m.W, rfl, h3, fun p _ _ => by omega, fun _ _ => rfl⟩
  | k + 1, i, m, h1, h2, h3 => by
    have hl : linkAt (i : Int) = 128 + 4 * ((i : Int) - 1) := link_lk (by omega) (by omega)
    have hs : storeD m (linkAt i) (nextOf n i) = { m with W := m.W.set (lk i) (nextOf n i) } := by
      rw [store_safe (n := n) (by rw [hl]; exact Cell.link (by omega) (by omega)) h3, hl]; rfl
    obtain ⟨W', e, h4, h5, h6⟩ := fillL_spec hn k (i + 1) { m with W := m.W.set (lk i) (nextOf n i) } (by omega) (by omega) (by simpa using h3)
    refine ⟨W', ?_, h4, fun p hp hq => ?_, fun x hx => ?_⟩
    · unfold fillL
      show fillL n k (i + 1) (storeD m (linkAt i) (nextOf n i)) = _
      rw [hs, e]
    · by_cases hpi : p = i
      · subst hpi
        rw [h6 _ fun q h7 h8 e => by have := lk_inj (by omega) (by omega) e; omega]
        exact gi_set_eq _ (by unfold lk; omega)
      · exact h5 p (by omega) hq
    · rw [h6 x fun p hp hq => hx p (by omega) hq]
      exact gi_set_ne _ (Ne.symm (hx i (Nat.le_refl _) (by omega)))
theorem fill_spec {n : Nat} {m : Arena} (hn : n ≤ 200) (hG : m.G.length = n + 1) (hW : m.W.length = 128 + 4 * n) : ∃ W', fillD m = { m with W := W' } ∧ W'.length = 128 + 4 * n ∧ gi W' 0 = 2 ∧ ∀ p : Nat, 1 ≤ p → p ≤ n → gi W' (lk p) = nextOf n p := by
  obtain ⟨W', e, h1, h2, _⟩ := fillL_spec hn n 1 m (by omega) (by omega) hW
  refine ⟨W'.set 0 2, ?_, by simpa using h1, gi_set_eq _ (by omega), fun p hp hq => ?_⟩
  · unfold fillD
    rw [show m.G.length - 1 = n by omega, e]
    exact store_safe (n := n) (.inl rfl) h1
  · rw [gi_set_ne _ (Ne.symm (lk_pos _ (by omega)))]; exact h2 p hp hq
theorem set_same {l : List Int} {i : Nat} {v : Int} (h : gi l i = v) : l.set i v = l := by
  apply List.ext_getElem (by simp)
  intro j h1 h2
  rw [List.getElem_set]
  split
  · rename_i e; subst e
    rw [← h]; simp [gi, h2]
  · rfl
theorem fillL_same {n : Nat} (hn : n ≤ 200) : ∀ (k i : Nat) (m : Arena), i + k = n + 1 → 1 ≤ i → m.W.length = 128 + 4 * n → (∀ p : Nat, i ≤ p → p ≤ n → gi m.W (lk p) = nextOf n p) → fillL n k i m = m
  | 0, i, m, h1, h2, h3, h4 => rfl
  | k + 1, i, m, h1, h2, h3, h4 => by
    have hl : linkAt (i : Int) = 128 + 4 * ((i : Int) - 1) := link_lk (by omega) (by omega)
    have hs : storeD m (linkAt i) (nextOf n i) = m := by
      rw [store_safe (n := n) (by rw [hl]; exact Cell.link (by omega) (by omega)) h3, hl]
      show { m with W := m.W.set (lk i) (nextOf n i) } = m
      rw [set_same (h4 i (Nat.le_refl _) (by omega))]
    unfold fillL
    show fillL n k (i + 1) (storeD m (linkAt i) (nextOf n i)) = _
    rw [hs]
    exact fillL_same hn k (i + 1) m (by omega) (by omega) h3 fun p hp hq => h4 p (by omega) hq
theorem fill_twice {n : Nat} {m : Arena} (hn : n ≤ 200) (hG : m.G.length = n + 1) (hW : m.W.length = 128 + 4 * n) : fillD (fillD m) = fillD m := by
  obtain ⟨W', e, h1, h2, h3⟩ := fill_spec hn hG hW
  rw [e]
  unfold fillD
  show storeD (fillL (m.G.length - 1) (m.G.length - 1) 1 { m with W := W' }) 0 2 = _
  rw [show m.G.length - 1 = n by omega, fillL_same hn n 1 { m with W := W' } (by omega) (by omega) h1 h3, store_safe (n := n) (.inl rfl) h1]
  show { m with W := W'.set 0 2 } = _
  rw [set_same h2]
/-- so many numbers from one on -/
def upl : Nat → Nat → List Int
  | 0, _ => []
  | k + 1, i => (i : Int) :: upl k (i + 1)
theorem upl_length : ∀ (k i : Nat), (upl k i).length = k
  | 0, _ => rfl
  | k + 1, i => by simp [upl, upl_length k]
theorem upl_get : ∀ (k i j : Nat), j < k → gi (upl k i) j = (i : Int) + j
  | 0, _, _, h => by omega
  | k + 1, i, 0, h => by simp [upl, gi]
  | k + 1, i, j + 1, h => by
    have := upl_get k (i + 1) j (by omega)
    simp [upl, gi] at this ⊢
    rw [this]; omega
theorem upl_count : ∀ (k i : Nat) (p : Int), (upl k i).count p = if (i : Int) ≤ p ∧ p < i + k then 1 else 0
  | 0, i, p => by simp [upl]
  | k + 1, i, p => by
    rw [upl, count_cons_if, upl_count k (i + 1) p]
    split <;> split <;> split <;> omega
theorem upl_chain {n : Nat} {W : List Int} (h : ∀ p : Nat, 1 ≤ p → p ≤ n → gi W (lk p) = nextOf n p) : ∀ (k i : Nat), 1 ≤ i → i + k = n + 1 → Chain n W (if k = 0 then 0 else i) (upl k i)
  | 0, i, _, _ => by simp [upl, Chain]
  | k + 1, i, h1, h2 => by
    refine ⟨by simp, by omega, by omega, ?_⟩
    rw [h i h1 (by omega)]
    have := upl_chain h k (i + 1) (by omega) (by omega)
    unfold nextOf
    by_cases hk : k = 0
    · rw [if_pos hk] at this; rw [if_pos (by omega)]; exact this
    · rw [if_neg hk] at this; rw [if_neg (by omega)]; simpa using this
theorem pigeon : ∀ (n : Nat) (L : List Int), (∀ p, L.count p ≤ 1) → (∀ p, p ∈ L → 1 ≤ p ∧ p ≤ n) → L.length ≤ n
  | 0, [], _, _ => by simp
  | 0, a :: l, _, h => by have := h a (by simp); omega
  | n + 1, L, h1, h2 => by
    have h3 : ∀ p, (L.erase (n + 1 : Nat)).count p ≤ 1 := fun p => by
      by_cases e : p = ((n + 1 : Nat) : Int)
      · subst e; rw [List.count_erase_self]; have := h1 ((n + 1 : Nat) : Int); omega
      · rw [List.count_erase_of_ne e]; exact h1 p
    have h4 : ∀ p, p ∈ L.erase ((n + 1 : Nat) : Int) → 1 ≤ p ∧ p ≤ n := fun p hp => by
      have hpL := List.mem_of_mem_erase hp
      have := h2 p hpL
      refine ⟨this.1, ?_⟩
      have : p ≠ ((n + 1 : Nat) : Int) := fun e => by
        subst e
        have h5 : 0 < (L.erase ((n + 1 : Nat) : Int)).count ((n + 1 : Nat) : Int) := List.count_pos_iff.2 hp
        rw [List.count_erase_self] at h5
        have := h1 ((n + 1 : Nat) : Int)
        omega
      omega
    have := pigeon n _ h3 h4
    have h5 : L.length ≤ (L.erase ((n + 1 : Nat) : Int)).length + 1 := by
      rw [List.length_erase]; split <;> omega
    omega
theorem walkF_chain {n : Nat} {m : Arena} (hn : n ≤ 200) (hG : m.G.length = n + 1) (hW : m.W.length = 128 + 4 * n) : ∀ (L : List Int) (p : Int) (k : Nat) (out : List Int), Chain n m.W p L → L.length < k → (∀ q, (out ++ L).count q ≤ 1) → walkF m k p out = (out ++ L, true)
  | [], p, 0, out, _, h, _ => by simp at h
  | [], p, k + 1, out, h, _, _ => by
    obtain rfl : p = 0 := h
    unfold walkF; simp
  | q :: l, p, 0, out, _, h, _ => by simp at h
  | q :: l, p, k + 1, out, ⟨e, h1, h2, h3⟩, hl, hc => by
    subst e
    have h4 : p ∉ out := fun hp => by
      have h5 := List.count_pos_iff.2 hp
      have := hc p
      rw [List.count_append, count_cons_if, if_pos rfl] at this
      omega
    have hlink : linkAt p = 128 + 4 * (p - 1) := link_lk h1 (by omega)
    have hld : loadD m (linkAt p) = gi m.W (lk p) := by rw [load_safe (n := n) (by rw [hlink]; exact Cell.link h1 h2) hW, hlink]; rfl
    unfold walkF
    rw [if_neg (by omega), if_neg (by rw [hG]; simp [h4]; omega), hld]
    have := walkF_chain hn hG hW l (gi m.W (lk p)) k (out ++ [p]) h3 (by simpa using hl) (by simpa using hc)
    rw [this]; simp
theorem walk_chain {n : Nat} {m : Arena} {L : List Int} (hn : n ≤ 200) (hG : m.G.length = n + 1) (hW : m.W.length = 128 + 4 * n) (h : Chain n m.W (idx (gi m.W 0)) L) (hc : ∀ q, L.count q ≤ 1) : walkD m = (L, true) := by
  unfold walkD
  rw [load_safe (n := n) (.inl rfl) hW]
  have := pigeon n L hc fun p hp => h.mem hp
  exact walkF_chain hn hG hW L _ _ [] h (by omega) (by simpa using hc)
theorem fill_walk {n : Nat} {m : Arena} (h1 : 1 ≤ n) (hn : n ≤ 200) (hG : m.G.length = n + 1) (hW : m.W.length = 128 + 4 * n) : walkD (fillD m) = (upl n 1, true) := by
  obtain ⟨W', e, h2, h3, h4⟩ := fill_spec hn hG hW
  rw [e]
  refine walk_chain (m := { m with W := W' }) hn hG h2 ?_ fun q => ?_
  · show Chain n W' (idx (gi W' 0)) _
    rw [h3]
    have := upl_chain h4 n 1 (by omega) (by omega)
    rw [if_neg (by omega)] at this
    exact this
  · rw [upl_count]; split <;> omega
end Go.Proofs.Ytcfbdfgondmkoaa
