/- Texts of this work, put together: CoB, CoC. -/
import Derived.Test.YtcfbdfgondmkoaaM3
import Derived.Laws.EntriesVeiled
import Derived.Deep.AppendSrc
import Derived.Great.BuildSlice
/- Systems that are right, and small; new ones; an event is told. -/
namespace Go.Proofs.Ytcfbdfgondmkoaa
open Go Go.RowKit
set_option linter.unusedSimpArgs false
set_option linter.unusedVariables false
set_option linter.unnecessarySimpa false


theorem indexFar_ (N : Nat → Prop) (v : Value) (l : List Int) (w : World) (h : IsInts N w v l) : Gives Proofs.Try.prog 157 #[v, .func (.func 132) #[] #[]] w (fun r _ => ∃ z : Int, r = .int .i64 z ∧ decide (0 ≤ z) = l.any farB) := by
  obtain ⟨pa, ca, rfl, ra, la, ca0⟩ := h.opened
  go_enter Proofs.Try.func157, Proofs.Try.ntmps157
  go_wp2
  go_loopw [8] (fun kk wr => ∃ k : Nat, k ≤ l.length ∧ kk = .int .i64 k ∧ (∀ i, i < k → farB (gi l i) = false) ∧ Ext w wr) (fun kk _ => l.length - (intOf kk).toNat)
  case atStart => exact ⟨0, Nat.zero_le _, rfl, fun i hi => by omega, (by repeat (first | assumption | exact Ext.refl _ | refine Ext.trans ?_ (Ext.alloc _ _) | refine Ext.trans ?_ (Ext.drewN _ _) | refine Ext.trans ?_ (Ext.drew _) | refine Ext.trans ?_ (by assumption)))⟩
  case round =>
    obtain ⟨k, hk, rfl, hall, hE⟩ := hrel
    by_cases hlt : k < l.length
    · have hlt1 : (k : Int) < (l.length : Int) := by omega
      obtain ⟨ba, oa, rfl, xa, na, ea⟩ := ca0 k hlt
      have ea' := cell_ext ea hE
      cases ho : farB (gi l k)
      · go_wp2_with (fail)
        have hc := isFar_ (gi l k) wr
        rw [ho] at hc
        go_at_call 132; refine (hc).calls.mono ?_; rintro e w1 ⟨_, rfl, hb1, rfl⟩; obtain ⟨q1, f1⟩ := bcell hb1
        go_wp2
        go_roundw
        case rel => exact ⟨k + 1, by omega, by simp, fun i hi => (Nat.lt_succ_iff_lt_or_eq.1 hi).elim (hall i) (fun h => h ▸ ho), (by repeat (first | assumption | exact Ext.refl _ | refine Ext.trans ?_ (Ext.alloc _ _) | refine Ext.trans ?_ (Ext.drewN _ _) | refine Ext.trans ?_ (Ext.drew _) | refine Ext.trans ?_ (by assumption)))⟩
        case measure => simp [intOf]; omega
      · go_wp2_with (fail)
        have hc := isFar_ (gi l k) wr
        rw [ho] at hc
        go_at_call 132; refine (hc).calls.mono ?_; rintro e w1 ⟨_, rfl, hb1, rfl⟩; obtain ⟨q1, f1⟩ := bcell hb1
        go_wp2
        go_ret
        refine ⟨_, rfl, (by repeat (first | assumption | exact Ext.refl _ | refine Ext.trans ?_ (Ext.alloc _ _) | refine Ext.trans ?_ (Ext.drewN _ _) | refine Ext.trans ?_ (Ext.drew _) | refine Ext.trans ?_ (by assumption))), k, rfl, ?_⟩
        have : l.any farB = true := List.any_eq_true.2 ⟨l[k], List.getElem_mem hlt, by rw [gi_eq]; exact ho⟩
        rw [this]
        simp
    · have hlt1 : ¬ (k : Int) < (l.length : Int) := by omega
      go_wp2
      go_ret
      refine ⟨_, rfl, (by repeat (first | assumption | exact Ext.refl _ | refine Ext.trans ?_ (Ext.alloc _ _) | refine Ext.trans ?_ (Ext.drewN _ _) | refine Ext.trans ?_ (Ext.drew _) | refine Ext.trans ?_ (by assumption))), -1, rfl, ?_⟩
      have : l.any farB = false := by
        rw [List.any_eq_false]
        intro x hx
        obtain ⟨i, hi, rfl⟩ := List.getElem_of_mem hx
        rw [gi_eq, hall i (by omega)]
        simp
      rw [this]
      rfl
theorem containsFar_ (N : Nat → Prop) (v : Value) (l : List Int) (w : World) (h : IsInts N w v l) : Gives Proofs.Try.prog 121 #[v, .func (.func 132) #[] #[]] w (eqv (.bool (l.any farB))) := by
  go_enter Proofs.Try.func121, Proofs.Try.ntmps121
  go_wp2_with (fail)
  go_at_call 157
  refine (indexFar_ N v l _ h).calls.mono ?_
  rintro e w1 ⟨_, rfl, hb1, z, rfl, hz⟩
  by_cases h0 : 0 ≤ z
  · go_wp2
    go_ret
    exact ⟨_, rfl, hb1, by rw [← hz]; simp [h0, eqv]⟩
  · go_wp2
    go_ret
    exact ⟨_, rfl, hb1, by rw [← hz]; simp [h0, eqv]⟩


theorem arr8 {w : World} {b : Nat} {f : FrameD} {a : Option Addr} {cap : Nat} (h : Box w b #[.int .i64 f.op, .int .i64 f.pc, .int .i64 (gi f.R 0), .int .i64 (gi f.R 1), .int .i64 (gi f.R 2), .int .i64 (gi f.R 3), .int .i64 (gi f.R 4), .int .i64 (gi f.R 5), .int .i64 (gi f.R 6), .int .i64 (gi f.R 7), .slice a f.S.length cap] 95) (h8 : f.R.length = 8) : IsInts no w (.slice (some ⟨b, 2, none⟩) 8 8) f.R :=
  ⟨some ⟨b, 2, none⟩, 8, by rw [h8], by omega, by omega, fun e => by simp at e, fun i hi => ⟨b, 2, rfl, h.lt, id, by
    rw [h8] at hi
    match i, hi with
    | 0, _ => exact h.cell rfl
    | 1, _ => exact h.cell rfl
    | 2, _ => exact h.cell rfl
    | 3, _ => exact h.cell rfl
    | 4, _ => exact h.cell rfl
    | 5, _ => exact h.cell rfl
    | 6, _ => exact h.cell rfl
    | 7, _ => exact h.cell rfl
    | n + 8, hi => omega⟩⟩
theorem arr3 {w : World} {b : Nat} {c : CoreD} {af ar : Option Addr} {cf cr : Nat} (h : Box w b #[.slice af c.F.length cf, .int .i64 c.V, .int .i64 c.E, .int .i64 (gi c.X 0), .int .i64 (gi c.X 1), .int .i64 (gi c.X 2), .slice ar c.Ret.length cr] 116) (h3 : c.X.length = 3) : IsInts no w (.slice (some ⟨b, 3, none⟩) 3 3) c.X :=
  ⟨some ⟨b, 3, none⟩, 3, by rw [h3], by omega, by omega, fun e => by simp at e, fun i hi => ⟨b, 3, rfl, h.lt, id, by
    rw [h3] at hi
    match i, hi with
    | 0, _ => exact h.cell rfl
    | 1, _ => exact h.cell rfl
    | 2, _ => exact h.cell rfl
    | n + 3, hi => omega⟩⟩
def longF (f : FrameD) : Bool := decide (24 < f.S.length) || f.R.any farB
set_option maxRecDepth 100000 in
theorem long_ (N : Nat → Prop) (v : Value) (f : FrameD) (w : World) (h : IsFrame N w v f) : Gives Proofs.Try.prog 131 #[v] w (eqv (.bool (longF f))) := by
  obtain ⟨a, cap, rfl, h8, hs⟩ := h.opened
  by_cases h1 : 24 < f.S.length
  · have h1' : (24 : Int) < (f.S.length : Int) := by omega
    go_enter Proofs.Try.func131, Proofs.Try.ntmps131
    go_wp2
    go_ret
    exact ⟨_, rfl, exq, by simp [longF, h1, eqv]⟩
  · have h1' : ¬ (24 : Int) < (f.S.length : Int) := by omega
    have hd : longF f = f.R.any farB := by simp [longF, h1]
    rw [hd]
    go_enter Proofs.Try.func131, Proofs.Try.ntmps131
    go_wp2_with (fail)
    go_at_call 121
    refine (containsFar_ no _ f.R _ (arr8 (Box.new _ _ _) h8)).calls.mono ?_
    rintro e w1 ⟨_, rfl, hb1, rfl⟩
    go_wp2
    go_ret
    exact ⟨_, rfl, exq, rfl⟩
set_option maxHeartbeats 1000000 in
set_option maxRecDepth 100000 in
theorem indexLong_ (N : Nat → Prop) (v : Value) (l : List FrameD) (w : World) (h : IsFrames N w v l) : Gives Proofs.Try.prog 160 #[v, .func (.func 131) #[] #[]] w (fun r _ => ∃ z : Int, r = .int .i64 z ∧ decide (0 ≤ z) = l.any longF) := by
  obtain ⟨pa, ca, rfl, ha, ra, la, _⟩ := IsSl.opened h
  go_enter Proofs.Try.func160, Proofs.Try.ntmps160
  go_wp2
  go_loopw [8] (fun kk wr => ∃ k : Nat, k ≤ l.length ∧ kk = .int .i64 k ∧ (∀ (i : Nat) x, i < k → l[i]? = some x → longF x = false) ∧ Ext w wr) (fun kk _ => l.length - (intOf kk).toNat)
  case atStart => exact ⟨0, Nat.zero_le _, rfl, fun i x hi => by omega, Ext.refl _⟩
  case round =>
    obtain ⟨k, hk, rfl, hall, hE⟩ := hrel
    by_cases hlt : k < l.length
    · have hlt1 : (k : Int) < (l.length : Int) := by omega
      obtain ⟨x, hx⟩ := getSome hlt
      obtain ⟨ba, oa, xs, xc, rfl, xa, na, h8a, hsa, a0, a1, a2, a3, a4, a5, a6, a7, a8, a9, a10⟩ := IsFrames.cells ha hx
      have a0 := cell_ext a0 hE; have a1 := cell_ext a1 hE; have a2 := cell_ext a2 hE; have a3 := cell_ext a3 hE; have a4 := cell_ext a4 hE; have a5 := cell_ext a5 hE; have a6 := cell_ext a6 hE; have a7 := cell_ext a7 hE; have a8 := cell_ext a8 hE; have a9 := cell_ext a9 hE; have a10 := cell_ext a10 hE
      cases ho : longF x
      · go_wp2_with (fail)
        have hc := fun w' (e : Ext w w') => long_ N _ x w' ((frame_of h8a hsa).ext e)
        rw [ho] at hc
        go_at_call 131
        refine (hc _ hE).calls.mono ?_
        rintro e w1 ⟨_, rfl, hb1, rfl⟩
        go_wp2
        go_roundw
        case rel => exact ⟨k + 1, by omega, by simp, fun i u hi hu => (Nat.lt_succ_iff_lt_or_eq.1 hi).elim (fun h => hall i u h hu) (fun h => by subst h; rw [hx] at hu; cases hu; exact ho), exq⟩
        case measure => simp [intOf]; omega
      · go_wp2_with (fail)
        have hc := fun w' (e : Ext w w') => long_ N _ x w' ((frame_of h8a hsa).ext e)
        rw [ho] at hc
        go_at_call 131
        refine (hc _ hE).calls.mono ?_
        rintro e w1 ⟨_, rfl, hb1, rfl⟩
        go_wp2
        go_ret
        refine ⟨_, rfl, exq, k, rfl, ?_⟩
        have : l.any longF = true := List.any_eq_true.2 ⟨x, List.mem_of_getElem? hx, ho⟩
        rw [this]
        simp
    · have hlt1 : ¬ (k : Int) < (l.length : Int) := by omega
      go_wp2
      go_ret
      refine ⟨_, rfl, exq, -1, rfl, ?_⟩
      have : l.any longF = false := by
        rw [List.any_eq_false]
        intro x hx
        obtain ⟨i, hi, rfl⟩ := List.getElem_of_mem hx
        rw [hall i _ (by omega) (List.getElem?_eq_getElem hi)]
        simp
      rw [this]
      rfl
theorem containsLong_ (N : Nat → Prop) (v : Value) (l : List FrameD) (w : World) (h : IsFrames N w v l) : Gives Proofs.Try.prog 134 #[v, .func (.func 131) #[] #[]] w (eqv (.bool (l.any longF))) := by
  go_enter Proofs.Try.func134, Proofs.Try.ntmps134
  go_wp2_with (fail)
  go_at_call 160
  refine (indexLong_ N v l _ h).calls.mono ?_
  rintro e w1 ⟨_, rfl, hb1, z, rfl, hz⟩
  by_cases h0 : 0 ≤ z
  · go_wp2
    go_ret
    exact ⟨_, rfl, hb1, by rw [← hz]; simp [h0, eqv]⟩
  · go_wp2
    go_ret
    exact ⟨_, rfl, hb1, by rw [← hz]; simp [h0, eqv]⟩
def oddC (c : CoreD) : Bool := decide (40 < c.F.length) || (decide (200 < c.Ret.length) || (farB c.V || (c.X.any farB || c.F.any longF)))
set_option maxHeartbeats 1000000 in
set_option maxRecDepth 100000 in
theorem oddC_ (N : Nat → Prop) (v : Value) (c : CoreD) (p : Nat) (w : World) (h : IsCoreV N w v c) (hp : w.cell? ⟨p, 0, none⟩ = some (.func (.func 131) #[] #[])) : Gives Proofs.Try.prog 133 #[v, .pointer (some ⟨p, 0, none⟩)] w (eqv (.bool (oddC c))) := by
  obtain ⟨af, cf, ar, cr, rfl, h3, hf, hr⟩ := h.opened
  have zp : p < w.heap.size := World.block_lt_of_cell? _ _ hp
  by_cases h1 : 40 < c.F.length
  · have h1' : (40 : Int) < (c.F.length : Int) := by omega
    go_enter Proofs.Try.func133, Proofs.Try.ntmps133
    go_wp2
    go_ret
    exact ⟨_, rfl, exq, by simp [oddC, h1, eqv]⟩
  · have h1' : ¬ (40 : Int) < (c.F.length : Int) := by omega
    by_cases h2 : 200 < c.Ret.length
    · have h2' : (200 : Int) < (c.Ret.length : Int) := by omega
      go_enter Proofs.Try.func133, Proofs.Try.ntmps133
      go_wp2
      go_ret
      exact ⟨_, rfl, exq, by simp [oddC, h1, h2, eqv]⟩
    · have h2' : ¬ (200 : Int) < (c.Ret.length : Int) := by omega
      have kv := fun w' => isFar_ c.V w'
      cases h4 : farB c.V
      · rw [h4] at kv
        go_enter Proofs.Try.func133, Proofs.Try.ntmps133
        go_wp2_with (fail)
        go_at_call 132
        refine (kv _).calls.mono ?_
        rintro e w1 ⟨_, rfl, hb1, rfl⟩
        have B0 : Box w1 w.heap.size #[.slice af c.F.length cf, .int .i64 c.V, .int .i64 c.E, .int .i64 (gi c.X 0), .int .i64 (gi c.X 1), .int .i64 (gi c.X 2), .slice ar c.Ret.length cr] 116 := (Box.new _ _ _).ext hb1
        obtain ⟨p0, p1, p2, p3, p4, p5, p6, d0, d1, d2, d3, d4, d5, d6⟩ := cells7 B0
        have z0 : w.heap.size < w1.heap.size := B0.lt
        go_wp2_with (fail)
        go_at_call 121
        refine (containsFar_ no _ c.X _ (arr3 B0 h3)).calls.mono ?_
        rintro e w2 ⟨_, rfl, hb2, rfl⟩
        have C0 := B0.ext hb2
        clear p0 p1 p2 p3 p4 p5 p6 d0 d1 d2 d3 d4 d5 d6
        obtain ⟨p0, p1, p2, p3, p4, p5, p6, d0, d1, d2, d3, d4, d5, d6⟩ := cells7 C0
        have z1 := C0.lt
        have hE2 : Ext w w2 := exq
        have hp2 := cell_ext hp hE2
        cases h5 : c.X.any farB
        · go_wp2_with (fail)
          go_at_call 134
          refine (containsLong_ N _ c.F _ (IsFrames.keep hf hE2.keep)).calls.mono ?_
          rintro e w3 ⟨_, rfl, hb3, rfl⟩
          go_wp2
          go_ret
          exact ⟨_, rfl, exq, by simp [oddC, h1, h2, h4, h5, eqv]⟩
        · go_wp2
          go_ret
          exact ⟨_, rfl, exq, by simp [oddC, h1, h2, h4, h5, eqv]⟩
      · rw [h4] at kv
        go_enter Proofs.Try.func133, Proofs.Try.ntmps133
        go_wp2_with (fail)
        go_at_call 132
        refine (kv _).calls.mono ?_
        rintro e w1 ⟨_, rfl, hb1, rfl⟩
        go_wp2
        go_ret
        exact ⟨_, rfl, exq, by simp [oddC, h1, h2, h4, eqv]⟩
set_option maxHeartbeats 1000000 in
set_option maxRecDepth 100000 in
theorem indexOddC_ (N : Nat → Prop) (v : Value) (l : List CoreD) (p : Nat) (w : World) (h : IsCores N w v l) (hp : w.cell? ⟨p, 0, none⟩ = some (.func (.func 131) #[] #[])) : Gives Proofs.Try.prog 161 #[v, .func (.func 133) #[] #[.pointer (some ⟨p, 0, none⟩)]] w (fun r _ => ∃ z : Int, r = .int .i64 z ∧ decide (0 ≤ z) = l.any oddC) := by
  obtain ⟨pa, ca, rfl, ha, ra, la, _⟩ := IsSl.opened h
  go_enter Proofs.Try.func161, Proofs.Try.ntmps161
  go_wp2
  go_loopw [8] (fun kk wr => ∃ k : Nat, k ≤ l.length ∧ kk = .int .i64 k ∧ (∀ (i : Nat) x, i < k → l[i]? = some x → oddC x = false) ∧ Ext w wr) (fun kk _ => l.length - (intOf kk).toNat)
  case atStart => exact ⟨0, Nat.zero_le _, rfl, fun i x hi => by omega, Ext.refl _⟩
  case round =>
    obtain ⟨k, hk, rfl, hall, hE⟩ := hrel
    by_cases hlt : k < l.length
    · have hlt1 : (k : Int) < (l.length : Int) := by omega
      obtain ⟨x, hx⟩ := getSome hlt
      obtain ⟨ba, oa, xf, xg, xr, xs, rfl, xa, na, h3a, hfa, hra, a0, a1, a2, a3, a4, a5, a6⟩ := IsCores.at ha hx
      have a0 := cell_ext a0 hE; have a1 := cell_ext a1 hE; have a2 := cell_ext a2 hE; have a3 := cell_ext a3 hE; have a4 := cell_ext a4 hE; have a5 := cell_ext a5 hE; have a6 := cell_ext a6 hE
      cases ho : oddC x
      · go_wp2_with (fail)
        have hc := fun w' (e : Ext w w') => oddC_ N _ x p w' ((core_of h3a hfa hra).ext e) (cell_ext hp e)
        rw [ho] at hc
        go_at_call 133
        refine (hc _ hE).calls.mono ?_
        rintro e w1 ⟨_, rfl, hb1, rfl⟩
        go_wp2
        go_roundw
        case rel => exact ⟨k + 1, by omega, by simp, fun i u hi hu => (Nat.lt_succ_iff_lt_or_eq.1 hi).elim (fun h => hall i u h hu) (fun h => by subst h; rw [hx] at hu; cases hu; exact ho), exq⟩
        case measure => simp [intOf]; omega
      · go_wp2_with (fail)
        have hc := fun w' (e : Ext w w') => oddC_ N _ x p w' ((core_of h3a hfa hra).ext e) (cell_ext hp e)
        rw [ho] at hc
        go_at_call 133
        refine (hc _ hE).calls.mono ?_
        rintro e w1 ⟨_, rfl, hb1, rfl⟩
        go_wp2
        go_ret
        refine ⟨_, rfl, exq, k, rfl, ?_⟩
        have : l.any oddC = true := List.any_eq_true.2 ⟨x, List.mem_of_getElem? hx, ho⟩
        rw [this]
        simp
    · have hlt1 : ¬ (k : Int) < (l.length : Int) := by omega
      go_wp2
      go_ret
      refine ⟨_, rfl, exq, -1, rfl, ?_⟩
      have : l.any oddC = false := by
        rw [List.any_eq_false]
        intro x hx
        obtain ⟨i, hi, rfl⟩ := List.getElem_of_mem hx
        rw [hall i _ (by omega) (List.getElem?_eq_getElem hi)]
        simp
      rw [this]
      rfl
theorem containsOddC_ (N : Nat → Prop) (v : Value) (l : List CoreD) (p : Nat) (w : World) (h : IsCores N w v l) (hp : w.cell? ⟨p, 0, none⟩ = some (.func (.func 131) #[] #[])) : Gives Proofs.Try.prog 135 #[v, .func (.func 133) #[] #[.pointer (some ⟨p, 0, none⟩)]] w (eqv (.bool (l.any oddC))) := by
  go_enter Proofs.Try.func135, Proofs.Try.ntmps135
  go_wp2_with (fail)
  go_at_call 161
  refine (indexOddC_ N v l p _ h hp).calls.mono ?_
  rintro e w1 ⟨_, rfl, hb1, z, rfl, hz⟩
  by_cases h0 : 0 ≤ z
  · go_wp2
    go_ret
    exact ⟨_, rfl, hb1, by rw [← hz]; simp [h0, eqv]⟩
  · go_wp2
    go_ret
    exact ⟨_, rfl, hb1, by rw [← hz]; simp [h0, eqv]⟩
def rightS (s : SysD) : Bool := rightD s.M && (decide (1 ≤ s.C.length) && (decide (s.C.length ≤ 8) && !s.C.any oddC))
set_option maxHeartbeats 1000000 in
set_option maxRecDepth 100000 in
theorem sysRight_ (N : Nat → Prop) (v : Value) (s : SysD) (w : World) (h : IsSys N w v s) : Gives Proofs.Try.prog 79 #[v] w (eqv (.bool (rightS s))) := by
  obtain ⟨aw, cw, ag, cg, ac, cc, al, cl, rfl, hw, hg, hc, hl⟩ := h.opened
  have k1 := fun w' (e : Ext w w') => memRight_ N _ s.M w' ((IsMem.mk rfl hw hg : IsMem N w _ s.M).ext e)
  cases h1 : rightD s.M
  · rw [h1] at k1
    go_enter Proofs.Try.func79, Proofs.Try.ntmps79
    go_wp2_with (fail)
    go_at_call 55
    refine (k1 _ exq).calls.mono ?_
    rintro e w1 ⟨_, rfl, hb1, rfl⟩
    go_wp2
    go_ret
    exact ⟨_, rfl, exq, by simp [rightS, h1, eqv]⟩
  · rw [h1] at k1
    by_cases h2 : 1 ≤ s.C.length
    · by_cases h3 : s.C.length ≤ 8
      · have h2' : (1 : Int) ≤ (s.C.length : Int) := by omega
        have h3' : (s.C.length : Int) ≤ 8 := by omega
        have hne : ¬ s.C = [] := fun e => by rw [e] at h2; simp at h2
        have hd : rightS s = !s.C.any oddC := by simp [rightS, h1, h2, h3]
        rw [hd]
        go_enter Proofs.Try.func79, Proofs.Try.ntmps79
        go_wp2_with (fail)
        go_at_call 55
        refine (k1 _ exq).calls.mono ?_
        rintro e w1 ⟨_, rfl, hb1, rfl⟩
        have B0 : Box w1 w.heap.size #[.slice aw s.M.W.length cw, .slice ag s.M.G.length cg, .bool s.M.bad, .slice ac s.C.length cc, .slice al s.L.length cl] 83 := ((Box.new _ _ _).alloc _).ext hb1
        have B1 : Box w1 (w.heap.size + 1) #[.func (.func 131) #[] #[]] 161 := (Box.two _ _ _ _ _).ext hb1
        obtain ⟨p0, p1, p2, p3, p4, d0, d1, d2, d3, d4⟩ := cells5 B0
        obtain ⟨r0, q0⟩ := cells1 B1
        have z0 : w.heap.size < w1.heap.size := B0.lt
        have z1 : w.heap.size + 1 < w1.heap.size := B1.lt
        go_wp2_with (fail)
        go_at_call 135
        refine (containsOddC_ N _ s.C _ _ (IsCores.keep hc (show Ext w w1 from exq).keep) r0).calls.mono ?_
        rintro e w2 ⟨_, rfl, hb2, rfl⟩
        go_wp2
        go_ret
        exact ⟨_, rfl, exq, rfl⟩
      · have h2' : (1 : Int) ≤ (s.C.length : Int) := by omega
        have h3' : ¬ (s.C.length : Int) ≤ 8 := by omega
        have hne : ¬ s.C = [] := fun e => by rw [e] at h2; simp at h2
        go_enter Proofs.Try.func79, Proofs.Try.ntmps79
        go_wp2_with (fail)
        go_at_call 55
        refine (k1 _ exq).calls.mono ?_
        rintro e w1 ⟨_, rfl, hb1, rfl⟩
        have B0 : Box w1 w.heap.size #[.slice aw s.M.W.length cw, .slice ag s.M.G.length cg, .bool s.M.bad, .slice ac s.C.length cc, .slice al s.L.length cl] 83 := ((Box.new _ _ _).alloc _).ext hb1
        have B1 : Box w1 (w.heap.size + 1) #[.func (.func 131) #[] #[]] 161 := (Box.two _ _ _ _ _).ext hb1
        obtain ⟨p0, p1, p2, p3, p4, d0, d1, d2, d3, d4⟩ := cells5 B0
        obtain ⟨r0, q0⟩ := cells1 B1
        have z0 : w.heap.size < w1.heap.size := B0.lt
        have z1 : w.heap.size + 1 < w1.heap.size := B1.lt
        go_wp2
        go_ret
        exact ⟨_, rfl, exq, by simp [rightS, h1, h2, h3, eqv]⟩
    · have h2' : ¬ (1 : Int) ≤ (s.C.length : Int) := by omega
      go_enter Proofs.Try.func79, Proofs.Try.ntmps79
      go_wp2_with (fail)
      go_at_call 55
      refine (k1 _ exq).calls.mono ?_
      rintro e w1 ⟨_, rfl, hb1, rfl⟩
      have B0 : Box w1 w.heap.size #[.slice aw s.M.W.length cw, .slice ag s.M.G.length cg, .bool s.M.bad, .slice ac s.C.length cc, .slice al s.L.length cl] 83 := ((Box.new _ _ _).alloc _).ext hb1
      have B1 : Box w1 (w.heap.size + 1) #[.func (.func 131) #[] #[]] 161 := (Box.two _ _ _ _ _).ext hb1
      obtain ⟨p0, p1, p2, p3, p4, d0, d1, d2, d3, d4⟩ := cells5 B0
      obtain ⟨r0, q0⟩ := cells1 B1
      have z0 : w.heap.size < w1.heap.size := B0.lt
      have z1 : w.heap.size + 1 < w1.heap.size := B1.lt
      go_wp2
      go_ret
      exact ⟨_, rfl, exq, by simp [rightS, h1, h2, eqv]⟩

theorem near_ (n : Int) (w : World) : Gives Proofs.Try.prog 158 #[.int .i64 n] w (eqv (.bool (!farB n))) := by
  by_cases h1 : -2305843009213693952 ≤ n
  · by_cases h2 : n ≤ 2305843009213693952
    · go_enter Proofs.Try.func158, Proofs.Try.ntmps158
      go_wp2
      go_ret
      exact ⟨_, rfl, exq, by simp [farB, eqv]; omega⟩
    · go_enter Proofs.Try.func158, Proofs.Try.ntmps158
      go_wp2
      go_ret
      exact ⟨_, rfl, exq, by simp [farB, eqv]; omega⟩
  · go_enter Proofs.Try.func158, Proofs.Try.ntmps158
    go_wp2
    go_ret
    exact ⟨_, rfl, exq, by simp [farB, eqv]; omega⟩
theorem any3 {X : List Int} (h : X.length = 3) : X.any farB = (farB (gi X 0) || (farB (gi X 1) || farB (gi X 2))) := by
  match X, h with
  | [a, b, c], _ => simp [gi]
theorem any8 {R : List Int} (h : R.length = 8) (hn : ∀ k, k < 8 → farB (gi R k) = false) : R.any farB = false := by
  rw [List.any_eq_false]
  intro x hx
  obtain ⟨i, hi, rfl⟩ := List.getElem_of_mem hx
  rw [gi_eq, hn i (by omega)]; simp
theorem any8_yes {R : List Int} {k : Nat} (hk : k < R.length) (h : farB (gi R k) = true) : R.any farB = true := List.any_eq_true.2 ⟨R[k], List.getElem_mem hk, by rw [gi_eq]; exact h⟩
theorem anyF_no {α : Type} {p : α → Bool} {l : List α} (h : ∀ (i : Nat) x, i < l.length → l[i]? = some x → p x = false) : l.any p = false := by
  rw [List.any_eq_false]
  intro x hx
  obtain ⟨i, hi, rfl⟩ := List.getElem_of_mem hx
  rw [h i _ hi (List.getElem?_eq_getElem hi)]; simp
theorem anyF_yes {α : Type} {p : α → Bool} {l : List α} {i : Nat} {x : α} (hx : l[i]? = some x) (h : p x = true) : l.any p = true := List.any_eq_true.2 ⟨x, List.mem_of_getElem? hx, h⟩
theorem frameR {f : FrameD} {s : Value} {k : Nat} (hk : k < 8) : (frameCells f s)[2 + k]? = some (.int .i64 (gi f.R k)) := by
  match k, hk with
  | 0, _ => rfl
  | 1, _ => rfl
  | 2, _ => rfl
  | 3, _ => rfl
  | 4, _ => rfl
  | 5, _ => rfl
  | 6, _ => rfl
  | 7, _ => rfl
  | n + 8, h => omega
def farF (f : FrameD) : Bool := f.R.any farB
def farC (c : CoreD) : Bool := farB c.V || (c.X.any farB || c.F.any farF)
set_option maxHeartbeats 2000000 in
set_option maxRecDepth 100000 in
theorem refCore_ (N : Nat → Prop) (v : Value) (c : CoreD) (w : World) (h : IsCoreV N w v c) : Gives Proofs.Try.prog 128 #[v] w (eqv (.bool (!farC c))) := by
  obtain ⟨af, cf, ar, cr, rfl, h3, hf, hr⟩ := h.opened
  have e3 := any3 h3
  have kv := fun w' => near_ c.V w'
  have k0 := fun w' => near_ (gi c.X 0) w'
  have k1 := fun w' => near_ (gi c.X 1) w'
  have k2 := fun w' => near_ (gi c.X 2) w'
  cases v1 : farB c.V <;> rw [v1] at kv
  · skip
    cases x0 : farB (gi c.X 0) <;> rw [x0] at k0
    · skip
      cases x1 : farB (gi c.X 1) <;> rw [x1] at k1
      · skip
        cases x2 : farB (gi c.X 2) <;> rw [x2] at k2
        · have hX : c.X.any farB = false := by rw [e3, x0, x1, x2]; rfl
          have hla : c.F.length ≤ 9223372036854775807 := by obtain ⟨_, _, ee, u1, u2, _⟩ := hf; cases ee; omega
          have hd : (!farC c) = !c.F.any farF := by simp [farC, v1, hX]
          rw [hd]
          go_enter Proofs.Try.func128, Proofs.Try.ntmps128
          go_wp2_with (fail)
          go_at_call 158
          refine (kv _).calls.mono ?_
          rintro e w1 ⟨_, rfl, hb1, rfl⟩
          have C1 : Box w1 w.heap.size #[.slice af c.F.length cf, .int .i64 c.V, .int .i64 c.E, .int .i64 (gi c.X 0), .int .i64 (gi c.X 1), .int .i64 (gi c.X 2), .slice ar c.Ret.length cr] 116 := (Box.new _ _ _).ext hb1
          obtain ⟨p0, p1, p2, p3, p4, p5, p6, d0, d1, d2, d3, d4, d5, d6⟩ := cells7 C1
          have z1 : w.heap.size < w1.heap.size := C1.lt
          go_wp2_with (fail)
          go_at_call 158
          refine (k0 _).calls.mono ?_
          rintro e w2 ⟨_, rfl, hb2, rfl⟩
          have C2 : Box w2 w.heap.size #[.slice af c.F.length cf, .int .i64 c.V, .int .i64 c.E, .int .i64 (gi c.X 0), .int .i64 (gi c.X 1), .int .i64 (gi c.X 2), .slice ar c.Ret.length cr] 116 := C1.ext hb2
          obtain ⟨p0, p1, p2, p3, p4, p5, p6, d0, d1, d2, d3, d4, d5, d6⟩ := cells7 C2
          have z2 : w.heap.size < w2.heap.size := C2.lt
          go_wp2_with (fail)
          go_at_call 158
          refine (k1 _).calls.mono ?_
          rintro e w3 ⟨_, rfl, hb3, rfl⟩
          have C3 : Box w3 w.heap.size #[.slice af c.F.length cf, .int .i64 c.V, .int .i64 c.E, .int .i64 (gi c.X 0), .int .i64 (gi c.X 1), .int .i64 (gi c.X 2), .slice ar c.Ret.length cr] 116 := C2.ext hb3
          obtain ⟨p0, p1, p2, p3, p4, p5, p6, d0, d1, d2, d3, d4, d5, d6⟩ := cells7 C3
          have z3 : w.heap.size < w3.heap.size := C3.lt
          go_wp2_with (fail)
          go_at_call 158
          refine (k2 _).calls.mono ?_
          rintro e w4 ⟨_, rfl, hb4, rfl⟩
          have C4 : Box w4 w.heap.size #[.slice af c.F.length cf, .int .i64 c.V, .int .i64 c.E, .int .i64 (gi c.X 0), .int .i64 (gi c.X 1), .int .i64 (gi c.X 2), .slice ar c.Ret.length cr] 116 := C3.ext hb4
          obtain ⟨p0, p1, p2, p3, p4, p5, p6, d0, d1, d2, d3, d4, d5, d6⟩ := cells7 C4
          have z4 : w.heap.size < w4.heap.size := C4.lt
          go_wp2
          go_loopw [3] (fun kk wr => ∃ k : Nat, k ≤ c.F.length ∧ kk = .int .i64 k ∧ (∀ (i : Nat) x, i < k → c.F[i]? = some x → farF x = false) ∧ Ext w4 wr) (fun kk _ => c.F.length - (intOf kk).toNat)
          case atStart => exact ⟨0, Nat.zero_le _, rfl, fun i x hi => by omega, Ext.refl _⟩
          case round =>
            obtain ⟨k, hk, rfl, hall, hE0⟩ := hrel
            obtain ⟨wo, rfl, hE⟩ := Ext.pick hE0
            clear hE0
            have hEw : Ext w wo := (show Ext w w4 from exq).trans hE
            have D0 := C4.ext hE
            clear p0 p1 p2 p3 p4 p5 p6 d0 d1 d2 d3 d4 d5 d6
            obtain ⟨p0, p1, p2, p3, p4, p5, p6, d0, d1, d2, d3, d4, d5, d6⟩ := cells7 D0
            have y0 := D0.lt
            by_cases hlt : k < c.F.length
            · have hlt1 : (k : Int) < (c.F.length : Int) := by omega
              obtain ⟨f, hfk⟩ := getSome hlt
              obtain ⟨ba, oa, sv, rfl, xa, na, h8, hs8, ea⟩ := IsFrames.at hf hfk
              go_wp2
              go_loopw [4] (fun jj wq => ∃ j : Nat, j ≤ 8 ∧ jj = .int .i64 j ∧ (∀ i, i < j → farB (gi f.R i) = false) ∧ Ext wo wq) (fun jj _ => 8 - (intOf jj).toNat)
              case atStart => exact ⟨0, by omega, rfl, fun i hi => by omega, Ext.refl _⟩
              case round =>
                obtain ⟨j, hj, rfl, hallj, hQ0⟩ := hrel
                obtain ⟨wq, rfl, hQ⟩ := Ext.pick hQ0
                clear hQ0
                have E0 := D0.ext hQ
                clear p0 p1 p2 p3 p4 p5 p6 d0 d1 d2 d3 d4 d5 d6
                obtain ⟨p0, p1, p2, p3, p4, p5, p6, d0, d1, d2, d3, d4, d5, d6⟩ := cells7 E0
                have y1 := E0.lt
                have hQw : Ext w wq := hEw.trans hQ
                by_cases hj8 : j < 8
                · have hj1 : (j : Int) < 8 := by omega
                  have ec : wq.cell? ⟨ba, oa + k * 11 + 2 + j, none⟩ = some (.int .i64 (gi f.R j)) := by have := cell_ext (ea (2 + j) _ (frameR hj8)) hQw; rw [← Nat.add_assoc] at this; exact this
                  have kn := fun w' => near_ (gi f.R j) w'
                  cases hfj : farB (gi f.R j) <;> rw [hfj] at kn
                  · go_wp2_with (fail)
                    go_at_call 158
                    refine (kn _).calls.mono ?_
                    rintro e w5 ⟨_, rfl, hb5, rfl⟩
                    go_wp2
                    go_roundw
                    case rel => exact ⟨j + 1, by omega, by simp, fun i hi => (Nat.lt_succ_iff_lt_or_eq.1 hi).elim (hallj i) (fun h => h ▸ hfj), exq⟩
                    case measure => simp [intOf]; omega
                  · have hF : c.F.any farF = true := anyF_yes hfk (any8_yes (by omega) hfj)
                    go_wp2_with (fail)
                    go_at_call 158
                    refine (kn _).calls.mono ?_
                    rintro e w5 ⟨_, rfl, hb5, rfl⟩
                    have hE5 : Ext w w5 := hQw.trans hb5
                    go_wp2
                    go_ret
                    exact ⟨_, rfl, hE5, by first | rfl | (rw [hF]; rfl)⟩
                · have hj1 : ¬ (j : Int) < 8 := by omega
                  have hff : farF f = false := any8 h8 fun i hi => hallj i (by omega)
                  go_wp2
                  go_roundw
                  case rel => exact ⟨k + 1, by omega, by simp, fun i u hi hu => (Nat.lt_succ_iff_lt_or_eq.1 hi).elim (fun h => hall i u h hu) (fun h => by subst h; rw [hfk] at hu; cases hu; exact hff), hE.trans hQ⟩
                  case measure => simp [intOf]; omega
            · have hlt1 : ¬ (k : Int) < (c.F.length : Int) := by omega
              have hF : c.F.any farF = false := anyF_no fun i x hi => hall i x (by omega)
              go_wp2
              go_ret
              exact ⟨_, rfl, hEw, by first | rfl | (rw [hF]; rfl)⟩
        · have hd : (!farC c) = false := by simp [farC, e3, v1, x0, x1, x2]
          rw [hd]
          go_enter Proofs.Try.func128, Proofs.Try.ntmps128
          go_wp2_with (fail)
          go_at_call 158
          refine (kv _).calls.mono ?_
          rintro e w1 ⟨_, rfl, hb1, rfl⟩
          have C1 : Box w1 w.heap.size #[.slice af c.F.length cf, .int .i64 c.V, .int .i64 c.E, .int .i64 (gi c.X 0), .int .i64 (gi c.X 1), .int .i64 (gi c.X 2), .slice ar c.Ret.length cr] 116 := (Box.new _ _ _).ext hb1
          obtain ⟨p0, p1, p2, p3, p4, p5, p6, d0, d1, d2, d3, d4, d5, d6⟩ := cells7 C1
          have z1 : w.heap.size < w1.heap.size := C1.lt
          go_wp2_with (fail)
          go_at_call 158
          refine (k0 _).calls.mono ?_
          rintro e w2 ⟨_, rfl, hb2, rfl⟩
          have C2 : Box w2 w.heap.size #[.slice af c.F.length cf, .int .i64 c.V, .int .i64 c.E, .int .i64 (gi c.X 0), .int .i64 (gi c.X 1), .int .i64 (gi c.X 2), .slice ar c.Ret.length cr] 116 := C1.ext hb2
          obtain ⟨p0, p1, p2, p3, p4, p5, p6, d0, d1, d2, d3, d4, d5, d6⟩ := cells7 C2
          have z2 : w.heap.size < w2.heap.size := C2.lt
          go_wp2_with (fail)
          go_at_call 158
          refine (k1 _).calls.mono ?_
          rintro e w3 ⟨_, rfl, hb3, rfl⟩
          have C3 : Box w3 w.heap.size #[.slice af c.F.length cf, .int .i64 c.V, .int .i64 c.E, .int .i64 (gi c.X 0), .int .i64 (gi c.X 1), .int .i64 (gi c.X 2), .slice ar c.Ret.length cr] 116 := C2.ext hb3
          obtain ⟨p0, p1, p2, p3, p4, p5, p6, d0, d1, d2, d3, d4, d5, d6⟩ := cells7 C3
          have z3 : w.heap.size < w3.heap.size := C3.lt
          go_wp2_with (fail)
          go_at_call 158
          refine (k2 _).calls.mono ?_
          rintro e w4 ⟨_, rfl, hb4, rfl⟩
          have C4 : Box w4 w.heap.size #[.slice af c.F.length cf, .int .i64 c.V, .int .i64 c.E, .int .i64 (gi c.X 0), .int .i64 (gi c.X 1), .int .i64 (gi c.X 2), .slice ar c.Ret.length cr] 116 := C3.ext hb4
          obtain ⟨p0, p1, p2, p3, p4, p5, p6, d0, d1, d2, d3, d4, d5, d6⟩ := cells7 C4
          have z4 : w.heap.size < w4.heap.size := C4.lt
          go_wp2
          go_ret
          exact ⟨_, rfl, exq, rfl⟩
      · have hd : (!farC c) = false := by simp [farC, e3, v1, x0, x1]
        rw [hd]
        go_enter Proofs.Try.func128, Proofs.Try.ntmps128
        go_wp2_with (fail)
        go_at_call 158
        refine (kv _).calls.mono ?_
        rintro e w1 ⟨_, rfl, hb1, rfl⟩
        have C1 : Box w1 w.heap.size #[.slice af c.F.length cf, .int .i64 c.V, .int .i64 c.E, .int .i64 (gi c.X 0), .int .i64 (gi c.X 1), .int .i64 (gi c.X 2), .slice ar c.Ret.length cr] 116 := (Box.new _ _ _).ext hb1
        obtain ⟨p0, p1, p2, p3, p4, p5, p6, d0, d1, d2, d3, d4, d5, d6⟩ := cells7 C1
        have z1 : w.heap.size < w1.heap.size := C1.lt
        go_wp2_with (fail)
        go_at_call 158
        refine (k0 _).calls.mono ?_
        rintro e w2 ⟨_, rfl, hb2, rfl⟩
        have C2 : Box w2 w.heap.size #[.slice af c.F.length cf, .int .i64 c.V, .int .i64 c.E, .int .i64 (gi c.X 0), .int .i64 (gi c.X 1), .int .i64 (gi c.X 2), .slice ar c.Ret.length cr] 116 := C1.ext hb2
        obtain ⟨p0, p1, p2, p3, p4, p5, p6, d0, d1, d2, d3, d4, d5, d6⟩ := cells7 C2
        have z2 : w.heap.size < w2.heap.size := C2.lt
        go_wp2_with (fail)
        go_at_call 158
        refine (k1 _).calls.mono ?_
        rintro e w3 ⟨_, rfl, hb3, rfl⟩
        have C3 : Box w3 w.heap.size #[.slice af c.F.length cf, .int .i64 c.V, .int .i64 c.E, .int .i64 (gi c.X 0), .int .i64 (gi c.X 1), .int .i64 (gi c.X 2), .slice ar c.Ret.length cr] 116 := C2.ext hb3
        obtain ⟨p0, p1, p2, p3, p4, p5, p6, d0, d1, d2, d3, d4, d5, d6⟩ := cells7 C3
        have z3 : w.heap.size < w3.heap.size := C3.lt
        go_wp2
        go_ret
        exact ⟨_, rfl, exq, rfl⟩
    · have hd : (!farC c) = false := by simp [farC, e3, v1, x0]
      rw [hd]
      go_enter Proofs.Try.func128, Proofs.Try.ntmps128
      go_wp2_with (fail)
      go_at_call 158
      refine (kv _).calls.mono ?_
      rintro e w1 ⟨_, rfl, hb1, rfl⟩
      have C1 : Box w1 w.heap.size #[.slice af c.F.length cf, .int .i64 c.V, .int .i64 c.E, .int .i64 (gi c.X 0), .int .i64 (gi c.X 1), .int .i64 (gi c.X 2), .slice ar c.Ret.length cr] 116 := (Box.new _ _ _).ext hb1
      obtain ⟨p0, p1, p2, p3, p4, p5, p6, d0, d1, d2, d3, d4, d5, d6⟩ := cells7 C1
      have z1 : w.heap.size < w1.heap.size := C1.lt
      go_wp2_with (fail)
      go_at_call 158
      refine (k0 _).calls.mono ?_
      rintro e w2 ⟨_, rfl, hb2, rfl⟩
      have C2 : Box w2 w.heap.size #[.slice af c.F.length cf, .int .i64 c.V, .int .i64 c.E, .int .i64 (gi c.X 0), .int .i64 (gi c.X 1), .int .i64 (gi c.X 2), .slice ar c.Ret.length cr] 116 := C1.ext hb2
      obtain ⟨p0, p1, p2, p3, p4, p5, p6, d0, d1, d2, d3, d4, d5, d6⟩ := cells7 C2
      have z2 : w.heap.size < w2.heap.size := C2.lt
      go_wp2
      go_ret
      exact ⟨_, rfl, exq, rfl⟩
  · have hd : (!farC c) = false := by simp [farC, e3, v1]
    rw [hd]
    go_enter Proofs.Try.func128, Proofs.Try.ntmps128
    go_wp2_with (fail)
    go_at_call 158
    refine (kv _).calls.mono ?_
    rintro e w1 ⟨_, rfl, hb1, rfl⟩
    have C1 : Box w1 w.heap.size #[.slice af c.F.length cf, .int .i64 c.V, .int .i64 c.E, .int .i64 (gi c.X 0), .int .i64 (gi c.X 1), .int .i64 (gi c.X 2), .slice ar c.Ret.length cr] 116 := (Box.new _ _ _).ext hb1
    obtain ⟨p0, p1, p2, p3, p4, p5, p6, d0, d1, d2, d3, d4, d5, d6⟩ := cells7 C1
    have z1 : w.heap.size < w1.heap.size := C1.lt
    go_wp2
    go_ret
    exact ⟨_, rfl, exq, rfl⟩

theorem odd_no {c : CoreD} (h1 : ¬ 40 < c.F.length) (h2 : ¬ 200 < c.Ret.length) (h3 : farC c = false) (h4 : ∀ (i : Nat) f, i < c.F.length → c.F[i]? = some f → ¬ 24 < f.S.length) : oddC c = false := by
  unfold farC at h3
  simp only [Bool.or_eq_false_iff] at h3
  obtain ⟨h5, h6, h7⟩ := h3
  have h8 : c.F.any longF = false := anyF_no fun i f hi hf => by
    have h9 : farF f = false := by
      rw [List.any_eq_false] at h7
      have := h7 f (List.mem_of_getElem? hf)
      simpa using this
    have h10 := h4 i f hi hf
    unfold longF farF at *
    rw [h9]; simp; omega
  unfold oddC
  rw [h5, h6, h8]; simp; omega
theorem odd_far {c : CoreD} (h : farC c = true) : oddC c = true := by
  unfold farC at h; unfold oddC
  simp only [Bool.or_eq_true] at h ⊢
  rcases h with h | h | h
  · exact .inr (.inr (.inl h))
  · exact .inr (.inr (.inr (.inl h)))
  · refine .inr (.inr (.inr (.inr ?_)))
    obtain ⟨f, hf, hr⟩ := List.any_eq_true.1 h
    exact List.any_eq_true.2 ⟨f, hf, by unfold longF farF at *; rw [hr]; simp⟩
theorem odd_long {c : CoreD} {i : Nat} {f : FrameD} (hf : c.F[i]? = some f) (h : 24 < f.S.length) : oddC c = true := by
  have : c.F.any longF = true := anyF_yes hf (by simp [longF, h])
  unfold oddC; rw [this]; simp
def bigC (c : CoreD) : Bool := decide (45 < c.F.length) || (decide (210 < c.Ret.length) || c.F.any fun f => decide (30 < f.S.length))
theorem big_no {c : CoreD} (h1 : ¬ 45 < c.F.length) (h2 : ¬ 210 < c.Ret.length) (h4 : ∀ (i : Nat) f, i < c.F.length → c.F[i]? = some f → ¬ 30 < f.S.length) : bigC c = false := by
  have h8 : (c.F.any fun f => decide (30 < f.S.length)) = false := anyF_no fun i f hi hf => by simp; have := h4 i f hi hf; omega
  unfold bigC; rw [h8]; simp; omega
theorem big_long {c : CoreD} {i : Nat} {f : FrameD} (hf : c.F[i]? = some f) (h : 30 < f.S.length) : bigC c = true := by
  have : (c.F.any fun f => decide (30 < f.S.length)) = true := anyF_yes hf (by simp [h])
  unfold bigC; rw [this]; simp
def smallS (s : SysD) (n : Nat) : Bool := smallD s.M n && (decide (s.C.length ≤ 9) && (decide (s.L.length ≤ 200) && !s.C.any bigC))
def mayS (s : SysD) (n : Nat) : Bool := smallS s n && rightS s
set_option maxHeartbeats 2000000 in
set_option maxRecDepth 100000 in
theorem refRightS_ (N : Nat → Prop) (v : Value) (s : SysD) (w : World) (h : IsSys N w v s) : Gives Proofs.Try.prog 77 #[v] w (eqv (.bool (rightS s))) := by
  obtain ⟨aw, cw, ag, cg, ac, cc, al, cl, rfl, hw, hg, hc, hl⟩ := h.opened
  have k1 := fun w' (e : Ext w w') => refMemRight_ N _ s.M w' ((IsMem.mk rfl hw hg : IsMem N w _ s.M).ext e)
  have hla : s.C.length ≤ 9223372036854775807 := by obtain ⟨_, _, ee, u1, u2, _⟩ := hc; cases ee; omega
  cases h1 : rightD s.M
  · rw [h1] at k1
    go_enter Proofs.Try.func77, Proofs.Try.ntmps77
    go_wp2_with (fail)
    go_at_call 53
    refine (k1 _ exq).calls.mono ?_
    rintro e w1 ⟨_, rfl, hb1, rfl⟩
    have B0 : Box w1 w.heap.size #[.slice aw s.M.W.length cw, .slice ag s.M.G.length cg, .bool s.M.bad, .slice ac s.C.length cc, .slice al s.L.length cl] 83 := (Box.new _ _ _).ext hb1
    obtain ⟨p0, p1, p2, p3, p4, d0, d1, d2, d3, d4⟩ := cells5 B0
    have z0 : w.heap.size < w1.heap.size := B0.lt
    go_wp2
    go_ret
    exact ⟨_, rfl, exq, by simp [rightS, h1, eqv]⟩
  · rw [h1] at k1
    by_cases h2 : 1 ≤ s.C.length
    · have h2' : ¬ (s.C.length : Int) < 1 := by omega
      have hne : ¬ s.C = [] := fun e => by rw [e] at h2; simp at h2
      by_cases h3c : s.C.length ≤ 8
      · have h3' : ¬ (8 : Int) < (s.C.length : Int) := by omega
        have hd : (rightS s) = !s.C.any oddC := by simp [rightS, h1, h2, h3c]
        rw [hd]
        go_enter Proofs.Try.func77, Proofs.Try.ntmps77
        go_wp2_with (fail)
        go_at_call 53
        refine (k1 _ exq).calls.mono ?_
        rintro e w1 ⟨_, rfl, hb1, rfl⟩
        have B0 : Box w1 w.heap.size #[.slice aw s.M.W.length cw, .slice ag s.M.G.length cg, .bool s.M.bad, .slice ac s.C.length cc, .slice al s.L.length cl] 83 := (Box.new _ _ _).ext hb1
        obtain ⟨p0, p1, p2, p3, p4, d0, d1, d2, d3, d4⟩ := cells5 B0
        have z0 : w.heap.size < w1.heap.size := B0.lt
        go_wp2
        go_loopw [4] (fun kk wr => ∃ k : Nat, k ≤ s.C.length ∧ kk = .int .i64 k ∧ (∀ (i : Nat) x, i < k → s.C[i]? = some x → oddC x = false) ∧ Ext w1 wr) (fun kk _ => s.C.length - (intOf kk).toNat)
        case atStart => exact ⟨0, Nat.zero_le _, rfl, fun i x hi => by omega, Ext.refl _⟩
        case round =>
          obtain ⟨k, hk, rfl, hall, hE0⟩ := hrel
          obtain ⟨wo, rfl, hE⟩ := Ext.pick hE0
          clear hE0
          have hEw : Ext w wo := (show Ext w w1 from exq).trans hE
          have C0 := B0.ext hE
          clear p0 p1 p2 p3 p4 d0 d1 d2 d3 d4
          obtain ⟨p0, p1, p2, p3, p4, d0, d1, d2, d3, d4⟩ := cells5 C0
          have y0 := C0.lt
          by_cases hlt : k < s.C.length
          · have hlt1 : (k : Int) < (s.C.length : Int) := by omega
            obtain ⟨c, hck⟩ := getSome hlt
            obtain ⟨bc, oc, af, cf, ar, cr, rfl, xc, nc, h3, hf, hr, e0, e1, e2, e3, e4, e5, e6⟩ := IsCores.at hc hck
            have hfl : c.F.length ≤ 9223372036854775807 := by obtain ⟨_, _, ee, u1, u2, _⟩ := hf; cases ee; omega
            have a0 := cell_ext e0 hEw
            have a1 := cell_ext e1 hEw
            have a2 := cell_ext e2 hEw
            have a3 := cell_ext e3 hEw
            have a4 := cell_ext e4 hEw
            have a5 := cell_ext e5 hEw
            have a6 := cell_ext e6 hEw
            have kc := fun w' (e : Ext w w') => refCore_ N _ c w' ((core_of h3 hf hr).ext e)
            cases hfar : farC c <;> rw [hfar] at kc
            · go_wp2_with (fail)
              go_at_call 128
              refine (kc _ hEw).calls.mono ?_
              rintro e w2 ⟨_, rfl, hb2, rfl⟩
              have hE2 : Ext w w2 := hEw.trans hb2
              have D0 := C0.ext hb2
              clear p0 p1 p2 p3 p4 d0 d1 d2 d3 d4 a0 a1 a2 a3 a4 a5 a6
              obtain ⟨p0, p1, p2, p3, p4, d0, d1, d2, d3, d4⟩ := cells5 D0
              have y1 := D0.lt
              have a0 := cell_ext e0 hE2
              have a1 := cell_ext e1 hE2
              have a2 := cell_ext e2 hE2
              have a3 := cell_ext e3 hE2
              have a4 := cell_ext e4 hE2
              have a5 := cell_ext e5 hE2
              have a6 := cell_ext e6 hE2
              by_cases g1 : 40 < c.F.length
              · have g1' : (40 : Int) < (c.F.length : Int) := by omega
                have hb : s.C.any oddC = true := anyF_yes hck (by simp [oddC, g1])
                go_wp2
                go_ret
                exact ⟨_, rfl, hE2, by first | rfl | (rw [hb]; rfl)⟩
              · have g1' : ¬ (40 : Int) < (c.F.length : Int) := by omega
                by_cases g2 : 200 < c.Ret.length
                · have g2' : (200 : Int) < (c.Ret.length : Int) := by omega
                  have hb : s.C.any oddC = true := anyF_yes hck (by simp [oddC, g2])
                  go_wp2
                  go_ret
                  exact ⟨_, rfl, hE2, by first | rfl | (rw [hb]; rfl)⟩
                · have g2' : ¬ (200 : Int) < (c.Ret.length : Int) := by omega
                  go_wp2
                  go_loopw [6] (fun jj wq => ∃ j : Nat, j ≤ c.F.length ∧ jj = .int .i64 j ∧ (∀ (i : Nat) f, i < j → c.F[i]? = some f → ¬ 24 < f.S.length) ∧ Ext w2 wq) (fun jj _ => c.F.length - (intOf jj).toNat)
                  case atStart => exact ⟨0, Nat.zero_le _, rfl, fun i f hi => by omega, Ext.refl _⟩
                  case round =>
                    obtain ⟨j, hj, rfl, hallj, hQ0⟩ := hrel
                    obtain ⟨wq, rfl, hQ⟩ := Ext.pick hQ0
                    clear hQ0
                    have E0 := D0.ext hQ
                    clear p0 p1 p2 p3 p4 d0 d1 d2 d3 d4 a0 a1 a2 a3 a4 a5 a6
                    obtain ⟨p0, p1, p2, p3, p4, d0, d1, d2, d3, d4⟩ := cells5 E0
                    have y9 := E0.lt
                    have hQw : Ext w wq := hE2.trans hQ
                    have a0 := cell_ext e0 hQw
                    by_cases hj8 : j < c.F.length
                    · have hj1 : (j : Int) < (c.F.length : Int) := by omega
                      obtain ⟨f, hfj⟩ := getSome hj8
                      obtain ⟨ba, oa, xs, xc, rfl, xa, na, h8, hs8, f0, f1, f2, f3, f4, f5, f6, f7, f8, f9, f10⟩ := IsFrames.cells hf hfj
                      have b10 := cell_ext f10 hQw
                      by_cases g3 : 24 < f.S.length
                      · have g3' : (24 : Int) < (f.S.length : Int) := by omega
                        have hb : s.C.any oddC = true := anyF_yes hck (odd_long hfj g3)
                        go_wp2
                        go_ret
                        exact ⟨_, rfl, hQw, by first | rfl | (rw [hb]; rfl)⟩
                      · have g3' : ¬ (24 : Int) < (f.S.length : Int) := by omega
                        go_wp2
                        go_roundw
                        case rel => exact ⟨j + 1, by omega, by simp, fun i u hi hu => (Nat.lt_succ_iff_lt_or_eq.1 hi).elim (fun h => hallj i u h hu) (fun h => by subst h; rw [hfj] at hu; cases hu; exact g3), hQ⟩
                        case measure => simp [intOf]; omega
                    · have hj1 : ¬ (j : Int) < (c.F.length : Int) := by omega
                      have hok : oddC c = false := odd_no g1 g2 hfar fun i f hi => hallj i f (by omega)
                      go_wp2
                      go_roundw
                      case rel => exact ⟨k + 1, by omega, by simp, fun i u hi hu => (Nat.lt_succ_iff_lt_or_eq.1 hi).elim (fun h => hall i u h hu) (fun h => by subst h; rw [hck] at hu; cases hu; exact hok), (hE.trans hb2).trans hQ⟩
                      case measure => simp [intOf]; omega
            · go_wp2_with (fail)
              go_at_call 128
              refine (kc _ hEw).calls.mono ?_
              rintro e w2 ⟨_, rfl, hb2, rfl⟩
              have hE2 : Ext w w2 := hEw.trans hb2
              have hb : s.C.any oddC = true := anyF_yes hck (odd_far hfar)
              go_wp2
              go_ret
              exact ⟨_, rfl, hE2, by first | rfl | (rw [hb]; rfl)⟩
          · have hlt1 : ¬ (k : Int) < (s.C.length : Int) := by omega
            have hb : s.C.any oddC = false := anyF_no fun i x hi => hall i x (by omega)
            go_wp2
            go_ret
            exact ⟨_, rfl, hEw, by first | rfl | (rw [hb]; rfl)⟩
      · have h3' : (8 : Int) < (s.C.length : Int) := by omega
        go_enter Proofs.Try.func77, Proofs.Try.ntmps77
        go_wp2_with (fail)
        go_at_call 53
        refine (k1 _ exq).calls.mono ?_
        rintro e w1 ⟨_, rfl, hb1, rfl⟩
        have B0 : Box w1 w.heap.size #[.slice aw s.M.W.length cw, .slice ag s.M.G.length cg, .bool s.M.bad, .slice ac s.C.length cc, .slice al s.L.length cl] 83 := (Box.new _ _ _).ext hb1
        obtain ⟨p0, p1, p2, p3, p4, d0, d1, d2, d3, d4⟩ := cells5 B0
        have z0 : w.heap.size < w1.heap.size := B0.lt
        go_wp2
        go_ret
        exact ⟨_, rfl, exq, by simp [rightS, h1, h2, h3c, eqv]⟩
    · have h2' : (s.C.length : Int) < 1 := by omega
      go_enter Proofs.Try.func77, Proofs.Try.ntmps77
      go_wp2_with (fail)
      go_at_call 53
      refine (k1 _ exq).calls.mono ?_
      rintro e w1 ⟨_, rfl, hb1, rfl⟩
      have B0 : Box w1 w.heap.size #[.slice aw s.M.W.length cw, .slice ag s.M.G.length cg, .bool s.M.bad, .slice ac s.C.length cc, .slice al s.L.length cl] 83 := (Box.new _ _ _).ext hb1
      obtain ⟨p0, p1, p2, p3, p4, d0, d1, d2, d3, d4⟩ := cells5 B0
      have z0 : w.heap.size < w1.heap.size := B0.lt
      go_wp2
      go_ret
      exact ⟨_, rfl, exq, by simp [rightS, h1, h2, eqv]⟩
set_option maxHeartbeats 2000000 in
set_option maxRecDepth 100000 in
theorem refSmall_ (N : Nat → Prop) (v : Value) (s : SysD) (n : Nat) (hn : n ≤ 1000000) (w : World) (h : IsSys N w v s) : Gives Proofs.Try.prog 74 #[v, .int .i64 n] w (eqv (.bool (smallS s n))) := by
  obtain ⟨aw, cw, ag, cg, ac, cc, al, cl, rfl, hw, hg, hc, hl⟩ := h.opened
  have k1 := fun w' (e : Ext w w') => memSmall_ N _ s.M n hn w' ((IsMem.mk rfl hw hg : IsMem N w _ s.M).ext e)
  have hla : s.C.length ≤ 9223372036854775807 := by obtain ⟨_, _, ee, u1, u2, _⟩ := hc; cases ee; omega
  cases h1 : smallD s.M n
  · rw [h1] at k1
    go_enter Proofs.Try.func74, Proofs.Try.ntmps74
    go_wp2_with (fail)
    go_at_call 50
    refine (k1 _ exq).calls.mono ?_
    rintro e w1 ⟨_, rfl, hb1, rfl⟩
    have B0 : Box w1 w.heap.size #[.slice aw s.M.W.length cw, .slice ag s.M.G.length cg, .bool s.M.bad, .slice ac s.C.length cc, .slice al s.L.length cl] 83 := (Box.new _ _ _).ext hb1
    obtain ⟨p0, p1, p2, p3, p4, d0, d1, d2, d3, d4⟩ := cells5 B0
    have z0 : w.heap.size < w1.heap.size := B0.lt
    go_wp2
    go_ret
    exact ⟨_, rfl, exq, by simp [smallS, h1, eqv]⟩
  · rw [h1] at k1
    by_cases h2 : s.C.length ≤ 9
    · have h2' : ¬ (9 : Int) < (s.C.length : Int) := by omega
      by_cases h3c : s.L.length ≤ 200
      · have h3' : ¬ (200 : Int) < (s.L.length : Int) := by omega
        have hd : (smallS s n) = !s.C.any bigC := by simp [smallS, h1, h2, h3c]
        rw [hd]
        go_enter Proofs.Try.func74, Proofs.Try.ntmps74
        go_wp2_with (fail)
        go_at_call 50
        refine (k1 _ exq).calls.mono ?_
        rintro e w1 ⟨_, rfl, hb1, rfl⟩
        have B0 : Box w1 w.heap.size #[.slice aw s.M.W.length cw, .slice ag s.M.G.length cg, .bool s.M.bad, .slice ac s.C.length cc, .slice al s.L.length cl] 83 := (Box.new _ _ _).ext hb1
        obtain ⟨p0, p1, p2, p3, p4, d0, d1, d2, d3, d4⟩ := cells5 B0
        have z0 : w.heap.size < w1.heap.size := B0.lt
        go_wp2
        go_loopw [6] (fun kk wr => ∃ k : Nat, k ≤ s.C.length ∧ kk = .int .i64 k ∧ (∀ (i : Nat) x, i < k → s.C[i]? = some x → bigC x = false) ∧ Ext w1 wr) (fun kk _ => s.C.length - (intOf kk).toNat)
        case atStart => exact ⟨0, Nat.zero_le _, rfl, fun i x hi => by omega, Ext.refl _⟩
        case round =>
          obtain ⟨k, hk, rfl, hall, hE0⟩ := hrel
          obtain ⟨wo, rfl, hE⟩ := Ext.pick hE0
          clear hE0
          have hEw : Ext w wo := (show Ext w w1 from exq).trans hE
          have C0 := B0.ext hE
          clear p0 p1 p2 p3 p4 d0 d1 d2 d3 d4
          obtain ⟨p0, p1, p2, p3, p4, d0, d1, d2, d3, d4⟩ := cells5 C0
          have y0 := C0.lt
          by_cases hlt : k < s.C.length
          · have hlt1 : (k : Int) < (s.C.length : Int) := by omega
            obtain ⟨c, hck⟩ := getSome hlt
            obtain ⟨bc, oc, af, cf, ar, cr, rfl, xc, nc, h3, hf, hr, e0, e1, e2, e3, e4, e5, e6⟩ := IsCores.at hc hck
            have hfl : c.F.length ≤ 9223372036854775807 := by obtain ⟨_, _, ee, u1, u2, _⟩ := hf; cases ee; omega
            have a0 := cell_ext e0 hEw
            have a1 := cell_ext e1 hEw
            have a2 := cell_ext e2 hEw
            have a3 := cell_ext e3 hEw
            have a4 := cell_ext e4 hEw
            have a5 := cell_ext e5 hEw
            have a6 := cell_ext e6 hEw
            by_cases g1 : 45 < c.F.length
            · have g1' : (45 : Int) < (c.F.length : Int) := by omega
              have hb : s.C.any bigC = true := anyF_yes hck (by simp [bigC, g1])
              go_wp2
              go_ret
              exact ⟨_, rfl, hEw, by first | rfl | (rw [hb]; rfl)⟩
            · have g1' : ¬ (45 : Int) < (c.F.length : Int) := by omega
              by_cases g2 : 210 < c.Ret.length
              · have g2' : (210 : Int) < (c.Ret.length : Int) := by omega
                have hb : s.C.any bigC = true := anyF_yes hck (by simp [bigC, g2])
                go_wp2
                go_ret
                exact ⟨_, rfl, hEw, by first | rfl | (rw [hb]; rfl)⟩
              · have g2' : ¬ (210 : Int) < (c.Ret.length : Int) := by omega
                go_wp2
                go_loopw [7] (fun jj wq => ∃ j : Nat, j ≤ c.F.length ∧ jj = .int .i64 j ∧ (∀ (i : Nat) f, i < j → c.F[i]? = some f → ¬ 30 < f.S.length) ∧ Ext wo wq) (fun jj _ => c.F.length - (intOf jj).toNat)
                case atStart => exact ⟨0, Nat.zero_le _, rfl, fun i f hi => by omega, Ext.refl _⟩
                case round =>
                  obtain ⟨j, hj, rfl, hallj, hQ0⟩ := hrel
                  obtain ⟨wq, rfl, hQ⟩ := Ext.pick hQ0
                  clear hQ0
                  have E0 := C0.ext hQ
                  clear p0 p1 p2 p3 p4 d0 d1 d2 d3 d4 a0 a1 a2 a3 a4 a5 a6
                  obtain ⟨p0, p1, p2, p3, p4, d0, d1, d2, d3, d4⟩ := cells5 E0
                  have y9 := E0.lt
                  have hQw : Ext w wq := hEw.trans hQ
                  have a0 := cell_ext e0 hQw
                  by_cases hj8 : j < c.F.length
                  · have hj1 : (j : Int) < (c.F.length : Int) := by omega
                    obtain ⟨f, hfj⟩ := getSome hj8
                    obtain ⟨ba, oa, xs, xc, rfl, xa, na, h8, hs8, f0, f1, f2, f3, f4, f5, f6, f7, f8, f9, f10⟩ := IsFrames.cells hf hfj
                    have b10 := cell_ext f10 hQw
                    by_cases g3 : 30 < f.S.length
                    · have g3' : (30 : Int) < (f.S.length : Int) := by omega
                      have hb : s.C.any bigC = true := anyF_yes hck (big_long hfj g3)
                      go_wp2
                      go_ret
                      exact ⟨_, rfl, hQw, by first | rfl | (rw [hb]; rfl)⟩
                    · have g3' : ¬ (30 : Int) < (f.S.length : Int) := by omega
                      go_wp2
                      go_roundw
                      case rel => exact ⟨j + 1, by omega, by simp, fun i u hi hu => (Nat.lt_succ_iff_lt_or_eq.1 hi).elim (fun h => hallj i u h hu) (fun h => by subst h; rw [hfj] at hu; cases hu; exact g3), hQ⟩
                      case measure => simp [intOf]; omega
                  · have hj1 : ¬ (j : Int) < (c.F.length : Int) := by omega
                    have hok : bigC c = false := big_no g1 g2 fun i f hi => hallj i f (by omega)
                    go_wp2
                    go_roundw
                    case rel => exact ⟨k + 1, by omega, by simp, fun i u hi hu => (Nat.lt_succ_iff_lt_or_eq.1 hi).elim (fun h => hall i u h hu) (fun h => by subst h; rw [hck] at hu; cases hu; exact hok), hE.trans hQ⟩
                    case measure => simp [intOf]; omega
          · have hlt1 : ¬ (k : Int) < (s.C.length : Int) := by omega
            have hb : s.C.any bigC = false := anyF_no fun i x hi => hall i x (by omega)
            go_wp2
            go_ret
            exact ⟨_, rfl, hEw, by first | rfl | (rw [hb]; rfl)⟩
      · have h3' : (200 : Int) < (s.L.length : Int) := by omega
        go_enter Proofs.Try.func74, Proofs.Try.ntmps74
        go_wp2_with (fail)
        go_at_call 50
        refine (k1 _ exq).calls.mono ?_
        rintro e w1 ⟨_, rfl, hb1, rfl⟩
        have B0 : Box w1 w.heap.size #[.slice aw s.M.W.length cw, .slice ag s.M.G.length cg, .bool s.M.bad, .slice ac s.C.length cc, .slice al s.L.length cl] 83 := (Box.new _ _ _).ext hb1
        obtain ⟨p0, p1, p2, p3, p4, d0, d1, d2, d3, d4⟩ := cells5 B0
        have z0 : w.heap.size < w1.heap.size := B0.lt
        go_wp2
        go_ret
        exact ⟨_, rfl, exq, by simp [smallS, h1, h2, h3c, eqv]⟩
    · have h2' : (9 : Int) < (s.C.length : Int) := by omega
      go_enter Proofs.Try.func74, Proofs.Try.ntmps74
      go_wp2_with (fail)
      go_at_call 50
      refine (k1 _ exq).calls.mono ?_
      rintro e w1 ⟨_, rfl, hb1, rfl⟩
      have B0 : Box w1 w.heap.size #[.slice aw s.M.W.length cw, .slice ag s.M.G.length cg, .bool s.M.bad, .slice ac s.C.length cc, .slice al s.L.length cl] 83 := (Box.new _ _ _).ext hb1
      obtain ⟨p0, p1, p2, p3, p4, d0, d1, d2, d3, d4⟩ := cells5 B0
      have z0 : w.heap.size < w1.heap.size := B0.lt
      go_wp2
      go_ret
      exact ⟨_, rfl, exq, by simp [smallS, h1, h2, eqv]⟩
set_option maxHeartbeats 1000000 in
set_option maxRecDepth 100000 in
theorem refMay_ (N : Nat → Prop) (v : Value) (s : SysD) (n : Nat) (hn : n ≤ 1000000) (w : World) (h : IsSys N w v s) : Gives Proofs.Try.prog 83 #[v, .int .i64 n] w (eqv (.bool (mayS s n))) := by
  have k1 := fun w' (e : Ext w w') => refSmall_ N v s n hn w' (h.ext e)
  have k2 := fun w' (e : Ext w w') => refRightS_ N v s w' (h.ext e)
  obtain ⟨aw, cw, ag, cg, ac, cc, al, cl, rfl, hw, hg, hc, hl⟩ := h.opened
  cases h1 : smallS s n <;> rw [h1] at k1
  · go_enter Proofs.Try.func83, Proofs.Try.ntmps83
    go_wp2_with (fail)
    go_at_call 74
    refine (k1 _ exq).calls.mono ?_
    rintro e w1 ⟨_, rfl, hb1, rfl⟩
    go_wp2
    go_ret
    exact ⟨_, rfl, exq, by simp [mayS, h1, eqv]⟩
  · have hd : mayS s n = rightS s := by simp [mayS, h1]
    rw [hd]
    go_enter Proofs.Try.func83, Proofs.Try.ntmps83
    go_wp2_with (fail)
    go_at_call 74
    refine (k1 _ exq).calls.mono ?_
    rintro e w1 ⟨_, rfl, hb1, rfl⟩
    have B0 : Box w1 w.heap.size #[.slice aw s.M.W.length cw, .slice ag s.M.G.length cg, .bool s.M.bad, .slice ac s.C.length cc, .slice al s.L.length cl] 83 := (Box.new _ _ _).ext hb1
    obtain ⟨p0, p1, p2, p3, p4, d0, d1, d2, d3, d4⟩ := cells5 B0
    have z0 : w.heap.size < w1.heap.size := B0.lt
    go_wp2_with (fail)
    go_at_call 77
    refine (k2 _ exq).calls.mono ?_
    rintro e w2 ⟨_, rfl, hb2, rfl⟩
    go_wp2
    go_ret
    exact ⟨_, rfl, exq, rfl⟩

theorem divmod {i sz j : Nat} (hj : j < sz) : (i * sz + j) / sz = i ∧ (i * sz + j) % sz = j := by
  constructor
  · rw [Nat.mul_comm, Nat.mul_add_div (by omega), Nat.div_eq_of_lt hj]; omega
  · rw [Nat.mul_comm, Nat.mul_add_mod, Nat.mod_eq_of_lt hj]
/-- a slice's cells in one row -/
theorem IsSl.flat {α : Type} {sz : Nat} {R : World → α → List Value → Prop} {N : Nat → Prop} {w : World} {v : Value} {l : List α} (hsz : 0 < sz) (h : IsSl sz R N w v l) :
    ∃ cs : List Value, cs.length = l.length * sz ∧ (∀ i x, l[i]? = some x → ∃ r, r.length = sz ∧ (∀ j c, r[j]? = some c → cs[i * sz + j]? = some c) ∧ R w x r) ∧
      (∀ c ∈ cs, ∃ (i : Nat) (x : α) (r : List Value), l[i]? = some x ∧ R w x r ∧ c ∈ r) ∧
      ∃ a cap, v = .slice a l.length cap ∧ l.length ≤ cap ∧ cap ≤ 9223372036854775807 ∧ (a = none → cap = 0) ∧ ∀ b, a = some b → ∀ q c, cs[q]? = some c → w.cell? (b.add q) = some c := by
  obtain ⟨a, cap, rfl, h1, h2, h3, h4⟩ := h
  have h5 : ∀ i : Nat, ∃ r : List Value, ∀ x, l[i]? = some x → r.length = sz ∧ R w x r ∧ ∀ b, a = some b → ∀ j c, r[j]? = some c → w.cell? (b.add (i * sz + j)) = some c := fun i => by
    cases hx : l[i]? with
    | none => exact ⟨[], fun x e => by cases e⟩
    | some x =>
      obtain ⟨b, off, cs, e, hb, hn, hl, hc, hr⟩ := h4 i x hx
      refine ⟨cs, fun y e' => ?_⟩
      cases e'
      refine ⟨hl, hr, fun b' e'' j c hj => ?_⟩
      rw [e] at e''; cases e''
      have hadd : (⟨b, off, none⟩ : Addr).add (i * sz + j) = ⟨b, off + i * sz + j, none⟩ := by unfold Addr.add; split <;> simp_all <;> omega
      rw [hadd]; exact hc j c hj
  have h6 := Classical.choice (show Nonempty (∀ i : Nat, { r : List Value // ∀ x, l[i]? = some x → r.length = sz ∧ R w x r ∧ ∀ b, a = some b → ∀ j c, r[j]? = some c → w.cell? (b.add (i * sz + j)) = some c }) from ⟨fun i => ⟨Classical.choose (h5 i), Classical.choose_spec (h5 i)⟩⟩)
  have hg : ∀ q, q < l.length * sz → ((List.range (l.length * sz)).map fun q => ((h6 (q / sz)).1)[q % sz]?.getD undef)[q]? = some (((h6 (q / sz)).1)[q % sz]?.getD undef) := fun q hq => by rw [List.getElem?_map, List.getElem?_range hq]; rfl
  have hrow : ∀ q, q < l.length * sz → q / sz < l.length := fun q hq => Nat.div_lt_of_lt_mul (by rw [Nat.mul_comm]; exact hq)
  have hat : ∀ q c, ((List.range (l.length * sz)).map fun q => ((h6 (q / sz)).1)[q % sz]?.getD undef)[q]? = some c → q < l.length * sz ∧ ∃ x, l[q / sz]? = some x ∧ ((h6 (q / sz)).1)[q % sz]? = some c := fun q c hc => by
    have hq : q < l.length * sz := by
      rcases Nat.lt_or_ge q (l.length * sz) with hq | hq
      · exact hq
      · rw [List.getElem?_eq_none (by simpa using hq)] at hc; cases hc
    rw [hg q hq] at hc
    obtain ⟨x, hx⟩ := getSome (hrow q hq)
    have h7 := (h6 (q / sz)).2 x hx
    have hm : q % sz < (h6 (q / sz)).1.length := by rw [h7.1]; exact Nat.mod_lt _ hsz
    rw [List.getElem?_eq_getElem hm] at hc ⊢
    exact ⟨hq, x, hx, by simpa using hc⟩
  refine ⟨(List.range (l.length * sz)).map fun q => ((h6 (q / sz)).1)[q % sz]?.getD undef, by simp, fun i x hi => ⟨(h6 i).1, ((h6 i).2 x hi).1, fun j c hj => ?_, ((h6 i).2 x hi).2.1⟩, fun c hc => ?_, a, cap, rfl, h1, h2, h3, fun b e q c hc => ?_⟩
  · have hjl : j < sz := by
      rw [← ((h6 i).2 x hi).1]
      rcases Nat.lt_or_ge j (h6 i).1.length with hq | hq
      · exact hq
      · rw [List.getElem?_eq_none hq] at hj; cases hj
    have hil : i < l.length := by
      rcases Nat.lt_or_ge i l.length with hq | hq
      · exact hq
      · rw [List.getElem?_eq_none hq] at hi; cases hi
    have hq : i * sz + j < l.length * sz := Nat.lt_of_lt_of_le (show i * sz + j < (i + 1) * sz by rw [Nat.succ_mul]; omega) (Nat.mul_le_mul_right _ hil)
    rw [hg _ hq, (divmod hjl).1, (divmod hjl).2, hj]; rfl
  · obtain ⟨q, hq, rfl⟩ := List.getElem_of_mem hc
    obtain ⟨_, x, hx, hr⟩ := hat q _ (List.getElem?_eq_getElem hq)
    exact ⟨q / sz, x, (h6 (q / sz)).1, hx, ((h6 (q / sz)).2 x hx).2.1, List.mem_of_getElem? hr⟩
  · obtain ⟨_, x, hx, hr⟩ := hat q c hc
    have := ((h6 (q / sz)).2 x hx).2.2 b e _ c hr
    rw [Nat.mul_comm, Nat.div_add_mod] at this
    exact this
theorem IsSl.of_box {α : Type} {sz : Nat} {R : World → α → List Value → Prop} {N : Nat → Prop} {w : World} {b cap : Nat} {cs : Array Value} {t : TypeId} {l : List α} (hB : Box w b cs t) (hn : ¬ N b) (hcap : l.length ≤ cap) (hm : cap ≤ 9223372036854775807)
    (hr : ∀ i x, l[i]? = some x → ∃ r, r.length = sz ∧ (∀ j c, r[j]? = some c → cs[i * sz + j]? = some c) ∧ R w x r) : IsSl sz R N w (.slice (some ⟨b, 0, none⟩) l.length cap) l :=
  ⟨_, _, rfl, hcap, hm, fun e => (by cases e), fun i x hi => by
    obtain ⟨r, h1, h2, h3⟩ := hr i x hi
    exact ⟨b, 0, r, rfl, hB.lt, hn, h1, fun j c hj => by rw [Nat.zero_add]; exact hB.cell (by rw [nth_eq]; simpa using h2 j c hj), h3⟩⟩
theorem splice_get : ∀ (vs : List Value) (c : Array Value) (o k : Nat), o + vs.length ≤ c.size → (splice c o vs)[k]? = if o ≤ k ∧ k < o + vs.length then vs[k - o]? else c[k]?
  | [], c, o, k, _ => by rw [if_neg (by simp <;> omega)]; rfl
  | v :: r, c, o, k, h => by
    show (splice (c.setIfInBounds o v) (o + 1) r)[k]? = _
    simp at h
    rw [splice_get r _ _ _ (by simp; omega)]
    by_cases h1 : k = o
    · subst h1
      rw [if_neg (by omega), if_pos (by simp)]
      simp [show k < c.size by omega]
    · by_cases h2 : o + 1 ≤ k ∧ k < o + 1 + r.length
      · rw [if_pos h2, if_pos (by simp; omega)]
        obtain ⟨m, rfl⟩ : ∃ m, k = o + 1 + m := ⟨k - (o + 1), by omega⟩
        rw [show o + 1 + m - o = m + 1 by omega, show o + 1 + m - (o + 1) = m by omega]; simp
      · rw [if_neg h2, if_neg (by simp; omega)]
        simp [Array.getElem?_setIfInBounds, Ne.symm h1]
theorem Box.setCells {b : Nat} {t : TypeId} : ∀ (vs : List Value) (c : Array Value) (o : Nat) (w : World), Box w b c t → Box (w.setCells b o vs) b (splice c o vs) t
  | [], _, _, _, h => h
  | v :: r, c, o, w, h => Box.setCells r _ _ _ (h.setCell v)
theorem splice_full {vs : List Value} {c : Array Value} (h : vs.length = c.size) : splice c 0 vs = vs.toArray := by
  apply Array.ext_getElem?
  intro k
  rw [splice_get _ _ _ _ (by omega)]
  split
  · simp
  · rename_i h1
    rw [Array.getElem?_eq_none (by omega), List.getElem?_toArray, List.getElem?_eq_none (by omega)]
theorem run_copy_rows {P : Program} {w : World} (dT ty elem : TypeId) {sz b n cap sCap : Nat} {t : TypeId} {c : Array Value} {a : Addr} {cs : List Value} (hu : P.underlying dT = some (.slice elem)) (hs : (P.info? elem).map (·.size) = some sz) (hB : Box w b c t)
    (hl : cs.length = n * sz) (hc : c.size = n * sz) (hsrc : ∀ j v, cs[j]? = some v → w.cell? (a.add j) = some v) (h1 : ∀ v ∈ cs, v.oneCell' = true) :
    (Builtin.copy_ #[dT, dT] ty #[.slice (some ⟨b, 0, none⟩) n cap, .slice (some a) n sCap]).run P w = .ok (goInt n) (w.setCells b 0 cs) := by
  have hld := run_loadCells_list (P := P) w a cs hsrc
  have hcell : ∀ j, j < cs.length → (w.cell? ⟨b, 0 + 0 + j, none⟩).isSome = true := fun j hj => by
    simp only [Nat.zero_add]
    rw [hB.cell (c := c[j]'(by omega)) (by rw [nth_eq]; simp)]; rfl
  have hst := run_storeCells_cells (P := P) b 0 cs 0 w hcell (fun j hj => by simp only [Nat.zero_add]; exact hB.frozen) h1
  cases hq : P.info? elem with
  | none => simp [hq] at hs
  | some i =>
    have hi : i.size = sz := by simpa [hq] using hs
    have hmin : Nat.min n n = n := Nat.min_self n
    simp [Builtin.copy_, run_underlying hu, Builtin.lenOf, Builtin.firstCells, sizeOf, typeInfo, hq, hi, ← hl, hld, hst, hmin]

def core0 : CoreD := ⟨[], 0, 0, [0, 0, 0], []⟩
def zeroC : Value := .agg #[.slice none 0 0, .int .i64 0, .int .i64 0, .int .i64 0, .int .i64 0, .int .i64 0, .slice none 0 0]
def zeros80 (n : Nat) : Array Value := madeCells #[.slice none 0 0, .int .i64 0, .int .i64 0, .int .i64 0, .int .i64 0, .int .i64 0, .slice none 0 0] (n * 7)
theorem run_mk80 (n : Nat) (h : n ≤ 100000) (w : World) : (Instr.makeSlice 80 (.int .i64 n) (.int .i64 n)).run Proofs.Try.prog w = .ok (.slice (some ⟨w.heap.size, 0, none⟩) n n) (w.alloc (.cells (zeros80 n) 116)) := by
  cases hi : Proofs.Try.prog.info? 116 with
  | none => exact absurd (show (Proofs.Try.prog.info? 116).isSome = true by kernel_rfl) (by rw [hi]; simp)
  | some i =>
    have hz : i.zero = some zeroC := by
      have : (Proofs.Try.prog.info? 116).bind (·.zero) = some zeroC := by kernel_rfl
      rw [hi] at this; exact this
    have hs : i.size = 7 := by
      have : (Proofs.Try.prog.info? 116).map (·.size) = some 7 := by kernel_rfl
      rw [hi] at this; simpa using this
    have hb : i.bytes ≤ 1000 := by
      have : (Proofs.Try.prog.info? 116).map (fun i => decide (i.bytes ≤ 1000)) = some true := by kernel_rfl
      rw [hi] at this; simpa using this
    have hbn : (i.bytes : Int) * n ≤ 281474976710656 := by
      have h1 : i.bytes * n ≤ 100000000 := Nat.mul_le_mul hb h
      have h2 := Int.ofNat_le.2 h1
      rw [Int.natCast_mul] at h2
      exact Int.le_trans h2 (by decide)
    have := run_make (P := Proofs.Try.prog) w 80 116 i _ Proofs.Try.underlying80 hi hz .i64 .i64 n n (by omega) (Int.le_refl _) hbn (by omega)
    rw [hs] at this
    simpa [zeros80, zeroC, Value.cells] using this
theorem zeros80_get {n i j : Nat} (hi : i < n) (hj : j < 7) : (zeros80 n)[i * 7 + j]? = (#[.slice none 0 0, .int .i64 0, .int .i64 0, .int .i64 0, .int .i64 0, .int .i64 0, .slice none 0 0] : Array Value)[j]? := by
  have hq : i * 7 + j < n * 7 := by omega
  unfold zeros80 madeCells
  rw [Array.getElem?_map, Array.getElem?_range]
  have hm : (i * 7 + j) % 7 = j := by omega
  simp only [hq, if_true, Option.map_some]
  match j, hj with
  | 0, _ => simp [show (i * 7 + 0) % 7 = 0 by omega]
  | 1, _ => simp [show (i * 7 + 1) % 7 = 1 by omega]
  | 2, _ => simp [show (i * 7 + 2) % 7 = 2 by omega]
  | 3, _ => simp [show (i * 7 + 3) % 7 = 3 by omega]
  | 4, _ => simp [show (i * 7 + 4) % 7 = 4 by omega]
  | 5, _ => simp [show (i * 7 + 5) % 7 = 5 by omega]
  | 6, _ => simp [show (i * 7 + 6) % 7 = 6 by omega]
theorem core0_cells {N : Nat → Prop} {w : World} : RC N w core0 [.slice none 0 0, .int .i64 0, .int .i64 0, .int .i64 0, .int .i64 0, .int .i64 0, .slice none 0 0] :=
  ⟨rfl, _, _, rfl, ⟨none, 0, rfl, by simp [core0], by omega, fun _ => rfl, fun i x hi => by simp [core0] at hi⟩, ⟨none, 0, rfl, by simp [core0], by omega, fun _ => rfl, fun i hi => by simp [core0] at hi⟩⟩
theorem cores_made {N : Nat → Prop} {w : World} {b n : Nat} (hB : Box w b (zeros80 n) 116) (hn : ¬ N b) (hm : n ≤ 100000) : IsCores N w (.slice (some ⟨b, 0, none⟩) n n) (List.replicate n core0) := by
  have := IsSl.of_box (sz := 7) (R := RC N) (N := N) (cap := n) (l := List.replicate n core0) hB hn (by simp) (by omega) (fun i x hi => by
    have hx : x = core0 := by have := List.mem_of_getElem? hi; exact (List.mem_replicate.1 this).2
    have hin : i < n := by
      rcases Nat.lt_or_ge i n with h | h
      · exact h
      · rw [List.getElem?_eq_none (by simpa using h)] at hi; cases hi
    subst hx
    refine ⟨_, rfl, fun j c hj => ?_, core0_cells⟩
    have hj7 : j < 7 := by
      rcases Nat.lt_or_ge j 7 with h | h
      · exact h
      · rw [List.getElem?_eq_none (by simpa using h)] at hj; cases hj
    rw [zeros80_get hin hj7]
    simpa using hj)
  simpa using this
def newIs (c n : Int) : Bool := decide (1 ≤ n ∧ n ≤ 200) && decide (1 ≤ c ∧ c ≤ 8)
def newS (c n : Int) : SysD := if newIs c n then ⟨newD n, List.replicate c.toNat core0, []⟩ else ⟨⟨[], [], false⟩, [], []⟩
def newSE (c n : Int) : Int := if newIs c n then 0 else 1
def isCoreRow (B n : Nat) : GP := fun v w => ∃ b, v = .slice (some ⟨b, 0, none⟩) n n ∧ B ≤ b ∧ Box w b (zeros80 n) 116
theorem stable_isCoreRow (B n : Nat) : Stable (isCoreRow B n) := fun _ _ _ ⟨b, h1, h2, h3⟩ hx => ⟨b, h1, h2, h3.ext hx⟩
theorem yes_make80 {o : Oper} {a : Act} {w : World} {x y : Operand} {n B : Nat} (ho : o.op = .makeSlice 80 x y) (hx : a.eval x = .int .i64 n) (hy : a.eval y = .int .i64 n) (h : n ≤ 100000) (hd : o.dst.isSome = true) (hB : B ≤ w.heap.size) :
    Yes Proofs.Try.prog o a w (isCoreRow B n) := by
  refine yes_val (v := .slice (some ⟨w.heap.size, 0, none⟩) n n) (w' := w.alloc (.cells (zeros80 n) 116)) ?_ (Ext.alloc _ _) ⟨_, rfl, hB, Box.new _ _ _⟩ hd
  have := run_mk80 n h w
  simp [execOp, ho, hx, hy, this]
theorem empty_sys (N : Nat → Prop) (w : World) : IsSys N w (.agg #[.slice none 0 0, .slice none 0 0, .bool false, .slice none 0 0, .slice none 0 0]) ⟨⟨[], [], false⟩, [], []⟩ :=
  IsSys.mk rfl ⟨none, 0, rfl, by simp, by omega, fun _ => rfl, fun i hi => by simp at hi⟩ ⟨none, 0, rfl, by simp, by omega, fun _ => rfl, fun i hi => by simp at hi⟩ ⟨none, 0, rfl, by simp, by omega, fun _ => rfl, fun i x hi => by simp at hi⟩ ⟨none, 0, rfl, by simp, by omega, fun _ => rfl, fun i x hi => by simp at hi⟩
def sysRow (B n : Nat) (m : Arena) (pw pg : Option Addr) (px py : Nat) : GP := fun v w => ∃ b, v = .agg #[.slice pw m.W.length px, .slice pg m.G.length py, .bool m.bad, .slice (some ⟨b, 0, none⟩) n n, .slice none 0 0] ∧ B ≤ b ∧ Box w b (zeros80 n) 116
theorem stable_sysRow (B n : Nat) (m : Arena) (pw pg : Option Addr) (px py : Nat) : Stable (sysRow B n m pw pg px py) := fun _ _ _ ⟨b, h1, h2, h3⟩ hx => ⟨b, h1, h2, h3.ext hx⟩
set_option maxHeartbeats 2000000 in
set_option maxRecDepth 100000 in
theorem sysNew_ (N : Nat → Prop) (c n : Int) (w : World) (hN : ∀ b, N b → b < w.heap.size) : Gives Proofs.Try.prog 75 #[.int .i64 c, .int .i64 n] w (fun r w' => ∃ u, r = .tuple #[u, .int .i64 (newSE c n)] ∧ IsSys N w' u (newS c n)) := by
  obtain ⟨mn, hmn⟩ : ∃ mn, newD n = mn := ⟨_, rfl⟩
  have HM := Lib.hid hmn
  have kn := fun (w' : World) (e : Ext w w') => memNew_ (Bx N w.heap.size w'.heap.size) n w' (Bx.lt hN e)
  rw [hmn] at kn
  clear hmn
  by_cases h1 : 1 ≤ n ∧ n ≤ 200
  · have he : newE n = 0 := by unfold newE; rw [if_pos h1]
    by_cases h2 : c < 1
    · have hi : newIs c n = false := by simp [newIs]; omega
      have hs : newS c n = ⟨⟨[], [], false⟩, [], []⟩ := by simp [newS, hi]
      have hse : newSE c n = 1 := by simp [newSE, hi]
      rw [hs, hse]
      go_enter Proofs.Try.func75, Proofs.Try.ntmps75
      go_wp2_with (fail)
      go_at_call 51
      refine (kn _ exq).calls.mono ?_
      rintro e w1 ⟨_, rfl, hb1, u, rfl, hu⟩
      rw [show (w.alloc (.cells #[.slice none 0 0, .slice none 0 0, .bool false, .slice none 0 0, .slice none 0 0] 83)).heap.size = w.heap.size + 1 by simp] at hu
      obtain ⟨pw, px, pg, py, rfl, hw, hg⟩ := hu.opened
      rw [he]
      have B0 : Box w1 w.heap.size #[.slice none 0 0, .slice none 0 0, .bool false, .slice none 0 0, .slice none 0 0] 83 := (Box.new _ _ _).ext hb1
      obtain ⟨p0, p1, p2, p3, p4, d0, d1, d2, d3, d4⟩ := cells5 B0
      have z0 : w.heap.size < w1.heap.size := B0.lt
      have hE1 : Ext w w1 := exq
      go_wp2
      refine bodyPost_ret (ret_cell_tmp ((((((B0.setCell _).setCell _).setCell _).setCell _).setCell _).alloc _) Proofs.Try.results75 rfl Proofs.Try.underlying83 rfl (by kernel_rfl)) rfl ⟨_, rfl, exq, _, rfl, ?_⟩
      exact empty_sys N _
    · by_cases h3 : 8 < c
      · have hi : newIs c n = false := by simp [newIs]; omega
        have hs : newS c n = ⟨⟨[], [], false⟩, [], []⟩ := by simp [newS, hi]
        have hse : newSE c n = 1 := by simp [newSE, hi]
        rw [hs, hse]
        go_enter Proofs.Try.func75, Proofs.Try.ntmps75
        go_wp2_with (fail)
        go_at_call 51
        refine (kn _ exq).calls.mono ?_
        rintro e w1 ⟨_, rfl, hb1, u, rfl, hu⟩
        rw [show (w.alloc (.cells #[.slice none 0 0, .slice none 0 0, .bool false, .slice none 0 0, .slice none 0 0] 83)).heap.size = w.heap.size + 1 by simp] at hu
        obtain ⟨pw, px, pg, py, rfl, hw, hg⟩ := hu.opened
        rw [he]
        have B0 : Box w1 w.heap.size #[.slice none 0 0, .slice none 0 0, .bool false, .slice none 0 0, .slice none 0 0] 83 := (Box.new _ _ _).ext hb1
        obtain ⟨p0, p1, p2, p3, p4, d0, d1, d2, d3, d4⟩ := cells5 B0
        have z0 : w.heap.size < w1.heap.size := B0.lt
        have hE1 : Ext w w1 := exq
        go_wp2
        refine bodyPost_ret (ret_cell_tmp ((((((B0.setCell _).setCell _).setCell _).setCell _).setCell _).alloc _) Proofs.Try.results75 rfl Proofs.Try.underlying83 rfl (by kernel_rfl)) rfl ⟨_, rfl, exq, _, rfl, ?_⟩
        exact empty_sys N _
      · obtain ⟨k, rfl⟩ : ∃ k : Nat, c = k := ⟨c.toNat, by omega⟩
        have hi : newIs k n = true := by simp [newIs]; omega
        have hs : newS k n = ⟨mn, List.replicate k core0, []⟩ := by simp [newS, hi, HM.out]
        have hse : newSE k n = 0 := by simp [newSE, hi]
        rw [hs, hse]
        go_enter Proofs.Try.func75, Proofs.Try.ntmps75
        go_wp2_with (fail)
        go_at_call 51
        refine (kn _ exq).calls.mono ?_
        rintro e w1 ⟨_, rfl, hb1, u, rfl, hu⟩
        rw [show (w.alloc (.cells #[.slice none 0 0, .slice none 0 0, .bool false, .slice none 0 0, .slice none 0 0] 83)).heap.size = w.heap.size + 1 by simp] at hu
        obtain ⟨pw, px, pg, py, rfl, hw, hg⟩ := hu.opened
        rw [he]
        have B0 : Box w1 w.heap.size #[.slice none 0 0, .slice none 0 0, .bool false, .slice none 0 0, .slice none 0 0] 83 := (Box.new _ _ _).ext hb1
        obtain ⟨p0, p1, p2, p3, p4, d0, d1, d2, d3, d4⟩ := cells5 B0
        have z0 : w.heap.size < w1.heap.size := B0.lt
        have hE1 : Ext w w1 := exq
        go_wp2_with (fail)
        obtain ⟨W, hW⟩ : ∃ W, W = w1.alloc (.cells #[.slice pw mn.W.length px, .slice pg mn.G.length py, .bool mn.bad] 50 (0, 0)) := ⟨_, rfl⟩
        have hEW : Ext w1 W := by rw [hW]; exact exq
        have D0 := B0.alloc (.cells #[.slice pw mn.W.length px, .slice pg mn.G.length py, .bool mn.bad] 50 (0, 0))
        have D1 := Box.new w1 #[.slice pw mn.W.length px, .slice pg mn.G.length py, .bool mn.bad] 50
        rw [← hW] at D0 D1
        rw [← hW]
        clear hW
        have hsz : w1.heap.size ≤ W.heap.size := hEW.size
        apply region_lit2 (T := [4]) (L := [5]) (X := [w.heap.size]) (G := [eqv _, eqv _, isCoreRow W.heap.size k, sysRow W.heap.size k mn pw pg px py, anyG, eqv _])
        case hm => kernel_rfl
        case hop =>
          refine ⟨?_, ?_, ?_, ?_, ?_, ?_, trivial⟩
          · intro a wa hs hf hd
            have t6 := hf.off 6 (by kernel_rfl) rfl
            exact plain_ rfl (yes_eqv (o_load3 rfl Proofs.Try.underlying50 rfl (by kernel_rfl) t6 ((D1.since hs rfl).cell rfl) ((D1.since hs rfl).cell rfl) ((D1.since hs rfl).cell rfl)) rfl)
          · intro a wa hs hf hd
            have t0 := hf.off 0 (by kernel_rfl) rfl
            exact plain_ rfl (yes_eqv (o_move rfl t0) rfl)
          · intro a wa hs hf hd
            have t25 : a.eval (.tmp 25) = _ := hd.at 1 25 (by kernel_rfl)
            exact plain_ rfl (yes_make80 rfl t25 t25 (by omega) rfl hs.size)
          · intro a wa hs hf hd
            have t24 : a.eval (.tmp 24) = _ := hd.at 0 24 (by kernel_rfl)
            have t26 := hd.at 2 26 (by kernel_rfl)
            obtain ⟨bk, hv, hk, hB⟩ := t26
            exact plain_ rfl (yes_val (runs_ok (o_build (cells := #[.slice pw mn.W.length px, .slice pg mn.G.length py, .bool mn.bad, .slice (some ⟨bk, 0, none⟩) k k, .slice none 0 0]) rfl (by simp only [List.map_toArray, List.map_cons, List.map_nil, t24, hv]; first | done | rfl) rfl)) (Ext.refl _) ⟨bk, rfl, hk, hB⟩ rfl)
          · intro a wb wa hs1 hs hf hd hrun
            have t4 := hf.off 4 (by kernel_rfl) rfl
            have t27 := hd.at 3 27 (by kernel_rfl)
            subst hrun; obtain ⟨bk, hv, hk, hB⟩ := t27; exact ⟨_, o_store rfl t4 hv (D0.since hs1 rfl) (by kernel_rfl) (by simp [Value.cells, Value.oneCell']) (by simp [Value.cells]) rfl, Since.put hs (.inr (by simp))⟩
          · intro a wb wa hs1 hs hf hd
            exact plain_ rfl (late_eqv (o_assign rfl rfl) rfl)
        case hG => exact ⟨stable_eqv _, stable_eqv _, stable_isCoreRow _ _, stable_sysRow _ _ _ _ _ _ _, stable_any, stable_eqv _, trivial⟩
        case hc => kernel_rfl
        case hfin =>
          intro w5 hs5
          rintro _ rfl _ rfl _ ⟨bq, rfl, hq, hBq⟩ _ ⟨bk, rfl, hk, hB⟩ _ rfl
          rintro w6 ⟨o, w7, ho7, hr7, rfl⟩
          cases ho7
          simp only [Act.put, List.setIfInBounds_toArray, List.set_cons_zero, List.set_cons_succ] at hr7 ⊢
          cases (hr7.symm.trans (o_store (v := .agg #[.slice pw mn.W.length px, .slice pg mn.G.length py, .bool mn.bad, .slice (some ⟨bk, 0, none⟩) k k, .slice none 0 0]) (new := #[.slice pw mn.W.length px, .slice pg mn.G.length py, .bool mn.bad, .slice (some ⟨bk, 0, none⟩) k k, .slice none 0 0]) rfl rfl rfl (D0.since hs5 rfl) (by kernel_rfl) (by simp [Value.cells, Value.oneCell']) (by simp [Value.cells]) (by kernel_rfl)))
          go_wp2
          have hE5 : Ext w w5 := hE1.trans (hEW.trans (Since.to_ext hs5))
          have hE6 : Ext w (put w5 w.heap.size (.cells #[.slice pw mn.W.length px, .slice pg mn.G.length py, .bool mn.bad, .slice (some ⟨bk, 0, none⟩) k k, .slice none 0 0] 83 (0, 0))) := Since.to_ext ((Since.of_ext hE5).put (.inl (Nat.le_refl _)))
          have hK : Keep (Lo (w.heap.size + 1)) w5 (put w5 w.heap.size (.cells #[.slice pw mn.W.length px, .slice pg mn.G.length py, .bool mn.bad, .slice (some ⟨bk, 0, none⟩) k k, .slice none 0 0] 83 (0, 0))) := (Keep.refl _ _).put _ _ (.inr (by show _ < _; omega))
          have hBk : Box (put w5 w.heap.size (.cells #[.slice pw mn.W.length px, .slice pg mn.G.length py, .bool mn.bad, .slice (some ⟨bk, 0, none⟩) k k, .slice none 0 0] 83 (0, 0))) bk (zeros80 k) 116 := hB.keep hK (by show ¬ _ < _; omega)
          have hx : Keep (Bx N w.heap.size (w.heap.size + 1)) w1 (put w5 w.heap.size (.cells #[.slice pw mn.W.length px, .slice pg mn.G.length py, .bool mn.bad, .slice (some ⟨bk, 0, none⟩) k k, .slice none 0 0] 83 (0, 0))) := ((Keep.refl _ _).ext (hEW.trans (Since.to_ext hs5))).put _ _ (.inr (Bx.mem (by omega) (by omega)))
          refine bodyPost_ret (ret_cell_tmp (D0.since hs5 rfl).put Proofs.Try.results75 rfl Proofs.Try.underlying83 rfl (by kernel_rfl)) rfl ⟨_, rfl, hE6, _, rfl, IsSys.mk rfl ?_ ?_ (cores_made hBk (fun hx => absurd (hN _ hx) (by omega)) (by omega)) ⟨none, 0, rfl, by simp, by omega, fun _ => rfl, fun i x hi => by simp at hi⟩⟩
          · exact (hw.keep hx).back
          · exact (hg.keep hx).back
  · have he : newE n = 1 := by unfold newE; rw [if_neg h1]
    have hi : newIs c n = false := by simp [newIs]; omega
    have hs : newS c n = ⟨⟨[], [], false⟩, [], []⟩ := by simp [newS, hi]
    have hse : newSE c n = 1 := by simp [newSE, hi]
    rw [hs, hse]
    go_enter Proofs.Try.func75, Proofs.Try.ntmps75
    go_wp2_with (fail)
    go_at_call 51
    refine (kn _ exq).calls.mono ?_
    rintro e w1 ⟨_, rfl, hb1, u, rfl, hu⟩
    rw [show (w.alloc (.cells #[.slice none 0 0, .slice none 0 0, .bool false, .slice none 0 0, .slice none 0 0] 83)).heap.size = w.heap.size + 1 by simp] at hu
    obtain ⟨pw, px, pg, py, rfl, hw, hg⟩ := hu.opened
    rw [he]
    have B0 : Box w1 w.heap.size #[.slice none 0 0, .slice none 0 0, .bool false, .slice none 0 0, .slice none 0 0] 83 := (Box.new _ _ _).ext hb1
    obtain ⟨p0, p1, p2, p3, p4, d0, d1, d2, d3, d4⟩ := cells5 B0
    have z0 : w.heap.size < w1.heap.size := B0.lt
    have hE1 : Ext w w1 := exq
    go_wp2
    refine bodyPost_ret (ret_cell_tmp ((((((B0.setCell _).setCell _).setCell _).setCell _).setCell _).alloc _) Proofs.Try.results75 rfl Proofs.Try.underlying83 rfl (by kernel_rfl)) rfl ⟨_, rfl, exq, _, rfl, ?_⟩
    exact empty_sys N _
set_option maxHeartbeats 2000000 in
set_option maxRecDepth 100000 in
theorem refNewS_ (N : Nat → Prop) (c n : Int) (w : World) (hN : ∀ b, N b → b < w.heap.size) : Gives Proofs.Try.prog 76 #[.int .i64 c, .int .i64 n] w (fun r w' => ∃ u, r = .tuple #[u, .int .i64 (newSE c n)] ∧ IsSys N w' u (newS c n)) := by
  obtain ⟨mn, hmn⟩ : ∃ mn, newD n = mn := ⟨_, rfl⟩
  have HM := Lib.hid hmn
  have kn := fun (w' : World) (e : Ext w w') => refNew_ (Bx N w.heap.size w'.heap.size) n w' (Bx.lt hN e)
  rw [hmn] at kn
  clear hmn
  by_cases h1 : 1 ≤ n ∧ n ≤ 200
  · have he : newE n = 0 := by unfold newE; rw [if_pos h1]
    by_cases h2 : c < 1
    · have hi : newIs c n = false := by simp [newIs]; omega
      have hs : newS c n = ⟨⟨[], [], false⟩, [], []⟩ := by simp [newS, hi]
      have hse : newSE c n = 1 := by simp [newSE, hi]
      rw [hs, hse]
      go_enter Proofs.Try.func76, Proofs.Try.ntmps76
      go_wp2_with (fail)
      go_at_call 52
      refine (kn _ exq).calls.mono ?_
      rintro e w1 ⟨_, rfl, hb1, u, rfl, hu⟩
      rw [show (w.alloc (.cells #[.slice none 0 0, .slice none 0 0, .bool false, .slice none 0 0, .slice none 0 0] 83)).heap.size = w.heap.size + 1 by simp] at hu
      obtain ⟨pw, px, pg, py, rfl, hw, hg⟩ := hu.opened
      rw [he]
      have B0 : Box w1 w.heap.size #[.slice none 0 0, .slice none 0 0, .bool false, .slice none 0 0, .slice none 0 0] 83 := (Box.new _ _ _).ext hb1
      obtain ⟨p0, p1, p2, p3, p4, d0, d1, d2, d3, d4⟩ := cells5 B0
      have z0 : w.heap.size < w1.heap.size := B0.lt
      have hE1 : Ext w w1 := exq
      go_wp2
      refine bodyPost_ret (ret_cell_tmp ((((((B0.setCell _).setCell _).setCell _).setCell _).setCell _).alloc _) Proofs.Try.results76 rfl Proofs.Try.underlying83 rfl (by kernel_rfl)) rfl ⟨_, rfl, exq, _, rfl, ?_⟩
      exact empty_sys N _
    · by_cases h3 : 8 < c
      · have hi : newIs c n = false := by simp [newIs]; omega
        have hs : newS c n = ⟨⟨[], [], false⟩, [], []⟩ := by simp [newS, hi]
        have hse : newSE c n = 1 := by simp [newSE, hi]
        rw [hs, hse]
        go_enter Proofs.Try.func76, Proofs.Try.ntmps76
        go_wp2_with (fail)
        go_at_call 52
        refine (kn _ exq).calls.mono ?_
        rintro e w1 ⟨_, rfl, hb1, u, rfl, hu⟩
        rw [show (w.alloc (.cells #[.slice none 0 0, .slice none 0 0, .bool false, .slice none 0 0, .slice none 0 0] 83)).heap.size = w.heap.size + 1 by simp] at hu
        obtain ⟨pw, px, pg, py, rfl, hw, hg⟩ := hu.opened
        rw [he]
        have B0 : Box w1 w.heap.size #[.slice none 0 0, .slice none 0 0, .bool false, .slice none 0 0, .slice none 0 0] 83 := (Box.new _ _ _).ext hb1
        obtain ⟨p0, p1, p2, p3, p4, d0, d1, d2, d3, d4⟩ := cells5 B0
        have z0 : w.heap.size < w1.heap.size := B0.lt
        have hE1 : Ext w w1 := exq
        go_wp2
        refine bodyPost_ret (ret_cell_tmp ((((((B0.setCell _).setCell _).setCell _).setCell _).setCell _).alloc _) Proofs.Try.results76 rfl Proofs.Try.underlying83 rfl (by kernel_rfl)) rfl ⟨_, rfl, exq, _, rfl, ?_⟩
        exact empty_sys N _
      · obtain ⟨k, rfl⟩ : ∃ k : Nat, c = k := ⟨c.toNat, by omega⟩
        have hi : newIs k n = true := by simp [newIs]; omega
        have hs : newS k n = ⟨mn, List.replicate k core0, []⟩ := by simp [newS, hi, HM.out]
        have hse : newSE k n = 0 := by simp [newSE, hi]
        rw [hs, hse]
        go_enter Proofs.Try.func76, Proofs.Try.ntmps76
        go_wp2_with (fail)
        go_at_call 52
        refine (kn _ exq).calls.mono ?_
        rintro e w1 ⟨_, rfl, hb1, u, rfl, hu⟩
        rw [show (w.alloc (.cells #[.slice none 0 0, .slice none 0 0, .bool false, .slice none 0 0, .slice none 0 0] 83)).heap.size = w.heap.size + 1 by simp] at hu
        obtain ⟨pw, px, pg, py, rfl, hw, hg⟩ := hu.opened
        rw [he]
        have B0 : Box w1 w.heap.size #[.slice none 0 0, .slice none 0 0, .bool false, .slice none 0 0, .slice none 0 0] 83 := (Box.new _ _ _).ext hb1
        obtain ⟨p0, p1, p2, p3, p4, d0, d1, d2, d3, d4⟩ := cells5 B0
        have z0 : w.heap.size < w1.heap.size := B0.lt
        have hE1 : Ext w w1 := exq
        go_wp2_with (fail)
        obtain ⟨W, hW⟩ : ∃ W, W = w1.alloc (.cells #[.slice pw mn.W.length px, .slice pg mn.G.length py, .bool mn.bad] 50 (0, 0)) := ⟨_, rfl⟩
        have hEW : Ext w1 W := by rw [hW]; exact exq
        have D0 := B0.alloc (.cells #[.slice pw mn.W.length px, .slice pg mn.G.length py, .bool mn.bad] 50 (0, 0))
        have D1 := Box.new w1 #[.slice pw mn.W.length px, .slice pg mn.G.length py, .bool mn.bad] 50
        rw [← hW] at D0 D1
        rw [← hW]
        clear hW
        have hsz : w1.heap.size ≤ W.heap.size := hEW.size
        apply region_lit2 (T := [4]) (L := [5]) (X := [w.heap.size]) (G := [eqv _, eqv _, isCoreRow W.heap.size k, sysRow W.heap.size k mn pw pg px py, anyG, eqv _])
        case hm => kernel_rfl
        case hop =>
          refine ⟨?_, ?_, ?_, ?_, ?_, ?_, trivial⟩
          · intro a wa hs hf hd
            have t6 := hf.off 6 (by kernel_rfl) rfl
            exact plain_ rfl (yes_eqv (o_load3 rfl Proofs.Try.underlying50 rfl (by kernel_rfl) t6 ((D1.since hs rfl).cell rfl) ((D1.since hs rfl).cell rfl) ((D1.since hs rfl).cell rfl)) rfl)
          · intro a wa hs hf hd
            have t0 := hf.off 0 (by kernel_rfl) rfl
            exact plain_ rfl (yes_eqv (o_move rfl t0) rfl)
          · intro a wa hs hf hd
            have t25 : a.eval (.tmp 25) = _ := hd.at 1 25 (by kernel_rfl)
            exact plain_ rfl (yes_make80 rfl t25 t25 (by omega) rfl hs.size)
          · intro a wa hs hf hd
            have t24 : a.eval (.tmp 24) = _ := hd.at 0 24 (by kernel_rfl)
            have t26 := hd.at 2 26 (by kernel_rfl)
            obtain ⟨bk, hv, hk, hB⟩ := t26
            exact plain_ rfl (yes_val (runs_ok (o_build (cells := #[.slice pw mn.W.length px, .slice pg mn.G.length py, .bool mn.bad, .slice (some ⟨bk, 0, none⟩) k k, .slice none 0 0]) rfl (by simp only [List.map_toArray, List.map_cons, List.map_nil, t24, hv]; first | done | rfl) rfl)) (Ext.refl _) ⟨bk, rfl, hk, hB⟩ rfl)
          · intro a wb wa hs1 hs hf hd hrun
            have t4 := hf.off 4 (by kernel_rfl) rfl
            have t27 := hd.at 3 27 (by kernel_rfl)
            subst hrun; obtain ⟨bk, hv, hk, hB⟩ := t27; exact ⟨_, o_store rfl t4 hv (D0.since hs1 rfl) (by kernel_rfl) (by simp [Value.cells, Value.oneCell']) (by simp [Value.cells]) rfl, Since.put hs (.inr (by simp))⟩
          · intro a wb wa hs1 hs hf hd
            exact plain_ rfl (late_eqv (o_assign rfl rfl) rfl)
        case hG => exact ⟨stable_eqv _, stable_eqv _, stable_isCoreRow _ _, stable_sysRow _ _ _ _ _ _ _, stable_any, stable_eqv _, trivial⟩
        case hc => kernel_rfl
        case hfin =>
          intro w5 hs5
          rintro _ rfl _ rfl _ ⟨bq, rfl, hq, hBq⟩ _ ⟨bk, rfl, hk, hB⟩ _ rfl
          rintro w6 ⟨o, w7, ho7, hr7, rfl⟩
          cases ho7
          simp only [Act.put, List.setIfInBounds_toArray, List.set_cons_zero, List.set_cons_succ] at hr7 ⊢
          cases (hr7.symm.trans (o_store (v := .agg #[.slice pw mn.W.length px, .slice pg mn.G.length py, .bool mn.bad, .slice (some ⟨bk, 0, none⟩) k k, .slice none 0 0]) (new := #[.slice pw mn.W.length px, .slice pg mn.G.length py, .bool mn.bad, .slice (some ⟨bk, 0, none⟩) k k, .slice none 0 0]) rfl rfl rfl (D0.since hs5 rfl) (by kernel_rfl) (by simp [Value.cells, Value.oneCell']) (by simp [Value.cells]) (by kernel_rfl)))
          go_wp2
          have hE5 : Ext w w5 := hE1.trans (hEW.trans (Since.to_ext hs5))
          have hE6 : Ext w (put w5 w.heap.size (.cells #[.slice pw mn.W.length px, .slice pg mn.G.length py, .bool mn.bad, .slice (some ⟨bk, 0, none⟩) k k, .slice none 0 0] 83 (0, 0))) := Since.to_ext ((Since.of_ext hE5).put (.inl (Nat.le_refl _)))
          have hK : Keep (Lo (w.heap.size + 1)) w5 (put w5 w.heap.size (.cells #[.slice pw mn.W.length px, .slice pg mn.G.length py, .bool mn.bad, .slice (some ⟨bk, 0, none⟩) k k, .slice none 0 0] 83 (0, 0))) := (Keep.refl _ _).put _ _ (.inr (by show _ < _; omega))
          have hBk : Box (put w5 w.heap.size (.cells #[.slice pw mn.W.length px, .slice pg mn.G.length py, .bool mn.bad, .slice (some ⟨bk, 0, none⟩) k k, .slice none 0 0] 83 (0, 0))) bk (zeros80 k) 116 := hB.keep hK (by show ¬ _ < _; omega)
          have hx : Keep (Bx N w.heap.size (w.heap.size + 1)) w1 (put w5 w.heap.size (.cells #[.slice pw mn.W.length px, .slice pg mn.G.length py, .bool mn.bad, .slice (some ⟨bk, 0, none⟩) k k, .slice none 0 0] 83 (0, 0))) := ((Keep.refl _ _).ext (hEW.trans (Since.to_ext hs5))).put _ _ (.inr (Bx.mem (by omega) (by omega)))
          refine bodyPost_ret (ret_cell_tmp (D0.since hs5 rfl).put Proofs.Try.results76 rfl Proofs.Try.underlying83 rfl (by kernel_rfl)) rfl ⟨_, rfl, hE6, _, rfl, IsSys.mk rfl ?_ ?_ (cores_made hBk (fun hx => absurd (hN _ hx) (by omega)) (by omega)) ⟨none, 0, rfl, by simp, by omega, fun _ => rfl, fun i x hi => by simp at hi⟩⟩
          · exact (hw.keep hx).back
          · exact (hg.keep hx).back
  · have he : newE n = 1 := by unfold newE; rw [if_neg h1]
    have hi : newIs c n = false := by simp [newIs]; omega
    have hs : newS c n = ⟨⟨[], [], false⟩, [], []⟩ := by simp [newS, hi]
    have hse : newSE c n = 1 := by simp [newSE, hi]
    rw [hs, hse]
    go_enter Proofs.Try.func76, Proofs.Try.ntmps76
    go_wp2_with (fail)
    go_at_call 52
    refine (kn _ exq).calls.mono ?_
    rintro e w1 ⟨_, rfl, hb1, u, rfl, hu⟩
    rw [show (w.alloc (.cells #[.slice none 0 0, .slice none 0 0, .bool false, .slice none 0 0, .slice none 0 0] 83)).heap.size = w.heap.size + 1 by simp] at hu
    obtain ⟨pw, px, pg, py, rfl, hw, hg⟩ := hu.opened
    rw [he]
    have B0 : Box w1 w.heap.size #[.slice none 0 0, .slice none 0 0, .bool false, .slice none 0 0, .slice none 0 0] 83 := (Box.new _ _ _).ext hb1
    obtain ⟨p0, p1, p2, p3, p4, d0, d1, d2, d3, d4⟩ := cells5 B0
    have z0 : w.heap.size < w1.heap.size := B0.lt
    have hE1 : Ext w w1 := exq
    go_wp2
    refine bodyPost_ret (ret_cell_tmp ((((((B0.setCell _).setCell _).setCell _).setCell _).setCell _).alloc _) Proofs.Try.results76 rfl Proofs.Try.underlying83 rfl (by kernel_rfl)) rfl ⟨_, rfl, exq, _, rfl, ?_⟩
    exact empty_sys N _

theorem clipE_ (a : Option Addr) (n cap : Nat) (w : World) (h1 : n ≤ cap) (h2 : cap ≤ 9223372036854775807) (h3 : a = none → cap = 0) : Gives Proofs.Try.prog 146 #[.slice a n cap] w (eqv (.slice a n n)) := by
  cases a with
  | none =>
    obtain rfl : cap = 0 := h3 rfl
    obtain rfl : n = 0 := by omega
    go_enter Proofs.Try.func146, Proofs.Try.ntmps146
    go_wp2
    go_ret
    exact ⟨_, rfl, exq, rfl⟩
  | some p =>
    go_enter Proofs.Try.func146, Proofs.Try.ntmps146
    go_wp2
    go_ret
    exact ⟨_, rfl, exq, rfl⟩
theorem clipF_ (a : Option Addr) (n cap : Nat) (w : World) (h1 : n ≤ cap) (h2 : cap ≤ 9223372036854775807) (h3 : a = none → cap = 0) : Gives Proofs.Try.prog 142 #[.slice a n cap] w (eqv (.slice a n n)) := by
  cases a with
  | none =>
    obtain rfl : cap = 0 := h3 rfl
    obtain rfl : n = 0 := by omega
    go_enter Proofs.Try.func142, Proofs.Try.ntmps142
    go_wp2
    go_ret
    exact ⟨_, rfl, exq, rfl⟩
  | some p =>
    go_enter Proofs.Try.func142, Proofs.Try.ntmps142
    go_wp2
    go_ret
    exact ⟨_, rfl, exq, rfl⟩
/-- what a type's rows want of it -/
structure RowType (t e : TypeId) (sz : Nat) (z : Value) : Prop where
  slice : Proofs.Try.prog.underlying t = some (.slice e)
  zero : (Proofs.Try.prog.info? e).bind (·.zero) = some z
  size : (Proofs.Try.prog.info? e).map (·.size) = some sz
  bytes : (Proofs.Try.prog.info? e).map (fun i => decide (i.bytes ≤ 1000)) = some true
theorem RowType.info {t e : TypeId} {sz : Nat} {z : Value} (h : RowType t e sz z) : ∃ i, Proofs.Try.prog.info? e = some i ∧ i.zero = some z ∧ i.size = sz ∧ i.bytes ≤ 1000 := by
  obtain ⟨_, h2, h3, h4⟩ := h
  cases hi : Proofs.Try.prog.info? e with
  | none => rw [hi] at h2; cases h2
  | some i => rw [hi] at h2 h3 h4; exact ⟨i, rfl, h2, by simpa using h3, by simpa using h4⟩
theorem rowC : RowType 80 116 7 zeroC := ⟨Proofs.Try.underlying80, by kernel_rfl, by kernel_rfl, by kernel_rfl⟩
theorem rowF : RowType 114 95 11 (.agg #[.int .i64 0, .int .i64 0, .int .i64 0, .int .i64 0, .int .i64 0, .int .i64 0, .int .i64 0, .int .i64 0, .int .i64 0, .int .i64 0, .slice none 0 0]) := ⟨Proofs.Try.underlying114, by kernel_rfl, by kernel_rfl, by kernel_rfl⟩
theorem rowE : RowType 81 108 5 (.agg #[.int .i64 0, .int .i64 0, .int .i64 0, .int .i64 0, .int .i64 0]) := ⟨Proofs.Try.underlying81, by kernel_rfl, by kernel_rfl, by kernel_rfl⟩
/-- the row that an append makes -/
theorem IsSl.grown {α : Type} {sz : Nat} {R R' : World → α → List Value → Prop} {N : Nat → Prop} {w : World} {l : List α} {x : α} {cs r : List Value} {Z : Array Value} {e : TypeId} {cap b : Nat} (hB : Box w b ((cs.toArray ++ r.toArray) ++ Z) e)
    (hn : ¬ N b) (hcap : l.length + 1 ≤ cap) (hm : cap ≤ 9223372036854775807) (hl : cs.length = l.length * sz) (hsz : 0 < sz) (hc : ∀ i x, l[i]? = some x → ∃ r, r.length = sz ∧ (∀ j c, r[j]? = some c → cs[i * sz + j]? = some c) ∧ R w x r) (hr : r.length = sz) (hx : R w x r) :
    IsSl sz R N w (.slice (some ⟨b, 0, none⟩) (l.length + 1) cap) (l ++ [x]) := by
  have := IsSl.of_box (sz := sz) (R := R) (N := N) (cap := cap) (l := l ++ [x]) hB hn (by simpa using hcap) hm (fun i y hi => by
    by_cases hil : i < l.length
    · rw [List.getElem?_append_left hil] at hi
      obtain ⟨q, h1, h2, h3⟩ := hc i y hi
      refine ⟨q, h1, fun j c hj => ?_, h3⟩
      have h4 := h2 j c hj
      have h5 : i * sz + j < cs.length := by
        rcases Nat.lt_or_ge (i * sz + j) cs.length with h | h
        · exact h
        · rw [List.getElem?_eq_none h] at h4; cases h4
      rw [Array.append_assoc, Array.getElem?_append_left (by simpa using h5)]
      simpa using h4
    · have hi2 : i = l.length := by
        have : i < (l ++ [x]).length := by
          rcases Nat.lt_or_ge i (l ++ [x]).length with h | h
          · exact h
          · rw [List.getElem?_eq_none h] at hi; cases hi
        simp at this; omega
      subst hi2
      rw [List.getElem?_append_right (Nat.le_refl _)] at hi
      simp at hi; subst hi
      refine ⟨r, hr, fun j c hj => ?_, hx⟩
      have hjr : j < r.length := by
        rcases Nat.lt_or_ge j r.length with h | h
        · exact h
        · rw [List.getElem?_eq_none h] at hj; cases hj
      rw [Array.getElem?_append_left (by simp; omega), Array.getElem?_append_right (by simp; omega)]
      simp only [List.size_toArray, hl, List.getElem?_toArray]
      rw [show l.length * sz + j - l.length * sz = j by omega]; exact hj)
  simpa using this
theorem run_append_one {α : Type} {sz : Nat} {R : World → α → List Value → Prop} {N : Nat → Prop} {w : World} {l : List α} {x : α} {t ty e : TypeId} {z : Value} {a : Option Addr} {be : Addr} {c : Nat} {r : List Value} (hT : RowType t e sz z) (hsz : 0 < sz)
    (h : IsSl sz R N w (.slice a l.length l.length) l) (hl : l.length ≤ 100000) (hr : r.length = sz) (hcell : ∀ j c, r[j]? = some c → w.cell? (be.add j) = some c) (hx : R w x r) (hR : ∀ w' x cs, Ext w w' → R w x cs → R w' x cs) (hn : ¬ N w.heap.size) :
    ∃ a' cap w', (Builtin.append_ #[t, t] ty #[.slice a l.length l.length, .slice (some be) 1 c]).run Proofs.Try.prog w = .ok (.slice a' (l.length + 1) cap) w' ∧ Ext w w' ∧ IsSl sz R N w' (.slice a' (l.length + 1) cap) (l ++ [x]) ∧ ∃ b, a' = some ⟨b, 0, none⟩ ∧ w.heap.size ≤ b := by
  obtain ⟨i, hi, hz, hs, hb⟩ := hT.info
  obtain ⟨cs, h1, h2, h3, a2, cap2, e2, h4, h5, h6, h7⟩ := IsSl.flat hsz h
  cases e2
  cases a with
  | none =>
    have hl0 : l.length = 0 := h6 rfl
    have hl1 : l = [] := List.eq_nil_of_length_eq_zero hl0
    subst hl1
    have hrun := run_append_nil (P := Proofs.Try.prog) w t ty e i z hT.slice hi hz be 1 c r (by rw [hr, hs]; omega) hcell (by omega) (by omega) (by omega)
    have hge := grownCap_ge w 1 0 e
    have hcm := grownCap_le_maxLen w 1 0 e (by simp [maxLen])
    refine ⟨_, _, _, hrun, (Ext.drew _).trans (Ext.alloc _ _), ?_, _, rfl, Nat.le_refl _⟩
    have hB := Box.new w.drew (r.toArray ++ Builtin.zeroCells z.cells (grownCap w 1 0 e - 1)) e
    have := IsSl.grown (R := R) (R' := R) (N := N) (l := ([] : List α)) (x := x) (cs := []) (r := r) (cap := grownCap w 1 0 e) (by simpa using hB) hn hge (by simpa [maxLen] using hcm) (by simp) hsz (fun i y hi => by simp at hi) hr (hR _ _ _ ((Ext.drew _).trans (Ext.alloc _ _)) hx)
    simpa using this
  | some p =>
    have hfit : Builtin.nextslicecap (l.length + 1) l.length * i.bytes ≤ 281474976710656 := growslice_fits (by omega) (Nat.le_trans (Nat.mul_le_mul (show l.length + 1 ≤ 100001 by omega) hb) (by decide))
    have hrun := run_append_grow (P := Proofs.Try.prog) w t ty e i z hT.slice hi hz p l.length l.length cs (by rw [h1, hs]) (h7 p rfl) be 1 c r (by rw [hr, hs]; omega) hcell (by omega) (by omega) hfit
    have hge := grownCap_ge w (l.length + 1) l.length e
    have hcm := grownCap_le_maxLen w (l.length + 1) l.length e (by simp [maxLen]; omega)
    refine ⟨_, _, _, hrun, (Ext.drew _).trans (Ext.alloc _ _), ?_, _, rfl, Nat.le_refl _⟩
    have hB := Box.new w.drew (cs.toArray ++ r.toArray ++ Builtin.zeroCells z.cells (grownCap w (l.length + 1) l.length e - (l.length + 1))) e
    exact IsSl.grown (R := R) (R' := R) (N := N) (cs := cs) hB hn hge (by simpa [maxLen] using hcm) h1 hsz (fun i y hi => by
      obtain ⟨q, g1, g2, g3⟩ := h2 i y hi
      exact ⟨q, g1, g2, hR _ _ _ ((Ext.drew _).trans (Ext.alloc _ _)) g3⟩) hr (hR _ _ _ ((Ext.drew _).trans (Ext.alloc _ _)) hx)

/-- block b holds these rows -/
def Rows (sz : Nat) (e : TypeId) (w : World) (b : Nat) (rows : List (List Value)) : Prop :=
  ∃ cells, Box w b cells e ∧ ∀ i r, rows[i]? = some r → r.length = sz ∧ ∀ j c, r[j]? = some c → cells[i * sz + j]? = some c
theorem Rows.keep {sz : Nat} {e : TypeId} {M : Nat → Prop} {w w' : World} {b : Nat} {rows : List (List Value)} (h : Rows sz e w b rows) (k : Keep M w w') (hn : ¬ M b) : Rows sz e w' b rows := by
  obtain ⟨cells, hB, h1⟩ := h
  exact ⟨cells, hB.keep k hn, h1⟩
theorem Rows.ext {sz : Nat} {e : TypeId} {w w' : World} {b : Nat} {rows : List (List Value)} (h : Rows sz e w b rows) (k : Ext w w') : Rows sz e w' b rows := h.keep (M := fun _ => False) k.keep id
theorem Rows.lt {sz : Nat} {e : TypeId} {w : World} {b : Nat} {rows : List (List Value)} (h : Rows sz e w b rows) : b < w.heap.size := by
  obtain ⟨_, hB, _⟩ := h; exact hB.lt
theorem Rows.cell {sz : Nat} {e : TypeId} {w : World} {b : Nat} {rows : List (List Value)} (h : Rows sz e w b rows) {i j : Nat} {r : List Value} {c : Value} (hi : rows[i]? = some r) (hj : r[j]? = some c) : w.cell? ⟨b, i * sz + j, none⟩ = some c ∧ w.frozen? ⟨b, i * sz + j, none⟩ = false := by
  obtain ⟨cells, hB, h1⟩ := h
  exact ⟨hB.cell (by rw [nth_eq]; simpa using (h1 i r hi).2 j c hj), hB.frozen⟩
theorem idx_ne {i i' j o sz : Nat} (hj : j < sz) (ho : o < sz) (h : i ≠ i' ∨ j ≠ o) : i' * sz + o ≠ i * sz + j := by
  intro e
  have h1 := (divmod (i := i) hj).1; have h2 := (divmod (i := i') ho).1
  have h3 := (divmod (i := i) hj).2; have h4 := (divmod (i := i') ho).2
  rw [e] at h2 h4
  omega
theorem Rows.set {sz : Nat} {e : TypeId} {w : World} {b : Nat} {rows : List (List Value)} (h : Rows sz e w b rows) {i o : Nat} {r : List Value} (hi : rows[i]? = some r) (ho : o < sz) (v : Value) : Rows sz e (w.setCell ⟨b, i * sz + o, none⟩ v) b (rows.set i (r.set o v)) := by
  obtain ⟨cells, hB, h1⟩ := h
  have hlen : ∀ i r, rows[i]? = some r → ∀ j, j < r.length → i * sz + j < cells.size := fun i r hi j hj => by
    have := (h1 i r hi).2 j _ (List.getElem?_eq_getElem hj)
    rcases Nat.lt_or_ge (i * sz + j) cells.size with h | h
    · exact h
    · rw [Array.getElem?_eq_none h] at this; cases this
  refine ⟨_, hB.setCell v, fun i' r' hi' => ?_⟩
  have hil : i < rows.length := by
    rcases Nat.lt_or_ge i rows.length with h | h
    · exact h
    · rw [List.getElem?_eq_none h] at hi; cases hi
  rw [List.getElem?_set] at hi'
  by_cases hii : i = i'
  · subst hii
    rw [if_pos rfl, if_pos hil] at hi'
    cases hi'
    refine ⟨by simpa using (h1 i r hi).1, fun j c hj => ?_⟩
    rw [List.getElem?_set] at hj
    by_cases hoj : o = j
    · subst hoj
      rw [if_pos rfl, if_pos (by rw [(h1 i r hi).1]; exact ho)] at hj
      cases hj
      have := hlen i r hi o (by rw [(h1 i r hi).1]; exact ho)
      simp [this]
    · rw [if_neg hoj] at hj
      have hjl : j < sz := by
        rw [← (h1 i r hi).1]
        rcases Nat.lt_or_ge j r.length with h | h
        · exact h
        · rw [List.getElem?_eq_none h] at hj; cases hj
      rw [Array.getElem?_setIfInBounds_ne (idx_ne hjl ho (.inr (Ne.symm hoj)))]
      exact (h1 i r hi).2 j c hj
  · rw [if_neg hii] at hi'
    refine ⟨(h1 i' r' hi').1, fun j c hj => ?_⟩
    have hjl : j < sz := by
      rw [← (h1 i' r' hi').1]
      rcases Nat.lt_or_ge j r'.length with h | h
      · exact h
      · rw [List.getElem?_eq_none h] at hj; cases hj
    rw [Array.getElem?_setIfInBounds_ne (idx_ne hjl ho (.inl (Ne.symm hii)))]
    exact (h1 i' r' hi').2 j c hj
theorem Rows.sl {α : Type} {sz : Nat} {R : World → α → List Value → Prop} {N : Nat → Prop} {e : TypeId} {w : World} {b cap : Nat} {rows : List (List Value)} {l : List α} (h : Rows sz e w b rows) (hl : rows.length = l.length) (hR : ∀ (i : Nat) x r, l[i]? = some x → rows[i]? = some r → R w x r)
    (hn : ¬ N b) (hcap : l.length ≤ cap) (hm : cap ≤ 9223372036854775807) : IsSl sz R N w (.slice (some ⟨b, 0, none⟩) l.length cap) l := by
  obtain ⟨cells, hB, h1⟩ := h
  refine IsSl.of_box hB hn hcap hm fun i x hi => ?_
  have hil : i < rows.length := by
    rw [hl]
    rcases Nat.lt_or_ge i l.length with h | h
    · exact h
    · rw [List.getElem?_eq_none h] at hi; cases hi
  obtain ⟨r, hr⟩ := getSome hil
  exact ⟨r, (h1 i r hr).1, (h1 i r hr).2, hR i x r hi hr⟩
/-- the rows of a slice -/
theorem IsSl.rows {α : Type} {sz : Nat} {R : World → α → List Value → Prop} {N : Nat → Prop} {w : World} {v : Value} {l : List α} (hsz : 0 < sz) (h : IsSl sz R N w v l) :
    ∃ (cs : List Value) (rows : List (List Value)), cs.length = l.length * sz ∧ rows.length = l.length ∧ (∀ i r, rows[i]? = some r → r.length = sz ∧ ∀ j c, r[j]? = some c → cs[i * sz + j]? = some c) ∧ (∀ (i : Nat) x r, l[i]? = some x → rows[i]? = some r → R w x r) ∧
      (∀ c ∈ cs, ∃ (i : Nat) (x : α) (r : List Value), l[i]? = some x ∧ R w x r ∧ c ∈ r) ∧
      ∃ a cap, v = .slice a l.length cap ∧ l.length ≤ cap ∧ cap ≤ 9223372036854775807 ∧ (a = none → cap = 0) ∧ ∀ b, a = some b → ∀ q c, cs[q]? = some c → w.cell? (b.add q) = some c := by
  obtain ⟨cs, h1, h2, h3, h4⟩ := IsSl.flat hsz h
  have h5 := Classical.choice (show Nonempty (∀ i : Nat, { r : List Value // ∀ x, l[i]? = some x → r.length = sz ∧ (∀ j c, r[j]? = some c → cs[i * sz + j]? = some c) ∧ R w x r }) from ⟨fun i => by
    cases hx : l[i]? with
    | none => exact ⟨[], fun x e => by cases e⟩
    | some x => exact ⟨Classical.choose (h2 i x hx), fun y e => by cases e; exact Classical.choose_spec (h2 i x hx)⟩⟩)
  have hg : ∀ (i : Nat) r, ((List.range l.length).map fun i => (h5 i).1)[i]? = some r → i < l.length ∧ r = (h5 i).1 := fun i r hi => by
    have hil : i < l.length := by
      rcases Nat.lt_or_ge i l.length with h | h
      · exact h
      · rw [List.getElem?_eq_none (by simpa using h)] at hi; cases hi
    rw [List.getElem?_map, List.getElem?_range hil] at hi
    exact ⟨hil, by simpa using hi.symm⟩
  refine ⟨cs, (List.range l.length).map fun i => (h5 i).1, h1, by simp, fun i r hi => ?_, fun i x r hx hi => ?_, h3, h4⟩
  · obtain ⟨hil, rfl⟩ := hg i r hi
    obtain ⟨x, hx⟩ := getSome hil
    exact ⟨((h5 i).2 x hx).1, ((h5 i).2 x hx).2.1⟩
  · obtain ⟨hil, rfl⟩ := hg i r hi
    exact ((h5 i).2 x hx).2.2
theorem RC.one {N : Nat → Prop} {w : World} {c : CoreD} {cs : List Value} (h : RC N w c cs) : ∀ v ∈ cs, v.oneCell' = true := by
  obtain ⟨_, f, r, rfl, hf, hr⟩ := h
  obtain ⟨_, _, rfl, _⟩ := hf
  obtain ⟨_, _, rfl, _⟩ := hr
  intro v hv
  simp [coreCells] at hv
  rcases hv with rfl | rfl | rfl | rfl | rfl | rfl | rfl <;> rfl
theorem RF.one {N : Nat → Prop} {w : World} {f : FrameD} {cs : List Value} (h : RF N w f cs) : ∀ v ∈ cs, v.oneCell' = true := by
  obtain ⟨_, s, rfl, hs⟩ := h
  obtain ⟨_, _, rfl, _⟩ := hs
  intro v hv
  simp [frameCells] at hv
  rcases hv with rfl | rfl | rfl | rfl | rfl | rfl | rfl | rfl | rfl | rfl | rfl <;> rfl
/-- all cores copied into a row that was made -/
theorem copy_cores {N : Nat → Prop} {w : World} {a : Option Addr} {cap b : Nat} {l : List CoreD} (ty : TypeId) (h : IsCores N w (.slice a l.length cap) l) (h0 : 0 < l.length) (hB : Box w b (zeros80 l.length) 116) :
    ∃ w' rows, (Builtin.copy_ #[80, 80] ty #[.slice (some ⟨b, 0, none⟩) l.length l.length, .slice a l.length cap]).run Proofs.Try.prog w = .ok (goInt l.length) w' ∧ Rows 7 116 w' b rows ∧ rows.length = l.length ∧ (∀ (i : Nat) x r, l[i]? = some x → rows[i]? = some r → RC N w x r) ∧
      (∀ M, M b → Keep M w w') ∧ (∀ a, Ext a w → a.heap.size ≤ b → Ext a w') := by
  obtain ⟨cs, rows, h1, h2, h3, h4, h5, a2, cap2, e2, h6, h7, h8, h9⟩ := IsSl.rows (by decide) h
  cases e2
  obtain ⟨p, rfl⟩ : ∃ p, a = some p := by
    cases a with
    | none => have := h8 rfl; omega
    | some p => exact ⟨p, rfl⟩
  have hrun := run_copy_rows (P := Proofs.Try.prog) (w := w) 80 ty 116 (sz := 7) (b := b) (n := l.length) (cap := l.length) (sCap := cap) (t := 116) (c := zeros80 l.length) (a := p) (cs := cs) Proofs.Try.underlying80 (by kernel_rfl) hB h1 (by simp [zeros80, madeCells]) (h9 p rfl)
    (fun v hv => by obtain ⟨i, x, r, _, hr, hm⟩ := h5 v hv; exact RC.one hr v hm)
  refine ⟨_, rows, hrun, ?_, h2, h4, fun M hM => setCells_keep (.inr hM) _ _ _ (Keep.refl _ _), fun a ha hb => setCells_ext hb _ _ _ ha⟩
  have hB2 := Box.setCells cs _ 0 w hB
  rw [splice_full (by simp [zeros80, madeCells, h1])] at hB2
  exact ⟨_, hB2, fun i r hi => ⟨(h3 i r hi).1, fun j c hj => by simpa using (h3 i r hi).2 j c hj⟩⟩

section
variable {ops : Array Oper} {rest : List Oper} {o : Oper} {a : Act} {Q : Exit → Act → World → Prop} {w : World}
theorem wpList_append1 {α : Type} {sz : Nat} {R : World → α → List Value → Prop} {N : Nat → Prop} {l : List α} {y : α} {t e : TypeId} {z : Value} {al : Option Addr} {be : Addr} {c : Nat} {r : List Value} (s x : Operand) (hg : o.guard = none)
    (hop : o.op = Op.call { callee := Callee.builtin Builtin.append, args := #[s, x], argTypes := #[t, t] }) (hs : a.eval s = .slice al l.length l.length) (hx : a.eval x = .slice (some be) 1 c) (hT : RowType t e sz z) (hsz : 0 < sz)
    (h : IsSl sz R N w (.slice al l.length l.length) l) (hl : l.length ≤ 100000) (hr : r.length = sz) (hcell : ∀ j c, r[j]? = some c → w.cell? (be.add j) = some c) (hy : R w y r) (hR : ∀ w' x cs, Ext w w' → R w x cs → R w' x cs) (hn : ¬ N w.heap.size)
    (hK : ∀ a' cap w', Ext w w' → IsSl sz R N w' (.slice a' (l.length + 1) cap) (l ++ [y]) → (∃ b, a' = some ⟨b, 0, none⟩ ∧ w.heap.size ≤ b) → wpList Proofs.Try.prog ops Q rest (a.put o.dst (.slice a' (l.length + 1) cap)) w') : wpList Proofs.Try.prog ops Q (o :: rest) a w := by
  refine wpList_plain hg fun K hK' => ?_
  obtain ⟨a', cap, w', hrun, r1, r2, r3⟩ := run_append_one (ty := o.type) (c := c) hT hsz h hl hr hcell hy hR hn
  unfold Oper.wp
  simp [execOp, hop, resolve, invoke, builtin, hs, hx, hrun, Result.andThen]
  exact hK' _ _ (hK a' cap w' r1 r2 r3)
end
theorem IsSl.cut {α : Type} {sz : Nat} {R : World → α → List Value → Prop} {N : Nat → Prop} {w : World} {a : Option Addr} {n cap : Nat} {l : List α} (h : IsSl sz R N w (.slice a n cap) l) : IsSl sz R N w (.slice a l.length l.length) l := by
  obtain ⟨a', cap', e, h1, h2, h3, h4⟩ := h
  cases e
  exact ⟨a, l.length, rfl, Nat.le_refl _, by omega, fun e => by have := h3 e; omega, h4⟩
def logD (s : SysD) (id kind a b v : Int) : SysD := if hasD s id then { s with L := s.L ++ [⟨id, kind, a, b, v⟩] } else s
set_option maxHeartbeats 1000000 in
set_option maxRecDepth 100000 in
theorem log_ (N : Nat → Prop) (va : Value) (s : SysD) (id kind a b v : Int) (w : World) (h : IsSys N w va s) (hN : ∀ b, N b → b < w.heap.size) (hL : s.L.length ≤ 100000) :
    Gives Proofs.Try.prog 87 #[va, .int .i64 id, .int .i64 kind, .int .i64 a, .int .i64 b, .int .i64 v] w (fun r w' => IsSys N w' r (logD s id kind a b v)) := by
  have kc := fun (w' : World) (e : Ext w w') => isCore_ N va s id w' (h.ext e)
  obtain ⟨aw, cw, ag, cg, ac, cc, al, cl, rfl, hw, hg, hc, hl⟩ := h.opened
  have hl0 := hl
  obtain ⟨_, _, ee, hl1, hl2, hl3, _⟩ := hl0
  cases ee
  cases hh : hasD s id <;> rw [hh] at kc
  · have hd : logD s id kind a b v = s := by simp [logD, hh]
    rw [hd]
    go_enter Proofs.Try.func87, Proofs.Try.ntmps87
    go_wp2_with (fail)
    go_at_call 139
    refine (kc _ exq).calls.mono ?_
    rintro e w1 ⟨_, rfl, hb1, rfl⟩
    have B0 : Box w1 w.heap.size #[.slice aw s.M.W.length cw, .slice ag s.M.G.length cg, .bool s.M.bad, .slice ac s.C.length cc, .slice al s.L.length cl] 83 := ((Box.new _ _ _).alloc _).ext hb1
    have B1 : Box w1 (w.heap.size + 1) #[.slice none 0 0, .slice none 0 0, .bool false, .slice none 0 0, .slice none 0 0] 83 := (Box.two _ _ _ _ _).ext hb1
    obtain ⟨p0, p1, p2, p3, p4, d0, d1, d2, d3, d4⟩ := cells5 B0
    obtain ⟨r0, r1, r2, r3, r4, q0, q1, q2, q3, q4⟩ := cells5 B1
    have z0 : w.heap.size < w1.heap.size := B0.lt
    have z1 : w.heap.size + 1 < w1.heap.size := B1.lt
    go_wp2
    exact bodyPost_ret (ret_cell (((((B1.setCell _).setCell _).setCell _).setCell _).setCell _) Proofs.Try.results87 rfl Proofs.Try.underlying83 rfl (by kernel_rfl)) rfl ⟨_, rfl, exq, IsSys.mk rfl (hw.ext exq) (hg.ext exq) (IsCores.keep hc (show Ext w _ from exq).keep) (IsEvs.keep hl (show Ext w _ from exq).keep)⟩
  · have hd : logD s id kind a b v = { s with L := s.L ++ [⟨id, kind, a, b, v⟩] } := by simp [logD, hh]
    rw [hd]
    go_enter Proofs.Try.func87, Proofs.Try.ntmps87
    go_wp2_with (fail)
    go_at_call 139
    refine (kc _ exq).calls.mono ?_
    rintro e w1 ⟨_, rfl, hb1, rfl⟩
    have B0 : Box w1 w.heap.size #[.slice aw s.M.W.length cw, .slice ag s.M.G.length cg, .bool s.M.bad, .slice ac s.C.length cc, .slice al s.L.length cl] 83 := ((Box.new _ _ _).alloc _).ext hb1
    have B1 : Box w1 (w.heap.size + 1) #[.slice none 0 0, .slice none 0 0, .bool false, .slice none 0 0, .slice none 0 0] 83 := (Box.two _ _ _ _ _).ext hb1
    obtain ⟨p0, p1, p2, p3, p4, d0, d1, d2, d3, d4⟩ := cells5 B0
    obtain ⟨r0, r1, r2, r3, r4, q0, q1, q2, q3, q4⟩ := cells5 B1
    have z0 : w.heap.size < w1.heap.size := B0.lt
    have z1 : w.heap.size + 1 < w1.heap.size := B1.lt
    go_wp2_with (fail)
    go_at_call 146
    refine (clipE_ al s.L.length cl _ hl1 hl2 hl3).calls.mono ?_
    rintro e w2 ⟨_, rfl, hb2, rfl⟩
    have B0 := B0.ext hb2
    have B1 := B1.ext hb2
    clear p0 p1 p2 p3 p4 d0 d1 d2 d3 d4 r0 r1 r2 r3 r4 q0 q1 q2 q3 q4
    obtain ⟨p0, p1, p2, p3, p4, d0, d1, d2, d3, d4⟩ := cells5 B0
    obtain ⟨r0, r1, r2, r3, r4, q0, q1, q2, q3, q4⟩ := cells5 B1
    have z0 : w.heap.size < w2.heap.size := B0.lt
    have z1 : w.heap.size + 1 < w2.heap.size := B1.lt
    have hE2 : Ext w w2 := exq
    have hl' : IsEvs (Bx N w.heap.size (w.heap.size + 2)) w (.slice al s.L.length s.L.length) s.L := IsSl.cut (IsEvs.less hl (fun x hx hn => Bx.new hx hn))
    have hBe := Box.new w2 #[.int .i64 id, .int .i64 kind, .int .i64 a, .int .i64 b, .int .i64 v] 108
    go_wp2_with (at_builtin; refine wpList_append1 (R := RE) (y := ⟨id, kind, a, b, v⟩) (r := [.int .i64 id, .int .i64 kind, .int .i64 a, .int .i64 b, .int .i64 v]) (.tmp 18) (.tmp 25) rfl rfl rfl rfl rowE (by decide) (IsEvs.keep hl' (hE2.trans (Ext.alloc _ _)).keep) hL rfl (fun j c hj => by rw [show (⟨w2.heap.size, 0, none⟩ : Addr).add j = ⟨w2.heap.size, j, none⟩ by unfold Addr.add; split <;> simp_all]; exact hBe.cell (by rw [nth_eq]; simpa using hj)) rfl (fun _ _ _ _ h => h) (fun hx => hx.elim (fun h => absurd (hN _ h) (by simp; omega)) (fun h => absurd h.2 (by simp; omega))) ?_; intro a4 cap4 w3 hb3 hl4 hex; have B0 := (B0.alloc (.cells #[.int .i64 id, .int .i64 kind, .int .i64 a, .int .i64 b, .int .i64 v] 108 (0, 0))).ext hb3; have B1 := (B1.alloc (.cells #[.int .i64 id, .int .i64 kind, .int .i64 a, .int .i64 b, .int .i64 v] 108 (0, 0))).ext hb3; clear p0 p1 p2 p3 p4 d0 d1 d2 d3 d4 r0 r1 r2 r3 r4 q0 q1 q2 q3 q4; obtain ⟨p0, p1, p2, p3, p4, d0, d1, d2, d3, d4⟩ := cells5 B0; obtain ⟨r0, r1, r2, r3, r4, q0, q1, q2, q3, q4⟩ := cells5 B1; have z0 := B0.lt; have z1 := B1.lt)
    refine bodyPost_ret (ret_cell ((((((B1.setOther (by omega) _).setCell _).setCell _).setCell _).setCell _).setCell _) Proofs.Try.results87 rfl Proofs.Try.underlying83 rfl (by kernel_rfl)) rfl ⟨_, rfl, exq, IsSys.mk rfl (hw.ext exq) (hg.ext exq) (IsCores.keep hc (show Ext w _ from exq).keep) (IsEvs.less (IsEvs.keep hl4 (by with_reducible (repeat (first | assumption | exact Keep.refl _ _ | refine Keep.alloc ?_ _ | refine Keep.s ?_ (by first | assumption | exact Bx.mem (by omega) (by omega)) | refine Keep.n ?_ (by omega) | refine Keep.ext ?_ (by assumption) | refine Keep.drew ?_)))) (fun _ _ hn => .inl hn))⟩
end Go.Proofs.Ytcfbdfgondmkoaa
/- What is done to a core: its last frame is taken away, changed; one is laid over the others. -/
namespace Go.Proofs.Ytcfbdfgondmkoaa
open Go Go.RowKit
set_option linter.unusedSimpArgs false
set_option linter.unusedVariables false
set_option linter.unnecessarySimpa false


theorem o_sliceTo {o : Oper} {ac : Act} {w : World} {x h : Operand} {p : Addr} {l cap n : Nat} {t : TypeId} (ho : o.op = .slice t x none (some h) none) (ht : t = 114) (hx : ac.eval x = .slice (some p) l cap) (hh : ac.eval h = .int .i64 n) (hn : n ≤ cap) (hc : cap ≤ 9223372036854775807) :
    Runs Proofs.Try.prog o ac w (.slice (some p) n cap) := by
  subst ht
  have hi : (Proofs.Try.prog.info? 95).isSome = true := by kernel_rfl
  simp only [Runs, execOp, ho, hx, hh]
  have hb := run_sliceBound (P := Proofs.Try.prog) (w := w) .i64 (n : Int) cap .sliceAcap (by omega) (by omega)
  have hh2 := hh
  simp [Act.eval] at hh2
  simp [go_sem, hn, hh2, hb]
set_option maxHeartbeats 2000000 in
set_option maxRecDepth 100000 in
theorem backDo_ (b K n : Nat) (cs : Array Value) (p : Addr) (cf : Nat) (v e : Int) (p1 p2 : Nat) (w : World) (hB : Box w b cs 116) (h0 : cs[K]? = some (.slice (some p) (n + 1) cf)) (hsz : K + 7 ≤ cs.size) (hn : n + 1 ≤ cf) (hcf : cf ≤ 9223372036854775807)
    (hp1 : w.cell? ⟨p1, 0, none⟩ = some (.int .i64 v)) (hp2 : w.cell? ⟨p2, 0, none⟩ = some (.int .i64 e)) (ne1 : b ≠ p1) (ne2 : b ≠ p2) :
    Calls Proofs.Try.prog 145 #[.pointer (some ⟨b, K, none⟩), .pointer (some ⟨p1, 0, none⟩), .pointer (some ⟨p2, 0, none⟩)] w fun x w' => x = .returned (.tuple #[]) ∧ Box w' b (((cs.setIfInBounds (K + 0) (.slice (some p) n cf)).setIfInBounds (K + 1) (.int .i64 v)).setIfInBounds (K + 2) (.int .i64 e)) 116 ∧ Keep (fun x => x = b) w w' ∧ (∀ a, Ext a w → a.heap.size ≤ b → Ext a w') := by
  have hc0 : w.cell? ⟨b, K + 0, none⟩ = some (.slice (some p) (n + 1) cf) := hB.cell (by rw [nth_eq]; simpa using h0)
  go_enter Proofs.Try.func145, Proofs.Try.ntmps145
  go_wp2_with (fail)
  apply region_lit2 (T := [18, 21, 24]) (L := [1, 2, 14, 15, 16, 17, 19, 20, 22, 23]) (X := [b]) (G := [eqv _, eqv _, eqv _, eqv _, eqv _, eqv _, eqv _, eqv _, eqv _, eqv _, eqv _, eqv _, eqv (.int .i64 (n : Nat)), eqv (.slice (some p) n cf), eqv _, eqv _, eqv _, eqv _, anyG, eqv _, eqv _, anyG, eqv _, eqv _, anyG])
  case hm => kernel_rfl
  case hop =>
    refine ⟨?_, ?_, ?_, ?_, ?_, ?_, ?_, ?_, ?_, ?_, ?_, ?_, ?_, ?_, ?_, ?_, ?_, ?_, ?_, ?_, ?_, ?_, ?_, ?_, ?_, trivial⟩
    · intro a wa hs hf hd
      have t0 := hf.off 0 (by kernel_rfl) rfl
      exact plain_ rfl (yes_eqv (o_move rfl t0) rfl)
    · intro a wb wa hs1 hs hf hd
      have t0 := hf.off 0 (by kernel_rfl) rfl
      exact plain_ rfl (late_eqv (o_move rfl t0) rfl)
    · intro a wb wa hs1 hs hf hd
      have t0 := hf.off 0 (by kernel_rfl) rfl
      exact plain_ rfl (late_eqv (o_move rfl t0) rfl)
    · intro a wa hs hf hd
      have t0 := hf.off 0 (by kernel_rfl) rfl
      exact plain_ rfl (yes_eqv (o_move rfl t0) rfl)
    · intro a wa hs hf hd
      have t7 : a.eval (.tmp 7) = _ := hd.at 3 7 (by kernel_rfl)
      exact plain_ rfl (yes_eqv (o_nilCheck rfl t7) rfl)
    · intro a wa hs hf hd
      have t8 : a.eval (.tmp 8) = _ := hd.at 4 8 (by kernel_rfl)
      exact plain_ rfl (yes_eqv (o_fieldAddr rfl Proofs.Try.underlying116 rfl rfl (by kernel_rfl) t8) rfl)
    · intro a wa hs hf hd
      have t9 : a.eval (.tmp 9) = _ := hd.at 5 9 (by kernel_rfl)
      exact plain_ rfl (yes_eqv (o_load1 rfl Proofs.Try.underlying114 rfl t9 (cell_since hc0 hs rfl)) rfl)
    · intro a wa hs hf hd
      have t0 := hf.off 0 (by kernel_rfl) rfl
      exact plain_ rfl (yes_eqv (o_move rfl t0) rfl)
    · intro a wa hs hf hd
      have t11 : a.eval (.tmp 11) = _ := hd.at 7 11 (by kernel_rfl)
      exact plain_ rfl (yes_eqv (o_nilCheck rfl t11) rfl)
    · intro a wa hs hf hd
      have t12 : a.eval (.tmp 12) = _ := hd.at 8 12 (by kernel_rfl)
      exact plain_ rfl (yes_eqv (o_fieldAddr rfl Proofs.Try.underlying116 rfl rfl (by kernel_rfl) t12) rfl)
    · intro a wa hs hf hd
      have t13 : a.eval (.tmp 13) = _ := hd.at 9 13 (by kernel_rfl)
      exact plain_ rfl (yes_eqv (o_load1 rfl Proofs.Try.underlying114 rfl t13 (cell_since hc0 hs rfl)) rfl)
    · intro a wa hs hf hd
      have t14 : a.eval (.tmp 14) = _ := hd.at 10 14 (by kernel_rfl)
      exact plain_ rfl (yes_eqv (o_len rfl Proofs.Try.underlying114 t14) rfl)
    · intro a wa hs hf hd
      have t15 : a.eval (.tmp 15) = _ := hd.at 11 15 (by kernel_rfl)
      exact plain_ rfl (yes_eqv (o_sub rfl t15 rfl (by rw [IntKind.wrap_i64]; omega)) rfl)
    · intro a wa hs hf hd
      have t10 : a.eval (.tmp 10) = _ := hd.at 6 10 (by kernel_rfl)
      have t16 : a.eval (.tmp 16) = _ := hd.at 12 16 (by kernel_rfl)
      exact plain_ rfl (yes_eqv (o_sliceTo rfl rfl t10 t16 (by omega) hcf) rfl)
    · intro a wb wa hs1 hs hf hd
      have t1 := hf.off 1 (by kernel_rfl) rfl
      exact plain_ rfl (late_eqv (o_load1 rfl Proofs.Try.underlying3 rfl t1 (cell_since hp1 hs (by simpa using ne1.symm))) rfl)
    · intro a wb wa hs1 hs hf hd
      have t2 := hf.off 2 (by kernel_rfl) rfl
      exact plain_ rfl (late_eqv (o_load1 rfl Proofs.Try.underlying25 rfl t2 (cell_since hp2 hs (by simpa using ne2.symm))) rfl)
    · intro a wb wa hs1 hs hf hd
      have t4 : a.eval (.tmp 4) = _ := hd.at 0 4 (by kernel_rfl)
      exact plain_ rfl (late_eqv (o_nilCheck rfl t4) rfl)
    · intro a wb wa hs1 hs hf hd
      have t20 : a.eval (.tmp 20) = _ := hd.at 16 20 (by kernel_rfl)
      exact plain_ rfl (late_eqv (o_fieldAddr rfl Proofs.Try.underlying116 rfl rfl (by kernel_rfl) t20) rfl)
    · intro a wb wa hs1 hs hf hd hrun
      have t21 : a.eval (.tmp 21) = _ := hd.at 17 21 (by kernel_rfl)
      have t17 : a.eval (.tmp 17) = _ := hd.at 13 17 (by kernel_rfl)
      subst hrun; exact ⟨_, o_store rfl t21 t17 (hB.since hs1 rfl) (by kernel_rfl) (by simp [Value.cells, Value.oneCell']) (by simp [Value.cells]; omega) rfl, Since.put hs (.inr (by simp))⟩
    · intro a wb wa hs1 hs hf hd
      have t5 : a.eval (.tmp 5) = _ := hd.at 1 5 (by kernel_rfl)
      exact plain_ rfl (late_eqv (o_nilCheck rfl t5) rfl)
    · intro a wb wa hs1 hs hf hd
      have t22 : a.eval (.tmp 22) = _ := hd.at 19 22 (by kernel_rfl)
      exact plain_ rfl (late_eqv (o_fieldAddr rfl Proofs.Try.underlying116 rfl rfl (by kernel_rfl) t22) rfl)
    · intro a wb wa hs1 hs hf hd hrun
      have t23 : a.eval (.tmp 23) = _ := hd.at 20 23 (by kernel_rfl)
      have t18 : a.eval (.tmp 18) = _ := hd.at 14 18 (by kernel_rfl)
      have t21 : a.eval (.tmp 21) = _ := hd.at 17 21 (by kernel_rfl)
      have t17 : a.eval (.tmp 17) = _ := hd.at 13 17 (by kernel_rfl)
      obtain ⟨o1, v1, ho1, hr1, rfl⟩ := hrun
      cases ho1
      cases (hr1.symm.trans (o_store (v := .slice (some p) n cf) (new := (cs.setIfInBounds (K + 0) (.slice (some p) n cf))) rfl t21 t17 (hB.since hs1 rfl) (by kernel_rfl) (by simp [Value.cells, Value.oneCell']) (by simp [Value.cells]; omega) rfl))
      exact ⟨_, o_store rfl t23 t18 (hB.since hs1 rfl).put (by kernel_rfl) (by simp [Value.cells, Value.oneCell']) (by simp [Value.cells]; omega) rfl, Since.put hs (.inr (by simp))⟩
    · intro a wb wa hs1 hs hf hd
      have t6 : a.eval (.tmp 6) = _ := hd.at 2 6 (by kernel_rfl)
      exact plain_ rfl (late_eqv (o_nilCheck rfl t6) rfl)
    · intro a wb wa hs1 hs hf hd
      have t24 : a.eval (.tmp 24) = _ := hd.at 22 24 (by kernel_rfl)
      exact plain_ rfl (late_eqv (o_fieldAddr rfl Proofs.Try.underlying116 rfl rfl (by kernel_rfl) t24) rfl)
    · intro a wb wa hs1 hs hf hd hrun
      have t25 : a.eval (.tmp 25) = _ := hd.at 23 25 (by kernel_rfl)
      have t19 : a.eval (.tmp 19) = _ := hd.at 15 19 (by kernel_rfl)
      have t21 : a.eval (.tmp 21) = _ := hd.at 17 21 (by kernel_rfl)
      have t17 : a.eval (.tmp 17) = _ := hd.at 13 17 (by kernel_rfl)
      have t23 : a.eval (.tmp 23) = _ := hd.at 20 23 (by kernel_rfl)
      have t18 : a.eval (.tmp 18) = _ := hd.at 14 18 (by kernel_rfl)
      obtain ⟨o1, v1, ho1, hr1, o2, v2, ho2, hr2, rfl⟩ := hrun
      cases ho1
      cases ho2
      cases (hr1.symm.trans (o_store (v := .slice (some p) n cf) (new := (cs.setIfInBounds (K + 0) (.slice (some p) n cf))) rfl t21 t17 (hB.since hs1 rfl) (by kernel_rfl) (by simp [Value.cells, Value.oneCell']) (by simp [Value.cells]; omega) rfl))
      cases (hr2.symm.trans (o_store (v := .int .i64 v) (new := ((cs.setIfInBounds (K + 0) (.slice (some p) n cf)).setIfInBounds (K + 1) (.int .i64 v))) rfl t23 t18 (hB.since hs1 rfl).put (by kernel_rfl) (by simp [Value.cells, Value.oneCell']) (by simp [Value.cells]; omega) rfl))
      exact ⟨_, o_store rfl t25 t19 (hB.since hs1 rfl).put.put (by kernel_rfl) (by simp [Value.cells, Value.oneCell']) (by simp [Value.cells]; omega) rfl, Since.put hs (.inr (by simp))⟩
  case hG => exact ⟨stable_eqv _, stable_eqv _, stable_eqv _, stable_eqv _, stable_eqv _, stable_eqv _, stable_eqv _, stable_eqv _, stable_eqv _, stable_eqv _, stable_eqv _, stable_eqv _, stable_eqv _, stable_eqv _, stable_eqv _, stable_eqv _, stable_eqv _, stable_eqv _, stable_any, stable_eqv _, stable_eqv _, stable_any, stable_eqv _, stable_eqv _, stable_any, trivial⟩
  case hc => kernel_rfl
  case hfin =>
    intro w5 hs5
    rintro _ rfl _ rfl _ rfl _ rfl _ rfl _ rfl _ rfl _ rfl _ rfl _ rfl _ rfl _ rfl _ rfl _ rfl _ rfl _ rfl _ rfl _ rfl _ rfl _ rfl _ rfl _ rfl
    rintro w6 ⟨o1, v1, ho1, hr1, o2, v2, ho2, hr2, o3, v3, ho3, hr3, rfl⟩
    cases ho1
    cases ho2
    cases ho3
    simp only [Act.put, List.setIfInBounds_toArray, List.set_cons_zero, List.set_cons_succ] at hr1 hr2 hr3 ⊢
    cases (hr1.symm.trans (o_store (v := .slice (some p) n cf) (new := (cs.setIfInBounds (K + 0) (.slice (some p) n cf))) rfl rfl rfl (hB.since hs5 rfl) (by kernel_rfl) (by simp [Value.cells, Value.oneCell']) (by simp [Value.cells]; omega) rfl))
    cases (hr2.symm.trans (o_store (v := .int .i64 v) (new := ((cs.setIfInBounds (K + 0) (.slice (some p) n cf)).setIfInBounds (K + 1) (.int .i64 v))) rfl rfl rfl (hB.since hs5 rfl).put (by kernel_rfl) (by simp [Value.cells, Value.oneCell']) (by simp [Value.cells]; omega) rfl))
    cases (hr3.symm.trans (o_store (v := .int .i64 e) (new := (((cs.setIfInBounds (K + 0) (.slice (some p) n cf)).setIfInBounds (K + 1) (.int .i64 v)).setIfInBounds (K + 2) (.int .i64 e))) rfl rfl rfl (hB.since hs5 rfl).put.put (by kernel_rfl) (by simp [Value.cells, Value.oneCell']) (by simp [Value.cells]; omega) rfl))
    go_wp2
    go_end0
    exact ⟨rfl, (hB.since hs5 rfl).put.put.put, ((((Keep.refl (fun x => x = b) w).ext (Since.to_ext hs5)).put _ _ (.inr rfl)).put _ _ (.inr rfl)).put _ _ (.inr rfl), fun a ha hb => Since.to_ext ((((Since.of_ext (ha.trans (Since.to_ext hs5))).put (.inl hb)).put (.inl hb)).put (.inl hb))⟩

@[go_sem] theorem run_mk80s (n : Nat) (h : n ≤ 100000) (w : World) : (Instr.makeSlice 80 (.int .i64 n) (.int .i64 n)).run Proofs.Try.prog w = .ok (.slice (some ⟨w.heap.size, 0, none⟩) n n) (w.alloc (.cells (zeros80 n) 116)) := run_mk80 n h w
/-- an array holds these rows -/
def RowsIn (sz : Nat) (cells : Array Value) (rows : List (List Value)) : Prop := ∀ i r, rows[i]? = some r → r.length = sz ∧ ∀ j c, r[j]? = some c → cells[i * sz + j]? = some c
theorem RowsIn.set {sz : Nat} {cells : Array Value} {rows : List (List Value)} (h1 : RowsIn sz cells rows) {i o : Nat} {r : List Value} (hi : rows[i]? = some r) (ho : o < sz) (v : Value) : RowsIn sz (cells.setIfInBounds (i * sz + o) v) (rows.set i (r.set o v)) := by
  have hlen : ∀ i r, rows[i]? = some r → ∀ j, j < r.length → i * sz + j < cells.size := fun i r hi j hj => by
    have := (h1 i r hi).2 j _ (List.getElem?_eq_getElem hj)
    rcases Nat.lt_or_ge (i * sz + j) cells.size with h | h
    · exact h
    · rw [Array.getElem?_eq_none h] at this; cases this
  intro i' r' hi'
  have hil : i < rows.length := by
    rcases Nat.lt_or_ge i rows.length with h | h
    · exact h
    · rw [List.getElem?_eq_none h] at hi; cases hi
  rw [List.getElem?_set] at hi'
  by_cases hii : i = i'
  · subst hii
    rw [if_pos rfl, if_pos hil] at hi'
    cases hi'
    refine ⟨by simpa using (h1 i r hi).1, fun j c hj => ?_⟩
    rw [List.getElem?_set] at hj
    by_cases hoj : o = j
    · subst hoj
      rw [if_pos rfl, if_pos (by rw [(h1 i r hi).1]; exact ho)] at hj
      cases hj
      have := hlen i r hi o (by rw [(h1 i r hi).1]; exact ho)
      simp [this]
    · rw [if_neg hoj] at hj
      have hjl : j < sz := by
        rw [← (h1 i r hi).1]
        rcases Nat.lt_or_ge j r.length with h | h
        · exact h
        · rw [List.getElem?_eq_none h] at hj; cases hj
      rw [Array.getElem?_setIfInBounds_ne (idx_ne hjl ho (.inr (Ne.symm hoj)))]
      exact (h1 i r hi).2 j c hj
  · rw [if_neg hii] at hi'
    refine ⟨(h1 i' r' hi').1, fun j c hj => ?_⟩
    have hjl : j < sz := by
      rw [← (h1 i' r' hi').1]
      rcases Nat.lt_or_ge j r'.length with h | h
      · exact h
      · rw [List.getElem?_eq_none h] at hj; cases hj
    rw [Array.getElem?_setIfInBounds_ne (idx_ne hjl ho (.inl (Ne.symm hii)))]
    exact (h1 i' r' hi').2 j c hj
theorem IsSl.take {α : Type} {sz : Nat} {R : World → α → List Value → Prop} {N : Nat → Prop} {w : World} {a : Option Addr} {n cap m : Nat} {l : List α} (h : IsSl sz R N w (.slice a n cap) l) (hm : m ≤ l.length) : IsSl sz R N w (.slice a m cap) (l.take m) := by
  obtain ⟨a', cap', e, h1, h2, h3, h4⟩ := h
  cases e
  have hlen : (l.take m).length = m := by simp [Nat.min_eq_left hm]
  refine ⟨a, cap, by rw [hlen], by omega, h2, h3, fun i x hi => h4 i x ?_⟩
  rw [List.getElem?_take] at hi
  split at hi
  · exact hi
  · cases hi
theorem set_at {α : Type} {l : List α} {k : Nat} {x : α} (h : k < l.length) : (l.set k x)[k]? = some x := by simp [h]
/-- the cores, one of them another one, from the rows of a block of the call's own -/
theorem cores_of_rows {N : Nat → Prop} {lo hi : Nat} {w wF : World} {b cap k : Nat} {cells : Array Value} {rows : List (List Value)} {l : List CoreD} {c' : CoreD} {r' : List Value} (hB : Box wF b cells 116) (hrows : RowsIn 7 cells (rows.set k r')) (hl : rows.length = l.length)
    (hRC : ∀ (i : Nat) x r, l[i]? = some x → rows[i]? = some r → RC (Bx N lo hi) w x r) (kF : Keep (Bx N lo hi) w wF) (hn : ¬ N b) (hr' : RC N wF c' r') (hcap : l.length ≤ cap) (hm : cap ≤ 9223372036854775807) : IsCores N wF (.slice (some ⟨b, 0, none⟩) l.length cap) (l.set k c') := by
  have := IsSl.of_box (sz := 7) (R := RC N) (N := N) (cap := cap) (l := l.set k c') hB hn (by simpa using hcap) hm (fun i x hi => by
    have hil : i < l.length := by
      rcases Nat.lt_or_ge i l.length with h | h
      · exact h
      · rw [List.getElem?_eq_none (by simpa using h)] at hi; cases hi
    by_cases hik : k = i
    · subst hik
      rw [set_at hil] at hi; cases hi
      have := hrows k r' (set_at (by omega))
      exact ⟨r', this.1, this.2, hr'⟩
    · rw [List.getElem?_set_ne hik] at hi
      obtain ⟨r, hr⟩ := getSome (show i < rows.length by omega)
      have := hrows i r (by rw [List.getElem?_set_ne hik]; exact hr)
      exact ⟨r, this.1, this.2, ((hRC i x r hi hr).keep kF).less fun _ _ h => .inl h⟩)
  simpa using this
def withS (s : SysD) (k : Nat) (c : CoreD) : SysD := { s with C := s.C.set k c }
def backC (c : CoreD) (v e : Int) : CoreD := { c with F := c.F.take (c.F.length - 1), V := v, E := e }
set_option maxHeartbeats 1000000 in
set_option maxRecDepth 100000 in
theorem changedBack_ (N : Nat → Prop) (va : Value) (s : SysD) (k : Nat) (c : CoreD) (v e : Int) (p1 p2 : Nat) (w : World) (h : IsSys N w va s) (hN : ∀ b, N b → b < w.heap.size) (hC : s.C.length ≤ 100000) (hk : s.C[k]? = some c) (hF : 0 < c.F.length)
    (hp1 : w.cell? ⟨p1, 0, none⟩ = some (.int .i64 v)) (hp2 : w.cell? ⟨p2, 0, none⟩ = some (.int .i64 e)) :
    Gives Proofs.Try.prog 140 #[va, .int .i64 k, .func (.func 145) #[] #[.pointer (some ⟨p1, 0, none⟩), .pointer (some ⟨p2, 0, none⟩)]] w (fun r w' => IsSys N w' r (withS s k (backC c v e))) := by
  obtain ⟨aw, cw, ag, cg, ac, cc, al, cl, rfl, hw, hg, hc, hl⟩ := h.opened
  have hkl : k < s.C.length := by
    rcases Nat.lt_or_ge k s.C.length with h | h
    · exact h
    · rw [List.getElem?_eq_none h] at hk; cases hk
  have hk1 : (k : Int) < (s.C.length : Int) := by omega
  have hc' : IsCores (Bx N w.heap.size (w.heap.size + 3)) w (.slice ac s.C.length cc) s.C := IsCores.less hc (fun x hx hn => Bx.new hx hn)
  have hq1 : p1 < w.heap.size := World.block_lt_of_cell? _ _ hp1
  have hq2 : p2 < w.heap.size := World.block_lt_of_cell? _ _ hp2
  go_enter Proofs.Try.func140, Proofs.Try.ntmps140
  go_wp2_with (fail)
  obtain ⟨w2, rows, hrun, hR, hRl, hRC, hKp, hEx⟩ := copy_cores 3 (w := (((w.alloc (.cells #[.slice aw s.M.W.length cw, .slice ag s.M.G.length cg, .bool s.M.bad, .slice ac s.C.length cc, .slice al s.L.length cl] 83)).alloc (.cells #[.slice none 0 0, .slice none 0 0, .bool false, .slice none 0 0, .slice none 0 0] 83)).alloc (.cells (zeros80 s.C.length) 116))) (IsCores.keep hc' (show Ext w (((w.alloc (.cells #[.slice aw s.M.W.length cw, .slice ag s.M.G.length cg, .bool s.M.bad, .slice ac s.C.length cc, .slice al s.L.length cl] 83)).alloc (.cells #[.slice none 0 0, .slice none 0 0, .bool false, .slice none 0 0, .slice none 0 0] 83)).alloc (.cells (zeros80 s.C.length) 116)) from exq).keep) (by omega) (Box.three' _ _ _ _ _ _ _)
  rw [hrun]
  have hE2 : Ext w w2 := hEx w exq (by omega)
  have kp := hKp (fun x => x = w.heap.size + 1 + 1) rfl
  have B0 : Box w2 w.heap.size #[.slice aw s.M.W.length cw, .slice ag s.M.G.length cg, .bool s.M.bad, .slice ac s.C.length cc, .slice al s.L.length cl] 83 := (((Box.new _ _ _).alloc _).alloc _).keep kp (by omega)
  have B1 : Box w2 (w.heap.size + 1) #[.slice none 0 0, .slice none 0 0, .bool false, .slice none 0 0, .slice none 0 0] 83 := ((Box.two _ _ _ _ _).alloc _).keep kp (by omega)
  have hE3 : Ext (((w.alloc (.cells #[.slice aw s.M.W.length cw, .slice ag s.M.G.length cg, .bool s.M.bad, .slice ac s.C.length cc, .slice al s.L.length cl] 83)).alloc (.cells #[.slice none 0 0, .slice none 0 0, .bool false, .slice none 0 0, .slice none 0 0] 83)).alloc (.cells (zeros80 s.C.length) 116)) (((w.alloc (.cells #[.slice aw s.M.W.length cw, .slice ag s.M.G.length cg, .bool s.M.bad, .slice ac s.C.length cc, .slice al s.L.length cl] 83)).alloc (.cells #[.slice none 0 0, .slice none 0 0, .bool false, .slice none 0 0, .slice none 0 0] 83)).alloc (.cells (zeros80 s.C.length) 116)) := Ext.refl _
  have kq : Keep (Bx N w.heap.size (w.heap.size + 3)) (((w.alloc (.cells #[.slice aw s.M.W.length cw, .slice ag s.M.G.length cg, .bool s.M.bad, .slice ac s.C.length cc, .slice al s.L.length cl] 83)).alloc (.cells #[.slice none 0 0, .slice none 0 0, .bool false, .slice none 0 0, .slice none 0 0] 83)).alloc (.cells (zeros80 s.C.length) 116)) w2 := hKp _ (Bx.mem (by omega) (by omega))
  clear hKp hEx hrun
  obtain ⟨cells, hBx, hrows⟩ := hR
  obtain ⟨r, hr⟩ := getSome (show k < rows.length by omega)
  obtain ⟨h3, f, rr, rfl, hf, hrt⟩ := hRC k c r hk hr
  obtain ⟨af, cf, hff, hf1, hf2, hf3, hf4⟩ := hf
  obtain ⟨n, hn⟩ : ∃ n, c.F.length = n + 1 := ⟨c.F.length - 1, by omega⟩
  obtain ⟨pf, rfl⟩ : ∃ p, af = some p := by
    cases af with
    | none => have := hf3 rfl; omega
    | some p => exact ⟨p, rfl⟩
  subst hff
  have h0 : cells[k * 7]? = some (.slice (some pf) (n + 1) cf) := by rw [← hn]; exact (hrows k _ hr).2 0 _ rfl
  have hsz : k * 7 + 7 ≤ cells.size := by
    have := (hrows k _ hr).2 6 _ rfl
    rcases Nat.lt_or_ge (k * 7 + 6) cells.size with h | h
    · omega
    · rw [Array.getElem?_eq_none h] at this; cases this
  obtain ⟨c00, c01, c02, c03, c04, d00, d01, d02, d03, d04⟩ := cells5 B0
  obtain ⟨c10, c11, c12, c13, c14, d10, d11, d12, d13, d14⟩ := cells5 B1
  have z0 := B0.lt
  have z1 := B1.lt
  have z2 := hBx.lt
  go_wp2_with (fail)
  go_at_call 145
  refine (backDo_ (w.heap.size + 1 + 1) (k * 7) n cells pf cf v e p1 p2 w2 hBx h0 hsz (by omega) hf2 (cell_ext hp1 hE2) (cell_ext hp2 hE2) (by omega) (by omega)).mono ?_
  rintro x w3 ⟨rfl, hB3, hK3, hE3'⟩
  have hEw : Ext w w3 := hE3' w hE2 (by omega)
  have D0 := B0.keep hK3 (by omega)
  have D1 := B1.keep hK3 (by omega)
  clear c00 c01 c02 c03 c04 d00 d01 d02 d03 d04 c10 c11 c12 c13 c14 d10 d11 d12 d13 d14
  obtain ⟨c00, c01, c02, c03, c04, d00, d01, d02, d03, d04⟩ := cells5 D0
  obtain ⟨c10, c11, c12, c13, c14, d10, d11, d12, d13, d14⟩ := cells5 D1
  have y0 := D0.lt
  have y1 := D1.lt
  have k3 : Keep (Bx N w.heap.size (w.heap.size + 3)) (((w.alloc (.cells #[.slice aw s.M.W.length cw, .slice ag s.M.G.length cg, .bool s.M.bad, .slice ac s.C.length cc, .slice al s.L.length cl] 83)).alloc (.cells #[.slice none 0 0, .slice none 0 0, .bool false, .slice none 0 0, .slice none 0 0] 83)).alloc (.cells (zeros80 s.C.length) 116)) w3 := kq.trans (hK3.less fun x _ hx => by subst hx; exact Bx.mem (by omega) (by omega))
  have hRk : rows[k]? = some (coreCells c (.slice (some pf) c.F.length cf) rr) := hr
  have q1 := RowsIn.set (sz := 7) hrows hRk (o := 0) (by decide) (.slice (some pf) n cf)
  have q2 := RowsIn.set q1 (set_at (by omega)) (o := 1) (by decide) (.int .i64 v)
  have q3 := RowsIn.set q2 (set_at (by simp; omega)) (o := 2) (by decide) (.int .i64 e)
  rw [List.set_set, List.set_set] at q3
  have fin : ∀ wF, Keep (Bx N w.heap.size (w.heap.size + 3)) w3 wF → Box wF (w.heap.size + 1 + 1) (((cells.setIfInBounds (k * 7 + 0) (.slice (some pf) n cf)).setIfInBounds (k * 7 + 1) (.int .i64 v)).setIfInBounds (k * 7 + 2) (.int .i64 e)) 116 → IsCores N wF (.slice (some ⟨w.heap.size + 1 + 1, 0, none⟩) s.C.length s.C.length) (s.C.set k (backC c v e)) := fun wF kF hBF => by
    have kA := k3.trans kF
    refine cores_of_rows (lo := w.heap.size) (hi := w.heap.size + 3) hBF q3 hRl hRC kA (fun hx => absurd (hN _ hx) (by omega)) ?_ (Nat.le_refl _) (by omega)
    refine ⟨h3, .slice (some pf) n cf, rr, rfl, ?_, ?_⟩
    · have hff : IsFrames (Bx N w.heap.size (w.heap.size + 3)) (((w.alloc (.cells #[.slice aw s.M.W.length cw, .slice ag s.M.G.length cg, .bool s.M.bad, .slice ac s.C.length cc, .slice al s.L.length cl] 83)).alloc (.cells #[.slice none 0 0, .slice none 0 0, .bool false, .slice none 0 0, .slice none 0 0] 83)).alloc (.cells (zeros80 s.C.length) 116)) (.slice (some pf) c.F.length cf) c.F := ⟨_, _, rfl, hf1, hf2, hf3, hf4⟩
      have h5 := IsFrames.less (IsFrames.keep hff kA) (M := N) (fun _ _ h => .inl h)
      have h6 := IsSl.take h5 (m := n) (by omega)
      show IsFrames N wF (.slice (some pf) n cf) (c.F.take (c.F.length - 1))
      rw [show c.F.length - 1 = n by omega]
      exact h6
    · exact (hrt.keep kA).less fun _ _ h => .inl h
  go_wp2
  refine bodyPost_ret (ret_cell ((((((D1.setOther (by omega) _).setCell _).setCell _).setCell _).setCell _).setCell _) Proofs.Try.results140 rfl Proofs.Try.underlying83 rfl (by kernel_rfl)) rfl ⟨_, rfl, exq, IsSys.mk rfl (hw.ext exq) (hg.ext exq) (fin _ (by with_reducible (repeat (first | assumption | exact Keep.refl _ _ | refine Keep.alloc ?_ _ | refine Keep.s ?_ (by first | assumption | exact Bx.mem (by omega) (by omega)) | refine Keep.n ?_ (by omega) | refine Keep.ext ?_ (by assumption) | refine Keep.drew ?_))) (hB3.keep (M := Bx no w.heap.size (w.heap.size + 2)) (by with_reducible (repeat (first | assumption | exact Keep.refl _ _ | refine Keep.alloc ?_ _ | refine Keep.s ?_ (by first | assumption | exact Bx.mem (by omega) (by omega)) | refine Keep.n ?_ (by omega) | refine Keep.ext ?_ (by assumption) | refine Keep.drew ?_))) (fun hx => hx.elim id (fun h => by omega)))) (IsEvs.keep hl (show Ext w _ from exq).keep)⟩

theorem Ext.storen {w w' : World} (h : Ext w w') {x o : Nat} {v : Value} (hx : w.heap.size ≤ x) : Ext w (w'.setCell ⟨x, o, none⟩ v) := h.store _ _ hx
/-- a system, one core of which is another one, if it has a frame -/
def doS (s : SysD) (id : Int) (f : CoreD → CoreD) : SysD := if (topD s id).isSome then match s.C[id.toNat]? with | some c => withS s id.toNat (f c) | none => s else s
def backS (s : SysD) (id v e : Int) : SysD := doS s id fun c => backC c v e
theorem top_some {s : SysD} {id : Int} {f : FrameD} (h : topD s id = some f) : ∃ (k : Nat) (c : CoreD), id = k ∧ s.C[k]? = some c ∧ 0 < c.F.length ∧ c.F[c.F.length - 1]? = some f := by
  unfold topD at h
  cases hh : hasD s id with
  | false => rw [hh] at h; cases h
  | true =>
    rw [hh] at h
    have h0 : 0 ≤ id := by simp [hasD] at hh; exact hh.1
    have h1 : id.toNat < s.C.length := by simp [hasD] at hh; omega
    obtain ⟨c, hc⟩ := getSome h1
    rw [if_pos rfl, hc] at h
    have hf : c.F[c.F.length - 1]? = some f := h
    refine ⟨id.toNat, c, by omega, hc, ?_, hf⟩
    rcases Nat.lt_or_ge 0 c.F.length with h | h
    · exact h
    · rw [List.getElem?_eq_none (by omega)] at hf; cases hf
theorem doS_none {s : SysD} {id : Int} {f : CoreD → CoreD} (h : topD s id = none) : doS s id f = s := by unfold doS; rw [h]; rfl
theorem doS_some {s : SysD} {k : Nat} {c : CoreD} {f : CoreD → CoreD} {g : FrameD} (h : topD s k = some g) (hc : s.C[k]? = some c) : doS s k f = withS s k (f c) := by unfold doS; rw [h]; simp [hc]
set_option maxHeartbeats 1000000 in
set_option maxRecDepth 100000 in
theorem back_ (N : Nat → Prop) (va : Value) (s : SysD) (id v e : Int) (w : World) (h : IsSys N w va s) (hN : ∀ b, N b → b < w.heap.size) (hC : s.C.length ≤ 100000) :
    Gives Proofs.Try.prog 86 #[va, .int .i64 id, .int .i64 v, .int .i64 e] w (fun r w' => IsSys N w' r (backS s id v e)) := by
  have kt := fun (w' : World) (e : Ext w w') => top_ N va s id w' (h.ext e)
  have hB := h.less (M := Bx N w.heap.size (w.heap.size + 4)) fun x hx hn => Bx.new hx hn
  obtain ⟨aw, cw, ag, cg, ac, cc, al, cl, rfl, hw, hg, hc, hl⟩ := h.opened
  cases ht : topD s id with
  | none =>
    rw [show (topD s id).isSome = false by rw [ht]; rfl] at kt
    have hd : backS s id v e = s := doS_none ht
    rw [hd]
    go_enter Proofs.Try.func86, Proofs.Try.ntmps86
    go_wp2_with (fail)
    go_at_call 81
    refine (kt _ exq).calls.mono ?_
    rintro x w1 ⟨_, rfl, hb1, u, rfl, hu⟩
    obtain ⟨tf, htf⟩ : ∃ tf, topF s id = tf := ⟨_, rfl⟩
    rw [htf] at hu
    clear htf
    obtain ⟨fa, fc, rfl, f8, fs⟩ := hu.opened
    have B0 : Box w1 w.heap.size #[.slice aw s.M.W.length cw, .slice ag s.M.G.length cg, .bool s.M.bad, .slice ac s.C.length cc, .slice al s.L.length cl] 83 := ((((Box.new _ _ _).alloc _).alloc _).alloc _).ext hb1
    have B1 : Box w1 (w.heap.size + 1) #[.int .i64 v] 3 := (((Box.two _ _ _ _ _).alloc _).alloc _).ext hb1
    have B2 : Box w1 (w.heap.size + 1 + 1) #[.int .i64 e] 25 := ((Box.three' _ _ _ _ _ _ _).alloc _).ext hb1
    have B3 : Box w1 (w.heap.size + 1 + 1 + 1) #[.slice none 0 0, .slice none 0 0, .bool false, .slice none 0 0, .slice none 0 0] 83 := (Box.four' _ _ _ _ _ _ _ _ _).ext hb1
    obtain ⟨c00, c01, c02, c03, c04, d00, d01, d02, d03, d04⟩ := cells5 B0
    obtain ⟨c30, c31, c32, c33, c34, d30, d31, d32, d33, d34⟩ := cells5 B3
    have z0 : w.heap.size < w1.heap.size := B0.lt
    have z3 : w.heap.size + 1 + 1 + 1 < w1.heap.size := B3.lt
    go_wp2
    exact bodyPost_ret (ret_cell ((((((B3.setCell _).setCell _).setCell _).setCell _).setCell _).alloc _) Proofs.Try.results86 rfl Proofs.Try.underlying83 rfl (by kernel_rfl)) rfl ⟨_, rfl, exn, IsSys.mk rfl (hw.ext exn) (hg.ext exn) (IsCores.keep hc (show Ext w _ from exn).keep) (IsEvs.keep hl (show Ext w _ from exn).keep)⟩
  | some g =>
    obtain ⟨k, c, rfl, hck, hpos, _⟩ := top_some ht
    rw [show (topD s k).isSome = true by rw [ht]; rfl] at kt
    have hd : backS s k v e = withS s k (backC c v e) := doS_some ht hck
    rw [hd]
    go_enter Proofs.Try.func86, Proofs.Try.ntmps86
    go_wp2_with (fail)
    go_at_call 81
    refine (kt _ exq).calls.mono ?_
    rintro x w1 ⟨_, rfl, hb1, u, rfl, hu⟩
    obtain ⟨tf, htf⟩ : ∃ tf, topF s k = tf := ⟨_, rfl⟩
    rw [htf] at hu
    clear htf
    obtain ⟨fa, fc, rfl, f8, fs⟩ := hu.opened
    have B0 : Box w1 w.heap.size #[.slice aw s.M.W.length cw, .slice ag s.M.G.length cg, .bool s.M.bad, .slice ac s.C.length cc, .slice al s.L.length cl] 83 := ((((Box.new _ _ _).alloc _).alloc _).alloc _).ext hb1
    have B1 : Box w1 (w.heap.size + 1) #[.int .i64 v] 3 := (((Box.two _ _ _ _ _).alloc _).alloc _).ext hb1
    have B2 : Box w1 (w.heap.size + 1 + 1) #[.int .i64 e] 25 := ((Box.three' _ _ _ _ _ _ _).alloc _).ext hb1
    have B3 : Box w1 (w.heap.size + 1 + 1 + 1) #[.slice none 0 0, .slice none 0 0, .bool false, .slice none 0 0, .slice none 0 0] 83 := (Box.four' _ _ _ _ _ _ _ _ _).ext hb1
    obtain ⟨c00, c01, c02, c03, c04, d00, d01, d02, d03, d04⟩ := cells5 B0
    obtain ⟨c30, c31, c32, c33, c34, d30, d31, d32, d33, d34⟩ := cells5 B3
    have z0 : w.heap.size < w1.heap.size := B0.lt
    have z3 : w.heap.size + 1 + 1 + 1 < w1.heap.size := B3.lt
    go_wp2_with (fail)
    go_at_call 140
    refine (changedBack_ (Bx N w.heap.size (w.heap.size + 4)) _ s k c v e (w.heap.size + 1) (w.heap.size + 1 + 1) _ (hB.ext exq) (fun b hb => hb.elim (fun h => by have := hN _ h; simp; omega) (fun h => by have := h.2; simp; omega)) hC hck hpos ((B1.alloc _).cell rfl) ((B2.alloc _).cell rfl)).calls.mono ?_
    rintro x w2 ⟨_, rfl, hb2, hu2⟩
    obtain ⟨xw, yw, xg, yg, xc, yc, xl, yl, rfl, hxw, hxg, hxc, hxl⟩ := hu2.opened
    have D3 := (B3.alloc (.cells #[.int .i64 tf.op, .int .i64 tf.pc, .int .i64 (gi tf.R 0), .int .i64 (gi tf.R 1), .int .i64 (gi tf.R 2), .int .i64 (gi tf.R 3), .int .i64 (gi tf.R 4), .int .i64 (gi tf.R 5), .int .i64 (gi tf.R 6), .int .i64 (gi tf.R 7), .slice fa tf.S.length fc] 95 (0, 0))).ext hb2
    clear c00 c01 c02 c03 c04 d00 d01 d02 d03 d04 c30 c31 c32 c33 c34 d30 d31 d32 d33 d34
    obtain ⟨c30, c31, c32, c33, c34, d30, d31, d32, d33, d34⟩ := cells5 D3
    have y3 := D3.lt
    go_wp2
    exact bodyPost_ret (ret_cell (((((D3.setCell _).setCell _).setCell _).setCell _).setCell _) Proofs.Try.results86 rfl Proofs.Try.underlying83 rfl (by kernel_rfl)) rfl ⟨_, rfl, exn, IsSys.less (IsSys.keep hu2 (by with_reducible (repeat (first | assumption | exact Keep.refl _ _ | refine Keep.alloc ?_ _ | refine Keep.s ?_ (by first | assumption | exact Bx.mem (by omega) (by omega)) | refine Keep.n ?_ (by omega) | refine Keep.ext ?_ (by assumption) | refine Keep.drew ?_)))) (fun _ _ hn => .inl hn)⟩

theorem run_append_all {α : Type} {sz : Nat} {R : World → α → List Value → Prop} {N : Nat → Prop} {w : World} {v : Value} {l : List α} {t ty e : TypeId} {z : Value} (a0 : Addr) (hT : RowType t e sz z) (hsz : 0 < sz) (h : IsSl sz R N w v l) (h0 : 0 < l.length) (hl : l.length ≤ 100000) :
    ∃ cap w' cells rows, (Builtin.append_ #[t, t] ty #[.slice (some a0) 0 0, v]).run Proofs.Try.prog w = .ok (.slice (some ⟨w.heap.size, 0, none⟩) l.length cap) w' ∧ Ext w w' ∧ l.length ≤ cap ∧ cap ≤ 9223372036854775807 ∧ Box w' w.heap.size cells e ∧ RowsIn sz cells rows ∧ rows.length = l.length ∧
      (∀ (i : Nat) x r, l[i]? = some x → rows[i]? = some r → R w x r) := by
  obtain ⟨i, hi, hz, hs, hb⟩ := hT.info
  obtain ⟨cs, rows, h1, h2, h3, h4, h5, a, cap, rfl, h6, h7, h8, h9⟩ := IsSl.rows hsz h
  obtain ⟨p, rfl⟩ : ∃ p, a = some p := by
    cases a with
    | none => have := h8 rfl; omega
    | some p => exact ⟨p, rfl⟩
  have hfit : Builtin.nextslicecap (0 + l.length) 0 * i.bytes ≤ 281474976710656 := growslice_fits (by omega) (Nat.le_trans (Nat.mul_le_mul (show 0 + l.length ≤ 100000 by omega) hb) (by decide))
  have hr := run_append_grow (P := Proofs.Try.prog) w t ty e i z hT.slice hi hz a0 0 0 [] (by simp) (by simp) p l.length cap cs (by rw [h1, hs]) (h9 p rfl) (by omega) (by omega) hfit
  simp only [Nat.zero_add] at hr
  have hge := grownCap_ge w l.length 0 e
  have hcm := grownCap_le_maxLen w l.length 0 e (by simp [maxLen]; omega)
  refine ⟨_, _, _, rows, hr, (Ext.drew _).trans (Ext.alloc _ _), hge, by simpa [maxLen] using hcm, Box.new w.drew _ _, fun j r hj => ⟨(h3 j r hj).1, fun q c hq => ?_⟩, h2, h4⟩
  have h10 := (h3 j r hj).2 q c hq
  have h11 : j * sz + q < cs.length := by
    rcases Nat.lt_or_ge (j * sz + q) cs.length with h | h
    · exact h
    · rw [List.getElem?_eq_none h] at h10; cases h10
  rw [Array.getElem?_append_left (by simp; exact h11)]
  simpa using h10
section
variable {ops : Array Oper} {rest : List Oper} {o : Oper} {a : Act} {Q : Exit → Act → World → Prop} {w : World}
theorem wpList_append_all {α : Type} {sz : Nat} {R : World → α → List Value → Prop} {N : Nat → Prop} {l : List α} {t e : TypeId} {z v : Value} {a0 : Addr} (s x : Operand) (hg : o.guard = none) (hop : o.op = Op.call { callee := Callee.builtin Builtin.append, args := #[s, x], argTypes := #[t, t] })
    (hs : a.eval s = .slice (some a0) 0 0) (hx : a.eval x = v) (hT : RowType t e sz z) (hsz : 0 < sz) (h : IsSl sz R N w v l) (h0 : 0 < l.length) (hl : l.length ≤ 100000)
    (hK : ∀ cap w' cells rows, Ext w w' → l.length ≤ cap → cap ≤ 9223372036854775807 → Box w' w.heap.size cells e → RowsIn sz cells rows → rows.length = l.length → (∀ (i : Nat) x r, l[i]? = some x → rows[i]? = some r → R w x r) →
      wpList Proofs.Try.prog ops Q rest (a.put o.dst (.slice (some ⟨w.heap.size, 0, none⟩) l.length cap)) w') : wpList Proofs.Try.prog ops Q (o :: rest) a w := by
  refine wpList_plain hg fun K hK' => ?_
  obtain ⟨cap, w', cells, rows, hrun, r1, r2, r3, r4, r5, r6, r7⟩ := run_append_all (ty := o.type) a0 hT hsz h h0 hl
  unfold Oper.wp
  simp [execOp, hop, resolve, invoke, builtin, hs, hx, hrun, Result.andThen]
  exact hK' _ _ (hK cap w' cells rows r1 r2 r3 r4 r5 r6 r7)
end
theorem RowsIn.splice {sz : Nat} {cells : Array Value} {rows : List (List Value)} (h : RowsIn sz cells rows) {i : Nat} {r r' : List Value} (hi : rows[i]? = some r) (hr : r'.length = sz) : RowsIn sz (splice cells (i * sz) r') (rows.set i r') := by
  have hlen : ∀ i r, rows[i]? = some r → ∀ j, j < sz → i * sz + j < cells.size := fun i r hi j hj => by
    have := (h i r hi).2 j (r[j]'(by rw [(h i r hi).1]; exact hj)) (List.getElem?_eq_getElem _)
    rcases Nat.lt_or_ge (i * sz + j) cells.size with h | h
    · exact h
    · rw [Array.getElem?_eq_none h] at this; cases this
  have hil : i < rows.length := by
    rcases Nat.lt_or_ge i rows.length with h | h
    · exact h
    · rw [List.getElem?_eq_none h] at hi; cases hi
  have hfit : i * sz + r'.length ≤ cells.size := by
    rw [hr]
    rcases Nat.eq_zero_or_pos sz with h0 | h0
    · subst h0
      have h1 := (h i r hi).1
      exact Nat.le_of_lt_succ (by have : i * 0 + 0 = 0 := by simp
                                  omega)
    · have := hlen i r hi (sz - 1) (by omega); omega
  intro i' q hq
  by_cases hii : i = i'
  · subst hii
    rw [set_at hil] at hq; cases hq
    refine ⟨hr, fun j c hj => ?_⟩
    have hjl : j < r'.length := by
      rcases Nat.lt_or_ge j r'.length with h | h
      · exact h
      · rw [List.getElem?_eq_none h] at hj; cases hj
    rw [splice_get _ _ _ _ hfit, if_pos (by omega), show i * sz + j - i * sz = j by omega]; exact hj
  · rw [List.getElem?_set_ne hii] at hq
    refine ⟨(h i' q hq).1, fun j c hj => ?_⟩
    have hjl : j < sz := by
      rw [← (h i' q hq).1]
      rcases Nat.lt_or_ge j q.length with h | h
      · exact h
      · rw [List.getElem?_eq_none h] at hj; cases hj
    rw [splice_get _ _ _ _ hfit, if_neg (fun hh => ?_)]
    · exact (h i' q hq).2 j c hj
    · rw [hr] at hh
      have h1 := (divmod (i := i') hjl).1
      have h2 := (divmod (i := i) (sz := sz) (j := i' * sz + j - i * sz) (by omega)).1
      rw [show i * sz + (i' * sz + j - i * sz) = i' * sz + j by omega, h1] at h2
      exact hii h2.symm
@[go_sem] theorem eql114_some (a : Addr) (n c : Nat) (w : World) : (binOp .eql 114 (.slice (some a) n c) (.slice none 0 0)).run Proofs.Try.prog w = .ok (.bool false) w := by
  have : ∀ d, (Op.equalIn (d + 1) 114 (.slice (some a) n c) (.slice none 0 0)).run Proofs.Try.prog w = .ok false w := fun d => by simp [Op.equalIn, run_underlying Proofs.Try.underlying114]
  have := this 9999
  simp only [binOp]
  simp [Op.equal, Op.maxDepth, this]
set_option maxRecDepth 100000 in
theorem cloneF_ (N : Nat → Prop) (v : Value) (l : List FrameD) (w : World) (h : IsFrames N w v l) (h0 : 0 < l.length) (hl : l.length ≤ 100000) : Gives Proofs.Try.prog 144 #[v] w (fun r w' => ∃ b cap cells rows, r = .slice (some ⟨b, 0, none⟩) l.length cap ∧ w.heap.size ≤ b ∧ l.length ≤ cap ∧ cap ≤ 9223372036854775807 ∧
    Box w' b cells 95 ∧ RowsIn 11 cells rows ∧ rows.length = l.length ∧ (∀ (i : Nat) x r, l[i]? = some x → rows[i]? = some r → RF (fun y => N y ∨ y = b) w' x r)) := by
  have hc := h
  obtain ⟨a, cap, rfl, h1, h2, h3, _⟩ := hc
  obtain ⟨p, rfl⟩ : ∃ p, a = some p := by
    cases a with
    | none => have := h3 rfl; omega
    | some p => exact ⟨p, rfl⟩
  go_enter Proofs.Try.func144, Proofs.Try.ntmps144
  go_wp2_with (at_builtin; refine wpList_append_all (.tmp 5) (.tmp 6) rfl rfl rfl rfl rowF (by decide) (IsFrames.keep h (show Ext w _ from exq).keep) h0 hl ?_; intro cap4 w4 cells rows hb4 hc1 hc2 hB hR hRl hRR)
  go_ret
  exact ⟨_, rfl, exq, _, _, _, _, rfl, by simp, hc1, hc2, (by simpa using hB), hR, hRl, fun i x r hx hr => RF.keep (RF.less (hRR i x r hx hr) (M := fun y => N y ∨ y = w.heap.size + 1) (fun y hy hn => hn.elim id fun e => by simp at hy; omega)) hb4.keep⟩

theorem frames_of_rows {N : Nat → Prop} {w wF : World} {b cap k : Nat} {cells : Array Value} {rows : List (List Value)} {l : List FrameD} {f' : FrameD} {r' : List Value} (hB : Box wF b cells 95) (hrows : RowsIn 11 cells (rows.set k r')) (hl : rows.length = l.length)
    (hRC : ∀ (i : Nat) x r, l[i]? = some x → rows[i]? = some r → RF N w x r) (hlt : ∀ x, x = b → ¬ x < w.heap.size ∨ ∀ (i : Nat) f r, l[i]? = some f → rows[i]? = some r → RF (fun y => N y ∨ y = b) w f r) (kF : Keep (fun x => N x ∨ x = b) w wF) (hn : ¬ N b) (hr' : RF N wF f' r') (hcap : l.length ≤ cap) (hm : cap ≤ 9223372036854775807) : IsFrames N wF (.slice (some ⟨b, 0, none⟩) l.length cap) (l.set k f') := by
  have hRb : ∀ (i : Nat) x r, l[i]? = some x → rows[i]? = some r → RF (fun y => N y ∨ y = b) w x r := by
    rcases hlt b rfl with h | h
    · exact fun i x r hx hr => (hRC i x r hx hr).less fun y hy hn => hn.elim id fun e => absurd (e ▸ hy) h
    · exact h
  have := IsSl.of_box (sz := 11) (R := RF N) (N := N) (cap := cap) (l := l.set k f') hB hn (by simpa using hcap) hm (fun i x hi => by
    have hil : i < l.length := by
      rcases Nat.lt_or_ge i l.length with h | h
      · exact h
      · rw [List.getElem?_eq_none (by simpa using h)] at hi; cases hi
    by_cases hik : k = i
    · subst hik
      rw [set_at hil] at hi; cases hi
      have := hrows k r' (set_at (by omega))
      exact ⟨r', this.1, this.2, hr'⟩
    · rw [List.getElem?_set_ne hik] at hi
      obtain ⟨r, hr⟩ := getSome (show i < rows.length by omega)
      have := hrows i r (by rw [List.getElem?_set_ne hik]; exact hr)
      exact ⟨r, this.1, this.2, ((hRb i x r hi hr).keep kF).less fun _ _ h => .inl h⟩)
  simpa using this
set_option maxHeartbeats 2000000 in
set_option maxRecDepth 100000 in
theorem setDo_ (N : Nat → Prop) (b K n : Nat) (cs : Array Value) (v : Value) (l : List FrameD) (g : FrameD) (fa : Option Addr) (fc p1 : Nat) (w : World) (hB : Box w b cs 116) (h0 : cs[K]? = some v) (hsz : K + 7 ≤ cs.size) (hl : IsFrames N w v l) (hn : l.length = n + 1) (hm : l.length ≤ 100000)
    (hp : Box w p1 #[.int .i64 g.op, .int .i64 g.pc, .int .i64 (gi g.R 0), .int .i64 (gi g.R 1), .int .i64 (gi g.R 2), .int .i64 (gi g.R 3), .int .i64 (gi g.R 4), .int .i64 (gi g.R 5), .int .i64 (gi g.R 6), .int .i64 (gi g.R 7), .slice fa g.S.length fc] 95) (h8 : g.R.length = 8) (hs : IsInts N w (.slice fa g.S.length fc) g.S) (ne1 : b ≠ p1) (hN : ∀ x, N x → x < w.heap.size) (hNb : N b) :
    Calls Proofs.Try.prog 143 #[.pointer (some ⟨b, K, none⟩), .pointer (some ⟨p1, 0, none⟩)] w fun x w' => x = .returned (.tuple #[]) ∧ ∃ bn cap, Box w' b (cs.setIfInBounds K (.slice (some ⟨bn, 0, none⟩) l.length cap)) 116 ∧ Keep (fun x => x = b) w w' ∧
      (∀ a, Ext a w → a.heap.size ≤ b → Ext a w') ∧ IsFrames N w' (.slice (some ⟨bn, 0, none⟩) l.length cap) (l.set n g) := by
  have hK := hB.cell (off := K) (c := v) (by rw [nth_eq]; simpa using h0)
  have hF := hB.frozen (off := K)
  have zb := hB.lt
  have zp := hp.lt
  have hnl : n < l.length := by omega
  have HN := Lib.hid hn
  clear hn
  have hcl := fun w' (e : Ext w w') => cloneF_ N v l w' (IsFrames.keep hl e.keep) (by omega) hm
  have hl0 := hl
  obtain ⟨av, cv, rfl, _, _, _, _⟩ := hl0
  go_enter Proofs.Try.func143, Proofs.Try.ntmps143
  go_wp2_with (fail)
  go_at_call 144
  refine (hcl _ (Ext.refl _)).calls.mono ?_
  rintro x w1 ⟨_, rfl, hb1, bn, cap, cells, rows, rfl, hbn, hc1, hc2, hBn, hR, hRl, hRR⟩
  have D0 := hB.ext hb1
  have DP := hp.ext hb1
  have y0 := D0.lt
  have yn := hBn.lt
  have hF1 := D0.frozen (off := K)
  have hK1 := D0.cell (off := K) (by rw [nth_eq]; simpa using h0)
  have hne : b ≠ bn := by omega
  have hnp : bn ≠ p1 := by omega
  go_wp2_with (fail)
  obtain ⟨W, hW⟩ : ∃ W, W = w1.setCell ⟨b, K, none⟩ (.slice (some ⟨bn, 0, none⟩) l.length cap) := ⟨_, rfl⟩
  have E0 : Box W b (cs.setIfInBounds K (.slice (some ⟨bn, 0, none⟩) l.length cap)) 116 := by rw [hW]; exact D0.setCell _
  have EP : Box W p1 #[.int .i64 g.op, .int .i64 g.pc, .int .i64 (gi g.R 0), .int .i64 (gi g.R 1), .int .i64 (gi g.R 2), .int .i64 (gi g.R 3), .int .i64 (gi g.R 4), .int .i64 (gi g.R 5), .int .i64 (gi g.R 6), .int .i64 (gi g.R 7), .slice fa g.S.length fc] 95 := by rw [hW]; exact DP.setOther ne1 _
  have EN : Box W bn cells 95 := by rw [hW]; exact hBn.setOther hne _
  have kW : Keep (fun x => x = b) w W := by rw [hW]; exact ((Keep.refl (fun x => x = b) w).ext hb1).setCell _ _ (.inr rfl)
  have kW1 : Keep (fun x => x = b) w1 W := by rw [hW]; exact (Keep.refl (fun x => x = b) w1).setCell _ _ (.inr rfl)
  have eW : ∀ a, Ext a w → a.heap.size ≤ b → Ext a W := fun a ha hb => by rw [hW]; exact (ha.trans hb1).store _ _ hb
  rw [← hW]
  clear hW
  have hc0 : W.cell? ⟨b, K + 0, none⟩ = some (.slice (some ⟨bn, 0, none⟩) l.length cap) := E0.cell (by rw [nth_eq]; simp [show K < cs.size by omega])
  obtain ⟨rn, hrn⟩ := getSome (show n < rows.length by omega)
  have hsn : n * 11 + 11 ≤ cells.size := by
    have h9 := hR n rn hrn
    have := h9.2 10 (rn[10]'(by rw [h9.1]; decide)) (List.getElem?_eq_getElem _)
    rcases Nat.lt_or_ge (n * 11 + 10) cells.size with h | h
    · omega
    · rw [Array.getElem?_eq_none h] at this; cases this
  apply region_lit2 (T := [12]) (L := []) (X := [bn]) (G := [eqv _, eqv _, eqv _, eqv _, eqv _, eqv _, eqv _, eqv _, eqv _, eqv (.int .i64 (n : Nat)), eqv (.agg #[.int .i64 g.op, .int .i64 g.pc, .int .i64 (gi g.R 0), .int .i64 (gi g.R 1), .int .i64 (gi g.R 2), .int .i64 (gi g.R 3), .int .i64 (gi g.R 4), .int .i64 (gi g.R 5), .int .i64 (gi g.R 6), .int .i64 (gi g.R 7), .slice fa g.S.length fc]), eqv (.pointer (some ⟨bn, n * 11, none⟩)), anyG])
  case hm => kernel_rfl
  case hop =>
    refine ⟨?_, ?_, ?_, ?_, ?_, ?_, ?_, ?_, ?_, ?_, ?_, ?_, ?_, trivial⟩
    · intro a wa hs hf hd
      have t0 := hf.off 0 (by kernel_rfl) rfl
      exact plain_ rfl (yes_eqv (o_move rfl t0) rfl)
    · intro a wa hs hf hd
      have t11 : a.eval (.tmp 11) = _ := hd.at 0 11 (by kernel_rfl)
      exact plain_ rfl (yes_eqv (o_nilCheck rfl t11) rfl)
    · intro a wa hs hf hd
      have t12 : a.eval (.tmp 12) = _ := hd.at 1 12 (by kernel_rfl)
      exact plain_ rfl (yes_eqv (o_fieldAddr rfl Proofs.Try.underlying116 rfl rfl (by kernel_rfl) t12) rfl)
    · intro a wa hs hf hd
      have t13 : a.eval (.tmp 13) = _ := hd.at 2 13 (by kernel_rfl)
      exact plain_ rfl (yes_eqv (o_load1 rfl Proofs.Try.underlying114 rfl t13 (cell_since hc0 hs rfl)) rfl)
    · intro a wa hs hf hd
      have t0 := hf.off 0 (by kernel_rfl) rfl
      exact plain_ rfl (yes_eqv (o_move rfl t0) rfl)
    · intro a wa hs hf hd
      have t15 : a.eval (.tmp 15) = _ := hd.at 4 15 (by kernel_rfl)
      exact plain_ rfl (yes_eqv (o_nilCheck rfl t15) rfl)
    · intro a wa hs hf hd
      have t16 : a.eval (.tmp 16) = _ := hd.at 5 16 (by kernel_rfl)
      exact plain_ rfl (yes_eqv (o_fieldAddr rfl Proofs.Try.underlying116 rfl rfl (by kernel_rfl) t16) rfl)
    · intro a wa hs hf hd
      have t17 : a.eval (.tmp 17) = _ := hd.at 6 17 (by kernel_rfl)
      exact plain_ rfl (yes_eqv (o_load1 rfl Proofs.Try.underlying114 rfl t17 (cell_since hc0 hs rfl)) rfl)
    · intro a wa hs hf hd
      have t18 : a.eval (.tmp 18) = _ := hd.at 7 18 (by kernel_rfl)
      exact plain_ rfl (yes_eqv (o_len rfl Proofs.Try.underlying114 t18) rfl)
    · intro a wa hs hf hd
      have t19 : a.eval (.tmp 19) = _ := hd.at 8 19 (by kernel_rfl)
      exact plain_ rfl (yes_eqv (o_sub rfl t19 rfl (by have := HN.out; rw [IntKind.wrap_i64]; omega)) rfl)
    · intro a wa hs hf hd
      have t1 := hf.off 1 (by kernel_rfl) rfl
      exact plain_ rfl (yes_eqv (o_load11 rfl Proofs.Try.underlying95 rfl (by kernel_rfl) t1 ((EP.since hs rfl).cell rfl) ((EP.since hs rfl).cell rfl) ((EP.since hs rfl).cell rfl) ((EP.since hs rfl).cell rfl) ((EP.since hs rfl).cell rfl) ((EP.since hs rfl).cell rfl) ((EP.since hs rfl).cell rfl) ((EP.since hs rfl).cell rfl) ((EP.since hs rfl).cell rfl) ((EP.since hs rfl).cell rfl) ((EP.since hs rfl).cell rfl)) rfl)
    · intro a wa hs hf hd
      have t14 : a.eval (.tmp 14) = _ := hd.at 3 14 (by kernel_rfl)
      have t20 : a.eval (.tmp 20) = _ := hd.at 9 20 (by kernel_rfl)
      have h5 := o_indexAddr (sz := 11) (o := { dst := some 22, op := Op.indexAddr 114 (Operand.tmp 14) (Operand.tmp 20), type := 0, pos := "core.go:74", after := #[], guard := none }) rfl Proofs.Try.underlying114 (by kernel_rfl) t14 t20 (by omega) (by omega) (w := wa)
      exact plain_ rfl (yes_eqv (by simpa using o_indexAddr (sz := 11) rfl Proofs.Try.underlying114 (by kernel_rfl) t14 t20 (by omega) (by omega)) rfl)
    · intro a wb wa hs1 hs hf hd hrun
      have t22 : a.eval (.tmp 22) = _ := hd.at 11 22 (by kernel_rfl)
      have t21 : a.eval (.tmp 21) = _ := hd.at 10 21 (by kernel_rfl)
      subst hrun; exact ⟨_, o_store rfl t22 t21 (EN.since hs1 rfl) (by kernel_rfl) (by simp [Value.cells, Value.oneCell']) (by simp [Value.cells]; omega) rfl, Since.put hs (.inr (by simp))⟩
  case hG => exact ⟨stable_eqv _, stable_eqv _, stable_eqv _, stable_eqv _, stable_eqv _, stable_eqv _, stable_eqv _, stable_eqv _, stable_eqv _, stable_eqv _, stable_eqv _, stable_eqv _, stable_any, trivial⟩
  case hc => kernel_rfl
  case hfin =>
    intro w5 hs5
    rintro _ rfl _ rfl _ rfl _ rfl _ rfl _ rfl _ rfl _ rfl _ rfl _ rfl _ rfl _ rfl
    rintro w6 ⟨o1, v1, ho1, hr1, rfl⟩
    cases ho1
    simp only [Act.put, List.setIfInBounds_toArray, List.set_cons_zero, List.set_cons_succ] at hr1 ⊢
    cases (hr1.symm.trans (o_store (v := .agg #[.int .i64 g.op, .int .i64 g.pc, .int .i64 (gi g.R 0), .int .i64 (gi g.R 1), .int .i64 (gi g.R 2), .int .i64 (gi g.R 3), .int .i64 (gi g.R 4), .int .i64 (gi g.R 5), .int .i64 (gi g.R 6), .int .i64 (gi g.R 7), .slice fa g.S.length fc]) (new := splice cells (n * 11) (frameCells g (.slice fa g.S.length fc))) rfl rfl rfl (EN.since hs5 rfl) (by kernel_rfl) (by simp [Value.cells, Value.oneCell']) (by simp [Value.cells]; omega) rfl))
    go_wp2
    go_end0
    have e5 : Ext W w5 := Since.to_ext hs5
    have k6 : Keep (fun x => x = bn) w5 (put w5 bn (.cells (splice cells (n * 11) (frameCells g (.slice fa g.S.length fc))) 95 (0, 0))) := (Keep.refl _ _).put _ _ (.inr rfl)
    have kN : Keep (fun x => N x ∨ x = bn) w (put w5 bn (.cells (splice cells (n * 11) (frameCells g (.slice fa g.S.length fc))) 95 (0, 0))) := ((kW.less (M := fun x => N x ∨ x = bn) (fun x _ hx => by subst hx; exact .inl hNb)).ext e5).put _ _ (.inr (.inr rfl))
    have kN1 : Keep (fun x => N x ∨ x = bn) w1 (put w5 bn (.cells (splice cells (n * 11) (frameCells g (.slice fa g.S.length fc))) 95 (0, 0))) := ((kW1.less (M := fun x => N x ∨ x = bn) (fun x _ hx => by subst hx; exact .inl hNb)).ext e5).put _ _ (.inr (.inr rfl))
    refine ⟨rfl, bn, cap, (E0.ext e5).put_other (Ne.symm hne), ?_, ?_, ?_⟩
    · exact (kW.ext e5).put _ _ (.inl (by omega))
    · exact fun a ha hb => Since.to_ext ((Since.of_ext ((eW a ha hb).trans e5)).put (.inl (by have := ha.size; omega)))
    · have hq := RowsIn.splice hR hrn (r' := frameCells g (.slice fa g.S.length fc)) rfl
      have hBf : Box (put w5 bn (.cells (splice cells (n * 11) (frameCells g (.slice fa g.S.length fc))) 95 (0, 0))) bn (splice cells (n * 11) (frameCells g (.slice fa g.S.length fc))) 95 := (EN.ext e5).put
      exact frames_of_rows hBf hq hRl (fun i x r hx hr => (hRR i x r hx hr).less fun _ _ h => .inl h) (fun x hx => .inr hRR) kN1 (fun hx => absurd (hN _ hx) (by omega)) ⟨h8, _, rfl, IsInts.less (IsInts.keep (IsInts.less hs (M := fun x => N x ∨ x = bn) (fun x hx hn => hn.elim id (fun h => absurd h (by omega)))) kN) (fun _ _ h => .inl h)⟩ hc1 hc2

def setC (c : CoreD) (g : FrameD) : CoreD := { c with F := c.F.set (c.F.length - 1) g }
set_option maxHeartbeats 1000000 in
set_option maxRecDepth 100000 in
theorem changedSet_ (N : Nat → Prop) (va : Value) (s : SysD) (k : Nat) (c : CoreD) (g : FrameD) (fa : Option Addr) (fc p1 : Nat) (w : World) (h : IsSys N w va s) (hN : ∀ b, N b → b < w.heap.size) (hC : s.C.length ≤ 100000) (hk : s.C[k]? = some c) (hF : 0 < c.F.length)
    (hFm : c.F.length ≤ 100000) (hp : Box w p1 #[.int .i64 g.op, .int .i64 g.pc, .int .i64 (gi g.R 0), .int .i64 (gi g.R 1), .int .i64 (gi g.R 2), .int .i64 (gi g.R 3), .int .i64 (gi g.R 4), .int .i64 (gi g.R 5), .int .i64 (gi g.R 6), .int .i64 (gi g.R 7), .slice fa g.S.length fc] 95) (h8 : g.R.length = 8) (hs : IsInts N w (.slice fa g.S.length fc) g.S) :
    Gives Proofs.Try.prog 140 #[va, .int .i64 k, .func (.func 143) #[] #[.pointer (some ⟨p1, 0, none⟩)]] w (fun r w' => IsSys N w' r (withS s k (setC c g))) := by
  obtain ⟨aw, cw, ag, cg, ac, cc, al, cl, rfl, hw, hg, hc, hl⟩ := h.opened
  have hkl : k < s.C.length := by
    rcases Nat.lt_or_ge k s.C.length with h | h
    · exact h
    · rw [List.getElem?_eq_none h] at hk; cases hk
  have hk1 : (k : Int) < (s.C.length : Int) := by omega
  have hc' : IsCores (Bx N w.heap.size (w.heap.size + 3)) w (.slice ac s.C.length cc) s.C := IsCores.less hc (fun x hx hn => Bx.new hx hn)
  have hq1 : p1 < w.heap.size := hp.lt
  go_enter Proofs.Try.func140, Proofs.Try.ntmps140
  go_wp2_with (fail)
  obtain ⟨w2, rows, hrun, hR, hRl, hRC, hKp, hEx⟩ := copy_cores 3 (w := (((w.alloc (.cells #[.slice aw s.M.W.length cw, .slice ag s.M.G.length cg, .bool s.M.bad, .slice ac s.C.length cc, .slice al s.L.length cl] 83)).alloc (.cells #[.slice none 0 0, .slice none 0 0, .bool false, .slice none 0 0, .slice none 0 0] 83)).alloc (.cells (zeros80 s.C.length) 116))) (IsCores.keep hc' (show Ext w (((w.alloc (.cells #[.slice aw s.M.W.length cw, .slice ag s.M.G.length cg, .bool s.M.bad, .slice ac s.C.length cc, .slice al s.L.length cl] 83)).alloc (.cells #[.slice none 0 0, .slice none 0 0, .bool false, .slice none 0 0, .slice none 0 0] 83)).alloc (.cells (zeros80 s.C.length) 116)) from exq).keep) (by omega) (Box.three' _ _ _ _ _ _ _)
  rw [hrun]
  have hE2 : Ext w w2 := hEx w exq (by omega)
  have kp := hKp (fun x => x = w.heap.size + 1 + 1) rfl
  have B0 : Box w2 w.heap.size #[.slice aw s.M.W.length cw, .slice ag s.M.G.length cg, .bool s.M.bad, .slice ac s.C.length cc, .slice al s.L.length cl] 83 := (((Box.new _ _ _).alloc _).alloc _).keep kp (by omega)
  have B1 : Box w2 (w.heap.size + 1) #[.slice none 0 0, .slice none 0 0, .bool false, .slice none 0 0, .slice none 0 0] 83 := ((Box.two _ _ _ _ _).alloc _).keep kp (by omega)
  have hE3 : Ext (((w.alloc (.cells #[.slice aw s.M.W.length cw, .slice ag s.M.G.length cg, .bool s.M.bad, .slice ac s.C.length cc, .slice al s.L.length cl] 83)).alloc (.cells #[.slice none 0 0, .slice none 0 0, .bool false, .slice none 0 0, .slice none 0 0] 83)).alloc (.cells (zeros80 s.C.length) 116)) (((w.alloc (.cells #[.slice aw s.M.W.length cw, .slice ag s.M.G.length cg, .bool s.M.bad, .slice ac s.C.length cc, .slice al s.L.length cl] 83)).alloc (.cells #[.slice none 0 0, .slice none 0 0, .bool false, .slice none 0 0, .slice none 0 0] 83)).alloc (.cells (zeros80 s.C.length) 116)) := Ext.refl _
  have kq : Keep (Bx N w.heap.size (w.heap.size + 3)) (((w.alloc (.cells #[.slice aw s.M.W.length cw, .slice ag s.M.G.length cg, .bool s.M.bad, .slice ac s.C.length cc, .slice al s.L.length cl] 83)).alloc (.cells #[.slice none 0 0, .slice none 0 0, .bool false, .slice none 0 0, .slice none 0 0] 83)).alloc (.cells (zeros80 s.C.length) 116)) w2 := hKp _ (Bx.mem (by omega) (by omega))
  clear hKp hEx hrun
  obtain ⟨cells, hBx, hrows⟩ := hR
  obtain ⟨r, hr⟩ := getSome (show k < rows.length by omega)
  obtain ⟨h3, f, rr, rfl, hf, hrt⟩ := hRC k c r hk hr
  obtain ⟨af, cf, hff, hf1, hf2, hf3, hf4⟩ := hf
  obtain ⟨n, hn⟩ : ∃ n, c.F.length = n + 1 := ⟨c.F.length - 1, by omega⟩
  subst hff
  have h0 : cells[k * 7]? = some (.slice af c.F.length cf) := (hrows k _ hr).2 0 _ rfl
  have hsz : k * 7 + 7 ≤ cells.size := by
    have := (hrows k _ hr).2 6 _ rfl
    rcases Nat.lt_or_ge (k * 7 + 6) cells.size with h | h
    · omega
    · rw [Array.getElem?_eq_none h] at this; cases this
  obtain ⟨c00, c01, c02, c03, c04, d00, d01, d02, d03, d04⟩ := cells5 B0
  obtain ⟨c10, c11, c12, c13, c14, d10, d11, d12, d13, d14⟩ := cells5 B1
  have z0 := B0.lt
  have z1 := B1.lt
  have z2 := hBx.lt
  go_wp2_with (fail)
  go_at_call 143
  have hf' : IsFrames (Bx N w.heap.size (w.heap.size + 3)) w2 (.slice af c.F.length cf) c.F := IsFrames.keep (⟨_, _, rfl, hf1, hf2, hf3, hf4⟩ : IsFrames (Bx N w.heap.size (w.heap.size + 3)) (((w.alloc (.cells #[.slice aw s.M.W.length cw, .slice ag s.M.G.length cg, .bool s.M.bad, .slice ac s.C.length cc, .slice al s.L.length cl] 83)).alloc (.cells #[.slice none 0 0, .slice none 0 0, .bool false, .slice none 0 0, .slice none 0 0] 83)).alloc (.cells (zeros80 s.C.length) 116)) (.slice af c.F.length cf) c.F) kq
  have hs' : IsInts (Bx N w.heap.size (w.heap.size + 3)) w2 (.slice fa g.S.length fc) g.S := (IsInts.less hs (fun x hx hn => Bx.new hx hn)).ext hE2
  refine (setDo_ (Bx N w.heap.size (w.heap.size + 3)) (w.heap.size + 1 + 1) (k * 7) n cells _ c.F g fa fc p1 w2 hBx h0 hsz hf' hn hFm (hp.ext hE2) h8 hs' (by omega) (fun x hx => hx.elim (fun h => by have := hN _ h; omega) (fun h => by have := h.2; omega)) (Bx.mem (by omega) (by omega))).mono ?_
  rintro x w3 ⟨rfl, bn, cap3, hB3, hK3, hE3', hFr⟩
  have hEw : Ext w w3 := hE3' w hE2 (by omega)
  have D0 := B0.keep hK3 (by omega)
  have D1 := B1.keep hK3 (by omega)
  clear c00 c01 c02 c03 c04 d00 d01 d02 d03 d04 c10 c11 c12 c13 c14 d10 d11 d12 d13 d14
  obtain ⟨c00, c01, c02, c03, c04, d00, d01, d02, d03, d04⟩ := cells5 D0
  obtain ⟨c10, c11, c12, c13, c14, d10, d11, d12, d13, d14⟩ := cells5 D1
  have y0 := D0.lt
  have y1 := D1.lt
  have k3 : Keep (Bx N w.heap.size (w.heap.size + 3)) (((w.alloc (.cells #[.slice aw s.M.W.length cw, .slice ag s.M.G.length cg, .bool s.M.bad, .slice ac s.C.length cc, .slice al s.L.length cl] 83)).alloc (.cells #[.slice none 0 0, .slice none 0 0, .bool false, .slice none 0 0, .slice none 0 0] 83)).alloc (.cells (zeros80 s.C.length) 116)) w3 := kq.trans (hK3.less fun x _ hx => by subst hx; exact Bx.mem (by omega) (by omega))
  have hRk : rows[k]? = some (coreCells c (.slice af c.F.length cf) rr) := hr
  have q3 := RowsIn.set (sz := 7) hrows hRk (o := 0) (by decide) (.slice (some ⟨bn, 0, none⟩) c.F.length cap3)
  have fin : ∀ wF, Keep (Bx N w.heap.size (w.heap.size + 3)) w3 wF → Box wF (w.heap.size + 1 + 1) (cells.setIfInBounds (k * 7) (.slice (some ⟨bn, 0, none⟩) c.F.length cap3)) 116 → IsCores N wF (.slice (some ⟨w.heap.size + 1 + 1, 0, none⟩) s.C.length s.C.length) (s.C.set k (setC c g)) := fun wF kF hBF => by
    have kA := k3.trans kF
    refine cores_of_rows (lo := w.heap.size) (hi := w.heap.size + 3) hBF q3 hRl hRC kA (fun hx => absurd (hN _ hx) (by omega)) ?_ (Nat.le_refl _) (by omega)
    refine ⟨h3, .slice (some ⟨bn, 0, none⟩) c.F.length cap3, rr, ?_, ?_, ?_⟩
    · rfl
    · have h6 := IsFrames.less (IsFrames.keep hFr kF) (M := N) (fun _ _ h => .inl h)
      show IsFrames N wF (.slice (some ⟨bn, 0, none⟩) c.F.length cap3) (c.F.set (c.F.length - 1) g)
      rw [show c.F.length - 1 = n by omega]
      exact h6
    · exact (hrt.keep kA).less fun _ _ h => .inl h
  go_wp2
  refine bodyPost_ret (ret_cell ((((((D1.setOther (by omega) _).setCell _).setCell _).setCell _).setCell _).setCell _) Proofs.Try.results140 rfl Proofs.Try.underlying83 rfl (by kernel_rfl)) rfl ⟨_, rfl, exq, IsSys.mk rfl (hw.ext exq) (hg.ext exq) (fin _ (by with_reducible (repeat (first | assumption | exact Keep.refl _ _ | refine Keep.alloc ?_ _ | refine Keep.s ?_ (by first | assumption | exact Bx.mem (by omega) (by omega)) | refine Keep.n ?_ (by omega) | refine Keep.ext ?_ (by assumption) | refine Keep.drew ?_))) (hB3.keep (M := Bx no w.heap.size (w.heap.size + 2)) (by with_reducible (repeat (first | assumption | exact Keep.refl _ _ | refine Keep.alloc ?_ _ | refine Keep.s ?_ (by first | assumption | exact Bx.mem (by omega) (by omega)) | refine Keep.n ?_ (by omega) | refine Keep.ext ?_ (by assumption) | refine Keep.drew ?_))) (fun hx => hx.elim id (fun h => by omega)))) (IsEvs.keep hl (show Ext w _ from exq).keep)⟩

def setS (s : SysD) (id : Int) (g : FrameD) : SysD := doS s id fun c => setC c g
set_option maxHeartbeats 1000000 in
set_option maxRecDepth 100000 in
theorem set_ (N : Nat → Prop) (va vf : Value) (s : SysD) (id : Int) (g : FrameD) (w : World) (h : IsSys N w va s) (hf : IsFrame N w vf g) (hN : ∀ b, N b → b < w.heap.size) (hC : s.C.length ≤ 100000) (hFm : ∀ (i : Nat) c, s.C[i]? = some c → c.F.length ≤ 100000) :
    Gives Proofs.Try.prog 85 #[va, .int .i64 id, vf] w (fun r w' => IsSys N w' r (setS s id g)) := by
  have kt := fun (w' : World) (e : Ext w w') => top_ N va s id w' (h.ext e)
  have hB := h.less (M := Bx N w.heap.size (w.heap.size + 3)) fun x hx hn => Bx.new hx hn
  obtain ⟨aw, cw, ag, cg, ac, cc, al, cl, rfl, hw, hg, hc, hl⟩ := h.opened
  obtain ⟨ga, gc, rfl, g8, gs⟩ := hf.opened
  cases ht : topD s id with
  | none =>
    rw [show (topD s id).isSome = false by rw [ht]; rfl] at kt
    have hd : setS s id g = s := doS_none ht
    rw [hd]
    go_enter Proofs.Try.func85, Proofs.Try.ntmps85
    go_wp2_with (fail)
    go_at_call 81
    refine (kt _ exq).calls.mono ?_
    rintro x w1 ⟨_, rfl, hb1, u, rfl, hu⟩
    obtain ⟨tf, htf⟩ : ∃ tf, topF s id = tf := ⟨_, rfl⟩
    rw [htf] at hu
    clear htf
    obtain ⟨fa, fc, rfl, f8, fs⟩ := hu.opened
    have B0 : Box w1 w.heap.size #[.slice aw s.M.W.length cw, .slice ag s.M.G.length cg, .bool s.M.bad, .slice ac s.C.length cc, .slice al s.L.length cl] 83 := (((Box.new _ _ _).alloc _).alloc _).ext hb1
    have B1 : Box w1 (w.heap.size + 1) #[.int .i64 g.op, .int .i64 g.pc, .int .i64 (gi g.R 0), .int .i64 (gi g.R 1), .int .i64 (gi g.R 2), .int .i64 (gi g.R 3), .int .i64 (gi g.R 4), .int .i64 (gi g.R 5), .int .i64 (gi g.R 6), .int .i64 (gi g.R 7), .slice ga g.S.length gc] 95 := ((Box.two _ _ _ _ _).alloc _).ext hb1
    have B3 : Box w1 (w.heap.size + 1 + 1) #[.slice none 0 0, .slice none 0 0, .bool false, .slice none 0 0, .slice none 0 0] 83 := (Box.three' _ _ _ _ _ _ _).ext hb1
    obtain ⟨c00, c01, c02, c03, c04, d00, d01, d02, d03, d04⟩ := cells5 B0
    obtain ⟨c30, c31, c32, c33, c34, d30, d31, d32, d33, d34⟩ := cells5 B3
    have z0 : w.heap.size < w1.heap.size := B0.lt
    have z3 : w.heap.size + 1 + 1 < w1.heap.size := B3.lt
    go_wp2
    exact bodyPost_ret (ret_cell ((((((B3.setCell _).setCell _).setCell _).setCell _).setCell _).alloc _) Proofs.Try.results85 rfl Proofs.Try.underlying83 rfl (by kernel_rfl)) rfl ⟨_, rfl, exn, IsSys.mk rfl (hw.ext exn) (hg.ext exn) (IsCores.keep hc (show Ext w _ from exn).keep) (IsEvs.keep hl (show Ext w _ from exn).keep)⟩
  | some g0 =>
    obtain ⟨k, c, rfl, hck, hpos, _⟩ := top_some ht
    rw [show (topD s k).isSome = true by rw [ht]; rfl] at kt
    have hd : setS s k g = withS s k (setC c g) := doS_some ht hck
    rw [hd]
    go_enter Proofs.Try.func85, Proofs.Try.ntmps85
    go_wp2_with (fail)
    go_at_call 81
    refine (kt _ exq).calls.mono ?_
    rintro x w1 ⟨_, rfl, hb1, u, rfl, hu⟩
    obtain ⟨tf, htf⟩ : ∃ tf, topF s k = tf := ⟨_, rfl⟩
    rw [htf] at hu
    clear htf
    obtain ⟨fa, fc, rfl, f8, fs⟩ := hu.opened
    have B0 : Box w1 w.heap.size #[.slice aw s.M.W.length cw, .slice ag s.M.G.length cg, .bool s.M.bad, .slice ac s.C.length cc, .slice al s.L.length cl] 83 := (((Box.new _ _ _).alloc _).alloc _).ext hb1
    have B1 : Box w1 (w.heap.size + 1) #[.int .i64 g.op, .int .i64 g.pc, .int .i64 (gi g.R 0), .int .i64 (gi g.R 1), .int .i64 (gi g.R 2), .int .i64 (gi g.R 3), .int .i64 (gi g.R 4), .int .i64 (gi g.R 5), .int .i64 (gi g.R 6), .int .i64 (gi g.R 7), .slice ga g.S.length gc] 95 := ((Box.two _ _ _ _ _).alloc _).ext hb1
    have B3 : Box w1 (w.heap.size + 1 + 1) #[.slice none 0 0, .slice none 0 0, .bool false, .slice none 0 0, .slice none 0 0] 83 := (Box.three' _ _ _ _ _ _ _).ext hb1
    obtain ⟨c00, c01, c02, c03, c04, d00, d01, d02, d03, d04⟩ := cells5 B0
    obtain ⟨c30, c31, c32, c33, c34, d30, d31, d32, d33, d34⟩ := cells5 B3
    have z0 : w.heap.size < w1.heap.size := B0.lt
    have z3 : w.heap.size + 1 + 1 < w1.heap.size := B3.lt
    go_wp2_with (fail)
    go_at_call 140
    have hgs : IsInts (Bx N w.heap.size (w.heap.size + 3)) w (.slice ga g.S.length gc) g.S := IsInts.less gs fun x hx hn => Bx.new hx hn
    refine (changedSet_ (Bx N w.heap.size (w.heap.size + 3)) _ s k c g ga gc (w.heap.size + 1) _ (hB.ext exq) (fun b hb => hb.elim (fun h => by have := hN _ h; simp; omega) (fun h => by have := h.2; simp; omega)) hC hck hpos (hFm k c hck) (B1.alloc _) g8 (hgs.ext exq)).calls.mono ?_
    rintro x w2 ⟨_, rfl, hb2, hu2⟩
    obtain ⟨xw, yw, xg, yg, xc, yc, xl, yl, rfl, hxw, hxg, hxc, hxl⟩ := hu2.opened
    have D3 := (B3.alloc (.cells #[.int .i64 tf.op, .int .i64 tf.pc, .int .i64 (gi tf.R 0), .int .i64 (gi tf.R 1), .int .i64 (gi tf.R 2), .int .i64 (gi tf.R 3), .int .i64 (gi tf.R 4), .int .i64 (gi tf.R 5), .int .i64 (gi tf.R 6), .int .i64 (gi tf.R 7), .slice fa tf.S.length fc] 95 (0, 0))).ext hb2
    clear c00 c01 c02 c03 c04 d00 d01 d02 d03 d04 c30 c31 c32 c33 c34 d30 d31 d32 d33 d34
    obtain ⟨c30, c31, c32, c33, c34, d30, d31, d32, d33, d34⟩ := cells5 D3
    have y3 := D3.lt
    go_wp2
    exact bodyPost_ret (ret_cell (((((D3.setCell _).setCell _).setCell _).setCell _).setCell _) Proofs.Try.results85 rfl Proofs.Try.underlying83 rfl (by kernel_rfl)) rfl ⟨_, rfl, exn, IsSys.less (IsSys.keep hu2 (by with_reducible (repeat (first | assumption | exact Keep.refl _ _ | refine Keep.alloc ?_ _ | refine Keep.s ?_ (by first | assumption | exact Bx.mem (by omega) (by omega)) | refine Keep.n ?_ (by omega) | refine Keep.ext ?_ (by assumption) | refine Keep.drew ?_)))) (fun _ _ hn => .inl hn)⟩

def isOne (B : Nat) (cs : Array Value) : GP := fun v w => ∃ b, v = .slice (some ⟨b, 0, none⟩) 1 1 ∧ B ≤ b ∧ Box w b cs 95
theorem stable_isOne (B : Nat) (cs : Array Value) : Stable (isOne B cs) := fun _ _ _ ⟨b, h1, h2, h3⟩ hx => ⟨b, h1, h2, h3.ext hx⟩
def isGrown (N : Nat → Prop) (B : Nat) (l : List FrameD) : GP := fun v w => ∃ b cap, v = .slice (some ⟨b, 0, none⟩) l.length cap ∧ B ≤ b ∧ b < w.heap.size ∧ IsFrames N w (.slice (some ⟨b, 0, none⟩) l.length cap) l
theorem stable_isGrown (N : Nat → Prop) (B : Nat) (l : List FrameD) : Stable (isGrown N B l) := fun _ _ _ ⟨b, c, h1, h2, h3, h4⟩ hx => ⟨b, c, h1, h2, Nat.lt_of_lt_of_le h3 hx.size, IsFrames.keep h4 hx.keep⟩
theorem yes_one {o : Oper} {a : Act} {w : World} {x : Operand} {B : Nat} {g : FrameD} {fa : Option Addr} {fc : Nat} (ho : o.op = .buildSlice 114 1 #[(0, x)]) (hx : a.eval x = .agg #[.int .i64 g.op, .int .i64 g.pc, .int .i64 (gi g.R 0), .int .i64 (gi g.R 1), .int .i64 (gi g.R 2), .int .i64 (gi g.R 3), .int .i64 (gi g.R 4), .int .i64 (gi g.R 5), .int .i64 (gi g.R 6), .int .i64 (gi g.R 7), .slice fa g.S.length fc]) (hd : o.dst.isSome = true) (hB : B ≤ w.heap.size) : Yes Proofs.Try.prog o a w (isOne B #[.int .i64 g.op, .int .i64 g.pc, .int .i64 (gi g.R 0), .int .i64 (gi g.R 1), .int .i64 (gi g.R 2), .int .i64 (gi g.R 3), .int .i64 (gi g.R 4), .int .i64 (gi g.R 5), .int .i64 (gi g.R 6), .int .i64 (gi g.R 7), .slice fa g.S.length fc]) := by
  obtain ⟨i, hi, hz, hs, _⟩ := rowF.info
  refine yes_val (v := .slice (some ⟨w.heap.size, 0, none⟩) 1 1) (w' := w.alloc (.cells #[.int .i64 g.op, .int .i64 g.pc, .int .i64 (gi g.R 0), .int .i64 (gi g.R 1), .int .i64 (gi g.R 2), .int .i64 (gi g.R 3), .int .i64 (gi g.R 4), .int .i64 (gi g.R 5), .int .i64 (gi g.R 6), .int .i64 (gi g.R 7), .slice fa g.S.length fc] 95)) ?_ (Ext.alloc _ _) ⟨_, rfl, hB, Box.new _ _ _⟩ hd
  have := run_buildSlice (P := Proofs.Try.prog) w 114 95 1 #[(0, .agg #[.int .i64 g.op, .int .i64 g.pc, .int .i64 (gi g.R 0), .int .i64 (gi g.R 1), .int .i64 (gi g.R 2), .int .i64 (gi g.R 3), .int .i64 (gi g.R 4), .int .i64 (gi g.R 5), .int .i64 (gi g.R 6), .int .i64 (gi g.R 7), .slice fa g.S.length fc])] #[.int .i64 g.op, .int .i64 g.pc, .int .i64 (gi g.R 0), .int .i64 (gi g.R 1), .int .i64 (gi g.R 2), .int .i64 (gi g.R 3), .int .i64 (gi g.R 4), .int .i64 (gi g.R 5), .int .i64 (gi g.R 6), .int .i64 (gi g.R 7), .slice fa g.S.length fc] i _ Proofs.Try.underlying114 hi hz (by rw [hs]; decide) (by rw [hs]; decide) (by rw [hs]; first | kernel_rfl | simp [Instr.fill, Value.cells])
  simp [execOp, ho, hx, this]
theorem yes_append1 {o : Oper} {a : Act} {w : World} {s x : Operand} {B b : Nat} {N : Nat → Prop} {l : List FrameD} {g : FrameD} {al fa : Option Addr} {fc : Nat} (ho : o.op = Op.call { callee := Callee.builtin Builtin.append, args := #[s, x], argTypes := #[114, 114] })
    (hs : a.eval s = .slice al l.length l.length) (hx : a.eval x = .slice (some ⟨b, 0, none⟩) 1 1) (hl : IsFrames N w (.slice al l.length l.length) l) (hm : l.length ≤ 100000) (hb : Box w b #[.int .i64 g.op, .int .i64 g.pc, .int .i64 (gi g.R 0), .int .i64 (gi g.R 1), .int .i64 (gi g.R 2), .int .i64 (gi g.R 3), .int .i64 (gi g.R 4), .int .i64 (gi g.R 5), .int .i64 (gi g.R 6), .int .i64 (gi g.R 7), .slice fa g.S.length fc] 95) (h8 : g.R.length = 8) (hg : IsInts N w (.slice fa g.S.length fc) g.S) (hn : ¬ N w.heap.size) (hd : o.dst.isSome = true) (hB : B ≤ w.heap.size) :
    Yes Proofs.Try.prog o a w (isGrown N B (l ++ [g])) := by
  obtain ⟨a', cap, w', hrun, r1, r2, bb, rfl, r3⟩ := run_append_one (ty := o.type) (c := 1) (be := ⟨b, 0, none⟩) (x := g) (r := frameCells g (.slice fa g.S.length fc)) rowF (by decide) hl hm rfl
    (fun j c hj => by rw [show (⟨b, 0, none⟩ : Addr).add j = ⟨b, j, none⟩ by unfold Addr.add; split <;> simp_all]; exact hb.cell (by rw [nth_eq]; simpa [frameCells] using hj)) ⟨h8, _, rfl, hg⟩ (fun _ _ _ e h => h.keep e.keep) hn
  refine yes_val (v := .slice (some ⟨bb, 0, none⟩) (l.length + 1) cap) (w' := w') ?_ r1 ⟨bb, cap, by simp, by omega, ?_, by simpa using r2⟩ hd
  · simp [execOp, ho, resolve, invoke, builtin, hs, hx, hrun, Result.andThen]
  · obtain ⟨_, _, e, _, _, _, h4⟩ := r2
    simp at e
    obtain ⟨rfl, rfl⟩ := e
    obtain ⟨b2, _, _, e2, h5, _⟩ := h4 l.length g (by simp)
    cases e2; exact h5
set_option maxHeartbeats 2000000 in
set_option maxRecDepth 100000 in
theorem callDo_ (N : Nat → Prop) (b K : Nat) (cs : Array Value) (v : Value) (l : List FrameD) (g : FrameD) (fa : Option Addr) (fc p1 : Nat) (w : World) (hB : Box w b cs 116) (h0 : cs[K]? = some v) (hsz : K + 7 ≤ cs.size) (hl : IsFrames N w v l) (hm : l.length ≤ 100000)
    (hp : Box w p1 #[.int .i64 g.op, .int .i64 g.pc, .int .i64 (gi g.R 0), .int .i64 (gi g.R 1), .int .i64 (gi g.R 2), .int .i64 (gi g.R 3), .int .i64 (gi g.R 4), .int .i64 (gi g.R 5), .int .i64 (gi g.R 6), .int .i64 (gi g.R 7), .slice fa g.S.length fc] 95) (h8 : g.R.length = 8) (hs : IsInts N w (.slice fa g.S.length fc) g.S) (ne1 : b ≠ p1) (hN : ∀ x, N x → x < w.heap.size) (hNb : N b) :
    Calls Proofs.Try.prog 141 #[.pointer (some ⟨b, K, none⟩), .pointer (some ⟨p1, 0, none⟩)] w fun x w' => x = .returned (.tuple #[]) ∧ ∃ bn cap, Box w' b (cs.setIfInBounds K (.slice (some ⟨bn, 0, none⟩) (l ++ [g]).length cap)) 116 ∧ Keep (fun x => x = b) w w' ∧
      (∀ a, Ext a w → a.heap.size ≤ b → Ext a w') ∧ IsFrames N w' (.slice (some ⟨bn, 0, none⟩) (l ++ [g]).length cap) (l ++ [g]) := by
  have zb := hB.lt
  have zp := hp.lt
  have hl0 := hl
  obtain ⟨av, cv, rfl, hc1, hc2, hc3, _⟩ := hl0
  have hc0 : w.cell? ⟨b, K + 0, none⟩ = some (.slice av l.length cv) := hB.cell (by rw [nth_eq]; simpa using h0)
  go_enter Proofs.Try.func141, Proofs.Try.ntmps141
  go_wp2_with (fail)
  apply region_lit2 (T := [11]) (L := [9, 10]) (X := [b]) (G := [eqv _, eqv _, eqv _, eqv _, eqv (.slice av l.length cv), eqv (.slice av l.length l.length), eqv (.agg #[.int .i64 g.op, .int .i64 g.pc, .int .i64 (gi g.R 0), .int .i64 (gi g.R 1), .int .i64 (gi g.R 2), .int .i64 (gi g.R 3), .int .i64 (gi g.R 4), .int .i64 (gi g.R 5), .int .i64 (gi g.R 6), .int .i64 (gi g.R 7), .slice fa g.S.length fc]), isOne w.heap.size #[.int .i64 g.op, .int .i64 g.pc, .int .i64 (gi g.R 0), .int .i64 (gi g.R 1), .int .i64 (gi g.R 2), .int .i64 (gi g.R 3), .int .i64 (gi g.R 4), .int .i64 (gi g.R 5), .int .i64 (gi g.R 6), .int .i64 (gi g.R 7), .slice fa g.S.length fc], isGrown N w.heap.size (l ++ [g]), eqv _, eqv _, anyG])
  case hm => kernel_rfl
  case hop =>
    refine ⟨?_, ?_, ?_, ?_, ?_, ?_, ?_, ?_, ?_, ?_, ?_, ?_, trivial⟩
    · intro a wa hs1 hf hd
      have t0 := hf.off 0 (by kernel_rfl) rfl
      exact plain_ rfl (yes_eqv (o_move rfl t0) rfl)
    · intro a wa hs1 hf hd
      have t0 := hf.off 0 (by kernel_rfl) rfl
      exact plain_ rfl (yes_eqv (o_move rfl t0) rfl)
    · intro a wa hs1 hf hd
      have t4 : a.eval (.tmp 4) = _ := hd.at 1 4 (by kernel_rfl)
      exact plain_ rfl (yes_eqv (o_nilCheck rfl t4) rfl)
    · intro a wa hs1 hf hd
      have t5 : a.eval (.tmp 5) = _ := hd.at 2 5 (by kernel_rfl)
      exact plain_ rfl (yes_eqv (o_fieldAddr rfl Proofs.Try.underlying116 rfl rfl (by kernel_rfl) t5) rfl)
    · intro a wa hs1 hf hd
      have t6 : a.eval (.tmp 6) = _ := hd.at 3 6 (by kernel_rfl)
      exact plain_ rfl (yes_eqv (o_load1 rfl Proofs.Try.underlying114 rfl t6 (cell_since hc0 hs1 rfl)) rfl)
    · intro a wa hs1 hf hd
      have t7 : a.eval (.tmp 7) = _ := hd.at 4 7 (by kernel_rfl)
      exact plain_ rfl (yes_gives (clipF_ av l.length cv _ hc1 hc2 hc3) rfl rfl Proofs.Try.func142 (by kernel_rfl) (by kernel_rfl) (by simp only [List.map_toArray, List.map_cons, List.map_nil, t7]) rfl)
    · intro a wa hs1 hf hd
      have t1 := hf.off 1 (by kernel_rfl) rfl
      exact plain_ rfl (yes_eqv (o_load11 rfl Proofs.Try.underlying95 rfl (by kernel_rfl) t1 ((hp.since hs1 rfl).cell rfl) ((hp.since hs1 rfl).cell rfl) ((hp.since hs1 rfl).cell rfl) ((hp.since hs1 rfl).cell rfl) ((hp.since hs1 rfl).cell rfl) ((hp.since hs1 rfl).cell rfl) ((hp.since hs1 rfl).cell rfl) ((hp.since hs1 rfl).cell rfl) ((hp.since hs1 rfl).cell rfl) ((hp.since hs1 rfl).cell rfl) ((hp.since hs1 rfl).cell rfl)) rfl)
    · intro a wa hs1 hf hd
      have t9 : a.eval (.tmp 9) = _ := hd.at 6 9 (by kernel_rfl)
      exact plain_ rfl (yes_one rfl t9 rfl hs1.size)
    · intro a wa hs1 hf hd
      have t8 : a.eval (.tmp 8) = _ := hd.at 5 8 (by kernel_rfl)
      have t10 := hd.at 7 10 (by kernel_rfl)
      obtain ⟨bo, hbo, _, hBo⟩ := t10
      exact plain_ rfl (yes_append1 rfl t8 hbo (IsSl.cut (IsFrames.keep hl (Since.to_ext hs1).keep)) hm hBo h8 (hs.ext (Since.to_ext hs1)) (fun hx => absurd (hN _ hx) (by have := hs1.size; omega)) rfl hs1.size)
    · intro a wb wa hs1 hs2 hf hd
      have t3 : a.eval (.tmp 3) = _ := hd.at 0 3 (by kernel_rfl)
      exact plain_ rfl (late_eqv (o_nilCheck rfl t3) rfl)
    · intro a wb wa hs1 hs2 hf hd
      have t12 : a.eval (.tmp 12) = _ := hd.at 9 12 (by kernel_rfl)
      exact plain_ rfl (late_eqv (o_fieldAddr rfl Proofs.Try.underlying116 rfl rfl (by kernel_rfl) t12) rfl)
    · intro a wb wa hs1 hs2 hf hd hrun
      have t13 : a.eval (.tmp 13) = _ := hd.at 10 13 (by kernel_rfl)
      have t11 := hd.at 8 11 (by kernel_rfl)
      subst hrun; obtain ⟨bn, cap, hv, hb1, hb2, hfr⟩ := t11; exact ⟨_, o_store rfl t13 hv (hB.since hs1 rfl) (by kernel_rfl) (by simp [Value.cells, Value.oneCell']) (by simp [Value.cells]; omega) rfl, Since.put hs2 (.inr (by simp))⟩
  case hG => exact ⟨stable_eqv _, stable_eqv _, stable_eqv _, stable_eqv _, stable_eqv _, stable_eqv _, stable_eqv _, stable_isOne _ _, stable_isGrown _ _ _, stable_eqv _, stable_eqv _, stable_any, trivial⟩
  case hc => kernel_rfl
  case hfin =>
    intro w5 hs5
    rintro _ rfl _ rfl _ rfl _ rfl _ rfl _ rfl _ rfl _ ⟨bo, rfl, hbo, hBo⟩ _ ⟨bn, cap, rfl, hb1, hb2, hfr⟩ _ rfl _ rfl
    rintro w6 ⟨o1, v1, ho1, hr1, rfl⟩
    cases ho1
    simp only [Act.put, List.setIfInBounds_toArray, List.set_cons_zero, List.set_cons_succ] at hr1 ⊢
    cases (hr1.symm.trans (o_store (v := .slice (some ⟨bn, 0, none⟩) (l ++ [g]).length cap) (new := (cs.setIfInBounds (K + 0) (.slice (some ⟨bn, 0, none⟩) (l ++ [g]).length cap))) rfl rfl rfl (hB.since hs5 rfl) (by kernel_rfl) (by simp [Value.cells, Value.oneCell']) (by simp [Value.cells]; omega) rfl))
    go_wp2
    go_end0
    have e5 : Ext w w5 := Since.to_ext hs5
    refine ⟨rfl, bn, cap, (hB.since hs5 rfl).put, (((Keep.refl _ _).ext e5).put _ _ (.inr rfl)), fun a ha hb => Since.to_ext ((Since.of_ext (ha.trans e5)).put (.inl hb)), IsFrames.keep hfr ((Keep.refl N w5).put _ _ (.inr hNb))⟩

def callC (c : CoreD) (g : FrameD) : CoreD := { c with F := c.F ++ [g] }
set_option maxHeartbeats 1000000 in
set_option maxRecDepth 100000 in
theorem changedCall_ (N : Nat → Prop) (va : Value) (s : SysD) (k : Nat) (c : CoreD) (g : FrameD) (fa : Option Addr) (fc p1 : Nat) (w : World) (h : IsSys N w va s) (hN : ∀ b, N b → b < w.heap.size) (hC : s.C.length ≤ 100000) (hk : s.C[k]? = some c) 
    (hFm : c.F.length ≤ 100000) (hp : Box w p1 #[.int .i64 g.op, .int .i64 g.pc, .int .i64 (gi g.R 0), .int .i64 (gi g.R 1), .int .i64 (gi g.R 2), .int .i64 (gi g.R 3), .int .i64 (gi g.R 4), .int .i64 (gi g.R 5), .int .i64 (gi g.R 6), .int .i64 (gi g.R 7), .slice fa g.S.length fc] 95) (h8 : g.R.length = 8) (hs : IsInts N w (.slice fa g.S.length fc) g.S) :
    Gives Proofs.Try.prog 140 #[va, .int .i64 k, .func (.func 141) #[] #[.pointer (some ⟨p1, 0, none⟩)]] w (fun r w' => IsSys N w' r (withS s k (callC c g))) := by
  obtain ⟨aw, cw, ag, cg, ac, cc, al, cl, rfl, hw, hg, hc, hl⟩ := h.opened
  have hkl : k < s.C.length := by
    rcases Nat.lt_or_ge k s.C.length with h | h
    · exact h
    · rw [List.getElem?_eq_none h] at hk; cases hk
  have hk1 : (k : Int) < (s.C.length : Int) := by omega
  have hc' : IsCores (Bx N w.heap.size (w.heap.size + 3)) w (.slice ac s.C.length cc) s.C := IsCores.less hc (fun x hx hn => Bx.new hx hn)
  have hq1 : p1 < w.heap.size := hp.lt
  go_enter Proofs.Try.func140, Proofs.Try.ntmps140
  go_wp2_with (fail)
  obtain ⟨w2, rows, hrun, hR, hRl, hRC, hKp, hEx⟩ := copy_cores 3 (w := (((w.alloc (.cells #[.slice aw s.M.W.length cw, .slice ag s.M.G.length cg, .bool s.M.bad, .slice ac s.C.length cc, .slice al s.L.length cl] 83)).alloc (.cells #[.slice none 0 0, .slice none 0 0, .bool false, .slice none 0 0, .slice none 0 0] 83)).alloc (.cells (zeros80 s.C.length) 116))) (IsCores.keep hc' (show Ext w (((w.alloc (.cells #[.slice aw s.M.W.length cw, .slice ag s.M.G.length cg, .bool s.M.bad, .slice ac s.C.length cc, .slice al s.L.length cl] 83)).alloc (.cells #[.slice none 0 0, .slice none 0 0, .bool false, .slice none 0 0, .slice none 0 0] 83)).alloc (.cells (zeros80 s.C.length) 116)) from exq).keep) (by omega) (Box.three' _ _ _ _ _ _ _)
  rw [hrun]
  have hE2 : Ext w w2 := hEx w exq (by omega)
  have kp := hKp (fun x => x = w.heap.size + 1 + 1) rfl
  have B0 : Box w2 w.heap.size #[.slice aw s.M.W.length cw, .slice ag s.M.G.length cg, .bool s.M.bad, .slice ac s.C.length cc, .slice al s.L.length cl] 83 := (((Box.new _ _ _).alloc _).alloc _).keep kp (by omega)
  have B1 : Box w2 (w.heap.size + 1) #[.slice none 0 0, .slice none 0 0, .bool false, .slice none 0 0, .slice none 0 0] 83 := ((Box.two _ _ _ _ _).alloc _).keep kp (by omega)
  have hE3 : Ext (((w.alloc (.cells #[.slice aw s.M.W.length cw, .slice ag s.M.G.length cg, .bool s.M.bad, .slice ac s.C.length cc, .slice al s.L.length cl] 83)).alloc (.cells #[.slice none 0 0, .slice none 0 0, .bool false, .slice none 0 0, .slice none 0 0] 83)).alloc (.cells (zeros80 s.C.length) 116)) (((w.alloc (.cells #[.slice aw s.M.W.length cw, .slice ag s.M.G.length cg, .bool s.M.bad, .slice ac s.C.length cc, .slice al s.L.length cl] 83)).alloc (.cells #[.slice none 0 0, .slice none 0 0, .bool false, .slice none 0 0, .slice none 0 0] 83)).alloc (.cells (zeros80 s.C.length) 116)) := Ext.refl _
  have kq : Keep (Bx N w.heap.size (w.heap.size + 3)) (((w.alloc (.cells #[.slice aw s.M.W.length cw, .slice ag s.M.G.length cg, .bool s.M.bad, .slice ac s.C.length cc, .slice al s.L.length cl] 83)).alloc (.cells #[.slice none 0 0, .slice none 0 0, .bool false, .slice none 0 0, .slice none 0 0] 83)).alloc (.cells (zeros80 s.C.length) 116)) w2 := hKp _ (Bx.mem (by omega) (by omega))
  clear hKp hEx hrun
  obtain ⟨cells, hBx, hrows⟩ := hR
  obtain ⟨r, hr⟩ := getSome (show k < rows.length by omega)
  obtain ⟨h3, f, rr, rfl, hf, hrt⟩ := hRC k c r hk hr
  obtain ⟨af, cf, hff, hf1, hf2, hf3, hf4⟩ := hf
  subst hff
  have h0 : cells[k * 7]? = some (.slice af c.F.length cf) := (hrows k _ hr).2 0 _ rfl
  have hsz : k * 7 + 7 ≤ cells.size := by
    have := (hrows k _ hr).2 6 _ rfl
    rcases Nat.lt_or_ge (k * 7 + 6) cells.size with h | h
    · omega
    · rw [Array.getElem?_eq_none h] at this; cases this
  obtain ⟨c00, c01, c02, c03, c04, d00, d01, d02, d03, d04⟩ := cells5 B0
  obtain ⟨c10, c11, c12, c13, c14, d10, d11, d12, d13, d14⟩ := cells5 B1
  have z0 := B0.lt
  have z1 := B1.lt
  have z2 := hBx.lt
  go_wp2_with (fail)
  go_at_call 141
  have hf' : IsFrames (Bx N w.heap.size (w.heap.size + 3)) w2 (.slice af c.F.length cf) c.F := IsFrames.keep (⟨_, _, rfl, hf1, hf2, hf3, hf4⟩ : IsFrames (Bx N w.heap.size (w.heap.size + 3)) (((w.alloc (.cells #[.slice aw s.M.W.length cw, .slice ag s.M.G.length cg, .bool s.M.bad, .slice ac s.C.length cc, .slice al s.L.length cl] 83)).alloc (.cells #[.slice none 0 0, .slice none 0 0, .bool false, .slice none 0 0, .slice none 0 0] 83)).alloc (.cells (zeros80 s.C.length) 116)) (.slice af c.F.length cf) c.F) kq
  have hs' : IsInts (Bx N w.heap.size (w.heap.size + 3)) w2 (.slice fa g.S.length fc) g.S := (IsInts.less hs (fun x hx hn => Bx.new hx hn)).ext hE2
  refine (callDo_ (Bx N w.heap.size (w.heap.size + 3)) (w.heap.size + 1 + 1) (k * 7) cells _ c.F g fa fc p1 w2 hBx h0 hsz hf' hFm (hp.ext hE2) h8 hs' (by omega) (fun x hx => hx.elim (fun h => by have := hN _ h; omega) (fun h => by have := h.2; omega)) (Bx.mem (by omega) (by omega))).mono ?_
  rintro x w3 ⟨rfl, bn, cap3, hB3, hK3, hE3', hFr⟩
  have hEw : Ext w w3 := hE3' w hE2 (by omega)
  have D0 := B0.keep hK3 (by omega)
  have D1 := B1.keep hK3 (by omega)
  clear c00 c01 c02 c03 c04 d00 d01 d02 d03 d04 c10 c11 c12 c13 c14 d10 d11 d12 d13 d14
  obtain ⟨c00, c01, c02, c03, c04, d00, d01, d02, d03, d04⟩ := cells5 D0
  obtain ⟨c10, c11, c12, c13, c14, d10, d11, d12, d13, d14⟩ := cells5 D1
  have y0 := D0.lt
  have y1 := D1.lt
  have k3 : Keep (Bx N w.heap.size (w.heap.size + 3)) (((w.alloc (.cells #[.slice aw s.M.W.length cw, .slice ag s.M.G.length cg, .bool s.M.bad, .slice ac s.C.length cc, .slice al s.L.length cl] 83)).alloc (.cells #[.slice none 0 0, .slice none 0 0, .bool false, .slice none 0 0, .slice none 0 0] 83)).alloc (.cells (zeros80 s.C.length) 116)) w3 := kq.trans (hK3.less fun x _ hx => by subst hx; exact Bx.mem (by omega) (by omega))
  have hRk : rows[k]? = some (coreCells c (.slice af c.F.length cf) rr) := hr
  have q3 := RowsIn.set (sz := 7) hrows hRk (o := 0) (by decide) (.slice (some ⟨bn, 0, none⟩) (c.F ++ [g]).length cap3)
  have fin : ∀ wF, Keep (Bx N w.heap.size (w.heap.size + 3)) w3 wF → Box wF (w.heap.size + 1 + 1) (cells.setIfInBounds (k * 7) (.slice (some ⟨bn, 0, none⟩) (c.F ++ [g]).length cap3)) 116 → IsCores N wF (.slice (some ⟨w.heap.size + 1 + 1, 0, none⟩) s.C.length s.C.length) (s.C.set k (callC c g)) := fun wF kF hBF => by
    have kA := k3.trans kF
    refine cores_of_rows (lo := w.heap.size) (hi := w.heap.size + 3) hBF q3 hRl hRC kA (fun hx => absurd (hN _ hx) (by omega)) ?_ (Nat.le_refl _) (by omega)
    refine ⟨h3, .slice (some ⟨bn, 0, none⟩) (c.F ++ [g]).length cap3, rr, ?_, ?_, ?_⟩
    · rfl
    · have h6 := IsFrames.less (IsFrames.keep hFr kF) (M := N) (fun _ _ h => .inl h)
      show IsFrames N wF (.slice (some ⟨bn, 0, none⟩) (c.F ++ [g]).length cap3) (c.F ++ [g])
      exact h6
    · exact (hrt.keep kA).less fun _ _ h => .inl h
  go_wp2
  refine bodyPost_ret (ret_cell ((((((D1.setOther (by omega) _).setCell _).setCell _).setCell _).setCell _).setCell _) Proofs.Try.results140 rfl Proofs.Try.underlying83 rfl (by kernel_rfl)) rfl ⟨_, rfl, exq, IsSys.mk rfl (hw.ext exq) (hg.ext exq) (fin _ (by with_reducible (repeat (first | assumption | exact Keep.refl _ _ | refine Keep.alloc ?_ _ | refine Keep.s ?_ (by first | assumption | exact Bx.mem (by omega) (by omega)) | refine Keep.n ?_ (by omega) | refine Keep.ext ?_ (by assumption) | refine Keep.drew ?_))) (hB3.keep (M := Bx no w.heap.size (w.heap.size + 2)) (by with_reducible (repeat (first | assumption | exact Keep.refl _ _ | refine Keep.alloc ?_ _ | refine Keep.s ?_ (by first | assumption | exact Bx.mem (by omega) (by omega)) | refine Keep.n ?_ (by omega) | refine Keep.ext ?_ (by assumption) | refine Keep.drew ?_))) (fun hx => hx.elim id (fun h => by omega)))) (IsEvs.keep hl (show Ext w _ from exq).keep)⟩

/-- so many registers -/
def pad (l : List Int) : List Int := l ++ List.replicate (8 - l.length) 0
def newF (op : Int) (l : List Int) : FrameD := ⟨op, 0, pad l, []⟩
def callS (s : SysD) (id op : Int) (l : List Int) : SysD := if hasD s id then match s.C[id.toNat]? with | some c => if c.F.length < 40 then withS s id.toNat (callC c (newF op l)) else s | none => s else s
theorem newF_cells (op : Int) {l : List Int} (h : l.length ≤ 3) : splice #[.int .i64 op, .int .i64 0, .int .i64 0, .int .i64 0, .int .i64 0, .int .i64 0, .int .i64 0, .int .i64 0, .int .i64 0, .int .i64 0, .slice none 0 0] 2 (ints l) = #[.int .i64 (newF op l).op, .int .i64 (newF op l).pc, .int .i64 (gi (newF op l).R 0), .int .i64 (gi (newF op l).R 1), .int .i64 (gi (newF op l).R 2), .int .i64 (gi (newF op l).R 3), .int .i64 (gi (newF op l).R 4), .int .i64 (gi (newF op l).R 5), .int .i64 (gi (newF op l).R 6), .int .i64 (gi (newF op l).R 7), .slice none (newF op l).S.length 0] := by
  match l, h with
  | [], _ => rfl
  | [a], _ => rfl
  | [a, b], _ => rfl
  | [a, b, c], _ => rfl
theorem newF_R (op : Int) {l : List Int} (h : l.length ≤ 3) : (newF op l).R.length = 8 := by simp [newF, pad]; omega
theorem copy_args {N : Nat → Prop} {w : World} {vs : Value} {l : List Int} {b : Nat} {cells : Array Value} (hB : Box w b cells 95) (hsz : cells.size = 11) (hs : IsInts N w vs l) (hl : l.length ≤ 8) :
    ∃ w', (Builtin.copy_ #[48, 48] 3 #[.slice (some ⟨b, 2, none⟩) 8 8, vs]).run Proofs.Try.prog w = .ok (goInt l.length) w' ∧ Box w' b (splice cells 2 (ints l)) 95 ∧ (∀ M, M b → Keep M w w') ∧ (∀ a, Ext a w → a.heap.size ≤ b → Ext a w') := by
  obtain ⟨a, cap, rfl, h1, h2, h3, h4⟩ := hs
  have hlen : (ints l).length = l.length := by simp [ints]
  cases a with
  | none =>
    have hl0 : l.length = 0 := by have := h3 rfl; omega
    obtain rfl : l = [] := List.eq_nil_of_length_eq_zero hl0
    refine ⟨w, ?_, hB, fun M _ => Keep.refl _ _, fun a ha _ => ha⟩
    obtain ⟨i, hi⟩ : ∃ i, Proofs.Try.prog.info? 3 = some i := Option.isSome_iff_exists.1 (by kernel_rfl)
    simp [Builtin.copy_, run_underlying Proofs.Try.underlying48, Builtin.lenOf, Builtin.firstCells, sizeOf, typeInfo, hi, storeCells, goInt]
  | some p =>
    have hc : ∀ j v, (ints l)[j]? = some v → w.cell? (p.add j) = some v := fun j v hv => by
      rw [ints_get] at hv
      have hj : j < l.length := by
        rcases Nat.lt_or_ge j l.length with h | h
        · exact h
        · rw [List.getElem?_eq_none h] at hv; cases hv
      rw [gi_get hj] at hv
      obtain rfl : Value.int .i64 (gi l j) = v := by simpa using hv
      obtain ⟨b', o', e, _, _, hcell⟩ := h4 j hj
      cases e
      have hadd : (⟨b', o', none⟩ : Addr).add j = ⟨b', o' + j, none⟩ := by unfold Addr.add; split <;> simp_all
      rw [hadd]; exact hcell
    have hr := run_copy_cells (P := Proofs.Try.prog) w 48 48 3 3 b 2 8 8 p l.length cap (ints l) Proofs.Try.underlying48 (by kernel_rfl) (by rw [hlen]; exact (Nat.min_eq_left hl).symm) hc
      (fun j hj => by rw [hB.cell (c := cells[2 + j]'(by rw [hlen] at hj; omega)) (by rw [nth_eq]; simp)]; rfl) (fun j hj => hB.frozen) (fun v hv => by
        obtain ⟨x, _, rfl⟩ := List.mem_map.1 (show v ∈ l.map (Value.int .i64) from hv)
        rfl)
    rw [hlen] at hr
    exact ⟨_, hr, Box.setCells _ _ _ _ hB, fun M hM => setCells_keep (.inr hM) _ _ _ (Keep.refl _ _), fun a ha hb => setCells_ext hb _ _ _ ha⟩
set_option maxHeartbeats 1000000 in
set_option maxRecDepth 100000 in
theorem call_ (N : Nat → Prop) (va vs : Value) (s : SysD) (id op : Int) (l : List Int) (w : World) (h : IsSys N w va s) (hi : IsInts N w vs l) (hN : ∀ b, N b → b < w.heap.size) (hC : s.C.length ≤ 100000) (hl3 : l.length ≤ 3) :
    Gives Proofs.Try.prog 84 #[va, .int .i64 id, .int .i64 op, vs] w (fun r w' => IsSys N w' r (callS s id op l)) := by
  have kc := fun (w' : World) (e : Ext w w') => isCore_ N va s id w' (h.ext e)
  have hB := h.less (M := Bx N w.heap.size (w.heap.size + 2)) fun x hx hn => Bx.new hx hn
  obtain ⟨aw, cw, ag, cg, ac, cc, al, cl, rfl, hw, hg, hc, hl⟩ := h.opened
  obtain ⟨_, _, hv, _⟩ := hi.opened
  subst hv
  cases hh : hasD s id <;> rw [hh] at kc
  · have hd : callS s id op l = s := by simp [callS, hh]
    rw [hd]
    go_enter Proofs.Try.func84, Proofs.Try.ntmps84
    go_wp2_with (fail)
    go_at_call 139
    refine (kc _ exq).calls.mono ?_
    rintro x w1 ⟨_, rfl, hb1, rfl⟩
    have B0 : Box w1 w.heap.size #[.slice aw s.M.W.length cw, .slice ag s.M.G.length cg, .bool s.M.bad, .slice ac s.C.length cc, .slice al s.L.length cl] 83 := ((Box.new _ _ _).alloc _).ext hb1
    have B1 : Box w1 (w.heap.size + 1) #[.slice none 0 0, .slice none 0 0, .bool false, .slice none 0 0, .slice none 0 0] 83 := (Box.two _ _ _ _ _).ext hb1
    obtain ⟨c00, c01, c02, c03, c04, d00, d01, d02, d03, d04⟩ := cells5 B0
    obtain ⟨c30, c31, c32, c33, c34, d30, d31, d32, d33, d34⟩ := cells5 B1
    have z0 : w.heap.size < w1.heap.size := B0.lt
    have z3 : w.heap.size + 1 < w1.heap.size := B1.lt
    have hE1 : Ext w w1 := exq
    go_wp2
    exact bodyPost_ret (ret_cell (((((B1.setCell _).setCell _).setCell _).setCell _).setCell _) Proofs.Try.results84 rfl Proofs.Try.underlying83 rfl (by kernel_rfl)) rfl ⟨_, rfl, exn, IsSys.mk rfl (hw.ext exn) (hg.ext exn) (IsCores.keep hc (show Ext w _ from exn).keep) (IsEvs.keep hl (show Ext w _ from exn).keep)⟩
  · obtain ⟨k, rfl⟩ : ∃ k : Nat, id = k := ⟨id.toNat, by simp [hasD] at hh; omega⟩
    have hk : k < s.C.length := by simp [hasD] at hh; omega
    have hk1 : (k : Int) < (s.C.length : Int) := by omega
    obtain ⟨c, hck⟩ := getSome hk
    obtain ⟨bc, oc, af, cf, ar, cr, rfl, xc, nc, hx3, hf, hr, e0, e1, e2, e3, e4, e5, e6⟩ := IsCores.at hc hck
    by_cases hfull : c.F.length < 40
    · have hf1 : ¬ (40 : Int) ≤ (c.F.length : Int) := by omega
      have hd : callS s k op l = withS s k (callC c (newF op l)) := by simp [callS, hh, hck, hfull]
      rw [hd]
      go_enter Proofs.Try.func84, Proofs.Try.ntmps84
      go_wp2_with (fail)
      go_at_call 139
      refine (kc _ exq).calls.mono ?_
      rintro x w1 ⟨_, rfl, hb1, rfl⟩
      have B0 : Box w1 w.heap.size #[.slice aw s.M.W.length cw, .slice ag s.M.G.length cg, .bool s.M.bad, .slice (some ⟨bc, oc, none⟩) s.C.length cc, .slice al s.L.length cl] 83 := ((Box.new _ _ _).alloc _).ext hb1
      have B1 : Box w1 (w.heap.size + 1) #[.slice none 0 0, .slice none 0 0, .bool false, .slice none 0 0, .slice none 0 0] 83 := (Box.two _ _ _ _ _).ext hb1
      obtain ⟨c00, c01, c02, c03, c04, d00, d01, d02, d03, d04⟩ := cells5 B0
      obtain ⟨c30, c31, c32, c33, c34, d30, d31, d32, d33, d34⟩ := cells5 B1
      have z0 : w.heap.size < w1.heap.size := B0.lt
      have z3 : w.heap.size + 1 < w1.heap.size := B1.lt
      have hE1 : Ext w w1 := exq
      have e0a := cell_ext e0 hE1
      go_wp2_with (fail)
      have Bf := Box.new w1 #[.int .i64 op, .int .i64 0, .int .i64 0, .int .i64 0, .int .i64 0, .int .i64 0, .int .i64 0, .int .i64 0, .int .i64 0, .int .i64 0, .slice none 0 0] 95
      obtain ⟨w2, hrun, hBf, hkp, hex⟩ := copy_args (w := w1.alloc (.cells #[.int .i64 op, .int .i64 0, .int .i64 0, .int .i64 0, .int .i64 0, .int .i64 0, .int .i64 0, .int .i64 0, .int .i64 0, .int .i64 0, .slice none 0 0] 95)) Bf rfl (hi.ext (show Ext w _ from exq)) (by omega)
      rw [hrun]
      rw [newF_cells op hl3] at hBf
      have kp := hkp (fun x => x = w1.heap.size) rfl
      have hE2 : Ext w w2 := hex w exq (by omega)
      have D0 := (B0.alloc (.cells #[.int .i64 op, .int .i64 0, .int .i64 0, .int .i64 0, .int .i64 0, .int .i64 0, .int .i64 0, .int .i64 0, .int .i64 0, .int .i64 0, .slice none 0 0] 95 (0, 0))).keep kp (by omega)
      have D1 := (B1.alloc (.cells #[.int .i64 op, .int .i64 0, .int .i64 0, .int .i64 0, .int .i64 0, .int .i64 0, .int .i64 0, .int .i64 0, .int .i64 0, .int .i64 0, .slice none 0 0] 95 (0, 0))).keep kp (by omega)
      clear hkp hex hrun c00 c01 c02 c03 c04 d00 d01 d02 d03 d04 c30 c31 c32 c33 c34 d30 d31 d32 d33 d34
      obtain ⟨c00, c01, c02, c03, c04, d00, d01, d02, d03, d04⟩ := cells5 D0
      obtain ⟨c30, c31, c32, c33, c34, d30, d31, d32, d33, d34⟩ := cells5 D1
      have y0 := D0.lt
      have y1 := D1.lt
      go_wp2_with (fail)
      go_at_call 140
      refine (changedCall_ (Bx N w.heap.size (w.heap.size + 2)) _ s k c (newF op l) none 0 w1.heap.size _ (hB.ext hE2) (fun b hb => hb.elim (fun h => by have := hN _ h; omega) (fun h => by have := h.2; omega)) hC hck (by omega) hBf (newF_R op hl3) ⟨none, 0, rfl, by simp [newF], by omega, fun _ => rfl, fun i hi => by simp [newF] at hi⟩).calls.mono ?_
      rintro x w3 ⟨_, rfl, hb3, hu2⟩
      obtain ⟨xw, yw, xg, yg, xc, yc, xl, yl, rfl, hxw, hxg, hxc, hxl⟩ := hu2.opened
      have E1 := D1.ext hb3
      clear c00 c01 c02 c03 c04 d00 d01 d02 d03 d04 c30 c31 c32 c33 c34 d30 d31 d32 d33 d34
      obtain ⟨c30, c31, c32, c33, c34, d30, d31, d32, d33, d34⟩ := cells5 E1
      have y3 := E1.lt
      have hE3 : Ext w w3 := hE2.trans hb3
      go_wp2
      exact bodyPost_ret (ret_cell (((((E1.setCell _).setCell _).setCell _).setCell _).setCell _) Proofs.Try.results84 rfl Proofs.Try.underlying83 rfl (by kernel_rfl)) rfl ⟨_, rfl, exn, IsSys.less (IsSys.keep hu2 (by with_reducible (repeat (first | assumption | exact Keep.refl _ _ | refine Keep.alloc ?_ _ | refine Keep.s ?_ (by first | assumption | exact Bx.mem (by omega) (by omega)) | refine Keep.n ?_ (by omega) | refine Keep.ext ?_ (by assumption) | refine Keep.drew ?_)))) (fun _ _ hn => .inl hn)⟩
    · have hf1 : (40 : Int) ≤ (c.F.length : Int) := by omega
      have hd : callS s k op l = s := by simp [callS, hh, hck, hfull]
      rw [hd]
      go_enter Proofs.Try.func84, Proofs.Try.ntmps84
      go_wp2_with (fail)
      go_at_call 139
      refine (kc _ exq).calls.mono ?_
      rintro x w1 ⟨_, rfl, hb1, rfl⟩
      have B0 : Box w1 w.heap.size #[.slice aw s.M.W.length cw, .slice ag s.M.G.length cg, .bool s.M.bad, .slice (some ⟨bc, oc, none⟩) s.C.length cc, .slice al s.L.length cl] 83 := ((Box.new _ _ _).alloc _).ext hb1
      have B1 : Box w1 (w.heap.size + 1) #[.slice none 0 0, .slice none 0 0, .bool false, .slice none 0 0, .slice none 0 0] 83 := (Box.two _ _ _ _ _).ext hb1
      obtain ⟨c00, c01, c02, c03, c04, d00, d01, d02, d03, d04⟩ := cells5 B0
      obtain ⟨c30, c31, c32, c33, c34, d30, d31, d32, d33, d34⟩ := cells5 B1
      have z0 : w.heap.size < w1.heap.size := B0.lt
      have z3 : w.heap.size + 1 < w1.heap.size := B1.lt
      have hE1 : Ext w w1 := exq
      have e0a := cell_ext e0 hE1
      go_wp2
      exact bodyPost_ret (ret_cell (((((B1.setCell _).setCell _).setCell _).setCell _).setCell _) Proofs.Try.results84 rfl Proofs.Try.underlying83 rfl (by kernel_rfl)) rfl ⟨_, rfl, exn, IsSys.mk rfl (hw.ext exn) (hg.ext exn) (IsCores.keep hc (show Ext w _ from exn).keep) (IsEvs.keep hl (show Ext w _ from exn).keep)⟩
end Go.Proofs.Ytcfbdfgondmkoaa
