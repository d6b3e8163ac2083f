/- What is done to a core: its last frame is taken away, changed; one is laid over the others. -/
import Derived.Test.YtcfbdfgondmkoaaCoB
namespace Go.Proofs.Ytcfbdfgondmkoaa
open Go Go.RowKit
set_option linter.unusedSimpArgs false
set_option linter.unusedVariables false
set_option linter.unnecessarySimpa false


theorem o_sliceTo {o : Oper} {ac : Act} {w : World} {x h : Operand} {p : Addr} {l cap n : Nat} {t : TypeId} (ho : o.op = .slice t x none (some h) none) (ht : t = 114) (hx : ac.eval x = .slice (some p) l cap) (hh : ac.eval h = .int .i64 n) (hn : n ≤ cap) (hc : cap ≤ 9223372036854775807) :
    Runs Proofs.Try.prog o ac w (.slice (some p) n cap) := by
  subst ht
  have hi : (Proofs.Try.prog.info? 95).isSome = true := by kernel_rfl
  simp only [Runs, execOp, ho, hx, hh]
  have hb := run_sliceBound (P := Proofs.Try.prog) (w := w) .i64 (n : Int) cap .sliceAcap (by omega) (by omega)
  have hh2 := hh
  simp [Act.eval] at hh2
  simp [go_sem, hn, hh2, hb]
set_option maxHeartbeats 2000000 in
set_option maxRecDepth 100000 in
theorem backDo_ (b K n : Nat) (cs : Array Value) (p : Addr) (cf : Nat) (v e : Int) (p1 p2 : Nat) (w : World) (hB : Box w b cs 116) (h0 : cs[K]? = some (.slice (some p) (n + 1) cf)) (hsz : K + 7 ≤ cs.size) (hn : n + 1 ≤ cf) (hcf : cf ≤ 9223372036854775807)
    (hp1 : w.cell? ⟨p1, 0, none⟩ = some (.int .i64 v)) (hp2 : w.cell? ⟨p2, 0, none⟩ = some (.int .i64 e)) (ne1 : b ≠ p1) (ne2 : b ≠ p2) :
    Calls Proofs.Try.prog 145 #[.pointer (some ⟨b, K, none⟩), .pointer (some ⟨p1, 0, none⟩), .pointer (some ⟨p2, 0, none⟩)] w fun x w' => x = .returned (.tuple #[]) ∧ Box w' b (((cs.setIfInBounds (K + 0) (.slice (some p) n cf)).setIfInBounds (K + 1) (.int .i64 v)).setIfInBounds (K + 2) (.int .i64 e)) 116 ∧ Keep (fun x => x = b) w w' ∧ (∀ a, Ext a w → a.heap.size ≤ b → Ext a w') := by
  have hc0 : w.cell? ⟨b, K + 0, none⟩ = some (.slice (some p) (n + 1) cf) := hB.cell (by rw [nth_eq]; simpa using h0)
  go_enter Proofs.Try.func145, Proofs.Try.ntmps145
  go_wp2_with (fail)
  apply region_lit2 (T := [18, 21, 24]) (L := [1, 2, 14, 15, 16, 17, 19, 20, 22, 23]) (X := [b]) (G := [eqv _, eqv _, eqv _, eqv _, eqv _, eqv _, eqv _, eqv _, eqv _, eqv _, eqv _, eqv _, eqv (.int .i64 (n : Nat)), eqv (.slice (some p) n cf), eqv _, eqv _, eqv _, eqv _, anyG, eqv _, eqv _, anyG, eqv _, eqv _, anyG])
  case hm => kernel_rfl
  case hop =>
    refine ⟨?_, ?_, ?_, ?_, ?_, ?_, ?_, ?_, ?_, ?_, ?_, ?_, ?_, ?_, ?_, ?_, ?_, ?_, ?_, ?_, ?_, ?_, ?_, ?_, ?_, trivial⟩
    · intro a wa hs hf hd
      have t0 := hf.off 0 (by kernel_rfl) rfl
      exact plain_ rfl (yes_eqv (o_move rfl t0) rfl)
    · intro a wb wa hs1 hs hf hd
      have t0 := hf.off 0 (by kernel_rfl) rfl
      exact plain_ rfl (late_eqv (o_move rfl t0) rfl)
    · intro a wb wa hs1 hs hf hd
      have t0 := hf.off 0 (by kernel_rfl) rfl
      exact plain_ rfl (late_eqv (o_move rfl t0) rfl)
    · intro a wa hs hf hd
      have t0 := hf.off 0 (by kernel_rfl) rfl
      exact plain_ rfl (yes_eqv (o_move rfl t0) rfl)
    · intro a wa hs hf hd
      have t7 : a.eval (.tmp 7) = _ := hd.at 3 7 (by kernel_rfl)
      exact plain_ rfl (yes_eqv (o_nilCheck rfl t7) rfl)
    · intro a wa hs hf hd
      have t8 : a.eval (.tmp 8) = _ := hd.at 4 8 (by kernel_rfl)
      exact plain_ rfl (yes_eqv (o_fieldAddr rfl Proofs.Try.underlying116 rfl rfl (by kernel_rfl) t8) rfl)
    · intro a wa hs hf hd
      have t9 : a.eval (.tmp 9) = _ := hd.at 5 9 (by kernel_rfl)
      exact plain_ rfl (yes_eqv (o_load1 rfl Proofs.Try.underlying114 rfl t9 (cell_since hc0 hs rfl)) rfl)
    · intro a wa hs hf hd
      have t0 := hf.off 0 (by kernel_rfl) rfl
      exact plain_ rfl (yes_eqv (o_move rfl t0) rfl)
    · intro a wa hs hf hd
      have t11 : a.eval (.tmp 11) = _ := hd.at 7 11 (by kernel_rfl)
      exact plain_ rfl (yes_eqv (o_nilCheck rfl t11) rfl)
    · intro a wa hs hf hd
      have t12 : a.eval (.tmp 12) = _ := hd.at 8 12 (by kernel_rfl)
      exact plain_ rfl (yes_eqv (o_fieldAddr rfl Proofs.Try.underlying116 rfl rfl (by kernel_rfl) t12) rfl)
    · intro a wa hs hf hd
      have t13 : a.eval (.tmp 13) = _ := hd.at 9 13 (by kernel_rfl)
      exact plain_ rfl (yes_eqv (o_load1 rfl Proofs.Try.underlying114 rfl t13 (cell_since hc0 hs rfl)) rfl)
    · intro a wa hs hf hd
      have t14 : a.eval (.tmp 14) = _ := hd.at 10 14 (by kernel_rfl)
      exact plain_ rfl (yes_eqv (o_len rfl Proofs.Try.underlying114 t14) rfl)
    · intro a wa hs hf hd
      have t15 : a.eval (.tmp 15) = _ := hd.at 11 15 (by kernel_rfl)
      exact plain_ rfl (yes_eqv (o_sub rfl t15 rfl (by rw [IntKind.wrap_i64]; omega)) rfl)
    · intro a wa hs hf hd
      have t10 : a.eval (.tmp 10) = _ := hd.at 6 10 (by kernel_rfl)
      have t16 : a.eval (.tmp 16) = _ := hd.at 12 16 (by kernel_rfl)
      exact plain_ rfl (yes_eqv (o_sliceTo rfl rfl t10 t16 (by omega) hcf) rfl)
    · intro a wb wa hs1 hs hf hd
      have t1 := hf.off 1 (by kernel_rfl) rfl
      exact plain_ rfl (late_eqv (o_load1 rfl Proofs.Try.underlying3 rfl t1 (cell_since hp1 hs (by simpa using ne1.symm))) rfl)
    · intro a wb wa hs1 hs hf hd
      have t2 := hf.off 2 (by kernel_rfl) rfl
      exact plain_ rfl (late_eqv (o_load1 rfl Proofs.Try.underlying25 rfl t2 (cell_since hp2 hs (by simpa using ne2.symm))) rfl)
    · intro a wb wa hs1 hs hf hd
      have t4 : a.eval (.tmp 4) = _ := hd.at 0 4 (by kernel_rfl)
      exact plain_ rfl (late_eqv (o_nilCheck rfl t4) rfl)
    · intro a wb wa hs1 hs hf hd
      have t20 : a.eval (.tmp 20) = _ := hd.at 16 20 (by kernel_rfl)
      exact plain_ rfl (late_eqv (o_fieldAddr rfl Proofs.Try.underlying116 rfl rfl (by kernel_rfl) t20) rfl)
    · intro a wb wa hs1 hs hf hd hrun
      have t21 : a.eval (.tmp 21) = _ := hd.at 17 21 (by kernel_rfl)
      have t17 : a.eval (.tmp 17) = _ := hd.at 13 17 (by kernel_rfl)
      subst hrun; exact ⟨_, o_store rfl t21 t17 (hB.since hs1 rfl) (by kernel_rfl) (by simp [Value.cells, Value.oneCell']) (by simp [Value.cells]; omega) rfl, Since.put hs (.inr (by simp))⟩
    · intro a wb wa hs1 hs hf hd
      have t5 : a.eval (.tmp 5) = _ := hd.at 1 5 (by kernel_rfl)
      exact plain_ rfl (late_eqv (o_nilCheck rfl t5) rfl)
    · intro a wb wa hs1 hs hf hd
      have t22 : a.eval (.tmp 22) = _ := hd.at 19 22 (by kernel_rfl)
      exact plain_ rfl (late_eqv (o_fieldAddr rfl Proofs.Try.underlying116 rfl rfl (by kernel_rfl) t22) rfl)
    · intro a wb wa hs1 hs hf hd hrun
      have t23 : a.eval (.tmp 23) = _ := hd.at 20 23 (by kernel_rfl)
      have t18 : a.eval (.tmp 18) = _ := hd.at 14 18 (by kernel_rfl)
      have t21 : a.eval (.tmp 21) = _ := hd.at 17 21 (by kernel_rfl)
      have t17 : a.eval (.tmp 17) = _ := hd.at 13 17 (by kernel_rfl)
      obtain ⟨o1, v1, ho1, hr1, rfl⟩ := hrun
      cases ho1
      cases (hr1.symm.trans (o_store (v := .slice (some p) n cf) (new := (cs.setIfInBounds (K + 0) (.slice (some p) n cf))) rfl t21 t17 (hB.since hs1 rfl) (by kernel_rfl) (by simp [Value.cells, Value.oneCell']) (by simp [Value.cells]; omega) rfl))
      exact ⟨_, o_store rfl t23 t18 (hB.since hs1 rfl).put (by kernel_rfl) (by simp [Value.cells, Value.oneCell']) (by simp [Value.cells]; omega) rfl, Since.put hs (.inr (by simp))⟩
    · intro a wb wa hs1 hs hf hd
      have t6 : a.eval (.tmp 6) = _ := hd.at 2 6 (by kernel_rfl)
      exact plain_ rfl (late_eqv (o_nilCheck rfl t6) rfl)
    · intro a wb wa hs1 hs hf hd
      have t24 : a.eval (.tmp 24) = _ := hd.at 22 24 (by kernel_rfl)
      exact plain_ rfl (late_eqv (o_fieldAddr rfl Proofs.Try.underlying116 rfl rfl (by kernel_rfl) t24) rfl)
    · intro a wb wa hs1 hs hf hd hrun
      have t25 : a.eval (.tmp 25) = _ := hd.at 23 25 (by kernel_rfl)
      have t19 : a.eval (.tmp 19) = _ := hd.at 15 19 (by kernel_rfl)
      have t21 : a.eval (.tmp 21) = _ := hd.at 17 21 (by kernel_rfl)
      have t17 : a.eval (.tmp 17) = _ := hd.at 13 17 (by kernel_rfl)
      have t23 : a.eval (.tmp 23) = _ := hd.at 20 23 (by kernel_rfl)
      have t18 : a.eval (.tmp 18) = _ := hd.at 14 18 (by kernel_rfl)
      obtain ⟨o1, v1, ho1, hr1, o2, v2, ho2, hr2, rfl⟩ := hrun
      cases ho1
      cases ho2
      cases (hr1.symm.trans (o_store (v := .slice (some p) n cf) (new := (cs.setIfInBounds (K + 0) (.slice (some p) n cf))) rfl t21 t17 (hB.since hs1 rfl) (by kernel_rfl) (by simp [Value.cells, Value.oneCell']) (by simp [Value.cells]; omega) rfl))
      cases (hr2.symm.trans (o_store (v := .int .i64 v) (new := ((cs.setIfInBounds (K + 0) (.slice (some p) n cf)).setIfInBounds (K + 1) (.int .i64 v))) rfl t23 t18 (hB.since hs1 rfl).put (by kernel_rfl) (by simp [Value.cells, Value.oneCell']) (by simp [Value.cells]; omega) rfl))
      exact ⟨_, o_store rfl t25 t19 (hB.since hs1 rfl).put.put (by kernel_rfl) (by simp [Value.cells, Value.oneCell']) (by simp [Value.cells]; omega) rfl, Since.put hs (.inr (by simp))⟩
  case hG => exact ⟨stable_eqv _, stable_eqv _, stable_eqv _, stable_eqv _, stable_eqv _, stable_eqv _, stable_eqv _, stable_eqv _, stable_eqv _, stable_eqv _, stable_eqv _, stable_eqv _, stable_eqv _, stable_eqv _, stable_eqv _, stable_eqv _, stable_eqv _, stable_eqv _, stable_any, stable_eqv _, stable_eqv _, stable_any, stable_eqv _, stable_eqv _, stable_any, trivial⟩
  case hc => kernel_rfl
  case hfin =>
    intro w5 hs5
    rintro _ rfl _ rfl _ rfl _ rfl _ rfl _ rfl _ rfl _ rfl _ rfl _ rfl _ rfl _ rfl _ rfl _ rfl _ rfl _ rfl _ rfl _ rfl _ rfl _ rfl _ rfl _ rfl
    rintro w6 ⟨o1, v1, ho1, hr1, o2, v2, ho2, hr2, o3, v3, ho3, hr3, rfl⟩
    cases ho1
    cases ho2
    cases ho3
    simp only [Act.put, List.setIfInBounds_toArray, List.set_cons_zero, List.set_cons_succ] at hr1 hr2 hr3 ⊢
    cases (hr1.symm.trans (o_store (v := .slice (some p) n cf) (new := (cs.setIfInBounds (K + 0) (.slice (some p) n cf))) rfl rfl rfl (hB.since hs5 rfl) (by kernel_rfl) (by simp [Value.cells, Value.oneCell']) (by simp [Value.cells]; omega) rfl))
    cases (hr2.symm.trans (o_store (v := .int .i64 v) (new := ((cs.setIfInBounds (K + 0) (.slice (some p) n cf)).setIfInBounds (K + 1) (.int .i64 v))) rfl rfl rfl (hB.since hs5 rfl).put (by kernel_rfl) (by simp [Value.cells, Value.oneCell']) (by simp [Value.cells]; omega) rfl))
    cases (hr3.symm.trans (o_store (v := .int .i64 e) (new := (((cs.setIfInBounds (K + 0) (.slice (some p) n cf)).setIfInBounds (K + 1) (.int .i64 v)).setIfInBounds (K + 2) (.int .i64 e))) rfl rfl rfl (hB.since hs5 rfl).put.put (by kernel_rfl) (by simp [Value.cells, Value.oneCell']) (by simp [Value.cells]; omega) rfl))
    go_wp2
    go_end0
    exact ⟨rfl, (hB.since hs5 rfl).put.put.put, ((((Keep.refl (fun x => x = b) w).ext (Since.to_ext hs5)).put _ _ (.inr rfl)).put _ _ (.inr rfl)).put _ _ (.inr rfl), fun a ha hb => Since.to_ext ((((Since.of_ext (ha.trans (Since.to_ext hs5))).put (.inl hb)).put (.inl hb)).put (.inl hb))⟩

@[go_sem] theorem run_mk80s (n : Nat) (h : n ≤ 100000) (w : World) : (Instr.makeSlice 80 (.int .i64 n) (.int .i64 n)).run Proofs.Try.prog w = .ok (.slice (some ⟨w.heap.size, 0, none⟩) n n) (w.alloc (.cells (zeros80 n) 116)) := run_mk80 n h w
/-- an array holds these rows -/
def RowsIn (sz : Nat) (cells : Array Value) (rows : List (List Value)) : Prop := ∀ i r, rows[i]? = some r → r.length = sz ∧ ∀ j c, r[j]? = some c → cells[i * sz + j]? = some c
theorem RowsIn.set {sz : Nat} {cells : Array Value} {rows : List (List Value)} (h1 : RowsIn sz cells rows) {i o : Nat} {r : List Value} (hi : rows[i]? = some r) (ho : o < sz) (v : Value) : RowsIn sz (cells.setIfInBounds (i * sz + o) v) (rows.set i (r.set o v)) := by
  have hlen : ∀ i r, rows[i]? = some r → ∀ j, j < r.length → i * sz + j < cells.size := fun i r hi j hj => by
    have := (h1 i r hi).2 j _ (List.getElem?_eq_getElem hj)
    rcases Nat.lt_or_ge (i * sz + j) cells.size with h | h
    · exact h
    · rw [Array.getElem?_eq_none h] at this; cases this
  intro i' r' hi'
  have hil : i < rows.length := by
    rcases Nat.lt_or_ge i rows.length with h | h
    · exact h
    · rw [List.getElem?_eq_none h] at hi; cases hi
  rw [List.getElem?_set] at hi'
  by_cases hii : i = i'
  · subst hii
    rw [if_pos rfl, if_pos hil] at hi'
    cases hi'
    refine ⟨by simpa using (h1 i r hi).1, fun j c hj => ?_⟩
    rw [List.getElem?_set] at hj
    by_cases hoj : o = j
    · subst hoj
      rw [if_pos rfl, if_pos (by rw [(h1 i r hi).1]; exact ho)] at hj
      cases hj
      have := hlen i r hi o (by rw [(h1 i r hi).1]; exact ho)
      simp [this]
    · rw [if_neg hoj] at hj
      have hjl : j < sz := by
        rw [← (h1 i r hi).1]
        rcases Nat.lt_or_ge j r.length with h | h
        · exact h
        · rw [List.getElem?_eq_none h] at hj; cases hj
      rw [Array.getElem?_setIfInBounds_ne (idx_ne hjl ho (.inr (Ne.symm hoj)))]
      exact (h1 i r hi).2 j c hj
  · rw [if_neg hii] at hi'
    refine ⟨(h1 i' r' hi').1, fun j c hj => ?_⟩
    have hjl : j < sz := by
      rw [← (h1 i' r' hi').1]
      rcases Nat.lt_or_ge j r'.length with h | h
      · exact h
      · rw [List.getElem?_eq_none h] at hj; cases hj
    rw [Array.getElem?_setIfInBounds_ne (idx_ne hjl ho (.inl (Ne.symm hii)))]
    exact (h1 i' r' hi').2 j c hj
theorem IsSl.take {α : Type} {sz : Nat} {R : World → α → List Value → Prop} {N : Nat → Prop} {w : World} {a : Option Addr} {n cap m : Nat} {l : List α} (h : IsSl sz R N w (.slice a n cap) l) (hm : m ≤ l.length) : IsSl sz R N w (.slice a m cap) (l.take m) := by
  obtain ⟨a', cap', e, h1, h2, h3, h4⟩ := h
  cases e
  have hlen : (l.take m).length = m := by simp [Nat.min_eq_left hm]
  refine ⟨a, cap, by rw [hlen], by omega, h2, h3, fun i x hi => h4 i x ?_⟩
  rw [List.getElem?_take] at hi
  split at hi
  · exact hi
  · cases hi
theorem set_at {α : Type} {l : List α} {k : Nat} {x : α} (h : k < l.length) : (l.set k x)[k]? = some x := by simp [h]
/-- the cores, one of them another one, from the rows of a block of the call's own -/
theorem cores_of_rows {N : Nat → Prop} {lo hi : Nat} {w wF : World} {b cap k : Nat} {cells : Array Value} {rows : List (List Value)} {l : List CoreD} {c' : CoreD} {r' : List Value} (hB : Box wF b cells 116) (hrows : RowsIn 7 cells (rows.set k r')) (hl : rows.length = l.length)
    (hRC : ∀ (i : Nat) x r, l[i]? = some x → rows[i]? = some r → RC (Bx N lo hi) w x r) (kF : Keep (Bx N lo hi) w wF) (hn : ¬ N b) (hr' : RC N wF c' r') (hcap : l.length ≤ cap) (hm : cap ≤ 9223372036854775807) : IsCores N wF (.slice (some ⟨b, 0, none⟩) l.length cap) (l.set k c') := by
  have := IsSl.of_box (sz := 7) (R := RC N) (N := N) (cap := cap) (l := l.set k c') hB hn (by simpa using hcap) hm (fun i x hi => by
    have hil : i < l.length := by
      rcases Nat.lt_or_ge i l.length with h | h
      · exact h
      · rw [List.getElem?_eq_none (by simpa using h)] at hi; cases hi
    by_cases hik : k = i
    · subst hik
      rw [set_at hil] at hi; cases hi
      have := hrows k r' (set_at (by omega))
      exact ⟨r', this.1, this.2, hr'⟩
    · rw [List.getElem?_set_ne hik] at hi
      obtain ⟨r, hr⟩ := getSome (show i < rows.length by omega)
      have := hrows i r (by rw [List.getElem?_set_ne hik]; exact hr)
      exact ⟨r, this.1, this.2, ((hRC i x r hi hr).keep kF).less fun _ _ h => .inl h⟩)
  simpa using this
def withS (s : SysD) (k : Nat) (c : CoreD) : SysD := { s with C := s.C.set k c }
def backC (c : CoreD) (v e : Int) : CoreD := { c with F := c.F.take (c.F.length - 1), V := v, E := e }
set_option maxHeartbeats 1000000 in
set_option maxRecDepth 100000 in
theorem changedBack_ (N : Nat → Prop) (va : Value) (s : SysD) (k : Nat) (c : CoreD) (v e : Int) (p1 p2 : Nat) (w : World) (h : IsSys N w va s) (hN : ∀ b, N b → b < w.heap.size) (hC : s.C.length ≤ 100000) (hk : s.C[k]? = some c) (hF : 0 < c.F.length)
    (hp1 : w.cell? ⟨p1, 0, none⟩ = some (.int .i64 v)) (hp2 : w.cell? ⟨p2, 0, none⟩ = some (.int .i64 e)) :
    Gives Proofs.Try.prog 140 #[va, .int .i64 k, .func (.func 145) #[] #[.pointer (some ⟨p1, 0, none⟩), .pointer (some ⟨p2, 0, none⟩)]] w (fun r w' => IsSys N w' r (withS s k (backC c v e))) := by
  obtain ⟨aw, cw, ag, cg, ac, cc, al, cl, rfl, hw, hg, hc, hl⟩ := h.opened
  have hkl : k < s.C.length := by
    rcases Nat.lt_or_ge k s.C.length with h | h
    · exact h
    · rw [List.getElem?_eq_none h] at hk; cases hk
  have hk1 : (k : Int) < (s.C.length : Int) := by omega
  have hc' : IsCores (Bx N w.heap.size (w.heap.size + 3)) w (.slice ac s.C.length cc) s.C := IsCores.less hc (fun x hx hn => Bx.new hx hn)
  have hq1 : p1 < w.heap.size := World.block_lt_of_cell? _ _ hp1
  have hq2 : p2 < w.heap.size := World.block_lt_of_cell? _ _ hp2
  go_enter Proofs.Try.func140, Proofs.Try.ntmps140
  go_wp2_with (fail)
  obtain ⟨w2, rows, hrun, hR, hRl, hRC, hKp, hEx⟩ := copy_cores 3 (w := (((w.alloc (.cells #[.slice aw s.M.W.length cw, .slice ag s.M.G.length cg, .bool s.M.bad, .slice ac s.C.length cc, .slice al s.L.length cl] 83)).alloc (.cells #[.slice none 0 0, .slice none 0 0, .bool false, .slice none 0 0, .slice none 0 0] 83)).alloc (.cells (zeros80 s.C.length) 116))) (IsCores.keep hc' (show Ext w (((w.alloc (.cells #[.slice aw s.M.W.length cw, .slice ag s.M.G.length cg, .bool s.M.bad, .slice ac s.C.length cc, .slice al s.L.length cl] 83)).alloc (.cells #[.slice none 0 0, .slice none 0 0, .bool false, .slice none 0 0, .slice none 0 0] 83)).alloc (.cells (zeros80 s.C.length) 116)) from (by with_reducible (repeat (first | assumption | exact Ext.refl _ | refine Ext.alloc' ?_ _ | refine Ext.store0 ?_ _ _ | refine Ext.storek ?_ _ _ _ | refine Ext.stores0 ?_ ?_ _ _ | refine Ext.storesk ?_ ?_ _ _ _ | refine Ext.drewN' ?_ _ | refine Ext.drew' ?_ | refine Ext.trans ?_ (by assumption))))).keep) (by omega) (Box.three' _ _ _ _ _ _ _)
  rw [hrun]
  have hE2 : Ext w w2 := hEx w (by with_reducible (repeat (first | assumption | exact Ext.refl _ | refine Ext.alloc' ?_ _ | refine Ext.store0 ?_ _ _ | refine Ext.storek ?_ _ _ _ | refine Ext.stores0 ?_ ?_ _ _ | refine Ext.storesk ?_ ?_ _ _ _ | refine Ext.drewN' ?_ _ | refine Ext.drew' ?_ | refine Ext.trans ?_ (by assumption)))) (by omega)
  have kp := hKp (fun x => x = w.heap.size + 1 + 1) rfl
  have B0 : Box w2 w.heap.size #[.slice aw s.M.W.length cw, .slice ag s.M.G.length cg, .bool s.M.bad, .slice ac s.C.length cc, .slice al s.L.length cl] 83 := (((Box.new _ _ _).alloc _).alloc _).keep kp (by omega)
  have B1 : Box w2 (w.heap.size + 1) #[.slice none 0 0, .slice none 0 0, .bool false, .slice none 0 0, .slice none 0 0] 83 := ((Box.two _ _ _ _ _).alloc _).keep kp (by omega)
  have hE3 : Ext (((w.alloc (.cells #[.slice aw s.M.W.length cw, .slice ag s.M.G.length cg, .bool s.M.bad, .slice ac s.C.length cc, .slice al s.L.length cl] 83)).alloc (.cells #[.slice none 0 0, .slice none 0 0, .bool false, .slice none 0 0, .slice none 0 0] 83)).alloc (.cells (zeros80 s.C.length) 116)) (((w.alloc (.cells #[.slice aw s.M.W.length cw, .slice ag s.M.G.length cg, .bool s.M.bad, .slice ac s.C.length cc, .slice al s.L.length cl] 83)).alloc (.cells #[.slice none 0 0, .slice none 0 0, .bool false, .slice none 0 0, .slice none 0 0] 83)).alloc (.cells (zeros80 s.C.length) 116)) := Ext.refl _
  have kq : Keep (Bx N w.heap.size (w.heap.size + 3)) (((w.alloc (.cells #[.slice aw s.M.W.length cw, .slice ag s.M.G.length cg, .bool s.M.bad, .slice ac s.C.length cc, .slice al s.L.length cl] 83)).alloc (.cells #[.slice none 0 0, .slice none 0 0, .bool false, .slice none 0 0, .slice none 0 0] 83)).alloc (.cells (zeros80 s.C.length) 116)) w2 := hKp _ (Bx.mem (by omega) (by omega))
  clear hKp hEx hrun
  obtain ⟨cells, hBx, hrows⟩ := hR
  obtain ⟨r, hr⟩ := getSome (show k < rows.length by omega)
  obtain ⟨h3, f, rr, rfl, hf, hrt⟩ := hRC k c r hk hr
  obtain ⟨af, cf, hff, hf1, hf2, hf3, hf4⟩ := hf
  obtain ⟨n, hn⟩ : ∃ n, c.F.length = n + 1 := ⟨c.F.length - 1, by omega⟩
  obtain ⟨pf, rfl⟩ : ∃ p, af = some p := by
    cases af with
    | none => have := hf3 rfl; omega
    | some p => exact ⟨p, rfl⟩
  subst hff
  have h0 : cells[k * 7]? = some (.slice (some pf) (n + 1) cf) := by rw [← hn]; exact (hrows k _ hr).2 0 _ rfl
  have hsz : k * 7 + 7 ≤ cells.size := by
    have := (hrows k _ hr).2 6 _ rfl
    rcases Nat.lt_or_ge (k * 7 + 6) cells.size with h | h
    · omega
    · rw [Array.getElem?_eq_none h] at this; cases this
  obtain ⟨c00, c01, c02, c03, c04, d00, d01, d02, d03, d04⟩ := cells5 B0
  obtain ⟨c10, c11, c12, c13, c14, d10, d11, d12, d13, d14⟩ := cells5 B1
  have z0 := B0.lt
  have z1 := B1.lt
  have z2 := hBx.lt
  go_wp2_with (fail)
  go_at_call 145
  refine (backDo_ (w.heap.size + 1 + 1) (k * 7) n cells pf cf v e p1 p2 w2 hBx h0 hsz (by omega) hf2 (cell_ext hp1 hE2) (cell_ext hp2 hE2) (by omega) (by omega)).mono ?_
  rintro x w3 ⟨rfl, hB3, hK3, hE3'⟩
  have hEw : Ext w w3 := hE3' w hE2 (by omega)
  have D0 := B0.keep hK3 (by omega)
  have D1 := B1.keep hK3 (by omega)
  clear c00 c01 c02 c03 c04 d00 d01 d02 d03 d04 c10 c11 c12 c13 c14 d10 d11 d12 d13 d14
  obtain ⟨c00, c01, c02, c03, c04, d00, d01, d02, d03, d04⟩ := cells5 D0
  obtain ⟨c10, c11, c12, c13, c14, d10, d11, d12, d13, d14⟩ := cells5 D1
  have y0 := D0.lt
  have y1 := D1.lt
  have k3 : Keep (Bx N w.heap.size (w.heap.size + 3)) (((w.alloc (.cells #[.slice aw s.M.W.length cw, .slice ag s.M.G.length cg, .bool s.M.bad, .slice ac s.C.length cc, .slice al s.L.length cl] 83)).alloc (.cells #[.slice none 0 0, .slice none 0 0, .bool false, .slice none 0 0, .slice none 0 0] 83)).alloc (.cells (zeros80 s.C.length) 116)) w3 := kq.trans (hK3.less fun x _ hx => by subst hx; exact Bx.mem (by omega) (by omega))
  have hRk : rows[k]? = some (coreCells c (.slice (some pf) c.F.length cf) rr) := hr
  have q1 := RowsIn.set (sz := 7) hrows hRk (o := 0) (by decide) (.slice (some pf) n cf)
  have q2 := RowsIn.set q1 (set_at (by omega)) (o := 1) (by decide) (.int .i64 v)
  have q3 := RowsIn.set q2 (set_at (by simp; omega)) (o := 2) (by decide) (.int .i64 e)
  rw [List.set_set, List.set_set] at q3
  have fin : ∀ wF, Keep (Bx N w.heap.size (w.heap.size + 3)) w3 wF → Box wF (w.heap.size + 1 + 1) (((cells.setIfInBounds (k * 7 + 0) (.slice (some pf) n cf)).setIfInBounds (k * 7 + 1) (.int .i64 v)).setIfInBounds (k * 7 + 2) (.int .i64 e)) 116 → IsCores N wF (.slice (some ⟨w.heap.size + 1 + 1, 0, none⟩) s.C.length s.C.length) (s.C.set k (backC c v e)) := fun wF kF hBF => by
    have kA := k3.trans kF
    refine cores_of_rows (lo := w.heap.size) (hi := w.heap.size + 3) hBF q3 hRl hRC kA (fun hx => absurd (hN _ hx) (by omega)) ?_ (Nat.le_refl _) (by omega)
    refine ⟨h3, .slice (some pf) n cf, rr, rfl, ?_, ?_⟩
    · have hff : IsFrames (Bx N w.heap.size (w.heap.size + 3)) (((w.alloc (.cells #[.slice aw s.M.W.length cw, .slice ag s.M.G.length cg, .bool s.M.bad, .slice ac s.C.length cc, .slice al s.L.length cl] 83)).alloc (.cells #[.slice none 0 0, .slice none 0 0, .bool false, .slice none 0 0, .slice none 0 0] 83)).alloc (.cells (zeros80 s.C.length) 116)) (.slice (some pf) c.F.length cf) c.F := ⟨_, _, rfl, hf1, hf2, hf3, hf4⟩
      have h5 := IsFrames.less (IsFrames.keep hff kA) (M := N) (fun _ _ h => .inl h)
      have h6 := IsSl.take h5 (m := n) (by omega)
      show IsFrames N wF (.slice (some pf) n cf) (c.F.take (c.F.length - 1))
      rw [show c.F.length - 1 = n by omega]
      exact h6
    · exact (hrt.keep kA).less fun _ _ h => .inl h
  go_wp2
  refine bodyPost_ret (ret_cell ((((((D1.setOther (by omega) _).setCell _).setCell _).setCell _).setCell _).setCell _) Proofs.Try.results140 rfl Proofs.Try.underlying83 rfl (by kernel_rfl)) rfl ⟨_, rfl, (by with_reducible (repeat (first | assumption | exact Ext.refl _ | refine Ext.alloc' ?_ _ | refine Ext.store0 ?_ _ _ | refine Ext.storek ?_ _ _ _ | refine Ext.stores0 ?_ ?_ _ _ | refine Ext.storesk ?_ ?_ _ _ _ | refine Ext.drewN' ?_ _ | refine Ext.drew' ?_ | refine Ext.trans ?_ (by assumption)))), IsSys.mk rfl (hw.ext (by with_reducible (repeat (first | assumption | exact Ext.refl _ | refine Ext.alloc' ?_ _ | refine Ext.store0 ?_ _ _ | refine Ext.storek ?_ _ _ _ | refine Ext.stores0 ?_ ?_ _ _ | refine Ext.storesk ?_ ?_ _ _ _ | refine Ext.drewN' ?_ _ | refine Ext.drew' ?_ | refine Ext.trans ?_ (by assumption))))) (hg.ext (by with_reducible (repeat (first | assumption | exact Ext.refl _ | refine Ext.alloc' ?_ _ | refine Ext.store0 ?_ _ _ | refine Ext.storek ?_ _ _ _ | refine Ext.stores0 ?_ ?_ _ _ | refine Ext.storesk ?_ ?_ _ _ _ | refine Ext.drewN' ?_ _ | refine Ext.drew' ?_ | refine Ext.trans ?_ (by assumption))))) (fin _ (by with_reducible (repeat (first | assumption | exact Keep.refl _ _ | refine Keep.alloc ?_ _ | refine Keep.s ?_ (by first | assumption | exact Bx.mem (by omega) (by omega)) | refine Keep.n ?_ (by omega) | refine Keep.ext ?_ (by assumption) | refine Keep.drew ?_))) (hB3.keep (M := Bx no w.heap.size (w.heap.size + 2)) (by with_reducible (repeat (first | assumption | exact Keep.refl _ _ | refine Keep.alloc ?_ _ | refine Keep.s ?_ (by first | assumption | exact Bx.mem (by omega) (by omega)) | refine Keep.n ?_ (by omega) | refine Keep.ext ?_ (by assumption) | refine Keep.drew ?_))) (fun hx => hx.elim id (fun h => by omega)))) (IsEvs.keep hl (show Ext w _ from (by with_reducible (repeat (first | assumption | exact Ext.refl _ | refine Ext.alloc' ?_ _ | refine Ext.store0 ?_ _ _ | refine Ext.storek ?_ _ _ _ | refine Ext.stores0 ?_ ?_ _ _ | refine Ext.storesk ?_ ?_ _ _ _ | refine Ext.drewN' ?_ _ | refine Ext.drew' ?_ | refine Ext.trans ?_ (by assumption))))).keep)⟩

theorem Ext.storen {w w' : World} (h : Ext w w') {x o : Nat} {v : Value} (hx : w.heap.size ≤ x) : Ext w (w'.setCell ⟨x, o, none⟩ v) := h.store _ _ hx
/-- a system, one core of which is another one, if it has a frame -/
def doS (s : SysD) (id : Int) (f : CoreD → CoreD) : SysD := if (topD s id).isSome then match s.C[id.toNat]? with | some c => withS s id.toNat (f c) | none => s else s
def backS (s : SysD) (id v e : Int) : SysD := doS s id fun c => backC c v e
theorem top_some {s : SysD} {id : Int} {f : FrameD} (h : topD s id = some f) : ∃ (k : Nat) (c : CoreD), id = k ∧ s.C[k]? = some c ∧ 0 < c.F.length ∧ c.F[c.F.length - 1]? = some f := by
  unfold topD at h
  cases hh : hasD s id with
  | false => rw [hh] at h; cases h
  | true =>
    rw [hh] at h
    have h0 : 0 ≤ id := by simp [hasD] at hh; exact hh.1
    have h1 : id.toNat < s.C.length := by simp [hasD] at hh; omega
    obtain ⟨c, hc⟩ := getSome h1
    rw [if_pos rfl, hc] at h
    have hf : c.F[c.F.length - 1]? = some f := h
    refine ⟨id.toNat, c, by omega, hc, ?_, hf⟩
    rcases Nat.lt_or_ge 0 c.F.length with h | h
    · exact h
    · rw [List.getElem?_eq_none (by omega)] at hf; cases hf
theorem doS_none {s : SysD} {id : Int} {f : CoreD → CoreD} (h : topD s id = none) : doS s id f = s := by unfold doS; rw [h]; rfl
theorem doS_some {s : SysD} {k : Nat} {c : CoreD} {f : CoreD → CoreD} {g : FrameD} (h : topD s k = some g) (hc : s.C[k]? = some c) : doS s k f = withS s k (f c) := by unfold doS; rw [h]; simp [hc]
set_option maxHeartbeats 1000000 in
set_option maxRecDepth 100000 in
theorem back_ (N : Nat → Prop) (va : Value) (s : SysD) (id v e : Int) (w : World) (h : IsSys N w va s) (hN : ∀ b, N b → b < w.heap.size) (hC : s.C.length ≤ 100000) :
    Gives Proofs.Try.prog 86 #[va, .int .i64 id, .int .i64 v, .int .i64 e] w (fun r w' => IsSys N w' r (backS s id v e)) := by
  have kt := fun (w' : World) (e : Ext w w') => top_ N va s id w' (h.ext e)
  have hB := h.less (M := Bx N w.heap.size (w.heap.size + 4)) fun x hx hn => Bx.new hx hn
  obtain ⟨aw, cw, ag, cg, ac, cc, al, cl, rfl, hw, hg, hc, hl⟩ := h.opened
  cases ht : topD s id with
  | none =>
    rw [show (topD s id).isSome = false by rw [ht]; rfl] at kt
    have hd : backS s id v e = s := doS_none ht
    rw [hd]
    go_enter Proofs.Try.func86, Proofs.Try.ntmps86
    go_wp2_with (fail)
    go_at_call 81
    refine (kt _ (by with_reducible (repeat (first | assumption | exact Ext.refl _ | refine Ext.alloc' ?_ _ | refine Ext.store0 ?_ _ _ | refine Ext.storek ?_ _ _ _ | refine Ext.stores0 ?_ ?_ _ _ | refine Ext.storesk ?_ ?_ _ _ _ | refine Ext.drewN' ?_ _ | refine Ext.drew' ?_ | refine Ext.trans ?_ (by assumption))))).calls.mono ?_
    rintro x w1 ⟨_, rfl, hb1, u, rfl, hu⟩
    obtain ⟨tf, htf⟩ : ∃ tf, topF s id = tf := ⟨_, rfl⟩
    rw [htf] at hu
    clear htf
    obtain ⟨fa, fc, rfl, f8, fs⟩ := hu.opened
    have B0 : Box w1 w.heap.size #[.slice aw s.M.W.length cw, .slice ag s.M.G.length cg, .bool s.M.bad, .slice ac s.C.length cc, .slice al s.L.length cl] 83 := ((((Box.new _ _ _).alloc _).alloc _).alloc _).ext hb1
    have B1 : Box w1 (w.heap.size + 1) #[.int .i64 v] 3 := (((Box.two _ _ _ _ _).alloc _).alloc _).ext hb1
    have B2 : Box w1 (w.heap.size + 1 + 1) #[.int .i64 e] 25 := ((Box.three' _ _ _ _ _ _ _).alloc _).ext hb1
    have B3 : Box w1 (w.heap.size + 1 + 1 + 1) #[.slice none 0 0, .slice none 0 0, .bool false, .slice none 0 0, .slice none 0 0] 83 := (Box.four' _ _ _ _ _ _ _ _ _).ext hb1
    obtain ⟨c00, c01, c02, c03, c04, d00, d01, d02, d03, d04⟩ := cells5 B0
    obtain ⟨c30, c31, c32, c33, c34, d30, d31, d32, d33, d34⟩ := cells5 B3
    have z0 : w.heap.size < w1.heap.size := B0.lt
    have z3 : w.heap.size + 1 + 1 + 1 < w1.heap.size := B3.lt
    go_wp2
    exact bodyPost_ret (ret_cell ((((((B3.setCell _).setCell _).setCell _).setCell _).setCell _).alloc _) Proofs.Try.results86 rfl Proofs.Try.underlying83 rfl (by kernel_rfl)) rfl ⟨_, rfl, (by with_reducible (repeat (first | assumption | exact Ext.refl _ | refine Ext.alloc' ?_ _ | refine Ext.store0 ?_ _ _ | refine Ext.storek ?_ _ _ _ | refine Ext.storen ?_ (by omega) | refine Ext.stores0 ?_ ?_ _ _ | refine Ext.storesk ?_ ?_ _ _ _ | refine Ext.drewN' ?_ _ | refine Ext.drew' ?_ | refine Ext.trans ?_ (by assumption)))), IsSys.mk rfl (hw.ext (by with_reducible (repeat (first | assumption | exact Ext.refl _ | refine Ext.alloc' ?_ _ | refine Ext.store0 ?_ _ _ | refine Ext.storek ?_ _ _ _ | refine Ext.storen ?_ (by omega) | refine Ext.stores0 ?_ ?_ _ _ | refine Ext.storesk ?_ ?_ _ _ _ | refine Ext.drewN' ?_ _ | refine Ext.drew' ?_ | refine Ext.trans ?_ (by assumption))))) (hg.ext (by with_reducible (repeat (first | assumption | exact Ext.refl _ | refine Ext.alloc' ?_ _ | refine Ext.store0 ?_ _ _ | refine Ext.storek ?_ _ _ _ | refine Ext.storen ?_ (by omega) | refine Ext.stores0 ?_ ?_ _ _ | refine Ext.storesk ?_ ?_ _ _ _ | refine Ext.drewN' ?_ _ | refine Ext.drew' ?_ | refine Ext.trans ?_ (by assumption))))) (IsCores.keep hc (show Ext w _ from (by with_reducible (repeat (first | assumption | exact Ext.refl _ | refine Ext.alloc' ?_ _ | refine Ext.store0 ?_ _ _ | refine Ext.storek ?_ _ _ _ | refine Ext.storen ?_ (by omega) | refine Ext.stores0 ?_ ?_ _ _ | refine Ext.storesk ?_ ?_ _ _ _ | refine Ext.drewN' ?_ _ | refine Ext.drew' ?_ | refine Ext.trans ?_ (by assumption))))).keep) (IsEvs.keep hl (show Ext w _ from (by with_reducible (repeat (first | assumption | exact Ext.refl _ | refine Ext.alloc' ?_ _ | refine Ext.store0 ?_ _ _ | refine Ext.storek ?_ _ _ _ | refine Ext.storen ?_ (by omega) | refine Ext.stores0 ?_ ?_ _ _ | refine Ext.storesk ?_ ?_ _ _ _ | refine Ext.drewN' ?_ _ | refine Ext.drew' ?_ | refine Ext.trans ?_ (by assumption))))).keep)⟩
  | some g =>
    obtain ⟨k, c, rfl, hck, hpos, _⟩ := top_some ht
    rw [show (topD s k).isSome = true by rw [ht]; rfl] at kt
    have hd : backS s k v e = withS s k (backC c v e) := doS_some ht hck
    rw [hd]
    go_enter Proofs.Try.func86, Proofs.Try.ntmps86
    go_wp2_with (fail)
    go_at_call 81
    refine (kt _ (by with_reducible (repeat (first | assumption | exact Ext.refl _ | refine Ext.alloc' ?_ _ | refine Ext.store0 ?_ _ _ | refine Ext.storek ?_ _ _ _ | refine Ext.stores0 ?_ ?_ _ _ | refine Ext.storesk ?_ ?_ _ _ _ | refine Ext.drewN' ?_ _ | refine Ext.drew' ?_ | refine Ext.trans ?_ (by assumption))))).calls.mono ?_
    rintro x w1 ⟨_, rfl, hb1, u, rfl, hu⟩
    obtain ⟨tf, htf⟩ : ∃ tf, topF s k = tf := ⟨_, rfl⟩
    rw [htf] at hu
    clear htf
    obtain ⟨fa, fc, rfl, f8, fs⟩ := hu.opened
    have B0 : Box w1 w.heap.size #[.slice aw s.M.W.length cw, .slice ag s.M.G.length cg, .bool s.M.bad, .slice ac s.C.length cc, .slice al s.L.length cl] 83 := ((((Box.new _ _ _).alloc _).alloc _).alloc _).ext hb1
    have B1 : Box w1 (w.heap.size + 1) #[.int .i64 v] 3 := (((Box.two _ _ _ _ _).alloc _).alloc _).ext hb1
    have B2 : Box w1 (w.heap.size + 1 + 1) #[.int .i64 e] 25 := ((Box.three' _ _ _ _ _ _ _).alloc _).ext hb1
    have B3 : Box w1 (w.heap.size + 1 + 1 + 1) #[.slice none 0 0, .slice none 0 0, .bool false, .slice none 0 0, .slice none 0 0] 83 := (Box.four' _ _ _ _ _ _ _ _ _).ext hb1
    obtain ⟨c00, c01, c02, c03, c04, d00, d01, d02, d03, d04⟩ := cells5 B0
    obtain ⟨c30, c31, c32, c33, c34, d30, d31, d32, d33, d34⟩ := cells5 B3
    have z0 : w.heap.size < w1.heap.size := B0.lt
    have z3 : w.heap.size + 1 + 1 + 1 < w1.heap.size := B3.lt
    go_wp2_with (fail)
    go_at_call 140
    refine (changedBack_ (Bx N w.heap.size (w.heap.size + 4)) _ s k c v e (w.heap.size + 1) (w.heap.size + 1 + 1) _ (hB.ext (by with_reducible (repeat (first | assumption | exact Ext.refl _ | refine Ext.alloc' ?_ _ | refine Ext.store0 ?_ _ _ | refine Ext.storek ?_ _ _ _ | refine Ext.stores0 ?_ ?_ _ _ | refine Ext.storesk ?_ ?_ _ _ _ | refine Ext.drewN' ?_ _ | refine Ext.drew' ?_ | refine Ext.trans ?_ (by assumption))))) (fun b hb => hb.elim (fun h => by have := hN _ h; simp; omega) (fun h => by have := h.2; simp; omega)) hC hck hpos ((B1.alloc _).cell rfl) ((B2.alloc _).cell rfl)).calls.mono ?_
    rintro x w2 ⟨_, rfl, hb2, hu2⟩
    obtain ⟨xw, yw, xg, yg, xc, yc, xl, yl, rfl, hxw, hxg, hxc, hxl⟩ := hu2.opened
    have D3 := (B3.alloc (.cells #[.int .i64 tf.op, .int .i64 tf.pc, .int .i64 (gi tf.R 0), .int .i64 (gi tf.R 1), .int .i64 (gi tf.R 2), .int .i64 (gi tf.R 3), .int .i64 (gi tf.R 4), .int .i64 (gi tf.R 5), .int .i64 (gi tf.R 6), .int .i64 (gi tf.R 7), .slice fa tf.S.length fc] 95 (0, 0))).ext hb2
    clear c00 c01 c02 c03 c04 d00 d01 d02 d03 d04 c30 c31 c32 c33 c34 d30 d31 d32 d33 d34
    obtain ⟨c30, c31, c32, c33, c34, d30, d31, d32, d33, d34⟩ := cells5 D3
    have y3 := D3.lt
    go_wp2
    exact bodyPost_ret (ret_cell (((((D3.setCell _).setCell _).setCell _).setCell _).setCell _) Proofs.Try.results86 rfl Proofs.Try.underlying83 rfl (by kernel_rfl)) rfl ⟨_, rfl, (by with_reducible (repeat (first | assumption | exact Ext.refl _ | refine Ext.alloc' ?_ _ | refine Ext.store0 ?_ _ _ | refine Ext.storek ?_ _ _ _ | refine Ext.storen ?_ (by omega) | refine Ext.stores0 ?_ ?_ _ _ | refine Ext.storesk ?_ ?_ _ _ _ | refine Ext.drewN' ?_ _ | refine Ext.drew' ?_ | refine Ext.trans ?_ (by assumption)))), IsSys.less (IsSys.keep hu2 (by with_reducible (repeat (first | assumption | exact Keep.refl _ _ | refine Keep.alloc ?_ _ | refine Keep.s ?_ (by first | assumption | exact Bx.mem (by omega) (by omega)) | refine Keep.n ?_ (by omega) | refine Keep.ext ?_ (by assumption) | refine Keep.drew ?_)))) (fun _ _ hn => .inl hn)⟩

theorem run_append_all {α : Type} {sz : Nat} {R : World → α → List Value → Prop} {N : Nat → Prop} {w : World} {v : Value} {l : List α} {t ty e : TypeId} {z : Value} (a0 : Addr) (hT : RowType t e sz z) (hsz : 0 < sz) (h : IsSl sz R N w v l) (h0 : 0 < l.length) (hl : l.length ≤ 100000) :
    ∃ cap w' cells rows, (Builtin.append_ #[t, t] ty #[.slice (some a0) 0 0, v]).run Proofs.Try.prog w = .ok (.slice (some ⟨w.heap.size, 0, none⟩) l.length cap) w' ∧ Ext w w' ∧ l.length ≤ cap ∧ cap ≤ 9223372036854775807 ∧ Box w' w.heap.size cells e ∧ RowsIn sz cells rows ∧ rows.length = l.length ∧
      (∀ (i : Nat) x r, l[i]? = some x → rows[i]? = some r → R w x r) := by
  obtain ⟨i, hi, hz, hs, hb⟩ := hT.info
  obtain ⟨cs, rows, h1, h2, h3, h4, h5, a, cap, rfl, h6, h7, h8, h9⟩ := IsSl.rows hsz h
  obtain ⟨p, rfl⟩ : ∃ p, a = some p := by
    cases a with
    | none => have := h8 rfl; omega
    | some p => exact ⟨p, rfl⟩
  have hfit : Builtin.nextslicecap (0 + l.length) 0 * i.bytes ≤ 281474976710656 := growslice_fits (by omega) (Nat.le_trans (Nat.mul_le_mul (show 0 + l.length ≤ 100000 by omega) hb) (by decide))
  have hr := run_append_grow (P := Proofs.Try.prog) w t ty e i z hT.slice hi hz a0 0 0 [] (by simp) (by simp) p l.length cap cs (by rw [h1, hs]) (h9 p rfl) (by omega) (by omega) hfit
  simp only [Nat.zero_add] at hr
  have hge := grownCap_ge w l.length 0 e
  have hcm := grownCap_le_maxLen w l.length 0 e (by simp [maxLen]; omega)
  refine ⟨_, _, _, rows, hr, (Ext.drew _).trans (Ext.alloc _ _), hge, by simpa [maxLen] using hcm, Box.new w.drew _ _, fun j r hj => ⟨(h3 j r hj).1, fun q c hq => ?_⟩, h2, h4⟩
  have h10 := (h3 j r hj).2 q c hq
  have h11 : j * sz + q < cs.length := by
    rcases Nat.lt_or_ge (j * sz + q) cs.length with h | h
    · exact h
    · rw [List.getElem?_eq_none h] at h10; cases h10
  rw [Array.getElem?_append_left (by simp; exact h11)]
  simpa using h10
section
variable {ops : Array Oper} {rest : List Oper} {o : Oper} {a : Act} {Q : Exit → Act → World → Prop} {w : World}
theorem wpList_append_all {α : Type} {sz : Nat} {R : World → α → List Value → Prop} {N : Nat → Prop} {l : List α} {t e : TypeId} {z v : Value} {a0 : Addr} (s x : Operand) (hg : o.guard = none) (hop : o.op = Op.call { callee := Callee.builtin Builtin.append, args := #[s, x], argTypes := #[t, t] })
    (hs : a.eval s = .slice (some a0) 0 0) (hx : a.eval x = v) (hT : RowType t e sz z) (hsz : 0 < sz) (h : IsSl sz R N w v l) (h0 : 0 < l.length) (hl : l.length ≤ 100000)
    (hK : ∀ cap w' cells rows, Ext w w' → l.length ≤ cap → cap ≤ 9223372036854775807 → Box w' w.heap.size cells e → RowsIn sz cells rows → rows.length = l.length → (∀ (i : Nat) x r, l[i]? = some x → rows[i]? = some r → R w x r) →
      wpList Proofs.Try.prog ops Q rest (a.put o.dst (.slice (some ⟨w.heap.size, 0, none⟩) l.length cap)) w') : wpList Proofs.Try.prog ops Q (o :: rest) a w := by
  refine wpList_plain hg fun K hK' => ?_
  obtain ⟨cap, w', cells, rows, hrun, r1, r2, r3, r4, r5, r6, r7⟩ := run_append_all (ty := o.type) a0 hT hsz h h0 hl
  unfold Oper.wp
  simp [execOp, hop, resolve, invoke, builtin, hs, hx, hrun, Result.andThen]
  exact hK' _ _ (hK cap w' cells rows r1 r2 r3 r4 r5 r6 r7)
end
theorem RowsIn.splice {sz : Nat} {cells : Array Value} {rows : List (List Value)} (h : RowsIn sz cells rows) {i : Nat} {r r' : List Value} (hi : rows[i]? = some r) (hr : r'.length = sz) : RowsIn sz (splice cells (i * sz) r') (rows.set i r') := by
  have hlen : ∀ i r, rows[i]? = some r → ∀ j, j < sz → i * sz + j < cells.size := fun i r hi j hj => by
    have := (h i r hi).2 j (r[j]'(by rw [(h i r hi).1]; exact hj)) (List.getElem?_eq_getElem _)
    rcases Nat.lt_or_ge (i * sz + j) cells.size with h | h
    · exact h
    · rw [Array.getElem?_eq_none h] at this; cases this
  have hil : i < rows.length := by
    rcases Nat.lt_or_ge i rows.length with h | h
    · exact h
    · rw [List.getElem?_eq_none h] at hi; cases hi
  have hfit : i * sz + r'.length ≤ cells.size := by
    rw [hr]
    rcases Nat.eq_zero_or_pos sz with h0 | h0
    · subst h0
      have h1 := (h i r hi).1
      exact Nat.le_of_lt_succ (by have : i * 0 + 0 = 0 := by simp
                                  omega)
    · have := hlen i r hi (sz - 1) (by omega); omega
  intro i' q hq
  by_cases hii : i = i'
  · subst hii
    rw [set_at hil] at hq; cases hq
    refine ⟨hr, fun j c hj => ?_⟩
    have hjl : j < r'.length := by
      rcases Nat.lt_or_ge j r'.length with h | h
      · exact h
      · rw [List.getElem?_eq_none h] at hj; cases hj
    rw [splice_get _ _ _ _ hfit, if_pos (by omega), show i * sz + j - i * sz = j by omega]; exact hj
  · rw [List.getElem?_set_ne hii] at hq
    refine ⟨(h i' q hq).1, fun j c hj => ?_⟩
    have hjl : j < sz := by
      rw [← (h i' q hq).1]
      rcases Nat.lt_or_ge j q.length with h | h
      · exact h
      · rw [List.getElem?_eq_none h] at hj; cases hj
    rw [splice_get _ _ _ _ hfit, if_neg (fun hh => ?_)]
    · exact (h i' q hq).2 j c hj
    · rw [hr] at hh
      have h1 := (divmod (i := i') hjl).1
      have h2 := (divmod (i := i) (sz := sz) (j := i' * sz + j - i * sz) (by omega)).1
      rw [show i * sz + (i' * sz + j - i * sz) = i' * sz + j by omega, h1] at h2
      exact hii h2.symm
@[go_sem] theorem eql114_some (a : Addr) (n c : Nat) (w : World) : (binOp .eql 114 (.slice (some a) n c) (.slice none 0 0)).run Proofs.Try.prog w = .ok (.bool false) w := by
  have : ∀ d, (Op.equalIn (d + 1) 114 (.slice (some a) n c) (.slice none 0 0)).run Proofs.Try.prog w = .ok false w := fun d => by simp [Op.equalIn, run_underlying Proofs.Try.underlying114]
  have := this 9999
  simp only [binOp]
  simp [Op.equal, Op.maxDepth, this]
set_option maxRecDepth 100000 in
theorem cloneF_ (N : Nat → Prop) (v : Value) (l : List FrameD) (w : World) (h : IsFrames N w v l) (h0 : 0 < l.length) (hl : l.length ≤ 100000) : Gives Proofs.Try.prog 144 #[v] w (fun r w' => ∃ b cap cells rows, r = .slice (some ⟨b, 0, none⟩) l.length cap ∧ w.heap.size ≤ b ∧ l.length ≤ cap ∧ cap ≤ 9223372036854775807 ∧
    Box w' b cells 95 ∧ RowsIn 11 cells rows ∧ rows.length = l.length ∧ (∀ (i : Nat) x r, l[i]? = some x → rows[i]? = some r → RF (fun y => N y ∨ y = b) w' x r)) := by
  have hc := h
  obtain ⟨a, cap, rfl, h1, h2, h3, _⟩ := hc
  obtain ⟨p, rfl⟩ : ∃ p, a = some p := by
    cases a with
    | none => have := h3 rfl; omega
    | some p => exact ⟨p, rfl⟩
  go_enter Proofs.Try.func144, Proofs.Try.ntmps144
  go_wp2_with (at_builtin; refine wpList_append_all (.tmp 5) (.tmp 6) rfl rfl rfl rfl rowF (by decide) (IsFrames.keep h (show Ext w _ from (by with_reducible (repeat (first | assumption | exact Ext.refl _ | refine Ext.alloc' ?_ _ | refine Ext.store0 ?_ _ _ | refine Ext.storek ?_ _ _ _ | refine Ext.stores0 ?_ ?_ _ _ | refine Ext.storesk ?_ ?_ _ _ _ | refine Ext.drewN' ?_ _ | refine Ext.drew' ?_ | refine Ext.trans ?_ (by assumption))))).keep) h0 hl ?_; intro cap4 w4 cells rows hb4 hc1 hc2 hB hR hRl hRR)
  go_ret
  exact ⟨_, rfl, (by with_reducible (repeat (first | assumption | exact Ext.refl _ | refine Ext.alloc' ?_ _ | refine Ext.store0 ?_ _ _ | refine Ext.storek ?_ _ _ _ | refine Ext.stores0 ?_ ?_ _ _ | refine Ext.storesk ?_ ?_ _ _ _ | refine Ext.drewN' ?_ _ | refine Ext.drew' ?_ | refine Ext.trans ?_ (by assumption)))), _, _, _, _, rfl, by simp, hc1, hc2, (by simpa using hB), hR, hRl, fun i x r hx hr => RF.keep (RF.less (hRR i x r hx hr) (M := fun y => N y ∨ y = w.heap.size + 1) (fun y hy hn => hn.elim id fun e => by simp at hy; omega)) hb4.keep⟩

theorem frames_of_rows {N : Nat → Prop} {w wF : World} {b cap k : Nat} {cells : Array Value} {rows : List (List Value)} {l : List FrameD} {f' : FrameD} {r' : List Value} (hB : Box wF b cells 95) (hrows : RowsIn 11 cells (rows.set k r')) (hl : rows.length = l.length)
    (hRC : ∀ (i : Nat) x r, l[i]? = some x → rows[i]? = some r → RF N w x r) (hlt : ∀ x, x = b → ¬ x < w.heap.size ∨ ∀ (i : Nat) f r, l[i]? = some f → rows[i]? = some r → RF (fun y => N y ∨ y = b) w f r) (kF : Keep (fun x => N x ∨ x = b) w wF) (hn : ¬ N b) (hr' : RF N wF f' r') (hcap : l.length ≤ cap) (hm : cap ≤ 9223372036854775807) : IsFrames N wF (.slice (some ⟨b, 0, none⟩) l.length cap) (l.set k f') := by
  have hRb : ∀ (i : Nat) x r, l[i]? = some x → rows[i]? = some r → RF (fun y => N y ∨ y = b) w x r := by
    rcases hlt b rfl with h | h
    · exact fun i x r hx hr => (hRC i x r hx hr).less fun y hy hn => hn.elim id fun e => absurd (e ▸ hy) h
    · exact h
  have := IsSl.of_box (sz := 11) (R := RF N) (N := N) (cap := cap) (l := l.set k f') hB hn (by simpa using hcap) hm (fun i x hi => by
    have hil : i < l.length := by
      rcases Nat.lt_or_ge i l.length with h | h
      · exact h
      · rw [List.getElem?_eq_none (by simpa using h)] at hi; cases hi
    by_cases hik : k = i
    · subst hik
      rw [set_at hil] at hi; cases hi
      have := hrows k r' (set_at (by omega))
      exact ⟨r', this.1, this.2, hr'⟩
    · rw [List.getElem?_set_ne hik] at hi
      obtain ⟨r, hr⟩ := getSome (show i < rows.length by omega)
      have := hrows i r (by rw [List.getElem?_set_ne hik]; exact hr)
      exact ⟨r, this.1, this.2, ((hRb i x r hi hr).keep kF).less fun _ _ h => .inl h⟩)
  simpa using this
set_option maxHeartbeats 2000000 in
set_option maxRecDepth 100000 in
theorem setDo_ (N : Nat → Prop) (b K n : Nat) (cs : Array Value) (v : Value) (l : List FrameD) (g : FrameD) (fa : Option Addr) (fc p1 : Nat) (w : World) (hB : Box w b cs 116) (h0 : cs[K]? = some v) (hsz : K + 7 ≤ cs.size) (hl : IsFrames N w v l) (hn : l.length = n + 1) (hm : l.length ≤ 100000)
    (hp : Box w p1 #[.int .i64 g.op, .int .i64 g.pc, .int .i64 (gi g.R 0), .int .i64 (gi g.R 1), .int .i64 (gi g.R 2), .int .i64 (gi g.R 3), .int .i64 (gi g.R 4), .int .i64 (gi g.R 5), .int .i64 (gi g.R 6), .int .i64 (gi g.R 7), .slice fa g.S.length fc] 95) (h8 : g.R.length = 8) (hs : IsInts N w (.slice fa g.S.length fc) g.S) (ne1 : b ≠ p1) (hN : ∀ x, N x → x < w.heap.size) (hNb : N b) :
    Calls Proofs.Try.prog 143 #[.pointer (some ⟨b, K, none⟩), .pointer (some ⟨p1, 0, none⟩)] w fun x w' => x = .returned (.tuple #[]) ∧ ∃ bn cap, Box w' b (cs.setIfInBounds K (.slice (some ⟨bn, 0, none⟩) l.length cap)) 116 ∧ Keep (fun x => x = b) w w' ∧
      (∀ a, Ext a w → a.heap.size ≤ b → Ext a w') ∧ IsFrames N w' (.slice (some ⟨bn, 0, none⟩) l.length cap) (l.set n g) := by
  have hK := hB.cell (off := K) (c := v) (by rw [nth_eq]; simpa using h0)
  have hF := hB.frozen (off := K)
  have zb := hB.lt
  have zp := hp.lt
  have hnl : n < l.length := by omega
  have HN := Lib.hid hn
  clear hn
  have hcl := fun w' (e : Ext w w') => cloneF_ N v l w' (IsFrames.keep hl e.keep) (by omega) hm
  have hl0 := hl
  obtain ⟨av, cv, rfl, _, _, _, _⟩ := hl0
  go_enter Proofs.Try.func143, Proofs.Try.ntmps143
  go_wp2_with (fail)
  go_at_call 144
  refine (hcl _ (Ext.refl _)).calls.mono ?_
  rintro x w1 ⟨_, rfl, hb1, bn, cap, cells, rows, rfl, hbn, hc1, hc2, hBn, hR, hRl, hRR⟩
  have D0 := hB.ext hb1
  have DP := hp.ext hb1
  have y0 := D0.lt
  have yn := hBn.lt
  have hF1 := D0.frozen (off := K)
  have hK1 := D0.cell (off := K) (by rw [nth_eq]; simpa using h0)
  have hne : b ≠ bn := by omega
  have hnp : bn ≠ p1 := by omega
  go_wp2_with (fail)
  obtain ⟨W, hW⟩ : ∃ W, W = w1.setCell ⟨b, K, none⟩ (.slice (some ⟨bn, 0, none⟩) l.length cap) := ⟨_, rfl⟩
  have E0 : Box W b (cs.setIfInBounds K (.slice (some ⟨bn, 0, none⟩) l.length cap)) 116 := by rw [hW]; exact D0.setCell _
  have EP : Box W p1 #[.int .i64 g.op, .int .i64 g.pc, .int .i64 (gi g.R 0), .int .i64 (gi g.R 1), .int .i64 (gi g.R 2), .int .i64 (gi g.R 3), .int .i64 (gi g.R 4), .int .i64 (gi g.R 5), .int .i64 (gi g.R 6), .int .i64 (gi g.R 7), .slice fa g.S.length fc] 95 := by rw [hW]; exact DP.setOther ne1 _
  have EN : Box W bn cells 95 := by rw [hW]; exact hBn.setOther hne _
  have kW : Keep (fun x => x = b) w W := by rw [hW]; exact ((Keep.refl (fun x => x = b) w).ext hb1).setCell _ _ (.inr rfl)
  have kW1 : Keep (fun x => x = b) w1 W := by rw [hW]; exact (Keep.refl (fun x => x = b) w1).setCell _ _ (.inr rfl)
  have eW : ∀ a, Ext a w → a.heap.size ≤ b → Ext a W := fun a ha hb => by rw [hW]; exact (ha.trans hb1).store _ _ hb
  rw [← hW]
  clear hW
  have hc0 : W.cell? ⟨b, K + 0, none⟩ = some (.slice (some ⟨bn, 0, none⟩) l.length cap) := E0.cell (by rw [nth_eq]; simp [show K < cs.size by omega])
  obtain ⟨rn, hrn⟩ := getSome (show n < rows.length by omega)
  have hsn : n * 11 + 11 ≤ cells.size := by
    have h9 := hR n rn hrn
    have := h9.2 10 (rn[10]'(by rw [h9.1]; decide)) (List.getElem?_eq_getElem _)
    rcases Nat.lt_or_ge (n * 11 + 10) cells.size with h | h
    · omega
    · rw [Array.getElem?_eq_none h] at this; cases this
  apply region_lit2 (T := [12]) (L := []) (X := [bn]) (G := [eqv _, eqv _, eqv _, eqv _, eqv _, eqv _, eqv _, eqv _, eqv _, eqv (.int .i64 (n : Nat)), eqv (.agg #[.int .i64 g.op, .int .i64 g.pc, .int .i64 (gi g.R 0), .int .i64 (gi g.R 1), .int .i64 (gi g.R 2), .int .i64 (gi g.R 3), .int .i64 (gi g.R 4), .int .i64 (gi g.R 5), .int .i64 (gi g.R 6), .int .i64 (gi g.R 7), .slice fa g.S.length fc]), eqv (.pointer (some ⟨bn, n * 11, none⟩)), anyG])
  case hm => kernel_rfl
  case hop =>
    refine ⟨?_, ?_, ?_, ?_, ?_, ?_, ?_, ?_, ?_, ?_, ?_, ?_, ?_, trivial⟩
    · intro a wa hs hf hd
      have t0 := hf.off 0 (by kernel_rfl) rfl
      exact plain_ rfl (yes_eqv (o_move rfl t0) rfl)
    · intro a wa hs hf hd
      have t11 : a.eval (.tmp 11) = _ := hd.at 0 11 (by kernel_rfl)
      exact plain_ rfl (yes_eqv (o_nilCheck rfl t11) rfl)
    · intro a wa hs hf hd
      have t12 : a.eval (.tmp 12) = _ := hd.at 1 12 (by kernel_rfl)
      exact plain_ rfl (yes_eqv (o_fieldAddr rfl Proofs.Try.underlying116 rfl rfl (by kernel_rfl) t12) rfl)
    · intro a wa hs hf hd
      have t13 : a.eval (.tmp 13) = _ := hd.at 2 13 (by kernel_rfl)
      exact plain_ rfl (yes_eqv (o_load1 rfl Proofs.Try.underlying114 rfl t13 (cell_since hc0 hs rfl)) rfl)
    · intro a wa hs hf hd
      have t0 := hf.off 0 (by kernel_rfl) rfl
      exact plain_ rfl (yes_eqv (o_move rfl t0) rfl)
    · intro a wa hs hf hd
      have t15 : a.eval (.tmp 15) = _ := hd.at 4 15 (by kernel_rfl)
      exact plain_ rfl (yes_eqv (o_nilCheck rfl t15) rfl)
    · intro a wa hs hf hd
      have t16 : a.eval (.tmp 16) = _ := hd.at 5 16 (by kernel_rfl)
      exact plain_ rfl (yes_eqv (o_fieldAddr rfl Proofs.Try.underlying116 rfl rfl (by kernel_rfl) t16) rfl)
    · intro a wa hs hf hd
      have t17 : a.eval (.tmp 17) = _ := hd.at 6 17 (by kernel_rfl)
      exact plain_ rfl (yes_eqv (o_load1 rfl Proofs.Try.underlying114 rfl t17 (cell_since hc0 hs rfl)) rfl)
    · intro a wa hs hf hd
      have t18 : a.eval (.tmp 18) = _ := hd.at 7 18 (by kernel_rfl)
      exact plain_ rfl (yes_eqv (o_len rfl Proofs.Try.underlying114 t18) rfl)
    · intro a wa hs hf hd
      have t19 : a.eval (.tmp 19) = _ := hd.at 8 19 (by kernel_rfl)
      exact plain_ rfl (yes_eqv (o_sub rfl t19 rfl (by have := HN.out; rw [IntKind.wrap_i64]; omega)) rfl)
    · intro a wa hs hf hd
      have t1 := hf.off 1 (by kernel_rfl) rfl
      exact plain_ rfl (yes_eqv (o_load11 rfl Proofs.Try.underlying95 rfl (by kernel_rfl) t1 ((EP.since hs rfl).cell rfl) ((EP.since hs rfl).cell rfl) ((EP.since hs rfl).cell rfl) ((EP.since hs rfl).cell rfl) ((EP.since hs rfl).cell rfl) ((EP.since hs rfl).cell rfl) ((EP.since hs rfl).cell rfl) ((EP.since hs rfl).cell rfl) ((EP.since hs rfl).cell rfl) ((EP.since hs rfl).cell rfl) ((EP.since hs rfl).cell rfl)) rfl)
    · intro a wa hs hf hd
      have t14 : a.eval (.tmp 14) = _ := hd.at 3 14 (by kernel_rfl)
      have t20 : a.eval (.tmp 20) = _ := hd.at 9 20 (by kernel_rfl)
      have h5 := o_indexAddr (sz := 11) (o := { dst := some 22, op := Op.indexAddr 114 (Operand.tmp 14) (Operand.tmp 20), type := 0, pos := "core.go:74", after := #[], guard := none }) rfl Proofs.Try.underlying114 (by kernel_rfl) t14 t20 (by omega) (by omega) (w := wa)
      exact plain_ rfl (yes_eqv (by simpa using o_indexAddr (sz := 11) rfl Proofs.Try.underlying114 (by kernel_rfl) t14 t20 (by omega) (by omega)) rfl)
    · intro a wb wa hs1 hs hf hd hrun
      have t22 : a.eval (.tmp 22) = _ := hd.at 11 22 (by kernel_rfl)
      have t21 : a.eval (.tmp 21) = _ := hd.at 10 21 (by kernel_rfl)
      subst hrun; exact ⟨_, o_store rfl t22 t21 (EN.since hs1 rfl) (by kernel_rfl) (by simp [Value.cells, Value.oneCell']) (by simp [Value.cells]; omega) rfl, Since.put hs (.inr (by simp))⟩
  case hG => exact ⟨stable_eqv _, stable_eqv _, stable_eqv _, stable_eqv _, stable_eqv _, stable_eqv _, stable_eqv _, stable_eqv _, stable_eqv _, stable_eqv _, stable_eqv _, stable_eqv _, stable_any, trivial⟩
  case hc => kernel_rfl
  case hfin =>
    intro w5 hs5
    rintro _ rfl _ rfl _ rfl _ rfl _ rfl _ rfl _ rfl _ rfl _ rfl _ rfl _ rfl _ rfl
    rintro w6 ⟨o1, v1, ho1, hr1, rfl⟩
    cases ho1
    simp only [Act.put, List.setIfInBounds_toArray, List.set_cons_zero, List.set_cons_succ] at hr1 ⊢
    cases (hr1.symm.trans (o_store (v := .agg #[.int .i64 g.op, .int .i64 g.pc, .int .i64 (gi g.R 0), .int .i64 (gi g.R 1), .int .i64 (gi g.R 2), .int .i64 (gi g.R 3), .int .i64 (gi g.R 4), .int .i64 (gi g.R 5), .int .i64 (gi g.R 6), .int .i64 (gi g.R 7), .slice fa g.S.length fc]) (new := splice cells (n * 11) (frameCells g (.slice fa g.S.length fc))) rfl rfl rfl (EN.since hs5 rfl) (by kernel_rfl) (by simp [Value.cells, Value.oneCell']) (by simp [Value.cells]; omega) rfl))
    go_wp2
    go_end0
    have e5 : Ext W w5 := Since.to_ext hs5
    have k6 : Keep (fun x => x = bn) w5 (put w5 bn (.cells (splice cells (n * 11) (frameCells g (.slice fa g.S.length fc))) 95 (0, 0))) := (Keep.refl _ _).put _ _ (.inr rfl)
    have kN : Keep (fun x => N x ∨ x = bn) w (put w5 bn (.cells (splice cells (n * 11) (frameCells g (.slice fa g.S.length fc))) 95 (0, 0))) := ((kW.less (M := fun x => N x ∨ x = bn) (fun x _ hx => by subst hx; exact .inl hNb)).ext e5).put _ _ (.inr (.inr rfl))
    have kN1 : Keep (fun x => N x ∨ x = bn) w1 (put w5 bn (.cells (splice cells (n * 11) (frameCells g (.slice fa g.S.length fc))) 95 (0, 0))) := ((kW1.less (M := fun x => N x ∨ x = bn) (fun x _ hx => by subst hx; exact .inl hNb)).ext e5).put _ _ (.inr (.inr rfl))
    refine ⟨rfl, bn, cap, (E0.ext e5).put_other (Ne.symm hne), ?_, ?_, ?_⟩
    · exact (kW.ext e5).put _ _ (.inl (by omega))
    · exact fun a ha hb => Since.to_ext ((Since.of_ext ((eW a ha hb).trans e5)).put (.inl (by have := ha.size; omega)))
    · have hq := RowsIn.splice hR hrn (r' := frameCells g (.slice fa g.S.length fc)) rfl
      have hBf : Box (put w5 bn (.cells (splice cells (n * 11) (frameCells g (.slice fa g.S.length fc))) 95 (0, 0))) bn (splice cells (n * 11) (frameCells g (.slice fa g.S.length fc))) 95 := (EN.ext e5).put
      exact frames_of_rows hBf hq hRl (fun i x r hx hr => (hRR i x r hx hr).less fun _ _ h => .inl h) (fun x hx => .inr hRR) kN1 (fun hx => absurd (hN _ hx) (by omega)) ⟨h8, _, rfl, IsInts.less (IsInts.keep (IsInts.less hs (M := fun x => N x ∨ x = bn) (fun x hx hn => hn.elim id (fun h => absurd h (by omega)))) kN) (fun _ _ h => .inl h)⟩ hc1 hc2

def setC (c : CoreD) (g : FrameD) : CoreD := { c with F := c.F.set (c.F.length - 1) g }
set_option maxHeartbeats 1000000 in
set_option maxRecDepth 100000 in
theorem changedSet_ (N : Nat → Prop) (va : Value) (s : SysD) (k : Nat) (c : CoreD) (g : FrameD) (fa : Option Addr) (fc p1 : Nat) (w : World) (h : IsSys N w va s) (hN : ∀ b, N b → b < w.heap.size) (hC : s.C.length ≤ 100000) (hk : s.C[k]? = some c) (hF : 0 < c.F.length)
    (hFm : c.F.length ≤ 100000) (hp : Box w p1 #[.int .i64 g.op, .int .i64 g.pc, .int .i64 (gi g.R 0), .int .i64 (gi g.R 1), .int .i64 (gi g.R 2), .int .i64 (gi g.R 3), .int .i64 (gi g.R 4), .int .i64 (gi g.R 5), .int .i64 (gi g.R 6), .int .i64 (gi g.R 7), .slice fa g.S.length fc] 95) (h8 : g.R.length = 8) (hs : IsInts N w (.slice fa g.S.length fc) g.S) :
    Gives Proofs.Try.prog 140 #[va, .int .i64 k, .func (.func 143) #[] #[.pointer (some ⟨p1, 0, none⟩)]] w (fun r w' => IsSys N w' r (withS s k (setC c g))) := by
  obtain ⟨aw, cw, ag, cg, ac, cc, al, cl, rfl, hw, hg, hc, hl⟩ := h.opened
  have hkl : k < s.C.length := by
    rcases Nat.lt_or_ge k s.C.length with h | h
    · exact h
    · rw [List.getElem?_eq_none h] at hk; cases hk
  have hk1 : (k : Int) < (s.C.length : Int) := by omega
  have hc' : IsCores (Bx N w.heap.size (w.heap.size + 3)) w (.slice ac s.C.length cc) s.C := IsCores.less hc (fun x hx hn => Bx.new hx hn)
  have hq1 : p1 < w.heap.size := hp.lt
  go_enter Proofs.Try.func140, Proofs.Try.ntmps140
  go_wp2_with (fail)
  obtain ⟨w2, rows, hrun, hR, hRl, hRC, hKp, hEx⟩ := copy_cores 3 (w := (((w.alloc (.cells #[.slice aw s.M.W.length cw, .slice ag s.M.G.length cg, .bool s.M.bad, .slice ac s.C.length cc, .slice al s.L.length cl] 83)).alloc (.cells #[.slice none 0 0, .slice none 0 0, .bool false, .slice none 0 0, .slice none 0 0] 83)).alloc (.cells (zeros80 s.C.length) 116))) (IsCores.keep hc' (show Ext w (((w.alloc (.cells #[.slice aw s.M.W.length cw, .slice ag s.M.G.length cg, .bool s.M.bad, .slice ac s.C.length cc, .slice al s.L.length cl] 83)).alloc (.cells #[.slice none 0 0, .slice none 0 0, .bool false, .slice none 0 0, .slice none 0 0] 83)).alloc (.cells (zeros80 s.C.length) 116)) from (by with_reducible (repeat (first | assumption | exact Ext.refl _ | refine Ext.alloc' ?_ _ | refine Ext.store0 ?_ _ _ | refine Ext.storek ?_ _ _ _ | refine Ext.stores0 ?_ ?_ _ _ | refine Ext.storesk ?_ ?_ _ _ _ | refine Ext.drewN' ?_ _ | refine Ext.drew' ?_ | refine Ext.trans ?_ (by assumption))))).keep) (by omega) (Box.three' _ _ _ _ _ _ _)
  rw [hrun]
  have hE2 : Ext w w2 := hEx w (by with_reducible (repeat (first | assumption | exact Ext.refl _ | refine Ext.alloc' ?_ _ | refine Ext.store0 ?_ _ _ | refine Ext.storek ?_ _ _ _ | refine Ext.stores0 ?_ ?_ _ _ | refine Ext.storesk ?_ ?_ _ _ _ | refine Ext.drewN' ?_ _ | refine Ext.drew' ?_ | refine Ext.trans ?_ (by assumption)))) (by omega)
  have kp := hKp (fun x => x = w.heap.size + 1 + 1) rfl
  have B0 : Box w2 w.heap.size #[.slice aw s.M.W.length cw, .slice ag s.M.G.length cg, .bool s.M.bad, .slice ac s.C.length cc, .slice al s.L.length cl] 83 := (((Box.new _ _ _).alloc _).alloc _).keep kp (by omega)
  have B1 : Box w2 (w.heap.size + 1) #[.slice none 0 0, .slice none 0 0, .bool false, .slice none 0 0, .slice none 0 0] 83 := ((Box.two _ _ _ _ _).alloc _).keep kp (by omega)
  have hE3 : Ext (((w.alloc (.cells #[.slice aw s.M.W.length cw, .slice ag s.M.G.length cg, .bool s.M.bad, .slice ac s.C.length cc, .slice al s.L.length cl] 83)).alloc (.cells #[.slice none 0 0, .slice none 0 0, .bool false, .slice none 0 0, .slice none 0 0] 83)).alloc (.cells (zeros80 s.C.length) 116)) (((w.alloc (.cells #[.slice aw s.M.W.length cw, .slice ag s.M.G.length cg, .bool s.M.bad, .slice ac s.C.length cc, .slice al s.L.length cl] 83)).alloc (.cells #[.slice none 0 0, .slice none 0 0, .bool false, .slice none 0 0, .slice none 0 0] 83)).alloc (.cells (zeros80 s.C.length) 116)) := Ext.refl _
  have kq : Keep (Bx N w.heap.size (w.heap.size + 3)) (((w.alloc (.cells #[.slice aw s.M.W.length cw, .slice ag s.M.G.length cg, .bool s.M.bad, .slice ac s.C.length cc, .slice al s.L.length cl] 83)).alloc (.cells #[.slice none 0 0, .slice none 0 0, .bool false, .slice none 0 0, .slice none 0 0] 83)).alloc (.cells (zeros80 s.C.length) 116)) w2 := hKp _ (Bx.mem (by omega) (by omega))
  clear hKp hEx hrun
  obtain ⟨cells, hBx, hrows⟩ := hR
  obtain ⟨r, hr⟩ := getSome (show k < rows.length by omega)
  obtain ⟨h3, f, rr, rfl, hf, hrt⟩ := hRC k c r hk hr
  obtain ⟨af, cf, hff, hf1, hf2, hf3, hf4⟩ := hf
  obtain ⟨n, hn⟩ : ∃ n, c.F.length = n + 1 := ⟨c.F.length - 1, by omega⟩
  subst hff
  have h0 : cells[k * 7]? = some (.slice af c.F.length cf) := (hrows k _ hr).2 0 _ rfl
  have hsz : k * 7 + 7 ≤ cells.size := by
    have := (hrows k _ hr).2 6 _ rfl
    rcases Nat.lt_or_ge (k * 7 + 6) cells.size with h | h
    · omega
    · rw [Array.getElem?_eq_none h] at this; cases this
  obtain ⟨c00, c01, c02, c03, c04, d00, d01, d02, d03, d04⟩ := cells5 B0
  obtain ⟨c10, c11, c12, c13, c14, d10, d11, d12, d13, d14⟩ := cells5 B1
  have z0 := B0.lt
  have z1 := B1.lt
  have z2 := hBx.lt
  go_wp2_with (fail)
  go_at_call 143
  have hf' : IsFrames (Bx N w.heap.size (w.heap.size + 3)) w2 (.slice af c.F.length cf) c.F := IsFrames.keep (⟨_, _, rfl, hf1, hf2, hf3, hf4⟩ : IsFrames (Bx N w.heap.size (w.heap.size + 3)) (((w.alloc (.cells #[.slice aw s.M.W.length cw, .slice ag s.M.G.length cg, .bool s.M.bad, .slice ac s.C.length cc, .slice al s.L.length cl] 83)).alloc (.cells #[.slice none 0 0, .slice none 0 0, .bool false, .slice none 0 0, .slice none 0 0] 83)).alloc (.cells (zeros80 s.C.length) 116)) (.slice af c.F.length cf) c.F) kq
  have hs' : IsInts (Bx N w.heap.size (w.heap.size + 3)) w2 (.slice fa g.S.length fc) g.S := (IsInts.less hs (fun x hx hn => Bx.new hx hn)).ext hE2
  refine (setDo_ (Bx N w.heap.size (w.heap.size + 3)) (w.heap.size + 1 + 1) (k * 7) n cells _ c.F g fa fc p1 w2 hBx h0 hsz hf' hn hFm (hp.ext hE2) h8 hs' (by omega) (fun x hx => hx.elim (fun h => by have := hN _ h; omega) (fun h => by have := h.2; omega)) (Bx.mem (by omega) (by omega))).mono ?_
  rintro x w3 ⟨rfl, bn, cap3, hB3, hK3, hE3', hFr⟩
  have hEw : Ext w w3 := hE3' w hE2 (by omega)
  have D0 := B0.keep hK3 (by omega)
  have D1 := B1.keep hK3 (by omega)
  clear c00 c01 c02 c03 c04 d00 d01 d02 d03 d04 c10 c11 c12 c13 c14 d10 d11 d12 d13 d14
  obtain ⟨c00, c01, c02, c03, c04, d00, d01, d02, d03, d04⟩ := cells5 D0
  obtain ⟨c10, c11, c12, c13, c14, d10, d11, d12, d13, d14⟩ := cells5 D1
  have y0 := D0.lt
  have y1 := D1.lt
  have k3 : Keep (Bx N w.heap.size (w.heap.size + 3)) (((w.alloc (.cells #[.slice aw s.M.W.length cw, .slice ag s.M.G.length cg, .bool s.M.bad, .slice ac s.C.length cc, .slice al s.L.length cl] 83)).alloc (.cells #[.slice none 0 0, .slice none 0 0, .bool false, .slice none 0 0, .slice none 0 0] 83)).alloc (.cells (zeros80 s.C.length) 116)) w3 := kq.trans (hK3.less fun x _ hx => by subst hx; exact Bx.mem (by omega) (by omega))
  have hRk : rows[k]? = some (coreCells c (.slice af c.F.length cf) rr) := hr
  have q3 := RowsIn.set (sz := 7) hrows hRk (o := 0) (by decide) (.slice (some ⟨bn, 0, none⟩) c.F.length cap3)
  have fin : ∀ wF, Keep (Bx N w.heap.size (w.heap.size + 3)) w3 wF → Box wF (w.heap.size + 1 + 1) (cells.setIfInBounds (k * 7) (.slice (some ⟨bn, 0, none⟩) c.F.length cap3)) 116 → IsCores N wF (.slice (some ⟨w.heap.size + 1 + 1, 0, none⟩) s.C.length s.C.length) (s.C.set k (setC c g)) := fun wF kF hBF => by
    have kA := k3.trans kF
    refine cores_of_rows (lo := w.heap.size) (hi := w.heap.size + 3) hBF q3 hRl hRC kA (fun hx => absurd (hN _ hx) (by omega)) ?_ (Nat.le_refl _) (by omega)
    refine ⟨h3, .slice (some ⟨bn, 0, none⟩) c.F.length cap3, rr, ?_, ?_, ?_⟩
    · rfl
    · have h6 := IsFrames.less (IsFrames.keep hFr kF) (M := N) (fun _ _ h => .inl h)
      show IsFrames N wF (.slice (some ⟨bn, 0, none⟩) c.F.length cap3) (c.F.set (c.F.length - 1) g)
      rw [show c.F.length - 1 = n by omega]
      exact h6
    · exact (hrt.keep kA).less fun _ _ h => .inl h
  go_wp2
  refine bodyPost_ret (ret_cell ((((((D1.setOther (by omega) _).setCell _).setCell _).setCell _).setCell _).setCell _) Proofs.Try.results140 rfl Proofs.Try.underlying83 rfl (by kernel_rfl)) rfl ⟨_, rfl, (by with_reducible (repeat (first | assumption | exact Ext.refl _ | refine Ext.alloc' ?_ _ | refine Ext.store0 ?_ _ _ | refine Ext.storek ?_ _ _ _ | refine Ext.stores0 ?_ ?_ _ _ | refine Ext.storesk ?_ ?_ _ _ _ | refine Ext.drewN' ?_ _ | refine Ext.drew' ?_ | refine Ext.trans ?_ (by assumption)))), IsSys.mk rfl (hw.ext (by with_reducible (repeat (first | assumption | exact Ext.refl _ | refine Ext.alloc' ?_ _ | refine Ext.store0 ?_ _ _ | refine Ext.storek ?_ _ _ _ | refine Ext.stores0 ?_ ?_ _ _ | refine Ext.storesk ?_ ?_ _ _ _ | refine Ext.drewN' ?_ _ | refine Ext.drew' ?_ | refine Ext.trans ?_ (by assumption))))) (hg.ext (by with_reducible (repeat (first | assumption | exact Ext.refl _ | refine Ext.alloc' ?_ _ | refine Ext.store0 ?_ _ _ | refine Ext.storek ?_ _ _ _ | refine Ext.stores0 ?_ ?_ _ _ | refine Ext.storesk ?_ ?_ _ _ _ | refine Ext.drewN' ?_ _ | refine Ext.drew' ?_ | refine Ext.trans ?_ (by assumption))))) (fin _ (by with_reducible (repeat (first | assumption | exact Keep.refl _ _ | refine Keep.alloc ?_ _ | refine Keep.s ?_ (by first | assumption | exact Bx.mem (by omega) (by omega)) | refine Keep.n ?_ (by omega) | refine Keep.ext ?_ (by assumption) | refine Keep.drew ?_))) (hB3.keep (M := Bx no w.heap.size (w.heap.size + 2)) (by with_reducible (repeat (first | assumption | exact Keep.refl _ _ | refine Keep.alloc ?_ _ | refine Keep.s ?_ (by first | assumption | exact Bx.mem (by omega) (by omega)) | refine Keep.n ?_ (by omega) | refine Keep.ext ?_ (by assumption) | refine Keep.drew ?_))) (fun hx => hx.elim id (fun h => by omega)))) (IsEvs.keep hl (show Ext w _ from (by with_reducible (repeat (first | assumption | exact Ext.refl _ | refine Ext.alloc' ?_ _ | refine Ext.store0 ?_ _ _ | refine Ext.storek ?_ _ _ _ | refine Ext.stores0 ?_ ?_ _ _ | refine Ext.storesk ?_ ?_ _ _ _ | refine Ext.drewN' ?_ _ | refine Ext.drew' ?_ | refine Ext.trans ?_ (by assumption))))).keep)⟩

def setS (s : SysD) (id : Int) (g : FrameD) : SysD := doS s id fun c => setC c g
set_option maxHeartbeats 1000000 in
set_option maxRecDepth 100000 in
theorem set_ (N : Nat → Prop) (va vf : Value) (s : SysD) (id : Int) (g : FrameD) (w : World) (h : IsSys N w va s) (hf : IsFrame N w vf g) (hN : ∀ b, N b → b < w.heap.size) (hC : s.C.length ≤ 100000) (hFm : ∀ (i : Nat) c, s.C[i]? = some c → c.F.length ≤ 100000) :
    Gives Proofs.Try.prog 85 #[va, .int .i64 id, vf] w (fun r w' => IsSys N w' r (setS s id g)) := by
  have kt := fun (w' : World) (e : Ext w w') => top_ N va s id w' (h.ext e)
  have hB := h.less (M := Bx N w.heap.size (w.heap.size + 3)) fun x hx hn => Bx.new hx hn
  obtain ⟨aw, cw, ag, cg, ac, cc, al, cl, rfl, hw, hg, hc, hl⟩ := h.opened
  obtain ⟨ga, gc, rfl, g8, gs⟩ := hf.opened
  cases ht : topD s id with
  | none =>
    rw [show (topD s id).isSome = false by rw [ht]; rfl] at kt
    have hd : setS s id g = s := doS_none ht
    rw [hd]
    go_enter Proofs.Try.func85, Proofs.Try.ntmps85
    go_wp2_with (fail)
    go_at_call 81
    refine (kt _ (by with_reducible (repeat (first | assumption | exact Ext.refl _ | refine Ext.alloc' ?_ _ | refine Ext.store0 ?_ _ _ | refine Ext.storek ?_ _ _ _ | refine Ext.stores0 ?_ ?_ _ _ | refine Ext.storesk ?_ ?_ _ _ _ | refine Ext.drewN' ?_ _ | refine Ext.drew' ?_ | refine Ext.trans ?_ (by assumption))))).calls.mono ?_
    rintro x w1 ⟨_, rfl, hb1, u, rfl, hu⟩
    obtain ⟨tf, htf⟩ : ∃ tf, topF s id = tf := ⟨_, rfl⟩
    rw [htf] at hu
    clear htf
    obtain ⟨fa, fc, rfl, f8, fs⟩ := hu.opened
    have B0 : Box w1 w.heap.size #[.slice aw s.M.W.length cw, .slice ag s.M.G.length cg, .bool s.M.bad, .slice ac s.C.length cc, .slice al s.L.length cl] 83 := (((Box.new _ _ _).alloc _).alloc _).ext hb1
    have B1 : Box w1 (w.heap.size + 1) #[.int .i64 g.op, .int .i64 g.pc, .int .i64 (gi g.R 0), .int .i64 (gi g.R 1), .int .i64 (gi g.R 2), .int .i64 (gi g.R 3), .int .i64 (gi g.R 4), .int .i64 (gi g.R 5), .int .i64 (gi g.R 6), .int .i64 (gi g.R 7), .slice ga g.S.length gc] 95 := ((Box.two _ _ _ _ _).alloc _).ext hb1
    have B3 : Box w1 (w.heap.size + 1 + 1) #[.slice none 0 0, .slice none 0 0, .bool false, .slice none 0 0, .slice none 0 0] 83 := (Box.three' _ _ _ _ _ _ _).ext hb1
    obtain ⟨c00, c01, c02, c03, c04, d00, d01, d02, d03, d04⟩ := cells5 B0
    obtain ⟨c30, c31, c32, c33, c34, d30, d31, d32, d33, d34⟩ := cells5 B3
    have z0 : w.heap.size < w1.heap.size := B0.lt
    have z3 : w.heap.size + 1 + 1 < w1.heap.size := B3.lt
    go_wp2
    exact bodyPost_ret (ret_cell ((((((B3.setCell _).setCell _).setCell _).setCell _).setCell _).alloc _) Proofs.Try.results85 rfl Proofs.Try.underlying83 rfl (by kernel_rfl)) rfl ⟨_, rfl, (by with_reducible (repeat (first | assumption | exact Ext.refl _ | refine Ext.alloc' ?_ _ | refine Ext.store0 ?_ _ _ | refine Ext.storek ?_ _ _ _ | refine Ext.storen ?_ (by omega) | refine Ext.stores0 ?_ ?_ _ _ | refine Ext.storesk ?_ ?_ _ _ _ | refine Ext.drewN' ?_ _ | refine Ext.drew' ?_ | refine Ext.trans ?_ (by assumption)))), IsSys.mk rfl (hw.ext (by with_reducible (repeat (first | assumption | exact Ext.refl _ | refine Ext.alloc' ?_ _ | refine Ext.store0 ?_ _ _ | refine Ext.storek ?_ _ _ _ | refine Ext.storen ?_ (by omega) | refine Ext.stores0 ?_ ?_ _ _ | refine Ext.storesk ?_ ?_ _ _ _ | refine Ext.drewN' ?_ _ | refine Ext.drew' ?_ | refine Ext.trans ?_ (by assumption))))) (hg.ext (by with_reducible (repeat (first | assumption | exact Ext.refl _ | refine Ext.alloc' ?_ _ | refine Ext.store0 ?_ _ _ | refine Ext.storek ?_ _ _ _ | refine Ext.storen ?_ (by omega) | refine Ext.stores0 ?_ ?_ _ _ | refine Ext.storesk ?_ ?_ _ _ _ | refine Ext.drewN' ?_ _ | refine Ext.drew' ?_ | refine Ext.trans ?_ (by assumption))))) (IsCores.keep hc (show Ext w _ from (by with_reducible (repeat (first | assumption | exact Ext.refl _ | refine Ext.alloc' ?_ _ | refine Ext.store0 ?_ _ _ | refine Ext.storek ?_ _ _ _ | refine Ext.storen ?_ (by omega) | refine Ext.stores0 ?_ ?_ _ _ | refine Ext.storesk ?_ ?_ _ _ _ | refine Ext.drewN' ?_ _ | refine Ext.drew' ?_ | refine Ext.trans ?_ (by assumption))))).keep) (IsEvs.keep hl (show Ext w _ from (by with_reducible (repeat (first | assumption | exact Ext.refl _ | refine Ext.alloc' ?_ _ | refine Ext.store0 ?_ _ _ | refine Ext.storek ?_ _ _ _ | refine Ext.storen ?_ (by omega) | refine Ext.stores0 ?_ ?_ _ _ | refine Ext.storesk ?_ ?_ _ _ _ | refine Ext.drewN' ?_ _ | refine Ext.drew' ?_ | refine Ext.trans ?_ (by assumption))))).keep)⟩
  | some g0 =>
    obtain ⟨k, c, rfl, hck, hpos, _⟩ := top_some ht
    rw [show (topD s k).isSome = true by rw [ht]; rfl] at kt
    have hd : setS s k g = withS s k (setC c g) := doS_some ht hck
    rw [hd]
    go_enter Proofs.Try.func85, Proofs.Try.ntmps85
    go_wp2_with (fail)
    go_at_call 81
    refine (kt _ (by with_reducible (repeat (first | assumption | exact Ext.refl _ | refine Ext.alloc' ?_ _ | refine Ext.store0 ?_ _ _ | refine Ext.storek ?_ _ _ _ | refine Ext.stores0 ?_ ?_ _ _ | refine Ext.storesk ?_ ?_ _ _ _ | refine Ext.drewN' ?_ _ | refine Ext.drew' ?_ | refine Ext.trans ?_ (by assumption))))).calls.mono ?_
    rintro x w1 ⟨_, rfl, hb1, u, rfl, hu⟩
    obtain ⟨tf, htf⟩ : ∃ tf, topF s k = tf := ⟨_, rfl⟩
    rw [htf] at hu
    clear htf
    obtain ⟨fa, fc, rfl, f8, fs⟩ := hu.opened
    have B0 : Box w1 w.heap.size #[.slice aw s.M.W.length cw, .slice ag s.M.G.length cg, .bool s.M.bad, .slice ac s.C.length cc, .slice al s.L.length cl] 83 := (((Box.new _ _ _).alloc _).alloc _).ext hb1
    have B1 : Box w1 (w.heap.size + 1) #[.int .i64 g.op, .int .i64 g.pc, .int .i64 (gi g.R 0), .int .i64 (gi g.R 1), .int .i64 (gi g.R 2), .int .i64 (gi g.R 3), .int .i64 (gi g.R 4), .int .i64 (gi g.R 5), .int .i64 (gi g.R 6), .int .i64 (gi g.R 7), .slice ga g.S.length gc] 95 := ((Box.two _ _ _ _ _).alloc _).ext hb1
    have B3 : Box w1 (w.heap.size + 1 + 1) #[.slice none 0 0, .slice none 0 0, .bool false, .slice none 0 0, .slice none 0 0] 83 := (Box.three' _ _ _ _ _ _ _).ext hb1
    obtain ⟨c00, c01, c02, c03, c04, d00, d01, d02, d03, d04⟩ := cells5 B0
    obtain ⟨c30, c31, c32, c33, c34, d30, d31, d32, d33, d34⟩ := cells5 B3
    have z0 : w.heap.size < w1.heap.size := B0.lt
    have z3 : w.heap.size + 1 + 1 < w1.heap.size := B3.lt
    go_wp2_with (fail)
    go_at_call 140
    have hgs : IsInts (Bx N w.heap.size (w.heap.size + 3)) w (.slice ga g.S.length gc) g.S := IsInts.less gs fun x hx hn => Bx.new hx hn
    refine (changedSet_ (Bx N w.heap.size (w.heap.size + 3)) _ s k c g ga gc (w.heap.size + 1) _ (hB.ext (by with_reducible (repeat (first | assumption | exact Ext.refl _ | refine Ext.alloc' ?_ _ | refine Ext.store0 ?_ _ _ | refine Ext.storek ?_ _ _ _ | refine Ext.stores0 ?_ ?_ _ _ | refine Ext.storesk ?_ ?_ _ _ _ | refine Ext.drewN' ?_ _ | refine Ext.drew' ?_ | refine Ext.trans ?_ (by assumption))))) (fun b hb => hb.elim (fun h => by have := hN _ h; simp; omega) (fun h => by have := h.2; simp; omega)) hC hck hpos (hFm k c hck) (B1.alloc _) g8 (hgs.ext (by with_reducible (repeat (first | assumption | exact Ext.refl _ | refine Ext.alloc' ?_ _ | refine Ext.store0 ?_ _ _ | refine Ext.storek ?_ _ _ _ | refine Ext.stores0 ?_ ?_ _ _ | refine Ext.storesk ?_ ?_ _ _ _ | refine Ext.drewN' ?_ _ | refine Ext.drew' ?_ | refine Ext.trans ?_ (by assumption)))))).calls.mono ?_
    rintro x w2 ⟨_, rfl, hb2, hu2⟩
    obtain ⟨xw, yw, xg, yg, xc, yc, xl, yl, rfl, hxw, hxg, hxc, hxl⟩ := hu2.opened
    have D3 := (B3.alloc (.cells #[.int .i64 tf.op, .int .i64 tf.pc, .int .i64 (gi tf.R 0), .int .i64 (gi tf.R 1), .int .i64 (gi tf.R 2), .int .i64 (gi tf.R 3), .int .i64 (gi tf.R 4), .int .i64 (gi tf.R 5), .int .i64 (gi tf.R 6), .int .i64 (gi tf.R 7), .slice fa tf.S.length fc] 95 (0, 0))).ext hb2
    clear c00 c01 c02 c03 c04 d00 d01 d02 d03 d04 c30 c31 c32 c33 c34 d30 d31 d32 d33 d34
    obtain ⟨c30, c31, c32, c33, c34, d30, d31, d32, d33, d34⟩ := cells5 D3
    have y3 := D3.lt
    go_wp2
    exact bodyPost_ret (ret_cell (((((D3.setCell _).setCell _).setCell _).setCell _).setCell _) Proofs.Try.results85 rfl Proofs.Try.underlying83 rfl (by kernel_rfl)) rfl ⟨_, rfl, (by with_reducible (repeat (first | assumption | exact Ext.refl _ | refine Ext.alloc' ?_ _ | refine Ext.store0 ?_ _ _ | refine Ext.storek ?_ _ _ _ | refine Ext.storen ?_ (by omega) | refine Ext.stores0 ?_ ?_ _ _ | refine Ext.storesk ?_ ?_ _ _ _ | refine Ext.drewN' ?_ _ | refine Ext.drew' ?_ | refine Ext.trans ?_ (by assumption)))), IsSys.less (IsSys.keep hu2 (by with_reducible (repeat (first | assumption | exact Keep.refl _ _ | refine Keep.alloc ?_ _ | refine Keep.s ?_ (by first | assumption | exact Bx.mem (by omega) (by omega)) | refine Keep.n ?_ (by omega) | refine Keep.ext ?_ (by assumption) | refine Keep.drew ?_)))) (fun _ _ hn => .inl hn)⟩

def isOne (B : Nat) (cs : Array Value) : GP := fun v w => ∃ b, v = .slice (some ⟨b, 0, none⟩) 1 1 ∧ B ≤ b ∧ Box w b cs 95
theorem stable_isOne (B : Nat) (cs : Array Value) : Stable (isOne B cs) := fun _ _ _ ⟨b, h1, h2, h3⟩ hx => ⟨b, h1, h2, h3.ext hx⟩
def isGrown (N : Nat → Prop) (B : Nat) (l : List FrameD) : GP := fun v w => ∃ b cap, v = .slice (some ⟨b, 0, none⟩) l.length cap ∧ B ≤ b ∧ b < w.heap.size ∧ IsFrames N w (.slice (some ⟨b, 0, none⟩) l.length cap) l
theorem stable_isGrown (N : Nat → Prop) (B : Nat) (l : List FrameD) : Stable (isGrown N B l) := fun _ _ _ ⟨b, c, h1, h2, h3, h4⟩ hx => ⟨b, c, h1, h2, Nat.lt_of_lt_of_le h3 hx.size, IsFrames.keep h4 hx.keep⟩
theorem yes_one {o : Oper} {a : Act} {w : World} {x : Operand} {B : Nat} {g : FrameD} {fa : Option Addr} {fc : Nat} (ho : o.op = .buildSlice 114 1 #[(0, x)]) (hx : a.eval x = .agg #[.int .i64 g.op, .int .i64 g.pc, .int .i64 (gi g.R 0), .int .i64 (gi g.R 1), .int .i64 (gi g.R 2), .int .i64 (gi g.R 3), .int .i64 (gi g.R 4), .int .i64 (gi g.R 5), .int .i64 (gi g.R 6), .int .i64 (gi g.R 7), .slice fa g.S.length fc]) (hd : o.dst.isSome = true) (hB : B ≤ w.heap.size) : Yes Proofs.Try.prog o a w (isOne B #[.int .i64 g.op, .int .i64 g.pc, .int .i64 (gi g.R 0), .int .i64 (gi g.R 1), .int .i64 (gi g.R 2), .int .i64 (gi g.R 3), .int .i64 (gi g.R 4), .int .i64 (gi g.R 5), .int .i64 (gi g.R 6), .int .i64 (gi g.R 7), .slice fa g.S.length fc]) := by
  obtain ⟨i, hi, hz, hs, _⟩ := rowF.info
  refine yes_val (v := .slice (some ⟨w.heap.size, 0, none⟩) 1 1) (w' := w.alloc (.cells #[.int .i64 g.op, .int .i64 g.pc, .int .i64 (gi g.R 0), .int .i64 (gi g.R 1), .int .i64 (gi g.R 2), .int .i64 (gi g.R 3), .int .i64 (gi g.R 4), .int .i64 (gi g.R 5), .int .i64 (gi g.R 6), .int .i64 (gi g.R 7), .slice fa g.S.length fc] 95)) ?_ (Ext.alloc _ _) ⟨_, rfl, hB, Box.new _ _ _⟩ hd
  have := run_buildSlice (P := Proofs.Try.prog) w 114 95 1 #[(0, .agg #[.int .i64 g.op, .int .i64 g.pc, .int .i64 (gi g.R 0), .int .i64 (gi g.R 1), .int .i64 (gi g.R 2), .int .i64 (gi g.R 3), .int .i64 (gi g.R 4), .int .i64 (gi g.R 5), .int .i64 (gi g.R 6), .int .i64 (gi g.R 7), .slice fa g.S.length fc])] #[.int .i64 g.op, .int .i64 g.pc, .int .i64 (gi g.R 0), .int .i64 (gi g.R 1), .int .i64 (gi g.R 2), .int .i64 (gi g.R 3), .int .i64 (gi g.R 4), .int .i64 (gi g.R 5), .int .i64 (gi g.R 6), .int .i64 (gi g.R 7), .slice fa g.S.length fc] i _ Proofs.Try.underlying114 hi hz (by rw [hs]; decide) (by rw [hs]; decide) (by rw [hs]; first | kernel_rfl | simp [Instr.fill, Value.cells])
  simp [execOp, ho, hx, this]
theorem yes_append1 {o : Oper} {a : Act} {w : World} {s x : Operand} {B b : Nat} {N : Nat → Prop} {l : List FrameD} {g : FrameD} {al fa : Option Addr} {fc : Nat} (ho : o.op = Op.call { callee := Callee.builtin Builtin.append, args := #[s, x], argTypes := #[114, 114] })
    (hs : a.eval s = .slice al l.length l.length) (hx : a.eval x = .slice (some ⟨b, 0, none⟩) 1 1) (hl : IsFrames N w (.slice al l.length l.length) l) (hm : l.length ≤ 100000) (hb : Box w b #[.int .i64 g.op, .int .i64 g.pc, .int .i64 (gi g.R 0), .int .i64 (gi g.R 1), .int .i64 (gi g.R 2), .int .i64 (gi g.R 3), .int .i64 (gi g.R 4), .int .i64 (gi g.R 5), .int .i64 (gi g.R 6), .int .i64 (gi g.R 7), .slice fa g.S.length fc] 95) (h8 : g.R.length = 8) (hg : IsInts N w (.slice fa g.S.length fc) g.S) (hn : ¬ N w.heap.size) (hd : o.dst.isSome = true) (hB : B ≤ w.heap.size) :
    Yes Proofs.Try.prog o a w (isGrown N B (l ++ [g])) := by
  obtain ⟨a', cap, w', hrun, r1, r2, bb, rfl, r3⟩ := run_append_one (ty := o.type) (c := 1) (be := ⟨b, 0, none⟩) (x := g) (r := frameCells g (.slice fa g.S.length fc)) rowF (by decide) hl hm rfl
    (fun j c hj => by rw [show (⟨b, 0, none⟩ : Addr).add j = ⟨b, j, none⟩ by unfold Addr.add; split <;> simp_all]; exact hb.cell (by rw [nth_eq]; simpa [frameCells] using hj)) ⟨h8, _, rfl, hg⟩ (fun _ _ _ e h => h.keep e.keep) hn
  refine yes_val (v := .slice (some ⟨bb, 0, none⟩) (l.length + 1) cap) (w' := w') ?_ r1 ⟨bb, cap, by simp, by omega, ?_, by simpa using r2⟩ hd
  · simp [execOp, ho, resolve, invoke, builtin, hs, hx, hrun, Result.andThen]
  · obtain ⟨_, _, e, _, _, _, h4⟩ := r2
    simp at e
    obtain ⟨rfl, rfl⟩ := e
    obtain ⟨b2, _, _, e2, h5, _⟩ := h4 l.length g (by simp)
    cases e2; exact h5
set_option maxHeartbeats 2000000 in
set_option maxRecDepth 100000 in
theorem callDo_ (N : Nat → Prop) (b K : Nat) (cs : Array Value) (v : Value) (l : List FrameD) (g : FrameD) (fa : Option Addr) (fc p1 : Nat) (w : World) (hB : Box w b cs 116) (h0 : cs[K]? = some v) (hsz : K + 7 ≤ cs.size) (hl : IsFrames N w v l) (hm : l.length ≤ 100000)
    (hp : Box w p1 #[.int .i64 g.op, .int .i64 g.pc, .int .i64 (gi g.R 0), .int .i64 (gi g.R 1), .int .i64 (gi g.R 2), .int .i64 (gi g.R 3), .int .i64 (gi g.R 4), .int .i64 (gi g.R 5), .int .i64 (gi g.R 6), .int .i64 (gi g.R 7), .slice fa g.S.length fc] 95) (h8 : g.R.length = 8) (hs : IsInts N w (.slice fa g.S.length fc) g.S) (ne1 : b ≠ p1) (hN : ∀ x, N x → x < w.heap.size) (hNb : N b) :
    Calls Proofs.Try.prog 141 #[.pointer (some ⟨b, K, none⟩), .pointer (some ⟨p1, 0, none⟩)] w fun x w' => x = .returned (.tuple #[]) ∧ ∃ bn cap, Box w' b (cs.setIfInBounds K (.slice (some ⟨bn, 0, none⟩) (l ++ [g]).length cap)) 116 ∧ Keep (fun x => x = b) w w' ∧
      (∀ a, Ext a w → a.heap.size ≤ b → Ext a w') ∧ IsFrames N w' (.slice (some ⟨bn, 0, none⟩) (l ++ [g]).length cap) (l ++ [g]) := by
  have zb := hB.lt
  have zp := hp.lt
  have hl0 := hl
  obtain ⟨av, cv, rfl, hc1, hc2, hc3, _⟩ := hl0
  have hc0 : w.cell? ⟨b, K + 0, none⟩ = some (.slice av l.length cv) := hB.cell (by rw [nth_eq]; simpa using h0)
  go_enter Proofs.Try.func141, Proofs.Try.ntmps141
  go_wp2_with (fail)
  apply region_lit2 (T := [11]) (L := [9, 10]) (X := [b]) (G := [eqv _, eqv _, eqv _, eqv _, eqv (.slice av l.length cv), eqv (.slice av l.length l.length), eqv (.agg #[.int .i64 g.op, .int .i64 g.pc, .int .i64 (gi g.R 0), .int .i64 (gi g.R 1), .int .i64 (gi g.R 2), .int .i64 (gi g.R 3), .int .i64 (gi g.R 4), .int .i64 (gi g.R 5), .int .i64 (gi g.R 6), .int .i64 (gi g.R 7), .slice fa g.S.length fc]), isOne w.heap.size #[.int .i64 g.op, .int .i64 g.pc, .int .i64 (gi g.R 0), .int .i64 (gi g.R 1), .int .i64 (gi g.R 2), .int .i64 (gi g.R 3), .int .i64 (gi g.R 4), .int .i64 (gi g.R 5), .int .i64 (gi g.R 6), .int .i64 (gi g.R 7), .slice fa g.S.length fc], isGrown N w.heap.size (l ++ [g]), eqv _, eqv _, anyG])
  case hm => kernel_rfl
  case hop =>
    refine ⟨?_, ?_, ?_, ?_, ?_, ?_, ?_, ?_, ?_, ?_, ?_, ?_, trivial⟩
    · intro a wa hs1 hf hd
      have t0 := hf.off 0 (by kernel_rfl) rfl
      exact plain_ rfl (yes_eqv (o_move rfl t0) rfl)
    · intro a wa hs1 hf hd
      have t0 := hf.off 0 (by kernel_rfl) rfl
      exact plain_ rfl (yes_eqv (o_move rfl t0) rfl)
    · intro a wa hs1 hf hd
      have t4 : a.eval (.tmp 4) = _ := hd.at 1 4 (by kernel_rfl)
      exact plain_ rfl (yes_eqv (o_nilCheck rfl t4) rfl)
    · intro a wa hs1 hf hd
      have t5 : a.eval (.tmp 5) = _ := hd.at 2 5 (by kernel_rfl)
      exact plain_ rfl (yes_eqv (o_fieldAddr rfl Proofs.Try.underlying116 rfl rfl (by kernel_rfl) t5) rfl)
    · intro a wa hs1 hf hd
      have t6 : a.eval (.tmp 6) = _ := hd.at 3 6 (by kernel_rfl)
      exact plain_ rfl (yes_eqv (o_load1 rfl Proofs.Try.underlying114 rfl t6 (cell_since hc0 hs1 rfl)) rfl)
    · intro a wa hs1 hf hd
      have t7 : a.eval (.tmp 7) = _ := hd.at 4 7 (by kernel_rfl)
      exact plain_ rfl (yes_gives (clipF_ av l.length cv _ hc1 hc2 hc3) rfl rfl Proofs.Try.func142 (by kernel_rfl) (by kernel_rfl) (by simp only [List.map_toArray, List.map_cons, List.map_nil, t7]) rfl)
    · intro a wa hs1 hf hd
      have t1 := hf.off 1 (by kernel_rfl) rfl
      exact plain_ rfl (yes_eqv (o_load11 rfl Proofs.Try.underlying95 rfl (by kernel_rfl) t1 ((hp.since hs1 rfl).cell rfl) ((hp.since hs1 rfl).cell rfl) ((hp.since hs1 rfl).cell rfl) ((hp.since hs1 rfl).cell rfl) ((hp.since hs1 rfl).cell rfl) ((hp.since hs1 rfl).cell rfl) ((hp.since hs1 rfl).cell rfl) ((hp.since hs1 rfl).cell rfl) ((hp.since hs1 rfl).cell rfl) ((hp.since hs1 rfl).cell rfl) ((hp.since hs1 rfl).cell rfl)) rfl)
    · intro a wa hs1 hf hd
      have t9 : a.eval (.tmp 9) = _ := hd.at 6 9 (by kernel_rfl)
      exact plain_ rfl (yes_one rfl t9 rfl hs1.size)
    · intro a wa hs1 hf hd
      have t8 : a.eval (.tmp 8) = _ := hd.at 5 8 (by kernel_rfl)
      have t10 := hd.at 7 10 (by kernel_rfl)
      obtain ⟨bo, hbo, _, hBo⟩ := t10
      exact plain_ rfl (yes_append1 rfl t8 hbo (IsSl.cut (IsFrames.keep hl (Since.to_ext hs1).keep)) hm hBo h8 (hs.ext (Since.to_ext hs1)) (fun hx => absurd (hN _ hx) (by have := hs1.size; omega)) rfl hs1.size)
    · intro a wb wa hs1 hs2 hf hd
      have t3 : a.eval (.tmp 3) = _ := hd.at 0 3 (by kernel_rfl)
      exact plain_ rfl (late_eqv (o_nilCheck rfl t3) rfl)
    · intro a wb wa hs1 hs2 hf hd
      have t12 : a.eval (.tmp 12) = _ := hd.at 9 12 (by kernel_rfl)
      exact plain_ rfl (late_eqv (o_fieldAddr rfl Proofs.Try.underlying116 rfl rfl (by kernel_rfl) t12) rfl)
    · intro a wb wa hs1 hs2 hf hd hrun
      have t13 : a.eval (.tmp 13) = _ := hd.at 10 13 (by kernel_rfl)
      have t11 := hd.at 8 11 (by kernel_rfl)
      subst hrun; obtain ⟨bn, cap, hv, hb1, hb2, hfr⟩ := t11; exact ⟨_, o_store rfl t13 hv (hB.since hs1 rfl) (by kernel_rfl) (by simp [Value.cells, Value.oneCell']) (by simp [Value.cells]; omega) rfl, Since.put hs2 (.inr (by simp))⟩
  case hG => exact ⟨stable_eqv _, stable_eqv _, stable_eqv _, stable_eqv _, stable_eqv _, stable_eqv _, stable_eqv _, stable_isOne _ _, stable_isGrown _ _ _, stable_eqv _, stable_eqv _, stable_any, trivial⟩
  case hc => kernel_rfl
  case hfin =>
    intro w5 hs5
    rintro _ rfl _ rfl _ rfl _ rfl _ rfl _ rfl _ rfl _ ⟨bo, rfl, hbo, hBo⟩ _ ⟨bn, cap, rfl, hb1, hb2, hfr⟩ _ rfl _ rfl
    rintro w6 ⟨o1, v1, ho1, hr1, rfl⟩
    cases ho1
    simp only [Act.put, List.setIfInBounds_toArray, List.set_cons_zero, List.set_cons_succ] at hr1 ⊢
    cases (hr1.symm.trans (o_store (v := .slice (some ⟨bn, 0, none⟩) (l ++ [g]).length cap) (new := (cs.setIfInBounds (K + 0) (.slice (some ⟨bn, 0, none⟩) (l ++ [g]).length cap))) rfl rfl rfl (hB.since hs5 rfl) (by kernel_rfl) (by simp [Value.cells, Value.oneCell']) (by simp [Value.cells]; omega) rfl))
    go_wp2
    go_end0
    have e5 : Ext w w5 := Since.to_ext hs5
    refine ⟨rfl, bn, cap, (hB.since hs5 rfl).put, (((Keep.refl _ _).ext e5).put _ _ (.inr rfl)), fun a ha hb => Since.to_ext ((Since.of_ext (ha.trans e5)).put (.inl hb)), IsFrames.keep hfr ((Keep.refl N w5).put _ _ (.inr hNb))⟩

def callC (c : CoreD) (g : FrameD) : CoreD := { c with F := c.F ++ [g] }
set_option maxHeartbeats 1000000 in
set_option maxRecDepth 100000 in
theorem changedCall_ (N : Nat → Prop) (va : Value) (s : SysD) (k : Nat) (c : CoreD) (g : FrameD) (fa : Option Addr) (fc p1 : Nat) (w : World) (h : IsSys N w va s) (hN : ∀ b, N b → b < w.heap.size) (hC : s.C.length ≤ 100000) (hk : s.C[k]? = some c) 
    (hFm : c.F.length ≤ 100000) (hp : Box w p1 #[.int .i64 g.op, .int .i64 g.pc, .int .i64 (gi g.R 0), .int .i64 (gi g.R 1), .int .i64 (gi g.R 2), .int .i64 (gi g.R 3), .int .i64 (gi g.R 4), .int .i64 (gi g.R 5), .int .i64 (gi g.R 6), .int .i64 (gi g.R 7), .slice fa g.S.length fc] 95) (h8 : g.R.length = 8) (hs : IsInts N w (.slice fa g.S.length fc) g.S) :
    Gives Proofs.Try.prog 140 #[va, .int .i64 k, .func (.func 141) #[] #[.pointer (some ⟨p1, 0, none⟩)]] w (fun r w' => IsSys N w' r (withS s k (callC c g))) := by
  obtain ⟨aw, cw, ag, cg, ac, cc, al, cl, rfl, hw, hg, hc, hl⟩ := h.opened
  have hkl : k < s.C.length := by
    rcases Nat.lt_or_ge k s.C.length with h | h
    · exact h
    · rw [List.getElem?_eq_none h] at hk; cases hk
  have hk1 : (k : Int) < (s.C.length : Int) := by omega
  have hc' : IsCores (Bx N w.heap.size (w.heap.size + 3)) w (.slice ac s.C.length cc) s.C := IsCores.less hc (fun x hx hn => Bx.new hx hn)
  have hq1 : p1 < w.heap.size := hp.lt
  go_enter Proofs.Try.func140, Proofs.Try.ntmps140
  go_wp2_with (fail)
  obtain ⟨w2, rows, hrun, hR, hRl, hRC, hKp, hEx⟩ := copy_cores 3 (w := (((w.alloc (.cells #[.slice aw s.M.W.length cw, .slice ag s.M.G.length cg, .bool s.M.bad, .slice ac s.C.length cc, .slice al s.L.length cl] 83)).alloc (.cells #[.slice none 0 0, .slice none 0 0, .bool false, .slice none 0 0, .slice none 0 0] 83)).alloc (.cells (zeros80 s.C.length) 116))) (IsCores.keep hc' (show Ext w (((w.alloc (.cells #[.slice aw s.M.W.length cw, .slice ag s.M.G.length cg, .bool s.M.bad, .slice ac s.C.length cc, .slice al s.L.length cl] 83)).alloc (.cells #[.slice none 0 0, .slice none 0 0, .bool false, .slice none 0 0, .slice none 0 0] 83)).alloc (.cells (zeros80 s.C.length) 116)) from (by with_reducible (repeat (first | assumption | exact Ext.refl _ | refine Ext.alloc' ?_ _ | refine Ext.store0 ?_ _ _ | refine Ext.storek ?_ _ _ _ | refine Ext.stores0 ?_ ?_ _ _ | refine Ext.storesk ?_ ?_ _ _ _ | refine Ext.drewN' ?_ _ | refine Ext.drew' ?_ | refine Ext.trans ?_ (by assumption))))).keep) (by omega) (Box.three' _ _ _ _ _ _ _)
  rw [hrun]
  have hE2 : Ext w w2 := hEx w (by with_reducible (repeat (first | assumption | exact Ext.refl _ | refine Ext.alloc' ?_ _ | refine Ext.store0 ?_ _ _ | refine Ext.storek ?_ _ _ _ | refine Ext.stores0 ?_ ?_ _ _ | refine Ext.storesk ?_ ?_ _ _ _ | refine Ext.drewN' ?_ _ | refine Ext.drew' ?_ | refine Ext.trans ?_ (by assumption)))) (by omega)
  have kp := hKp (fun x => x = w.heap.size + 1 + 1) rfl
  have B0 : Box w2 w.heap.size #[.slice aw s.M.W.length cw, .slice ag s.M.G.length cg, .bool s.M.bad, .slice ac s.C.length cc, .slice al s.L.length cl] 83 := (((Box.new _ _ _).alloc _).alloc _).keep kp (by omega)
  have B1 : Box w2 (w.heap.size + 1) #[.slice none 0 0, .slice none 0 0, .bool false, .slice none 0 0, .slice none 0 0] 83 := ((Box.two _ _ _ _ _).alloc _).keep kp (by omega)
  have hE3 : Ext (((w.alloc (.cells #[.slice aw s.M.W.length cw, .slice ag s.M.G.length cg, .bool s.M.bad, .slice ac s.C.length cc, .slice al s.L.length cl] 83)).alloc (.cells #[.slice none 0 0, .slice none 0 0, .bool false, .slice none 0 0, .slice none 0 0] 83)).alloc (.cells (zeros80 s.C.length) 116)) (((w.alloc (.cells #[.slice aw s.M.W.length cw, .slice ag s.M.G.length cg, .bool s.M.bad, .slice ac s.C.length cc, .slice al s.L.length cl] 83)).alloc (.cells #[.slice none 0 0, .slice none 0 0, .bool false, .slice none 0 0, .slice none 0 0] 83)).alloc (.cells (zeros80 s.C.length) 116)) := Ext.refl _
  have kq : Keep (Bx N w.heap.size (w.heap.size + 3)) (((w.alloc (.cells #[.slice aw s.M.W.length cw, .slice ag s.M.G.length cg, .bool s.M.bad, .slice ac s.C.length cc, .slice al s.L.length cl] 83)).alloc (.cells #[.slice none 0 0, .slice none 0 0, .bool false, .slice none 0 0, .slice none 0 0] 83)).alloc (.cells (zeros80 s.C.length) 116)) w2 := hKp _ (Bx.mem (by omega) (by omega))
  clear hKp hEx hrun
  obtain ⟨cells, hBx, hrows⟩ := hR
  obtain ⟨r, hr⟩ := getSome (show k < rows.length by omega)
  obtain ⟨h3, f, rr, rfl, hf, hrt⟩ := hRC k c r hk hr
  obtain ⟨af, cf, hff, hf1, hf2, hf3, hf4⟩ := hf
  subst hff
  have h0 : cells[k * 7]? = some (.slice af c.F.length cf) := (hrows k _ hr).2 0 _ rfl
  have hsz : k * 7 + 7 ≤ cells.size := by
    have := (hrows k _ hr).2 6 _ rfl
    rcases Nat.lt_or_ge (k * 7 + 6) cells.size with h | h
    · omega
    · rw [Array.getElem?_eq_none h] at this; cases this
  obtain ⟨c00, c01, c02, c03, c04, d00, d01, d02, d03, d04⟩ := cells5 B0
  obtain ⟨c10, c11, c12, c13, c14, d10, d11, d12, d13, d14⟩ := cells5 B1
  have z0 := B0.lt
  have z1 := B1.lt
  have z2 := hBx.lt
  go_wp2_with (fail)
  go_at_call 141
  have hf' : IsFrames (Bx N w.heap.size (w.heap.size + 3)) w2 (.slice af c.F.length cf) c.F := IsFrames.keep (⟨_, _, rfl, hf1, hf2, hf3, hf4⟩ : IsFrames (Bx N w.heap.size (w.heap.size + 3)) (((w.alloc (.cells #[.slice aw s.M.W.length cw, .slice ag s.M.G.length cg, .bool s.M.bad, .slice ac s.C.length cc, .slice al s.L.length cl] 83)).alloc (.cells #[.slice none 0 0, .slice none 0 0, .bool false, .slice none 0 0, .slice none 0 0] 83)).alloc (.cells (zeros80 s.C.length) 116)) (.slice af c.F.length cf) c.F) kq
  have hs' : IsInts (Bx N w.heap.size (w.heap.size + 3)) w2 (.slice fa g.S.length fc) g.S := (IsInts.less hs (fun x hx hn => Bx.new hx hn)).ext hE2
  refine (callDo_ (Bx N w.heap.size (w.heap.size + 3)) (w.heap.size + 1 + 1) (k * 7) cells _ c.F g fa fc p1 w2 hBx h0 hsz hf' hFm (hp.ext hE2) h8 hs' (by omega) (fun x hx => hx.elim (fun h => by have := hN _ h; omega) (fun h => by have := h.2; omega)) (Bx.mem (by omega) (by omega))).mono ?_
  rintro x w3 ⟨rfl, bn, cap3, hB3, hK3, hE3', hFr⟩
  have hEw : Ext w w3 := hE3' w hE2 (by omega)
  have D0 := B0.keep hK3 (by omega)
  have D1 := B1.keep hK3 (by omega)
  clear c00 c01 c02 c03 c04 d00 d01 d02 d03 d04 c10 c11 c12 c13 c14 d10 d11 d12 d13 d14
  obtain ⟨c00, c01, c02, c03, c04, d00, d01, d02, d03, d04⟩ := cells5 D0
  obtain ⟨c10, c11, c12, c13, c14, d10, d11, d12, d13, d14⟩ := cells5 D1
  have y0 := D0.lt
  have y1 := D1.lt
  have k3 : Keep (Bx N w.heap.size (w.heap.size + 3)) (((w.alloc (.cells #[.slice aw s.M.W.length cw, .slice ag s.M.G.length cg, .bool s.M.bad, .slice ac s.C.length cc, .slice al s.L.length cl] 83)).alloc (.cells #[.slice none 0 0, .slice none 0 0, .bool false, .slice none 0 0, .slice none 0 0] 83)).alloc (.cells (zeros80 s.C.length) 116)) w3 := kq.trans (hK3.less fun x _ hx => by subst hx; exact Bx.mem (by omega) (by omega))
  have hRk : rows[k]? = some (coreCells c (.slice af c.F.length cf) rr) := hr
  have q3 := RowsIn.set (sz := 7) hrows hRk (o := 0) (by decide) (.slice (some ⟨bn, 0, none⟩) (c.F ++ [g]).length cap3)
  have fin : ∀ wF, Keep (Bx N w.heap.size (w.heap.size + 3)) w3 wF → Box wF (w.heap.size + 1 + 1) (cells.setIfInBounds (k * 7) (.slice (some ⟨bn, 0, none⟩) (c.F ++ [g]).length cap3)) 116 → IsCores N wF (.slice (some ⟨w.heap.size + 1 + 1, 0, none⟩) s.C.length s.C.length) (s.C.set k (callC c g)) := fun wF kF hBF => by
    have kA := k3.trans kF
    refine cores_of_rows (lo := w.heap.size) (hi := w.heap.size + 3) hBF q3 hRl hRC kA (fun hx => absurd (hN _ hx) (by omega)) ?_ (Nat.le_refl _) (by omega)
    refine ⟨h3, .slice (some ⟨bn, 0, none⟩) (c.F ++ [g]).length cap3, rr, ?_, ?_, ?_⟩
    · rfl
    · have h6 := IsFrames.less (IsFrames.keep hFr kF) (M := N) (fun _ _ h => .inl h)
      show IsFrames N wF (.slice (some ⟨bn, 0, none⟩) (c.F ++ [g]).length cap3) (c.F ++ [g])
      exact h6
    · exact (hrt.keep kA).less fun _ _ h => .inl h
  go_wp2
  refine bodyPost_ret (ret_cell ((((((D1.setOther (by omega) _).setCell _).setCell _).setCell _).setCell _).setCell _) Proofs.Try.results140 rfl Proofs.Try.underlying83 rfl (by kernel_rfl)) rfl ⟨_, rfl, (by with_reducible (repeat (first | assumption | exact Ext.refl _ | refine Ext.alloc' ?_ _ | refine Ext.store0 ?_ _ _ | refine Ext.storek ?_ _ _ _ | refine Ext.stores0 ?_ ?_ _ _ | refine Ext.storesk ?_ ?_ _ _ _ | refine Ext.drewN' ?_ _ | refine Ext.drew' ?_ | refine Ext.trans ?_ (by assumption)))), IsSys.mk rfl (hw.ext (by with_reducible (repeat (first | assumption | exact Ext.refl _ | refine Ext.alloc' ?_ _ | refine Ext.store0 ?_ _ _ | refine Ext.storek ?_ _ _ _ | refine Ext.stores0 ?_ ?_ _ _ | refine Ext.storesk ?_ ?_ _ _ _ | refine Ext.drewN' ?_ _ | refine Ext.drew' ?_ | refine Ext.trans ?_ (by assumption))))) (hg.ext (by with_reducible (repeat (first | assumption | exact Ext.refl _ | refine Ext.alloc' ?_ _ | refine Ext.store0 ?_ _ _ | refine Ext.storek ?_ _ _ _ | refine Ext.stores0 ?_ ?_ _ _ | refine Ext.storesk ?_ ?_ _ _ _ | refine Ext.drewN' ?_ _ | refine Ext.drew' ?_ | refine Ext.trans ?_ (by assumption))))) (fin _ (by with_reducible (repeat (first | assumption | exact Keep.refl _ _ | refine Keep.alloc ?_ _ | refine Keep.s ?_ (by first | assumption | exact Bx.mem (by omega) (by omega)) | refine Keep.n ?_ (by omega) | refine Keep.ext ?_ (by assumption) | refine Keep.drew ?_))) (hB3.keep (M := Bx no w.heap.size (w.heap.size + 2)) (by with_reducible (repeat (first | assumption | exact Keep.refl _ _ | refine Keep.alloc ?_ _ | refine Keep.s ?_ (by first | assumption | exact Bx.mem (by omega) (by omega)) | refine Keep.n ?_ (by omega) | refine Keep.ext ?_ (by assumption) | refine Keep.drew ?_))) (fun hx => hx.elim id (fun h => by omega)))) (IsEvs.keep hl (show Ext w _ from (by with_reducible (repeat (first | assumption | exact Ext.refl _ | refine Ext.alloc' ?_ _ | refine Ext.store0 ?_ _ _ | refine Ext.storek ?_ _ _ _ | refine Ext.stores0 ?_ ?_ _ _ | refine Ext.storesk ?_ ?_ _ _ _ | refine Ext.drewN' ?_ _ | refine Ext.drew' ?_ | refine Ext.trans ?_ (by assumption))))).keep)⟩

/-- so many registers -/
def pad (l : List Int) : List Int := l ++ List.replicate (8 - l.length) 0
def newF (op : Int) (l : List Int) : FrameD := ⟨op, 0, pad l, []⟩
def callS (s : SysD) (id op : Int) (l : List Int) : SysD := if hasD s id then match s.C[id.toNat]? with | some c => if c.F.length < 40 then withS s id.toNat (callC c (newF op l)) else s | none => s else s
theorem newF_cells (op : Int) {l : List Int} (h : l.length ≤ 3) : splice #[.int .i64 op, .int .i64 0, .int .i64 0, .int .i64 0, .int .i64 0, .int .i64 0, .int .i64 0, .int .i64 0, .int .i64 0, .int .i64 0, .slice none 0 0] 2 (ints l) = #[.int .i64 (newF op l).op, .int .i64 (newF op l).pc, .int .i64 (gi (newF op l).R 0), .int .i64 (gi (newF op l).R 1), .int .i64 (gi (newF op l).R 2), .int .i64 (gi (newF op l).R 3), .int .i64 (gi (newF op l).R 4), .int .i64 (gi (newF op l).R 5), .int .i64 (gi (newF op l).R 6), .int .i64 (gi (newF op l).R 7), .slice none (newF op l).S.length 0] := by
  match l, h with
  | [], _ => rfl
  | [a], _ => rfl
  | [a, b], _ => rfl
  | [a, b, c], _ => rfl
theorem newF_R (op : Int) {l : List Int} (h : l.length ≤ 3) : (newF op l).R.length = 8 := by simp [newF, pad]; omega
theorem copy_args {N : Nat → Prop} {w : World} {vs : Value} {l : List Int} {b : Nat} {cells : Array Value} (hB : Box w b cells 95) (hsz : cells.size = 11) (hs : IsInts N w vs l) (hl : l.length ≤ 8) :
    ∃ w', (Builtin.copy_ #[48, 48] 3 #[.slice (some ⟨b, 2, none⟩) 8 8, vs]).run Proofs.Try.prog w = .ok (goInt l.length) w' ∧ Box w' b (splice cells 2 (ints l)) 95 ∧ (∀ M, M b → Keep M w w') ∧ (∀ a, Ext a w → a.heap.size ≤ b → Ext a w') := by
  obtain ⟨a, cap, rfl, h1, h2, h3, h4⟩ := hs
  have hlen : (ints l).length = l.length := by simp [ints]
  cases a with
  | none =>
    have hl0 : l.length = 0 := by have := h3 rfl; omega
    obtain rfl : l = [] := List.eq_nil_of_length_eq_zero hl0
    refine ⟨w, ?_, hB, fun M _ => Keep.refl _ _, fun a ha _ => ha⟩
    obtain ⟨i, hi⟩ : ∃ i, Proofs.Try.prog.info? 3 = some i := Option.isSome_iff_exists.1 (by kernel_rfl)
    simp [Builtin.copy_, run_underlying Proofs.Try.underlying48, Builtin.lenOf, Builtin.firstCells, sizeOf, typeInfo, hi, storeCells, goInt]
  | some p =>
    have hc : ∀ j v, (ints l)[j]? = some v → w.cell? (p.add j) = some v := fun j v hv => by
      rw [ints_get] at hv
      have hj : j < l.length := by
        rcases Nat.lt_or_ge j l.length with h | h
        · exact h
        · rw [List.getElem?_eq_none h] at hv; cases hv
      rw [gi_get hj] at hv
      obtain rfl : Value.int .i64 (gi l j) = v := by simpa using hv
      obtain ⟨b', o', e, _, _, hcell⟩ := h4 j hj
      cases e
      have hadd : (⟨b', o', none⟩ : Addr).add j = ⟨b', o' + j, none⟩ := by unfold Addr.add; split <;> simp_all
      rw [hadd]; exact hcell
    have hr := run_copy_cells (P := Proofs.Try.prog) w 48 48 3 3 b 2 8 8 p l.length cap (ints l) Proofs.Try.underlying48 (by kernel_rfl) (by rw [hlen]; exact (Nat.min_eq_left hl).symm) hc
      (fun j hj => by rw [hB.cell (c := cells[2 + j]'(by rw [hlen] at hj; omega)) (by rw [nth_eq]; simp)]; rfl) (fun j hj => hB.frozen) (fun v hv => by
        obtain ⟨x, _, rfl⟩ := List.mem_map.1 (show v ∈ l.map (Value.int .i64) from hv)
        rfl)
    rw [hlen] at hr
    exact ⟨_, hr, Box.setCells _ _ _ _ hB, fun M hM => setCells_keep (.inr hM) _ _ _ (Keep.refl _ _), fun a ha hb => setCells_ext hb _ _ _ ha⟩
set_option maxHeartbeats 1000000 in
set_option maxRecDepth 100000 in
theorem call_ (N : Nat → Prop) (va vs : Value) (s : SysD) (id op : Int) (l : List Int) (w : World) (h : IsSys N w va s) (hi : IsInts N w vs l) (hN : ∀ b, N b → b < w.heap.size) (hC : s.C.length ≤ 100000) (hl3 : l.length ≤ 3) :
    Gives Proofs.Try.prog 84 #[va, .int .i64 id, .int .i64 op, vs] w (fun r w' => IsSys N w' r (callS s id op l)) := by
  have kc := fun (w' : World) (e : Ext w w') => isCore_ N va s id w' (h.ext e)
  have hB := h.less (M := Bx N w.heap.size (w.heap.size + 2)) fun x hx hn => Bx.new hx hn
  obtain ⟨aw, cw, ag, cg, ac, cc, al, cl, rfl, hw, hg, hc, hl⟩ := h.opened
  obtain ⟨_, _, hv, _⟩ := hi.opened
  subst hv
  cases hh : hasD s id <;> rw [hh] at kc
  · have hd : callS s id op l = s := by simp [callS, hh]
    rw [hd]
    go_enter Proofs.Try.func84, Proofs.Try.ntmps84
    go_wp2_with (fail)
    go_at_call 139
    refine (kc _ (by with_reducible (repeat (first | assumption | exact Ext.refl _ | refine Ext.alloc' ?_ _ | refine Ext.store0 ?_ _ _ | refine Ext.storek ?_ _ _ _ | refine Ext.stores0 ?_ ?_ _ _ | refine Ext.storesk ?_ ?_ _ _ _ | refine Ext.drewN' ?_ _ | refine Ext.drew' ?_ | refine Ext.trans ?_ (by assumption))))).calls.mono ?_
    rintro x w1 ⟨_, rfl, hb1, rfl⟩
    have B0 : Box w1 w.heap.size #[.slice aw s.M.W.length cw, .slice ag s.M.G.length cg, .bool s.M.bad, .slice ac s.C.length cc, .slice al s.L.length cl] 83 := ((Box.new _ _ _).alloc _).ext hb1
    have B1 : Box w1 (w.heap.size + 1) #[.slice none 0 0, .slice none 0 0, .bool false, .slice none 0 0, .slice none 0 0] 83 := (Box.two _ _ _ _ _).ext hb1
    obtain ⟨c00, c01, c02, c03, c04, d00, d01, d02, d03, d04⟩ := cells5 B0
    obtain ⟨c30, c31, c32, c33, c34, d30, d31, d32, d33, d34⟩ := cells5 B1
    have z0 : w.heap.size < w1.heap.size := B0.lt
    have z3 : w.heap.size + 1 < w1.heap.size := B1.lt
    have hE1 : Ext w w1 := (by with_reducible (repeat (first | assumption | exact Ext.refl _ | refine Ext.alloc' ?_ _ | refine Ext.store0 ?_ _ _ | refine Ext.storek ?_ _ _ _ | refine Ext.stores0 ?_ ?_ _ _ | refine Ext.storesk ?_ ?_ _ _ _ | refine Ext.drewN' ?_ _ | refine Ext.drew' ?_ | refine Ext.trans ?_ (by assumption))))
    go_wp2
    exact bodyPost_ret (ret_cell (((((B1.setCell _).setCell _).setCell _).setCell _).setCell _) Proofs.Try.results84 rfl Proofs.Try.underlying83 rfl (by kernel_rfl)) rfl ⟨_, rfl, (by with_reducible (repeat (first | assumption | exact Ext.refl _ | refine Ext.alloc' ?_ _ | refine Ext.store0 ?_ _ _ | refine Ext.storek ?_ _ _ _ | refine Ext.storen ?_ (by omega) | refine Ext.stores0 ?_ ?_ _ _ | refine Ext.storesk ?_ ?_ _ _ _ | refine Ext.drewN' ?_ _ | refine Ext.drew' ?_ | refine Ext.trans ?_ (by assumption)))), IsSys.mk rfl (hw.ext (by with_reducible (repeat (first | assumption | exact Ext.refl _ | refine Ext.alloc' ?_ _ | refine Ext.store0 ?_ _ _ | refine Ext.storek ?_ _ _ _ | refine Ext.storen ?_ (by omega) | refine Ext.stores0 ?_ ?_ _ _ | refine Ext.storesk ?_ ?_ _ _ _ | refine Ext.drewN' ?_ _ | refine Ext.drew' ?_ | refine Ext.trans ?_ (by assumption))))) (hg.ext (by with_reducible (repeat (first | assumption | exact Ext.refl _ | refine Ext.alloc' ?_ _ | refine Ext.store0 ?_ _ _ | refine Ext.storek ?_ _ _ _ | refine Ext.storen ?_ (by omega) | refine Ext.stores0 ?_ ?_ _ _ | refine Ext.storesk ?_ ?_ _ _ _ | refine Ext.drewN' ?_ _ | refine Ext.drew' ?_ | refine Ext.trans ?_ (by assumption))))) (IsCores.keep hc (show Ext w _ from (by with_reducible (repeat (first | assumption | exact Ext.refl _ | refine Ext.alloc' ?_ _ | refine Ext.store0 ?_ _ _ | refine Ext.storek ?_ _ _ _ | refine Ext.storen ?_ (by omega) | refine Ext.stores0 ?_ ?_ _ _ | refine Ext.storesk ?_ ?_ _ _ _ | refine Ext.drewN' ?_ _ | refine Ext.drew' ?_ | refine Ext.trans ?_ (by assumption))))).keep) (IsEvs.keep hl (show Ext w _ from (by with_reducible (repeat (first | assumption | exact Ext.refl _ | refine Ext.alloc' ?_ _ | refine Ext.store0 ?_ _ _ | refine Ext.storek ?_ _ _ _ | refine Ext.storen ?_ (by omega) | refine Ext.stores0 ?_ ?_ _ _ | refine Ext.storesk ?_ ?_ _ _ _ | refine Ext.drewN' ?_ _ | refine Ext.drew' ?_ | refine Ext.trans ?_ (by assumption))))).keep)⟩
  · obtain ⟨k, rfl⟩ : ∃ k : Nat, id = k := ⟨id.toNat, by simp [hasD] at hh; omega⟩
    have hk : k < s.C.length := by simp [hasD] at hh; omega
    have hk1 : (k : Int) < (s.C.length : Int) := by omega
    obtain ⟨c, hck⟩ := getSome hk
    obtain ⟨bc, oc, af, cf, ar, cr, rfl, xc, nc, hx3, hf, hr, e0, e1, e2, e3, e4, e5, e6⟩ := IsCores.at hc hck
    by_cases hfull : c.F.length < 40
    · have hf1 : ¬ (40 : Int) ≤ (c.F.length : Int) := by omega
      have hd : callS s k op l = withS s k (callC c (newF op l)) := by simp [callS, hh, hck, hfull]
      rw [hd]
      go_enter Proofs.Try.func84, Proofs.Try.ntmps84
      go_wp2_with (fail)
      go_at_call 139
      refine (kc _ (by with_reducible (repeat (first | assumption | exact Ext.refl _ | refine Ext.alloc' ?_ _ | refine Ext.store0 ?_ _ _ | refine Ext.storek ?_ _ _ _ | refine Ext.stores0 ?_ ?_ _ _ | refine Ext.storesk ?_ ?_ _ _ _ | refine Ext.drewN' ?_ _ | refine Ext.drew' ?_ | refine Ext.trans ?_ (by assumption))))).calls.mono ?_
      rintro x w1 ⟨_, rfl, hb1, rfl⟩
      have B0 : Box w1 w.heap.size #[.slice aw s.M.W.length cw, .slice ag s.M.G.length cg, .bool s.M.bad, .slice (some ⟨bc, oc, none⟩) s.C.length cc, .slice al s.L.length cl] 83 := ((Box.new _ _ _).alloc _).ext hb1
      have B1 : Box w1 (w.heap.size + 1) #[.slice none 0 0, .slice none 0 0, .bool false, .slice none 0 0, .slice none 0 0] 83 := (Box.two _ _ _ _ _).ext hb1
      obtain ⟨c00, c01, c02, c03, c04, d00, d01, d02, d03, d04⟩ := cells5 B0
      obtain ⟨c30, c31, c32, c33, c34, d30, d31, d32, d33, d34⟩ := cells5 B1
      have z0 : w.heap.size < w1.heap.size := B0.lt
      have z3 : w.heap.size + 1 < w1.heap.size := B1.lt
      have hE1 : Ext w w1 := (by with_reducible (repeat (first | assumption | exact Ext.refl _ | refine Ext.alloc' ?_ _ | refine Ext.store0 ?_ _ _ | refine Ext.storek ?_ _ _ _ | refine Ext.stores0 ?_ ?_ _ _ | refine Ext.storesk ?_ ?_ _ _ _ | refine Ext.drewN' ?_ _ | refine Ext.drew' ?_ | refine Ext.trans ?_ (by assumption))))
      have e0a := cell_ext e0 hE1
      go_wp2_with (fail)
      have Bf := Box.new w1 #[.int .i64 op, .int .i64 0, .int .i64 0, .int .i64 0, .int .i64 0, .int .i64 0, .int .i64 0, .int .i64 0, .int .i64 0, .int .i64 0, .slice none 0 0] 95
      obtain ⟨w2, hrun, hBf, hkp, hex⟩ := copy_args (w := w1.alloc (.cells #[.int .i64 op, .int .i64 0, .int .i64 0, .int .i64 0, .int .i64 0, .int .i64 0, .int .i64 0, .int .i64 0, .int .i64 0, .int .i64 0, .slice none 0 0] 95)) Bf rfl (hi.ext (show Ext w _ from (by with_reducible (repeat (first | assumption | exact Ext.refl _ | refine Ext.alloc' ?_ _ | refine Ext.store0 ?_ _ _ | refine Ext.storek ?_ _ _ _ | refine Ext.stores0 ?_ ?_ _ _ | refine Ext.storesk ?_ ?_ _ _ _ | refine Ext.drewN' ?_ _ | refine Ext.drew' ?_ | refine Ext.trans ?_ (by assumption)))))) (by omega)
      rw [hrun]
      rw [newF_cells op hl3] at hBf
      have kp := hkp (fun x => x = w1.heap.size) rfl
      have hE2 : Ext w w2 := hex w (by with_reducible (repeat (first | assumption | exact Ext.refl _ | refine Ext.alloc' ?_ _ | refine Ext.store0 ?_ _ _ | refine Ext.storek ?_ _ _ _ | refine Ext.stores0 ?_ ?_ _ _ | refine Ext.storesk ?_ ?_ _ _ _ | refine Ext.drewN' ?_ _ | refine Ext.drew' ?_ | refine Ext.trans ?_ (by assumption)))) (by omega)
      have D0 := (B0.alloc (.cells #[.int .i64 op, .int .i64 0, .int .i64 0, .int .i64 0, .int .i64 0, .int .i64 0, .int .i64 0, .int .i64 0, .int .i64 0, .int .i64 0, .slice none 0 0] 95 (0, 0))).keep kp (by omega)
      have D1 := (B1.alloc (.cells #[.int .i64 op, .int .i64 0, .int .i64 0, .int .i64 0, .int .i64 0, .int .i64 0, .int .i64 0, .int .i64 0, .int .i64 0, .int .i64 0, .slice none 0 0] 95 (0, 0))).keep kp (by omega)
      clear hkp hex hrun c00 c01 c02 c03 c04 d00 d01 d02 d03 d04 c30 c31 c32 c33 c34 d30 d31 d32 d33 d34
      obtain ⟨c00, c01, c02, c03, c04, d00, d01, d02, d03, d04⟩ := cells5 D0
      obtain ⟨c30, c31, c32, c33, c34, d30, d31, d32, d33, d34⟩ := cells5 D1
      have y0 := D0.lt
      have y1 := D1.lt
      go_wp2_with (fail)
      go_at_call 140
      refine (changedCall_ (Bx N w.heap.size (w.heap.size + 2)) _ s k c (newF op l) none 0 w1.heap.size _ (hB.ext hE2) (fun b hb => hb.elim (fun h => by have := hN _ h; omega) (fun h => by have := h.2; omega)) hC hck (by omega) hBf (newF_R op hl3) ⟨none, 0, rfl, by simp [newF], by omega, fun _ => rfl, fun i hi => by simp [newF] at hi⟩).calls.mono ?_
      rintro x w3 ⟨_, rfl, hb3, hu2⟩
      obtain ⟨xw, yw, xg, yg, xc, yc, xl, yl, rfl, hxw, hxg, hxc, hxl⟩ := hu2.opened
      have E1 := D1.ext hb3
      clear c00 c01 c02 c03 c04 d00 d01 d02 d03 d04 c30 c31 c32 c33 c34 d30 d31 d32 d33 d34
      obtain ⟨c30, c31, c32, c33, c34, d30, d31, d32, d33, d34⟩ := cells5 E1
      have y3 := E1.lt
      have hE3 : Ext w w3 := hE2.trans hb3
      go_wp2
      exact bodyPost_ret (ret_cell (((((E1.setCell _).setCell _).setCell _).setCell _).setCell _) Proofs.Try.results84 rfl Proofs.Try.underlying83 rfl (by kernel_rfl)) rfl ⟨_, rfl, (by with_reducible (repeat (first | assumption | exact Ext.refl _ | refine Ext.alloc' ?_ _ | refine Ext.store0 ?_ _ _ | refine Ext.storek ?_ _ _ _ | refine Ext.storen ?_ (by omega) | refine Ext.stores0 ?_ ?_ _ _ | refine Ext.storesk ?_ ?_ _ _ _ | refine Ext.drewN' ?_ _ | refine Ext.drew' ?_ | refine Ext.trans ?_ (by assumption)))), IsSys.less (IsSys.keep hu2 (by with_reducible (repeat (first | assumption | exact Keep.refl _ _ | refine Keep.alloc ?_ _ | refine Keep.s ?_ (by first | assumption | exact Bx.mem (by omega) (by omega)) | refine Keep.n ?_ (by omega) | refine Keep.ext ?_ (by assumption) | refine Keep.drew ?_)))) (fun _ _ hn => .inl hn)⟩
    · have hf1 : (40 : Int) ≤ (c.F.length : Int) := by omega
      have hd : callS s k op l = s := by simp [callS, hh, hck, hfull]
      rw [hd]
      go_enter Proofs.Try.func84, Proofs.Try.ntmps84
      go_wp2_with (fail)
      go_at_call 139
      refine (kc _ (by with_reducible (repeat (first | assumption | exact Ext.refl _ | refine Ext.alloc' ?_ _ | refine Ext.store0 ?_ _ _ | refine Ext.storek ?_ _ _ _ | refine Ext.stores0 ?_ ?_ _ _ | refine Ext.storesk ?_ ?_ _ _ _ | refine Ext.drewN' ?_ _ | refine Ext.drew' ?_ | refine Ext.trans ?_ (by assumption))))).calls.mono ?_
      rintro x w1 ⟨_, rfl, hb1, rfl⟩
      have B0 : Box w1 w.heap.size #[.slice aw s.M.W.length cw, .slice ag s.M.G.length cg, .bool s.M.bad, .slice (some ⟨bc, oc, none⟩) s.C.length cc, .slice al s.L.length cl] 83 := ((Box.new _ _ _).alloc _).ext hb1
      have B1 : Box w1 (w.heap.size + 1) #[.slice none 0 0, .slice none 0 0, .bool false, .slice none 0 0, .slice none 0 0] 83 := (Box.two _ _ _ _ _).ext hb1
      obtain ⟨c00, c01, c02, c03, c04, d00, d01, d02, d03, d04⟩ := cells5 B0
      obtain ⟨c30, c31, c32, c33, c34, d30, d31, d32, d33, d34⟩ := cells5 B1
      have z0 : w.heap.size < w1.heap.size := B0.lt
      have z3 : w.heap.size + 1 < w1.heap.size := B1.lt
      have hE1 : Ext w w1 := (by with_reducible (repeat (first | assumption | exact Ext.refl _ | refine Ext.alloc' ?_ _ | refine Ext.store0 ?_ _ _ | refine Ext.storek ?_ _ _ _ | refine Ext.stores0 ?_ ?_ _ _ | refine Ext.storesk ?_ ?_ _ _ _ | refine Ext.drewN' ?_ _ | refine Ext.drew' ?_ | refine Ext.trans ?_ (by assumption))))
      have e0a := cell_ext e0 hE1
      go_wp2
      exact bodyPost_ret (ret_cell (((((B1.setCell _).setCell _).setCell _).setCell _).setCell _) Proofs.Try.results84 rfl Proofs.Try.underlying83 rfl (by kernel_rfl)) rfl ⟨_, rfl, (by with_reducible (repeat (first | assumption | exact Ext.refl _ | refine Ext.alloc' ?_ _ | refine Ext.store0 ?_ _ _ | refine Ext.storek ?_ _ _ _ | refine Ext.storen ?_ (by omega) | refine Ext.stores0 ?_ ?_ _ _ | refine Ext.storesk ?_ ?_ _ _ _ | refine Ext.drewN' ?_ _ | refine Ext.drew' ?_ | refine Ext.trans ?_ (by assumption)))), IsSys.mk rfl (hw.ext (by with_reducible (repeat (first | assumption | exact Ext.refl _ | refine Ext.alloc' ?_ _ | refine Ext.store0 ?_ _ _ | refine Ext.storek ?_ _ _ _ | refine Ext.storen ?_ (by omega) | refine Ext.stores0 ?_ ?_ _ _ | refine Ext.storesk ?_ ?_ _ _ _ | refine Ext.drewN' ?_ _ | refine Ext.drew' ?_ | refine Ext.trans ?_ (by assumption))))) (hg.ext (by with_reducible (repeat (first | assumption | exact Ext.refl _ | refine Ext.alloc' ?_ _ | refine Ext.store0 ?_ _ _ | refine Ext.storek ?_ _ _ _ | refine Ext.storen ?_ (by omega) | refine Ext.stores0 ?_ ?_ _ _ | refine Ext.storesk ?_ ?_ _ _ _ | refine Ext.drewN' ?_ _ | refine Ext.drew' ?_ | refine Ext.trans ?_ (by assumption))))) (IsCores.keep hc (show Ext w _ from (by with_reducible (repeat (first | assumption | exact Ext.refl _ | refine Ext.alloc' ?_ _ | refine Ext.store0 ?_ _ _ | refine Ext.storek ?_ _ _ _ | refine Ext.storen ?_ (by omega) | refine Ext.stores0 ?_ ?_ _ _ | refine Ext.storesk ?_ ?_ _ _ _ | refine Ext.drewN' ?_ _ | refine Ext.drew' ?_ | refine Ext.trans ?_ (by assumption))))).keep) (IsEvs.keep hl (show Ext w _ from (by with_reducible (repeat (first | assumption | exact Ext.refl _ | refine Ext.alloc' ?_ _ | refine Ext.store0 ?_ _ _ | refine Ext.storek ?_ _ _ _ | refine Ext.storen ?_ (by omega) | refine Ext.stores0 ?_ ?_ _ _ | refine Ext.storesk ?_ ?_ _ _ _ | refine Ext.drewN' ?_ _ | refine Ext.drew' ?_ | refine Ext.trans ?_ (by assumption))))).keep)⟩
end Go.Proofs.Ytcfbdfgondmkoaa
