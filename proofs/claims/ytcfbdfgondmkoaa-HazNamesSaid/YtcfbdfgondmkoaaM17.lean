/- Texts of this work, put together: SpA, NmD. -/
import Derived.Test.YtcfbdfgondmkoaaM12
import Derived.Test.YtcfbdfgondmkoaaM5
import Derived.Deep.RegionLaw
/- append onto a slice of the call's own, as one step of a region that draws its order. -/
namespace Go.Proofs.Ytcfbdfgondmkoaa
open Go Go.RowKit
set_option linter.unusedSimpArgs false
set_option linter.unusedVariables false
set_option linter.unnecessarySimpa false

set_option maxRecDepth 100000 in
theorem step_append_osl {α : Type} {sz : Nat} {R : World → α → List Value → Prop} {N : Nat → Prop} {v vx : Value} {l1 l2 : List α} {t e : TypeId} {z : Value} {base : Nat} {ops : Array Oper} {o : Oper} {a : Act} {w : World} {K : Act → World → Prop} {Q : Exit → Act → World → Prop} {E : Prop}
    (hg : o.guard = none) (s x : Operand) (hop : o.op = Op.call { callee := Callee.builtin Builtin.append, args := #[s, x], argTypes := #[t, t] }) (hs : a.eval s = v) (hx : a.eval x = vx) (hT : RowType t e sz z) (hzs : z.cells.size = sz) (hsz : 0 < sz) (h1 : OwnSl sz e R base w v l1) (h2 : IsSl sz R N w vx l2)
    (hone : ∀ x cs, R w x cs → ∀ c ∈ cs, c.oneCell' = true) (hR : ∀ w', w.grownBy w' v.ownBlock → ∀ x cs, R w x cs → R w' x cs) (hl : l1.length + l2.length ≤ 100000) (hbase : base ≤ w.heap.size)
    (hK : ∀ a' c' w', OwnSl sz e R base w' (.slice a' (l1 ++ l2).length c') (l1 ++ l2) → w.grownBy w' v.ownBlock → K (a.put o.dst (.slice a' (l1 ++ l2).length c')) w') :
    if Region.wanted o (yielded ops a.tmps) = true then Oper.wp Proofs.Try.prog o a w K Q else E := by
  have hw : Region.wanted o (yielded ops a.tmps) = true := by simp [Region.wanted, hg]
  rw [if_pos hw]
  obtain ⟨a', c', w', hrun, r1, r2⟩ := run_append_osl (ty := o.type) hT hzs hsz h1 h2 hone hR hl hbase
  unfold Oper.wp execOp
  simp only [hop, resolve, invoke, builtin, Sem.run_bind, Sem.run_pure, Result.andThen_ok, List.map_toArray, List.map_cons, List.map_nil, hs, hx]
  erw [hrun]
  exact hK _ _ _ r1 r2
end Go.Proofs.Ytcfbdfgondmkoaa
/- Which nodes are named: whatever the cores are; for HazNames. -/
namespace Go.Proofs.Ytcfbdfgondmkoaa
open Go Go.RowKit Go.Shelf
set_option linter.unusedSimpArgs false
set_option linter.unusedVariables false
set_option linter.unnecessarySimpa false
attribute [local go_sem] Oper.semAt_some

theorem refPlaced_ (id k : Int) (w : World) (h0 : 0 ≤ id) (h1 : id ≤ 100) (h2 : 0 ≤ k) (h3 : k ≤ 100) : Calls Proofs.Try.prog 95 #[.int .i64 id, .int .i64 k] w (fun e w' => e = .returned (.int .i64 (8 + 3 * id + k)) ∧ w' = w) := by
  go_enter Proofs.Try.func95, Proofs.Try.ntmps95
  go_wp2
  go_ret
  exact ⟨rfl, rfl⟩
theorem count_any (l : List Int) (p : Int) : decide (0 < l.count p) = l.any (fun x => x == p) := by
  cases h : l.any (fun x => x == p) with
  | true =>
    obtain ⟨x, hx, he⟩ := List.any_eq_true.1 h
    have : x = p := by simpa using he
    subst this
    exact decide_eq_true (List.count_pos_iff.2 hx)
  | false =>
    refine decide_eq_false fun hc => ?_
    have := List.count_pos_iff.1 hc
    have h2 := List.any_eq_false.1 h p this
    simp at h2
theorem flA_at {g p : Nat} (vals : List Int) (h : p < g) (h0 : 0 < p) : (flA g vals)[p]? = some (.bool (vals.any fun x => x == (p : Int))) := by
  unfold flA
  simp only [List.getElem?_toArray, List.getElem?_map]
  rw [fl_get vals h]
  simp [h0]
theorem flA_0 {g : Nat} (vals : List Int) (h : 0 < g) : (flA g vals)[0]? = some (.bool false) := by
  unfold flA
  simp only [List.getElem?_toArray, List.getElem?_map]
  rw [fl_get vals h]
  simp
def Tk (S : List Int) (j : Nat) : List Int := (S.drop 8).take j
theorem Tk_count {S : List Int} {j : Nat} {p : Int} (h : 8 + j < S.length) : (Tk S (j + 1)).count p = (Tk S j).count p + if gi S (8 + j) = p then 1 else 0 := by
  unfold Tk
  rw [take_next S h, List.count_append, count_cons_if]
  simp
theorem Tk_any {S : List Int} {j : Nat} {p : Int} (h : 8 + j < S.length) : (Tk S (j + 1)).any (fun x => x == p) = ((Tk S j).any (fun x => x == p) || gi S (8 + j) == p) := by
  unfold Tk
  rw [take_next S h]
  simp
theorem Tk_le (S : List Int) (j : Nat) (p : Int) : (Tk S j).count p ≤ j := Nat.le_trans List.count_le_length (by unfold Tk; simp; omega)
def RT (_ : World) (_ : CoreD) (cs : List Value) : Prop := ∀ c ∈ cs, c.oneCell' = true
theorem IsCores.rt {w : World} {v : Value} {l : List CoreD} (h : IsCores no w v l) : IsSl 7 RT no w v l := by
  obtain ⟨a, cap, e, h1, h2, h3, h4⟩ := h
  refine ⟨a, cap, e, h1, h2, h3, fun i x hi => ?_⟩
  obtain ⟨b, off, cs, k1, k2, k3, k4, k5, k6⟩ := h4 i x hi
  exact ⟨b, off, cs, k1, k2, k3, k4, k5, one_core _ _ k6⟩
theorem IsSl.rtE {w w' : World} {v : Value} {l : List CoreD} (h : IsSl 7 RT no w v l) (e : Ext w w') : IsSl 7 RT no w' v l := IsSl.keep h e.keep fun _ _ _ h => h
theorem OwnSl.rtE {base : Nat} {w w' : World} {v : Value} {l : List CoreD} (h : OwnSl 7 116 RT base w v l) (e : Ext w w') : OwnSl 7 116 RT base w' v l := h.keep (N := no) e.keep (fun _ _ h => h) (fun _ _ h => h)
set_option maxRecDepth 100000 in
set_option maxHeartbeats 4000000 in
theorem named0_ (S : List Int) (g c ln : Nat) (bad : Bool) (aw ag ac al : Option Addr) (cw cg cc cl : Nat) (w : World) (hw : IsInts no w (.slice aw S.length cw) S) (hG : g ≤ 100000) (hlen : 8 + 3 * c ≤ S.length) (hc8 : c ≤ 9) :
    Gives Proofs.Try.prog 99 #[.agg #[.slice aw S.length cw, .slice ag g cg, .bool bad, .slice ac c cc, .slice al ln cl]] w (fun r w' => ∃ b, r = .slice (some ⟨b, 0, none⟩) g g ∧ Box w' b (flA g (Tk S (3 * c))) 4) := by
  unfold Tk
  obtain ⟨bw, ow, rfl, hbw, _, hx⟩ := hw.row (by omega)
  unfold Gives
  refine (callsIn_wide (n := 5)).1 ?_
  refine callsIn_of_wp_marks Proofs.Try.func99 rfl trivial ?_ rfl
  simp only [Proofs.Try.ntmps99, List.size_toArray, List.length_cons, List.length_nil, Nat.reduceAdd, Nat.reduceSub, Array.replicate_succ, Array.replicate_zero, List.push_toArray, List.append_toArray, List.nil_append, List.cons_append]
  gi_wp2_with (refine ⟨trivial, ?_⟩; gi_at_call 147; refine (slotsf_ _ _ _).mono ?_; rintro e w' ⟨rfl, rfl⟩)
  obtain ⟨W0, hW0⟩ : ∃ W0, W0 = (((w.alloc (.cells #[.slice (some ⟨bw, ow, none⟩) S.length cw, .slice ag g cg, .bool bad, .slice ac c cc, .slice al ln cl] 83)).alloc (.cells (flA g []) 4)).alloc (.cells #[.slice (some ⟨w.heap.size + 1, 0, none⟩) g g] 122)).alloc (.cells #[.slice (some ⟨bw, ow, none⟩) S.length cw, .slice ag g cg, .bool bad, .slice ac c cc, .slice al ln cl] 83) := ⟨_, rfl⟩
  have sz : W0.heap.size = w.heap.size + 4 := by rw [hW0]; simp
  have b1 : Box W0 (w.heap.size + 1) (flA g []) 4 := by rw [hW0]; exact ((Box.newAt _ _ _ (by simp)).alloc _).alloc _
  have b2 : Box W0 (w.heap.size + 1 + 1) #[.slice (some ⟨w.heap.size + 1, 0, none⟩) g g] 122 := by rw [hW0]; exact (Box.newAt _ _ _ (by simp)).alloc _
  have b3 : Box W0 (w.heap.size + 1 + 1 + 1) #[.slice (some ⟨bw, ow, none⟩) S.length cw, .slice ag g cg, .bool bad, .slice ac c cc, .slice al ln cl] 83 := by rw [hW0]; exact Box.newAt _ _ _ (by simp)
  have X0 : Ext w W0 := by rw [hW0]; exact exq
  rw [← hW0]
  clear hW0
  refine wpIn_rangeFunc_ownF (F := Fence.wide) (w0 := W0) rfl (by decide) (gf := 164) (lb := #[.pointer (some ⟨w.heap.size + 1 + 1 + 1, 0, none⟩)]) rfl trivial (enters_of Proofs.Try.func164 (by kernel_rfl) rfl)
    (encs := fun x : Int × Int => #[.int .i64 x.1, .int .i64 x.2]) (Kp := Keep fun b => b = w.heap.size + 1 ∨ W0.heap.size ≤ b) (S := fun xs => xs = uptoF (slotF S) (3 * c)) (Sp := fun _ => True) (N := 3 * c)
    (fun l J Jx W hW _ _ hY h0 => slots1_in 4 (by decide) l _ bw ow (fun b => b = w.heap.size + 1 ∨ W0.heap.size ≤ b) S c S.length cw _ _ _ ac cc J Jx hY W (b3.ext hW) (fun q => by rcases q with q | q <;> omega) (fun q => by rcases q with q | q <;> omega) (Nat.lt_of_lt_of_le hbw (X0.trans hW).size) hlen hc8 (fun j hj => cell_ext (hx j hj) (X0.trans hW)) h0)
    (fun h k => h.trans k) (fun W l o o' hl ho _ _ => keep_put W o' (.inr hl)) (Below.refl _ _) (fun _ => rfl)
    (fun (pre : List (Int × Int)) (W : World) => (Box W (w.heap.size + 1) (flA g (pre.map Prod.snd)) 4 ∧ Box W (w.heap.size + 1 + 1) #[.slice (some ⟨w.heap.size + 1, 0, none⟩) g g] 122) ∧ Below w.heap.size w W)
    (fun _ _ _ => False)
    (OwnFrom.and (Own.from (fun _ A B row hs hg hr => ⟨box_kept hs.1 hg hr, box_kept hs.2 hg hr⟩) _) (ownFrom_below (Nat.le_refl _) (by omega)))
    (fun _ _ _ _ _ hs _ _ => hs)
    ⟨⟨b1, b2⟩, X0⟩
    (fun x => { tmps := #[.agg #[.slice (some ⟨bw, ow, none⟩) S.length cw, .slice ag g cg, .bool bad, .slice ac c cc, .slice al ln cl], .pointer (some ⟨w.heap.size, 0, none⟩), .slice none 0 0, .pointer (some ⟨w.heap.size + 1 + 1, 0, none⟩), undef, .int .i64 x.2, .pointer (some ⟨w.heap.size, 0, none⟩), .pointer (some ⟨w.heap.size, 1, none⟩), .slice ag g cg, .int .i64 (g : Nat), .slice (some ⟨w.heap.size + 1, 0, none⟩) g g, .agg #[.slice (some ⟨bw, ow, none⟩) S.length cw, .slice ag g cg, .bool bad, .slice ac c cc, .slice al ln cl], .func (.func 164) #[] #[.pointer (some ⟨w.heap.size + 1 + 1 + 1, 0, none⟩)], .int .i64 x.1, .int .i64 x.2, undef, undef, undef, undef, undef, undef, undef, undef, undef, undef, undef, undef], defers := [] }) ?assign ?body ?done ?stop
  case assign =>
    intro l x W K hK
    gi_wp2
    exact hK
  case body =>
    rintro l pre ⟨y, z⟩ W ⟨⟨h1, h2⟩, hB⟩ hlt
    dsimp only
    obtain ⟨hc2, hf2⟩ := cells1 h2
    have hb2 := h2.lt
    by_cases hz0 : 0 < z
    · by_cases hzg : z < (g : Int)
      · obtain ⟨P, rfl⟩ : ∃ P : Nat, z = (P : Int) := ⟨z.toNat, by omega⟩
        have hP0 : 0 < P := by omega
        have hPg : P < g := by omega
        obtain ⟨q, hq⟩ := flA_get (pre.map Prod.snd) hPg
        have hc1 : W.cell? ⟨w.heap.size + 1, P, none⟩ = some (.bool q) := h1.cell (by rw [nth_eq]; simpa using hq)
        have hf1 : W.frozen? ⟨w.heap.size + 1, P, none⟩ = false := h1.frozen
        have hb1 := h1.lt
        gi_wp2
        exact ⟨KeepsOthers.setCell _ _ _, (Keep.refl _ _).s (.inl rfl), ⟨by rw [List.map_append, List.map_cons, List.map_nil, flA_on hP0 hPg]; exact h1.setCell _, h2.setOther (by omega) _⟩, hB.setCell (p := ⟨w.heap.size + 1, P, none⟩) (by simp) _⟩
      · gi_wp2
        exact ⟨KeepsOthers.refl _, Keep.refl _ _, ⟨by rw [List.map_append, List.map_cons, List.map_nil, flA_off (by omega)]; exact h1, h2⟩, hB⟩
    · gi_wp2
      exact ⟨KeepsOthers.refl _, Keep.refl _ _, ⟨by rw [List.map_append, List.map_cons, List.map_nil, flA_off (by omega)]; exact h1, h2⟩, hB⟩
  case done =>
    rintro D ys W hD rfl ⟨⟨h1, h2⟩, hB⟩ hK
    obtain ⟨hc2, hf2⟩ := cells1 h2
    gi_wp2
    rw [slot_vals _ hlen] at h1
    refine ⟨by simp, .inl ⟨_, _, rfl, run_takeDeferred hK, ?_⟩⟩
    exact ⟨_, results_tmp rfl _ _ _, _, rfl, hB.trans (belowK_b (w := w) (Nat.le_refl _) W D _ _ (by omega) hK rfl rfl), _, rfl, box_kept h1 (grownBy_putObj' W D _) (fun r e => by cases e; exact ⟨_, hK, rfl⟩)⟩
  case stop =>
    rintro D c pre W _ _ h _
    exact h.elim
end Go.Proofs.Ytcfbdfgondmkoaa
