/- Texts of this work, put together: NmA, NmB, StF, StN, Shown5, Haz1, RdN, RdS, Closed. -/
import Derived.Test.YtcfbdfgondmkoaaM9
import Derived.Test.YtcfbdfgondmkoaaM5
import Derived.RangeFuncNested
import Derived.RangeFuncBound
import Derived.RangeFuncCalls
import Derived.RangeFuncLeaves
import Derived.RangeFuncBox
import Derived.Shelf.Abstract
import Derived.Shelf.RegionOpen
import Derived.WalkKit
import Derived.OwnWalkIn
import Derived.TacticsInMore
import Derived.LoopNIn
import Derived.LoopIn
import Derived.Test.YtcfbdfgondmkoaaRows
import Derived.KernelRfl
import Derived.JoinedOf
/- The slots that all cores have, as a range over a function. -/
namespace Go.Proofs.Ytcfbdfgondmkoaa
open Go Go.RowKit Go.Shelf
set_option linter.unusedSimpArgs false
set_option linter.unusedVariables false
set_option linter.unnecessarySimpa false
attribute [local go_sem] Oper.semAt_some

def uptoF {α : Type} (f : Nat → α) (k : Nat) : List α := (List.range k).map f
theorem uptoF_succ {α : Type} (f : Nat → α) (k : Nat) : uptoF f (k + 1) = uptoF f k ++ [f k] := by simp [uptoF, List.range_succ]
theorem uptoF_length {α : Type} (f : Nat → α) (k : Nat) : (uptoF f k).length = k := by simp [uptoF]
/-- what the slots tell, in order -/
def slotF (W : List Int) (j : Nat) : Int × Int := (((8 + j : Nat) : Int), gi W (8 + j))
theorem IsInts.row {N : Nat → Prop} {w : World} {a : Option Addr} {n cap : Nat} {l : List Int} (h : IsInts N w (.slice a n cap) l) (h0 : 0 < l.length) : ∃ b o, a = some ⟨b, o, none⟩ ∧ b < w.heap.size ∧ ¬ N b ∧ ∀ j, j < l.length → w.cell? ⟨b, o + j, none⟩ = some (.int .i64 (gi l j)) := by
  obtain ⟨a', c', e, _, _, h3⟩ := h.opened
  cases e
  obtain ⟨b, o, rfl, hb, hn', _⟩ := h3 0 h0
  refine ⟨b, o, rfl, hb, hn', fun j hj => ?_⟩
  obtain ⟨b', o', e, _, _, hc⟩ := h3 j hj
  cases e
  exact hc
theorem placed_ (id k : Int) (w : World) (h0 : 0 ≤ id) (h1 : id ≤ 100) (h2 : 0 ≤ k) (h3 : k ≤ 100) : Calls Proofs.Try.prog 94 #[.int .i64 id, .int .i64 k] w (fun e w' => e = .returned (.int .i64 (8 + 3 * id + k)) ∧ w' = w) := by
  go_enter Proofs.Try.func94, Proofs.Try.ntmps94
  go_wp2
  go_ret
  exact ⟨rfl, rfl⟩
set_option maxRecDepth 100000 in
set_option maxHeartbeats 4000000 in
/-- the closure: FOR EVERY LOOP BODY THAT KEEPS THE BLOCKS THAT ARE NOT M -/
theorem slots1_in (n : Nat) (hn : 1 ≤ n) (l Bs bw ow : Nat) (M : Nat → Prop) (S : List Int) (c nW cW : Nat) (v1 v2 v4 : Value) (ac : Option Addr) (cc : Nat) (J Jx : List (Int × Int) → World → Prop)
    (hY : ∀ pre x W, J pre W → pre.length < 3 * c → YieldAt Fence.wide (n - 1) Proofs.Try.prog l #[.int .i64 x.1, .int .i64 x.2] W fun e W' =>
      (e = .returned (.bool true) ∧ J (pre ++ [x]) W' ∧ Keep M W W') ∨ (e = .returned (.bool false) ∧ Jx (pre ++ [x]) W'))
    (W : World) (hB : Box W Bs #[.slice (some ⟨bw, ow, none⟩) nW cW, v1, v2, .slice ac c cc, v4] 83) (hnB : ¬ M Bs) (hnW : ¬ M bw) (hbw : bw < W.heap.size) (hlen : 8 + 3 * c ≤ nW) (hc8 : c ≤ 9)
    (hx : ∀ j, j < nW → W.cell? ⟨bw, ow + j, none⟩ = some (.int .i64 (gi S j))) (h0 : J [] W) :
    CallsIn Fence.wide n Proofs.Try.prog 164 #[.func (.yield l) #[] #[], .pointer (some ⟨Bs, 0, none⟩)] W fun e W' => (∃ v, e = .returned v) ∧
      ((∃ ys, ys = uptoF (slotF S) (3 * c) ∧ J ys W') ∨ (∃ pre, True ∧ Jx pre W')) := by
  refine callsIn_of_wp Proofs.Try.func164 rfl trivial ?_ rfl
  simp only [Proofs.Try.ntmps164, List.size_toArray, List.length_cons, List.length_nil, Nat.reduceAdd, Nat.reduceSub, Array.replicate_succ, Array.replicate_zero, List.push_toArray, List.append_toArray, List.nil_append, List.cons_append]
  obtain ⟨c0, c1, c2, c3, c4, d0, d1, d2, d3, d4⟩ := cells5 hB
  gi_wp2
  gi_loopw [9] (fun i wr => ∃ k : Nat, k ≤ c ∧ i = .int .i64 (k : Int) ∧ J (uptoF (slotF S) (3 * k)) wr ∧ Keep M W wr) (fun i _ => c - (intOf i).toNat)
  case atStart => exact ⟨0, Nat.zero_le _, rfl, h0, Keep.refl _ _⟩
  case round =>
    clear c0 c1 c2 c3 c4 d0 d1 d2 d3 d4
    obtain ⟨k, hk, rfl, hJ, hKp⟩ := hrel
    by_cases hlt : k < c
    · have q1 : (k : Int) < (c : Int) := by omega
      gi_wp2
      gi_loopw [12] (fun i wr => ∃ q : Nat, q ≤ 3 ∧ i = .int .i64 (q : Int) ∧ J (uptoF (slotF S) (3 * k + q)) wr ∧ Keep M W wr) (fun i _ => 3 - (intOf i).toNat)
      case atStart => exact ⟨0, by omega, rfl, hJ, hKp⟩
      case round =>
        clear hJ hKp
        obtain ⟨q, hq, rfl, hJ, hKp⟩ := hrel
        by_cases hq3 : q < 3
        · have q2 : (q : Int) < 3 := by omega
          obtain ⟨P, hP⟩ : ∃ P : Nat, P = 8 + (3 * k + q) := ⟨_, rfl⟩
          obtain ⟨z, hz⟩ : ∃ z, gi S P = z := ⟨_, rfl⟩
          have hf : slotF S (3 * k + q) = ((P : Int), z) := by unfold slotF; rw [← hP, hz]
          have hpl : ∀ w' : World, Calls Proofs.Try.prog 94 #[.int .i64 (k : Int), .int .i64 (q : Int)] w' (fun e w'' => e = .returned (.int .i64 (P : Int)) ∧ w'' = w') := fun w' => by
            have := placed_ (k : Int) (q : Int) w' (by omega) (by omega) (by omega) (by omega)
            rwa [show (8 + 3 * (k : Int) + (q : Int)) = (P : Int) by omega] at this
          obtain ⟨w9, rfl⟩ : ∃ w9 : World, w9 = wr := ⟨_, rfl⟩
          have hB9 := hB.keep hKp hnB
          obtain ⟨c0, c1, c2, c3, c4, d0, d1, d2, d3, d4⟩ := cells5 hB9
          have e9 : w9.cell? ⟨bw, ow + P, none⟩ = some (.int .i64 z) := by rw [hKp.cell (a := ⟨bw, ow + P, none⟩) hbw hnW, ← hz]; exact hx P (by omega)
          have q3 : (P : Int) < (nW : Int) := by omega
          have hPP := Lib.hid hP; have hzz := Lib.hid hz
          clear hP hz
          obtain ⟨fn, tmps, assign, body, hy, hR⟩ := hY (uptoF (slotF S) (3 * k + q)) ((P : Int), z) w9 hJ (by rw [uptoF_length]; omega)
          dsimp only at hy
          gi_wp2_with (refine ⟨trivial, ?_⟩; gi_at_call 94; refine (callsIn_wide.2 (hpl _)).mono ?_; rintro e w' ⟨rfl, rfl⟩)
          refine hR.mono ?_
          rintro e W3 (⟨rfl, hJ3, hk3⟩ | ⟨rfl, hJx3⟩)
          · gi_wp2
            go_roundw
            case rel => exact ⟨q + 1, by omega, by simp, by rw [show 3 * k + (q + 1) = 3 * k + q + 1 by omega, uptoF_succ, hf]; exact hJ3, hKp.trans hk3⟩
            case measure => simp [intOf]; omega
          · gi_wp2
            refine bodyPost_ret (results_none rfl _ _ _) rfl ?_
            exact ⟨⟨_, rfl⟩, .inr ⟨_, trivial, hJx3⟩⟩
        · obtain rfl : q = 3 := by omega
          have q2 : ¬ ((3 : Nat) : Int) < 3 := by decide
          gi_wp2
          go_roundw
          case rel => exact ⟨k + 1, by omega, by simp, by rw [show 3 * (k + 1) = 3 * k + 3 by omega]; exact hJ, hKp⟩
          case measure => simp [intOf]; omega
    · obtain rfl : k = c := by omega
      have q1 : ¬ (k : Int) < (k : Int) := by omega
      gi_wp2
      go_end0
      exact ⟨⟨_, rfl⟩, .inl hJ⟩
end Go.Proofs.Ytcfbdfgondmkoaa
/- Which nodes are named. -/
namespace Go.Proofs.Ytcfbdfgondmkoaa
open Go Go.RowKit Go.Shelf
set_option linter.unusedSimpArgs false
set_option linter.unusedVariables false
set_option linter.unnecessarySimpa false
attribute [local go_sem] Oper.semAt_some

def fl (g : Nat) (vals : List Int) : List Bool := (List.range g).map fun (p : Nat) => decide (0 < p) && vals.any fun x => x == (p : Int)
def flA (g : Nat) (vals : List Int) : Array Value := ((fl g vals).map Value.bool).toArray
theorem fl_length (g : Nat) (vals : List Int) : (fl g vals).length = g := by simp [fl]
theorem flA_size (g : Nat) (vals : List Int) : (flA g vals).size = g := by simp [flA, fl_length]
theorem fl_get {g p : Nat} (vals : List Int) (h : p < g) : (fl g vals)[p]? = some (decide (0 < p) && vals.any fun x => x == (p : Int)) := by simp [fl, h]
theorem fl_nil (g : Nat) : fl g [] = List.replicate g false := by
  apply List.ext_getElem
  · simp [fl]
  · intro i h1 h2; simp [fl]
theorem fl_on {g : Nat} {vals : List Int} {P : Nat} (h0 : 0 < P) (hg : P < g) : fl g (vals ++ [(P : Int)]) = (fl g vals).set P true := by
  apply List.ext_getElem
  · simp [fl]
  · intro i h1 h2
    have hi : i < g := by simpa [fl] using h1
    by_cases hiP : i = P
    · subst hiP
      simp [fl, h0]
    · rw [List.getElem_set_ne (by omega)]
      have h3 : ((P : Int) == (i : Int)) = false := by simp; omega
      simp [fl, h3]
theorem fl_off {g : Nat} {vals : List Int} {z : Int} (h : ¬ (0 < z ∧ z < (g : Int))) : fl g (vals ++ [z]) = fl g vals := by
  apply List.ext_getElem
  · simp [fl]
  · intro i h1 h2
    have hi : i < g := by simpa [fl] using h1
    by_cases h5 : 0 < i
    · have h3 : (z == (i : Int)) = false := by simp; omega
      simp [fl, h3]
    · simp [fl, h5]
theorem flA_get {g p : Nat} (vals : List Int) (h : p < g) : ∃ q, (flA g vals)[p]? = some (.bool q) := ⟨_, by unfold flA; simp only [List.getElem?_toArray, List.getElem?_map]; rw [fl_get vals h]; rfl⟩
theorem flA_on {g : Nat} {vals : List Int} {P : Nat} (h0 : 0 < P) (hg : P < g) : flA g (vals ++ [(P : Int)]) = (flA g vals).setIfInBounds P (.bool true) := by
  unfold flA
  rw [fl_on h0 hg]
  apply Array.ext_getElem?
  intro i
  rw [Array.getElem?_setIfInBounds]
  simp only [List.getElem?_toArray, List.getElem?_map, List.getElem?_set, List.size_toArray, List.length_map, fl_length]
  by_cases hi : P = i
  · subst hi; simp [hg, fl_length]
  · simp [hi]
theorem flA_off {g : Nat} {vals : List Int} {z : Int} (h : ¬ (0 < z ∧ z < (g : Int))) : flA g (vals ++ [z]) = flA g vals := by unfold flA; rw [fl_off h]
@[go_sem] theorem run_mk122 (n : Nat) (h : n ≤ 100000) (w : World) : (Instr.makeSlice 122 (.int .i64 n) (.int .i64 n)).run Proofs.Try.prog w = .ok (.slice (some ⟨w.heap.size, 0, none⟩) n n) (w.alloc (.cells (flA n []) 4)) := by
  cases hi : Proofs.Try.prog.info? 4 with
  | none => exact absurd (show (Proofs.Try.prog.info? 4).isSome = true by kernel_rfl) (by rw [hi]; simp)
  | some i =>
    have hz : i.zero = some (.bool false) := by
      have : (Proofs.Try.prog.info? 4).bind (·.zero) = some (.bool false) := by kernel_rfl
      rw [hi] at this; exact this
    have hs : i.size = 1 := by
      have : (Proofs.Try.prog.info? 4).map (·.size) = some 1 := by kernel_rfl
      rw [hi] at this; simpa using this
    have hb : i.bytes ≤ 1000 := by
      have : (Proofs.Try.prog.info? 4).map (fun i => decide (i.bytes ≤ 1000)) = some true := by kernel_rfl
      rw [hi] at this; simpa using this
    have hbn : (i.bytes : Int) * n ≤ 281474976710656 := by
      have h1 : i.bytes * n ≤ 100000000 := Nat.mul_le_mul hb h
      have h2 := Int.ofNat_le.2 h1
      rw [Int.natCast_mul] at h2
      exact Int.le_trans h2 (by decide)
    have := run_make (P := Proofs.Try.prog) w 122 4 i _ Proofs.Try.underlying122 hi hz .i64 .i64 n n (by omega) (Int.le_refl _) hbn (by omega)
    rw [hs] at this
    have e : madeCells (Value.bool false).cells (n * 1) = flA n [] := by
      unfold flA
      rw [fl_nil]
      apply Array.ext
      · simp [madeCells]
      · intro i h1 h2
        simp [madeCells, Value.cells, Nat.mod_one]
    simp only [Int.toNat_natCast] at this
    rw [e] at this
    exact this
theorem box_kept {A B : World} {row : Option Nat} {b : Nat} {cs : Array Value} {t : TypeId} (h : Box A b cs t) (hg : A.grownBy B row) (hr : ∀ r, row = some r → ∃ o : Obj, A.heap[r]? = some o ∧ o.isCells = false) : Box B b cs t := by
  refine (hg.block b h.lt fun e => ?_).trans h
  obtain ⟨o, h1, h2⟩ := hr b e.symm
  have h3 : A.heap[b]? = some (.cells cs t (0, 0)) := h
  rw [h3] at h1
  cases h1
  cases h2
theorem keep_put {M : Nat → Prop} (W : World) {l : Nat} (o' : Obj) (hM : M l) : Keep M W (W.putObj l o') :=
  ⟨(grownBy_putObj' W l o').size, fun b hb hn => (grownBy_putObj' W l o').block b hb fun e => hn (by cases e; exact hM)⟩
theorem slot_vals (W : List Int) {k : Nat} (h : 8 + k ≤ W.length) : (uptoF (slotF W) k).map Prod.snd = (W.drop 8).take k := by
  apply List.ext_getElem
  · simp [uptoF]; omega
  · intro i h1 h2
    simp [uptoF] at h1
    simp [uptoF, slotF, gi, show 8 + i < W.length by omega]
theorem slotsf_ (cs : Array Value) (w : World) (n : Nat) : CallsIn Fence.wide n Proofs.Try.prog 147 #[.agg cs] w (fun e w' => e = .returned (.func (.func 164) #[] #[.pointer (some ⟨w.heap.size, 0, none⟩)]) ∧ w' = w.alloc (.cells cs 83)) := by
  refine callsIn_wide.2 ?_
  go_enter Proofs.Try.func147, Proofs.Try.ntmps147
  go_wp2
  go_ret
  exact ⟨rfl, rfl⟩
set_option maxRecDepth 100000 in
set_option maxHeartbeats 4000000 in
theorem named_ (v : Value) (s : SysD) (w : World) (h : IsSys no w v s) (hG : s.M.G.length ≤ 100000) (hlen : 8 + 3 * s.C.length ≤ s.M.W.length) (hc8 : s.C.length ≤ 9) :
    Gives Proofs.Try.prog 99 #[v] w (fun r w' => ∃ b, r = .slice (some ⟨b, 0, none⟩) s.M.G.length s.M.G.length ∧ Box w' b (flA s.M.G.length ((s.M.W.drop 8).take (3 * s.C.length))) 4) := by
  obtain ⟨aw, cw, ag, cg, ac, cc, al, cl, rfl, hw, hg, hc, hl⟩ := h.opened
  obtain ⟨bw, ow, rfl, hbw, _, hx⟩ := hw.row (by omega)
  unfold Gives
  refine (callsIn_wide (n := 5)).1 ?_
  refine callsIn_of_wp_marks Proofs.Try.func99 rfl trivial ?_ rfl
  simp only [Proofs.Try.ntmps99, List.size_toArray, List.length_cons, List.length_nil, Nat.reduceAdd, Nat.reduceSub, Array.replicate_succ, Array.replicate_zero, List.push_toArray, List.append_toArray, List.nil_append, List.cons_append]
  gi_wp2_with (refine ⟨trivial, ?_⟩; gi_at_call 147; refine (slotsf_ _ _ _).mono ?_; rintro e w' ⟨rfl, rfl⟩)
  obtain ⟨W0, hW0⟩ : ∃ W0, W0 = (((w.alloc (.cells #[.slice (some ⟨bw, ow, none⟩) s.M.W.length cw, .slice ag s.M.G.length cg, .bool s.M.bad, .slice ac s.C.length cc, .slice al s.L.length cl] 83)).alloc (.cells (flA s.M.G.length []) 4)).alloc (.cells #[.slice (some ⟨w.heap.size + 1, 0, none⟩) s.M.G.length s.M.G.length] 122)).alloc (.cells #[.slice (some ⟨bw, ow, none⟩) s.M.W.length cw, .slice ag s.M.G.length cg, .bool s.M.bad, .slice ac s.C.length cc, .slice al s.L.length cl] 83) := ⟨_, rfl⟩
  have sz : W0.heap.size = w.heap.size + 4 := by rw [hW0]; simp
  have b1 : Box W0 (w.heap.size + 1) (flA s.M.G.length []) 4 := by rw [hW0]; exact ((Box.newAt _ _ _ (by simp)).alloc _).alloc _
  have b2 : Box W0 (w.heap.size + 1 + 1) #[.slice (some ⟨w.heap.size + 1, 0, none⟩) s.M.G.length s.M.G.length] 122 := by rw [hW0]; exact (Box.newAt _ _ _ (by simp)).alloc _
  have b3 : Box W0 (w.heap.size + 1 + 1 + 1) #[.slice (some ⟨bw, ow, none⟩) s.M.W.length cw, .slice ag s.M.G.length cg, .bool s.M.bad, .slice ac s.C.length cc, .slice al s.L.length cl] 83 := by rw [hW0]; exact Box.newAt _ _ _ (by simp)
  have X0 : Ext w W0 := by rw [hW0]; exact exq
  rw [← hW0]
  clear hW0
  refine wpIn_rangeFunc_ownF (F := Fence.wide) (w0 := W0) rfl (by decide) (gf := 164) (lb := #[.pointer (some ⟨w.heap.size + 1 + 1 + 1, 0, none⟩)]) rfl trivial (enters_of Proofs.Try.func164 (by kernel_rfl) rfl)
    (encs := fun x : Int × Int => #[.int .i64 x.1, .int .i64 x.2]) (Kp := Keep fun b => b = w.heap.size + 1 ∨ W0.heap.size ≤ b) (S := fun xs => xs = uptoF (slotF s.M.W) (3 * s.C.length)) (Sp := fun _ => True) (N := 3 * s.C.length)
    (fun l J Jx W hW _ _ hY h0 => slots1_in 4 (by decide) l _ bw ow (fun b => b = w.heap.size + 1 ∨ W0.heap.size ≤ b) s.M.W s.C.length s.M.W.length cw _ _ _ ac cc J Jx hY W (b3.ext hW) (fun q => by rcases q with q | q <;> omega) (fun q => by rcases q with q | q <;> omega) (Nat.lt_of_lt_of_le hbw (X0.trans hW).size) hlen hc8 (fun j hj => cell_ext (hx j hj) (X0.trans hW)) h0)
    (fun h k => h.trans k) (fun W l o o' hl ho _ _ => keep_put W o' (.inr hl)) (Below.refl _ _) (fun _ => rfl)
    (fun (pre : List (Int × Int)) (W : World) => (Box W (w.heap.size + 1) (flA s.M.G.length (pre.map Prod.snd)) 4 ∧ Box W (w.heap.size + 1 + 1) #[.slice (some ⟨w.heap.size + 1, 0, none⟩) s.M.G.length s.M.G.length] 122) ∧ Below w.heap.size w W)
    (fun _ _ _ => False)
    (OwnFrom.and (Own.from (fun _ A B row hs hg hr => ⟨box_kept hs.1 hg hr, box_kept hs.2 hg hr⟩) _) (ownFrom_below (Nat.le_refl _) (by omega)))
    (fun _ _ _ _ _ hs _ _ => hs)
    ⟨⟨b1, b2⟩, X0⟩
    (fun x => { tmps := #[.agg #[.slice (some ⟨bw, ow, none⟩) s.M.W.length cw, .slice ag s.M.G.length cg, .bool s.M.bad, .slice ac s.C.length cc, .slice al s.L.length cl], .pointer (some ⟨w.heap.size, 0, none⟩), .slice none 0 0, .pointer (some ⟨w.heap.size + 1 + 1, 0, none⟩), undef, .int .i64 x.2, .pointer (some ⟨w.heap.size, 0, none⟩), .pointer (some ⟨w.heap.size, 1, none⟩), .slice ag s.M.G.length cg, .int .i64 (s.M.G.length : Nat), .slice (some ⟨w.heap.size + 1, 0, none⟩) s.M.G.length s.M.G.length, .agg #[.slice (some ⟨bw, ow, none⟩) s.M.W.length cw, .slice ag s.M.G.length cg, .bool s.M.bad, .slice ac s.C.length cc, .slice al s.L.length cl], .func (.func 164) #[] #[.pointer (some ⟨w.heap.size + 1 + 1 + 1, 0, none⟩)], .int .i64 x.1, .int .i64 x.2, undef, undef, undef, undef, undef, undef, undef, undef, undef, undef, undef, undef], defers := [] }) ?assign ?body ?done ?stop
  case assign =>
    intro l x W K hK
    gi_wp2
    exact hK
  case body =>
    rintro l pre ⟨y, z⟩ W ⟨⟨h1, h2⟩, hB⟩ hlt
    dsimp only
    obtain ⟨hc2, hf2⟩ := cells1 h2
    have hb2 := h2.lt
    by_cases hz0 : 0 < z
    · by_cases hzg : z < (s.M.G.length : Int)
      · obtain ⟨P, rfl⟩ : ∃ P : Nat, z = (P : Int) := ⟨z.toNat, by omega⟩
        have hP0 : 0 < P := by omega
        have hPg : P < s.M.G.length := by omega
        obtain ⟨q, hq⟩ := flA_get (pre.map Prod.snd) hPg
        have hc1 : W.cell? ⟨w.heap.size + 1, P, none⟩ = some (.bool q) := h1.cell (by rw [nth_eq]; simpa using hq)
        have hf1 : W.frozen? ⟨w.heap.size + 1, P, none⟩ = false := h1.frozen
        have hb1 := h1.lt
        gi_wp2
        exact ⟨KeepsOthers.setCell _ _ _, (Keep.refl _ _).s (.inl rfl), ⟨by rw [List.map_append, List.map_cons, List.map_nil, flA_on hP0 hPg]; exact h1.setCell _, h2.setOther (by omega) _⟩, hB.setCell (p := ⟨w.heap.size + 1, P, none⟩) (by simp) _⟩
      · gi_wp2
        exact ⟨KeepsOthers.refl _, Keep.refl _ _, ⟨by rw [List.map_append, List.map_cons, List.map_nil, flA_off (by omega)]; exact h1, h2⟩, hB⟩
    · gi_wp2
      exact ⟨KeepsOthers.refl _, Keep.refl _ _, ⟨by rw [List.map_append, List.map_cons, List.map_nil, flA_off (by omega)]; exact h1, h2⟩, hB⟩
  case done =>
    rintro D ys W hD rfl ⟨⟨h1, h2⟩, hB⟩ hK
    obtain ⟨hc2, hf2⟩ := cells1 h2
    gi_wp2
    rw [slot_vals _ hlen] at h1
    refine ⟨by simp, .inl ⟨_, _, rfl, run_takeDeferred hK, ?_⟩⟩
    exact ⟨_, results_tmp rfl _ _ _, _, rfl, hB.trans (belowK_b (w := w) (Nat.le_refl _) W D _ _ (by omega) hK rfl rfl), _, rfl, box_kept h1 (grownBy_putObj' W D _) (fun r e => by cases e; exact ⟨_, hK, rfl⟩)⟩
  case stop =>
    rintro D c pre W _ _ h _
    exact h.elim
end Go.Proofs.Ytcfbdfgondmkoaa
/- All nodes are laid into the list. -/
namespace Go.Proofs.Ytcfbdfgondmkoaa
open Go Go.RowKit
set_option linter.unusedSimpArgs false
set_option linter.unusedVariables false
set_option linter.unnecessarySimpa false

theorem of1_ (w : World) : Gives Proofs.Try.prog 37 #[.int .i64 0, .int .i64 1, .int .i64 0] w (eqv (.tuple #[.int .i64 2, .int .i64 0])) := by
  have h := of_ 0 1 0 w
  have e : ofV 0 1 0 = .tuple #[.int .i64 2, .int .i64 0] := by kernel_rfl
  rw [e] at h; exact h
theorem nextOf_mod {n k : Nat} (h1 : 1 ≤ k) (h2 : k ≤ n) : ((k : Int) + 1).tmod ((n : Int) + 1) = nextOf n k := by
  rw [Int.tmod_eq_emod_of_nonneg (by omega)]
  unfold nextOf
  split
  · rename_i e; subst e; exact Int.emod_self
  · exact Int.emod_eq_of_lt (by omega) (by omega)
theorem fits_store {m : Arena} {x v : Int} (h : Fits m) : Fits (storeD m x v) := by
  unfold storeD Fits
  split
  · exact h
  · simpa [Fits] using h
theorem fill_step {n k : Nat} {m mk : Arena} {v : Int} (hv : nextOf n k = v) (h : fillL n (n + 1 - k) k mk = fillL n n 1 m) (hk : k ≤ n) : fillL n (n + 1 - (k + 1)) (k + 1) (storeD mk (linkAt (k : Int)) v) = fillL n n 1 m := by
  rw [← h, show n + 1 - k = (n + 1 - (k + 1)) + 1 by omega, ← hv]
  rfl
def FillR (N : Nat → Prop) (w : World) (n : Nat) (m : Arena) (k : Nat) (wr : World) : Prop :=
  1 ≤ k ∧ k ≤ n + 1 ∧ ∃ mk a1 c1 a2 c2, Box wr w.heap.size #[.slice a1 mk.W.length c1, .slice a2 mk.G.length c2, .bool mk.bad] 50 ∧ Box wr (w.heap.size + 1) #[.slice none 0 0, .slice none 0 0, .bool false] 50 ∧
    IsMem (Bx N w.heap.size (w.heap.size + 2)) wr (.agg #[.slice a1 mk.W.length c1, .slice a2 mk.G.length c2, .bool mk.bad]) mk ∧ Ext w wr ∧ Fits mk ∧ mk.G.length = n + 1 ∧ fillL n (n + 1 - k) k mk = fillL n n 1 m
set_option maxHeartbeats 2000000 in
set_option maxRecDepth 100000 in
theorem fill_ (N : Nat → Prop) (va : Value) (m : Arena) (w : World) (h : IsMem N w va m) (hN : ∀ b, N b → b < w.heap.size) (hfit : Fits m) : Gives Proofs.Try.prog 109 #[va] w (fun r w' => IsMem N w' r (fillD m)) := by
  obtain ⟨n, hG⟩ : ∃ n, m.G.length = n + 1 := ⟨m.G.length - 1, by have := hfit.2.1; omega⟩
  have hn : n ≤ 200 := by have := hfit.2.2; omega
  obtain ⟨aw, cw, ag, cg, rfl, mw, mg⟩ := h.opened
  have hm := IsMem.mk (m := m) rfl mw mg
  clear h
  rw [hG] at hm ⊢
  go_enter Proofs.Try.func109, Proofs.Try.ntmps109
  go_wp2
  go_loopw [4] (fun i wr => ∃ k : Nat, i = .int .i64 k ∧ FillR N w n m k wr) (fun i _ => n + 1 - (intOf i).toNat)
  case atStart => exact ⟨1, rfl, Nat.le_refl _, by omega, m, aw, cw, ag, cg, by rw [hG]; exact ((Box.newAt _ _ _ (by first | rfl | simp)).alloc _), (Box.newAt _ _ _ (by first | rfl | simp)), by rw [hG]; exact (IsMem.bxn hm).keep keq, exq, hfit, hG, rfl⟩
  case round =>
    obtain ⟨k, rfl, hk1, hkn, mk, a1, e1, a2, e2, hb0, hb1, hmk, hbx, hfk, hGk, hfl⟩ := hrel
    obtain ⟨w5, rfl⟩ : ∃ w5 : World, w5 = wr := ⟨_, rfl⟩
    have s5 : w.heap.size + 2 ≤ w5.heap.size := by have := hb1.lt; omega
    have hHF := Lib.hid hfl; have hHG := Lib.hid hGk
    clear hfl hGk
    by_cases hlt : k ≤ n
    · have q1 : (k : Int) ≤ (n : Int) := by omega
      obtain ⟨c0_0, c0_1, c0_2, d0_0, d0_1, d0_2⟩ := cells3 hb0
      have z0 : w.heap.size < w5.heap.size := hb0.lt
      obtain ⟨c1_0, c1_1, c1_2, d1_0, d1_1, d1_2⟩ := cells3 hb1
      have z1 : w.heap.size + 1 < w5.heap.size := hb1.lt
      go_wp2_with (fail)
      have hX5 : Ext w w5 := exn
      have hK5 : Keep (Bx N w.heap.size (w.heap.size + 2)) w5 w5 := Keep.refl _ _
      have D0_5 := hb0
      have D1_5 := hb1
      have aM : IsMem (Bx N w.heap.size (w.heap.size + 2)) w5 (.agg #[.slice a1 mk.W.length e1, .slice a2 mk.G.length e2, .bool mk.bad]) mk := hmk
      clear c0_0 c0_1 c0_2 d0_0 d0_1 d0_2 z0 c1_0 c1_1 c1_2 d1_0 d1_1 d1_2 z1
      apply region_lit2 (T := [9]) (L := []) (X := [w.heap.size]) (G := [eqv _, eqv _, eqv _, eqv _, eqv (.int .i64 ((k : Int) + 1)), eqv _, eqv (.int .i64 ((n : Int) + 1)), eqv (.int .i64 (nextOf n k)), isMemN (Bx N w.heap.size (w.heap.size + 2)) (storeD mk (linkAt (k : Int)) (nextOf n k)), anyG])
      case hm => kernel_rfl
      case hop =>
        refine ⟨?_, ?_, ?_, ?_, ?_, ?_, ?_, ?_, ?_, ?_, trivial⟩
        · intro a wa hs hf hd
          have t1 := hf.off 1 (by kernel_rfl) rfl
          exact plain_ rfl (yes_eqv (o_load3 rfl Proofs.Try.underlying50 rfl (by kernel_rfl) t1 ((D0_5.since hs rfl).cell rfl) ((D0_5.since hs rfl).cell rfl) ((D0_5.since hs rfl).cell rfl)) rfl)
        · intro a wa hs hf hd
          have t4 := hf.off 4 (by kernel_rfl) rfl
          exact plain_ rfl (yes_eqv (o_move rfl t4) rfl)
        · intro a wa hs hf hd
          have t17 : a.eval (.tmp 17) = _ := hd.at 1 17 (by kernel_rfl)
          exact plain_ rfl (yes_gives (atw_ (k : Int) _) rfl rfl Proofs.Try.func57 (by kernel_rfl) (by kernel_rfl) (by simp only [List.map_toArray, List.map_cons, List.map_nil, eval_const, t17]) rfl)
        · intro a wa hs hf hd
          have t4 := hf.off 4 (by kernel_rfl) rfl
          exact plain_ rfl (yes_eqv (o_move rfl t4) rfl)
        · intro a wa hs hf hd
          have t19 : a.eval (.tmp 19) = _ := hd.at 3 19 (by kernel_rfl)
          exact plain_ rfl (yes_eqv (o_add rfl t19 rfl (by rw [IntKind.wrap_i64]; omega)) rfl)
        · intro a wa hs hf hd
          have t3 := hf.off 3 (by kernel_rfl) rfl
          exact plain_ rfl (yes_eqv (o_move rfl t3) rfl)
        · intro a wa hs hf hd
          have t21 : a.eval (.tmp 21) = _ := hd.at 5 21 (by kernel_rfl)
          exact plain_ rfl (yes_eqv (o_add rfl t21 rfl (by rw [IntKind.wrap_i64]; omega)) rfl)
        · intro a wa hs hf hd
          have t20 : a.eval (.tmp 20) = _ := hd.at 4 20 (by kernel_rfl)
          have t22 : a.eval (.tmp 22) = _ := hd.at 6 22 (by kernel_rfl)
          exact plain_ rfl (yes_eqv (o_rem rfl t20 t22 (by omega) (nextOf_mod (by omega) (by omega))) rfl)
        · intro a wa hs hf hd
          have t16 : a.eval (.tmp 16) = _ := hd.at 0 16 (by kernel_rfl)
          have t18 : a.eval (.tmp 18) = _ := hd.at 2 18 (by kernel_rfl)
          have t23 : a.eval (.tmp 23) = _ := hd.at 7 23 (by kernel_rfl)
          exact plain_ rfl (yes_gives (memStore_ (Bx N w.heap.size (w.heap.size + 2)) _ mk (linkAt (k : Int)) (nextOf n k) _ (aM.keep (Since.to_ext hs).keep) hfk (Bx.le hN (by have := (Since.to_ext hs).size; omega)) (linkAt_lo _).1 (linkAt_lo _).2) rfl rfl Proofs.Try.func68 (by kernel_rfl) (by kernel_rfl) (by simp only [List.map_toArray, List.map_cons, List.map_nil, t16, t18, t23]) rfl)
        · intro a wb wa hs1 hs hf hd hrun
          have t1 := hf.off 1 (by kernel_rfl) rfl
          have t24 := hd.at 8 24 (by kernel_rfl)
          subst hrun
          have q18 : IsMem (Bx N w.heap.size (w.heap.size + 2)) _ (a.eval (.tmp 24)) (storeD mk (linkAt (k : Int)) (nextOf n k)) := t24
          obtain ⟨u1, u2, u3, u4, hv, _⟩ := q18.opened
          exact ⟨_, o_store rfl t1 hv ((D0_5.since hs1 rfl)) (by kernel_rfl) (by simp [Value.cells, Value.oneCell']) (by first | (simp [Value.cells]; done) | (simp [Value.cells]; omega)) rfl, Since.put hs (.inr (by simp))⟩
      case hG => exact ⟨stable_eqv _, stable_eqv _, stable_eqv _, stable_eqv _, stable_eqv _, stable_eqv _, stable_eqv _, stable_eqv _, stable_isMemN _ _, stable_any, trivial⟩
      case hc => kernel_rfl
      case hfin =>
        intro v5 hs5
        rintro _ rfl _ rfl _ rfl _ rfl _ rfl _ rfl _ rfl _ rfl r11 hr11
        obtain ⟨u1, u2, u3, u4, rfl, mw0, mg0⟩ := IsMem.opened hr11
        rintro v5w ⟨o1, v1, ho1, hr1, rfl⟩
        cases ho1
        simp only [Act.put, List.setIfInBounds_toArray, List.set_cons_zero, List.set_cons_succ] at hr1 ⊢
        cases (hr1.symm.trans (o_store (v := .agg #[.slice u1 (storeD mk (linkAt (k : Int)) (nextOf n k)).W.length u2, .slice u3 (storeD mk (linkAt (k : Int)) (nextOf n k)).G.length u4, .bool (storeD mk (linkAt (k : Int)) (nextOf n k)).bad]) (new := #[.slice u1 (storeD mk (linkAt (k : Int)) (nextOf n k)).W.length u2, .slice u3 (storeD mk (linkAt (k : Int)) (nextOf n k)).G.length u4, .bool (storeD mk (linkAt (k : Int)) (nextOf n k)).bad]) rfl rfl rfl ((D0_5.since hs5 rfl)) (by kernel_rfl) (by simp [Value.cells, Value.oneCell']) (by first | (simp [Value.cells]; done) | (simp [Value.cells]; omega)) (by first | rfl | kernel_rfl)))
        obtain ⟨w6, hw6⟩ : ∃ x, x = (put v5 w.heap.size (.cells #[.slice u1 (storeD mk (linkAt (k : Int)) (nextOf n k)).W.length u2, .slice u3 (storeD mk (linkAt (k : Int)) (nextOf n k)).G.length u4, .bool (storeD mk (linkAt (k : Int)) (nextOf n k)).bad] 50 (0, 0))) := ⟨_, rfl⟩
        have hW6 : Ext w5 v5 := Since.to_ext hs5
        have hb6 : Ext w w6 := by rw [hw6]; exact Since.to_ext ((Since.of_ext (hX5.trans hW6)).put (.inl (by have := hX5.size; omega)))
        have hk6 : Keep (Bx N w.heap.size (w.heap.size + 2)) w5 w6 := by rw [hw6]; exact ((hK5.ext hW6).put _ _ (.inr (Bx.mem (by omega) (by omega))))
        have hq6 : Keep (Bx N w.heap.size (w.heap.size + 2)) v5 w6 := by rw [hw6]; exact ((Keep.refl _ _).put _ _ (.inr (Bx.mem (by omega) (by omega))))
        have B0_6 : Box w6 (w.heap.size) #[.slice u1 (storeD mk (linkAt (k : Int)) (nextOf n k)).W.length u2, .slice u3 (storeD mk (linkAt (k : Int)) (nextOf n k)).G.length u4, .bool (storeD mk (linkAt (k : Int)) (nextOf n k)).bad] 50 := by rw [hw6]; exact (D0_5.since hs5 rfl).put
        have B1_6 : Box w6 (w.heap.size + 1) #[.slice none 0 0, .slice none 0 0, .bool false] 50 := by rw [hw6]; exact (box_putOther (D1_5.since hs5 rfl) (by omega))
        have s6 : w5.heap.size ≤ w6.heap.size := by rw [hw6]; have := hW6.size; simpa [put] using this
        rw [← hw6]
        clear hw6
        obtain ⟨c0_0, c0_1, c0_2, d0_0, d0_1, d0_2⟩ := cells3 B0_6
        have z0 : w.heap.size < w6.heap.size := B0_6.lt
        obtain ⟨c1_0, c1_1, c1_2, d1_0, d1_1, d1_2⟩ := cells3 B1_6
        have z1 : w.heap.size + 1 < w6.heap.size := B1_6.lt
        have mw := IsInts.keep mw0 hq6
        have mg := IsInts.keep mg0 hq6
        clear hq6
        go_wp2
        go_roundw
        case rel => exact ⟨k + 1, by first | (simp; done) | (simp; omega), by omega, by omega, storeD mk (linkAt (k : Int)) (nextOf n k), u1, u2, u3, u4, B0_6, B1_6, IsMem.mk rfl mw mg, exn, fits_store hfk, by rw [← hHG.out]; rfl, fill_step rfl hHF.out hlt⟩
        case measure => simp [intOf]; omega
    · obtain rfl : k = n + 1 := by omega
      have q1 : ¬ ((n + 1 : Nat) : Int) ≤ (n : Int) := by omega
      obtain ⟨c0_0, c0_1, c0_2, d0_0, d0_1, d0_2⟩ := cells3 hb0
      have z0 : w.heap.size < w5.heap.size := hb0.lt
      obtain ⟨c1_0, c1_1, c1_2, d1_0, d1_1, d1_2⟩ := cells3 hb1
      have z1 : w.heap.size + 1 < w5.heap.size := hb1.lt
      go_wp2_with (fail)
      go_at_call 37
      refine (of1_ _).calls.mono ?_
      rintro e w6 ⟨_, rfl, hb6, rfl⟩
      have B0_6 : Box w6 (w.heap.size) #[.slice a1 mk.W.length e1, .slice a2 mk.G.length e2, .bool mk.bad] 50 := hb0.ext hb6
      have B1_6 : Box w6 (w.heap.size + 1) #[.slice none 0 0, .slice none 0 0, .bool false] 50 := hb1.ext hb6
      clear c0_0 c0_1 c0_2 d0_0 d0_1 d0_2 z0 c1_0 c1_1 c1_2 d1_0 d1_1 d1_2 z1
      have s6 : w5.heap.size ≤ w6.heap.size := (by have h := hb6.size; first | omega | (simp at h; omega))
      obtain ⟨c0_0, c0_1, c0_2, d0_0, d0_1, d0_2⟩ := cells3 B0_6
      have z0 : w.heap.size < w6.heap.size := B0_6.lt
      obtain ⟨c1_0, c1_1, c1_2, d1_0, d1_1, d1_2⟩ := cells3 B1_6
      have z1 : w.heap.size + 1 < w6.heap.size := B1_6.lt
      go_wp2_with (fail)
      go_at_call 68
      refine (memStore_ (Bx N w.heap.size (w.heap.size + 2)) _ mk 0 2 _ (hmk.keep keq) hfk (Bx.le hN (by first | omega | (simp <;> omega))) (by decide) (by decide)).calls.mono ?_
      rintro e w7 ⟨_, rfl, hb7, hu7⟩
      obtain ⟨u1, u2, u3, u4, rfl, uw, ug⟩ := hu7.opened
      have B0_7 : Box w7 (w.heap.size) #[.slice a1 mk.W.length e1, .slice a2 mk.G.length e2, .bool mk.bad] 50 := B0_6.ext hb7
      have B1_7 : Box w7 (w.heap.size + 1) #[.slice none 0 0, .slice none 0 0, .bool false] 50 := B1_6.ext hb7
      clear c0_0 c0_1 c0_2 d0_0 d0_1 d0_2 z0 c1_0 c1_1 c1_2 d1_0 d1_1 d1_2 z1
      have s7 : w6.heap.size ≤ w7.heap.size := (by have h := hb7.size; first | omega | (simp at h; omega))
      obtain ⟨c0_0, c0_1, c0_2, d0_0, d0_1, d0_2⟩ := cells3 B0_7
      have z0 : w.heap.size < w7.heap.size := B0_7.lt
      obtain ⟨c1_0, c1_1, c1_2, d1_0, d1_1, d1_2⟩ := cells3 B1_7
      have z1 : w.heap.size + 1 < w7.heap.size := B1_7.lt
      have hfd : fillD m = storeD mk 0 2 := (by have := hHF.out; unfold fillD; rw [hG]; show storeD (fillL n n 1 m) 0 2 = _; rw [← this, Nat.sub_self]; rfl)
      go_wp2
      exact bodyPost_ret (ret_cell (cs := #[.slice u1 (storeD mk 0 2).W.length u2, .slice u3 (storeD mk 0 2).G.length u4, .bool (storeD mk 0 2).bad]) (((B1_7.setCell _).setCell _).setCell _) Proofs.Try.results109 rfl Proofs.Try.underlying50 rfl (by kernel_rfl)) rfl ⟨_, rfl, exn, (by rw [hfd]; exact IsMem.less (IsMem.keep hu7 keq) (fun _ _ hn => .inl hn))⟩
set_option maxHeartbeats 2000000 in
set_option maxRecDepth 100000 in
theorem refFill_ (N : Nat → Prop) (va : Value) (m : Arena) (w : World) (h : IsMem N w va m) (hN : ∀ b, N b → b < w.heap.size) (hfit : Fits m) : Gives Proofs.Try.prog 110 #[va] w (fun r w' => IsMem N w' r (fillD m)) := by
  obtain ⟨n, hG⟩ : ∃ n, m.G.length = n + 1 := ⟨m.G.length - 1, by have := hfit.2.1; omega⟩
  have hn : n ≤ 200 := by have := hfit.2.2; omega
  obtain ⟨aw, cw, ag, cg, rfl, mw, mg⟩ := h.opened
  have hm := IsMem.mk (m := m) rfl mw mg
  clear h
  rw [hG] at hm ⊢
  go_enter Proofs.Try.func110, Proofs.Try.ntmps110
  go_wp2
  go_loopw [4] (fun i wr => ∃ k : Nat, i = .int .i64 k ∧ FillR N w n m k wr) (fun i _ => n + 1 - (intOf i).toNat)
  case atStart => exact ⟨1, rfl, Nat.le_refl _, by omega, m, aw, cw, ag, cg, by rw [hG]; exact ((Box.newAt _ _ _ (by first | rfl | simp)).alloc _), (Box.newAt _ _ _ (by first | rfl | simp)), by rw [hG]; exact (IsMem.bxn hm).keep keq, exq, hfit, hG, rfl⟩
  case round =>
    obtain ⟨k, rfl, hk1, hkn, mk, a1, e1, a2, e2, hb0, hb1, hmk, hbx, hfk, hGk, hfl⟩ := hrel
    obtain ⟨w5, rfl⟩ : ∃ w5 : World, w5 = wr := ⟨_, rfl⟩
    have s5 : w.heap.size + 2 ≤ w5.heap.size := by have := hb1.lt; omega
    have hHF := Lib.hid hfl; have hHG := Lib.hid hGk
    clear hfl hGk
    by_cases hlt : k ≤ n
    · have q1 : (k : Int) ≤ (n : Int) := by omega
      by_cases hkn2 : k = n
      · have q2 : ((k : Int) == (n : Int)) = true := by simp; omega
        obtain ⟨c0_0, c0_1, c0_2, d0_0, d0_1, d0_2⟩ := cells3 hb0
        have z0 : w.heap.size < w5.heap.size := hb0.lt
        obtain ⟨c1_0, c1_1, c1_2, d1_0, d1_1, d1_2⟩ := cells3 hb1
        have z1 : w.heap.size + 1 < w5.heap.size := hb1.lt
        go_wp2_with (fail)
        have hX8 : Ext w w5 := exn
        have hK8 : Keep (Bx N w.heap.size (w.heap.size + 2)) w5 w5 := Keep.refl _ _
        have D0_8 := hb0
        have D1_8 := hb1
        have aM : IsMem (Bx N w.heap.size (w.heap.size + 2)) w5 (.agg #[.slice a1 mk.W.length e1, .slice a2 mk.G.length e2, .bool mk.bad]) mk := hmk
        clear c0_0 c0_1 c0_2 d0_0 d0_1 d0_2 z0 c1_0 c1_1 c1_2 d1_0 d1_1 d1_2 z1
        apply region_lit2 (T := [5]) (L := []) (X := [w.heap.size]) (G := [eqv _, eqv _, eqv _, eqv _, isMemN (Bx N w.heap.size (w.heap.size + 2)) (storeD mk (linkAt (k : Int)) 0), anyG])
        case hm => kernel_rfl
        case hop =>
          refine ⟨?_, ?_, ?_, ?_, ?_, ?_, trivial⟩
          · intro a wa hs hf hd
            have t1 := hf.off 1 (by kernel_rfl) rfl
            exact plain_ rfl (yes_eqv (o_load3 rfl Proofs.Try.underlying50 rfl (by kernel_rfl) t1 ((D0_8.since hs rfl).cell rfl) ((D0_8.since hs rfl).cell rfl) ((D0_8.since hs rfl).cell rfl)) rfl)
          · intro a wa hs hf hd
            have t4 := hf.off 4 (by kernel_rfl) rfl
            exact plain_ rfl (yes_eqv (o_move rfl t4) rfl)
          · intro a wa hs hf hd
            have t21 : a.eval (.tmp 21) = _ := hd.at 1 21 (by kernel_rfl)
            exact plain_ rfl (yes_gives (refAtw_ (k : Int) _) rfl rfl Proofs.Try.func58 (by kernel_rfl) (by kernel_rfl) (by simp only [List.map_toArray, List.map_cons, List.map_nil, eval_const, t21]) rfl)
          · intro a wa hs hf hd
            have t5 := hf.off 5 (by kernel_rfl) rfl
            exact plain_ rfl (yes_eqv (o_move rfl t5) rfl)
          · intro a wa hs hf hd
            have t20 : a.eval (.tmp 20) = _ := hd.at 0 20 (by kernel_rfl)
            have t22 : a.eval (.tmp 22) = _ := hd.at 2 22 (by kernel_rfl)
            have t23 : a.eval (.tmp 23) = _ := hd.at 3 23 (by kernel_rfl)
            exact plain_ rfl (yes_gives (refStore_ (Bx N w.heap.size (w.heap.size + 2)) _ mk (linkAt (k : Int)) 0 _ (aM.keep (Since.to_ext hs).keep) hfk (Bx.le hN (by have := (Since.to_ext hs).size; omega))) rfl rfl Proofs.Try.func69 (by kernel_rfl) (by kernel_rfl) (by simp only [List.map_toArray, List.map_cons, List.map_nil, t20, t22, t23]) rfl)
          · intro a wb wa hs1 hs hf hd hrun
            have t1 := hf.off 1 (by kernel_rfl) rfl
            have t24 := hd.at 4 24 (by kernel_rfl)
            subst hrun
            have q18 : IsMem (Bx N w.heap.size (w.heap.size + 2)) _ (a.eval (.tmp 24)) (storeD mk (linkAt (k : Int)) 0) := t24
            obtain ⟨u1, u2, u3, u4, hv, _⟩ := q18.opened
            exact ⟨_, o_store rfl t1 hv ((D0_8.since hs1 rfl)) (by kernel_rfl) (by simp [Value.cells, Value.oneCell']) (by first | (simp [Value.cells]; done) | (simp [Value.cells]; omega)) rfl, Since.put hs (.inr (by simp))⟩
        case hG => exact ⟨stable_eqv _, stable_eqv _, stable_eqv _, stable_eqv _, stable_isMemN _ _, stable_any, trivial⟩
        case hc => kernel_rfl
        case hfin =>
          intro v8 hs8
          rintro _ rfl _ rfl _ rfl _ rfl r11 hr11
          obtain ⟨u1, u2, u3, u4, rfl, mw0, mg0⟩ := IsMem.opened hr11
          rintro v8w ⟨o1, v1, ho1, hr1, rfl⟩
          cases ho1
          simp only [Act.put, List.setIfInBounds_toArray, List.set_cons_zero, List.set_cons_succ] at hr1 ⊢
          cases (hr1.symm.trans (o_store (v := .agg #[.slice u1 (storeD mk (linkAt (k : Int)) 0).W.length u2, .slice u3 (storeD mk (linkAt (k : Int)) 0).G.length u4, .bool (storeD mk (linkAt (k : Int)) 0).bad]) (new := #[.slice u1 (storeD mk (linkAt (k : Int)) 0).W.length u2, .slice u3 (storeD mk (linkAt (k : Int)) 0).G.length u4, .bool (storeD mk (linkAt (k : Int)) 0).bad]) rfl rfl rfl ((D0_8.since hs8 rfl)) (by kernel_rfl) (by simp [Value.cells, Value.oneCell']) (by first | (simp [Value.cells]; done) | (simp [Value.cells]; omega)) (by first | rfl | kernel_rfl)))
          obtain ⟨w6, hw6⟩ : ∃ x, x = (put v8 w.heap.size (.cells #[.slice u1 (storeD mk (linkAt (k : Int)) 0).W.length u2, .slice u3 (storeD mk (linkAt (k : Int)) 0).G.length u4, .bool (storeD mk (linkAt (k : Int)) 0).bad] 50 (0, 0))) := ⟨_, rfl⟩
          have hW6 : Ext w5 v8 := Since.to_ext hs8
          have hb6 : Ext w w6 := by rw [hw6]; exact Since.to_ext ((Since.of_ext (hX8.trans hW6)).put (.inl (by have := hX8.size; omega)))
          have hk6 : Keep (Bx N w.heap.size (w.heap.size + 2)) w5 w6 := by rw [hw6]; exact ((hK8.ext hW6).put _ _ (.inr (Bx.mem (by omega) (by omega))))
          have hq6 : Keep (Bx N w.heap.size (w.heap.size + 2)) v8 w6 := by rw [hw6]; exact ((Keep.refl _ _).put _ _ (.inr (Bx.mem (by omega) (by omega))))
          have B0_6 : Box w6 (w.heap.size) #[.slice u1 (storeD mk (linkAt (k : Int)) 0).W.length u2, .slice u3 (storeD mk (linkAt (k : Int)) 0).G.length u4, .bool (storeD mk (linkAt (k : Int)) 0).bad] 50 := by rw [hw6]; exact (D0_8.since hs8 rfl).put
          have B1_6 : Box w6 (w.heap.size + 1) #[.slice none 0 0, .slice none 0 0, .bool false] 50 := by rw [hw6]; exact (box_putOther (D1_8.since hs8 rfl) (by omega))
          have s6 : w5.heap.size ≤ w6.heap.size := by rw [hw6]; have := hW6.size; simpa [put] using this
          rw [← hw6]
          clear hw6
          obtain ⟨c0_0, c0_1, c0_2, d0_0, d0_1, d0_2⟩ := cells3 B0_6
          have z0 : w.heap.size < w6.heap.size := B0_6.lt
          obtain ⟨c1_0, c1_1, c1_2, d1_0, d1_1, d1_2⟩ := cells3 B1_6
          have z1 : w.heap.size + 1 < w6.heap.size := B1_6.lt
          have mw := IsInts.keep mw0 hq6
          have mg := IsInts.keep mg0 hq6
          clear hq6
          go_wp2
          go_roundw
          case rel => exact ⟨k + 1, by first | (simp; done) | (simp; omega), by omega, by omega, storeD mk (linkAt (k : Int)) 0, u1, u2, u3, u4, B0_6, B1_6, IsMem.mk rfl mw mg, exn, fits_store hfk, by rw [← hHG.out]; rfl, fill_step (by unfold nextOf; rw [if_pos hkn2]) hHF.out hlt⟩
          case measure => simp [intOf]; omega
      · have q2 : ((k : Int) == (n : Int)) = false := by simp; omega
        obtain ⟨c0_0, c0_1, c0_2, d0_0, d0_1, d0_2⟩ := cells3 hb0
        have z0 : w.heap.size < w5.heap.size := hb0.lt
        obtain ⟨c1_0, c1_1, c1_2, d1_0, d1_1, d1_2⟩ := cells3 hb1
        have z1 : w.heap.size + 1 < w5.heap.size := hb1.lt
        go_wp2_with (fail)
        have hX8 : Ext w w5 := exn
        have hK8 : Keep (Bx N w.heap.size (w.heap.size + 2)) w5 w5 := Keep.refl _ _
        have D0_8 := hb0
        have D1_8 := hb1
        have aM : IsMem (Bx N w.heap.size (w.heap.size + 2)) w5 (.agg #[.slice a1 mk.W.length e1, .slice a2 mk.G.length e2, .bool mk.bad]) mk := hmk
        clear c0_0 c0_1 c0_2 d0_0 d0_1 d0_2 z0 c1_0 c1_1 c1_2 d1_0 d1_1 d1_2 z1
        apply region_lit2 (T := [5]) (L := []) (X := [w.heap.size]) (G := [eqv _, eqv _, eqv _, eqv _, isMemN (Bx N w.heap.size (w.heap.size + 2)) (storeD mk (linkAt (k : Int)) ((k : Int) + 1)), anyG])
        case hm => kernel_rfl
        case hop =>
          refine ⟨?_, ?_, ?_, ?_, ?_, ?_, trivial⟩
          · intro a wa hs hf hd
            have t1 := hf.off 1 (by kernel_rfl) rfl
            exact plain_ rfl (yes_eqv (o_load3 rfl Proofs.Try.underlying50 rfl (by kernel_rfl) t1 ((D0_8.since hs rfl).cell rfl) ((D0_8.since hs rfl).cell rfl) ((D0_8.since hs rfl).cell rfl)) rfl)
          · intro a wa hs hf hd
            have t4 := hf.off 4 (by kernel_rfl) rfl
            exact plain_ rfl (yes_eqv (o_move rfl t4) rfl)
          · intro a wa hs hf hd
            have t21 : a.eval (.tmp 21) = _ := hd.at 1 21 (by kernel_rfl)
            exact plain_ rfl (yes_gives (refAtw_ (k : Int) _) rfl rfl Proofs.Try.func58 (by kernel_rfl) (by kernel_rfl) (by simp only [List.map_toArray, List.map_cons, List.map_nil, eval_const, t21]) rfl)
          · intro a wa hs hf hd
            have t5 := hf.off 5 (by kernel_rfl) rfl
            exact plain_ rfl (yes_eqv (o_move rfl t5) rfl)
          · intro a wa hs hf hd
            have t20 : a.eval (.tmp 20) = _ := hd.at 0 20 (by kernel_rfl)
            have t22 : a.eval (.tmp 22) = _ := hd.at 2 22 (by kernel_rfl)
            have t23 : a.eval (.tmp 23) = _ := hd.at 3 23 (by kernel_rfl)
            exact plain_ rfl (yes_gives (refStore_ (Bx N w.heap.size (w.heap.size + 2)) _ mk (linkAt (k : Int)) ((k : Int) + 1) _ (aM.keep (Since.to_ext hs).keep) hfk (Bx.le hN (by have := (Since.to_ext hs).size; omega))) rfl rfl Proofs.Try.func69 (by kernel_rfl) (by kernel_rfl) (by simp only [List.map_toArray, List.map_cons, List.map_nil, t20, t22, t23]) rfl)
          · intro a wb wa hs1 hs hf hd hrun
            have t1 := hf.off 1 (by kernel_rfl) rfl
            have t24 := hd.at 4 24 (by kernel_rfl)
            subst hrun
            have q18 : IsMem (Bx N w.heap.size (w.heap.size + 2)) _ (a.eval (.tmp 24)) (storeD mk (linkAt (k : Int)) ((k : Int) + 1)) := t24
            obtain ⟨u1, u2, u3, u4, hv, _⟩ := q18.opened
            exact ⟨_, o_store rfl t1 hv ((D0_8.since hs1 rfl)) (by kernel_rfl) (by simp [Value.cells, Value.oneCell']) (by first | (simp [Value.cells]; done) | (simp [Value.cells]; omega)) rfl, Since.put hs (.inr (by simp))⟩
        case hG => exact ⟨stable_eqv _, stable_eqv _, stable_eqv _, stable_eqv _, stable_isMemN _ _, stable_any, trivial⟩
        case hc => kernel_rfl
        case hfin =>
          intro v8 hs8
          rintro _ rfl _ rfl _ rfl _ rfl r11 hr11
          obtain ⟨u1, u2, u3, u4, rfl, mw0, mg0⟩ := IsMem.opened hr11
          rintro v8w ⟨o1, v1, ho1, hr1, rfl⟩
          cases ho1
          simp only [Act.put, List.setIfInBounds_toArray, List.set_cons_zero, List.set_cons_succ] at hr1 ⊢
          cases (hr1.symm.trans (o_store (v := .agg #[.slice u1 (storeD mk (linkAt (k : Int)) ((k : Int) + 1)).W.length u2, .slice u3 (storeD mk (linkAt (k : Int)) ((k : Int) + 1)).G.length u4, .bool (storeD mk (linkAt (k : Int)) ((k : Int) + 1)).bad]) (new := #[.slice u1 (storeD mk (linkAt (k : Int)) ((k : Int) + 1)).W.length u2, .slice u3 (storeD mk (linkAt (k : Int)) ((k : Int) + 1)).G.length u4, .bool (storeD mk (linkAt (k : Int)) ((k : Int) + 1)).bad]) rfl rfl rfl ((D0_8.since hs8 rfl)) (by kernel_rfl) (by simp [Value.cells, Value.oneCell']) (by first | (simp [Value.cells]; done) | (simp [Value.cells]; omega)) (by first | rfl | kernel_rfl)))
          obtain ⟨w6, hw6⟩ : ∃ x, x = (put v8 w.heap.size (.cells #[.slice u1 (storeD mk (linkAt (k : Int)) ((k : Int) + 1)).W.length u2, .slice u3 (storeD mk (linkAt (k : Int)) ((k : Int) + 1)).G.length u4, .bool (storeD mk (linkAt (k : Int)) ((k : Int) + 1)).bad] 50 (0, 0))) := ⟨_, rfl⟩
          have hW6 : Ext w5 v8 := Since.to_ext hs8
          have hb6 : Ext w w6 := by rw [hw6]; exact Since.to_ext ((Since.of_ext (hX8.trans hW6)).put (.inl (by have := hX8.size; omega)))
          have hk6 : Keep (Bx N w.heap.size (w.heap.size + 2)) w5 w6 := by rw [hw6]; exact ((hK8.ext hW6).put _ _ (.inr (Bx.mem (by omega) (by omega))))
          have hq6 : Keep (Bx N w.heap.size (w.heap.size + 2)) v8 w6 := by rw [hw6]; exact ((Keep.refl _ _).put _ _ (.inr (Bx.mem (by omega) (by omega))))
          have B0_6 : Box w6 (w.heap.size) #[.slice u1 (storeD mk (linkAt (k : Int)) ((k : Int) + 1)).W.length u2, .slice u3 (storeD mk (linkAt (k : Int)) ((k : Int) + 1)).G.length u4, .bool (storeD mk (linkAt (k : Int)) ((k : Int) + 1)).bad] 50 := by rw [hw6]; exact (D0_8.since hs8 rfl).put
          have B1_6 : Box w6 (w.heap.size + 1) #[.slice none 0 0, .slice none 0 0, .bool false] 50 := by rw [hw6]; exact (box_putOther (D1_8.since hs8 rfl) (by omega))
          have s6 : w5.heap.size ≤ w6.heap.size := by rw [hw6]; have := hW6.size; simpa [put] using this
          rw [← hw6]
          clear hw6
          obtain ⟨c0_0, c0_1, c0_2, d0_0, d0_1, d0_2⟩ := cells3 B0_6
          have z0 : w.heap.size < w6.heap.size := B0_6.lt
          obtain ⟨c1_0, c1_1, c1_2, d1_0, d1_1, d1_2⟩ := cells3 B1_6
          have z1 : w.heap.size + 1 < w6.heap.size := B1_6.lt
          have mw := IsInts.keep mw0 hq6
          have mg := IsInts.keep mg0 hq6
          clear hq6
          go_wp2
          go_roundw
          case rel => exact ⟨k + 1, by first | (simp; done) | (simp; omega), by omega, by omega, storeD mk (linkAt (k : Int)) ((k : Int) + 1), u1, u2, u3, u4, B0_6, B1_6, IsMem.mk rfl mw mg, exn, fits_store hfk, by rw [← hHG.out]; rfl, fill_step (by unfold nextOf; rw [if_neg hkn2]) hHF.out hlt⟩
          case measure => simp [intOf]; omega
    · obtain rfl : k = n + 1 := by omega
      have q1 : ¬ ((n + 1 : Nat) : Int) ≤ (n : Int) := by omega
      obtain ⟨c0_0, c0_1, c0_2, d0_0, d0_1, d0_2⟩ := cells3 hb0
      have z0 : w.heap.size < w5.heap.size := hb0.lt
      obtain ⟨c1_0, c1_1, c1_2, d1_0, d1_1, d1_2⟩ := cells3 hb1
      have z1 : w.heap.size + 1 < w5.heap.size := hb1.lt
      go_wp2_with (fail)
      go_at_call 69
      refine (refStore_ (Bx N w.heap.size (w.heap.size + 2)) _ mk 0 2 _ (hmk.keep keq) hfk (Bx.le hN (by first | omega | (simp <;> omega)))).calls.mono ?_
      rintro e w6 ⟨_, rfl, hb6, hu6⟩
      obtain ⟨u1, u2, u3, u4, rfl, uw, ug⟩ := hu6.opened
      have B0_6 : Box w6 (w.heap.size) #[.slice a1 mk.W.length e1, .slice a2 mk.G.length e2, .bool mk.bad] 50 := hb0.ext hb6
      have B1_6 : Box w6 (w.heap.size + 1) #[.slice none 0 0, .slice none 0 0, .bool false] 50 := hb1.ext hb6
      clear c0_0 c0_1 c0_2 d0_0 d0_1 d0_2 z0 c1_0 c1_1 c1_2 d1_0 d1_1 d1_2 z1
      have s6 : w5.heap.size ≤ w6.heap.size := (by have h := hb6.size; first | omega | (simp at h; omega))
      obtain ⟨c0_0, c0_1, c0_2, d0_0, d0_1, d0_2⟩ := cells3 B0_6
      have z0 : w.heap.size < w6.heap.size := B0_6.lt
      obtain ⟨c1_0, c1_1, c1_2, d1_0, d1_1, d1_2⟩ := cells3 B1_6
      have z1 : w.heap.size + 1 < w6.heap.size := B1_6.lt
      have hfd : fillD m = storeD mk 0 2 := (by have := hHF.out; unfold fillD; rw [hG]; show storeD (fillL n n 1 m) 0 2 = _; rw [← this, Nat.sub_self]; rfl)
      go_wp2
      exact bodyPost_ret (ret_cell (cs := #[.slice u1 (storeD mk 0 2).W.length u2, .slice u3 (storeD mk 0 2).G.length u4, .bool (storeD mk 0 2).bad]) (((B1_6.setCell _).setCell _).setCell _) Proofs.Try.results110 rfl Proofs.Try.underlying50 rfl (by kernel_rfl)) rfl ⟨_, rfl, exn, (by rw [hfd]; exact IsMem.less (IsMem.keep hu6 keq) (fun _ _ hn => .inl hn))⟩
end Go.Proofs.Ytcfbdfgondmkoaa
/- A new system, all nodes in the list. -/
namespace Go.Proofs.Ytcfbdfgondmkoaa
open Go Go.RowKit
set_option linter.unusedSimpArgs false
set_option linter.unusedVariables false
set_option linter.unnecessarySimpa false

set_option maxHeartbeats 1000000 in
set_option maxRecDepth 100000 in
theorem refNew4_ (N : Nat → Prop) (c n : Int) (w : World) (hN : ∀ b, N b → b < w.heap.size) (hi : newIs c n = true) : Gives Proofs.Try.prog 115 #[.int .i64 c, .int .i64 n] w (fun r w' => IsSys N w' r (new4 c n)) := by
  have hE : newSE c n = 0 := by simp [newSE, hi]
  have hM : (newS c n).M = newD n := by simp [newS, hi]
  have hd : new4 c n = memS (newS c n) (fillD (newS c n).M) := by unfold new4; rw [if_pos hE, hM]
  rw [hd]
  have hfit : Fits (newS c n).M := by
    rw [hM]
    have h1 : 1 ≤ n ∧ n ≤ 200 := by simp [newIs] at hi; omega
    unfold newD Fits
    rw [if_pos h1]
    simp; omega
  have kn0 := fun (w' : World) (e : Ext w w') => refNewS_ (Bx N w.heap.size (w.heap.size + 1)) c n w'
  have kn : ∀ w' : World, w.heap.size + 1 ≤ w'.heap.size → Gives Proofs.Try.prog 76 #[.int .i64 c, .int .i64 n] w' (fun r w' => ∃ u, r = .tuple #[u, .int .i64 0] ∧ IsSys (Bx N w.heap.size (w.heap.size + 1)) w' u (newS c n)) := fun w' h => by
    have := refNewS_ (Bx N w.heap.size (w.heap.size + 1)) c n w' (Bx.le hN h)
    rw [hE] at this; exact this
  clear kn0 hE hM hd hi
  obtain ⟨s0, hs0⟩ : ∃ s, newS c n = s := ⟨_, rfl⟩
  rw [hs0] at kn hfit ⊢
  clear hs0
  go_enter Proofs.Try.func115, Proofs.Try.ntmps115
  go_wp2_with (fail)
  go_at_call 76
  refine (kn _ (by first | omega | (simp <;> omega))).calls.mono ?_
  rintro e w1 ⟨_, rfl, hb1, u, rfl, hu1⟩
  obtain ⟨r1, r2, r3, r4, r5, r6, r7, r8, rfl, rW, rG, rC, rL⟩ := hu1.opened
  have B0_1 : Box w1 (w.heap.size) #[.slice none 0 0, .slice none 0 0, .bool false, .slice none 0 0, .slice none 0 0] 83 := (Box.newAt _ _ _ (by first | rfl | simp)).ext hb1
  have s1 : w.heap.size + 1 ≤ w1.heap.size := (by have h := hb1.size; first | omega | (simp at h; omega))
  obtain ⟨c0_0, c0_1, c0_2, c0_3, c0_4, d0_0, d0_1, d0_2, d0_3, d0_4⟩ := cells5 B0_1
  have z0 : w.heap.size < w1.heap.size := B0_1.lt
  go_wp2_with (fail)
  obtain ⟨W4, hW⟩ : ∃ W, W = (w1.alloc (.cells #[.slice r1 s0.M.W.length r2, .slice r3 s0.M.G.length r4, .bool s0.M.bad, .slice r5 s0.C.length r6, .slice r7 s0.L.length r8] 83 (0, 0))) := ⟨_, rfl⟩
  have hX4 : Ext w W4 := by rw [hW]; exact exn
  have hK4 : Keep (Bx N w.heap.size (w.heap.size + 1)) w1 W4 := by rw [hW]; exact keq
  have D0_4 : Box (w1.alloc (.cells #[.slice r1 s0.M.W.length r2, .slice r3 s0.M.G.length r4, .bool s0.M.bad, .slice r5 s0.C.length r6, .slice r7 s0.L.length r8] 83 (0, 0))) (w.heap.size) #[.slice none 0 0, .slice none 0 0, .bool false, .slice none 0 0, .slice none 0 0] 83 := (B0_1.alloc _)
  rw [← hW] at D0_4
  have D1_4 : Box (w1.alloc (.cells #[.slice r1 s0.M.W.length r2, .slice r3 s0.M.G.length r4, .bool s0.M.bad, .slice r5 s0.C.length r6, .slice r7 s0.L.length r8] 83 (0, 0))) (w1.heap.size) #[.slice r1 s0.M.W.length r2, .slice r3 s0.M.G.length r4, .bool s0.M.bad, .slice r5 s0.C.length r6, .slice r7 s0.L.length r8] 83 := (Box.newAt _ _ _ (by first | rfl | simp))
  rw [← hW] at D1_4
  have y4 : w1.heap.size + 1 ≤ W4.heap.size := by rw [hW]; simp
  rw [← hW]
  clear hW
  have aS : IsSys (Bx N w.heap.size (w.heap.size + 1)) W4 (.agg #[.slice r1 s0.M.W.length r2, .slice r3 s0.M.G.length r4, .bool s0.M.bad, .slice r5 s0.C.length r6, .slice r7 s0.L.length r8]) s0 := (IsSys.mk rfl rW rG rC rL : IsSys (Bx N w.heap.size (w.heap.size + 1)) w1 _ s0).keep hK4
  have aM : IsMem (Bx N w.heap.size (w.heap.size + 1)) W4 (.agg #[.slice r1 s0.M.W.length r2, .slice r3 s0.M.G.length r4, .bool s0.M.bad]) s0.M := (IsMem.mk rfl rW rG : IsMem (Bx N w.heap.size (w.heap.size + 1)) w1 _ s0.M).keep hK4
  clear c0_0 c0_1 c0_2 c0_3 c0_4 d0_0 d0_1 d0_2 d0_3 d0_4 z0
  apply region_lit2 (T := [5]) (L := []) (X := [w.heap.size]) (G := [eqv _, eqv _, eqv _, isMemN (Bx N w.heap.size (w.heap.size + 1)) (fillD s0.M), isSysN (Bx N w.heap.size (w.heap.size + 1)) (memS s0 (fillD s0.M)), anyG])
  case hm => kernel_rfl
  case hop =>
    refine ⟨?_, ?_, ?_, ?_, ?_, ?_, trivial⟩
    · intro a wa hs hf hd
      have t5 := hf.off 5 (by kernel_rfl) rfl
      exact plain_ rfl (yes_eqv (o_load5 rfl Proofs.Try.underlying83 rfl (by kernel_rfl) t5 ((D1_4.since hs rfl).cell rfl) ((D1_4.since hs rfl).cell rfl) ((D1_4.since hs rfl).cell rfl) ((D1_4.since hs rfl).cell rfl) ((D1_4.since hs rfl).cell rfl)) rfl)
    · intro a wa hs hf hd
      have t5 := hf.off 5 (by kernel_rfl) rfl
      exact plain_ rfl (yes_eqv (o_fieldAddr rfl Proofs.Try.underlying83 rfl rfl (by kernel_rfl) t5) rfl)
    · intro a wa hs hf hd
      have t17 : a.eval (.tmp 17) = _ := hd.at 1 17 (by kernel_rfl)
      exact plain_ rfl (yes_eqv (o_load3 rfl Proofs.Try.underlying50 rfl (by kernel_rfl) t17 ((D1_4.since hs rfl).cell rfl) ((D1_4.since hs rfl).cell rfl) ((D1_4.since hs rfl).cell rfl)) rfl)
    · intro a wa hs hf hd
      have t18 : a.eval (.tmp 18) = _ := hd.at 2 18 (by kernel_rfl)
      exact plain_ rfl (yes_gives (refFill_ (Bx N w.heap.size (w.heap.size + 1)) _ s0.M _ (aM.keep (Since.to_ext hs).keep) (Bx.le hN (by have := (Since.to_ext hs).size; have := hX4.size; omega)) hfit) rfl rfl Proofs.Try.func110 (by kernel_rfl) (by kernel_rfl) (by simp only [List.map_toArray, List.map_cons, List.map_nil, t18]) rfl)
    · intro a wa hs hf hd
      have t16 : a.eval (.tmp 16) = _ := hd.at 0 16 (by kernel_rfl)
      have t19 := hd.at 3 19 (by kernel_rfl)
      exact plain_ rfl (yes_gives (refMem_ _ _ _ s0 (fillD s0.M) _ (aS.ext (Since.to_ext hs)) t19) rfl rfl Proofs.Try.func103 (by kernel_rfl) (by kernel_rfl) (by simp only [List.map_toArray, List.map_cons, List.map_nil, t16, t19]) rfl)
    · intro a wb wa hs1 hs hf hd hrun
      have t4 := hf.off 4 (by kernel_rfl) rfl
      have t20 := hd.at 4 20 (by kernel_rfl)
      subst hrun
      have q18 : IsSys (Bx N w.heap.size (w.heap.size + 1)) _ (a.eval (.tmp 20)) (memS s0 (fillD s0.M)) := t20
      obtain ⟨g1, g2, g3, g4, g5, g6, g7, g8, hv, _⟩ := q18.opened
      exact ⟨_, o_store rfl t4 hv ((D0_4.since hs1 rfl)) (by kernel_rfl) (by simp [Value.cells, Value.oneCell']) (by first | (simp [Value.cells]; done) | (simp [Value.cells]; omega)) rfl, Since.put hs (.inr (by simp))⟩
  case hG => exact ⟨stable_eqv _, stable_eqv _, stable_eqv _, stable_isMemN _ _, stable_isSysN _ _, stable_any, trivial⟩
  case hc => kernel_rfl
  case hfin =>
    intro v4 hs4
    rintro _ rfl _ rfl _ rfl j3 hj3 j4 hj4
    obtain ⟨g1, g2, g3, g4, g5, g6, g7, g8, rfl, gW, gG, gC, gL⟩ := IsSys.opened hj4
    rintro v4w ⟨o1, v1, ho1, hr1, rfl⟩
    cases ho1
    simp only [Act.put, List.setIfInBounds_toArray, List.set_cons_zero, List.set_cons_succ] at hr1 ⊢
    cases (hr1.symm.trans (o_store (v := .agg #[.slice g1 (memS s0 (fillD s0.M)).M.W.length g2, .slice g3 (memS s0 (fillD s0.M)).M.G.length g4, .bool (memS s0 (fillD s0.M)).M.bad, .slice g5 (memS s0 (fillD s0.M)).C.length g6, .slice g7 (memS s0 (fillD s0.M)).L.length g8]) (new := #[.slice g1 (memS s0 (fillD s0.M)).M.W.length g2, .slice g3 (memS s0 (fillD s0.M)).M.G.length g4, .bool (memS s0 (fillD s0.M)).M.bad, .slice g5 (memS s0 (fillD s0.M)).C.length g6, .slice g7 (memS s0 (fillD s0.M)).L.length g8]) rfl rfl rfl ((D0_4.since hs4 rfl)) (by kernel_rfl) (by simp [Value.cells, Value.oneCell']) (by first | (simp [Value.cells]; done) | (simp [Value.cells]; omega)) (by first | rfl | kernel_rfl)))
    obtain ⟨w2, hw2⟩ : ∃ x, x = (put v4 w.heap.size (.cells #[.slice g1 (memS s0 (fillD s0.M)).M.W.length g2, .slice g3 (memS s0 (fillD s0.M)).M.G.length g4, .bool (memS s0 (fillD s0.M)).M.bad, .slice g5 (memS s0 (fillD s0.M)).C.length g6, .slice g7 (memS s0 (fillD s0.M)).L.length g8] 83 (0, 0))) := ⟨_, rfl⟩
    have hW2 : Ext W4 v4 := Since.to_ext hs4
    have hb2 : Ext w w2 := by rw [hw2]; exact Since.to_ext ((Since.of_ext (hX4.trans hW2)).put (.inl (by have := hX4.size; omega)))
    have hk2 : Keep (Bx N w.heap.size (w.heap.size + 1)) w1 w2 := by rw [hw2]; exact ((hK4.ext hW2).put _ _ (.inr (Bx.mem (by omega) (by omega))))
    have hq2 : Keep (Bx N w.heap.size (w.heap.size + 1)) v4 w2 := by rw [hw2]; exact ((Keep.refl _ _).put _ _ (.inr (Bx.mem (by omega) (by omega))))
    have B0_2 : Box w2 (w.heap.size) #[.slice g1 (memS s0 (fillD s0.M)).M.W.length g2, .slice g3 (memS s0 (fillD s0.M)).M.G.length g4, .bool (memS s0 (fillD s0.M)).M.bad, .slice g5 (memS s0 (fillD s0.M)).C.length g6, .slice g7 (memS s0 (fillD s0.M)).L.length g8] 83 := by rw [hw2]; exact (D0_4.since hs4 rfl).put
    have B1_2 : Box w2 (w1.heap.size) #[.slice r1 s0.M.W.length r2, .slice r3 s0.M.G.length r4, .bool s0.M.bad, .slice r5 s0.C.length r6, .slice r7 s0.L.length r8] 83 := by rw [hw2]; exact (box_putOther (D1_4.since hs4 rfl) (by omega))
    have s2 : W4.heap.size ≤ w2.heap.size := by rw [hw2]; have := hW2.size; simpa [put] using this
    rw [← hw2]
    clear hw2
    obtain ⟨c0_0, c0_1, c0_2, c0_3, c0_4, d0_0, d0_1, d0_2, d0_3, d0_4⟩ := cells5 B0_2
    have z0 : w.heap.size < w2.heap.size := B0_2.lt
    obtain ⟨c1_0, c1_1, c1_2, c1_3, c1_4, d1_0, d1_1, d1_2, d1_3, d1_4⟩ := cells5 B1_2
    have z1 : w1.heap.size < w2.heap.size := B1_2.lt
    have hu2 : IsSys (Bx N w.heap.size (w.heap.size + 1)) w2 (.agg #[.slice g1 (memS s0 (fillD s0.M)).M.W.length g2, .slice g3 (memS s0 (fillD s0.M)).M.G.length g4, .bool (memS s0 (fillD s0.M)).M.bad, .slice g5 (memS s0 (fillD s0.M)).C.length g6, .slice g7 (memS s0 (fillD s0.M)).L.length g8]) (memS s0 (fillD s0.M)) := IsSys.keep (IsSys.mk rfl gW gG gC gL : IsSys (Bx N w.heap.size (w.heap.size + 1)) v4 _ (memS s0 (fillD s0.M))) hq2
    clear hq2
    go_wp2
    exact bodyPost_ret (ret_cell (cs := #[.slice g1 (memS s0 (fillD s0.M)).M.W.length g2, .slice g3 (memS s0 (fillD s0.M)).M.G.length g4, .bool (memS s0 (fillD s0.M)).M.bad, .slice g5 (memS s0 (fillD s0.M)).C.length g6, .slice g7 (memS s0 (fillD s0.M)).L.length g8]) B0_2 Proofs.Try.results115 rfl Proofs.Try.underlying83 rfl (by kernel_rfl)) rfl ⟨_, rfl, exn, IsSys.less (IsSys.keep hu2 keq) (fun _ _ hn => .inl hn)⟩
end Go.Proofs.Ytcfbdfgondmkoaa
/- Chapter 5: the document's example. -/
namespace Go.Proofs.Ytcfbdfgondmkoaa
open Go Go.RowKit
set_option linter.unusedSimpArgs false
set_option linter.unusedVariables false
set_option linter.unnecessarySimpa false

theorem IsSys.lit5 {N : Nat → Prop} {w : World} {v : Value} {s : SysD} (h : IsSys N w v s) {a b n m : Nat} {d : Bool} (h1 : s.M.W.length = a) (h2 : s.M.G.length = b) (h3 : s.M.bad = d) (h4 : s.C.length = n) (h5 : s.L.length = m) :
    ∃ aw cw ag cg ac cc al cl, v = .agg #[.slice aw a cw, .slice ag b cg, .bool d, .slice ac n cc, .slice al m cl] ∧ IsInts N w (.slice aw a cw) s.M.W ∧ IsInts N w (.slice ag b cg) s.M.G ∧ IsCores N w (.slice ac n cc) s.C ∧ IsEvs N w (.slice al m cl) s.L := by
  subst h1 h2 h3 h4 h5
  exact h.opened
def fits5 (m : Arena) : Bool := decide (m.W.length = 128 + 4 * (m.G.length - 1) ∧ 1 ≤ m.G.length ∧ m.G.length ≤ 201)
theorem fits5_iff {m : Arena} (h : fits5 m = true) : Fits m := by simpa [fits5, Fits] using h
def y5a : SysD := new4 3 4
def hz5 : Nat → SysD
  | 0 => callS y5a 2 3 [0, 1, 0]
  | k + 1 => step5 (hz5 k) 2
def okS5 (s : SysD) : Bool := decide (s.C.length ≤ 100) && (s.C.all (fun c => decide (c.F.length ≤ 100)) && (fits5 s.M && (match topD s 2 with | some f => decide (-9223372036854775808 ≤ gi f.R 0 ∧ gi f.R 0 ≤ 9223372036854775807) | none => true)))
theorem okS5_iff {s : SysD} (h : okS5 s = true) : s.C.length ≤ 100 ∧ (∀ (i : Nat) c, s.C[i]? = some c → c.F.length ≤ 100000) ∧ Fits s.M ∧ ∀ f, topD s 2 = some f → f.op = 3 → -9223372036854775808 ≤ gi f.R 0 ∧ gi f.R 0 ≤ 9223372036854775807 := by
  simp only [okS5, Bool.and_eq_true, decide_eq_true_eq] at h
  obtain ⟨h1, h2, h3, h4⟩ := h
  refine ⟨h1, fun i c hi => ?_, fits5_iff h3, fun f hf _ => ?_⟩
  · have := List.all_eq_true.1 h2 c (List.mem_of_getElem? hi)
    simp at this; omega
  · rw [hf] at h4
    simpa using h4
theorem hz5_ok {k : Nat} (h : k < 3) : (hz5 k).C.length ≤ 100 ∧ (∀ (i : Nat) c, (hz5 k).C[i]? = some c → c.F.length ≤ 100000) ∧ Fits (hz5 k).M ∧ ∀ f, topD (hz5 k) 2 = some f → f.op = 3 → -9223372036854775808 ≤ gi f.R 0 ∧ gi f.R 0 ≤ 9223372036854775807 := by
  match k, h with
  | 0, _ => exact okS5_iff (by kernel_rfl)
  | 1, _ => exact okS5_iff (by kernel_rfl)
  | 2, _ => exact okS5_iff (by kernel_rfl)
def k5 : CoreD := ((hz5 3).C[2]?).getD core0
theorem hz53 : (hz5 3).C[2]? = some k5 := by kernel_rfl
def Sh5R (w wk : World) (b1 : Nat) (cs : Array Value) (k : Nat) (wr : World) : Prop :=
  k ≤ 3 ∧ ∃ v0 v1 v2 v3 v4, Box wr wk.heap.size #[v0, v1, v2, v3, v4] 83 ∧ IsSys (Bx no wk.heap.size (wk.heap.size + 1)) wr (.agg #[v0, v1, v2, v3, v4]) (hz5 k) ∧ Box wr b1 cs 83 ∧ Ext w wr
set_option maxHeartbeats 4000000 in
set_option maxRecDepth 100000 in
theorem shown5_ (w : World) : Gives Proofs.Try.prog 93 #[] w (eqv (.bool true)) := by
  go_enter Proofs.Try.func93, Proofs.Try.ntmps93
  go_wp2_with (fail)
  go_at_call 115
  refine (refNew4_ no 3 4 _ no_lt (by kernel_rfl)).calls.mono ?_
  rintro e w1 ⟨_, rfl, hb1, hs0⟩
  obtain ⟨y1, y2, y3, y4, y5, y6, y7, y8, rfl, yW, yG, yC, yL⟩ := hs0.lit5 (s := y5a) (a := 144) (b := 5) (d := false) (n := 3) (m := 0) (by kernel_rfl) (by kernel_rfl) (by kernel_rfl) (by kernel_rfl) (by kernel_rfl)
  have s1 : w.heap.size ≤ w1.heap.size := (by have h := hb1.size; first | omega | (simp at h; omega))
  go_wp2_with (fail)
  go_at_call 88
  refine (refCall_ no _ y5a 2 3 0 1 0 _ (IsSys.ext hs0 exq) no_lt (by rw [show y5a.C.length = 3 by kernel_rfl]; decide)).calls.mono ?_
  rintro e w2 ⟨_, rfl, hb2, hr2⟩
  rw [show callS y5a 2 3 [0, 1, 0] = hz5 0 from rfl] at hr2
  obtain ⟨r1, r2, r3, r4, r5, r6, r7, r8, rfl, _⟩ := hr2.opened
  have B0_2 : Box w2 (w1.heap.size) #[.slice y1 144 y2, .slice y3 5 y4, .bool false, .slice y5 3 y6, .slice y7 0 y8] 83 := (Box.newAt _ _ _ (by first | rfl | simp)).ext hb2
  have s2 : w1.heap.size + 1 ≤ w2.heap.size := (by have h := hb2.size; first | omega | (simp at h; omega))
  obtain ⟨c0_0, c0_1, c0_2, c0_3, c0_4, d0_0, d0_1, d0_2, d0_3, d0_4⟩ := cells5 B0_2
  have z0 : w1.heap.size < w2.heap.size := B0_2.lt
  go_wp2
  have hsA : w1.heap.size < w2.heap.size := B0_2.lt
  go_loopw [3] (fun i wr => ∃ k : Nat, i = .int .i64 k ∧ Sh5R w w2 (w1.heap.size) #[.slice y1 144 y2, .slice y3 5 y4, .bool false, .slice y5 3 y6, .slice y7 0 y8] k wr) (fun i _ => 3 - (intOf i).toNat)
  case atStart => exact ⟨0, rfl, by omega, _, _, _, _, _, (Box.newAt _ _ _ (by first | rfl | simp)), (IsSys.bxn hr2).ext exq, (B0_2.alloc _), exq⟩
  case round =>
    obtain ⟨k, rfl, hk3, v0, v1, v2, v3, v4, hbx, hsys, hb1, hWx⟩ := hrel
    obtain ⟨w9, rfl⟩ : ∃ w9 : World, w9 = wr := ⟨_, rfl⟩
    have s9 : w2.heap.size < w9.heap.size := hbx.lt
    by_cases hlt : k < 3
    · have q1 : (k : Int) < 3 := by omega
      obtain ⟨cT_0, cT_1, cT_2, cT_3, cT_4, dT_0, dT_1, dT_2, dT_3, dT_4⟩ := cells5 hbx
      have zT : w2.heap.size < w9.heap.size := hbx.lt
      obtain ⟨cY_0, cY_1, cY_2, cY_3, cY_4, dY_0, dY_1, dY_2, dY_3, dY_4⟩ := cells5 hb1
      have zY : w1.heap.size < w9.heap.size := hb1.lt
      go_wp2_with (fail)
      go_at_call 101
      refine (step5_ (Bx no w2.heap.size (w2.heap.size + 1)) _ (hz5 k) 2 _ (hsys.ext exq) (fun b hb => (by have := hb.elim False.elim (fun q => q.2); omega)) (hz5_ok hlt).1 (hz5_ok hlt).2.1 (hz5_ok hlt).2.2.1 (hz5_ok hlt).2.2.2).calls.mono ?_
      rintro e w10 ⟨_, rfl, hb10, hr10⟩
      obtain ⟨r1, r2, r3, r4, r5, r6, r7, r8, rfl, _⟩ := hr10.opened
      have BT_10 : Box w10 (w2.heap.size) #[v0, v1, v2, v3, v4] 83 := hbx.ext hb10
      have BY_10 : Box w10 (w1.heap.size) #[.slice y1 144 y2, .slice y3 5 y4, .bool false, .slice y5 3 y6, .slice y7 0 y8] 83 := hb1.ext hb10
      clear cT_0 cT_1 cT_2 cT_3 cT_4 dT_0 dT_1 dT_2 dT_3 dT_4 zT cY_0 cY_1 cY_2 cY_3 cY_4 dY_0 dY_1 dY_2 dY_3 dY_4 zY
      have s10 : w9.heap.size ≤ w10.heap.size := (by have h := hb10.size; first | omega | (simp at h; omega))
      obtain ⟨cT_0, cT_1, cT_2, cT_3, cT_4, dT_0, dT_1, dT_2, dT_3, dT_4⟩ := cells5 BT_10
      have zT : w2.heap.size < w10.heap.size := BT_10.lt
      obtain ⟨cY_0, cY_1, cY_2, cY_3, cY_4, dY_0, dY_1, dY_2, dY_3, dY_4⟩ := cells5 BY_10
      have zY : w1.heap.size < w10.heap.size := BY_10.lt
      go_wp2
      go_roundw
      case rel => exact ⟨k + 1, by simp, by omega, _, _, _, _, _, (((((BT_10.setCell _).setCell _).setCell _).setCell _).setCell _), IsSys.keep hr10 keq, (((((BY_10.setOther (by first | omega | (simp <;> omega)) _).setOther (by first | omega | (simp <;> omega)) _).setOther (by first | omega | (simp <;> omega)) _).setOther (by first | omega | (simp <;> omega)) _).setOther (by first | omega | (simp <;> omega)) _), exn⟩
      case measure => simp [intOf]; omega
    · obtain rfl : k = 3 := by omega
      have q1 : ¬ ((3 : Nat) : Int) < 3 := by decide
      obtain ⟨z1, z2, z3, z4, z5, z6, z7, z8, hze, zW, zG, zC, zL⟩ := hsys.lit5 (a := 144) (b := 5) (d := false) (n := 3) (m := 0) (by kernel_rfl) (by kernel_rfl) (by kernel_rfl) (by kernel_rfl) (by kernel_rfl)
      obtain ⟨rfl, rfl, rfl, rfl, rfl⟩ : v0 = .slice z1 144 z2 ∧ v1 = .slice z3 5 z4 ∧ v2 = .bool false ∧ v3 = .slice z5 3 z6 ∧ v4 = .slice z7 0 z8 := by simpa using hze
      clear hze
      obtain ⟨bb, ob, af, cf, ar, cr, rfl, zx, zn, _, _, _, e0, e1, _⟩ := IsCores.at zC (i := 2) (c := k5) hz53
      rw [show k5.F.length = 0 by kernel_rfl] at e0
      rw [show k5.V = 2 by kernel_rfl] at e1
      obtain ⟨bw, ow, rfl, xw, _, ew⟩ := zW.row (by rw [show (hz5 3).M.W.length = 144 by kernel_rfl]; decide)
      have e15 := ew 15 (by rw [show (hz5 3).M.W.length = 144 by kernel_rfl]; decide)
      rw [show gi (hz5 3).M.W 15 = 1 by kernel_rfl] at e15
      clear ew
      have hnm := fun w' (e : Ext w9 w') => named_ _ (hz5 3) w' ((hsys.less (fun _ _ h => h.elim)).ext e) (by rw [show (hz5 3).M.G.length = 5 by kernel_rfl]; decide) (by rw [show (hz5 3).M.W.length = 144 by kernel_rfl, show (hz5 3).C.length = 3 by kernel_rfl]; decide) (by rw [show (hz5 3).C.length = 3 by kernel_rfl]; decide)
      rw [show (hz5 3).M.G.length = 5 by kernel_rfl, show flA 5 (((hz5 3).M.W.drop 8).take (3 * (hz5 3).C.length)) = #[.bool false, .bool true, .bool false, .bool false, .bool false] by kernel_rfl] at hnm
      simp at e0 e1 e15
      obtain ⟨cT_0, cT_1, cT_2, cT_3, cT_4, dT_0, dT_1, dT_2, dT_3, dT_4⟩ := cells5 hbx
      have zT : w2.heap.size < w9.heap.size := hbx.lt
      obtain ⟨cY_0, cY_1, cY_2, cY_3, cY_4, dY_0, dY_1, dY_2, dY_3, dY_4⟩ := cells5 hb1
      have zY : w1.heap.size < w9.heap.size := hb1.lt
      go_wp2_with (fail)
      go_at_call 99
      refine (hnm _ exq).calls.mono ?_
      rintro e w10 ⟨_, rfl, hb10, bn, rfl, hbn⟩
      have e0_10 := cell_ext e0 (show Ext w9 w10 from exq)
      have e1_10 := cell_ext e1 (show Ext w9 w10 from exq)
      have e15_10 := cell_ext e15 (show Ext w9 w10 from exq)
      obtain ⟨n0, n1, n2, n3, n4, m0, m1, m2, m3, m4⟩ := cells5 hbn
      have xn := hbn.lt
      have BT_10 : Box w10 (w2.heap.size) #[.slice (some ⟨bw, ow, none⟩) 144 z2, .slice z3 5 z4, .bool false, .slice (some ⟨bb, ob, none⟩) 3 z6, .slice z7 0 z8] 83 := hbx.ext hb10
      have BY_10 : Box w10 (w1.heap.size) #[.slice y1 144 y2, .slice y3 5 y4, .bool false, .slice y5 3 y6, .slice y7 0 y8] 83 := hb1.ext hb10
      clear cT_0 cT_1 cT_2 cT_3 cT_4 dT_0 dT_1 dT_2 dT_3 dT_4 zT cY_0 cY_1 cY_2 cY_3 cY_4 dY_0 dY_1 dY_2 dY_3 dY_4 zY
      have s10 : w9.heap.size ≤ w10.heap.size := (by have h := hb10.size; first | omega | (simp at h; omega))
      obtain ⟨cT_0, cT_1, cT_2, cT_3, cT_4, dT_0, dT_1, dT_2, dT_3, dT_4⟩ := cells5 BT_10
      have zT : w2.heap.size < w10.heap.size := BT_10.lt
      obtain ⟨cY_0, cY_1, cY_2, cY_3, cY_4, dY_0, dY_1, dY_2, dY_3, dY_4⟩ := cells5 BY_10
      have zY : w1.heap.size < w10.heap.size := BY_10.lt
      go_wp2_with (fail)
      go_at_call 94
      refine (place_ 2 1 _ (by decide) (by decide)).calls.mono ?_
      rintro e w11 ⟨_, rfl, hb11, rfl⟩
      rw [show placeD 2 1 = 15 by kernel_rfl]
      have e0_11 := cell_ext e0 (show Ext w9 w11 from exq)
      have e1_11 := cell_ext e1 (show Ext w9 w11 from exq)
      have e15_11 := cell_ext e15 (show Ext w9 w11 from exq)
      have hbn11 := hbn.ext (show Ext _ w11 from exq)
      obtain ⟨n0_11, n1_11, n2_11, n3_11, n4_11, _⟩ := cells5 hbn11
      have BT_11 : Box w11 (w2.heap.size) #[.slice (some ⟨bw, ow, none⟩) 144 z2, .slice z3 5 z4, .bool false, .slice (some ⟨bb, ob, none⟩) 3 z6, .slice z7 0 z8] 83 := BT_10.ext hb11
      have BY_11 : Box w11 (w1.heap.size) #[.slice y1 144 y2, .slice y3 5 y4, .bool false, .slice y5 3 y6, .slice y7 0 y8] 83 := BY_10.ext hb11
      clear cT_0 cT_1 cT_2 cT_3 cT_4 dT_0 dT_1 dT_2 dT_3 dT_4 zT cY_0 cY_1 cY_2 cY_3 cY_4 dY_0 dY_1 dY_2 dY_3 dY_4 zY
      have s11 : w10.heap.size ≤ w11.heap.size := (by have h := hb11.size; first | omega | (simp at h; omega))
      obtain ⟨cT_0, cT_1, cT_2, cT_3, cT_4, dT_0, dT_1, dT_2, dT_3, dT_4⟩ := cells5 BT_11
      have zT : w2.heap.size < w11.heap.size := BT_11.lt
      obtain ⟨cY_0, cY_1, cY_2, cY_3, cY_4, dY_0, dY_1, dY_2, dY_3, dY_4⟩ := cells5 BY_11
      have zY : w1.heap.size < w11.heap.size := BY_11.lt
      go_wp2_with (fail)
      go_at_call 96
      refine (own5_ 4 _).calls.mono ?_
      rintro e w12 ⟨_, rfl, hb12, rfl⟩
      rw [show own5 4 = true by rfl]
      have BT_12 : Box w12 (w2.heap.size) #[.slice (some ⟨bw, ow, none⟩) 144 z2, .slice z3 5 z4, .bool false, .slice (some ⟨bb, ob, none⟩) 3 z6, .slice z7 0 z8] 83 := BT_11.ext hb12
      have BY_12 : Box w12 (w1.heap.size) #[.slice y1 144 y2, .slice y3 5 y4, .bool false, .slice y5 3 y6, .slice y7 0 y8] 83 := BY_11.ext hb12
      clear cT_0 cT_1 cT_2 cT_3 cT_4 dT_0 dT_1 dT_2 dT_3 dT_4 zT cY_0 cY_1 cY_2 cY_3 cY_4 dY_0 dY_1 dY_2 dY_3 dY_4 zY
      have s12 : w11.heap.size ≤ w12.heap.size := (by have h := hb12.size; first | omega | (simp at h; omega))
      obtain ⟨cT_0, cT_1, cT_2, cT_3, cT_4, dT_0, dT_1, dT_2, dT_3, dT_4⟩ := cells5 BT_12
      have zT : w2.heap.size < w12.heap.size := BT_12.lt
      obtain ⟨cY_0, cY_1, cY_2, cY_3, cY_4, dY_0, dY_1, dY_2, dY_3, dY_4⟩ := cells5 BY_12
      have zY : w1.heap.size < w12.heap.size := BY_12.lt
      go_wp2_with (fail)
      go_at_call 96
      refine (own5_ 1 _).calls.mono ?_
      rintro e w13 ⟨_, rfl, hb13, rfl⟩
      rw [show own5 1 = false by rfl]
      have BT_13 : Box w13 (w2.heap.size) #[.slice (some ⟨bw, ow, none⟩) 144 z2, .slice z3 5 z4, .bool false, .slice (some ⟨bb, ob, none⟩) 3 z6, .slice z7 0 z8] 83 := BT_12.ext hb13
      have BY_13 : Box w13 (w1.heap.size) #[.slice y1 144 y2, .slice y3 5 y4, .bool false, .slice y5 3 y6, .slice y7 0 y8] 83 := BY_12.ext hb13
      clear cT_0 cT_1 cT_2 cT_3 cT_4 dT_0 dT_1 dT_2 dT_3 dT_4 zT cY_0 cY_1 cY_2 cY_3 cY_4 dY_0 dY_1 dY_2 dY_3 dY_4 zY
      have s13 : w12.heap.size ≤ w13.heap.size := (by have h := hb13.size; first | omega | (simp at h; omega))
      obtain ⟨cT_0, cT_1, cT_2, cT_3, cT_4, dT_0, dT_1, dT_2, dT_3, dT_4⟩ := cells5 BT_13
      have zT : w2.heap.size < w13.heap.size := BT_13.lt
      obtain ⟨cY_0, cY_1, cY_2, cY_3, cY_4, dY_0, dY_1, dY_2, dY_3, dY_4⟩ := cells5 BY_13
      have zY : w1.heap.size < w13.heap.size := BY_13.lt
      go_wp2
      go_ret
      exact ⟨_, rfl, exn, rfl⟩
end Go.Proofs.Ytcfbdfgondmkoaa
/- The slots' law, plain. -/
namespace Go.Proofs.Ytcfbdfgondmkoaa
open Go Go.RowKit
set_option linter.unusedSimpArgs false
set_option linter.unusedVariables false
set_option linter.unnecessarySimpa false
set_option linter.unusedVariables false

/-- a cell ahead of the nodes -/
theorem root_safe {x : Int} {m : Arena} (h0 : 0 ≤ x) (h1 : x < 128) (hW : 128 ≤ m.W.length) : outside m x = false ∧ badAt m x = m.bad := by
  have h2 : outside m x = false := by simp [outside]; omega
  have h3 : freeAt m x = false := by
    unfold freeAt
    rw [show nodeD m.W.length x = 0 by unfold nodeD; rw [if_pos (by omega)]]
    simp
  exact ⟨h2, by simp [badAt, h2, h3]⟩
theorem store_root {x v : Int} {m : Arena} (h0 : 0 ≤ x) (h1 : x < 128) (hW : 128 ≤ m.W.length) : storeD m x v = { m with W := m.W.set x.toNat v } := by
  unfold storeD
  rw [(root_safe h0 h1 hW).1, (root_safe h0 h1 hW).2]; rfl
theorem placeD_in {i k : Int} (h0 : 0 ≤ i) (h1 : i < 8) (h2 : 0 ≤ k) (h3 : k < 3) : placeD i k = 8 + 3 * i + k := wrapI_in (by omega) (by omega)
theorem lt_of_get {α : Type} {l : List α} {k : Nat} {x : α} (h : l[k]? = some x) : k < l.length := by
  rcases Nat.lt_or_ge k l.length with h' | h'
  · exact h'
  · rw [List.getElem?_eq_none h'] at h; cases h
theorem do_last {s : SysD} {k : Nat} {cc : CoreD} {f : FrameD} (h : s.C[k]? = some cc) (ht : topD s k = some f) (g : CoreD → CoreD) : doS s k g = { s with C := s.C.set k (g cc) } := by
  unfold doS
  rw [ht]
  simp [h, withS]
theorem dom_last {s : SysD} {k : Nat} {cc : CoreD} {f : FrameD} (h : s.C[k]? = some cc) (ht : topD s k = some f) (m : Arena) (g : CoreD → CoreD) : doS (memS s m) k g = { M := m, C := s.C.set k (g cc), L := s.L } :=
  do_last (s := memS s m) (cc := cc) h ht g
theorem set_self {α : Type} {l : List α} {k : Nat} {x : α} (h : l[k]? = some x) : l.set k x = l := by
  have hl := lt_of_get h
  apply List.ext_getElem?
  intro i
  rw [List.getElem?_set]
  by_cases hi : k = i
  · subst hi; rw [if_pos rfl, if_pos hl, h]
  · rw [if_neg hi]
theorem top_last {s : SysD} {k : Nat} {cc : CoreD} (h : s.C[k]? = some cc) : topD s k = cc.F[cc.F.length - 1]? := top_at h
theorem call_last {s : SysD} {k : Nat} {cc : CoreD} (h : s.C[k]? = some cc) (hf : cc.F.length < 40) (op : Int) (l : List Int) : callS s k op l = { s with C := s.C.set k { cc with F := cc.F ++ [newF op l] } } := by
  have hk := lt_of_get h
  unfold callS hasD
  rw [if_pos (by simp; omega)]
  simp [h, hf, withS, callC]

/-- a step of a core that clears its slots -/
theorem clear_step {s : SysD} {k : Nat} {cc : CoreD} {F : List FrameD} {f : FrameD} (h : s.C[k]? = some cc) (hF : cc.F = F ++ [f]) (hop : f.op = 4) (hk8 : k < 8) (hW : 128 ≤ s.M.W.length) :
    (f.pc = 0 ∨ f.pc = 1 → step5 s k = ⟨{ s.M with W := s.M.W.set (8 + 3 * k + f.pc.toNat) 0 }, s.C.set k { cc with F := F ++ [pcF f (f.pc + 1)] }, s.L⟩) ∧
    (f.pc = 2 → step5 s k = ⟨{ s.M with W := s.M.W.set (8 + 3 * k + 2) 0 }, s.C.set k { cc with F := F, V := 0, E := 0 }, s.L⟩) := by
  have ht : topD s k = some f := by rw [top_last h, hF]; simp
  have hst : ∀ j : Nat, j < 3 → f.pc = j → storeD s.M (placeD k f.pc) 0 = { s.M with W := s.M.W.set (8 + 3 * k + j) 0 } := fun j hj e => by
    rw [e, placeD_in (by omega) (by omega) (by omega) (by omega), store_root (by omega) (by omega) hW]
    rw [show (8 + 3 * (k : Int) + (j : Int)).toNat = 8 + 3 * k + j by omega]
  refine ⟨fun hp => ?_, fun hp => ?_⟩
  · have h1 := hst f.pc.toNat (by omega) (by omega)
    unfold step5
    rw [ht]
    simp only []
    rw [if_neg (by omega), if_pos (by omega)]
    unfold clearS
    rw [if_neg (by omega), h1]
    unfold onS setS
    rw [dom_last h ht]
    simp [setC, hF]
  · have h1 := hst 2 (by omega) hp
    unfold step5
    rw [ht]
    simp only []
    rw [if_neg (by omega), if_pos (by omega)]
    unfold clearS
    rw [if_pos hp, h1]
    unfold backS
    rw [dom_last h ht]
    simp [backC, hF]
def clear1 (s : SysD) (k : Nat) : SysD := step5 (callS s k 4 [0, 0, 0]) k
/-- a core's slots, cleared -/
theorem clears {s : SysD} {k : Nat} {cc : CoreD} (h : s.C[k]? = some cc) (hf : cc.F.length < 40) (hk8 : k < 8) (hW : 128 ≤ s.M.W.length) :
    step5 (callS s k 4 [0, 0, 0]) k = ⟨{ s.M with W := s.M.W.set (8 + 3 * k + 0) 0 }, s.C.set k { cc with F := cc.F ++ [pcF (newF 4 [0, 0, 0]) 1] }, s.L⟩ ∧
    step5 (step5 (callS s k 4 [0, 0, 0]) k) k = ⟨{ s.M with W := (s.M.W.set (8 + 3 * k + 0) 0).set (8 + 3 * k + 1) 0 }, s.C.set k { cc with F := cc.F ++ [pcF (newF 4 [0, 0, 0]) 2] }, s.L⟩ ∧
    step5 (step5 (step5 (callS s k 4 [0, 0, 0]) k) k) k = ⟨{ s.M with W := ((s.M.W.set (8 + 3 * k + 0) 0).set (8 + 3 * k + 1) 0).set (8 + 3 * k + 2) 0 }, s.C.set k { cc with V := 0, E := 0 }, s.L⟩ := by
  have hk := lt_of_get h
  have h0 : callS s k 4 [0, 0, 0] = { s with C := s.C.set k { cc with F := cc.F ++ [newF 4 [0, 0, 0]] } } := call_last h hf 4 [0, 0, 0]
  have e1 := (clear_step (s := { s with C := s.C.set k { cc with F := cc.F ++ [newF 4 [0, 0, 0]] } }) (k := k) (cc := { cc with F := cc.F ++ [newF 4 [0, 0, 0]] }) (F := cc.F) (f := newF 4 [0, 0, 0]) (by simp [hk]) rfl rfl hk8 hW).1 (.inl rfl)
  have e1' : step5 (callS s k 4 [0, 0, 0]) k = ⟨{ s.M with W := s.M.W.set (8 + 3 * k + 0) 0 }, s.C.set k { cc with F := cc.F ++ [pcF (newF 4 [0, 0, 0]) 1] }, s.L⟩ := by
    rw [h0, e1]; simp [newF]
  have e2 := (clear_step (s := ⟨{ s.M with W := s.M.W.set (8 + 3 * k + 0) 0 }, s.C.set k { cc with F := cc.F ++ [pcF (newF 4 [0, 0, 0]) 1] }, s.L⟩) (k := k) (cc := { cc with F := cc.F ++ [pcF (newF 4 [0, 0, 0]) 1] }) (F := cc.F) (f := pcF (newF 4 [0, 0, 0]) 1) (by simp [hk]) rfl rfl hk8 (by simpa using hW)).1 (.inr rfl)
  have e2' : step5 (step5 (callS s k 4 [0, 0, 0]) k) k = ⟨{ s.M with W := (s.M.W.set (8 + 3 * k + 0) 0).set (8 + 3 * k + 1) 0 }, s.C.set k { cc with F := cc.F ++ [pcF (newF 4 [0, 0, 0]) 2] }, s.L⟩ := by
    rw [e1', e2]; simp [newF, pcF]
  have e3 := (clear_step (s := ⟨{ s.M with W := (s.M.W.set (8 + 3 * k + 0) 0).set (8 + 3 * k + 1) 0 }, s.C.set k { cc with F := cc.F ++ [pcF (newF 4 [0, 0, 0]) 2] }, s.L⟩) (k := k) (cc := { cc with F := cc.F ++ [pcF (newF 4 [0, 0, 0]) 2] }) (F := cc.F) (f := pcF (newF 4 [0, 0, 0]) 2) (by simp [hk]) rfl rfl hk8 (by simpa using hW)).2 rfl
  refine ⟨e1', e2', ?_⟩
  rw [e2', e3]; simp
theorem cleared_get {W : List Int} {k : Nat} (hk : 8 + 3 * k + 2 < W.length) (j : Nat) :
    gi (((W.set (8 + 3 * k + 0) 0).set (8 + 3 * k + 1) 0).set (8 + 3 * k + 2) 0) j = if 8 + 3 * k ≤ j ∧ j ≤ 8 + 3 * k + 2 then 0 else gi W j := by
  by_cases h2 : 8 + 3 * k + 2 = j
  · subst h2; rw [gi_set_eq _ (by simp; omega), if_pos (by omega)]
  · rw [gi_set_ne _ h2]
    by_cases h1 : 8 + 3 * k + 1 = j
    · subst h1; rw [gi_set_eq _ (by simp; omega), if_pos (by omega)]
    · rw [gi_set_ne _ h1]
      by_cases h0 : 8 + 3 * k + 0 = j
      · subst h0; rw [gi_set_eq _ (by omega), if_pos (by omega)]
      · rw [gi_set_ne _ h0, if_neg (by omega)]

/-- what a step leaves as it was -/
theorem step5_apart {s : SysD} {k : Nat} (hk : k < s.C.length) (hk8 : k < 8) (hW : 128 ≤ s.M.W.length) (hslot : ∀ f, topD s k = some f → f.op = 3 → 0 ≤ gi f.R 1 ∧ gi f.R 1 ≤ 2) :
    ∃ c', (step5 s k).C = s.C.set k c' ∧ (step5 s k).M.G = s.M.G ∧ (step5 s k).L = s.L ∧ (step5 s k).M.W.length = s.M.W.length ∧ ∀ j, ¬ (8 + 3 * k ≤ j ∧ j ≤ 8 + 3 * k + 2) → gi (step5 s k).M.W j = gi s.M.W j := by
  obtain ⟨cc, hcc⟩ : ∃ cc, s.C[k]? = some cc := ⟨s.C[k], List.getElem?_eq_getElem hk⟩
  have hself : s.C.set k cc = s.C := set_self hcc
  have hsame : ∃ c', s.C = s.C.set k c' ∧ s.M.G = s.M.G ∧ s.L = s.L ∧ s.M.W.length = s.M.W.length ∧ ∀ j, ¬ (8 + 3 * k ≤ j ∧ j ≤ 8 + 3 * k + 2) → gi s.M.W j = gi s.M.W j := ⟨cc, hself.symm, rfl, rfl, rfl, fun _ _ => rfl⟩
  cases ht : topD s k with
  | none => unfold step5; rw [ht]; exact hsame
  | some f =>
    have hb : ∀ (m : Arena) v e, m.G = s.M.G → m.W.length = s.M.W.length → (∀ j, ¬ (8 + 3 * k ≤ j ∧ j ≤ 8 + 3 * k + 2) → gi m.W j = gi s.M.W j) → ∃ c', (backS (memS s m) k v e).C = s.C.set k c' ∧ (backS (memS s m) k v e).M.G = s.M.G ∧ (backS (memS s m) k v e).L = s.L ∧ (backS (memS s m) k v e).M.W.length = s.M.W.length ∧ ∀ j, ¬ (8 + 3 * k ≤ j ∧ j ≤ 8 + 3 * k + 2) → gi (backS (memS s m) k v e).M.W j = gi s.M.W j := fun m v e h1 h2 h3 => by
      unfold backS
      rw [do_last (s := memS s m) (cc := cc) hcc (by exact ht)]
      exact ⟨_, rfl, h1, rfl, h2, h3⟩
    have ho : ∀ (m : Arena) g pc, m.G = s.M.G → m.W.length = s.M.W.length → (∀ j, ¬ (8 + 3 * k ≤ j ∧ j ≤ 8 + 3 * k + 2) → gi m.W j = gi s.M.W j) → ∃ c', (onS s k m g pc).C = s.C.set k c' ∧ (onS s k m g pc).M.G = s.M.G ∧ (onS s k m g pc).L = s.L ∧ (onS s k m g pc).M.W.length = s.M.W.length ∧ ∀ j, ¬ (8 + 3 * k ≤ j ∧ j ≤ 8 + 3 * k + 2) → gi (onS s k m g pc).M.W j = gi s.M.W j := fun m g pc h1 h2 h3 => by
      unfold onS setS
      rw [do_last (s := memS s m) (cc := cc) hcc (by exact ht)]
      exact ⟨_, rfl, h1, rfl, h2, h3⟩
    have hstore : ∀ (x v : Int), 0 ≤ x → x ≤ 2 → (storeD s.M (placeD k x) v).G = s.M.G ∧ (storeD s.M (placeD k x) v).W.length = s.M.W.length ∧ (∀ j, ¬ (8 + 3 * k ≤ j ∧ j ≤ 8 + 3 * k + 2) → gi (storeD s.M (placeD k x) v).W j = gi s.M.W j) := fun x v h1 h2 => by
      rw [placeD_in (by omega) (by omega) (by omega) (by omega), store_root (by omega) (by omega) hW]
      refine ⟨rfl, by simp, fun j hj => gi_set_ne _ (by omega)⟩
    unfold step5
    rw [ht]
    simp only []
    split
    · rename_i hop
      have hs := hslot f ht hop
      unfold protS
      split
      · exact ho _ _ _ (hstore _ _ hs.1 hs.2).1 (hstore _ _ hs.1 hs.2).2.1 (hstore _ _ hs.1 hs.2).2.2
      · split
        · split
          · exact hb _ _ _ rfl rfl fun _ _ => rfl
          · exact ho _ _ _ rfl rfl fun _ _ => rfl
        · split
          · split
            · exact hb _ _ _ rfl rfl fun _ _ => rfl
            · exact ho _ _ _ rfl rfl fun _ _ => rfl
          · exact hsame
    · split
      · rename_i hp
        unfold clearS
        have h3 := hstore f.pc 0 hp.2.1 hp.2.2
        split
        · exact hb _ _ _ h3.1 h3.2.1 h3.2.2
        · exact ho _ _ _ h3.1 h3.2.1 h3.2.2
      · exact hsame
theorem apart_same {s t : SysD} {k : Nat} {cc c' : CoreD} (hk : s.C[k]? = some cc) (hC : t.C = s.C.set k c') (hL : t.L = s.L) : withS (memS t s.M) k cc = s := by
  unfold withS memS
  rw [hC, hL, List.set_set]
  rw [set_self hk]
end Go.Proofs.Ytcfbdfgondmkoaa
/- Rows of small integers among a law's arguments. -/
namespace Go.Proofs.Ytcfbdfgondmkoaa
open Go Go.RowKit Go.WideShapes
set_option linter.unusedSimpArgs false
set_option linter.unusedVariables false
set_option linter.unnecessarySimpa false

/-- a row of integers of a kind -/
def IsNums (k : IntKind) (w : World) (v : Value) (l : List Int) : Prop :=
  ∃ a cap, v = .slice a l.length cap ∧ l.length ≤ cap ∧ cap ≤ 9223372036854775807 ∧ ∀ i, i < l.length → ∃ b off, a = some ⟨b, off, none⟩ ∧ b < w.heap.size ∧ w.cell? ⟨b, off + i, none⟩ = some (.int k (gi l i)) ∧ (Lit.int k (gi l i)).wf = true
theorem okWide_slice {P : Program} {w : World} {e t : TypeId} {r : Reach} {base : Nat} {v : Value} (ht : P.underlying t = some (.slice e)) (h : Value.okWide P w r base t v) : ∃ p n c, v = .slice p n c := by
  unfold Value.okWide at h
  rw [ht] at h
  unfold Cell.okWide at h
  rw [ht] at h
  cases v <;> simp [Cell.ok, ht] at h ⊢
section
variable {H : Type} {enc : TypeId × Value → H} {w : World} {cs : List Value}
theorem Rd.nums {k : IntKind} {t e : TypeId} (ht : Proofs.Try.prog.underlying t = some (.slice e)) (he : Proofs.Try.prog.underlying e = some (.int k)) (hz : Proofs.Try.prog.cellsOf e = 1) (h : Rd enc Proofs.Try.prog w t cs) : ∃ v l, cs = [v] ∧ IsNums k w v l := by
  rcases Rd.slice h ht with rfl | ⟨a, len, cap, rfl, hl, hm, hx⟩
  · exact ⟨_, [], rfl, none, 0, rfl, by simp, by omega, fun i hi => by simp at hi⟩
  · rw [hz] at hx
    have hc : ∀ i, i < cap → ∃ n, w.cell? (a.add i) = some (.int k n) ∧ (Lit.int k n).wf = true := fun i hi => by
      obtain ⟨cs', h1, h2⟩ := hx i hi
      obtain ⟨n, rfl, hwf⟩ := Rd.int (k := k) h2 he
      obtain ⟨_, _, h3⟩ := World.cells?_some h1
      have := h3 0 (by omega)
      rw [Nat.mul_one] at this
      have e : (a.add i).add 0 = a.add i := by unfold Addr.add; simp
      rw [e] at this
      exact ⟨n, by simpa using this, hwf⟩
    obtain ⟨f, hf⟩ : ∃ f : Nat → Int, ∀ i, i < cap → w.cell? (a.add i) = some (.int k (f i)) ∧ (Lit.int k (f i)).wf = true :=
      ⟨fun i => if hi : i < cap then Classical.choose (hc i hi) else 0, fun i hi => by simp only [dif_pos hi]; exact Classical.choose_spec (hc i hi)⟩
    refine ⟨_, (List.range len).map f, rfl, some a, cap, by simp, by simpa using hl, by simpa [maxLen] using hm, fun i hi => ?_⟩
    have hi' : i < len := by simpa using hi
    have h1 := (hf i (by omega)).1
    have h2 := (hf i (by omega)).2
    obtain ⟨b, off, spot⟩ := a
    have hspot : spot = none := by
      have := World.cell?_spot (hf 0 (by omega)).1
      simpa [Addr.add] using this
    subst hspot
    have hadd : (⟨b, off, none⟩ : Addr).add i = ⟨b, off + i, none⟩ := by unfold Addr.add; split <;> simp_all
    rw [hadd] at h1
    have hg : gi ((List.range len).map f) i = f i := by simp [gi, List.getD_eq_getElem?_getD, hi']
    rw [hg]
    exact ⟨b, off, rfl, World.block_lt_of_cell? w _ h1, h1, h2⟩
end
end Go.Proofs.Ytcfbdfgondmkoaa
/- Systems among a law's arguments. -/
namespace Go.Proofs.Ytcfbdfgondmkoaa
open Go Go.RowKit Go.WideShapes
set_option linter.unusedSimpArgs false
set_option linter.unusedVariables false
set_option linter.unnecessarySimpa false

theorem add_at (b off n : Nat) : (⟨b, off, none⟩ : Addr).add n = ⟨b, off + n, none⟩ := by unfold Addr.add; split <;> simp_all
section
variable {H : Type} {enc : TypeId × Value → H} {w : World} {cs : List Value}
theorem Rd.sl {α : Type} {sz : Nat} {R : World → α → List Value → Prop} {t e : TypeId} (ht : Proofs.Try.prog.underlying t = some (.slice e)) (hz : Proofs.Try.prog.cellsOf e = sz) (hsz : 0 < sz) (hE : ∀ cs, Rd enc Proofs.Try.prog w e cs → cs.length = sz ∧ ∃ x : α, R w x cs)
    (h : Rd enc Proofs.Try.prog w t cs) : ∃ v l, cs = [v] ∧ IsSl sz R no w v l := by
  rcases Rd.slice h ht with rfl | ⟨a, len, cap, rfl, hl, hm, hx⟩
  · exact ⟨_, [], rfl, none, 0, rfl, by simp, by omega, fun _ => rfl, fun i x hi => by simp at hi⟩
  · rw [hz] at hx
    have hc : ∀ i, i < cap → ∃ (x : α) (r : List Value), r.length = sz ∧ R w x r ∧ ∀ j c, r[j]? = some c → w.cell? ((a.add (i * sz)).add j) = some c := fun i hi => by
      obtain ⟨r, h1, h2⟩ := hx i hi
      obtain ⟨hrl, x, hR⟩ := hE r h2
      obtain ⟨_, _, h3⟩ := World.cells?_some h1
      refine ⟨x, r, hrl, hR, fun j c hj => ?_⟩
      have hjl : j < sz := by
        rw [← hrl]
        rcases Nat.lt_or_ge j r.length with h | h
        · exact h
        · rw [List.getElem?_eq_none h] at hj; cases hj
      have := h3 j hjl
      rw [this]; exact hj
    have hch := Classical.choice (show Nonempty (∀ i : Nat, i < cap → { p : α × List Value // p.2.length = sz ∧ R w p.1 p.2 ∧ ∀ j c, p.2[j]? = some c → w.cell? ((a.add (i * sz)).add j) = some c }) from
      ⟨fun i hi => ⟨⟨Classical.choose (hc i hi), Classical.choose (Classical.choose_spec (hc i hi))⟩, Classical.choose_spec (Classical.choose_spec (hc i hi))⟩⟩)
    by_cases h0 : cap = 0
    · subst h0
      obtain rfl : len = 0 := by omega
      exact ⟨_, [], rfl, some a, 0, rfl, by simp, by omega, fun e => by simp at e, fun i x hi => by simp at hi⟩
    · obtain ⟨x0, r0, hr0, _, hcell0⟩ := hc 0 (by omega)
      have hspot : a.spot = none := by
        have h1 := hcell0 0 (r0[0]'(by omega)) (List.getElem?_eq_getElem _)
        have := World.cell?_spot h1
        simpa [Addr.add] using this
      obtain ⟨b, off, spot⟩ := a
      simp at hspot
      subst hspot
      let f : Nat → α := fun i => if hi : i < cap then (hch i hi).1.1 else x0
      refine ⟨_, (List.range len).map f, rfl, some ⟨b, off, none⟩, cap, by simp, by simpa using hl, by simpa [maxLen] using hm, fun e => by simp at e, fun i x hi => ?_⟩
      have hil : i < len := by
        rcases Nat.lt_or_ge i len with h | h
        · exact h
        · rw [List.getElem?_eq_none (by simpa using h)] at hi; cases hi
      have hic : i < cap := by omega
      rw [List.getElem?_map, List.getElem?_range hil] at hi
      have hfx : f i = x := by simpa using hi
      have hfi : f i = (hch i hic).1.1 := by simp only [f, dif_pos hic]
      have hs := (hch i hic).2
      have hadd : ∀ j, ((⟨b, off, none⟩ : Addr).add (i * sz)).add j = ⟨b, off + i * sz + j, none⟩ := fun j => by rw [add_at, add_at]
      refine ⟨b, off, (hch i hic).1.2, rfl, ?_, id, hs.1, fun j c hj => by rw [← hadd j]; exact hs.2.2 j c hj, by rw [← hfx, hfi]; exact hs.2.1⟩
      have h1 := hs.2.2 0 ((hch i hic).1.2[0]'(by rw [hs.1]; omega)) (List.getElem?_eq_getElem _)
      rw [hadd] at h1
      exact World.block_lt_of_cell? w _ h1
theorem Rd.i64 {n : TypeId} (hn : Proofs.Try.prog.underlying n = some (.int .i64)) {x : Value} (h : Rd enc Proofs.Try.prog w n [x]) : ∃ z, x = .int .i64 z := by
  obtain ⟨z, e, _⟩ := Rd.int (k := .i64) h hn
  exact ⟨z, by simpa using e⟩
theorem Rd.i64s {t : TypeId} {n : Nat} (ht : Proofs.Try.prog.underlying t = some (.array n 3)) (h : Rd enc Proofs.Try.prog w t cs) (i : Nat) (hi : i < n) : ∃ z, (cs.drop (i * 1)).take 1 = [.int .i64 z] := by
  obtain ⟨z, e, _⟩ := Rd.int (k := .i64) (Rd.elem h ht i hi (m := 1) (by kernel_rfl)) Proofs.Try.underlying3
  exact ⟨z, e⟩
theorem Rd.ev (h : Rd enc Proofs.Try.prog w 108 cs) : cs.length = 5 ∧ ∃ e, RE w e cs := by
  have hl := (Rd.struct h Proofs.Try.underlying108).1
  rw [show Proofs.Try.prog.cellsOf 108 = 5 by kernel_rfl] at hl
  obtain ⟨v0, v1, v2, v3, v4, rfl⟩ : ∃ v0 v1 v2 v3 v4, cs = [v0, v1, v2, v3, v4] := by
    match cs, hl with
    | [a, b, c, d, e], _ => exact ⟨a, b, c, d, e, rfl⟩
  obtain ⟨z0, rfl⟩ := Rd.i64 Proofs.Try.underlying3 (x := v0) (by have q := Rd.field h Proofs.Try.underlying108 0 (n := 1) rfl (by kernel_rfl); exact q)
  obtain ⟨z1, rfl⟩ := Rd.i64 Proofs.Try.underlying3 (x := v1) (by have q := Rd.field h Proofs.Try.underlying108 1 (n := 1) rfl (by kernel_rfl); exact q)
  obtain ⟨z2, rfl⟩ := Rd.i64 Proofs.Try.underlying3 (x := v2) (by have q := Rd.field h Proofs.Try.underlying108 2 (n := 1) rfl (by kernel_rfl); exact q)
  obtain ⟨z3, rfl⟩ := Rd.i64 Proofs.Try.underlying3 (x := v3) (by have q := Rd.field h Proofs.Try.underlying108 3 (n := 1) rfl (by kernel_rfl); exact q)
  obtain ⟨z4, rfl⟩ := Rd.i64 Proofs.Try.underlying3 (x := v4) (by have q := Rd.field h Proofs.Try.underlying108 4 (n := 1) rfl (by kernel_rfl); exact q)
  exact ⟨rfl, ⟨z0, z1, z2, z3, z4⟩, rfl⟩
theorem Rd.frame (h : Rd enc Proofs.Try.prog w 95 cs) : cs.length = 11 ∧ ∃ f, RF no w f cs := by
  have hl := (Rd.struct h Proofs.Try.underlying95).1
  rw [show Proofs.Try.prog.cellsOf 95 = 11 by kernel_rfl] at hl
  obtain ⟨v0, v1, v2, v3, v4, v5, v6, v7, v8, v9, v10, rfl⟩ : ∃ v0 v1 v2 v3 v4 v5 v6 v7 v8 v9 v10, cs = [v0, v1, v2, v3, v4, v5, v6, v7, v8, v9, v10] := by
    match cs, hl with
    | [a, b, c, d, e, f, g, h, i, j, k], _ => exact ⟨a, b, c, d, e, f, g, h, i, j, k, rfl⟩
  obtain ⟨z0, rfl⟩ := Rd.i64 Proofs.Try.underlying3 (x := v0) (by have q := Rd.field h Proofs.Try.underlying95 0 (n := 1) rfl (by kernel_rfl); exact q)
  obtain ⟨z1, rfl⟩ := Rd.i64 Proofs.Try.underlying3 (x := v1) (by have q := Rd.field h Proofs.Try.underlying95 1 (n := 1) rfl (by kernel_rfl); exact q)
  have hR : Rd enc Proofs.Try.prog w 93 [v2, v3, v4, v5, v6, v7, v8, v9] := by have q := Rd.field h Proofs.Try.underlying95 2 (n := 8) rfl (by kernel_rfl); exact q
  obtain ⟨z2, q0⟩ := Rd.i64s Proofs.Try.underlying93 hR 0 (by decide)
  obtain rfl : v2 = .int .i64 z2 := by simpa using q0
  obtain ⟨z3, q1⟩ := Rd.i64s Proofs.Try.underlying93 hR 1 (by decide)
  obtain rfl : v3 = .int .i64 z3 := by simpa using q1
  obtain ⟨z4, q2⟩ := Rd.i64s Proofs.Try.underlying93 hR 2 (by decide)
  obtain rfl : v4 = .int .i64 z4 := by simpa using q2
  obtain ⟨z5, q3⟩ := Rd.i64s Proofs.Try.underlying93 hR 3 (by decide)
  obtain rfl : v5 = .int .i64 z5 := by simpa using q3
  obtain ⟨z6, q4⟩ := Rd.i64s Proofs.Try.underlying93 hR 4 (by decide)
  obtain rfl : v6 = .int .i64 z6 := by simpa using q4
  obtain ⟨z7, q5⟩ := Rd.i64s Proofs.Try.underlying93 hR 5 (by decide)
  obtain rfl : v7 = .int .i64 z7 := by simpa using q5
  obtain ⟨z8, q6⟩ := Rd.i64s Proofs.Try.underlying93 hR 6 (by decide)
  obtain rfl : v8 = .int .i64 z8 := by simpa using q6
  obtain ⟨z9, q7⟩ := Rd.i64s Proofs.Try.underlying93 hR 7 (by decide)
  obtain rfl : v9 = .int .i64 z9 := by simpa using q7
  obtain ⟨u, l, e, hu⟩ := Rd.ints (cs := [v10]) (by have q := Rd.field h Proofs.Try.underlying95 3 (n := 1) rfl (by kernel_rfl); exact q)
  obtain rfl : v10 = u := by simpa using e
  exact ⟨rfl, ⟨z0, z1, [z2, z3, z4, z5, z6, z7, z8, z9], l⟩, rfl, _, rfl, hu⟩
theorem Rd.core (h : Rd enc Proofs.Try.prog w 116 cs) : cs.length = 7 ∧ ∃ c, RC no w c cs := by
  have hl := (Rd.struct h Proofs.Try.underlying116).1
  rw [show Proofs.Try.prog.cellsOf 116 = 7 by kernel_rfl] at hl
  obtain ⟨v0, v1, v2, v3, v4, v5, v6, rfl⟩ : ∃ v0 v1 v2 v3 v4 v5 v6, cs = [v0, v1, v2, v3, v4, v5, v6] := by
    match cs, hl with
    | [a, b, c, d, e, f, g], _ => exact ⟨a, b, c, d, e, f, g, rfl⟩
  obtain ⟨u0, l0, e0, h0⟩ := Rd.sl (R := RF no) (sz := 11) Proofs.Try.underlying114 (by kernel_rfl) (by decide) (fun _ h => Rd.frame h) (cs := [v0]) (by have q := Rd.field h Proofs.Try.underlying116 0 (n := 1) rfl (by kernel_rfl); exact q)
  obtain rfl : v0 = u0 := by simpa using e0
  obtain ⟨z1, rfl⟩ := Rd.i64 Proofs.Try.underlying3 (x := v1) (by have q := Rd.field h Proofs.Try.underlying116 1 (n := 1) rfl (by kernel_rfl); exact q)
  obtain ⟨z2, rfl⟩ := Rd.i64 Proofs.Try.underlying25 (x := v2) (by have q := Rd.field h Proofs.Try.underlying116 2 (n := 1) rfl (by kernel_rfl); exact q)
  have hX : Rd enc Proofs.Try.prog w 41 [v3, v4, v5] := by have q := Rd.field h Proofs.Try.underlying116 3 (n := 3) rfl (by kernel_rfl); exact q
  obtain ⟨z3, q0⟩ := Rd.i64s Proofs.Try.underlying41 hX 0 (by decide)
  obtain rfl : v3 = .int .i64 z3 := by simpa using q0
  obtain ⟨z4, q1⟩ := Rd.i64s Proofs.Try.underlying41 hX 1 (by decide)
  obtain rfl : v4 = .int .i64 z4 := by simpa using q1
  obtain ⟨z5, q2⟩ := Rd.i64s Proofs.Try.underlying41 hX 2 (by decide)
  obtain rfl : v5 = .int .i64 z5 := by simpa using q2
  obtain ⟨u, l, e, hu⟩ := Rd.ints (cs := [v6]) (by have q := Rd.field h Proofs.Try.underlying116 4 (n := 1) rfl (by kernel_rfl); exact q)
  obtain rfl : v6 = u := by simpa using e
  exact ⟨rfl, ⟨l0, z1, z2, [z3, z4, z5], l⟩, rfl, _, _, rfl, h0, hu⟩
theorem Rd.sys (h : Rd enc Proofs.Try.prog w 83 cs) : ∃ v0 v1 v2 v3 v4 s, cs = [v0, v1, v2, v3, v4] ∧ IsSys no w (.agg #[v0, v1, v2, v3, v4]) s := by
  have hl := (Rd.struct h Proofs.Try.underlying83).1
  rw [show Proofs.Try.prog.cellsOf 83 = 5 by kernel_rfl] at hl
  obtain ⟨v0, v1, v2, v3, v4, rfl⟩ : ∃ v0 v1 v2 v3 v4, cs = [v0, v1, v2, v3, v4] := by
    match cs, hl with
    | [a, b, c, d, e], _ => exact ⟨a, b, c, d, e, rfl⟩
  obtain ⟨y0, y1, y2, m, e, hm⟩ := Rd.mem (cs := [v0, v1, v2]) (by have q := Rd.field h Proofs.Try.underlying83 0 (n := 3) rfl (by kernel_rfl); exact q)
  obtain ⟨rfl, rfl, rfl⟩ : v0 = y0 ∧ v1 = y1 ∧ v2 = y2 := by simpa using e
  obtain ⟨u3, l3, e3, h3⟩ := Rd.sl (R := RC no) (sz := 7) Proofs.Try.underlying80 (by kernel_rfl) (by decide) (fun _ h => Rd.core h) (cs := [v3]) (by have q := Rd.field h Proofs.Try.underlying83 1 (n := 1) rfl (by kernel_rfl); exact q)
  obtain rfl : v3 = u3 := by simpa using e3
  obtain ⟨u4, l4, e4, h4⟩ := Rd.sl (R := RE) (sz := 5) Proofs.Try.underlying81 (by kernel_rfl) (by decide) (fun _ h => Rd.ev h) (cs := [v4]) (by have q := Rd.field h Proofs.Try.underlying83 2 (n := 1) rfl (by kernel_rfl); exact q)
  obtain rfl : v4 = u4 := by simpa using e4
  exact ⟨_, _, _, _, _, ⟨m, l3, l4⟩, rfl, _, _, _, _, _, rfl, hm, h3, h4⟩
end
end Go.Proofs.Ytcfbdfgondmkoaa
/- The closed facts of the rows that work over the order of the initialisers. -/
namespace Go.Proofs.Ytcfbdfgondmkoaa
open Go
def orderSigns : List Char := ['h', 'a', 'r', 'n', 'e', 's', 's', ' ', '6', 'b', '9', 'a', '1', '6', '2', 'b', 'd', 'b', 'b', '2', '1', 'd', 'c', '9', '0', 'd', '8', 'b', 'a', '4', 'c', 'c', '9', '0', '8', 'e', '8', '6', 'c', 'e', '3', 'a', 'a', '3', 'b', 'd', '3', 'b', '8', '8', '3', 'e', '5', '4', '2', '4', 'b', '1', '8', '7', 'e', '0', '7', '3', '7', 'b', '1', 'b', '1', 'e', 'a', '9', ' ', 'c', 'u', 't', ' ', 'a', 't', ' ', 'h', 'a', 'z', 'e', 'l', '/', 'h', 'a', 'z', 'e', 'l', 'l', 'a', 'w', '0', '1', '.', 'P', 'a', 'c', 'k', 'T', 'e', 'l', 'l', 's', ' ', 'h', 'a', 'z', 'e', 'l', '/', 'h', 'a', 'z', 'e', 'l', 'l', 'a', 'w', '0', '1', '.', 'P', 'a', 'c', 'k', 'B', 'a', 'c', 'k', ' ', 'h', 'a', 'z', 'e', 'l', '/', 'h', 'a', 'z', 'e', 'l', 'l', 'a', 'w', '0', '1', '.', 'P', 'a', 'c', 'k', 'N', 'e', 'x', 't', ' ', 'h', 'a', 'z', 'e', 'l', '/', 'h', 'a', 'z', 'e', 'l', 'l', 'a', 'w', '0', '1', '.', 'P', 'a', 'c', 'k', 'A', 'p', 'a', 'r', 't', ' ', 'h', 'a', 'z', 'e', 'l', '/', 'h', 'a', 'z', 'e', 'l', 'l', 'a', 'w', '0', '1', '.', 'P', 'a', 'c', 'k', 'P', 'a', 'r', 't', 's', ' ', 'h', 'a', 'z', 'e', 'l', '/', 'h', 'a', 'z', 'e', 'l', 'l', 'a', 'w', '0', '1', '.', 'P', 'a', 'c', 'k', 'O', 'n', 'e', ' ', 'h', 'a', 'z', 'e', 'l', '/', 'h', 'a', 'z', 'e', 'l', 'l', 'a', 'w', '0', '1', '.', 'P', 'a', 'c', 'k', 'W', 'r', 'a', 'p', 's', ' ', 'h', 'a', 'z', 'e', 'l', '/', 'h', 'a', 'z', 'e', 'l', 'l', 'a', 'w', '0', '1', '.', 'P', 'a', 'c', 'k', 'O', 'd', 'd', ' ', 'h', 'a', 'z', 'e', 'l', '/', 'h', 'a', 'z', 'e', 'l', 'l', 'a', 'w', '0', '2', '.', 'M', 'e', 'm', 'T', 'e', 'l', 'l', 's', ' ', 'h', 'a', 'z', 'e', 'l', '/', 'h', 'a', 'z', 'e', 'l', 'l', 'a', 'w', '0', '2', '.', 'M', 'e', 'm', 'D', 'o', 'e', 's', ' ', 'h', 'a', 'z', 'e', 'l', '/', 'h', 'a', 'z', 'e', 'l', 'l', 'a', 'w', '0', '2', '.', 'M', 'e', 'm', 'B', 'a', 'c', 'k', ' ', 'h', 'a', 'z', 'e', 'l', '/', 'h', 'a', 'z', 'e', 'l', 'l', 'a', 'w', '0', '2', '.', 'M', 'e', 'm', 'G', 'u', 'a', 'r', 'd', 's', ' ', 'h', 'a', 'z', 'e', 'l', '/', 'h', 'a', 'z', 'e', 'l', 'l', 'a', 'w', '0', '2', '.', 'M', 'e', 'm', 'T', 'w', 'i', 'c', 'e', ' ', 'h', 'a', 'z', 'e', 'l', '/', 'h', 'a', 'z', 'e', 'l', 'l', 'a', 'w', '0', '2', '.', 'M', 'e', 'm', 'P', 'l', 'a', 'c', 'e', 's', ' ', 'h', 'a', 'z', 'e', 'l', '/', 'h', 'a', 'z', 'e', 'l', 'l', 'a', 'w', '0', '2', '.', 'M', 'e', 'm', 'T', 'u', 'r', 'n', 's', ' ', 'h', 'a', 'z', 'e', 'l', '/', 'h', 'a', 'z', 'e', 'l', 'l', 'a', 'w', '0', '2', '.', 'M', 'e', 'm', 'C', 'o', 'u', 'n', 't', 's', ' ', 'h', 'a', 'z', 'e', 'l', '/', 'h', 'a', 'z', 'e', 'l', 'l', 'a', 'w', '0', '3', '.', 'C', 'o', 'r', 'e', 'T', 'e', 'l', 'l', 's', ' ', 'h', 'a', 'z', 'e', 'l', '/', 'h', 'a', 'z', 'e', 'l', 'l', 'a', 'w', '0', '3', '.', 'C', 'o', 'r', 'e', 'D', 'o', 'e', 's', ' ', 'h', 'a', 'z', 'e', 'l', '/', 'h', 'a', 'z', 'e', 'l', 'l', 'a', 'w', '0', '3', '.', 'C', 'o', 'r', 'e', 'L', 'o', 'g', 's', ' ', 'h', 'a', 'z', 'e', 'l', '/', 'h', 'a', 'z', 'e', 'l', 'l', 'a', 'w', '0', '3', '.', 'C', 'o', 'r', 'e', 'N', 'e', 'w', 's', ' ', 'h', 'a', 'z', 'e', 'l', '/', 'h', 'a', 'z', 'e', 'l', 'l', 'a', 'w', '0', '3', '.', 'C', 'o', 'r', 'e', 'S', 'a', 'm', 'e', ' ', 'h', 'a', 'z', 'e', 'l', '/', 'h', 'a', 'z', 'e', 'l', 'l', 'a', 'w', '0', '5', '.', 'H', 'a', 'z', 'T', 'e', 'l', 'l', 's', ' ', 'h', 'a', 'z', 'e', 'l', '/', 'h', 'a', 'z', 'e', 'l', 'l', 'a', 'w', '0', '5', '.', 'H', 'a', 'z', 'C', 'l', 'e', 'a', 'r', 's', ' ', 'h', 'a', 'z', 'e', 'l', '/', 'h', 'a', 'z', 'e', 'l', 'l', 'a', 'w', '0', '5', '.', 'H', 'a', 'z', 'N', 'a', 'm', 'e', 's', ' ', 'h', 'a', 'z', 'e', 'l', '/', 'h', 'a', 'z', 'e', 'l', 'l', 'a', 'w', '0', '5', '.', 'H', 'a', 'z', 'P', 'l', 'a', 'c', 'e', 's', ' ', 'h', 'a', 'z', 'e', 'l', '/', 'h', 'a', 'z', 'e', 'l', 'l', 'a', 'w', '0', '5', '.', 'H', 'a', 'z', 'A', 'p', 'a', 'r', 't', ' ', 'h', 'a', 'z', 'e', 'l', '/', 'h', 'a', 'z', 'e', 'l', 'l', 'a', 'w', '0', '4', '.', 'S', 't', 'a', 'c', 'k', 'T', 'e', 'l', 'l', 's', ' ', 'h', 'a', 'z', 'e', 'l', '/', 'h', 'a', 'z', 'e', 'l', 'l', 'a', 'w', '0', '4', '.', 'S', 't', 'a', 'c', 'k', 'S', 'a', 'f', 'e', ' ', 'h', 'a', 'z', 'e', 'l', '/', 'h', 'a', 'z', 'e', 'l', 'l', 'a', 'w', '0', '4', '.', 'S', 't', 'a', 'c', 'k', 'F', 'u', 'l', 'l', ' ', 'h', 'a', 'z', 'e', 'l', '/', 'h', 'a', 'z', 'e', 'l', 'l', 'a', 'w', '0', '4', '.', 'S', 't', 'a', 'c', 'k', 'F', 'r', 'e', 'e', ' ', 'h', 'a', 'z', 'e', 'l', '/', 'h', 'a', 'z', 'e', 'l', 'l', 'a', 'w', '0', '4', '.', 'S', 't', 'a', 'c', 'k', 'A', 'l', 'o', 'n', 'e', ' ', 'h', 'a', 'z', 'e', 'l', '/', 'h', 'a', 'z', 'e', 'l', 'l', 'a', 'w', '0', '4', '.', 'S', 't', 'a', 'c', 'k', 'F', 'i', 'l', 'l', 's', ' ', 'h', 'a', 'z', 'e', 'l', '/', 'h', 'a', 'z', 'e', 'l', 'l', 'a', 'w', '0', '4', '.', 'S', 't', 'a', 'c', 'k', 'T', 'a', 'g', 's']
def orderWords : List (List Char) := [['a', 't'], ['h', 'a', 'z', 'e', 'l', '/', 'h', 'a', 'z', 'e', 'l', 'l', 'a', 'w', '0', '1', '.', 'P', 'a', 'c', 'k', 'T', 'e', 'l', 'l', 's'], ['h', 'a', 'z', 'e', 'l', '/', 'h', 'a', 'z', 'e', 'l', 'l', 'a', 'w', '0', '1', '.', 'P', 'a', 'c', 'k', 'B', 'a', 'c', 'k'], ['h', 'a', 'z', 'e', 'l', '/', 'h', 'a', 'z', 'e', 'l', 'l', 'a', 'w', '0', '1', '.', 'P', 'a', 'c', 'k', 'N', 'e', 'x', 't'], ['h', 'a', 'z', 'e', 'l', '/', 'h', 'a', 'z', 'e', 'l', 'l', 'a', 'w', '0', '1', '.', 'P', 'a', 'c', 'k', 'A', 'p', 'a', 'r', 't'], ['h', 'a', 'z', 'e', 'l', '/', 'h', 'a', 'z', 'e', 'l', 'l', 'a', 'w', '0', '1', '.', 'P', 'a', 'c', 'k', 'P', 'a', 'r', 't', 's'], ['h', 'a', 'z', 'e', 'l', '/', 'h', 'a', 'z', 'e', 'l', 'l', 'a', 'w', '0', '1', '.', 'P', 'a', 'c', 'k', 'O', 'n', 'e'], ['h', 'a', 'z', 'e', 'l', '/', 'h', 'a', 'z', 'e', 'l', 'l', 'a', 'w', '0', '1', '.', 'P', 'a', 'c', 'k', 'W', 'r', 'a', 'p', 's'], ['h', 'a', 'z', 'e', 'l', '/', 'h', 'a', 'z', 'e', 'l', 'l', 'a', 'w', '0', '1', '.', 'P', 'a', 'c', 'k', 'O', 'd', 'd'], ['h', 'a', 'z', 'e', 'l', '/', 'h', 'a', 'z', 'e', 'l', 'l', 'a', 'w', '0', '2', '.', 'M', 'e', 'm', 'T', 'e', 'l', 'l', 's'], ['h', 'a', 'z', 'e', 'l', '/', 'h', 'a', 'z', 'e', 'l', 'l', 'a', 'w', '0', '2', '.', 'M', 'e', 'm', 'D', 'o', 'e', 's'], ['h', 'a', 'z', 'e', 'l', '/', 'h', 'a', 'z', 'e', 'l', 'l', 'a', 'w', '0', '2', '.', 'M', 'e', 'm', 'B', 'a', 'c', 'k'], ['h', 'a', 'z', 'e', 'l', '/', 'h', 'a', 'z', 'e', 'l', 'l', 'a', 'w', '0', '2', '.', 'M', 'e', 'm', 'G', 'u', 'a', 'r', 'd', 's'], ['h', 'a', 'z', 'e', 'l', '/', 'h', 'a', 'z', 'e', 'l', 'l', 'a', 'w', '0', '2', '.', 'M', 'e', 'm', 'T', 'w', 'i', 'c', 'e'], ['h', 'a', 'z', 'e', 'l', '/', 'h', 'a', 'z', 'e', 'l', 'l', 'a', 'w', '0', '2', '.', 'M', 'e', 'm', 'P', 'l', 'a', 'c', 'e', 's'], ['h', 'a', 'z', 'e', 'l', '/', 'h', 'a', 'z', 'e', 'l', 'l', 'a', 'w', '0', '2', '.', 'M', 'e', 'm', 'T', 'u', 'r', 'n', 's'], ['h', 'a', 'z', 'e', 'l', '/', 'h', 'a', 'z', 'e', 'l', 'l', 'a', 'w', '0', '2', '.', 'M', 'e', 'm', 'C', 'o', 'u', 'n', 't', 's'], ['h', 'a', 'z', 'e', 'l', '/', 'h', 'a', 'z', 'e', 'l', 'l', 'a', 'w', '0', '3', '.', 'C', 'o', 'r', 'e', 'T', 'e', 'l', 'l', 's'], ['h', 'a', 'z', 'e', 'l', '/', 'h', 'a', 'z', 'e', 'l', 'l', 'a', 'w', '0', '3', '.', 'C', 'o', 'r', 'e', 'D', 'o', 'e', 's'], ['h', 'a', 'z', 'e', 'l', '/', 'h', 'a', 'z', 'e', 'l', 'l', 'a', 'w', '0', '3', '.', 'C', 'o', 'r', 'e', 'L', 'o', 'g', 's'], ['h', 'a', 'z', 'e', 'l', '/', 'h', 'a', 'z', 'e', 'l', 'l', 'a', 'w', '0', '3', '.', 'C', 'o', 'r', 'e', 'N', 'e', 'w', 's'], ['h', 'a', 'z', 'e', 'l', '/', 'h', 'a', 'z', 'e', 'l', 'l', 'a', 'w', '0', '3', '.', 'C', 'o', 'r', 'e', 'S', 'a', 'm', 'e'], ['h', 'a', 'z', 'e', 'l', '/', 'h', 'a', 'z', 'e', 'l', 'l', 'a', 'w', '0', '5', '.', 'H', 'a', 'z', 'T', 'e', 'l', 'l', 's'], ['h', 'a', 'z', 'e', 'l', '/', 'h', 'a', 'z', 'e', 'l', 'l', 'a', 'w', '0', '5', '.', 'H', 'a', 'z', 'C', 'l', 'e', 'a', 'r', 's'], ['h', 'a', 'z', 'e', 'l', '/', 'h', 'a', 'z', 'e', 'l', 'l', 'a', 'w', '0', '5', '.', 'H', 'a', 'z', 'N', 'a', 'm', 'e', 's'], ['h', 'a', 'z', 'e', 'l', '/', 'h', 'a', 'z', 'e', 'l', 'l', 'a', 'w', '0', '5', '.', 'H', 'a', 'z', 'P', 'l', 'a', 'c', 'e', 's'], ['h', 'a', 'z', 'e', 'l', '/', 'h', 'a', 'z', 'e', 'l', 'l', 'a', 'w', '0', '5', '.', 'H', 'a', 'z', 'A', 'p', 'a', 'r', 't'], ['h', 'a', 'z', 'e', 'l', '/', 'h', 'a', 'z', 'e', 'l', 'l', 'a', 'w', '0', '4', '.', 'S', 't', 'a', 'c', 'k', 'T', 'e', 'l', 'l', 's'], ['h', 'a', 'z', 'e', 'l', '/', 'h', 'a', 'z', 'e', 'l', 'l', 'a', 'w', '0', '4', '.', 'S', 't', 'a', 'c', 'k', 'S', 'a', 'f', 'e'], ['h', 'a', 'z', 'e', 'l', '/', 'h', 'a', 'z', 'e', 'l', 'l', 'a', 'w', '0', '4', '.', 'S', 't', 'a', 'c', 'k', 'F', 'u', 'l', 'l'], ['h', 'a', 'z', 'e', 'l', '/', 'h', 'a', 'z', 'e', 'l', 'l', 'a', 'w', '0', '4', '.', 'S', 't', 'a', 'c', 'k', 'F', 'r', 'e', 'e'], ['h', 'a', 'z', 'e', 'l', '/', 'h', 'a', 'z', 'e', 'l', 'l', 'a', 'w', '0', '4', '.', 'S', 't', 'a', 'c', 'k', 'A', 'l', 'o', 'n', 'e'], ['h', 'a', 'z', 'e', 'l', '/', 'h', 'a', 'z', 'e', 'l', 'l', 'a', 'w', '0', '4', '.', 'S', 't', 'a', 'c', 'k', 'F', 'i', 'l', 'l', 's'], ['h', 'a', 'z', 'e', 'l', '/', 'h', 'a', 'z', 'e', 'l', 'l', 'a', 'w', '0', '4', '.', 'S', 't', 'a', 'c', 'k', 'T', 'a', 'g', 's']]
set_option maxRecDepth 100000 in
theorem order_ : Try.prog.initOrder.toList = orderSigns := (congrArg String.toList (show Try.prog.initOrder = String.ofList orderSigns by kernel_rfl)).trans String.toList_ofList
theorem words_ : behindMainWord (wordsSigns Try.prog.initOrder.toList) = ['c', 'u', 't'] :: orderWords := by rw [order_]; kernel_rfl
theorem lifts_ : stripLifts liftWords (['c', 'u', 't'] :: orderWords) = ([], ['c', 'u', 't'] :: orderWords) := by kernel_rfl
theorem make_of (P : Program) (R : List (List Char)) (h : behindMainWord (wordsSigns P.initOrder.toList) = ['c', 'u', 't'] :: R) : P.make = some .cut := by
  unfold Program.make; rw [h]; dsimp only; rw [if_neg (by decide), if_pos (by simp)]
theorem heads_of (P : Program) (R : List (List Char)) (h : behindMainWord (wordsSigns P.initOrder.toList) = ['c', 'u', 't'] :: R) (h2 : stripLifts liftWords (['c', 'u', 't'] :: R) = ([], ['c', 'u', 't'] :: R)) : P.headLifts = [] := by
  unfold Program.headLifts; rw [h, h2]; simp
theorem finals_of (P : Program) (R : List (List Char)) (h : behindMainWord (wordsSigns P.initOrder.toList) = ['c', 'u', 't'] :: R) (h2 : stripLifts liftWords (['c', 'u', 't'] :: R) = ([], ['c', 'u', 't'] :: R)) : P.liftsFinal = false := by
  unfold Program.liftsFinal; rw [h, heads_of P R h h2]; simp
theorem enter_of (P : Program) (R : List (List Char)) (h : behindMainWord (wordsSigns P.initOrder.toList) = ['c', 'u', 't'] :: R) (h2 : stripLifts liftWords (['c', 'u', 't'] :: R) = ([], ['c', 'u', 't'] :: R))
    (h3 : P.laysLater = false) (h4 : P.bearsReflect = false) (h5 : P.doorFits [] = true) : P.mayEnter = true := by
  unfold Program.mayEnter; rw [h]; dsimp only; rw [h2, h3, h4, h5]; simp
theorem make_ : Try.prog.make = some .cut := make_of _ _ words_
theorem liftsFinal_ : Try.prog.liftsFinal = false := finals_of _ _ words_ lifts_
theorem laysLater_ : Try.prog.laysLater = false := by kernel_rfl
theorem bearsReflect_ : Try.prog.bearsReflect = false := by kernel_rfl
theorem doorFits_ : Try.prog.doorFits [] = true := by kernel_rfl
theorem mayEnter_ : Try.prog.mayEnter = true := enter_of _ _ words_ lifts_ laysLater_ bearsReflect_ doorFits_
end Go.Proofs.Ytcfbdfgondmkoaa
