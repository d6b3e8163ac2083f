/- Texts of this work, put together: RdM, CoA. -/
import Derived.Test.YtcfbdfgondmkoaaM2
/- Arenas and rows of integers among a law's arguments. -/
namespace Go.Proofs.Ytcfbdfgondmkoaa
open Go Go.RowKit Go.WideShapes
set_option linter.unusedSimpArgs false
set_option linter.unusedVariables false
set_option linter.unnecessarySimpa false

section
variable {H : Type} {enc : TypeId × Value → H} {w : World} {cs : List Value}
theorem Rd.ints (h : Rd enc Proofs.Try.prog w 48 cs) : ∃ v l, cs = [v] ∧ IsInts no w v l := by
  rcases Rd.slice h Proofs.Try.underlying48 with rfl | ⟨a, len, cap, rfl, hl, hm, hx⟩
  · exact ⟨_, [], rfl, none, 0, rfl, by simp, by omega, fun _ => rfl, fun i hi => by simp at hi⟩
  · have hz : Proofs.Try.prog.cellsOf 3 = 1 := by kernel_rfl
    rw [hz] at hx
    have hc : ∀ i, i < cap → ∃ n, w.cell? (a.add i) = some (.int .i64 n) := fun i hi => by
      obtain ⟨cs', h1, h2⟩ := hx i hi
      obtain ⟨n, rfl, _⟩ := Rd.int (k := .i64) h2 Proofs.Try.underlying3
      obtain ⟨_, _, h3⟩ := World.cells?_some h1
      have := h3 0 (by omega)
      rw [Nat.mul_one] at this
      have e : (a.add i).add 0 = a.add i := by unfold Addr.add; simp
      rw [e] at this
      exact ⟨n, by simpa using this⟩
    obtain ⟨f, hf⟩ : ∃ f : Nat → Int, ∀ i, i < cap → w.cell? (a.add i) = some (.int .i64 (f i)) :=
      ⟨fun i => if hi : i < cap then Classical.choose (hc i hi) else 0, fun i hi => by simp only [dif_pos hi]; exact Classical.choose_spec (hc i hi)⟩
    refine ⟨_, (List.range len).map f, rfl, some a, cap, by simp, by simpa using hl, by simpa [maxLen] using hm, fun e => by simp at e, fun i hi => ?_⟩
    have hi' : i < len := by simpa using hi
    have h1 := hf i (by omega)
    obtain ⟨b, off, spot⟩ := a
    have hspot : spot = none := by
      have := World.cell?_spot (hf 0 (by omega))
      simpa [Addr.add] using this
    subst hspot
    have hadd : (⟨b, off, none⟩ : Addr).add i = ⟨b, off + i, none⟩ := by unfold Addr.add; split <;> simp_all
    rw [hadd] at h1
    refine ⟨b, off, rfl, World.block_lt_of_cell? w _ h1, id, ?_⟩
    rw [h1]
    simp [gi, List.getD_eq_getElem?_getD, hi']
theorem Rd.mem (h : Rd enc Proofs.Try.prog w 50 cs) : ∃ v0 v1 v2 m, cs = [v0, v1, v2] ∧ IsMem no w (.agg #[v0, v1, v2]) m := by
  have h0 := Rd.field h Proofs.Try.underlying50 0 (n := 1) rfl (by kernel_rfl)
  have h1 := Rd.field h Proofs.Try.underlying50 1 (n := 1) rfl (by kernel_rfl)
  have h2 := Rd.field h Proofs.Try.underlying50 2 (n := 1) rfl (by kernel_rfl)
  have hl := (Rd.struct h Proofs.Try.underlying50).1
  have hz : Proofs.Try.prog.cellsOf 50 = 3 := by kernel_rfl
  rw [hz] at hl
  obtain ⟨v0, v1, v2, rfl⟩ : ∃ v0 v1 v2, cs = [v0, v1, v2] := by
    match cs, hl with
    | [a, b, c], _ => exact ⟨a, b, c, rfl⟩
  obtain ⟨u0, l0, e0, i0⟩ := Rd.ints (cs := [v0]) h0
  obtain ⟨u1, l1, e1, i1⟩ := Rd.ints (cs := [v1]) h1
  obtain ⟨b, e2⟩ := Rd.bool (cs := [v2]) h2 Proofs.Try.underlying4
  obtain rfl : v0 = u0 := by simpa using e0
  obtain rfl : v1 = u1 := by simpa using e1
  obtain rfl : v2 = .bool b := by simpa using e2
  exact ⟨_, _, _, ⟨l0, l1, b⟩, rfl, _, _, rfl, i0, i1⟩
end
end Go.Proofs.Ytcfbdfgondmkoaa
/- Systems as data; a core's last frame; which are the same. -/
namespace Go.Proofs.Ytcfbdfgondmkoaa
open Go Go.RowKit
set_option linter.unusedSimpArgs false
set_option linter.unusedVariables false
set_option linter.unnecessarySimpa false

theorem Ext.pick {a b : World} (h : Ext a b) : ∃ c, c = b ∧ Ext a c := ⟨b, rfl, h⟩

structure FrameD where
  op : Int
  pc : Int
  R : List Int
  S : List Int
structure CoreD where
  F : List FrameD
  V : Int
  E : Int
  X : List Int
  Ret : List Int
structure EvD where
  core : Int
  kind : Int
  a : Int
  b : Int
  v : Int
structure SysD where
  M : Arena
  C : List CoreD
  L : List EvD

/-- a slice value that shows a list: each element lies in sz cells -/
def IsSl {α : Type} (sz : Nat) (R : World → α → List Value → Prop) (N : Nat → Prop) (w : World) (v : Value) (l : List α) : Prop :=
  ∃ a cap, v = .slice a l.length cap ∧ l.length ≤ cap ∧ cap ≤ 9223372036854775807 ∧ (a = none → cap = 0) ∧
    ∀ i x, l[i]? = some x → ∃ b off cs, a = some ⟨b, off, none⟩ ∧ b < w.heap.size ∧ ¬ N b ∧ cs.length = sz ∧ (∀ j c, cs[j]? = some c → w.cell? ⟨b, off + i * sz + j, none⟩ = some c) ∧ R w x cs
theorem IsSl.keep {α : Type} {sz : Nat} {R R' : World → α → List Value → Prop} {N : Nat → Prop} {w w' : World} {v : Value} {l : List α} (h : IsSl sz R N w v l) (k : Keep N w w') (hR : ∀ x cs, x ∈ l → R w x cs → R' w' x cs) : IsSl sz R' N w' v l := by
  obtain ⟨a, cap, rfl, h1, h2, h3, h4⟩ := h
  refine ⟨a, cap, rfl, h1, h2, h3, fun i x hi => ?_⟩
  obtain ⟨b, off, cs, e, hb, hn, hl, hc, hr⟩ := h4 i x hi
  exact ⟨b, off, cs, e, Nat.lt_of_lt_of_le hb k.1, hn, hl, fun j c hj => (k.cell (a := ⟨b, off + i * sz + j, none⟩) hb hn).trans (hc j c hj), hR x cs (List.mem_of_getElem? hi) hr⟩
theorem IsSl.less {α : Type} {sz : Nat} {R R' : World → α → List Value → Prop} {N M : Nat → Prop} {w : World} {v : Value} {l : List α} (h : IsSl sz R N w v l) (hm : ∀ x, x < w.heap.size → M x → N x) (hR : ∀ x cs, x ∈ l → R w x cs → R' w x cs) : IsSl sz R' M w v l := by
  obtain ⟨a, cap, rfl, h1, h2, h3, h4⟩ := h
  refine ⟨a, cap, rfl, h1, h2, h3, fun i x hi => ?_⟩
  obtain ⟨b, off, cs, e, hb, hn, hl, hc, hr⟩ := h4 i x hi
  exact ⟨b, off, cs, e, hb, fun k => hn (hm b hb k), hl, hc, hR x cs (List.mem_of_getElem? hi) hr⟩

def frameCells (f : FrameD) (s : Value) : List Value := [.int .i64 f.op, .int .i64 f.pc, .int .i64 (gi f.R 0), .int .i64 (gi f.R 1), .int .i64 (gi f.R 2), .int .i64 (gi f.R 3), .int .i64 (gi f.R 4), .int .i64 (gi f.R 5), .int .i64 (gi f.R 6), .int .i64 (gi f.R 7), s]
def RF (N : Nat → Prop) (w : World) (f : FrameD) (cs : List Value) : Prop := f.R.length = 8 ∧ ∃ s, cs = frameCells f s ∧ IsInts N w s f.S
def coreCells (c : CoreD) (f r : Value) : List Value := [f, .int .i64 c.V, .int .i64 c.E, .int .i64 (gi c.X 0), .int .i64 (gi c.X 1), .int .i64 (gi c.X 2), r]
def RC (N : Nat → Prop) (w : World) (c : CoreD) (cs : List Value) : Prop := c.X.length = 3 ∧ ∃ f r, cs = coreCells c f r ∧ IsSl 11 (RF N) N w f c.F ∧ IsInts N w r c.Ret
def RE (_ : World) (e : EvD) (cs : List Value) : Prop := cs = [.int .i64 e.core, .int .i64 e.kind, .int .i64 e.a, .int .i64 e.b, .int .i64 e.v]
def IsSys (N : Nat → Prop) (w : World) (v : Value) (s : SysD) : Prop :=
  ∃ m0 m1 m2 c l, v = .agg #[m0, m1, m2, c, l] ∧ IsMem N w (.agg #[m0, m1, m2]) s.M ∧ IsSl 7 (RC N) N w c s.C ∧ IsSl 5 RE N w l s.L
/-- a frame as a value -/
def IsFrame (N : Nat → Prop) (w : World) (v : Value) (f : FrameD) : Prop := ∃ cs, v = .agg cs.toArray ∧ RF N w f cs

theorem RF.keep {N : Nat → Prop} {w w' : World} {f : FrameD} {cs : List Value} (h : RF N w f cs) (k : Keep N w w') : RF N w' f cs := by
  obtain ⟨h1, s, h2, h3⟩ := h
  exact ⟨h1, s, h2, h3.keep k⟩
theorem RF.less {N M : Nat → Prop} {w : World} {f : FrameD} {cs : List Value} (h : RF N w f cs) (hm : ∀ x, x < w.heap.size → M x → N x) : RF M w f cs := by
  obtain ⟨h1, s, h2, h3⟩ := h
  exact ⟨h1, s, h2, h3.less hm⟩
theorem RC.keep {N : Nat → Prop} {w w' : World} {c : CoreD} {cs : List Value} (h : RC N w c cs) (k : Keep N w w') : RC N w' c cs := by
  obtain ⟨h1, f, r, h2, h3, h4⟩ := h
  exact ⟨h1, f, r, h2, h3.keep k fun _ _ _ h => h.keep k, h4.keep k⟩
theorem RC.less {N M : Nat → Prop} {w : World} {c : CoreD} {cs : List Value} (h : RC N w c cs) (hm : ∀ x, x < w.heap.size → M x → N x) : RC M w c cs := by
  obtain ⟨h1, f, r, h2, h3, h4⟩ := h
  exact ⟨h1, f, r, h2, h3.less hm fun _ _ _ h => h.less hm, h4.less hm⟩
abbrev IsFrames (N : Nat → Prop) (w : World) (v : Value) (l : List FrameD) : Prop := IsSl 11 (RF N) N w v l
abbrev IsCores (N : Nat → Prop) (w : World) (v : Value) (l : List CoreD) : Prop := IsSl 7 (RC N) N w v l
abbrev IsEvs (N : Nat → Prop) (w : World) (v : Value) (l : List EvD) : Prop := IsSl 5 RE N w v l
theorem IsFrames.keep {N : Nat → Prop} {w w' : World} {v : Value} {l : List FrameD} (h : IsFrames N w v l) (k : Keep N w w') : IsFrames N w' v l := IsSl.keep h k fun _ _ _ h => h.keep k
theorem IsFrames.less {N M : Nat → Prop} {w : World} {v : Value} {l : List FrameD} (h : IsFrames N w v l) (hm : ∀ x, x < w.heap.size → M x → N x) : IsFrames M w v l := IsSl.less h hm fun _ _ _ h => h.less hm
theorem IsCores.keep {N : Nat → Prop} {w w' : World} {v : Value} {l : List CoreD} (h : IsCores N w v l) (k : Keep N w w') : IsCores N w' v l := IsSl.keep h k fun _ _ _ h => h.keep k
theorem IsCores.less {N M : Nat → Prop} {w : World} {v : Value} {l : List CoreD} (h : IsCores N w v l) (hm : ∀ x, x < w.heap.size → M x → N x) : IsCores M w v l := IsSl.less h hm fun _ _ _ h => h.less hm
theorem IsEvs.keep {N : Nat → Prop} {w w' : World} {v : Value} {l : List EvD} (h : IsEvs N w v l) (k : Keep N w w') : IsEvs N w' v l := IsSl.keep h k fun _ _ _ h => h
theorem IsEvs.less {N M : Nat → Prop} {w : World} {v : Value} {l : List EvD} (h : IsEvs N w v l) (hm : ∀ x, x < w.heap.size → M x → N x) : IsEvs M w v l := IsSl.less h hm fun _ _ _ h => h
theorem IsSys.keep {N : Nat → Prop} {w w' : World} {v : Value} {s : SysD} (h : IsSys N w v s) (k : Keep N w w') : IsSys N w' v s := by
  obtain ⟨m0, m1, m2, c, l, h1, h2, h3, h4⟩ := h
  exact ⟨m0, m1, m2, c, l, h1, h2.keep k, IsCores.keep h3 k, IsEvs.keep h4 k⟩
theorem IsSys.less {N M : Nat → Prop} {w : World} {v : Value} {s : SysD} (h : IsSys N w v s) (hm : ∀ x, x < w.heap.size → M x → N x) : IsSys M w v s := by
  obtain ⟨m0, m1, m2, c, l, h1, h2, h3, h4⟩ := h
  exact ⟨m0, m1, m2, c, l, h1, h2.less hm, IsCores.less h3 hm, IsEvs.less h4 hm⟩
theorem IsSys.ext {N : Nat → Prop} {w w' : World} {v : Value} {s : SysD} (h : IsSys N w v s) (k : Ext w w') : IsSys N w' v s := h.keep k.keep
theorem IsFrame.keep {N : Nat → Prop} {w w' : World} {v : Value} {f : FrameD} (h : IsFrame N w v f) (k : Keep N w w') : IsFrame N w' v f := by
  obtain ⟨cs, h1, h2⟩ := h; exact ⟨cs, h1, h2.keep k⟩
theorem IsFrame.less {N M : Nat → Prop} {w : World} {v : Value} {f : FrameD} (h : IsFrame N w v f) (hm : ∀ x, x < w.heap.size → M x → N x) : IsFrame M w v f := by
  obtain ⟨cs, h1, h2⟩ := h; exact ⟨cs, h1, h2.less hm⟩
theorem IsFrame.ext {N : Nat → Prop} {w w' : World} {v : Value} {f : FrameD} (h : IsFrame N w v f) (k : Ext w w') : IsFrame N w' v f := h.keep k.keep

/-- a slice, opened: its length, its elements' cells -/
theorem IsSl.opened {α : Type} {sz : Nat} {R : World → α → List Value → Prop} {N : Nat → Prop} {w : World} {v : Value} {l : List α} (h : IsSl sz R N w v l) :
    ∃ a cap, v = .slice a l.length cap ∧ IsSl sz R N w (.slice a l.length cap) l ∧ l.length ≤ cap ∧ cap ≤ 9223372036854775807 ∧
      ∀ i x, l[i]? = some x → ∃ b off cs, a = some ⟨b, off, none⟩ ∧ b < w.heap.size ∧ ¬ N b ∧ cs.length = sz ∧ (∀ j c, cs[j]? = some c → w.cell? ⟨b, off + i * sz + j, none⟩ = some c) ∧ R w x cs := by
  have h0 := h
  obtain ⟨a, cap, rfl, h1, h2, h3, h4⟩ := h
  exact ⟨a, cap, rfl, h0, h1, h2, h4⟩
theorem IsSys.opened {N : Nat → Prop} {w : World} {v : Value} {s : SysD} (h : IsSys N w v s) :
    ∃ aw cw ag cg ac cc al cl, v = .agg #[.slice aw s.M.W.length cw, .slice ag s.M.G.length cg, .bool s.M.bad, .slice ac s.C.length cc, .slice al s.L.length cl] ∧
      IsInts N w (.slice aw s.M.W.length cw) s.M.W ∧ IsInts N w (.slice ag s.M.G.length cg) s.M.G ∧ IsCores N w (.slice ac s.C.length cc) s.C ∧ IsEvs N w (.slice al s.L.length cl) s.L := by
  obtain ⟨m0, m1, m2, c, l, rfl, h2, h3, h4⟩ := h
  obtain ⟨aw, cw, ag, cg, e, hw, hg⟩ := h2.opened
  obtain ⟨rfl, rfl, rfl⟩ : m0 = .slice aw s.M.W.length cw ∧ m1 = .slice ag s.M.G.length cg ∧ m2 = .bool s.M.bad := by simpa using e
  obtain ⟨ac, cc, rfl, h3', _⟩ := IsSl.opened h3
  obtain ⟨al, cl, rfl, h4', _⟩ := IsSl.opened h4
  exact ⟨aw, cw, ag, cg, ac, cc, al, cl, rfl, hw, hg, h3, h4⟩
theorem IsSys.mk {N : Nat → Prop} {w : World} {aw ag c l : Value} {s : SysD} {b : Bool} (hb : b = s.M.bad) (hw : IsInts N w aw s.M.W) (hg : IsInts N w ag s.M.G) (hc : IsCores N w c s.C) (hl : IsEvs N w l s.L) : IsSys N w (.agg #[aw, ag, .bool b, c, l]) s :=
  ⟨aw, ag, .bool b, c, l, rfl, IsMem.mk hb hw hg, hc, hl⟩
/-- a core's cells, where it stands -/
theorem IsCores.at {N : Nat → Prop} {w : World} {a : Option Addr} {n cap : Nat} {l : List CoreD} (h : IsCores N w (.slice a n cap) l) {i : Nat} {c : CoreD} (hi : l[i]? = some c) :
    ∃ b off af cf ar cr, a = some ⟨b, off, none⟩ ∧ b < w.heap.size ∧ ¬ N b ∧ c.X.length = 3 ∧ IsFrames N w (.slice af c.F.length cf) c.F ∧ IsInts N w (.slice ar c.Ret.length cr) c.Ret ∧
      w.cell? ⟨b, off + i * 7, none⟩ = some (.slice af c.F.length cf) ∧ w.cell? ⟨b, off + i * 7 + 1, none⟩ = some (.int .i64 c.V) ∧ w.cell? ⟨b, off + i * 7 + 2, none⟩ = some (.int .i64 c.E) ∧
      w.cell? ⟨b, off + i * 7 + 3, none⟩ = some (.int .i64 (gi c.X 0)) ∧ w.cell? ⟨b, off + i * 7 + 4, none⟩ = some (.int .i64 (gi c.X 1)) ∧ w.cell? ⟨b, off + i * 7 + 5, none⟩ = some (.int .i64 (gi c.X 2)) ∧
      w.cell? ⟨b, off + i * 7 + 6, none⟩ = some (.slice ar c.Ret.length cr) := by
  obtain ⟨a', cap', e, _, _, _, h4⟩ := h
  cases e
  obtain ⟨b, off, cs, rfl, hb, hn, hl, hc, hx, f, r, rfl, hf, hr⟩ := h4 i c hi
  obtain ⟨af, cf, rfl, hf', _⟩ := IsSl.opened hf
  obtain ⟨ar, cr, rfl, _⟩ := hr.opened
  exact ⟨b, off, af, cf, ar, cr, rfl, hb, hn, hx, hf, hr, hc 0 _ rfl, hc 1 _ rfl, hc 2 _ rfl, hc 3 _ rfl, hc 4 _ rfl, hc 5 _ rfl, hc 6 _ rfl⟩
theorem IsFrames.at {N : Nat → Prop} {w : World} {a : Option Addr} {n cap : Nat} {l : List FrameD} (h : IsFrames N w (.slice a n cap) l) {i : Nat} {f : FrameD} (hi : l[i]? = some f) :
    ∃ b off s, a = some ⟨b, off, none⟩ ∧ b < w.heap.size ∧ ¬ N b ∧ f.R.length = 8 ∧ IsInts N w s f.S ∧ (∀ j c, (frameCells f s)[j]? = some c → w.cell? ⟨b, off + i * 11 + j, none⟩ = some c) := by
  obtain ⟨a', cap', e, _, _, _, h4⟩ := h
  cases e
  obtain ⟨b, off, cs, rfl, hb, hn, hl, hc, hx, s, rfl, hs⟩ := h4 i f hi
  exact ⟨b, off, s, rfl, hb, hn, hx, hs, hc⟩

def hasD (s : SysD) (id : Int) : Bool := decide (0 ≤ id) && decide (id < s.C.length)
def farB (n : Int) : Bool := decide (n < -2305843009213693952) || decide (2305843009213693952 < n)
theorem isFar_ (n : Int) (w : World) : Gives Proofs.Try.prog 132 #[.int .i64 n] w (eqv (.bool (farB n))) := by
  by_cases h1 : n < -2305843009213693952
  · go_enter Proofs.Try.func132, Proofs.Try.ntmps132
    go_wp2
    go_ret
    exact ⟨_, rfl, exq, by simp [farB, h1, eqv]⟩
  · by_cases h2 : 2305843009213693952 < n
    · go_enter Proofs.Try.func132, Proofs.Try.ntmps132
      go_wp2
      go_ret
      exact ⟨_, rfl, exq, by simp [farB, h1, h2, eqv]⟩
    · go_enter Proofs.Try.func132, Proofs.Try.ntmps132
      go_wp2
      go_ret
      exact ⟨_, rfl, exq, by simp [farB, h1, h2, eqv]⟩
set_option maxRecDepth 100000 in
theorem isCore_ (N : Nat → Prop) (v : Value) (s : SysD) (id : Int) (w : World) (h : IsSys N w v s) : Gives Proofs.Try.prog 139 #[v, .int .i64 id] w (eqv (.bool (hasD s id))) := by
  obtain ⟨aw, cw, ag, cg, ac, cc, al, cl, rfl, hw, hg, hc, hl⟩ := h.opened
  by_cases h1 : 0 ≤ id
  · by_cases h2 : id < (s.C.length : Int)
    · go_enter Proofs.Try.func139, Proofs.Try.ntmps139
      go_wp2
      go_ret
      exact ⟨_, rfl, exq, by simp [hasD, h1, h2, eqv]⟩
    · go_enter Proofs.Try.func139, Proofs.Try.ntmps139
      go_wp2
      go_ret
      exact ⟨_, rfl, exq, by simp [hasD, h1, h2, eqv]⟩
  · go_enter Proofs.Try.func139, Proofs.Try.ntmps139
    go_wp2
    go_ret
    exact ⟨_, rfl, exq, by simp [hasD, eqv]; omega⟩

def zeroF : FrameD := ⟨0, 0, List.replicate 8 0, []⟩
def topD (s : SysD) (id : Int) : Option FrameD := if hasD s id then (s.C[id.toNat]?).bind (fun c => c.F[c.F.length - 1]?) else none
def topF (s : SysD) (id : Int) : FrameD := (topD s id).getD zeroF
theorem zero_frame (N : Nat → Prop) (w : World) : IsFrame N w (.agg #[.int .i64 0, .int .i64 0, .int .i64 0, .int .i64 0, .int .i64 0, .int .i64 0, .int .i64 0, .int .i64 0, .int .i64 0, .int .i64 0, .slice none 0 0]) zeroF :=
  ⟨_, rfl, rfl, .slice none 0 0, rfl, none, 0, rfl, by simp [zeroF], by omega, fun _ => rfl, fun i hi => by simp [zeroF] at hi⟩
theorem cells11 {w : World} {b : Nat} {c0 c1 c2 c3 c4 c5 c6 c7 c8 c9 c10 : Value} {t : TypeId} (h : Box w b #[c0, c1, c2, c3, c4, c5, c6, c7, c8, c9, c10] t) :
    (w.cell? ⟨b, 0, none⟩ = some c0 ∧ w.cell? ⟨b, 1, none⟩ = some c1 ∧ w.cell? ⟨b, 2, none⟩ = some c2 ∧ w.cell? ⟨b, 3, none⟩ = some c3 ∧ w.cell? ⟨b, 4, none⟩ = some c4 ∧ w.cell? ⟨b, 5, none⟩ = some c5 ∧ w.cell? ⟨b, 6, none⟩ = some c6 ∧ w.cell? ⟨b, 7, none⟩ = some c7 ∧ w.cell? ⟨b, 8, none⟩ = some c8 ∧ w.cell? ⟨b, 9, none⟩ = some c9 ∧ w.cell? ⟨b, 10, none⟩ = some c10) ∧
    (w.frozen? ⟨b, 0, none⟩ = false ∧ w.frozen? ⟨b, 1, none⟩ = false ∧ w.frozen? ⟨b, 2, none⟩ = false ∧ w.frozen? ⟨b, 3, none⟩ = false ∧ w.frozen? ⟨b, 4, none⟩ = false ∧ w.frozen? ⟨b, 5, none⟩ = false ∧ w.frozen? ⟨b, 6, none⟩ = false ∧ w.frozen? ⟨b, 7, none⟩ = false ∧ w.frozen? ⟨b, 8, none⟩ = false ∧ w.frozen? ⟨b, 9, none⟩ = false ∧ w.frozen? ⟨b, 10, none⟩ = false) :=
  ⟨⟨h.cell rfl, h.cell rfl, h.cell rfl, h.cell rfl, h.cell rfl, h.cell rfl, h.cell rfl, h.cell rfl, h.cell rfl, h.cell rfl, h.cell rfl⟩, h.frozen, h.frozen, h.frozen, h.frozen, h.frozen, h.frozen, h.frozen, h.frozen, h.frozen, h.frozen, h.frozen⟩

set_option maxHeartbeats 1000000 in
set_option maxRecDepth 100000 in
theorem top_ (N : Nat → Prop) (v : Value) (s : SysD) (id : Int) (w : World) (h : IsSys N w v s) : Gives Proofs.Try.prog 81 #[v, .int .i64 id] w (fun r w' => ∃ u, r = .tuple #[u, .bool (topD s id).isSome] ∧ IsFrame N w' u (topF s id)) := by
  have kc := fun (w' : World) (e : Ext w w') => isCore_ N v s id w' (h.ext e)
  obtain ⟨aw, cw, ag, cg, ac, cc, al, cl, rfl, hw, hg, hc, hl⟩ := h.opened
  cases hh : hasD s id
  · have ht : topD s id = none := by simp [topD, hh]
    have htf : topF s id = zeroF := by simp [topF, ht]
    rw [hh] at kc
    go_enter Proofs.Try.func81, Proofs.Try.ntmps81
    go_wp2_with (fail)
    go_at_call 139
    refine (kc _ exq).calls.mono ?_
    rintro e w1 ⟨_, rfl, hb1, rfl⟩
    have B0 : Box w1 w.heap.size #[.slice aw s.M.W.length cw, .slice ag s.M.G.length cg, .bool s.M.bad, .slice ac s.C.length cc, .slice al s.L.length cl] 83 := ((Box.new _ _ _).alloc _).ext hb1
    have B1 : Box w1 (w.heap.size + 1) #[.int .i64 0, .int .i64 0, .int .i64 0, .int .i64 0, .int .i64 0, .int .i64 0, .int .i64 0, .int .i64 0, .int .i64 0, .int .i64 0, .slice none 0 0] 95 := (Box.two _ _ _ _ _).ext hb1
    have hE1 : Ext w w1 := exq
    have z0 : w.heap.size < w1.heap.size := B0.lt
    have z1 : w.heap.size + 1 < w1.heap.size := B1.lt
    obtain ⟨p0, p1, p2, p3, p4, d0, d1, d2, d3, d4⟩ := cells5 B0
    obtain ⟨⟨r0, r1, r2, r3, r4, r5, r6, r7, r8, r9, r10⟩, q0, q1, q2, q3, q4, q5, q6, q7, q8, q9, q10⟩ := cells11 B1
    go_wp2
    refine bodyPost_ret (ret_cell_tmp (((((((((((B1.setCell _).setCell _).setCell _).setCell _).setCell _).setCell _).setCell _).setCell _).setCell _).setCell _).setCell _) Proofs.Try.results81 rfl Proofs.Try.underlying95 rfl (by kernel_rfl)) rfl ⟨_, rfl, exq, _, by first | rfl | (rw [ht]; rfl), ?_⟩
    first | exact zero_frame N _ | (rw [htf]; exact zero_frame N _)
  · obtain ⟨k, rfl⟩ : ∃ k : Nat, id = k := ⟨id.toNat, by simp [hasD] at hh; omega⟩
    have hk : k < s.C.length := by simp [hasD] at hh; omega
    have hk1 : (k : Int) < (s.C.length : Int) := by omega
    have hk0 : ¬ (k : Int) < 0 := by omega
    have hk2 : ¬ (s.C.length : Int) ≤ (k : Int) := by omega
    have hk3 : ¬ s.C.length ≤ k := by omega
    obtain ⟨c, hck⟩ : ∃ c, s.C[k]? = some c := ⟨_, List.getElem?_eq_getElem hk⟩
    obtain ⟨bc, oc, af, cf, ar, cr, rfl, xc, nc, hx3, hf, hr, e0, e1, e2, e3, e4, e5, e6⟩ := IsCores.at hc hck
    have htc : topD s k = c.F[c.F.length - 1]? := by simp [topD, hh, hck]
    rw [hh] at kc
    by_cases hn : c.F.length = 0
    · have ht : topD s k = none := by rw [htc, hn]; simp; exact List.eq_nil_of_length_eq_zero hn
      have htf : topF s k = zeroF := by simp [topF, ht]
      have hn1 : ((c.F.length : Int) == 0) = true := by simp [hn]
      go_enter Proofs.Try.func81, Proofs.Try.ntmps81
      go_wp2_with (fail)
      go_at_call 139
      refine (kc _ exq).calls.mono ?_
      rintro e w1 ⟨_, rfl, hb1, rfl⟩
      have B0 : Box w1 w.heap.size #[.slice aw s.M.W.length cw, .slice ag s.M.G.length cg, .bool s.M.bad, .slice (some ⟨bc, oc, none⟩) s.C.length cc, .slice al s.L.length cl] 83 := ((Box.new _ _ _).alloc _).ext hb1
      have B1 : Box w1 (w.heap.size + 1) #[.int .i64 0, .int .i64 0, .int .i64 0, .int .i64 0, .int .i64 0, .int .i64 0, .int .i64 0, .int .i64 0, .int .i64 0, .int .i64 0, .slice none 0 0] 95 := (Box.two _ _ _ _ _).ext hb1
      have hE1 : Ext w w1 := exq
      have z0 : w.heap.size < w1.heap.size := B0.lt
      have z1 : w.heap.size + 1 < w1.heap.size := B1.lt
      obtain ⟨p0, p1, p2, p3, p4, d0, d1, d2, d3, d4⟩ := cells5 B0
      obtain ⟨⟨r0, r1, r2, r3, r4, r5, r6, r7, r8, r9, r10⟩, q0, q1, q2, q3, q4, q5, q6, q7, q8, q9, q10⟩ := cells11 B1
      have e0a := cell_ext e0 hE1
      go_wp2
      refine bodyPost_ret (ret_cell_tmp (((((((((((B1.setCell _).setCell _).setCell _).setCell _).setCell _).setCell _).setCell _).setCell _).setCell _).setCell _).setCell _) Proofs.Try.results81 rfl Proofs.Try.underlying95 rfl (by kernel_rfl)) rfl ⟨_, rfl, exq, _, by first | rfl | (rw [ht]; rfl), ?_⟩
      first | exact zero_frame N _ | (rw [htf]; exact zero_frame N _)
    · obtain ⟨n, hn2⟩ : ∃ n, c.F.length = n + 1 := ⟨c.F.length - 1, by omega⟩
      have hnl : n < c.F.length := by omega
      obtain ⟨f, hfn⟩ : ∃ f, c.F[n]? = some f := ⟨_, List.getElem?_eq_getElem hnl⟩
      have ht : topD s k = some f := by rw [htc, hn2]; exact hfn
      have htf : topF s k = f := by simp [topF, ht]
      obtain ⟨bf, of, sv, rfl, xf, nf, hR, hS, ef⟩ := IsFrames.at hf hfn
      obtain ⟨as_, cs_, rfl, _⟩ := hS.opened
      have hn1 : ((c.F.length : Int) == 0) = false := beq_eq_false_iff_ne.2 (by omega)
      have hn3 : ¬ c.F = [] := fun e => by rw [e] at hn2; simp at hn2
      have hfl : c.F.length ≤ 9223372036854775807 := by obtain ⟨_, _, ee, h1, h2, _⟩ := hf; cases ee; omega
      have HN := Lib.hid hn2
      clear hn2 hn
      go_enter Proofs.Try.func81, Proofs.Try.ntmps81
      go_wp2_with (fail)
      go_at_call 139
      refine (kc _ exq).calls.mono ?_
      rintro e w1 ⟨_, rfl, hb1, rfl⟩
      have B0 : Box w1 w.heap.size #[.slice aw s.M.W.length cw, .slice ag s.M.G.length cg, .bool s.M.bad, .slice (some ⟨bc, oc, none⟩) s.C.length cc, .slice al s.L.length cl] 83 := ((Box.new _ _ _).alloc _).ext hb1
      have B1 : Box w1 (w.heap.size + 1) #[.int .i64 0, .int .i64 0, .int .i64 0, .int .i64 0, .int .i64 0, .int .i64 0, .int .i64 0, .int .i64 0, .int .i64 0, .int .i64 0, .slice none 0 0] 95 := (Box.two _ _ _ _ _).ext hb1
      have hE1 : Ext w w1 := exq
      have z0 : w.heap.size < w1.heap.size := B0.lt
      have z1 : w.heap.size + 1 < w1.heap.size := B1.lt
      obtain ⟨p0, p1, p2, p3, p4, d0, d1, d2, d3, d4⟩ := cells5 B0
      obtain ⟨⟨r0, r1, r2, r3, r4, r5, r6, r7, r8, r9, r10⟩, q0, q1, q2, q3, q4, q5, q6, q7, q8, q9, q10⟩ := cells11 B1
      have e0a := cell_ext e0 hE1
      go_wp2_with (fail)
      obtain ⟨W, hW⟩ : ∃ W, W = w1 := ⟨_, rfl⟩
      rw [← hW] at B0 B1 hE1 ⊢
      clear hW
      have ec : W.cell? ⟨bc, oc + (k : Int).toNat * 7 + 0, none⟩ = some (.slice (some ⟨bf, of, none⟩) c.F.length cf) := by simpa using cell_ext e0 hE1
      have ef1 : ∀ j x, (frameCells f (.slice as_ f.S.length cs_))[j]? = some x → W.cell? ⟨bf, of + (n : Int).toNat * 11 + j, none⟩ = some x := fun j x hj => by simpa using cell_ext (ef j x hj) hE1
      apply region_lit2 (T := [16]) (L := [17]) (X := [w.heap.size + 1]) (G := [eqv _, eqv _, eqv _, eqv _, eqv _, eqv _, eqv _, eqv _, eqv _, eqv _, eqv _, eqv _, eqv _, eqv (.int .i64 (n : Nat)), eqv _, eqv (.agg #[.int .i64 f.op, .int .i64 f.pc, .int .i64 (gi f.R 0), .int .i64 (gi f.R 1), .int .i64 (gi f.R 2), .int .i64 (gi f.R 3), .int .i64 (gi f.R 4), .int .i64 (gi f.R 5), .int .i64 (gi f.R 6), .int .i64 (gi f.R 7), .slice as_ f.S.length cs_]), anyG, eqv _])
      case hm => kernel_rfl
      case hop =>
        refine ⟨?_, ?_, ?_, ?_, ?_, ?_, ?_, ?_, ?_, ?_, ?_, ?_, ?_, ?_, ?_, ?_, ?_, ?_, trivial⟩
        · intro a wa hs hf hd
          have t2 := hf.off 2 (by kernel_rfl) rfl
          exact plain_ rfl (yes_eqv (o_fieldAddr rfl Proofs.Try.underlying83 rfl rfl (by kernel_rfl) t2) rfl)
        · intro a wa hs hf hd
          have t21 : a.eval (.tmp 21) = _ := hd.at 0 21 (by kernel_rfl)
          exact plain_ rfl (yes_eqv (o_load1 rfl Proofs.Try.underlying80 rfl t21 ((B0.since hs rfl).cell rfl)) rfl)
        · intro a wa hs hf hd
          have t1 := hf.off 1 (by kernel_rfl) rfl
          exact plain_ rfl (yes_eqv (o_move rfl t1) rfl)
        · intro a wa hs hf hd
          have t22 : a.eval (.tmp 22) = _ := hd.at 1 22 (by kernel_rfl)
          have t23 : a.eval (.tmp 23) = _ := hd.at 2 23 (by kernel_rfl)
          exact plain_ rfl (yes_eqv (o_indexAddr (sz := 7) rfl Proofs.Try.underlying80 (by kernel_rfl) t22 t23 (by omega) (by omega)) rfl)
        · intro a wa hs hf hd
          have t24 : a.eval (.tmp 24) = _ := hd.at 3 24 (by kernel_rfl)
          exact plain_ rfl (yes_eqv (o_fieldAddr rfl Proofs.Try.underlying116 rfl rfl (by kernel_rfl) t24) rfl)
        · intro a wa hs hf hd
          have t25 : a.eval (.tmp 25) = _ := hd.at 4 25 (by kernel_rfl)
          exact plain_ rfl (yes_eqv (o_load1 rfl Proofs.Try.underlying114 rfl t25 (cell_since ec hs rfl)) rfl)
        · intro a wa hs hf hd
          have t2 := hf.off 2 (by kernel_rfl) rfl
          exact plain_ rfl (yes_eqv (o_fieldAddr rfl Proofs.Try.underlying83 rfl rfl (by kernel_rfl) t2) rfl)
        · intro a wa hs hf hd
          have t27 : a.eval (.tmp 27) = _ := hd.at 6 27 (by kernel_rfl)
          exact plain_ rfl (yes_eqv (o_load1 rfl Proofs.Try.underlying80 rfl t27 ((B0.since hs rfl).cell rfl)) rfl)
        · intro a wa hs hf hd
          have t1 := hf.off 1 (by kernel_rfl) rfl
          exact plain_ rfl (yes_eqv (o_move rfl t1) rfl)
        · intro a wa hs hf hd
          have t28 : a.eval (.tmp 28) = _ := hd.at 7 28 (by kernel_rfl)
          have t29 : a.eval (.tmp 29) = _ := hd.at 8 29 (by kernel_rfl)
          exact plain_ rfl (yes_eqv (o_indexAddr (sz := 7) rfl Proofs.Try.underlying80 (by kernel_rfl) t28 t29 (by omega) (by omega)) rfl)
        · intro a wa hs hf hd
          have t30 : a.eval (.tmp 30) = _ := hd.at 9 30 (by kernel_rfl)
          exact plain_ rfl (yes_eqv (o_fieldAddr rfl Proofs.Try.underlying116 rfl rfl (by kernel_rfl) t30) rfl)
        · intro a wa hs hf hd
          have t31 : a.eval (.tmp 31) = _ := hd.at 10 31 (by kernel_rfl)
          exact plain_ rfl (yes_eqv (o_load1 rfl Proofs.Try.underlying114 rfl t31 (cell_since ec hs rfl)) rfl)
        · intro a wa hs hf hd
          have t32 : a.eval (.tmp 32) = _ := hd.at 11 32 (by kernel_rfl)
          exact plain_ rfl (yes_eqv (o_len rfl Proofs.Try.underlying114 t32) rfl)
        · intro a wa hs hf hd
          have t33 : a.eval (.tmp 33) = _ := hd.at 12 33 (by kernel_rfl)
          exact plain_ rfl (yes_eqv (o_sub rfl t33 rfl (by have := HN.out; rw [IntKind.wrap_i64]; omega)) rfl)
        · intro a wa hs hf hd
          have t26 : a.eval (.tmp 26) = _ := hd.at 5 26 (by kernel_rfl)
          have t34 : a.eval (.tmp 34) = _ := hd.at 13 34 (by kernel_rfl)
          exact plain_ rfl (yes_eqv (o_indexAddr (sz := 11) rfl Proofs.Try.underlying114 (by kernel_rfl) t26 t34 (by omega) (by omega)) rfl)
        · intro a wa hs hf hd
          have t35 : a.eval (.tmp 35) = _ := hd.at 14 35 (by kernel_rfl)
          exact plain_ rfl (yes_eqv (o_loadN (cs := frameCells f (.slice as_ f.S.length cs_)) rfl Proofs.Try.underlying95 rfl (by kernel_rfl) t35 (fun j x hj => cell_since (ef1 j x hj) hs rfl)) rfl)
        · intro a wb wa hs1 hs hf hd hrun
          have t4 := hf.off 4 (by kernel_rfl) rfl
          have t36 : a.eval (.tmp 36) = _ := hd.at 15 36 (by kernel_rfl)
          subst hrun; exact ⟨_, o_store rfl t4 t36 (B1.since hs1 rfl) (by kernel_rfl) (by simp [Value.cells, Value.oneCell']) (by simp [Value.cells]) rfl, Since.put hs (.inr (by simp))⟩
        · intro a wb wa hs1 hs hf hd
          exact plain_ rfl (late_eqv (o_assign rfl rfl) rfl)
      case hG => exact ⟨stable_eqv _, stable_eqv _, stable_eqv _, stable_eqv _, stable_eqv _, stable_eqv _, stable_eqv _, stable_eqv _, stable_eqv _, stable_eqv _, stable_eqv _, stable_eqv _, stable_eqv _, stable_eqv _, stable_eqv _, stable_eqv _, stable_any, stable_eqv _, trivial⟩
      case hc => kernel_rfl
      case hfin =>
        intro w5 hs5
        rintro _ rfl _ rfl _ rfl _ rfl _ rfl _ rfl _ rfl _ rfl _ rfl _ rfl _ rfl _ rfl _ rfl _ rfl _ rfl _ rfl _ rfl
        rintro w6 ⟨o, w7, ho7, hr7, rfl⟩
        cases ho7
        simp only [Act.put, List.setIfInBounds_toArray, List.set_cons_zero, List.set_cons_succ] at hr7 ⊢
        cases (hr7.symm.trans (o_store (v := .agg #[.int .i64 f.op, .int .i64 f.pc, .int .i64 (gi f.R 0), .int .i64 (gi f.R 1), .int .i64 (gi f.R 2), .int .i64 (gi f.R 3), .int .i64 (gi f.R 4), .int .i64 (gi f.R 5), .int .i64 (gi f.R 6), .int .i64 (gi f.R 7), .slice as_ f.S.length cs_]) (new := #[.int .i64 f.op, .int .i64 f.pc, .int .i64 (gi f.R 0), .int .i64 (gi f.R 1), .int .i64 (gi f.R 2), .int .i64 (gi f.R 3), .int .i64 (gi f.R 4), .int .i64 (gi f.R 5), .int .i64 (gi f.R 6), .int .i64 (gi f.R 7), .slice as_ f.S.length cs_]) rfl rfl rfl (B1.since hs5 rfl) (by kernel_rfl) (by simp [Value.cells, Value.oneCell']) (by simp [Value.cells]) (by kernel_rfl)))
        go_wp2
        have hE6 : Ext w (put w5 (w.heap.size + 1) (.cells #[.int .i64 f.op, .int .i64 f.pc, .int .i64 (gi f.R 0), .int .i64 (gi f.R 1), .int .i64 (gi f.R 2), .int .i64 (gi f.R 3), .int .i64 (gi f.R 4), .int .i64 (gi f.R 5), .int .i64 (gi f.R 6), .int .i64 (gi f.R 7), .slice as_ f.S.length cs_] 95 (0, 0))) := Since.to_ext ((Since.of_ext (hE1.trans (Since.to_ext hs5))).put (.inl (by omega)))
        exact bodyPost_ret (ret_cell_tmp (B1.since hs5 rfl).put Proofs.Try.results81 rfl Proofs.Try.underlying95 rfl (by kernel_rfl)) rfl ⟨_, rfl, hE6, _, by first | rfl | (rw [ht]; rfl), (by first | exact ⟨_, rfl, hR, _, rfl, hS.ext hE6⟩ | (rw [htf]; exact ⟨_, rfl, hR, _, rfl, hS.ext hE6⟩))⟩
set_option maxHeartbeats 1000000 in
set_option maxRecDepth 100000 in
theorem refTop_ (N : Nat → Prop) (v : Value) (s : SysD) (id : Int) (w : World) (h : IsSys N w v s) : Gives Proofs.Try.prog 82 #[v, .int .i64 id] w (fun r w' => ∃ u, r = .tuple #[u, .bool (topD s id).isSome] ∧ IsFrame N w' u (topF s id)) := by
  obtain ⟨aw, cw, ag, cg, ac, cc, al, cl, rfl, hw, hg, hc, hl⟩ := h.opened
  cases hh : hasD s id
  · have ht : topD s id = none := by simp [topD, hh]
    have htf : topF s id = zeroF := by simp [topF, ht]
    by_cases h1 : id < 0
    · have h2 : True := trivial
      go_enter Proofs.Try.func82, Proofs.Try.ntmps82
      go_wp2
      refine bodyPost_ret (ret_cell_tmp (Box.two _ _ _ _ _) Proofs.Try.results82 rfl Proofs.Try.underlying95 rfl (by kernel_rfl)) rfl ⟨_, rfl, exq, _, by first | rfl | (rw [ht]; rfl), ?_⟩
      first | exact zero_frame N _ | (rw [htf]; exact zero_frame N _)
    · have h2 : (s.C.length : Int) ≤ id := by simp [hasD] at hh; omega
      go_enter Proofs.Try.func82, Proofs.Try.ntmps82
      go_wp2
      refine bodyPost_ret (ret_cell_tmp (Box.two _ _ _ _ _) Proofs.Try.results82 rfl Proofs.Try.underlying95 rfl (by kernel_rfl)) rfl ⟨_, rfl, exq, _, by first | rfl | (rw [ht]; rfl), ?_⟩
      first | exact zero_frame N _ | (rw [htf]; exact zero_frame N _)
  · obtain ⟨k, rfl⟩ : ∃ k : Nat, id = k := ⟨id.toNat, by simp [hasD] at hh; omega⟩
    have hk : k < s.C.length := by simp [hasD] at hh; omega
    have hk1 : (k : Int) < (s.C.length : Int) := by omega
    have hk0 : ¬ (k : Int) < 0 := by omega
    have hk2 : ¬ (s.C.length : Int) ≤ (k : Int) := by omega
    have hk3 : ¬ s.C.length ≤ k := by omega
    obtain ⟨c, hck⟩ : ∃ c, s.C[k]? = some c := ⟨_, List.getElem?_eq_getElem hk⟩
    obtain ⟨bc, oc, af, cf, ar, cr, rfl, xc, nc, hx3, hf, hr, e0, e1, e2, e3, e4, e5, e6⟩ := IsCores.at hc hck
    have htc : topD s k = c.F[c.F.length - 1]? := by simp [topD, hh, hck]
    by_cases hn : c.F.length = 0
    · have ht : topD s k = none := by rw [htc, hn]; simp; exact List.eq_nil_of_length_eq_zero hn
      have htf : topF s k = zeroF := by simp [topF, ht]
      have hn1 : ((c.F.length : Int) == 0) = true := by simp [hn]
      go_enter Proofs.Try.func82, Proofs.Try.ntmps82
      go_wp2
      refine bodyPost_ret (ret_cell_tmp (Box.two _ _ _ _ _) Proofs.Try.results82 rfl Proofs.Try.underlying95 rfl (by kernel_rfl)) rfl ⟨_, rfl, exq, _, by first | rfl | (rw [ht]; rfl), ?_⟩
      first | exact zero_frame N _ | (rw [htf]; exact zero_frame N _)
    · obtain ⟨n, hn2⟩ : ∃ n, c.F.length = n + 1 := ⟨c.F.length - 1, by omega⟩
      have hnl : n < c.F.length := by omega
      obtain ⟨f, hfn⟩ : ∃ f, c.F[n]? = some f := ⟨_, List.getElem?_eq_getElem hnl⟩
      have ht : topD s k = some f := by rw [htc, hn2]; exact hfn
      have htf : topF s k = f := by simp [topF, ht]
      obtain ⟨bf, of, sv, rfl, xf, nf, hR, hS, ef⟩ := IsFrames.at hf hfn
      obtain ⟨as_, cs_, rfl, _⟩ := hS.opened
      have hn1 : ((c.F.length : Int) == 0) = false := beq_eq_false_iff_ne.2 (by omega)
      have hn3 : ¬ c.F = [] := fun e => by rw [e] at hn2; simp at hn2
      have hfl : c.F.length ≤ 9223372036854775807 := by obtain ⟨_, _, ee, h1, h2, _⟩ := hf; cases ee; omega
      have HN := Lib.hid hn2
      clear hn2 hn
      go_enter Proofs.Try.func82, Proofs.Try.ntmps82
      go_wp2_with (fail)
      obtain ⟨W, hW⟩ : ∃ W, W = ((w.alloc (.cells #[.slice aw s.M.W.length cw, .slice ag s.M.G.length cg, .bool s.M.bad, .slice (some ⟨bc, oc, none⟩) s.C.length cc, .slice al s.L.length cl] 83)).alloc (.cells #[.int .i64 0, .int .i64 0, .int .i64 0, .int .i64 0, .int .i64 0, .int .i64 0, .int .i64 0, .int .i64 0, .int .i64 0, .int .i64 0, .slice none 0 0] 95)) := ⟨_, rfl⟩
      have hE1 : Ext w W := by rw [hW]; exact exq
      have B0 : Box W w.heap.size #[.slice aw s.M.W.length cw, .slice ag s.M.G.length cg, .bool s.M.bad, .slice (some ⟨bc, oc, none⟩) s.C.length cc, .slice al s.L.length cl] 83 := by rw [hW]; exact (Box.new _ _ _).alloc _
      have B1 : Box W (w.heap.size + 1) #[.int .i64 0, .int .i64 0, .int .i64 0, .int .i64 0, .int .i64 0, .int .i64 0, .int .i64 0, .int .i64 0, .int .i64 0, .int .i64 0, .slice none 0 0] 95 := by rw [hW]; exact Box.two _ _ _ _ _
      rw [← hW]
      clear hW
      have ec : W.cell? ⟨bc, oc + (k : Int).toNat * 7 + 0, none⟩ = some (.slice (some ⟨bf, of, none⟩) c.F.length cf) := by simpa using cell_ext e0 hE1
      have ef1 : ∀ j x, (frameCells f (.slice as_ f.S.length cs_))[j]? = some x → W.cell? ⟨bf, of + (n : Int).toNat * 11 + j, none⟩ = some x := fun j x hj => by simpa using cell_ext (ef j x hj) hE1
      apply region_lit2 (T := [16]) (L := [17]) (X := [w.heap.size + 1]) (G := [eqv _, eqv _, eqv _, eqv _, eqv _, eqv _, eqv _, eqv _, eqv _, eqv _, eqv _, eqv _, eqv _, eqv (.int .i64 (n : Nat)), eqv _, eqv (.agg #[.int .i64 f.op, .int .i64 f.pc, .int .i64 (gi f.R 0), .int .i64 (gi f.R 1), .int .i64 (gi f.R 2), .int .i64 (gi f.R 3), .int .i64 (gi f.R 4), .int .i64 (gi f.R 5), .int .i64 (gi f.R 6), .int .i64 (gi f.R 7), .slice as_ f.S.length cs_]), anyG, eqv _])
      case hm => kernel_rfl
      case hop =>
        refine ⟨?_, ?_, ?_, ?_, ?_, ?_, ?_, ?_, ?_, ?_, ?_, ?_, ?_, ?_, ?_, ?_, ?_, ?_, trivial⟩
        · intro a wa hs hf hd
          have t2 := hf.off 2 (by kernel_rfl) rfl
          exact plain_ rfl (yes_eqv (o_fieldAddr rfl Proofs.Try.underlying83 rfl rfl (by kernel_rfl) t2) rfl)
        · intro a wa hs hf hd
          have t26 : a.eval (.tmp 26) = _ := hd.at 0 26 (by kernel_rfl)
          exact plain_ rfl (yes_eqv (o_load1 rfl Proofs.Try.underlying80 rfl t26 ((B0.since hs rfl).cell rfl)) rfl)
        · intro a wa hs hf hd
          have t1 := hf.off 1 (by kernel_rfl) rfl
          exact plain_ rfl (yes_eqv (o_move rfl t1) rfl)
        · intro a wa hs hf hd
          have t27 : a.eval (.tmp 27) = _ := hd.at 1 27 (by kernel_rfl)
          have t28 : a.eval (.tmp 28) = _ := hd.at 2 28 (by kernel_rfl)
          exact plain_ rfl (yes_eqv (o_indexAddr (sz := 7) rfl Proofs.Try.underlying80 (by kernel_rfl) t27 t28 (by omega) (by omega)) rfl)
        · intro a wa hs hf hd
          have t29 : a.eval (.tmp 29) = _ := hd.at 3 29 (by kernel_rfl)
          exact plain_ rfl (yes_eqv (o_fieldAddr rfl Proofs.Try.underlying116 rfl rfl (by kernel_rfl) t29) rfl)
        · intro a wa hs hf hd
          have t30 : a.eval (.tmp 30) = _ := hd.at 4 30 (by kernel_rfl)
          exact plain_ rfl (yes_eqv (o_load1 rfl Proofs.Try.underlying114 rfl t30 (cell_since ec hs rfl)) rfl)
        · intro a wa hs hf hd
          have t2 := hf.off 2 (by kernel_rfl) rfl
          exact plain_ rfl (yes_eqv (o_fieldAddr rfl Proofs.Try.underlying83 rfl rfl (by kernel_rfl) t2) rfl)
        · intro a wa hs hf hd
          have t32 : a.eval (.tmp 32) = _ := hd.at 6 32 (by kernel_rfl)
          exact plain_ rfl (yes_eqv (o_load1 rfl Proofs.Try.underlying80 rfl t32 ((B0.since hs rfl).cell rfl)) rfl)
        · intro a wa hs hf hd
          have t1 := hf.off 1 (by kernel_rfl) rfl
          exact plain_ rfl (yes_eqv (o_move rfl t1) rfl)
        · intro a wa hs hf hd
          have t33 : a.eval (.tmp 33) = _ := hd.at 7 33 (by kernel_rfl)
          have t34 : a.eval (.tmp 34) = _ := hd.at 8 34 (by kernel_rfl)
          exact plain_ rfl (yes_eqv (o_indexAddr (sz := 7) rfl Proofs.Try.underlying80 (by kernel_rfl) t33 t34 (by omega) (by omega)) rfl)
        · intro a wa hs hf hd
          have t35 : a.eval (.tmp 35) = _ := hd.at 9 35 (by kernel_rfl)
          exact plain_ rfl (yes_eqv (o_fieldAddr rfl Proofs.Try.underlying116 rfl rfl (by kernel_rfl) t35) rfl)
        · intro a wa hs hf hd
          have t36 : a.eval (.tmp 36) = _ := hd.at 10 36 (by kernel_rfl)
          exact plain_ rfl (yes_eqv (o_load1 rfl Proofs.Try.underlying114 rfl t36 (cell_since ec hs rfl)) rfl)
        · intro a wa hs hf hd
          have t37 : a.eval (.tmp 37) = _ := hd.at 11 37 (by kernel_rfl)
          exact plain_ rfl (yes_eqv (o_len rfl Proofs.Try.underlying114 t37) rfl)
        · intro a wa hs hf hd
          have t38 : a.eval (.tmp 38) = _ := hd.at 12 38 (by kernel_rfl)
          exact plain_ rfl (yes_eqv (o_sub rfl t38 rfl (by have := HN.out; rw [IntKind.wrap_i64]; omega)) rfl)
        · intro a wa hs hf hd
          have t31 : a.eval (.tmp 31) = _ := hd.at 5 31 (by kernel_rfl)
          have t39 : a.eval (.tmp 39) = _ := hd.at 13 39 (by kernel_rfl)
          exact plain_ rfl (yes_eqv (o_indexAddr (sz := 11) rfl Proofs.Try.underlying114 (by kernel_rfl) t31 t39 (by omega) (by omega)) rfl)
        · intro a wa hs hf hd
          have t40 : a.eval (.tmp 40) = _ := hd.at 14 40 (by kernel_rfl)
          exact plain_ rfl (yes_eqv (o_loadN (cs := frameCells f (.slice as_ f.S.length cs_)) rfl Proofs.Try.underlying95 rfl (by kernel_rfl) t40 (fun j x hj => cell_since (ef1 j x hj) hs rfl)) rfl)
        · intro a wb wa hs1 hs hf hd hrun
          have t4 := hf.off 4 (by kernel_rfl) rfl
          have t41 : a.eval (.tmp 41) = _ := hd.at 15 41 (by kernel_rfl)
          subst hrun; exact ⟨_, o_store rfl t4 t41 (B1.since hs1 rfl) (by kernel_rfl) (by simp [Value.cells, Value.oneCell']) (by simp [Value.cells]) rfl, Since.put hs (.inr (by simp))⟩
        · intro a wb wa hs1 hs hf hd
          exact plain_ rfl (late_eqv (o_assign rfl rfl) rfl)
      case hG => exact ⟨stable_eqv _, stable_eqv _, stable_eqv _, stable_eqv _, stable_eqv _, stable_eqv _, stable_eqv _, stable_eqv _, stable_eqv _, stable_eqv _, stable_eqv _, stable_eqv _, stable_eqv _, stable_eqv _, stable_eqv _, stable_eqv _, stable_any, stable_eqv _, trivial⟩
      case hc => kernel_rfl
      case hfin =>
        intro w5 hs5
        rintro _ rfl _ rfl _ rfl _ rfl _ rfl _ rfl _ rfl _ rfl _ rfl _ rfl _ rfl _ rfl _ rfl _ rfl _ rfl _ rfl _ rfl
        rintro w6 ⟨o, w7, ho7, hr7, rfl⟩
        cases ho7
        simp only [Act.put, List.setIfInBounds_toArray, List.set_cons_zero, List.set_cons_succ] at hr7 ⊢
        cases (hr7.symm.trans (o_store (v := .agg #[.int .i64 f.op, .int .i64 f.pc, .int .i64 (gi f.R 0), .int .i64 (gi f.R 1), .int .i64 (gi f.R 2), .int .i64 (gi f.R 3), .int .i64 (gi f.R 4), .int .i64 (gi f.R 5), .int .i64 (gi f.R 6), .int .i64 (gi f.R 7), .slice as_ f.S.length cs_]) (new := #[.int .i64 f.op, .int .i64 f.pc, .int .i64 (gi f.R 0), .int .i64 (gi f.R 1), .int .i64 (gi f.R 2), .int .i64 (gi f.R 3), .int .i64 (gi f.R 4), .int .i64 (gi f.R 5), .int .i64 (gi f.R 6), .int .i64 (gi f.R 7), .slice as_ f.S.length cs_]) rfl rfl rfl (B1.since hs5 rfl) (by kernel_rfl) (by simp [Value.cells, Value.oneCell']) (by simp [Value.cells]) (by kernel_rfl)))
        go_wp2
        have hE6 : Ext w (put w5 (w.heap.size + 1) (.cells #[.int .i64 f.op, .int .i64 f.pc, .int .i64 (gi f.R 0), .int .i64 (gi f.R 1), .int .i64 (gi f.R 2), .int .i64 (gi f.R 3), .int .i64 (gi f.R 4), .int .i64 (gi f.R 5), .int .i64 (gi f.R 6), .int .i64 (gi f.R 7), .slice as_ f.S.length cs_] 95 (0, 0))) := Since.to_ext ((Since.of_ext (hE1.trans (Since.to_ext hs5))).put (.inl (by omega)))
        exact bodyPost_ret (ret_cell_tmp (B1.since hs5 rfl).put Proofs.Try.results82 rfl Proofs.Try.underlying95 rfl (by kernel_rfl)) rfl ⟨_, rfl, hE6, _, by first | rfl | (rw [ht]; rfl), (by first | exact ⟨_, rfl, hR, _, rfl, hS.ext hE6⟩ | (rw [htf]; exact ⟨_, rfl, hR, _, rfl, hS.ext hE6⟩))⟩

def eq8 (a b : List Int) : Bool := decide ([gi a 0, gi a 1, gi a 2, gi a 3, gi a 4, gi a 5, gi a 6, gi a 7] = [gi b 0, gi b 1, gi b 2, gi b 3, gi b 4, gi b 5, gi b 6, gi b 7])
def eq3 (a b : List Int) : Bool := decide ([gi a 0, gi a 1, gi a 2] = [gi b 0, gi b 1, gi b 2])
@[go_sem] theorem run_eq8 (a b : List Int) (w : World) : (Op.equalIn 10000 93 (.agg #[.int .i64 (gi a 0), .int .i64 (gi a 1), .int .i64 (gi a 2), .int .i64 (gi a 3), .int .i64 (gi a 4), .int .i64 (gi a 5), .int .i64 (gi a 6), .int .i64 (gi a 7)])
    (.agg #[.int .i64 (gi b 0), .int .i64 (gi b 1), .int .i64 (gi b 2), .int .i64 (gi b 3), .int .i64 (gi b 4), .int .i64 (gi b 5), .int .i64 (gi b 6), .int .i64 (gi b 7)])).run Proofs.Try.prog w = .ok (eq8 a b) w :=
  run_equalIn_ints (P := Proofs.Try.prog) w Proofs.Try.underlying3 9998 [gi a 0, gi a 1, gi a 2, gi a 3, gi a 4, gi a 5, gi a 6, gi a 7] [gi b 0, gi b 1, gi b 2, gi b 3, gi b 4, gi b 5, gi b 6, gi b 7] rfl Proofs.Try.underlying93 (by kernel_rfl)
@[go_sem] theorem run_eq3 (a b : List Int) (w : World) : (Op.equalIn 10000 41 (.agg #[.int .i64 (gi a 0), .int .i64 (gi a 1), .int .i64 (gi a 2)]) (.agg #[.int .i64 (gi b 0), .int .i64 (gi b 1), .int .i64 (gi b 2)])).run Proofs.Try.prog w = .ok (eq3 a b) w :=
  run_equalIn_ints (P := Proofs.Try.prog) w Proofs.Try.underlying3 9998 [gi a 0, gi a 1, gi a 2] [gi b 0, gi b 1, gi b 2] rfl Proofs.Try.underlying41 (by kernel_rfl)
def sameF (a b : FrameD) : Bool := a.op == b.op && (a.pc == b.pc && (eq8 a.R b.R && a.S == b.S))
theorem IsFrame.opened {N : Nat → Prop} {w : World} {v : Value} {f : FrameD} (h : IsFrame N w v f) : ∃ a cap, v = .agg #[.int .i64 f.op, .int .i64 f.pc, .int .i64 (gi f.R 0), .int .i64 (gi f.R 1), .int .i64 (gi f.R 2), .int .i64 (gi f.R 3), .int .i64 (gi f.R 4), .int .i64 (gi f.R 5), .int .i64 (gi f.R 6), .int .i64 (gi f.R 7), .slice a f.S.length cap] ∧ f.R.length = 8 ∧ IsInts N w (.slice a f.S.length cap) f.S := by
  obtain ⟨cs, rfl, h8, s, rfl, hs⟩ := h
  obtain ⟨a, cap, rfl, _⟩ := hs.opened
  exact ⟨a, cap, rfl, h8, hs⟩
set_option maxRecDepth 100000 in
theorem sameFrame_ (N : Nat → Prop) (va vb : Value) (a b : FrameD) (w : World) (ha : IsFrame N w va a) (hb : IsFrame N w vb b) : Gives Proofs.Try.prog 163 #[va, vb] w (eqv (.bool (sameF a b))) := by
  obtain ⟨pa, ca, rfl, _, sa⟩ := ha.opened
  obtain ⟨pb, cb, rfl, _, sb⟩ := hb.opened
  cases h1 : a.op == b.op
  · go_enter Proofs.Try.func163, Proofs.Try.ntmps163
    go_wp2
    go_ret
    exact ⟨_, rfl, exq, by simp [sameF, h1, eqv]⟩
  · cases h2 : a.pc == b.pc
    · go_enter Proofs.Try.func163, Proofs.Try.ntmps163
      go_wp2
      go_ret
      exact ⟨_, rfl, exq, by simp [sameF, h1, h2, eqv]⟩
    · cases h3 : eq8 a.R b.R
      · go_enter Proofs.Try.func163, Proofs.Try.ntmps163
        go_wp2
        go_ret
        exact ⟨_, rfl, exq, by simp [sameF, h1, h2, h3, eqv]⟩
      · have hd : sameF a b = (a.S == b.S) := by simp [sameF, h1, h2, h3]
        rw [hd]
        go_enter Proofs.Try.func163, Proofs.Try.ntmps163
        go_wp2_with (fail)
        go_at_call 122
        refine (equal_ N _ _ a.S b.S _ (sa.ext exq) (sb.ext exq)).calls.mono ?_
        rintro e w1 ⟨_, rfl, hb1, rfl⟩
        go_wp2
        go_ret
        exact ⟨_, rfl, exq, rfl⟩

/-- element by element -/
def all2 {α : Type} (p : α → α → Bool) : List α → List α → Bool
  | [], [] => true
  | a :: l, b :: m => p a b && all2 p l m
  | _, _ => false
theorem all2_len {α : Type} {p : α → α → Bool} : ∀ {a b : List α}, a.length ≠ b.length → all2 p a b = false
  | [], [], h => absurd rfl h
  | [], _ :: _, _ => rfl
  | _ :: _, [], _ => rfl
  | _ :: l, _ :: m, h => by simp only [all2, all2_len (a := l) (b := m) (by simpa using h), Bool.and_false]
theorem all2_no {α : Type} {p : α → α → Bool} : ∀ {a b : List α} {i : Nat} {x y : α}, a[i]? = some x → b[i]? = some y → p x y = false → all2 p a b = false
  | [], _, _, _, _, h, _, _ => by simp at h
  | _ :: _, [], _, _, _, _, h, _ => by simp at h
  | _ :: l, _ :: m, 0, _, _, h1, h2, h3 => by simp at h1 h2; subst h1 h2; simp [all2, h3]
  | _ :: l, _ :: m, i + 1, _, _, h1, h2, h3 => by simp only [all2, all2_no (a := l) (b := m) (i := i) (by simpa using h1) (by simpa using h2) h3, Bool.and_false]
theorem all2_yes {α : Type} {p : α → α → Bool} : ∀ {a b : List α}, a.length = b.length → (∀ (i : Nat) x y, i < a.length → a[i]? = some x → b[i]? = some y → p x y = true) → all2 p a b = true
  | [], [], _, _ => rfl
  | [], _ :: _, h, _ => by simp at h
  | _ :: _, [], h, _ => by simp at h
  | x :: l, y :: m, h, k => by
    simp only [all2, k 0 x y (by simp) rfl rfl, Bool.true_and]
    exact all2_yes (by simpa using h) fun i u v hi hu hv => k (i + 1) u v (by simpa using hi) (by simpa using hu) (by simpa using hv)
theorem all2_refl {α : Type} {p : α → α → Bool} (hp : ∀ x, p x x = true) (a : List α) : all2 p a a = true := all2_yes rfl fun i x y _ h1 h2 => by rw [h1] at h2; cases h2; exact hp x
theorem getSome {α : Type} {l : List α} {i : Nat} (h : i < l.length) : ∃ x, l[i]? = some x := ⟨_, List.getElem?_eq_getElem h⟩
/-- a frame's cells, where it stands -/
theorem IsFrames.cells {N : Nat → Prop} {w : World} {a : Option Addr} {n cap : Nat} {l : List FrameD} (h : IsFrames N w (.slice a n cap) l) {i : Nat} {f : FrameD} (hi : l[i]? = some f) :
    ∃ b off as_ cs_, a = some ⟨b, off, none⟩ ∧ b < w.heap.size ∧ ¬ N b ∧ f.R.length = 8 ∧ IsInts N w (.slice as_ f.S.length cs_) f.S ∧
      (w.cell? ⟨b, off + i * 11, none⟩ = some (.int .i64 f.op) ∧ w.cell? ⟨b, off + i * 11 + 1, none⟩ = some (.int .i64 f.pc) ∧ w.cell? ⟨b, off + i * 11 + 2, none⟩ = some (.int .i64 (gi f.R 0)) ∧ w.cell? ⟨b, off + i * 11 + 3, none⟩ = some (.int .i64 (gi f.R 1)) ∧
      w.cell? ⟨b, off + i * 11 + 4, none⟩ = some (.int .i64 (gi f.R 2)) ∧ w.cell? ⟨b, off + i * 11 + 5, none⟩ = some (.int .i64 (gi f.R 3)) ∧ w.cell? ⟨b, off + i * 11 + 6, none⟩ = some (.int .i64 (gi f.R 4)) ∧ w.cell? ⟨b, off + i * 11 + 7, none⟩ = some (.int .i64 (gi f.R 5)) ∧
      w.cell? ⟨b, off + i * 11 + 8, none⟩ = some (.int .i64 (gi f.R 6)) ∧ w.cell? ⟨b, off + i * 11 + 9, none⟩ = some (.int .i64 (gi f.R 7)) ∧ w.cell? ⟨b, off + i * 11 + 10, none⟩ = some (.slice as_ f.S.length cs_)) := by
  obtain ⟨b, off, s, rfl, hb, hn, h8, hs, hc⟩ := IsFrames.at h hi
  obtain ⟨as_, cs_, rfl, _⟩ := hs.opened
  exact ⟨b, off, as_, cs_, rfl, hb, hn, h8, hs, hc 0 _ rfl, hc 1 _ rfl, hc 2 _ rfl, hc 3 _ rfl, hc 4 _ rfl, hc 5 _ rfl, hc 6 _ rfl, hc 7 _ rfl, hc 8 _ rfl, hc 9 _ rfl, hc 10 _ rfl⟩
theorem frame_of {N : Nat → Prop} {w : World} {f : FrameD} {as_ : Option Addr} {cs_ : Nat} (h8 : f.R.length = 8) (hs : IsInts N w (.slice as_ f.S.length cs_) f.S) :
    IsFrame N w (.agg #[.int .i64 f.op, .int .i64 f.pc, .int .i64 (gi f.R 0), .int .i64 (gi f.R 1), .int .i64 (gi f.R 2), .int .i64 (gi f.R 3), .int .i64 (gi f.R 4), .int .i64 (gi f.R 5), .int .i64 (gi f.R 6), .int .i64 (gi f.R 7), .slice as_ f.S.length cs_]) f := ⟨_, rfl, h8, _, rfl, hs⟩
set_option maxHeartbeats 1000000 in
set_option maxRecDepth 100000 in
theorem equalFrames_ (N : Nat → Prop) (va vb : Value) (a b : List FrameD) (w : World) (ha : IsFrames N w va a) (hb : IsFrames N w vb b) : Gives Proofs.Try.prog 162 #[va, vb, .func (.func 163) #[] #[]] w (eqv (.bool (all2 sameF a b))) := by
  obtain ⟨pa, ca, rfl, ha, ra, la, _⟩ := IsSl.opened ha
  obtain ⟨pb, cb, rfl, hb, rb, lb, _⟩ := IsSl.opened hb
  by_cases hl : a.length = b.length
  · have hl1 : ((a.length : Int) != (b.length : Int)) = false := by simp [hl]
    have HL := Lib.hid hl
    clear hl
    go_enter Proofs.Try.func162, Proofs.Try.ntmps162
    go_wp2
    go_loopw [17] (fun kk wr => ∃ k : Nat, k ≤ a.length ∧ kk = .int .i64 k ∧ (∀ (i : Nat) x y, i < k → a[i]? = some x → b[i]? = some y → sameF x y = true) ∧ Ext w wr) (fun kk _ => a.length - (intOf kk).toNat)
    case atStart => exact ⟨0, Nat.zero_le _, rfl, fun i x y hi => by omega, Ext.refl _⟩
    case round =>
      obtain ⟨k, hk, rfl, hall, hE⟩ := hrel
      by_cases hlt : k < a.length
      · have hlt1 : (k : Int) < (b.length : Int) := by have := HL.out; omega
        have hlt2 : (k : Int) < (a.length : Int) := by omega
        obtain ⟨x, hx⟩ := getSome hlt
        obtain ⟨y, hy⟩ := getSome (show k < b.length by omega)
        obtain ⟨ba, oa, xs, xc, rfl, xa, na, h8a, hsa, a0, a1, a2, a3, a4, a5, a6, a7, a8, a9, a10⟩ := IsFrames.cells ha hx
        obtain ⟨bb, ob, ys, yc, rfl, xb, nb, h8b, hsb, b0, b1, b2, b3, b4, b5, b6, b7, b8, b9, b10⟩ := IsFrames.cells hb hy
        have a0 := cell_ext a0 hE; have a1 := cell_ext a1 hE; have a2 := cell_ext a2 hE; have a3 := cell_ext a3 hE; have a4 := cell_ext a4 hE; have a5 := cell_ext a5 hE; have a6 := cell_ext a6 hE; have a7 := cell_ext a7 hE; have a8 := cell_ext a8 hE; have a9 := cell_ext a9 hE; have a10 := cell_ext a10 hE
        have b0 := cell_ext b0 hE; have b1 := cell_ext b1 hE; have b2 := cell_ext b2 hE; have b3 := cell_ext b3 hE; have b4 := cell_ext b4 hE; have b5 := cell_ext b5 hE; have b6 := cell_ext b6 hE; have b7 := cell_ext b7 hE; have b8 := cell_ext b8 hE; have b9 := cell_ext b9 hE; have b10 := cell_ext b10 hE
        have zb : bb < wr.heap.size := World.block_lt_of_cell? _ _ b0
        have za : ba < wr.heap.size := World.block_lt_of_cell? _ _ a0
        cases hs : sameF x y
        · go_wp2_with (fail)
          have hc := fun w' (e : Ext w w') => sameFrame_ N _ _ x y w' ((frame_of h8a hsa).ext e) ((frame_of h8b hsb).ext e)
          rw [hs] at hc
          go_at_call 163
          refine (hc _ exq).calls.mono ?_
          rintro e w1 ⟨_, rfl, hb1, rfl⟩
          have hn : all2 sameF a b = false := all2_no hx hy hs
          go_wp2
          go_ret
          exact ⟨_, rfl, exq, by first | rfl | (rw [hn]; rfl)⟩
        · go_wp2_with (fail)
          have hc := fun w' (e : Ext w w') => sameFrame_ N _ _ x y w' ((frame_of h8a hsa).ext e) ((frame_of h8b hsb).ext e)
          rw [hs] at hc
          go_at_call 163
          refine (hc _ exq).calls.mono ?_
          rintro e w1 ⟨_, rfl, hb1, rfl⟩
          go_wp2
          go_roundw
          case rel => exact ⟨k + 1, by omega, by simp, fun i u v hi hu hv => (Nat.lt_succ_iff_lt_or_eq.1 hi).elim (fun h => hall i u v h hu hv) (fun h => by subst h; rw [hx] at hu; rw [hy] at hv; cases hu; cases hv; exact hs), exq⟩
          case measure => simp [intOf]; omega
      · have hlt1 : ¬ (k : Int) < (a.length : Int) := by omega
        have hy : all2 sameF a b = true := all2_yes HL.out fun i x y hi => hall i x y (by omega)
        go_wp2
        go_ret
        exact ⟨_, rfl, hE, by first | rfl | (rw [hy]; rfl)⟩
  · have hl1 : ((a.length : Int) != (b.length : Int)) = true := by simp; omega
    have hn : all2 sameF a b = false := all2_len hl
    go_enter Proofs.Try.func162, Proofs.Try.ntmps162
    go_wp2
    go_ret
    exact ⟨_, rfl, Ext.refl _, by first | rfl | (rw [hn]; rfl)⟩

def sameC (a b : CoreD) : Bool := a.V == b.V && (a.E == b.E && (eq3 a.X b.X && (a.Ret == b.Ret && all2 sameF a.F b.F)))
/-- a core as a value -/
def IsCoreV (N : Nat → Prop) (w : World) (v : Value) (c : CoreD) : Prop := ∃ cs, v = .agg cs.toArray ∧ RC N w c cs
theorem IsCoreV.keep {N : Nat → Prop} {w w' : World} {v : Value} {c : CoreD} (h : IsCoreV N w v c) (k : Keep N w w') : IsCoreV N w' v c := by
  obtain ⟨cs, h1, h2⟩ := h; exact ⟨cs, h1, h2.keep k⟩
theorem IsCoreV.ext {N : Nat → Prop} {w w' : World} {v : Value} {c : CoreD} (h : IsCoreV N w v c) (k : Ext w w') : IsCoreV N w' v c := h.keep k.keep
theorem IsCoreV.opened {N : Nat → Prop} {w : World} {v : Value} {c : CoreD} (h : IsCoreV N w v c) : ∃ af cf ar cr, v = .agg #[.slice af c.F.length cf, .int .i64 c.V, .int .i64 c.E, .int .i64 (gi c.X 0), .int .i64 (gi c.X 1), .int .i64 (gi c.X 2), .slice ar c.Ret.length cr] ∧
    c.X.length = 3 ∧ IsFrames N w (.slice af c.F.length cf) c.F ∧ IsInts N w (.slice ar c.Ret.length cr) c.Ret := by
  obtain ⟨cs, rfl, h3, f, r, rfl, hf, hr⟩ := h
  obtain ⟨af, cf, rfl, _⟩ := IsSl.opened hf
  obtain ⟨ar, cr, rfl, _⟩ := hr.opened
  exact ⟨af, cf, ar, cr, rfl, h3, hf, hr⟩
theorem core_of {N : Nat → Prop} {w : World} {c : CoreD} {af ar : Option Addr} {cf cr : Nat} (h3 : c.X.length = 3) (hf : IsFrames N w (.slice af c.F.length cf) c.F) (hr : IsInts N w (.slice ar c.Ret.length cr) c.Ret) :
    IsCoreV N w (.agg #[.slice af c.F.length cf, .int .i64 c.V, .int .i64 c.E, .int .i64 (gi c.X 0), .int .i64 (gi c.X 1), .int .i64 (gi c.X 2), .slice ar c.Ret.length cr]) c := ⟨_, rfl, h3, _, _, rfl, hf, hr⟩
set_option maxHeartbeats 1000000 in
set_option maxRecDepth 100000 in
theorem sameCore_ (N : Nat → Prop) (va vb : Value) (a b : CoreD) (w : World) (ha : IsCoreV N w va a) (hb : IsCoreV N w vb b) : Gives Proofs.Try.prog 137 #[va, vb] w (eqv (.bool (sameC a b))) := by
  obtain ⟨fa, qa, ra, pa, rfl, _, sa, ta⟩ := ha.opened
  obtain ⟨fb, qb, rb, pb, rfl, _, sb, tb⟩ := hb.opened
  cases h1 : a.V == b.V
  · go_enter Proofs.Try.func137, Proofs.Try.ntmps137
    go_wp2
    go_ret
    exact ⟨_, rfl, exq, by simp [sameC, h1, eqv]⟩
  · cases h2 : a.E == b.E
    · go_enter Proofs.Try.func137, Proofs.Try.ntmps137
      go_wp2
      go_ret
      exact ⟨_, rfl, exq, by simp [sameC, h1, h2, eqv]⟩
    · cases h3 : eq3 a.X b.X
      · go_enter Proofs.Try.func137, Proofs.Try.ntmps137
        go_wp2
        go_ret
        exact ⟨_, rfl, exq, by simp [sameC, h1, h2, h3, eqv]⟩
      · cases h4 : a.Ret == b.Ret
        · have hd : sameC a b = false := by simp only [sameC, h1, h2, h3, h4]; rfl
          rw [hd]
          have hc := fun w' (e : Ext w w') => equal_ N _ _ a.Ret b.Ret w' (ta.ext e) (tb.ext e)
          rw [h4] at hc
          go_enter Proofs.Try.func137, Proofs.Try.ntmps137
          go_wp2_with (fail)
          go_at_call 122
          refine (hc _ exq).calls.mono ?_
          rintro e w1 ⟨_, rfl, hb1, rfl⟩
          go_wp2
          go_ret
          exact ⟨_, rfl, exq, rfl⟩
        · have hd : sameC a b = all2 sameF a.F b.F := by simp only [sameC, h1, h2, h3, h4, Bool.true_and]
          rw [hd]
          have hc := fun w' (e : Ext w w') => equal_ N _ _ a.Ret b.Ret w' (ta.ext e) (tb.ext e)
          rw [h4] at hc
          go_enter Proofs.Try.func137, Proofs.Try.ntmps137
          go_wp2_with (fail)
          go_at_call 122
          refine (hc _ exq).calls.mono ?_
          rintro e w1 ⟨_, rfl, hb1, rfl⟩
          have B0 : Box w1 w.heap.size #[.slice fa a.F.length qa, .int .i64 a.V, .int .i64 a.E, .int .i64 (gi a.X 0), .int .i64 (gi a.X 1), .int .i64 (gi a.X 2), .slice ra a.Ret.length pa] 116 := ((Box.new _ _ _).alloc _).ext hb1
          have B1 : Box w1 (w.heap.size + 1) #[.slice fb b.F.length qb, .int .i64 b.V, .int .i64 b.E, .int .i64 (gi b.X 0), .int .i64 (gi b.X 1), .int .i64 (gi b.X 2), .slice rb b.Ret.length pb] 116 := (Box.two _ _ _ _ _).ext hb1
          obtain ⟨p0, p1, p2, p3, p4, p5, p6, d0, d1, d2, d3, d4, d5, d6⟩ := cells7 B0
          obtain ⟨r0, r1, r2, r3, r4, r5, r6, q0, q1, q2, q3, q4, q5, q6⟩ := cells7 B1
          have z0 : w.heap.size < w1.heap.size := B0.lt
          have z1 : w.heap.size + 1 < w1.heap.size := B1.lt
          go_wp2_with (fail)
          go_at_call 162
          refine (equalFrames_ N _ _ a.F b.F _ (IsFrames.keep sa (show Ext w _ from exq).keep) (IsFrames.keep sb (show Ext w _ from exq).keep)).calls.mono ?_
          rintro e w2 ⟨_, rfl, hb2, rfl⟩
          go_wp2
          go_ret
          exact ⟨_, rfl, exq, rfl⟩
set_option maxHeartbeats 1000000 in
set_option maxRecDepth 100000 in
theorem equalCores_ (N : Nat → Prop) (va vb : Value) (a b : List CoreD) (w : World) (ha : IsCores N w va a) (hb : IsCores N w vb b) : Gives Proofs.Try.prog 136 #[va, vb, .func (.func 137) #[] #[]] w (eqv (.bool (all2 sameC a b))) := by
  obtain ⟨pa, ca, rfl, ha, ra, la, _⟩ := IsSl.opened ha
  obtain ⟨pb, cb, rfl, hb, rb, lb, _⟩ := IsSl.opened hb
  by_cases hl : a.length = b.length
  · have hl1 : ((a.length : Int) != (b.length : Int)) = false := by simp [hl]
    have HL := Lib.hid hl
    clear hl
    go_enter Proofs.Try.func136, Proofs.Try.ntmps136
    go_wp2
    go_loopw [17] (fun kk wr => ∃ k : Nat, k ≤ a.length ∧ kk = .int .i64 k ∧ (∀ (i : Nat) x y, i < k → a[i]? = some x → b[i]? = some y → sameC x y = true) ∧ Ext w wr) (fun kk _ => a.length - (intOf kk).toNat)
    case atStart => exact ⟨0, Nat.zero_le _, rfl, fun i x y hi => by omega, Ext.refl _⟩
    case round =>
      obtain ⟨k, hk, rfl, hall, hE⟩ := hrel
      by_cases hlt : k < a.length
      · have hlt1 : (k : Int) < (b.length : Int) := by have := HL.out; omega
        have hlt2 : (k : Int) < (a.length : Int) := by omega
        obtain ⟨x, hx⟩ := getSome hlt
        obtain ⟨y, hy⟩ := getSome (show k < b.length by omega)
        obtain ⟨ba, oa, xf, xg, xr, xs, rfl, xa, na, h3a, hfa, hra, a0, a1, a2, a3, a4, a5, a6⟩ := IsCores.at ha hx
        obtain ⟨bb, ob, yf, yg, yr, ys, rfl, xb, nb, h3b, hfb, hrb, b0, b1, b2, b3, b4, b5, b6⟩ := IsCores.at hb hy
        have a0 := cell_ext a0 hE; have a1 := cell_ext a1 hE; have a2 := cell_ext a2 hE; have a3 := cell_ext a3 hE; have a4 := cell_ext a4 hE; have a5 := cell_ext a5 hE; have a6 := cell_ext a6 hE
        have b0 := cell_ext b0 hE; have b1 := cell_ext b1 hE; have b2 := cell_ext b2 hE; have b3 := cell_ext b3 hE; have b4 := cell_ext b4 hE; have b5 := cell_ext b5 hE; have b6 := cell_ext b6 hE
        have zb : bb < wr.heap.size := World.block_lt_of_cell? _ _ b0
        have za : ba < wr.heap.size := World.block_lt_of_cell? _ _ a0
        cases hs : sameC x y
        · go_wp2_with (fail)
          have hc := fun w' (e : Ext w w') => sameCore_ N _ _ x y w' ((core_of h3a hfa hra).ext e) ((core_of h3b hfb hrb).ext e)
          rw [hs] at hc
          go_at_call 137
          refine (hc _ exq).calls.mono ?_
          rintro e w1 ⟨_, rfl, hb1, rfl⟩
          have hn : all2 sameC a b = false := all2_no hx hy hs
          go_wp2
          go_ret
          exact ⟨_, rfl, exq, by first | rfl | (rw [hn]; rfl)⟩
        · go_wp2_with (fail)
          have hc := fun w' (e : Ext w w') => sameCore_ N _ _ x y w' ((core_of h3a hfa hra).ext e) ((core_of h3b hfb hrb).ext e)
          rw [hs] at hc
          go_at_call 137
          refine (hc _ exq).calls.mono ?_
          rintro e w1 ⟨_, rfl, hb1, rfl⟩
          go_wp2
          go_roundw
          case rel => exact ⟨k + 1, by omega, by simp, fun i u v hi hu hv => (Nat.lt_succ_iff_lt_or_eq.1 hi).elim (fun h => hall i u v h hu hv) (fun h => by subst h; rw [hx] at hu; rw [hy] at hv; cases hu; cases hv; exact hs), exq⟩
          case measure => simp [intOf]; omega
      · have hlt1 : ¬ (k : Int) < (a.length : Int) := by omega
        have hy : all2 sameC a b = true := all2_yes HL.out fun i x y hi => hall i x y (by omega)
        go_wp2
        go_ret
        exact ⟨_, rfl, hE, by first | rfl | (rw [hy]; rfl)⟩
  · have hl1 : ((a.length : Int) != (b.length : Int)) = true := by simp; omega
    have hn : all2 sameC a b = false := all2_len hl
    go_enter Proofs.Try.func136, Proofs.Try.ntmps136
    go_wp2
    go_ret
    exact ⟨_, rfl, Ext.refl _, by first | rfl | (rw [hn]; rfl)⟩

def sameE (a b : EvD) : Bool := a.core == b.core && (a.kind == b.kind && (a.a == b.a && (a.b == b.b && a.v == b.v)))
@[go_sem] theorem run_eqE (a b : EvD) (w : World) : (Op.equalIn 10000 108 (.agg #[.int .i64 a.core, .int .i64 a.kind, .int .i64 a.a, .int .i64 a.b, .int .i64 a.v]) (.agg #[.int .i64 b.core, .int .i64 b.kind, .int .i64 b.a, .int .i64 b.b, .int .i64 b.v])).run Proofs.Try.prog w = .ok (sameE a b) w := by
  have hu : Proofs.Try.prog.underlying 108 = some (.struct (Proofs.Try.prog.fieldsOf 108)) := by simp [Program.fieldsOf, Proofs.Try.underlying108]
  rw [run_equalIn_struct w 9999 108 _ _ hu (by kernel_rfl)]
  simp only [Program.fieldsOf, Proofs.Try.underlying108]
  have p := fun (xs : Array Value) (i : Nat) (c : Value) (hc : xs[i]? = some c) => run_part1 (P := Proofs.Try.prog) w Proofs.Try.underlying3 rfl xs i c hc
  have q := fun (x y : Int) => run_equalIn_int (P := Proofs.Try.prog) w 9998 3 .i64 .i64 x y Proofs.Try.underlying3
  simp [Op.eqFields, Sem.run_bind, p, q, sameE]
  by_cases c1 : a.core = b.core <;> by_cases c2 : a.kind = b.kind <;> by_cases c3 : a.a = b.a <;> by_cases c4 : a.b = b.b <;> by_cases c5 : a.v = b.v <;> simp [c1, c2, c3, c4, c5]
theorem IsEvs.at {N : Nat → Prop} {w : World} {a : Option Addr} {n cap : Nat} {l : List EvD} (h : IsEvs N w (.slice a n cap) l) {i : Nat} {e : EvD} (hi : l[i]? = some e) :
    ∃ b off, a = some ⟨b, off, none⟩ ∧ b < w.heap.size ∧ ¬ N b ∧ w.cell? ⟨b, off + i * 5, none⟩ = some (.int .i64 e.core) ∧ w.cell? ⟨b, off + i * 5 + 1, none⟩ = some (.int .i64 e.kind) ∧ w.cell? ⟨b, off + i * 5 + 2, none⟩ = some (.int .i64 e.a) ∧
      w.cell? ⟨b, off + i * 5 + 3, none⟩ = some (.int .i64 e.b) ∧ w.cell? ⟨b, off + i * 5 + 4, none⟩ = some (.int .i64 e.v) := by
  obtain ⟨a', cap', e', _, _, _, h4⟩ := h
  cases e'
  obtain ⟨b, off, cs, rfl, hb, hn, hl, hc, rfl⟩ := h4 i e hi
  exact ⟨b, off, rfl, hb, hn, hc 0 _ rfl, hc 1 _ rfl, hc 2 _ rfl, hc 3 _ rfl, hc 4 _ rfl⟩
theorem o_neqE {o : Oper} {ac : Act} {w : World} {x y : Operand} {s : TypeId} {a b : EvD} {r : Bool} (ho : o.op = .binOp .neq 108 x y s) (hx : ac.eval x = .agg #[.int .i64 a.core, .int .i64 a.kind, .int .i64 a.a, .int .i64 a.b, .int .i64 a.v])
    (hy : ac.eval y = .agg #[.int .i64 b.core, .int .i64 b.kind, .int .i64 b.a, .int .i64 b.b, .int .i64 b.v]) (hr : (!sameE a b) = r) : Runs Proofs.Try.prog o ac w (.bool r) := by
  have hm : Proofs.Try.prog.eqGuardType Proofs.Try.prog.depth 108 = false := by kernel_rfl
  simp only [Runs, execOp, ho, hx, hy]
  simp [run_eqGuard_agg w _ _ _ _ _ _ hm, run_neq_struct, run_eqE, hr]
set_option maxHeartbeats 1000000 in
set_option maxRecDepth 100000 in
theorem equalEvs_ (N : Nat → Prop) (va vb : Value) (a b : List EvD) (w : World) (ha : IsEvs N w va a) (hb : IsEvs N w vb b) : Gives Proofs.Try.prog 138 #[va, vb] w (eqv (.bool (all2 sameE a b))) := by
  obtain ⟨pa, ca, rfl, ha, ra, la, _⟩ := IsSl.opened ha
  obtain ⟨pb, cb, rfl, hb, rb, lb, _⟩ := IsSl.opened hb
  by_cases hl : a.length = b.length
  · have hl1 : ((a.length : Int) != (b.length : Int)) = false := by simp [hl]
    have HL := Lib.hid hl
    clear hl
    go_enter Proofs.Try.func138, Proofs.Try.ntmps138
    go_wp2
    go_loopw [13] (fun kk wr => ∃ k : Nat, k ≤ a.length ∧ kk = .int .i64 k ∧ (∀ (i : Nat) x y, i < k → a[i]? = some x → b[i]? = some y → sameE x y = true) ∧ Ext w wr) (fun kk _ => a.length - (intOf kk).toNat)
    case atStart => exact ⟨0, Nat.zero_le _, rfl, fun i x y hi => by omega, Ext.refl _⟩
    case round =>
      obtain ⟨k, hk, rfl, hall, hE⟩ := hrel
      by_cases hlt : k < a.length
      · have hlt1 : (k : Int) < (b.length : Int) := by have := HL.out; omega
        have hlt2 : (k : Int) < (a.length : Int) := by omega
        obtain ⟨x, hx⟩ := getSome hlt
        obtain ⟨y, hy⟩ := getSome (show k < b.length by omega)
        obtain ⟨ba, oa, rfl, xa, na, a0, a1, a2, a3, a4⟩ := IsEvs.at ha hx
        obtain ⟨bb, ob, rfl, xb, nb, b0, b1, b2, b3, b4⟩ := IsEvs.at hb hy
        have a0 : wr.cell? ⟨ba, oa + (k : Int).toNat * 5, none⟩ = some (.int .i64 x.core) := by simpa using cell_ext a0 hE
        have a1 : wr.cell? ⟨ba, oa + (k : Int).toNat * 5 + 1, none⟩ = some (.int .i64 x.kind) := by simpa using cell_ext a1 hE
        have a2 : wr.cell? ⟨ba, oa + (k : Int).toNat * 5 + 2, none⟩ = some (.int .i64 x.a) := by simpa using cell_ext a2 hE
        have a3 : wr.cell? ⟨ba, oa + (k : Int).toNat * 5 + 3, none⟩ = some (.int .i64 x.b) := by simpa using cell_ext a3 hE
        have a4 : wr.cell? ⟨ba, oa + (k : Int).toNat * 5 + 4, none⟩ = some (.int .i64 x.v) := by simpa using cell_ext a4 hE
        have b0 : wr.cell? ⟨bb, ob + (k : Int).toNat * 5, none⟩ = some (.int .i64 y.core) := by simpa using cell_ext b0 hE
        have b1 : wr.cell? ⟨bb, ob + (k : Int).toNat * 5 + 1, none⟩ = some (.int .i64 y.kind) := by simpa using cell_ext b1 hE
        have b2 : wr.cell? ⟨bb, ob + (k : Int).toNat * 5 + 2, none⟩ = some (.int .i64 y.a) := by simpa using cell_ext b2 hE
        have b3 : wr.cell? ⟨bb, ob + (k : Int).toNat * 5 + 3, none⟩ = some (.int .i64 y.b) := by simpa using cell_ext b3 hE
        have b4 : wr.cell? ⟨bb, ob + (k : Int).toNat * 5 + 4, none⟩ = some (.int .i64 y.v) := by simpa using cell_ext b4 hE
        cases hs0 : sameE x y
        · have hn : all2 sameE a b = false := all2_no hx hy hs0
          go_wp2_with (fail)
          apply region_lit2 (T := []) (L := []) (X := []) (G := [eqv _, eqv _, eqv _, eqv _, eqv _, eqv _, eqv _, eqv _, eqv (.bool true)])
          case hm => kernel_rfl
          case hop =>
            refine ⟨?_, ?_, ?_, ?_, ?_, ?_, ?_, ?_, ?_, trivial⟩
            · intro a wa hs hf hd
              have t0 := hf.off 0 (by kernel_rfl) rfl
              exact plain_ rfl (yes_eqv (o_move rfl t0) rfl)
            · intro a wa hs hf hd
              have t5 := hf.off 5 (by kernel_rfl) rfl
              exact plain_ rfl (yes_eqv (o_move rfl t5) rfl)
            · intro a wa hs hf hd
              have t16 : a.eval (.tmp 16) = _ := hd.at 0 16 (by kernel_rfl)
              have t17 : a.eval (.tmp 17) = _ := hd.at 1 17 (by kernel_rfl)
              exact plain_ rfl (yes_eqv (o_indexAddr (sz := 5) rfl Proofs.Try.underlying81 (by kernel_rfl) t16 t17 (by omega) (by omega)) rfl)
            · intro a wa hs hf hd
              have t18 : a.eval (.tmp 18) = _ := hd.at 2 18 (by kernel_rfl)
              exact plain_ rfl (yes_eqv (o_load5 rfl Proofs.Try.underlying108 rfl (by kernel_rfl) t18 (cell_since a0 hs rfl) (cell_since a1 hs rfl) (cell_since a2 hs rfl) (cell_since a3 hs rfl) (cell_since a4 hs rfl)) rfl)
            · intro a wa hs hf hd
              have t1 := hf.off 1 (by kernel_rfl) rfl
              exact plain_ rfl (yes_eqv (o_move rfl t1) rfl)
            · intro a wa hs hf hd
              have t5 := hf.off 5 (by kernel_rfl) rfl
              exact plain_ rfl (yes_eqv (o_move rfl t5) rfl)
            · intro a wa hs hf hd
              have t20 : a.eval (.tmp 20) = _ := hd.at 4 20 (by kernel_rfl)
              have t21 : a.eval (.tmp 21) = _ := hd.at 5 21 (by kernel_rfl)
              exact plain_ rfl (yes_eqv (o_indexAddr (sz := 5) rfl Proofs.Try.underlying81 (by kernel_rfl) t20 t21 (by omega) (by omega)) rfl)
            · intro a wa hs hf hd
              have t22 : a.eval (.tmp 22) = _ := hd.at 6 22 (by kernel_rfl)
              exact plain_ rfl (yes_eqv (o_load5 rfl Proofs.Try.underlying108 rfl (by kernel_rfl) t22 (cell_since b0 hs rfl) (cell_since b1 hs rfl) (cell_since b2 hs rfl) (cell_since b3 hs rfl) (cell_since b4 hs rfl)) rfl)
            · intro a wa hs hf hd
              have t19 : a.eval (.tmp 19) = _ := hd.at 3 19 (by kernel_rfl)
              have t23 : a.eval (.tmp 23) = _ := hd.at 7 23 (by kernel_rfl)
              exact plain_ rfl (yes_eqv (o_neqE (a := x) (b := y) rfl t19 t23 (by rw [hs0]; rfl)) rfl)
          case hG => exact ⟨stable_eqv _, stable_eqv _, stable_eqv _, stable_eqv _, stable_eqv _, stable_eqv _, stable_eqv _, stable_eqv _, stable_eqv _, trivial⟩
          case hc => kernel_rfl
          case hfin =>
            intro v2 hs2
            rintro _ rfl _ rfl _ rfl _ rfl _ rfl _ rfl _ rfl _ rfl _ rfl
            rintro _ rfl
            simp only [Act.put, List.setIfInBounds_toArray, List.set_cons_zero, List.set_cons_succ]
            go_wp2
            go_ret
            exact ⟨_, rfl, hE.trans (Since.to_ext hs2), by first | rfl | (rw [hn]; rfl)⟩
        · go_wp2_with (fail)
          apply region_lit2 (T := []) (L := []) (X := []) (G := [eqv _, eqv _, eqv _, eqv _, eqv _, eqv _, eqv _, eqv _, eqv (.bool false)])
          case hm => kernel_rfl
          case hop =>
            refine ⟨?_, ?_, ?_, ?_, ?_, ?_, ?_, ?_, ?_, trivial⟩
            · intro a wa hs hf hd
              have t0 := hf.off 0 (by kernel_rfl) rfl
              exact plain_ rfl (yes_eqv (o_move rfl t0) rfl)
            · intro a wa hs hf hd
              have t5 := hf.off 5 (by kernel_rfl) rfl
              exact plain_ rfl (yes_eqv (o_move rfl t5) rfl)
            · intro a wa hs hf hd
              have t16 : a.eval (.tmp 16) = _ := hd.at 0 16 (by kernel_rfl)
              have t17 : a.eval (.tmp 17) = _ := hd.at 1 17 (by kernel_rfl)
              exact plain_ rfl (yes_eqv (o_indexAddr (sz := 5) rfl Proofs.Try.underlying81 (by kernel_rfl) t16 t17 (by omega) (by omega)) rfl)
            · intro a wa hs hf hd
              have t18 : a.eval (.tmp 18) = _ := hd.at 2 18 (by kernel_rfl)
              exact plain_ rfl (yes_eqv (o_load5 rfl Proofs.Try.underlying108 rfl (by kernel_rfl) t18 (cell_since a0 hs rfl) (cell_since a1 hs rfl) (cell_since a2 hs rfl) (cell_since a3 hs rfl) (cell_since a4 hs rfl)) rfl)
            · intro a wa hs hf hd
              have t1 := hf.off 1 (by kernel_rfl) rfl
              exact plain_ rfl (yes_eqv (o_move rfl t1) rfl)
            · intro a wa hs hf hd
              have t5 := hf.off 5 (by kernel_rfl) rfl
              exact plain_ rfl (yes_eqv (o_move rfl t5) rfl)
            · intro a wa hs hf hd
              have t20 : a.eval (.tmp 20) = _ := hd.at 4 20 (by kernel_rfl)
              have t21 : a.eval (.tmp 21) = _ := hd.at 5 21 (by kernel_rfl)
              exact plain_ rfl (yes_eqv (o_indexAddr (sz := 5) rfl Proofs.Try.underlying81 (by kernel_rfl) t20 t21 (by omega) (by omega)) rfl)
            · intro a wa hs hf hd
              have t22 : a.eval (.tmp 22) = _ := hd.at 6 22 (by kernel_rfl)
              exact plain_ rfl (yes_eqv (o_load5 rfl Proofs.Try.underlying108 rfl (by kernel_rfl) t22 (cell_since b0 hs rfl) (cell_since b1 hs rfl) (cell_since b2 hs rfl) (cell_since b3 hs rfl) (cell_since b4 hs rfl)) rfl)
            · intro a wa hs hf hd
              have t19 : a.eval (.tmp 19) = _ := hd.at 3 19 (by kernel_rfl)
              have t23 : a.eval (.tmp 23) = _ := hd.at 7 23 (by kernel_rfl)
              exact plain_ rfl (yes_eqv (o_neqE (a := x) (b := y) rfl t19 t23 (by rw [hs0]; rfl)) rfl)
          case hG => exact ⟨stable_eqv _, stable_eqv _, stable_eqv _, stable_eqv _, stable_eqv _, stable_eqv _, stable_eqv _, stable_eqv _, stable_eqv _, trivial⟩
          case hc => kernel_rfl
          case hfin =>
            intro v2 hs2
            rintro _ rfl _ rfl _ rfl _ rfl _ rfl _ rfl _ rfl _ rfl _ rfl
            rintro _ rfl
            simp only [Act.put, List.setIfInBounds_toArray, List.set_cons_zero, List.set_cons_succ]
            go_wp2
            go_roundw
            case rel => exact ⟨k + 1, by omega, by simp, fun i u v hi hu hv => (Nat.lt_succ_iff_lt_or_eq.1 hi).elim (fun h => hall i u v h hu hv) (fun h => by subst h; rw [hx] at hu; rw [hy] at hv; cases hu; cases hv; exact hs0), hE.trans (Since.to_ext hs2)⟩
            case measure => simp [intOf]; omega
      · have hlt1 : ¬ (k : Int) < (a.length : Int) := by omega
        have hlt2 : ¬ (k : Int) < (b.length : Int) := by have := HL.out; omega
        have hy : all2 sameE a b = true := all2_yes HL.out fun i x y hi => hall i x y (by omega)
        go_wp2
        go_ret
        exact ⟨_, rfl, hE, by first | rfl | (rw [hy]; rfl)⟩
  · have hl1 : ((a.length : Int) != (b.length : Int)) = true := by simp; omega
    have hn : all2 sameE a b = false := all2_len hl
    go_enter Proofs.Try.func138, Proofs.Try.ntmps138
    go_wp2
    go_ret
    exact ⟨_, rfl, Ext.refl _, by first | rfl | (rw [hn]; rfl)⟩
set_option maxHeartbeats 1000000 in
set_option maxRecDepth 100000 in
theorem refEvs_ (N : Nat → Prop) (va vb : Value) (a b : List EvD) (w : World) (ha : IsEvs N w va a) (hb : IsEvs N w vb b) : Gives Proofs.Try.prog 129 #[va, vb] w (eqv (.bool (all2 sameE a b))) := by
  obtain ⟨pa, ca, rfl, ha, ra, la, _⟩ := IsSl.opened ha
  obtain ⟨pb, cb, rfl, hb, rb, lb, _⟩ := IsSl.opened hb
  by_cases hl : a.length = b.length
  · have hl1 : ((a.length : Int) != (b.length : Int)) = false := by simp [hl]
    have HL := Lib.hid hl
    clear hl
    go_enter Proofs.Try.func129, Proofs.Try.ntmps129
    go_wp2
    go_loopw [5] (fun kk wr => ∃ k : Nat, k ≤ a.length ∧ kk = .int .i64 k ∧ (∀ (i : Nat) x y, i < k → a[i]? = some x → b[i]? = some y → sameE x y = true) ∧ Ext w wr) (fun kk _ => a.length - (intOf kk).toNat)
    case atStart => exact ⟨0, Nat.zero_le _, rfl, fun i x y hi => by omega, Ext.refl _⟩
    case round =>
      obtain ⟨k, hk, rfl, hall, hE⟩ := hrel
      by_cases hlt : k < a.length
      · have hlt1 : (k : Int) < (b.length : Int) := by have := HL.out; omega
        have hlt2 : (k : Int) < (a.length : Int) := by omega
        obtain ⟨x, hx⟩ := getSome hlt
        obtain ⟨y, hy⟩ := getSome (show k < b.length by omega)
        obtain ⟨ba, oa, rfl, xa, na, a0, a1, a2, a3, a4⟩ := IsEvs.at ha hx
        obtain ⟨bb, ob, rfl, xb, nb, b0, b1, b2, b3, b4⟩ := IsEvs.at hb hy
        have a0 : wr.cell? ⟨ba, oa + (k : Int).toNat * 5, none⟩ = some (.int .i64 x.core) := by simpa using cell_ext a0 hE
        have a1 : wr.cell? ⟨ba, oa + (k : Int).toNat * 5 + 1, none⟩ = some (.int .i64 x.kind) := by simpa using cell_ext a1 hE
        have a2 : wr.cell? ⟨ba, oa + (k : Int).toNat * 5 + 2, none⟩ = some (.int .i64 x.a) := by simpa using cell_ext a2 hE
        have a3 : wr.cell? ⟨ba, oa + (k : Int).toNat * 5 + 3, none⟩ = some (.int .i64 x.b) := by simpa using cell_ext a3 hE
        have a4 : wr.cell? ⟨ba, oa + (k : Int).toNat * 5 + 4, none⟩ = some (.int .i64 x.v) := by simpa using cell_ext a4 hE
        have b0 : wr.cell? ⟨bb, ob + (k : Int).toNat * 5, none⟩ = some (.int .i64 y.core) := by simpa using cell_ext b0 hE
        have b1 : wr.cell? ⟨bb, ob + (k : Int).toNat * 5 + 1, none⟩ = some (.int .i64 y.kind) := by simpa using cell_ext b1 hE
        have b2 : wr.cell? ⟨bb, ob + (k : Int).toNat * 5 + 2, none⟩ = some (.int .i64 y.a) := by simpa using cell_ext b2 hE
        have b3 : wr.cell? ⟨bb, ob + (k : Int).toNat * 5 + 3, none⟩ = some (.int .i64 y.b) := by simpa using cell_ext b3 hE
        have b4 : wr.cell? ⟨bb, ob + (k : Int).toNat * 5 + 4, none⟩ = some (.int .i64 y.v) := by simpa using cell_ext b4 hE
        cases hs0 : sameE x y
        · have hn : all2 sameE a b = false := all2_no hx hy hs0
          go_wp2_with (fail)
          apply region_lit2 (T := []) (L := []) (X := []) (G := [eqv _, eqv _, eqv _, eqv _, eqv _, eqv _, eqv _, eqv _, eqv (.bool true)])
          case hm => kernel_rfl
          case hop =>
            refine ⟨?_, ?_, ?_, ?_, ?_, ?_, ?_, ?_, ?_, trivial⟩
            · intro a wa hs hf hd
              have t0 := hf.off 0 (by kernel_rfl) rfl
              exact plain_ rfl (yes_eqv (o_move rfl t0) rfl)
            · intro a wa hs hf hd
              have t5 := hf.off 5 (by kernel_rfl) rfl
              exact plain_ rfl (yes_eqv (o_move rfl t5) rfl)
            · intro a wa hs hf hd
              have t17 : a.eval (.tmp 17) = _ := hd.at 0 17 (by kernel_rfl)
              have t18 : a.eval (.tmp 18) = _ := hd.at 1 18 (by kernel_rfl)
              exact plain_ rfl (yes_eqv (o_indexAddr (sz := 5) rfl Proofs.Try.underlying81 (by kernel_rfl) t17 t18 (by omega) (by omega)) rfl)
            · intro a wa hs hf hd
              have t19 : a.eval (.tmp 19) = _ := hd.at 2 19 (by kernel_rfl)
              exact plain_ rfl (yes_eqv (o_load5 rfl Proofs.Try.underlying108 rfl (by kernel_rfl) t19 (cell_since a0 hs rfl) (cell_since a1 hs rfl) (cell_since a2 hs rfl) (cell_since a3 hs rfl) (cell_since a4 hs rfl)) rfl)
            · intro a wa hs hf hd
              have t1 := hf.off 1 (by kernel_rfl) rfl
              exact plain_ rfl (yes_eqv (o_move rfl t1) rfl)
            · intro a wa hs hf hd
              have t5 := hf.off 5 (by kernel_rfl) rfl
              exact plain_ rfl (yes_eqv (o_move rfl t5) rfl)
            · intro a wa hs hf hd
              have t21 : a.eval (.tmp 21) = _ := hd.at 4 21 (by kernel_rfl)
              have t22 : a.eval (.tmp 22) = _ := hd.at 5 22 (by kernel_rfl)
              exact plain_ rfl (yes_eqv (o_indexAddr (sz := 5) rfl Proofs.Try.underlying81 (by kernel_rfl) t21 t22 (by omega) (by omega)) rfl)
            · intro a wa hs hf hd
              have t23 : a.eval (.tmp 23) = _ := hd.at 6 23 (by kernel_rfl)
              exact plain_ rfl (yes_eqv (o_load5 rfl Proofs.Try.underlying108 rfl (by kernel_rfl) t23 (cell_since b0 hs rfl) (cell_since b1 hs rfl) (cell_since b2 hs rfl) (cell_since b3 hs rfl) (cell_since b4 hs rfl)) rfl)
            · intro a wa hs hf hd
              have t20 : a.eval (.tmp 20) = _ := hd.at 3 20 (by kernel_rfl)
              have t24 : a.eval (.tmp 24) = _ := hd.at 7 24 (by kernel_rfl)
              exact plain_ rfl (yes_eqv (o_neqE (a := x) (b := y) rfl t20 t24 (by rw [hs0]; rfl)) rfl)
          case hG => exact ⟨stable_eqv _, stable_eqv _, stable_eqv _, stable_eqv _, stable_eqv _, stable_eqv _, stable_eqv _, stable_eqv _, stable_eqv _, trivial⟩
          case hc => kernel_rfl
          case hfin =>
            intro v2 hs2
            rintro _ rfl _ rfl _ rfl _ rfl _ rfl _ rfl _ rfl _ rfl _ rfl
            rintro _ rfl
            simp only [Act.put, List.setIfInBounds_toArray, List.set_cons_zero, List.set_cons_succ]
            go_wp2
            go_ret
            exact ⟨_, rfl, hE.trans (Since.to_ext hs2), by first | rfl | (rw [hn]; rfl)⟩
        · go_wp2_with (fail)
          apply region_lit2 (T := []) (L := []) (X := []) (G := [eqv _, eqv _, eqv _, eqv _, eqv _, eqv _, eqv _, eqv _, eqv (.bool false)])
          case hm => kernel_rfl
          case hop =>
            refine ⟨?_, ?_, ?_, ?_, ?_, ?_, ?_, ?_, ?_, trivial⟩
            · intro a wa hs hf hd
              have t0 := hf.off 0 (by kernel_rfl) rfl
              exact plain_ rfl (yes_eqv (o_move rfl t0) rfl)
            · intro a wa hs hf hd
              have t5 := hf.off 5 (by kernel_rfl) rfl
              exact plain_ rfl (yes_eqv (o_move rfl t5) rfl)
            · intro a wa hs hf hd
              have t17 : a.eval (.tmp 17) = _ := hd.at 0 17 (by kernel_rfl)
              have t18 : a.eval (.tmp 18) = _ := hd.at 1 18 (by kernel_rfl)
              exact plain_ rfl (yes_eqv (o_indexAddr (sz := 5) rfl Proofs.Try.underlying81 (by kernel_rfl) t17 t18 (by omega) (by omega)) rfl)
            · intro a wa hs hf hd
              have t19 : a.eval (.tmp 19) = _ := hd.at 2 19 (by kernel_rfl)
              exact plain_ rfl (yes_eqv (o_load5 rfl Proofs.Try.underlying108 rfl (by kernel_rfl) t19 (cell_since a0 hs rfl) (cell_since a1 hs rfl) (cell_since a2 hs rfl) (cell_since a3 hs rfl) (cell_since a4 hs rfl)) rfl)
            · intro a wa hs hf hd
              have t1 := hf.off 1 (by kernel_rfl) rfl
              exact plain_ rfl (yes_eqv (o_move rfl t1) rfl)
            · intro a wa hs hf hd
              have t5 := hf.off 5 (by kernel_rfl) rfl
              exact plain_ rfl (yes_eqv (o_move rfl t5) rfl)
            · intro a wa hs hf hd
              have t21 : a.eval (.tmp 21) = _ := hd.at 4 21 (by kernel_rfl)
              have t22 : a.eval (.tmp 22) = _ := hd.at 5 22 (by kernel_rfl)
              exact plain_ rfl (yes_eqv (o_indexAddr (sz := 5) rfl Proofs.Try.underlying81 (by kernel_rfl) t21 t22 (by omega) (by omega)) rfl)
            · intro a wa hs hf hd
              have t23 : a.eval (.tmp 23) = _ := hd.at 6 23 (by kernel_rfl)
              exact plain_ rfl (yes_eqv (o_load5 rfl Proofs.Try.underlying108 rfl (by kernel_rfl) t23 (cell_since b0 hs rfl) (cell_since b1 hs rfl) (cell_since b2 hs rfl) (cell_since b3 hs rfl) (cell_since b4 hs rfl)) rfl)
            · intro a wa hs hf hd
              have t20 : a.eval (.tmp 20) = _ := hd.at 3 20 (by kernel_rfl)
              have t24 : a.eval (.tmp 24) = _ := hd.at 7 24 (by kernel_rfl)
              exact plain_ rfl (yes_eqv (o_neqE (a := x) (b := y) rfl t20 t24 (by rw [hs0]; rfl)) rfl)
          case hG => exact ⟨stable_eqv _, stable_eqv _, stable_eqv _, stable_eqv _, stable_eqv _, stable_eqv _, stable_eqv _, stable_eqv _, stable_eqv _, trivial⟩
          case hc => kernel_rfl
          case hfin =>
            intro v2 hs2
            rintro _ rfl _ rfl _ rfl _ rfl _ rfl _ rfl _ rfl _ rfl _ rfl
            rintro _ rfl
            simp only [Act.put, List.setIfInBounds_toArray, List.set_cons_zero, List.set_cons_succ]
            go_wp2
            go_roundw
            case rel => exact ⟨k + 1, by omega, by simp, fun i u v hi hu hv => (Nat.lt_succ_iff_lt_or_eq.1 hi).elim (fun h => hall i u v h hu hv) (fun h => by subst h; rw [hx] at hu; rw [hy] at hv; cases hu; cases hv; exact hs0), hE.trans (Since.to_ext hs2)⟩
            case measure => simp [intOf]; omega
      · have hlt1 : ¬ (k : Int) < (a.length : Int) := by omega
        have hlt2 : ¬ (k : Int) < (b.length : Int) := by have := HL.out; omega
        have hy : all2 sameE a b = true := all2_yes HL.out fun i x y hi => hall i x y (by omega)
        go_wp2
        go_ret
        exact ⟨_, rfl, hE, by first | rfl | (rw [hy]; rfl)⟩
  · have hl1 : ((a.length : Int) != (b.length : Int)) = true := by simp; omega
    have hn : all2 sameE a b = false := all2_len hl
    go_enter Proofs.Try.func129, Proofs.Try.ntmps129
    go_wp2
    go_ret
    exact ⟨_, rfl, Ext.refl _, by first | rfl | (rw [hn]; rfl)⟩

def sameS (a b : SysD) : Bool := sameD a.M b.M && (all2 sameC a.C b.C && all2 sameE a.L b.L)
set_option maxHeartbeats 1000000 in
set_option maxRecDepth 100000 in
theorem sysSame_ (N : Nat → Prop) (va vb : Value) (a b : SysD) (w : World) (ha : IsSys N w va a) (hb : IsSys N w vb b) : Gives Proofs.Try.prog 80 #[va, vb] w (eqv (.bool (sameS a b))) := by
  obtain ⟨aw, cw, ag, cg, ac, cc, al, cl, rfl, hw, hg, hc, hl⟩ := ha.opened
  obtain ⟨bw, dw, bg, dg, bc, dc, bl, dl, rfl, gw, gg, gc, gl⟩ := hb.opened
  have k1 := fun w' (e : Ext w w') => memSame_ N _ _ a.M b.M w' ((IsMem.mk rfl hw hg : IsMem N w _ a.M).ext e) ((IsMem.mk rfl gw gg : IsMem N w _ b.M).ext e)
  have k2 := fun w' (e : Ext w w') => equalCores_ N _ _ a.C b.C w' (IsCores.keep hc e.keep) (IsCores.keep gc e.keep)
  have k3 := fun w' (e : Ext w w') => equalEvs_ N _ _ a.L b.L w' (IsEvs.keep hl e.keep) (IsEvs.keep gl e.keep)
  cases h1 : sameD a.M b.M
  · have hd : sameS a b = false := by simp [sameS, h1]
    rw [hd]
    rw [h1] at k1
    go_enter Proofs.Try.func80, Proofs.Try.ntmps80
    go_wp2_with (fail)
    go_at_call 56
    refine (k1 _ exq).calls.mono ?_
    rintro e w1 ⟨_, rfl, hb1, rfl⟩
    go_wp2
    go_ret
    exact ⟨_, rfl, exq, rfl⟩
  · cases h2 : all2 sameC a.C b.C
    · have hd : sameS a b = false := by simp [sameS, h2]
      rw [hd]
      rw [h1] at k1
      rw [h2] at k2
      go_enter Proofs.Try.func80, Proofs.Try.ntmps80
      go_wp2_with (fail)
      go_at_call 56
      refine (k1 _ exq).calls.mono ?_
      rintro e w1 ⟨_, rfl, hb1, rfl⟩
      have B0 : Box w1 w.heap.size #[.slice aw a.M.W.length cw, .slice ag a.M.G.length cg, .bool a.M.bad, .slice ac a.C.length cc, .slice al a.L.length cl] 83 := ((Box.new _ _ _).alloc _).ext hb1
      have B1 : Box w1 (w.heap.size + 1) #[.slice bw b.M.W.length dw, .slice bg b.M.G.length dg, .bool b.M.bad, .slice bc b.C.length dc, .slice bl b.L.length dl] 83 := (Box.two _ _ _ _ _).ext hb1
      obtain ⟨p0, p1, p2, p3, p4, d0, d1, d2, d3, d4⟩ := cells5 B0
      obtain ⟨r0, r1, r2, r3, r4, q0, q1, q2, q3, q4⟩ := cells5 B1
      have z0 : w.heap.size < w1.heap.size := B0.lt
      have z1 : w.heap.size + 1 < w1.heap.size := B1.lt
      go_wp2_with (fail)
      go_at_call 136
      refine (k2 _ exq).calls.mono ?_
      rintro e w2 ⟨_, rfl, hb2, rfl⟩
      go_wp2
      go_ret
      exact ⟨_, rfl, exq, rfl⟩
    · have hd : sameS a b = all2 sameE a.L b.L := by simp [sameS, h1, h2]
      rw [hd]
      rw [h1] at k1
      rw [h2] at k2
      go_enter Proofs.Try.func80, Proofs.Try.ntmps80
      go_wp2_with (fail)
      go_at_call 56
      refine (k1 _ exq).calls.mono ?_
      rintro e w1 ⟨_, rfl, hb1, rfl⟩
      have B0 : Box w1 w.heap.size #[.slice aw a.M.W.length cw, .slice ag a.M.G.length cg, .bool a.M.bad, .slice ac a.C.length cc, .slice al a.L.length cl] 83 := ((Box.new _ _ _).alloc _).ext hb1
      have B1 : Box w1 (w.heap.size + 1) #[.slice bw b.M.W.length dw, .slice bg b.M.G.length dg, .bool b.M.bad, .slice bc b.C.length dc, .slice bl b.L.length dl] 83 := (Box.two _ _ _ _ _).ext hb1
      obtain ⟨p0, p1, p2, p3, p4, d0, d1, d2, d3, d4⟩ := cells5 B0
      obtain ⟨r0, r1, r2, r3, r4, q0, q1, q2, q3, q4⟩ := cells5 B1
      have z0 : w.heap.size < w1.heap.size := B0.lt
      have z1 : w.heap.size + 1 < w1.heap.size := B1.lt
      go_wp2_with (fail)
      go_at_call 136
      refine (k2 _ exq).calls.mono ?_
      rintro e w2 ⟨_, rfl, hb2, rfl⟩
      have B0 := B0.ext hb2
      have B1 := B1.ext hb2
      clear p0 p1 p2 p3 p4 d0 d1 d2 d3 d4 r0 r1 r2 r3 r4 q0 q1 q2 q3 q4
      obtain ⟨p0, p1, p2, p3, p4, d0, d1, d2, d3, d4⟩ := cells5 B0
      obtain ⟨r0, r1, r2, r3, r4, q0, q1, q2, q3, q4⟩ := cells5 B1
      have z0 : w.heap.size < w2.heap.size := B0.lt
      have z1 : w.heap.size + 1 < w2.heap.size := B1.lt
      go_wp2_with (fail)
      go_at_call 138
      refine (k3 _ exq).calls.mono ?_
      rintro e w3 ⟨_, rfl, hb3, rfl⟩
      go_wp2
      go_ret
      exact ⟨_, rfl, exq, rfl⟩

set_option maxRecDepth 100000 in
theorem refFrame_ (N : Nat → Prop) (va vb : Value) (a b : FrameD) (w : World) (ha : IsFrame N w va a) (hb : IsFrame N w vb b) : Gives Proofs.Try.prog 159 #[va, vb] w (eqv (.bool (sameF a b))) := by
  obtain ⟨pa, ca, rfl, _, sa⟩ := ha.opened
  obtain ⟨pb, cb, rfl, _, sb⟩ := hb.opened
  have kc := fun w' (e : Ext w w') => refInts_ N _ _ a.S b.S w' (sa.ext e) (sb.ext e)
  cases h4 : a.S == b.S
  · have hd : sameF a b = false := by simp only [sameF, h4, Bool.and_false]
    rw [hd]
    rw [h4] at kc
    go_enter Proofs.Try.func159, Proofs.Try.ntmps159
    go_wp2_with (fail)
    go_at_call 72
    refine (kc _ exq).calls.mono ?_
    rintro e w1 ⟨_, rfl, hb1, rfl⟩
    go_wp2
    go_ret
    exact ⟨_, rfl, exq, rfl⟩
  · rw [h4] at kc
    cases h1 : a.op == b.op
    · have hd : sameF a b = false := by simp only [sameF, h1, Bool.false_and]
      rw [hd]
      go_enter Proofs.Try.func159, Proofs.Try.ntmps159
      go_wp2_with (fail)
      go_at_call 72
      refine (kc _ exq).calls.mono ?_
      rintro e w1 ⟨_, rfl, hb1, rfl⟩
      have B0 : Box w1 w.heap.size #[.int .i64 a.op, .int .i64 a.pc, .int .i64 (gi a.R 0), .int .i64 (gi a.R 1), .int .i64 (gi a.R 2), .int .i64 (gi a.R 3), .int .i64 (gi a.R 4), .int .i64 (gi a.R 5), .int .i64 (gi a.R 6), .int .i64 (gi a.R 7), .slice pa a.S.length ca] 95 := ((Box.new _ _ _).alloc _).ext hb1
      have B1 : Box w1 (w.heap.size + 1) #[.int .i64 b.op, .int .i64 b.pc, .int .i64 (gi b.R 0), .int .i64 (gi b.R 1), .int .i64 (gi b.R 2), .int .i64 (gi b.R 3), .int .i64 (gi b.R 4), .int .i64 (gi b.R 5), .int .i64 (gi b.R 6), .int .i64 (gi b.R 7), .slice pb b.S.length cb] 95 := (Box.two _ _ _ _ _).ext hb1
      obtain ⟨⟨p0, p1, p2, p3, p4, p5, p6, p7, p8, p9, p10⟩, _⟩ := cells11 B0
      obtain ⟨⟨r0, r1, r2, r3, r4, r5, r6, r7, r8, r9, r10⟩, _⟩ := cells11 B1
      have z0 : w.heap.size < w1.heap.size := B0.lt
      have z1 : w.heap.size + 1 < w1.heap.size := B1.lt
      go_wp2
      go_ret
      exact ⟨_, rfl, exq, rfl⟩
    · cases h2 : a.pc == b.pc
      · have hd : sameF a b = false := by simp only [sameF, h2, Bool.false_and, Bool.and_false]
        rw [hd]
        go_enter Proofs.Try.func159, Proofs.Try.ntmps159
        go_wp2_with (fail)
        go_at_call 72
        refine (kc _ exq).calls.mono ?_
        rintro e w1 ⟨_, rfl, hb1, rfl⟩
        have B0 : Box w1 w.heap.size #[.int .i64 a.op, .int .i64 a.pc, .int .i64 (gi a.R 0), .int .i64 (gi a.R 1), .int .i64 (gi a.R 2), .int .i64 (gi a.R 3), .int .i64 (gi a.R 4), .int .i64 (gi a.R 5), .int .i64 (gi a.R 6), .int .i64 (gi a.R 7), .slice pa a.S.length ca] 95 := ((Box.new _ _ _).alloc _).ext hb1
        have B1 : Box w1 (w.heap.size + 1) #[.int .i64 b.op, .int .i64 b.pc, .int .i64 (gi b.R 0), .int .i64 (gi b.R 1), .int .i64 (gi b.R 2), .int .i64 (gi b.R 3), .int .i64 (gi b.R 4), .int .i64 (gi b.R 5), .int .i64 (gi b.R 6), .int .i64 (gi b.R 7), .slice pb b.S.length cb] 95 := (Box.two _ _ _ _ _).ext hb1
        obtain ⟨⟨p0, p1, p2, p3, p4, p5, p6, p7, p8, p9, p10⟩, _⟩ := cells11 B0
        obtain ⟨⟨r0, r1, r2, r3, r4, r5, r6, r7, r8, r9, r10⟩, _⟩ := cells11 B1
        have z0 : w.heap.size < w1.heap.size := B0.lt
        have z1 : w.heap.size + 1 < w1.heap.size := B1.lt
        go_wp2
        go_ret
        exact ⟨_, rfl, exq, rfl⟩
      · cases h3 : eq8 a.R b.R
        · have hd : sameF a b = false := by simp only [sameF, h3, Bool.false_and, Bool.and_false]
          rw [hd]
          go_enter Proofs.Try.func159, Proofs.Try.ntmps159
          go_wp2_with (fail)
          go_at_call 72
          refine (kc _ exq).calls.mono ?_
          rintro e w1 ⟨_, rfl, hb1, rfl⟩
          have B0 : Box w1 w.heap.size #[.int .i64 a.op, .int .i64 a.pc, .int .i64 (gi a.R 0), .int .i64 (gi a.R 1), .int .i64 (gi a.R 2), .int .i64 (gi a.R 3), .int .i64 (gi a.R 4), .int .i64 (gi a.R 5), .int .i64 (gi a.R 6), .int .i64 (gi a.R 7), .slice pa a.S.length ca] 95 := ((Box.new _ _ _).alloc _).ext hb1
          have B1 : Box w1 (w.heap.size + 1) #[.int .i64 b.op, .int .i64 b.pc, .int .i64 (gi b.R 0), .int .i64 (gi b.R 1), .int .i64 (gi b.R 2), .int .i64 (gi b.R 3), .int .i64 (gi b.R 4), .int .i64 (gi b.R 5), .int .i64 (gi b.R 6), .int .i64 (gi b.R 7), .slice pb b.S.length cb] 95 := (Box.two _ _ _ _ _).ext hb1
          obtain ⟨⟨p0, p1, p2, p3, p4, p5, p6, p7, p8, p9, p10⟩, _⟩ := cells11 B0
          obtain ⟨⟨r0, r1, r2, r3, r4, r5, r6, r7, r8, r9, r10⟩, _⟩ := cells11 B1
          have z0 : w.heap.size < w1.heap.size := B0.lt
          have z1 : w.heap.size + 1 < w1.heap.size := B1.lt
          go_wp2
          go_ret
          exact ⟨_, rfl, exq, rfl⟩
        · have hd : sameF a b = true := by simp only [sameF, h1, h2, h3, h4, Bool.and_self]
          rw [hd]
          go_enter Proofs.Try.func159, Proofs.Try.ntmps159
          go_wp2_with (fail)
          go_at_call 72
          refine (kc _ exq).calls.mono ?_
          rintro e w1 ⟨_, rfl, hb1, rfl⟩
          have B0 : Box w1 w.heap.size #[.int .i64 a.op, .int .i64 a.pc, .int .i64 (gi a.R 0), .int .i64 (gi a.R 1), .int .i64 (gi a.R 2), .int .i64 (gi a.R 3), .int .i64 (gi a.R 4), .int .i64 (gi a.R 5), .int .i64 (gi a.R 6), .int .i64 (gi a.R 7), .slice pa a.S.length ca] 95 := ((Box.new _ _ _).alloc _).ext hb1
          have B1 : Box w1 (w.heap.size + 1) #[.int .i64 b.op, .int .i64 b.pc, .int .i64 (gi b.R 0), .int .i64 (gi b.R 1), .int .i64 (gi b.R 2), .int .i64 (gi b.R 3), .int .i64 (gi b.R 4), .int .i64 (gi b.R 5), .int .i64 (gi b.R 6), .int .i64 (gi b.R 7), .slice pb b.S.length cb] 95 := (Box.two _ _ _ _ _).ext hb1
          obtain ⟨⟨p0, p1, p2, p3, p4, p5, p6, p7, p8, p9, p10⟩, _⟩ := cells11 B0
          obtain ⟨⟨r0, r1, r2, r3, r4, r5, r6, r7, r8, r9, r10⟩, _⟩ := cells11 B1
          have z0 : w.heap.size < w1.heap.size := B0.lt
          have z1 : w.heap.size + 1 < w1.heap.size := B1.lt
          go_wp2
          go_ret
          exact ⟨_, rfl, exq, rfl⟩
theorem o_load11 {o : Oper} {ac : Act} {w : World} {P : Program} {t : TypeId} {x : Operand} {d : TypeDesc} {b off : Nat} {c0 c1 c2 c3 c4 c5 c6 c7 c8 c9 c10 : Value} (ho : o.op = .load t x) (ht : P.underlying t = some d) (hd : (match d with | .struct _ | .array _ _ => true | _ => false) = true)
    (hz : (P.info? t).map (·.size) = some 11) (hx : ac.eval x = .pointer (some ⟨b, off, none⟩)) (h0 : w.cell? ⟨b, off, none⟩ = some c0) (h1 : w.cell? ⟨b, off + 1, none⟩ = some c1) (h2 : w.cell? ⟨b, off + 2, none⟩ = some c2)
    (h3 : w.cell? ⟨b, off + 3, none⟩ = some c3) (h4 : w.cell? ⟨b, off + 4, none⟩ = some c4) (h5 : w.cell? ⟨b, off + 5, none⟩ = some c5) (h6 : w.cell? ⟨b, off + 6, none⟩ = some c6) (h7 : w.cell? ⟨b, off + 7, none⟩ = some c7)
    (h8 : w.cell? ⟨b, off + 8, none⟩ = some c8) (h9 : w.cell? ⟨b, off + 9, none⟩ = some c9) (h10 : w.cell? ⟨b, off + 10, none⟩ = some c10) : Runs P o ac w (.agg #[c0, c1, c2, c3, c4, c5, c6, c7, c8, c9, c10]) :=
  o_loadN (cs := [c0, c1, c2, c3, c4, c5, c6, c7, c8, c9, c10]) ho ht hd hz hx (fun j v hv => by
    match j, hv with
    | 0, hv => simp at hv; subst hv; exact h0
    | 1, hv => simp at hv; subst hv; exact h1
    | 2, hv => simp at hv; subst hv; exact h2
    | 3, hv => simp at hv; subst hv; exact h3
    | 4, hv => simp at hv; subst hv; exact h4
    | 5, hv => simp at hv; subst hv; exact h5
    | 6, hv => simp at hv; subst hv; exact h6
    | 7, hv => simp at hv; subst hv; exact h7
    | 8, hv => simp at hv; subst hv; exact h8
    | 9, hv => simp at hv; subst hv; exact h9
    | 10, hv => simp at hv; subst hv; exact h10
    | n + 11, hv => simp at hv)
theorem o_load7 {o : Oper} {ac : Act} {w : World} {P : Program} {t : TypeId} {x : Operand} {d : TypeDesc} {b off : Nat} {c0 c1 c2 c3 c4 c5 c6 : Value} (ho : o.op = .load t x) (ht : P.underlying t = some d) (hd : (match d with | .struct _ | .array _ _ => true | _ => false) = true)
    (hz : (P.info? t).map (·.size) = some 7) (hx : ac.eval x = .pointer (some ⟨b, off, none⟩)) (h0 : w.cell? ⟨b, off, none⟩ = some c0) (h1 : w.cell? ⟨b, off + 1, none⟩ = some c1) (h2 : w.cell? ⟨b, off + 2, none⟩ = some c2)
    (h3 : w.cell? ⟨b, off + 3, none⟩ = some c3) (h4 : w.cell? ⟨b, off + 4, none⟩ = some c4) (h5 : w.cell? ⟨b, off + 5, none⟩ = some c5) (h6 : w.cell? ⟨b, off + 6, none⟩ = some c6) : Runs P o ac w (.agg #[c0, c1, c2, c3, c4, c5, c6]) :=
  o_loadN (cs := [c0, c1, c2, c3, c4, c5, c6]) ho ht hd hz hx (fun j v hv => by
    match j, hv with
    | 0, hv => simp at hv; subst hv; exact h0
    | 1, hv => simp at hv; subst hv; exact h1
    | 2, hv => simp at hv; subst hv; exact h2
    | 3, hv => simp at hv; subst hv; exact h3
    | 4, hv => simp at hv; subst hv; exact h4
    | 5, hv => simp at hv; subst hv; exact h5
    | 6, hv => simp at hv; subst hv; exact h6
    | n + 7, hv => simp at hv)
set_option maxHeartbeats 2000000 in
set_option maxRecDepth 100000 in
theorem refOne_ (N : Nat → Prop) (va vb : Value) (c1 c2 : CoreD) (w : World) (ha : IsCoreV N w va c1) (hb : IsCoreV N w vb c2) : Gives Proofs.Try.prog 130 #[va, vb] w (eqv (.bool (sameC c1 c2))) := by
  obtain ⟨fa, qa, ra, pa, rfl, _, sa, ta⟩ := ha.opened
  obtain ⟨fb, qb, rb, pb, rfl, _, sb, tb⟩ := hb.opened
  have kc := fun w' (e : Ext w w') => refInts_ N _ _ c1.Ret c2.Ret w' (ta.ext e) (tb.ext e)
  cases h4 : c1.Ret == c2.Ret
  · have hd : sameC c1 c2 = false := by simp only [sameC, h4, Bool.false_and, Bool.and_false]
    rw [hd]
    rw [h4] at kc
    go_enter Proofs.Try.func130, Proofs.Try.ntmps130
    go_wp2_with (fail)
    go_at_call 72
    refine (kc _ exq).calls.mono ?_
    rintro e w1 ⟨_, rfl, hb1, rfl⟩
    have B0 : Box w1 w.heap.size #[.slice fa c1.F.length qa, .int .i64 c1.V, .int .i64 c1.E, .int .i64 (gi c1.X 0), .int .i64 (gi c1.X 1), .int .i64 (gi c1.X 2), .slice ra c1.Ret.length pa] 116 := ((Box.new _ _ _).alloc _).ext hb1
    have B1 : Box w1 (w.heap.size + 1) #[.slice fb c2.F.length qb, .int .i64 c2.V, .int .i64 c2.E, .int .i64 (gi c2.X 0), .int .i64 (gi c2.X 1), .int .i64 (gi c2.X 2), .slice rb c2.Ret.length pb] 116 := (Box.two _ _ _ _ _).ext hb1
    obtain ⟨p0, p1, p2, p3, p4, p5, p6, d0, d1, d2, d3, d4, d5, d6⟩ := cells7 B0
    obtain ⟨r0, r1, r2, r3, r4, r5, r6, q0, q1, q2, q3, q4, q5, q6⟩ := cells7 B1
    have z0 : w.heap.size < w1.heap.size := B0.lt
    have z1 : w.heap.size + 1 < w1.heap.size := B1.lt
    go_wp2
    go_ret
    exact ⟨_, rfl, exq, rfl⟩
  · rw [h4] at kc
    cases h1 : c1.V == c2.V
    · have hd : sameC c1 c2 = false := by simp only [sameC, h1, Bool.false_and, Bool.and_false]
      have h1' : (c1.V != c2.V) = true := by simp only [bne, h1, Bool.not_false]
      rw [hd]
      go_enter Proofs.Try.func130, Proofs.Try.ntmps130
      go_wp2_with (fail)
      go_at_call 72
      refine (kc _ exq).calls.mono ?_
      rintro e w1 ⟨_, rfl, hb1, rfl⟩
      have B0 : Box w1 w.heap.size #[.slice fa c1.F.length qa, .int .i64 c1.V, .int .i64 c1.E, .int .i64 (gi c1.X 0), .int .i64 (gi c1.X 1), .int .i64 (gi c1.X 2), .slice ra c1.Ret.length pa] 116 := ((Box.new _ _ _).alloc _).ext hb1
      have B1 : Box w1 (w.heap.size + 1) #[.slice fb c2.F.length qb, .int .i64 c2.V, .int .i64 c2.E, .int .i64 (gi c2.X 0), .int .i64 (gi c2.X 1), .int .i64 (gi c2.X 2), .slice rb c2.Ret.length pb] 116 := (Box.two _ _ _ _ _).ext hb1
      obtain ⟨p0, p1, p2, p3, p4, p5, p6, d0, d1, d2, d3, d4, d5, d6⟩ := cells7 B0
      obtain ⟨r0, r1, r2, r3, r4, r5, r6, q0, q1, q2, q3, q4, q5, q6⟩ := cells7 B1
      have z0 : w.heap.size < w1.heap.size := B0.lt
      have z1 : w.heap.size + 1 < w1.heap.size := B1.lt
      go_wp2
      go_ret
      exact ⟨_, rfl, exq, rfl⟩
    · have h1' : (c1.V != c2.V) = false := by simp only [bne, h1, Bool.not_true]
      cases h2 : c1.E == c2.E
      · have hd : sameC c1 c2 = false := by simp only [sameC, h2, Bool.false_and, Bool.and_false]
        have h2' : (c1.E != c2.E) = true := by simp only [bne, h2, Bool.not_false]
        rw [hd]
        go_enter Proofs.Try.func130, Proofs.Try.ntmps130
        go_wp2_with (fail)
        go_at_call 72
        refine (kc _ exq).calls.mono ?_
        rintro e w1 ⟨_, rfl, hb1, rfl⟩
        have B0 : Box w1 w.heap.size #[.slice fa c1.F.length qa, .int .i64 c1.V, .int .i64 c1.E, .int .i64 (gi c1.X 0), .int .i64 (gi c1.X 1), .int .i64 (gi c1.X 2), .slice ra c1.Ret.length pa] 116 := ((Box.new _ _ _).alloc _).ext hb1
        have B1 : Box w1 (w.heap.size + 1) #[.slice fb c2.F.length qb, .int .i64 c2.V, .int .i64 c2.E, .int .i64 (gi c2.X 0), .int .i64 (gi c2.X 1), .int .i64 (gi c2.X 2), .slice rb c2.Ret.length pb] 116 := (Box.two _ _ _ _ _).ext hb1
        obtain ⟨p0, p1, p2, p3, p4, p5, p6, d0, d1, d2, d3, d4, d5, d6⟩ := cells7 B0
        obtain ⟨r0, r1, r2, r3, r4, r5, r6, q0, q1, q2, q3, q4, q5, q6⟩ := cells7 B1
        have z0 : w.heap.size < w1.heap.size := B0.lt
        have z1 : w.heap.size + 1 < w1.heap.size := B1.lt
        go_wp2
        go_ret
        exact ⟨_, rfl, exq, rfl⟩
      · have h2' : (c1.E != c2.E) = false := by simp only [bne, h2, Bool.not_true]
        cases h3 : eq3 c1.X c2.X
        · have hd : sameC c1 c2 = false := by simp only [sameC, h3, Bool.false_and, Bool.and_false]
          rw [hd]
          go_enter Proofs.Try.func130, Proofs.Try.ntmps130
          go_wp2_with (fail)
          go_at_call 72
          refine (kc _ exq).calls.mono ?_
          rintro e w1 ⟨_, rfl, hb1, rfl⟩
          have B0 : Box w1 w.heap.size #[.slice fa c1.F.length qa, .int .i64 c1.V, .int .i64 c1.E, .int .i64 (gi c1.X 0), .int .i64 (gi c1.X 1), .int .i64 (gi c1.X 2), .slice ra c1.Ret.length pa] 116 := ((Box.new _ _ _).alloc _).ext hb1
          have B1 : Box w1 (w.heap.size + 1) #[.slice fb c2.F.length qb, .int .i64 c2.V, .int .i64 c2.E, .int .i64 (gi c2.X 0), .int .i64 (gi c2.X 1), .int .i64 (gi c2.X 2), .slice rb c2.Ret.length pb] 116 := (Box.two _ _ _ _ _).ext hb1
          obtain ⟨p0, p1, p2, p3, p4, p5, p6, d0, d1, d2, d3, d4, d5, d6⟩ := cells7 B0
          obtain ⟨r0, r1, r2, r3, r4, r5, r6, q0, q1, q2, q3, q4, q5, q6⟩ := cells7 B1
          have z0 : w.heap.size < w1.heap.size := B0.lt
          have z1 : w.heap.size + 1 < w1.heap.size := B1.lt
          go_wp2
          go_ret
          exact ⟨_, rfl, exq, rfl⟩
        · have hd : sameC c1 c2 = all2 sameF c1.F c2.F := by simp only [sameC, h1, h2, h3, h4, Bool.true_and]
          rw [hd]
          by_cases hl : c1.F.length = c2.F.length
          · have hl1 : ((c1.F.length : Int) != (c2.F.length : Int)) = false := by simp [hl]
            have HL := Lib.hid hl
            clear hl
            have hla : c1.F.length ≤ 9223372036854775807 := by obtain ⟨_, _, ee, u1, u2, _⟩ := sa; cases ee; omega
            go_enter Proofs.Try.func130, Proofs.Try.ntmps130
            go_wp2_with (fail)
            go_at_call 72
            refine (kc _ exq).calls.mono ?_
            rintro e w1 ⟨_, rfl, hb1, rfl⟩
            have B0 : Box w1 w.heap.size #[.slice fa c1.F.length qa, .int .i64 c1.V, .int .i64 c1.E, .int .i64 (gi c1.X 0), .int .i64 (gi c1.X 1), .int .i64 (gi c1.X 2), .slice ra c1.Ret.length pa] 116 := ((Box.new _ _ _).alloc _).ext hb1
            have B1 : Box w1 (w.heap.size + 1) #[.slice fb c2.F.length qb, .int .i64 c2.V, .int .i64 c2.E, .int .i64 (gi c2.X 0), .int .i64 (gi c2.X 1), .int .i64 (gi c2.X 2), .slice rb c2.Ret.length pb] 116 := (Box.two _ _ _ _ _).ext hb1
            obtain ⟨p0, p1, p2, p3, p4, p5, p6, d0, d1, d2, d3, d4, d5, d6⟩ := cells7 B0
            obtain ⟨r0, r1, r2, r3, r4, r5, r6, q0, q1, q2, q3, q4, q5, q6⟩ := cells7 B1
            have z0 : w.heap.size < w1.heap.size := B0.lt
            have z1 : w.heap.size + 1 < w1.heap.size := B1.lt
            go_wp2
            go_loopw [6] (fun kk wr => ∃ k : Nat, k ≤ c1.F.length ∧ kk = .int .i64 k ∧ (∀ (i : Nat) x y, i < k → c1.F[i]? = some x → c2.F[i]? = some y → sameF x y = true) ∧ Ext w1 wr) (fun kk _ => c1.F.length - (intOf kk).toNat)
            case atStart => exact ⟨0, Nat.zero_le _, rfl, fun i x y hi => by omega, Ext.refl _⟩
            case round =>
              obtain ⟨k, hk, rfl, hall, hE⟩ := hrel
              have hEw : Ext w wr := (show Ext w w1 from exq).trans hE
              have C0 := B0.ext hE
              have C1 := B1.ext hE
              clear p0 p1 p2 p3 p4 p5 p6 d0 d1 d2 d3 d4 d5 d6 r0 r1 r2 r3 r4 r5 r6 q0 q1 q2 q3 q4 q5 q6
              obtain ⟨p0, p1, p2, p3, p4, p5, p6, d0, d1, d2, d3, d4, d5, d6⟩ := cells7 C0
              obtain ⟨r0, r1, r2, r3, r4, r5, r6, q0, q1, q2, q3, q4, q5, q6⟩ := cells7 C1
              have z0 := C0.lt
              have z1 := C1.lt
              by_cases hlt : k < c1.F.length
              · have hlt1 : (k : Int) < (c2.F.length : Int) := by have := HL.out; omega
                have hlt2 : (k : Int) < (c1.F.length : Int) := by omega
                obtain ⟨x, hx⟩ := getSome hlt
                obtain ⟨y, hy⟩ := getSome (show k < c2.F.length by omega)
                obtain ⟨ba, oa, xs, xc, rfl, xa, na, h8a, hsa, ea⟩ := IsFrames.cells sa hx
                obtain ⟨bb, ob, ys, yc, rfl, xb, nb, h8b, hsb, eb⟩ := IsFrames.cells sb hy
                obtain ⟨ea0, ea1, ea2, ea3, ea4, ea5, ea6, ea7, ea8, ea9, ea10⟩ := ea
                have ea0 : wr.cell? ⟨ba, oa + (k : Int).toNat * 11, none⟩ = some (.int .i64 x.op) := by simpa using cell_ext ea0 hEw
                have ea1 : wr.cell? ⟨ba, oa + (k : Int).toNat * 11 + 1, none⟩ = some (.int .i64 x.pc) := by simpa using cell_ext ea1 hEw
                have ea2 : wr.cell? ⟨ba, oa + (k : Int).toNat * 11 + 2, none⟩ = some (.int .i64 (gi x.R 0)) := by simpa using cell_ext ea2 hEw
                have ea3 : wr.cell? ⟨ba, oa + (k : Int).toNat * 11 + 3, none⟩ = some (.int .i64 (gi x.R 1)) := by simpa using cell_ext ea3 hEw
                have ea4 : wr.cell? ⟨ba, oa + (k : Int).toNat * 11 + 4, none⟩ = some (.int .i64 (gi x.R 2)) := by simpa using cell_ext ea4 hEw
                have ea5 : wr.cell? ⟨ba, oa + (k : Int).toNat * 11 + 5, none⟩ = some (.int .i64 (gi x.R 3)) := by simpa using cell_ext ea5 hEw
                have ea6 : wr.cell? ⟨ba, oa + (k : Int).toNat * 11 + 6, none⟩ = some (.int .i64 (gi x.R 4)) := by simpa using cell_ext ea6 hEw
                have ea7 : wr.cell? ⟨ba, oa + (k : Int).toNat * 11 + 7, none⟩ = some (.int .i64 (gi x.R 5)) := by simpa using cell_ext ea7 hEw
                have ea8 : wr.cell? ⟨ba, oa + (k : Int).toNat * 11 + 8, none⟩ = some (.int .i64 (gi x.R 6)) := by simpa using cell_ext ea8 hEw
                have ea9 : wr.cell? ⟨ba, oa + (k : Int).toNat * 11 + 9, none⟩ = some (.int .i64 (gi x.R 7)) := by simpa using cell_ext ea9 hEw
                have ea10 : wr.cell? ⟨ba, oa + (k : Int).toNat * 11 + 10, none⟩ = some (.slice xs x.S.length xc) := by simpa using cell_ext ea10 hEw
                obtain ⟨eb0, eb1, eb2, eb3, eb4, eb5, eb6, eb7, eb8, eb9, eb10⟩ := eb
                have eb0 : wr.cell? ⟨bb, ob + (k : Int).toNat * 11, none⟩ = some (.int .i64 y.op) := by simpa using cell_ext eb0 hEw
                have eb1 : wr.cell? ⟨bb, ob + (k : Int).toNat * 11 + 1, none⟩ = some (.int .i64 y.pc) := by simpa using cell_ext eb1 hEw
                have eb2 : wr.cell? ⟨bb, ob + (k : Int).toNat * 11 + 2, none⟩ = some (.int .i64 (gi y.R 0)) := by simpa using cell_ext eb2 hEw
                have eb3 : wr.cell? ⟨bb, ob + (k : Int).toNat * 11 + 3, none⟩ = some (.int .i64 (gi y.R 1)) := by simpa using cell_ext eb3 hEw
                have eb4 : wr.cell? ⟨bb, ob + (k : Int).toNat * 11 + 4, none⟩ = some (.int .i64 (gi y.R 2)) := by simpa using cell_ext eb4 hEw
                have eb5 : wr.cell? ⟨bb, ob + (k : Int).toNat * 11 + 5, none⟩ = some (.int .i64 (gi y.R 3)) := by simpa using cell_ext eb5 hEw
                have eb6 : wr.cell? ⟨bb, ob + (k : Int).toNat * 11 + 6, none⟩ = some (.int .i64 (gi y.R 4)) := by simpa using cell_ext eb6 hEw
                have eb7 : wr.cell? ⟨bb, ob + (k : Int).toNat * 11 + 7, none⟩ = some (.int .i64 (gi y.R 5)) := by simpa using cell_ext eb7 hEw
                have eb8 : wr.cell? ⟨bb, ob + (k : Int).toNat * 11 + 8, none⟩ = some (.int .i64 (gi y.R 6)) := by simpa using cell_ext eb8 hEw
                have eb9 : wr.cell? ⟨bb, ob + (k : Int).toNat * 11 + 9, none⟩ = some (.int .i64 (gi y.R 7)) := by simpa using cell_ext eb9 hEw
                have eb10 : wr.cell? ⟨bb, ob + (k : Int).toNat * 11 + 10, none⟩ = some (.slice ys y.S.length yc) := by simpa using cell_ext eb10 hEw
                cases hs0 : sameF x y
                · have hn : all2 sameF c1.F c2.F = false := all2_no hx hy hs0
                  go_wp2_with (fail)
                  apply region_lit2 (T := []) (L := []) (X := []) (G := [eqv _, eqv _, eqv _, eqv _, eqv (.agg #[.int .i64 x.op, .int .i64 x.pc, .int .i64 (gi x.R 0), .int .i64 (gi x.R 1), .int .i64 (gi x.R 2), .int .i64 (gi x.R 3), .int .i64 (gi x.R 4), .int .i64 (gi x.R 5), .int .i64 (gi x.R 6), .int .i64 (gi x.R 7), .slice xs x.S.length xc]), eqv _, eqv _, eqv _, eqv _, eqv (.agg #[.int .i64 y.op, .int .i64 y.pc, .int .i64 (gi y.R 0), .int .i64 (gi y.R 1), .int .i64 (gi y.R 2), .int .i64 (gi y.R 3), .int .i64 (gi y.R 4), .int .i64 (gi y.R 5), .int .i64 (gi y.R 6), .int .i64 (gi y.R 7), .slice ys y.S.length yc]), eqv (.bool false), eqv _])
                  case hm => kernel_rfl
                  case hop =>
                    refine ⟨?_, ?_, ?_, ?_, ?_, ?_, ?_, ?_, ?_, ?_, ?_, ?_, trivial⟩
                    · intro a wa hs hf hd
                      have t2 := hf.off 2 (by kernel_rfl) rfl
                      exact plain_ rfl (yes_eqv (o_fieldAddr rfl Proofs.Try.underlying116 rfl rfl (by kernel_rfl) t2) rfl)
                    · intro a wa hs hf hd
                      have t52 : a.eval (.tmp 52) = _ := hd.at 0 52 (by kernel_rfl)
                      exact plain_ rfl (yes_eqv (o_load1 rfl Proofs.Try.underlying114 rfl t52 ((C0.since hs rfl).cell rfl)) rfl)
                    · intro a wa hs hf hd
                      have t6 := hf.off 6 (by kernel_rfl) rfl
                      exact plain_ rfl (yes_eqv (o_move rfl t6) rfl)
                    · intro a wa hs hf hd
                      have t53 : a.eval (.tmp 53) = _ := hd.at 1 53 (by kernel_rfl)
                      have t54 : a.eval (.tmp 54) = _ := hd.at 2 54 (by kernel_rfl)
                      exact plain_ rfl (yes_eqv (o_indexAddr (sz := 11) rfl Proofs.Try.underlying114 (by kernel_rfl) t53 t54 (by omega) (by omega)) rfl)
                    · intro a wa hs hf hd
                      have t55 : a.eval (.tmp 55) = _ := hd.at 3 55 (by kernel_rfl)
                      exact plain_ rfl (yes_eqv (o_load11 rfl Proofs.Try.underlying95 rfl (by kernel_rfl) t55 (cell_since ea0 hs rfl) (cell_since ea1 hs rfl) (cell_since ea2 hs rfl) (cell_since ea3 hs rfl) (cell_since ea4 hs rfl) (cell_since ea5 hs rfl) (cell_since ea6 hs rfl) (cell_since ea7 hs rfl) (cell_since ea8 hs rfl) (cell_since ea9 hs rfl) (cell_since ea10 hs rfl)) rfl)
                    · intro a wa hs hf hd
                      have t3 := hf.off 3 (by kernel_rfl) rfl
                      exact plain_ rfl (yes_eqv (o_fieldAddr rfl Proofs.Try.underlying116 rfl rfl (by kernel_rfl) t3) rfl)
                    · intro a wa hs hf hd
                      have t57 : a.eval (.tmp 57) = _ := hd.at 5 57 (by kernel_rfl)
                      exact plain_ rfl (yes_eqv (o_load1 rfl Proofs.Try.underlying114 rfl t57 ((C1.since hs rfl).cell rfl)) rfl)
                    · intro a wa hs hf hd
                      have t6 := hf.off 6 (by kernel_rfl) rfl
                      exact plain_ rfl (yes_eqv (o_move rfl t6) rfl)
                    · intro a wa hs hf hd
                      have t58 : a.eval (.tmp 58) = _ := hd.at 6 58 (by kernel_rfl)
                      have t59 : a.eval (.tmp 59) = _ := hd.at 7 59 (by kernel_rfl)
                      exact plain_ rfl (yes_eqv (o_indexAddr (sz := 11) rfl Proofs.Try.underlying114 (by kernel_rfl) t58 t59 (by omega) (by omega)) rfl)
                    · intro a wa hs hf hd
                      have t60 : a.eval (.tmp 60) = _ := hd.at 8 60 (by kernel_rfl)
                      exact plain_ rfl (yes_eqv (o_load11 rfl Proofs.Try.underlying95 rfl (by kernel_rfl) t60 (cell_since eb0 hs rfl) (cell_since eb1 hs rfl) (cell_since eb2 hs rfl) (cell_since eb3 hs rfl) (cell_since eb4 hs rfl) (cell_since eb5 hs rfl) (cell_since eb6 hs rfl) (cell_since eb7 hs rfl) (cell_since eb8 hs rfl) (cell_since eb9 hs rfl) (cell_since eb10 hs rfl)) rfl)
                    · intro a wa hs hf hd
                      have t56 : a.eval (.tmp 56) = _ := hd.at 4 56 (by kernel_rfl)
                      have t61 : a.eval (.tmp 61) = _ := hd.at 9 61 (by kernel_rfl)
                      exact plain_ rfl (yes_gives (by have h5 := refFrame_ N _ _ x y _ ((frame_of h8a hsa).ext (hEw.trans (Since.to_ext hs))) ((frame_of h8b hsb).ext (hEw.trans (Since.to_ext hs))); rw [hs0] at h5; exact h5) rfl rfl Proofs.Try.func159 (by kernel_rfl) (by kernel_rfl) (by simp only [List.map_toArray, List.map_cons, List.map_nil, t56, t61]) rfl)
                    · intro a wa hs hf hd
                      have t62 : a.eval (.tmp 62) = _ := hd.at 10 62 (by kernel_rfl)
                      exact plain_ rfl (yes_eqv (o_assign rfl t62) rfl)
                  case hG => exact ⟨stable_eqv _, stable_eqv _, stable_eqv _, stable_eqv _, stable_eqv _, stable_eqv _, stable_eqv _, stable_eqv _, stable_eqv _, stable_eqv _, stable_eqv _, stable_eqv _, trivial⟩
                  case hc => kernel_rfl
                  case hfin =>
                    intro v2 hs2
                    rintro _ rfl _ rfl _ rfl _ rfl _ rfl _ rfl _ rfl _ rfl _ rfl _ rfl _ rfl _ rfl
                    rintro _ rfl
                    simp only [Act.put, List.setIfInBounds_toArray, List.set_cons_zero, List.set_cons_succ]
                    go_wp2
                    go_ret
                    exact ⟨_, rfl, hEw.trans (Since.to_ext hs2), by first | rfl | (rw [hn]; rfl)⟩
                · go_wp2_with (fail)
                  apply region_lit2 (T := []) (L := []) (X := []) (G := [eqv _, eqv _, eqv _, eqv _, eqv (.agg #[.int .i64 x.op, .int .i64 x.pc, .int .i64 (gi x.R 0), .int .i64 (gi x.R 1), .int .i64 (gi x.R 2), .int .i64 (gi x.R 3), .int .i64 (gi x.R 4), .int .i64 (gi x.R 5), .int .i64 (gi x.R 6), .int .i64 (gi x.R 7), .slice xs x.S.length xc]), eqv _, eqv _, eqv _, eqv _, eqv (.agg #[.int .i64 y.op, .int .i64 y.pc, .int .i64 (gi y.R 0), .int .i64 (gi y.R 1), .int .i64 (gi y.R 2), .int .i64 (gi y.R 3), .int .i64 (gi y.R 4), .int .i64 (gi y.R 5), .int .i64 (gi y.R 6), .int .i64 (gi y.R 7), .slice ys y.S.length yc]), eqv (.bool true), eqv _])
                  case hm => kernel_rfl
                  case hop =>
                    refine ⟨?_, ?_, ?_, ?_, ?_, ?_, ?_, ?_, ?_, ?_, ?_, ?_, trivial⟩
                    · intro a wa hs hf hd
                      have t2 := hf.off 2 (by kernel_rfl) rfl
                      exact plain_ rfl (yes_eqv (o_fieldAddr rfl Proofs.Try.underlying116 rfl rfl (by kernel_rfl) t2) rfl)
                    · intro a wa hs hf hd
                      have t52 : a.eval (.tmp 52) = _ := hd.at 0 52 (by kernel_rfl)
                      exact plain_ rfl (yes_eqv (o_load1 rfl Proofs.Try.underlying114 rfl t52 ((C0.since hs rfl).cell rfl)) rfl)
                    · intro a wa hs hf hd
                      have t6 := hf.off 6 (by kernel_rfl) rfl
                      exact plain_ rfl (yes_eqv (o_move rfl t6) rfl)
                    · intro a wa hs hf hd
                      have t53 : a.eval (.tmp 53) = _ := hd.at 1 53 (by kernel_rfl)
                      have t54 : a.eval (.tmp 54) = _ := hd.at 2 54 (by kernel_rfl)
                      exact plain_ rfl (yes_eqv (o_indexAddr (sz := 11) rfl Proofs.Try.underlying114 (by kernel_rfl) t53 t54 (by omega) (by omega)) rfl)
                    · intro a wa hs hf hd
                      have t55 : a.eval (.tmp 55) = _ := hd.at 3 55 (by kernel_rfl)
                      exact plain_ rfl (yes_eqv (o_load11 rfl Proofs.Try.underlying95 rfl (by kernel_rfl) t55 (cell_since ea0 hs rfl) (cell_since ea1 hs rfl) (cell_since ea2 hs rfl) (cell_since ea3 hs rfl) (cell_since ea4 hs rfl) (cell_since ea5 hs rfl) (cell_since ea6 hs rfl) (cell_since ea7 hs rfl) (cell_since ea8 hs rfl) (cell_since ea9 hs rfl) (cell_since ea10 hs rfl)) rfl)
                    · intro a wa hs hf hd
                      have t3 := hf.off 3 (by kernel_rfl) rfl
                      exact plain_ rfl (yes_eqv (o_fieldAddr rfl Proofs.Try.underlying116 rfl rfl (by kernel_rfl) t3) rfl)
                    · intro a wa hs hf hd
                      have t57 : a.eval (.tmp 57) = _ := hd.at 5 57 (by kernel_rfl)
                      exact plain_ rfl (yes_eqv (o_load1 rfl Proofs.Try.underlying114 rfl t57 ((C1.since hs rfl).cell rfl)) rfl)
                    · intro a wa hs hf hd
                      have t6 := hf.off 6 (by kernel_rfl) rfl
                      exact plain_ rfl (yes_eqv (o_move rfl t6) rfl)
                    · intro a wa hs hf hd
                      have t58 : a.eval (.tmp 58) = _ := hd.at 6 58 (by kernel_rfl)
                      have t59 : a.eval (.tmp 59) = _ := hd.at 7 59 (by kernel_rfl)
                      exact plain_ rfl (yes_eqv (o_indexAddr (sz := 11) rfl Proofs.Try.underlying114 (by kernel_rfl) t58 t59 (by omega) (by omega)) rfl)
                    · intro a wa hs hf hd
                      have t60 : a.eval (.tmp 60) = _ := hd.at 8 60 (by kernel_rfl)
                      exact plain_ rfl (yes_eqv (o_load11 rfl Proofs.Try.underlying95 rfl (by kernel_rfl) t60 (cell_since eb0 hs rfl) (cell_since eb1 hs rfl) (cell_since eb2 hs rfl) (cell_since eb3 hs rfl) (cell_since eb4 hs rfl) (cell_since eb5 hs rfl) (cell_since eb6 hs rfl) (cell_since eb7 hs rfl) (cell_since eb8 hs rfl) (cell_since eb9 hs rfl) (cell_since eb10 hs rfl)) rfl)
                    · intro a wa hs hf hd
                      have t56 : a.eval (.tmp 56) = _ := hd.at 4 56 (by kernel_rfl)
                      have t61 : a.eval (.tmp 61) = _ := hd.at 9 61 (by kernel_rfl)
                      exact plain_ rfl (yes_gives (by have h5 := refFrame_ N _ _ x y _ ((frame_of h8a hsa).ext (hEw.trans (Since.to_ext hs))) ((frame_of h8b hsb).ext (hEw.trans (Since.to_ext hs))); rw [hs0] at h5; exact h5) rfl rfl Proofs.Try.func159 (by kernel_rfl) (by kernel_rfl) (by simp only [List.map_toArray, List.map_cons, List.map_nil, t56, t61]) rfl)
                    · intro a wa hs hf hd
                      have t62 : a.eval (.tmp 62) = _ := hd.at 10 62 (by kernel_rfl)
                      exact plain_ rfl (yes_eqv (o_assign rfl t62) rfl)
                  case hG => exact ⟨stable_eqv _, stable_eqv _, stable_eqv _, stable_eqv _, stable_eqv _, stable_eqv _, stable_eqv _, stable_eqv _, stable_eqv _, stable_eqv _, stable_eqv _, stable_eqv _, trivial⟩
                  case hc => kernel_rfl
                  case hfin =>
                    intro v2 hs2
                    rintro _ rfl _ rfl _ rfl _ rfl _ rfl _ rfl _ rfl _ rfl _ rfl _ rfl _ rfl _ rfl
                    rintro _ rfl
                    simp only [Act.put, List.setIfInBounds_toArray, List.set_cons_zero, List.set_cons_succ]
                    go_wp2
                    go_roundw
                    case rel => exact ⟨k + 1, by omega, by simp, fun i u v hi hu hv => (Nat.lt_succ_iff_lt_or_eq.1 hi).elim (fun h => hall i u v h hu hv) (fun h => by subst h; rw [hx] at hu; rw [hy] at hv; cases hu; cases hv; exact hs0), hE.trans (Since.to_ext hs2)⟩
                    case measure => simp [intOf]; omega
              · have hlt1 : ¬ (k : Int) < (c1.F.length : Int) := by omega
                have hy : all2 sameF c1.F c2.F = true := all2_yes HL.out fun i x y hi => hall i x y (by omega)
                go_wp2
                go_ret
                exact ⟨_, rfl, hEw, by first | rfl | (rw [hy]; rfl)⟩
          · have hl1 : ((c1.F.length : Int) != (c2.F.length : Int)) = true := by simp; omega
            have hn : all2 sameF c1.F c2.F = false := all2_len hl
            rw [hn]
            go_enter Proofs.Try.func130, Proofs.Try.ntmps130
            go_wp2_with (fail)
            go_at_call 72
            refine (kc _ exq).calls.mono ?_
            rintro e w1 ⟨_, rfl, hb1, rfl⟩
            have B0 : Box w1 w.heap.size #[.slice fa c1.F.length qa, .int .i64 c1.V, .int .i64 c1.E, .int .i64 (gi c1.X 0), .int .i64 (gi c1.X 1), .int .i64 (gi c1.X 2), .slice ra c1.Ret.length pa] 116 := ((Box.new _ _ _).alloc _).ext hb1
            have B1 : Box w1 (w.heap.size + 1) #[.slice fb c2.F.length qb, .int .i64 c2.V, .int .i64 c2.E, .int .i64 (gi c2.X 0), .int .i64 (gi c2.X 1), .int .i64 (gi c2.X 2), .slice rb c2.Ret.length pb] 116 := (Box.two _ _ _ _ _).ext hb1
            obtain ⟨p0, p1, p2, p3, p4, p5, p6, d0, d1, d2, d3, d4, d5, d6⟩ := cells7 B0
            obtain ⟨r0, r1, r2, r3, r4, r5, r6, q0, q1, q2, q3, q4, q5, q6⟩ := cells7 B1
            have z0 : w.heap.size < w1.heap.size := B0.lt
            have z1 : w.heap.size + 1 < w1.heap.size := B1.lt
            go_wp2
            go_ret
            exact ⟨_, rfl, exq, rfl⟩
set_option maxHeartbeats 2000000 in
set_option maxRecDepth 100000 in
theorem refSys_ (N : Nat → Prop) (va vb : Value) (s1 s2 : SysD) (w : World) (ha : IsSys N w va s1) (hb : IsSys N w vb s2) : Gives Proofs.Try.prog 78 #[va, vb] w (eqv (.bool (sameS s1 s2))) := by
  obtain ⟨aw, cw, ag, cg, ac, cc, al, cl, rfl, hw, hg, hc, hl⟩ := ha.opened
  obtain ⟨bw, dw, bg, dg, bc, dc, bl, dl, rfl, gw, gg, gc, gl⟩ := hb.opened
  have k1 := fun w' (e : Ext w w') => refSame_ N _ _ s1.M s2.M w' ((IsMem.mk rfl hw hg : IsMem N w _ s1.M).ext e) ((IsMem.mk rfl gw gg : IsMem N w _ s2.M).ext e)
  have k3 := fun w' (e : Ext w w') => refEvs_ N _ _ s1.L s2.L w' (IsEvs.keep hl e.keep) (IsEvs.keep gl e.keep)
  cases h1 : sameD s1.M s2.M
  · have hd : sameS s1 s2 = false := by simp only [sameS, h1, Bool.false_and]
    rw [hd]
    rw [h1] at k1
    cases h2 : all2 sameE s1.L s2.L
    · rw [h2] at k3
      go_enter Proofs.Try.func78, Proofs.Try.ntmps78
      go_wp2_with (fail)
      go_at_call 54
      refine (k1 _ exq).calls.mono ?_
      rintro e w1 ⟨_, rfl, hb1, rfl⟩
      have B0 : Box w1 w.heap.size #[.slice aw s1.M.W.length cw, .slice ag s1.M.G.length cg, .bool s1.M.bad, .slice ac s1.C.length cc, .slice al s1.L.length cl] 83 := ((Box.new _ _ _).alloc _).ext hb1
      have B1 : Box w1 (w.heap.size + 1) #[.slice bw s2.M.W.length dw, .slice bg s2.M.G.length dg, .bool s2.M.bad, .slice bc s2.C.length dc, .slice bl s2.L.length dl] 83 := (Box.two _ _ _ _ _).ext hb1
      obtain ⟨p0, p1, p2, p3, p4, d0, d1, d2, d3, d4⟩ := cells5 B0
      obtain ⟨r0, r1, r2, r3, r4, q0, q1, q2, q3, q4⟩ := cells5 B1
      have z0 : w.heap.size < w1.heap.size := B0.lt
      have z1 : w.heap.size + 1 < w1.heap.size := B1.lt
      go_wp2_with (fail)
      go_at_call 129
      refine (k3 _ exq).calls.mono ?_
      rintro e w2 ⟨_, rfl, hb2, rfl⟩
      have B0 := B0.ext hb2
      have B1 := B1.ext hb2
      clear p0 p1 p2 p3 p4 d0 d1 d2 d3 d4 r0 r1 r2 r3 r4 q0 q1 q2 q3 q4
      obtain ⟨p0, p1, p2, p3, p4, d0, d1, d2, d3, d4⟩ := cells5 B0
      obtain ⟨r0, r1, r2, r3, r4, q0, q1, q2, q3, q4⟩ := cells5 B1
      have z0 : w.heap.size < w2.heap.size := B0.lt
      have z1 : w.heap.size + 1 < w2.heap.size := B1.lt
      go_wp2
      go_ret
      exact ⟨_, rfl, exq, rfl⟩
    · rw [h2] at k3
      go_enter Proofs.Try.func78, Proofs.Try.ntmps78
      go_wp2_with (fail)
      go_at_call 54
      refine (k1 _ exq).calls.mono ?_
      rintro e w1 ⟨_, rfl, hb1, rfl⟩
      have B0 : Box w1 w.heap.size #[.slice aw s1.M.W.length cw, .slice ag s1.M.G.length cg, .bool s1.M.bad, .slice ac s1.C.length cc, .slice al s1.L.length cl] 83 := ((Box.new _ _ _).alloc _).ext hb1
      have B1 : Box w1 (w.heap.size + 1) #[.slice bw s2.M.W.length dw, .slice bg s2.M.G.length dg, .bool s2.M.bad, .slice bc s2.C.length dc, .slice bl s2.L.length dl] 83 := (Box.two _ _ _ _ _).ext hb1
      obtain ⟨p0, p1, p2, p3, p4, d0, d1, d2, d3, d4⟩ := cells5 B0
      obtain ⟨r0, r1, r2, r3, r4, q0, q1, q2, q3, q4⟩ := cells5 B1
      have z0 : w.heap.size < w1.heap.size := B0.lt
      have z1 : w.heap.size + 1 < w1.heap.size := B1.lt
      go_wp2_with (fail)
      go_at_call 129
      refine (k3 _ exq).calls.mono ?_
      rintro e w2 ⟨_, rfl, hb2, rfl⟩
      have B0 := B0.ext hb2
      have B1 := B1.ext hb2
      clear p0 p1 p2 p3 p4 d0 d1 d2 d3 d4 r0 r1 r2 r3 r4 q0 q1 q2 q3 q4
      obtain ⟨p0, p1, p2, p3, p4, d0, d1, d2, d3, d4⟩ := cells5 B0
      obtain ⟨r0, r1, r2, r3, r4, q0, q1, q2, q3, q4⟩ := cells5 B1
      have z0 : w.heap.size < w2.heap.size := B0.lt
      have z1 : w.heap.size + 1 < w2.heap.size := B1.lt
      go_wp2
      go_ret
      exact ⟨_, rfl, exq, rfl⟩
  · rw [h1] at k1
    cases h2 : all2 sameE s1.L s2.L
    · have hd : sameS s1 s2 = false := by simp only [sameS, h2, Bool.and_false]
      rw [hd]
      rw [h2] at k3
      go_enter Proofs.Try.func78, Proofs.Try.ntmps78
      go_wp2_with (fail)
      go_at_call 54
      refine (k1 _ exq).calls.mono ?_
      rintro e w1 ⟨_, rfl, hb1, rfl⟩
      have B0 : Box w1 w.heap.size #[.slice aw s1.M.W.length cw, .slice ag s1.M.G.length cg, .bool s1.M.bad, .slice ac s1.C.length cc, .slice al s1.L.length cl] 83 := ((Box.new _ _ _).alloc _).ext hb1
      have B1 : Box w1 (w.heap.size + 1) #[.slice bw s2.M.W.length dw, .slice bg s2.M.G.length dg, .bool s2.M.bad, .slice bc s2.C.length dc, .slice bl s2.L.length dl] 83 := (Box.two _ _ _ _ _).ext hb1
      obtain ⟨p0, p1, p2, p3, p4, d0, d1, d2, d3, d4⟩ := cells5 B0
      obtain ⟨r0, r1, r2, r3, r4, q0, q1, q2, q3, q4⟩ := cells5 B1
      have z0 : w.heap.size < w1.heap.size := B0.lt
      have z1 : w.heap.size + 1 < w1.heap.size := B1.lt
      go_wp2_with (fail)
      go_at_call 129
      refine (k3 _ exq).calls.mono ?_
      rintro e w2 ⟨_, rfl, hb2, rfl⟩
      have B0 := B0.ext hb2
      have B1 := B1.ext hb2
      clear p0 p1 p2 p3 p4 d0 d1 d2 d3 d4 r0 r1 r2 r3 r4 q0 q1 q2 q3 q4
      obtain ⟨p0, p1, p2, p3, p4, d0, d1, d2, d3, d4⟩ := cells5 B0
      obtain ⟨r0, r1, r2, r3, r4, q0, q1, q2, q3, q4⟩ := cells5 B1
      have z0 : w.heap.size < w2.heap.size := B0.lt
      have z1 : w.heap.size + 1 < w2.heap.size := B1.lt
      go_wp2
      go_ret
      exact ⟨_, rfl, exq, rfl⟩
    · have hd : sameS s1 s2 = all2 sameC s1.C s2.C := by simp only [sameS, h1, h2, Bool.true_and, Bool.and_true]
      rw [hd]
      rw [h2] at k3
      by_cases hl' : s1.C.length = s2.C.length
      · have hl1 : ((s1.C.length : Int) != (s2.C.length : Int)) = false := by simp [hl']
        have HL := Lib.hid hl'
        clear hl'
        have hla : s1.C.length ≤ 9223372036854775807 := by obtain ⟨_, _, ee, u1, u2, _⟩ := hc; cases ee; omega
        go_enter Proofs.Try.func78, Proofs.Try.ntmps78
        go_wp2_with (fail)
        go_at_call 54
        refine (k1 _ exq).calls.mono ?_
        rintro e w1 ⟨_, rfl, hb1, rfl⟩
        have B0 : Box w1 w.heap.size #[.slice aw s1.M.W.length cw, .slice ag s1.M.G.length cg, .bool s1.M.bad, .slice ac s1.C.length cc, .slice al s1.L.length cl] 83 := ((Box.new _ _ _).alloc _).ext hb1
        have B1 : Box w1 (w.heap.size + 1) #[.slice bw s2.M.W.length dw, .slice bg s2.M.G.length dg, .bool s2.M.bad, .slice bc s2.C.length dc, .slice bl s2.L.length dl] 83 := (Box.two _ _ _ _ _).ext hb1
        obtain ⟨p0, p1, p2, p3, p4, d0, d1, d2, d3, d4⟩ := cells5 B0
        obtain ⟨r0, r1, r2, r3, r4, q0, q1, q2, q3, q4⟩ := cells5 B1
        have z0 : w.heap.size < w1.heap.size := B0.lt
        have z1 : w.heap.size + 1 < w1.heap.size := B1.lt
        go_wp2_with (fail)
        go_at_call 129
        refine (k3 _ exq).calls.mono ?_
        rintro e w2 ⟨_, rfl, hb2, rfl⟩
        have B0 := B0.ext hb2
        have B1 := B1.ext hb2
        clear p0 p1 p2 p3 p4 d0 d1 d2 d3 d4 r0 r1 r2 r3 r4 q0 q1 q2 q3 q4
        obtain ⟨p0, p1, p2, p3, p4, d0, d1, d2, d3, d4⟩ := cells5 B0
        obtain ⟨r0, r1, r2, r3, r4, q0, q1, q2, q3, q4⟩ := cells5 B1
        have z0 : w.heap.size < w2.heap.size := B0.lt
        have z1 : w.heap.size + 1 < w2.heap.size := B1.lt
        go_wp2
        go_loopw [7] (fun kk wr => ∃ k : Nat, k ≤ s1.C.length ∧ kk = .int .i64 k ∧ (∀ (i : Nat) x y, i < k → s1.C[i]? = some x → s2.C[i]? = some y → sameC x y = true) ∧ Ext w2 wr) (fun kk _ => s1.C.length - (intOf kk).toNat)
        case atStart => exact ⟨0, Nat.zero_le _, rfl, fun i x y hi => by omega, Ext.refl _⟩
        case round =>
          obtain ⟨k, hk, rfl, hall, hE⟩ := hrel
          have hEw : Ext w wr := (show Ext w w2 from exq).trans hE
          have C0 := B0.ext hE
          have C1 := B1.ext hE
          clear p0 p1 p2 p3 p4 d0 d1 d2 d3 d4 r0 r1 r2 r3 r4 q0 q1 q2 q3 q4
          obtain ⟨p0, p1, p2, p3, p4, d0, d1, d2, d3, d4⟩ := cells5 C0
          obtain ⟨r0, r1, r2, r3, r4, q0, q1, q2, q3, q4⟩ := cells5 C1
          have z0 := C0.lt
          have z1 := C1.lt
          by_cases hlt : k < s1.C.length
          · have hlt1 : (k : Int) < (s2.C.length : Int) := by have := HL.out; omega
            have hlt2 : (k : Int) < (s1.C.length : Int) := by omega
            obtain ⟨x, hx⟩ := getSome hlt
            obtain ⟨y, hy⟩ := getSome (show k < s2.C.length by omega)
            obtain ⟨ba, oa, xf, xg, xr, xs, rfl, xa, na, h3a, hfa, hra, ea0, ea1, ea2, ea3, ea4, ea5, ea6⟩ := IsCores.at hc hx
            obtain ⟨bb, ob, yf, yg, yr, ys, rfl, xb, nb, h3b, hfb, hrb, eb0, eb1, eb2, eb3, eb4, eb5, eb6⟩ := IsCores.at gc hy
            have ea0 : wr.cell? ⟨ba, oa + (k : Int).toNat * 7, none⟩ = some (.slice xf x.F.length xg) := by simpa using cell_ext ea0 hEw
            have ea1 : wr.cell? ⟨ba, oa + (k : Int).toNat * 7 + 1, none⟩ = some (.int .i64 x.V) := by simpa using cell_ext ea1 hEw
            have ea2 : wr.cell? ⟨ba, oa + (k : Int).toNat * 7 + 2, none⟩ = some (.int .i64 x.E) := by simpa using cell_ext ea2 hEw
            have ea3 : wr.cell? ⟨ba, oa + (k : Int).toNat * 7 + 3, none⟩ = some (.int .i64 (gi x.X 0)) := by simpa using cell_ext ea3 hEw
            have ea4 : wr.cell? ⟨ba, oa + (k : Int).toNat * 7 + 4, none⟩ = some (.int .i64 (gi x.X 1)) := by simpa using cell_ext ea4 hEw
            have ea5 : wr.cell? ⟨ba, oa + (k : Int).toNat * 7 + 5, none⟩ = some (.int .i64 (gi x.X 2)) := by simpa using cell_ext ea5 hEw
            have ea6 : wr.cell? ⟨ba, oa + (k : Int).toNat * 7 + 6, none⟩ = some (.slice xr x.Ret.length xs) := by simpa using cell_ext ea6 hEw
            have eb0 : wr.cell? ⟨bb, ob + (k : Int).toNat * 7, none⟩ = some (.slice yf y.F.length yg) := by simpa using cell_ext eb0 hEw
            have eb1 : wr.cell? ⟨bb, ob + (k : Int).toNat * 7 + 1, none⟩ = some (.int .i64 y.V) := by simpa using cell_ext eb1 hEw
            have eb2 : wr.cell? ⟨bb, ob + (k : Int).toNat * 7 + 2, none⟩ = some (.int .i64 y.E) := by simpa using cell_ext eb2 hEw
            have eb3 : wr.cell? ⟨bb, ob + (k : Int).toNat * 7 + 3, none⟩ = some (.int .i64 (gi y.X 0)) := by simpa using cell_ext eb3 hEw
            have eb4 : wr.cell? ⟨bb, ob + (k : Int).toNat * 7 + 4, none⟩ = some (.int .i64 (gi y.X 1)) := by simpa using cell_ext eb4 hEw
            have eb5 : wr.cell? ⟨bb, ob + (k : Int).toNat * 7 + 5, none⟩ = some (.int .i64 (gi y.X 2)) := by simpa using cell_ext eb5 hEw
            have eb6 : wr.cell? ⟨bb, ob + (k : Int).toNat * 7 + 6, none⟩ = some (.slice yr y.Ret.length ys) := by simpa using cell_ext eb6 hEw
            cases hs0 : sameC x y
            · have hn : all2 sameC s1.C s2.C = false := all2_no hx hy hs0
              go_wp2_with (fail)
              apply region_lit2 (T := []) (L := []) (X := []) (G := [eqv _, eqv _, eqv _, eqv _, eqv (.agg #[.slice xf x.F.length xg, .int .i64 x.V, .int .i64 x.E, .int .i64 (gi x.X 0), .int .i64 (gi x.X 1), .int .i64 (gi x.X 2), .slice xr x.Ret.length xs]), eqv _, eqv _, eqv _, eqv _, eqv (.agg #[.slice yf y.F.length yg, .int .i64 y.V, .int .i64 y.E, .int .i64 (gi y.X 0), .int .i64 (gi y.X 1), .int .i64 (gi y.X 2), .slice yr y.Ret.length ys]), eqv (.bool false), eqv _])
              case hm => kernel_rfl
              case hop =>
                refine ⟨?_, ?_, ?_, ?_, ?_, ?_, ?_, ?_, ?_, ?_, ?_, ?_, trivial⟩
                · intro a wa hs hf hd
                  have t2 := hf.off 2 (by kernel_rfl) rfl
                  exact plain_ rfl (yes_eqv (o_fieldAddr rfl Proofs.Try.underlying83 rfl rfl (by kernel_rfl) t2) rfl)
                · intro a wa hs hf hd
                  have t41 : a.eval (.tmp 41) = _ := hd.at 0 41 (by kernel_rfl)
                  exact plain_ rfl (yes_eqv (o_load1 rfl Proofs.Try.underlying80 rfl t41 ((C0.since hs rfl).cell rfl)) rfl)
                · intro a wa hs hf hd
                  have t7 := hf.off 7 (by kernel_rfl) rfl
                  exact plain_ rfl (yes_eqv (o_move rfl t7) rfl)
                · intro a wa hs hf hd
                  have t42 : a.eval (.tmp 42) = _ := hd.at 1 42 (by kernel_rfl)
                  have t43 : a.eval (.tmp 43) = _ := hd.at 2 43 (by kernel_rfl)
                  exact plain_ rfl (yes_eqv (o_indexAddr (sz := 7) rfl Proofs.Try.underlying80 (by kernel_rfl) t42 t43 (by omega) (by omega)) rfl)
                · intro a wa hs hf hd
                  have t44 : a.eval (.tmp 44) = _ := hd.at 3 44 (by kernel_rfl)
                  exact plain_ rfl (yes_eqv (o_load7 rfl Proofs.Try.underlying116 rfl (by kernel_rfl) t44 (cell_since ea0 hs rfl) (cell_since ea1 hs rfl) (cell_since ea2 hs rfl) (cell_since ea3 hs rfl) (cell_since ea4 hs rfl) (cell_since ea5 hs rfl) (cell_since ea6 hs rfl)) rfl)
                · intro a wa hs hf hd
                  have t3 := hf.off 3 (by kernel_rfl) rfl
                  exact plain_ rfl (yes_eqv (o_fieldAddr rfl Proofs.Try.underlying83 rfl rfl (by kernel_rfl) t3) rfl)
                · intro a wa hs hf hd
                  have t46 : a.eval (.tmp 46) = _ := hd.at 5 46 (by kernel_rfl)
                  exact plain_ rfl (yes_eqv (o_load1 rfl Proofs.Try.underlying80 rfl t46 ((C1.since hs rfl).cell rfl)) rfl)
                · intro a wa hs hf hd
                  have t7 := hf.off 7 (by kernel_rfl) rfl
                  exact plain_ rfl (yes_eqv (o_move rfl t7) rfl)
                · intro a wa hs hf hd
                  have t47 : a.eval (.tmp 47) = _ := hd.at 6 47 (by kernel_rfl)
                  have t48 : a.eval (.tmp 48) = _ := hd.at 7 48 (by kernel_rfl)
                  exact plain_ rfl (yes_eqv (o_indexAddr (sz := 7) rfl Proofs.Try.underlying80 (by kernel_rfl) t47 t48 (by omega) (by omega)) rfl)
                · intro a wa hs hf hd
                  have t49 : a.eval (.tmp 49) = _ := hd.at 8 49 (by kernel_rfl)
                  exact plain_ rfl (yes_eqv (o_load7 rfl Proofs.Try.underlying116 rfl (by kernel_rfl) t49 (cell_since eb0 hs rfl) (cell_since eb1 hs rfl) (cell_since eb2 hs rfl) (cell_since eb3 hs rfl) (cell_since eb4 hs rfl) (cell_since eb5 hs rfl) (cell_since eb6 hs rfl)) rfl)
                · intro a wa hs hf hd
                  have t45 : a.eval (.tmp 45) = _ := hd.at 4 45 (by kernel_rfl)
                  have t50 : a.eval (.tmp 50) = _ := hd.at 9 50 (by kernel_rfl)
                  exact plain_ rfl (yes_gives (by have h5 := refOne_ N _ _ x y _ ((core_of h3a hfa hra).ext (hEw.trans (Since.to_ext hs))) ((core_of h3b hfb hrb).ext (hEw.trans (Since.to_ext hs))); rw [hs0] at h5; exact h5) rfl rfl Proofs.Try.func130 (by kernel_rfl) (by kernel_rfl) (by simp only [List.map_toArray, List.map_cons, List.map_nil, t45, t50]) rfl)
                · intro a wa hs hf hd
                  have t51 : a.eval (.tmp 51) = _ := hd.at 10 51 (by kernel_rfl)
                  exact plain_ rfl (yes_eqv (o_assign rfl t51) rfl)
              case hG => exact ⟨stable_eqv _, stable_eqv _, stable_eqv _, stable_eqv _, stable_eqv _, stable_eqv _, stable_eqv _, stable_eqv _, stable_eqv _, stable_eqv _, stable_eqv _, stable_eqv _, trivial⟩
              case hc => kernel_rfl
              case hfin =>
                intro v2 hs2
                rintro _ rfl _ rfl _ rfl _ rfl _ rfl _ rfl _ rfl _ rfl _ rfl _ rfl _ rfl _ rfl
                rintro _ rfl
                simp only [Act.put, List.setIfInBounds_toArray, List.set_cons_zero, List.set_cons_succ]
                go_wp2
                go_ret
                exact ⟨_, rfl, hEw.trans (Since.to_ext hs2), by first | rfl | (rw [hn]; rfl)⟩
            · go_wp2_with (fail)
              apply region_lit2 (T := []) (L := []) (X := []) (G := [eqv _, eqv _, eqv _, eqv _, eqv (.agg #[.slice xf x.F.length xg, .int .i64 x.V, .int .i64 x.E, .int .i64 (gi x.X 0), .int .i64 (gi x.X 1), .int .i64 (gi x.X 2), .slice xr x.Ret.length xs]), eqv _, eqv _, eqv _, eqv _, eqv (.agg #[.slice yf y.F.length yg, .int .i64 y.V, .int .i64 y.E, .int .i64 (gi y.X 0), .int .i64 (gi y.X 1), .int .i64 (gi y.X 2), .slice yr y.Ret.length ys]), eqv (.bool true), eqv _])
              case hm => kernel_rfl
              case hop =>
                refine ⟨?_, ?_, ?_, ?_, ?_, ?_, ?_, ?_, ?_, ?_, ?_, ?_, trivial⟩
                · intro a wa hs hf hd
                  have t2 := hf.off 2 (by kernel_rfl) rfl
                  exact plain_ rfl (yes_eqv (o_fieldAddr rfl Proofs.Try.underlying83 rfl rfl (by kernel_rfl) t2) rfl)
                · intro a wa hs hf hd
                  have t41 : a.eval (.tmp 41) = _ := hd.at 0 41 (by kernel_rfl)
                  exact plain_ rfl (yes_eqv (o_load1 rfl Proofs.Try.underlying80 rfl t41 ((C0.since hs rfl).cell rfl)) rfl)
                · intro a wa hs hf hd
                  have t7 := hf.off 7 (by kernel_rfl) rfl
                  exact plain_ rfl (yes_eqv (o_move rfl t7) rfl)
                · intro a wa hs hf hd
                  have t42 : a.eval (.tmp 42) = _ := hd.at 1 42 (by kernel_rfl)
                  have t43 : a.eval (.tmp 43) = _ := hd.at 2 43 (by kernel_rfl)
                  exact plain_ rfl (yes_eqv (o_indexAddr (sz := 7) rfl Proofs.Try.underlying80 (by kernel_rfl) t42 t43 (by omega) (by omega)) rfl)
                · intro a wa hs hf hd
                  have t44 : a.eval (.tmp 44) = _ := hd.at 3 44 (by kernel_rfl)
                  exact plain_ rfl (yes_eqv (o_load7 rfl Proofs.Try.underlying116 rfl (by kernel_rfl) t44 (cell_since ea0 hs rfl) (cell_since ea1 hs rfl) (cell_since ea2 hs rfl) (cell_since ea3 hs rfl) (cell_since ea4 hs rfl) (cell_since ea5 hs rfl) (cell_since ea6 hs rfl)) rfl)
                · intro a wa hs hf hd
                  have t3 := hf.off 3 (by kernel_rfl) rfl
                  exact plain_ rfl (yes_eqv (o_fieldAddr rfl Proofs.Try.underlying83 rfl rfl (by kernel_rfl) t3) rfl)
                · intro a wa hs hf hd
                  have t46 : a.eval (.tmp 46) = _ := hd.at 5 46 (by kernel_rfl)
                  exact plain_ rfl (yes_eqv (o_load1 rfl Proofs.Try.underlying80 rfl t46 ((C1.since hs rfl).cell rfl)) rfl)
                · intro a wa hs hf hd
                  have t7 := hf.off 7 (by kernel_rfl) rfl
                  exact plain_ rfl (yes_eqv (o_move rfl t7) rfl)
                · intro a wa hs hf hd
                  have t47 : a.eval (.tmp 47) = _ := hd.at 6 47 (by kernel_rfl)
                  have t48 : a.eval (.tmp 48) = _ := hd.at 7 48 (by kernel_rfl)
                  exact plain_ rfl (yes_eqv (o_indexAddr (sz := 7) rfl Proofs.Try.underlying80 (by kernel_rfl) t47 t48 (by omega) (by omega)) rfl)
                · intro a wa hs hf hd
                  have t49 : a.eval (.tmp 49) = _ := hd.at 8 49 (by kernel_rfl)
                  exact plain_ rfl (yes_eqv (o_load7 rfl Proofs.Try.underlying116 rfl (by kernel_rfl) t49 (cell_since eb0 hs rfl) (cell_since eb1 hs rfl) (cell_since eb2 hs rfl) (cell_since eb3 hs rfl) (cell_since eb4 hs rfl) (cell_since eb5 hs rfl) (cell_since eb6 hs rfl)) rfl)
                · intro a wa hs hf hd
                  have t45 : a.eval (.tmp 45) = _ := hd.at 4 45 (by kernel_rfl)
                  have t50 : a.eval (.tmp 50) = _ := hd.at 9 50 (by kernel_rfl)
                  exact plain_ rfl (yes_gives (by have h5 := refOne_ N _ _ x y _ ((core_of h3a hfa hra).ext (hEw.trans (Since.to_ext hs))) ((core_of h3b hfb hrb).ext (hEw.trans (Since.to_ext hs))); rw [hs0] at h5; exact h5) rfl rfl Proofs.Try.func130 (by kernel_rfl) (by kernel_rfl) (by simp only [List.map_toArray, List.map_cons, List.map_nil, t45, t50]) rfl)
                · intro a wa hs hf hd
                  have t51 : a.eval (.tmp 51) = _ := hd.at 10 51 (by kernel_rfl)
                  exact plain_ rfl (yes_eqv (o_assign rfl t51) rfl)
              case hG => exact ⟨stable_eqv _, stable_eqv _, stable_eqv _, stable_eqv _, stable_eqv _, stable_eqv _, stable_eqv _, stable_eqv _, stable_eqv _, stable_eqv _, stable_eqv _, stable_eqv _, trivial⟩
              case hc => kernel_rfl
              case hfin =>
                intro v2 hs2
                rintro _ rfl _ rfl _ rfl _ rfl _ rfl _ rfl _ rfl _ rfl _ rfl _ rfl _ rfl _ rfl
                rintro _ rfl
                simp only [Act.put, List.setIfInBounds_toArray, List.set_cons_zero, List.set_cons_succ]
                go_wp2
                go_roundw
                case rel => exact ⟨k + 1, by omega, by simp, fun i u v hi hu hv => (Nat.lt_succ_iff_lt_or_eq.1 hi).elim (fun h => hall i u v h hu hv) (fun h => by subst h; rw [hx] at hu; rw [hy] at hv; cases hu; cases hv; exact hs0), hE.trans (Since.to_ext hs2)⟩
                case measure => simp [intOf]; omega
          · have hlt1 : ¬ (k : Int) < (s1.C.length : Int) := by omega
            have hy : all2 sameC s1.C s2.C = true := all2_yes HL.out fun i x y hi => hall i x y (by omega)
            go_wp2
            go_ret
            exact ⟨_, rfl, hEw, by first | rfl | (rw [hy]; rfl)⟩
      · have hl1 : ((s1.C.length : Int) != (s2.C.length : Int)) = true := by simp; omega
        have hn : all2 sameC s1.C s2.C = false := all2_len hl'
        rw [hn]
        go_enter Proofs.Try.func78, Proofs.Try.ntmps78
        go_wp2_with (fail)
        go_at_call 54
        refine (k1 _ exq).calls.mono ?_
        rintro e w1 ⟨_, rfl, hb1, rfl⟩
        have B0 : Box w1 w.heap.size #[.slice aw s1.M.W.length cw, .slice ag s1.M.G.length cg, .bool s1.M.bad, .slice ac s1.C.length cc, .slice al s1.L.length cl] 83 := ((Box.new _ _ _).alloc _).ext hb1
        have B1 : Box w1 (w.heap.size + 1) #[.slice bw s2.M.W.length dw, .slice bg s2.M.G.length dg, .bool s2.M.bad, .slice bc s2.C.length dc, .slice bl s2.L.length dl] 83 := (Box.two _ _ _ _ _).ext hb1
        obtain ⟨p0, p1, p2, p3, p4, d0, d1, d2, d3, d4⟩ := cells5 B0
        obtain ⟨r0, r1, r2, r3, r4, q0, q1, q2, q3, q4⟩ := cells5 B1
        have z0 : w.heap.size < w1.heap.size := B0.lt
        have z1 : w.heap.size + 1 < w1.heap.size := B1.lt
        go_wp2_with (fail)
        go_at_call 129
        refine (k3 _ exq).calls.mono ?_
        rintro e w2 ⟨_, rfl, hb2, rfl⟩
        have B0 := B0.ext hb2
        have B1 := B1.ext hb2
        clear p0 p1 p2 p3 p4 d0 d1 d2 d3 d4 r0 r1 r2 r3 r4 q0 q1 q2 q3 q4
        obtain ⟨p0, p1, p2, p3, p4, d0, d1, d2, d3, d4⟩ := cells5 B0
        obtain ⟨r0, r1, r2, r3, r4, q0, q1, q2, q3, q4⟩ := cells5 B1
        have z0 : w.heap.size < w2.heap.size := B0.lt
        have z1 : w.heap.size + 1 < w2.heap.size := B1.lt
        go_wp2
        go_ret
        exact ⟨_, rfl, exq, rfl⟩
end Go.Proofs.Ytcfbdfgondmkoaa
