/- Steps' parts: another arena; a frame at a step; slots' places. -/
import Derived.Test.YtcfbdfgondmkoaaDat4
import Derived.Test.YtcfbdfgondmkoaaCoD
namespace Go.Proofs.Ytcfbdfgondmkoaa
open Go Go.RowKit
set_option linter.unusedSimpArgs false
set_option linter.unusedVariables false
set_option linter.unnecessarySimpa false

theorem box_putOther {w : World} {b k : Nat} {o : Obj} {cs : Array Value} {t : TypeId} (h : Box w k cs t) (hn : b ≠ k) : Box (put w b o) k cs t := (put_other hn).trans h
def isSysN (N : Nat → Prop) (s : SysD) : GP := fun v w => IsSys N w v s
theorem stable_isSysN (N : Nat → Prop) (s : SysD) : Stable (isSysN N s) := fun _ _ _ h hx => IsSys.ext h hx
def isMemN (N : Nat → Prop) (m : Arena) : GP := fun v w => IsMem N w v m
theorem stable_isMemN (N : Nat → Prop) (m : Arena) : Stable (isMemN N m) := fun _ _ _ h hx => IsMem.keep h hx.keep
theorem IsMem.up {N : Nat → Prop} {w : World} {v : Value} {m : Arena} (h : IsMem N w v m) : IsMem (Up N w) w v m := h.less fun _ hx hn => hn.elim id fun k => absurd k (by omega)
theorem IsFrame.up {N : Nat → Prop} {w : World} {v : Value} {f : FrameD} (h : IsFrame N w v f) : IsFrame (Up N w) w v f := h.less fun _ hx hn => hn.elim id fun k => absurd k (by omega)
theorem IsMem.bxn {N : Nat → Prop} {w : World} {hi : Nat} {v : Value} {m : Arena} (h : IsMem N w v m) : IsMem (Bx N w.heap.size hi) w v m := h.less fun _ hx hn => Bx.new hx hn
theorem IsInts.bxn {N : Nat → Prop} {w : World} {hi : Nat} {v : Value} {l : List Int} (h : IsInts N w v l) : IsInts (Bx N w.heap.size hi) w v l := h.less fun _ hx hn => Bx.new hx hn
theorem IsSys.bxn {N : Nat → Prop} {w : World} {hi : Nat} {v : Value} {s : SysD} (h : IsSys N w v s) : IsSys (Bx N w.heap.size hi) w v s := h.less fun _ hx hn => Bx.new hx hn
theorem IsFrame.bxn {N : Nat → Prop} {w : World} {hi : Nat} {v : Value} {f : FrameD} (h : IsFrame N w v f) : IsFrame (Bx N w.heap.size hi) w v f := h.less fun _ hx hn => Bx.new hx hn
theorem IsFrame.mk {N : Nat → Prop} {w : World} {f : FrameD} {s : Value} (h8 : f.R.length = 8) (hs : IsInts N w s f.S) : IsFrame N w (.agg #[.int .i64 f.op, .int .i64 f.pc, .int .i64 (gi f.R 0), .int .i64 (gi f.R 1), .int .i64 (gi f.R 2), .int .i64 (gi f.R 3), .int .i64 (gi f.R 4), .int .i64 (gi f.R 5), .int .i64 (gi f.R 6), .int .i64 (gi f.R 7), s]) f :=
  ⟨_, rfl, h8, s, rfl, hs⟩
theorem Bx.le {N : Nat → Prop} {w cur : World} {n : Nat} (hN : ∀ b, N b → b < w.heap.size) (h : w.heap.size + n ≤ cur.heap.size) : ∀ b, Bx N w.heap.size (w.heap.size + n) b → b < cur.heap.size :=
  fun b hb => hb.elim (fun q => by have := hN b q; omega) fun q => by have := q.2; omega
set_option maxHeartbeats 1000000 in
set_option maxRecDepth 100000 in
theorem refMem_ (N : Nat → Prop) (va vm : Value) (s : SysD) (m : Arena) (w : World) (h : IsSys N w va s) (hm : IsMem N w vm m) : Gives Proofs.Try.prog 103 #[va, vm] w (fun r w' => IsSys N w' r (memS s m)) := by
  obtain ⟨aw, cw, ag, cg, ac, cc, al, cl, rfl, hw, hg, hc, hl⟩ := h.opened
  obtain ⟨bw, dw, bg, dg, rfl, mw, mg⟩ := hm.opened
  go_enter Proofs.Try.func103, Proofs.Try.ntmps103
  go_wp2
  exact bodyPost_ret (ret_cell (cs := #[.slice bw m.W.length dw, .slice bg m.G.length dg, .bool m.bad, .slice ac s.C.length cc, .slice al s.L.length cl]) (Box.newAt _ _ _ (by first | rfl | simp)) Proofs.Try.results103 rfl Proofs.Try.underlying83 rfl (by kernel_rfl)) rfl ⟨_, rfl, (by with_reducible (repeat (first | assumption | exact Ext.refl _ | refine Ext.alloc' ?_ _ | refine Ext.store0 ?_ _ _ | refine Ext.storek ?_ _ _ _ | refine Ext.storen ?_ (by omega) | refine Ext.stores0 ?_ ?_ _ _ | refine Ext.storesk ?_ ?_ _ _ _ | refine Ext.drewN' ?_ _ | refine Ext.drew' ?_ | refine Ext.trans ?_ (by assumption)))), IsSys.mk rfl (IsInts.keep mw (by with_reducible (repeat (first | assumption | exact Keep.refl _ _ | refine Keep.alloc ?_ _ | refine Keep.s ?_ (by first | assumption | exact Bx.mem (by omega) (by omega) | exact Up.mem (by omega)) | refine Keep.n ?_ (by omega) | refine Keep.ext ?_ (by assumption) | refine Keep.trans ?_ (by assumption) | refine Keep.drew ?_)))) (IsInts.keep mg (by with_reducible (repeat (first | assumption | exact Keep.refl _ _ | refine Keep.alloc ?_ _ | refine Keep.s ?_ (by first | assumption | exact Bx.mem (by omega) (by omega) | exact Up.mem (by omega)) | refine Keep.n ?_ (by omega) | refine Keep.ext ?_ (by assumption) | refine Keep.trans ?_ (by assumption) | refine Keep.drew ?_)))) (IsCores.keep hc (by with_reducible (repeat (first | assumption | exact Keep.refl _ _ | refine Keep.alloc ?_ _ | refine Keep.s ?_ (by first | assumption | exact Bx.mem (by omega) (by omega) | exact Up.mem (by omega)) | refine Keep.n ?_ (by omega) | refine Keep.ext ?_ (by assumption) | refine Keep.trans ?_ (by assumption) | refine Keep.drew ?_)))) (IsEvs.keep hl (by with_reducible (repeat (first | assumption | exact Keep.refl _ _ | refine Keep.alloc ?_ _ | refine Keep.s ?_ (by first | assumption | exact Bx.mem (by omega) (by omega) | exact Up.mem (by omega)) | refine Keep.n ?_ (by omega) | refine Keep.ext ?_ (by assumption) | refine Keep.trans ?_ (by assumption) | refine Keep.drew ?_))))⟩
theorem place_ (id k : Int) (w : World) (h0 : 0 ≤ id) (h1 : id ≤ 100) : Gives Proofs.Try.prog 94 #[.int .i64 id, .int .i64 k] w (eqv (.int .i64 (placeD id k))) := by
  go_enter Proofs.Try.func94, Proofs.Try.ntmps94
  go_wp2
  go_ret
  exact ⟨_, rfl, (by with_reducible (repeat (first | assumption | exact Ext.refl _ | refine Ext.alloc' ?_ _ | refine Ext.store0 ?_ _ _ | refine Ext.storek ?_ _ _ _ | refine Ext.stores0 ?_ ?_ _ _ | refine Ext.storesk ?_ ?_ _ _ _ | refine Ext.drewN' ?_ _ | refine Ext.drew' ?_ | refine Ext.trans ?_ (by assumption)))), by unfold placeD; first | rfl | (simp only [eqv, wrap64]; congr 1; omega)⟩
theorem refPlace_ (id k : Int) (w : World) (h0 : 0 ≤ id) (h1 : id ≤ 100) : Gives Proofs.Try.prog 95 #[.int .i64 id, .int .i64 k] w (eqv (.int .i64 (placeD id k))) := by
  go_enter Proofs.Try.func95, Proofs.Try.ntmps95
  go_wp2
  go_ret
  exact ⟨_, rfl, (by with_reducible (repeat (first | assumption | exact Ext.refl _ | refine Ext.alloc' ?_ _ | refine Ext.store0 ?_ _ _ | refine Ext.storek ?_ _ _ _ | refine Ext.stores0 ?_ ?_ _ _ | refine Ext.storesk ?_ ?_ _ _ _ | refine Ext.drewN' ?_ _ | refine Ext.drew' ?_ | refine Ext.trans ?_ (by assumption)))), by unfold placeD; first | rfl | (simp only [eqv, wrap64]; congr 1; omega)⟩
theorem own5_ (op : Int) (w : World) : Gives Proofs.Try.prog 96 #[.int .i64 op] w (eqv (.bool (own5 op))) := by
  by_cases h1 : op = 3
  · subst h1
    go_enter Proofs.Try.func96, Proofs.Try.ntmps96
    go_wp2
    go_ret
    exact ⟨_, rfl, (by with_reducible (repeat (first | assumption | exact Ext.refl _ | refine Ext.alloc' ?_ _ | refine Ext.store0 ?_ _ _ | refine Ext.storek ?_ _ _ _ | refine Ext.stores0 ?_ ?_ _ _ | refine Ext.storesk ?_ ?_ _ _ _ | refine Ext.drewN' ?_ _ | refine Ext.drew' ?_ | refine Ext.trans ?_ (by assumption)))), by simp [own5, eqv]⟩
  · have q1 : (op == 3) = false := by simpa using h1
    by_cases h2 : op = 4
    · subst h2
      go_enter Proofs.Try.func96, Proofs.Try.ntmps96
      go_wp2
      go_ret
      exact ⟨_, rfl, (by with_reducible (repeat (first | assumption | exact Ext.refl _ | refine Ext.alloc' ?_ _ | refine Ext.store0 ?_ _ _ | refine Ext.storek ?_ _ _ _ | refine Ext.stores0 ?_ ?_ _ _ | refine Ext.storesk ?_ ?_ _ _ _ | refine Ext.drewN' ?_ _ | refine Ext.drew' ?_ | refine Ext.trans ?_ (by assumption)))), by simp [own5, eqv]⟩
    · have q2 : (op == 4) = false := by simpa using h2
      go_enter Proofs.Try.func96, Proofs.Try.ntmps96
      go_wp2
      go_ret
      exact ⟨_, rfl, (by with_reducible (repeat (first | assumption | exact Ext.refl _ | refine Ext.alloc' ?_ _ | refine Ext.store0 ?_ _ _ | refine Ext.storek ?_ _ _ _ | refine Ext.stores0 ?_ ?_ _ _ | refine Ext.storesk ?_ ?_ _ _ _ | refine Ext.drewN' ?_ _ | refine Ext.drew' ?_ | refine Ext.trans ?_ (by assumption)))), by simp [own5, eqv, h1, h2]⟩
theorem refOwn5_ (op : Int) (w : World) : Gives Proofs.Try.prog 97 #[.int .i64 op] w (eqv (.bool (own5 op))) := by
  by_cases h1 : op = 3
  · subst h1
    go_enter Proofs.Try.func97, Proofs.Try.ntmps97
    go_wp2
    go_ret
    exact ⟨_, rfl, (by with_reducible (repeat (first | assumption | exact Ext.refl _ | refine Ext.alloc' ?_ _ | refine Ext.store0 ?_ _ _ | refine Ext.storek ?_ _ _ _ | refine Ext.stores0 ?_ ?_ _ _ | refine Ext.storesk ?_ ?_ _ _ _ | refine Ext.drewN' ?_ _ | refine Ext.drew' ?_ | refine Ext.trans ?_ (by assumption)))), by simp [own5, eqv]⟩
  · have q1 : (op == 3) = false := by simpa using h1
    by_cases h2 : op = 4
    · subst h2
      go_enter Proofs.Try.func97, Proofs.Try.ntmps97
      go_wp2
      go_ret
      exact ⟨_, rfl, (by with_reducible (repeat (first | assumption | exact Ext.refl _ | refine Ext.alloc' ?_ _ | refine Ext.store0 ?_ _ _ | refine Ext.storek ?_ _ _ _ | refine Ext.stores0 ?_ ?_ _ _ | refine Ext.storesk ?_ ?_ _ _ _ | refine Ext.drewN' ?_ _ | refine Ext.drew' ?_ | refine Ext.trans ?_ (by assumption)))), by simp [own5, eqv]⟩
    · have q2 : (op == 4) = false := by simpa using h2
      go_enter Proofs.Try.func97, Proofs.Try.ntmps97
      go_wp2
      go_ret
      exact ⟨_, rfl, (by with_reducible (repeat (first | assumption | exact Ext.refl _ | refine Ext.alloc' ?_ _ | refine Ext.store0 ?_ _ _ | refine Ext.storek ?_ _ _ _ | refine Ext.stores0 ?_ ?_ _ _ | refine Ext.storesk ?_ ?_ _ _ _ | refine Ext.drewN' ?_ _ | refine Ext.drew' ?_ | refine Ext.trans ?_ (by assumption)))), by simp [own5, eqv, h1, h2]⟩
theorem own4_ (op : Int) (w : World) : Gives Proofs.Try.prog 107 #[.int .i64 op] w (eqv (.bool (own4 op))) := by
  by_cases h1 : op = 1
  · subst h1
    go_enter Proofs.Try.func107, Proofs.Try.ntmps107
    go_wp2
    go_ret
    exact ⟨_, rfl, (by with_reducible (repeat (first | assumption | exact Ext.refl _ | refine Ext.alloc' ?_ _ | refine Ext.store0 ?_ _ _ | refine Ext.storek ?_ _ _ _ | refine Ext.stores0 ?_ ?_ _ _ | refine Ext.storesk ?_ ?_ _ _ _ | refine Ext.drewN' ?_ _ | refine Ext.drew' ?_ | refine Ext.trans ?_ (by assumption)))), by simp [own4, eqv]⟩
  · have q1 : (op == 1) = false := by simpa using h1
    by_cases h2 : op = 2
    · subst h2
      go_enter Proofs.Try.func107, Proofs.Try.ntmps107
      go_wp2
      go_ret
      exact ⟨_, rfl, (by with_reducible (repeat (first | assumption | exact Ext.refl _ | refine Ext.alloc' ?_ _ | refine Ext.store0 ?_ _ _ | refine Ext.storek ?_ _ _ _ | refine Ext.stores0 ?_ ?_ _ _ | refine Ext.storesk ?_ ?_ _ _ _ | refine Ext.drewN' ?_ _ | refine Ext.drew' ?_ | refine Ext.trans ?_ (by assumption)))), by simp [own4, eqv]⟩
    · have q2 : (op == 2) = false := by simpa using h2
      go_enter Proofs.Try.func107, Proofs.Try.ntmps107
      go_wp2
      go_ret
      exact ⟨_, rfl, (by with_reducible (repeat (first | assumption | exact Ext.refl _ | refine Ext.alloc' ?_ _ | refine Ext.store0 ?_ _ _ | refine Ext.storek ?_ _ _ _ | refine Ext.stores0 ?_ ?_ _ _ | refine Ext.storesk ?_ ?_ _ _ _ | refine Ext.drewN' ?_ _ | refine Ext.drew' ?_ | refine Ext.trans ?_ (by assumption)))), by simp [own4, eqv, h1, h2]⟩
theorem refOwn4_ (op : Int) (w : World) : Gives Proofs.Try.prog 108 #[.int .i64 op] w (eqv (.bool (own4 op))) := by
  by_cases h1 : op = 1
  · subst h1
    go_enter Proofs.Try.func108, Proofs.Try.ntmps108
    go_wp2
    go_ret
    exact ⟨_, rfl, (by with_reducible (repeat (first | assumption | exact Ext.refl _ | refine Ext.alloc' ?_ _ | refine Ext.store0 ?_ _ _ | refine Ext.storek ?_ _ _ _ | refine Ext.stores0 ?_ ?_ _ _ | refine Ext.storesk ?_ ?_ _ _ _ | refine Ext.drewN' ?_ _ | refine Ext.drew' ?_ | refine Ext.trans ?_ (by assumption)))), by simp [own4, eqv]⟩
  · have q1 : (op == 1) = false := by simpa using h1
    by_cases h2 : op = 2
    · subst h2
      go_enter Proofs.Try.func108, Proofs.Try.ntmps108
      go_wp2
      go_ret
      exact ⟨_, rfl, (by with_reducible (repeat (first | assumption | exact Ext.refl _ | refine Ext.alloc' ?_ _ | refine Ext.store0 ?_ _ _ | refine Ext.storek ?_ _ _ _ | refine Ext.stores0 ?_ ?_ _ _ | refine Ext.storesk ?_ ?_ _ _ _ | refine Ext.drewN' ?_ _ | refine Ext.drew' ?_ | refine Ext.trans ?_ (by assumption)))), by simp [own4, eqv]⟩
    · have q2 : (op == 2) = false := by simpa using h2
      go_enter Proofs.Try.func108, Proofs.Try.ntmps108
      go_wp2
      go_ret
      exact ⟨_, rfl, (by with_reducible (repeat (first | assumption | exact Ext.refl _ | refine Ext.alloc' ?_ _ | refine Ext.store0 ?_ _ _ | refine Ext.storek ?_ _ _ _ | refine Ext.stores0 ?_ ?_ _ _ | refine Ext.storesk ?_ ?_ _ _ _ | refine Ext.drewN' ?_ _ | refine Ext.drew' ?_ | refine Ext.trans ?_ (by assumption)))), by simp [own4, eqv, h1, h2]⟩
set_option maxHeartbeats 1000000 in
set_option maxRecDepth 100000 in
theorem on_ (N : Nat → Prop) (va vf : Value) (s : SysD) (id pc : Int) (f : FrameD) (w : World) (h : IsSys N w va s) (hf : IsFrame N w vf f) (hN : ∀ b, N b → b < w.heap.size) (hC : s.C.length ≤ 100000) (hFm : ∀ (i : Nat) c, s.C[i]? = some c → c.F.length ≤ 100000) :
    Gives Proofs.Try.prog 149 #[va, .int .i64 id, vf, .int .i64 pc] w (fun r w' => IsSys N w' r (setS s id (pcF f pc))) := by
  obtain ⟨aw, cw, ag, cg, ac, cc, al, cl, rfl, hw, hg, hc, hl⟩ := h.opened
  obtain ⟨ga, gc, rfl, f8, fs⟩ := hf.opened
  go_enter Proofs.Try.func149, Proofs.Try.ntmps149
  go_wp2_with (fail)
  go_at_call 85
  refine (set_ (Bx N w.heap.size (w.heap.size + 3)) _ _ s id (pcF f pc) _ (IsSys.mk rfl (IsInts.keep (IsInts.bxn hw) (by with_reducible (repeat (first | assumption | exact Keep.refl _ _ | refine Keep.alloc ?_ _ | refine Keep.s ?_ (by first | assumption | exact Bx.mem (by omega) (by omega) | exact Up.mem (by omega)) | refine Keep.n ?_ (by omega) | refine Keep.ext ?_ (by assumption) | refine Keep.trans ?_ (by assumption) | refine Keep.drew ?_)))) (IsInts.keep (IsInts.bxn hg) (by with_reducible (repeat (first | assumption | exact Keep.refl _ _ | refine Keep.alloc ?_ _ | refine Keep.s ?_ (by first | assumption | exact Bx.mem (by omega) (by omega) | exact Up.mem (by omega)) | refine Keep.n ?_ (by omega) | refine Keep.ext ?_ (by assumption) | refine Keep.trans ?_ (by assumption) | refine Keep.drew ?_)))) (IsCores.keep (IsCores.less hc fun _ hx hn => Bx.new hx hn) (by with_reducible (repeat (first | assumption | exact Keep.refl _ _ | refine Keep.alloc ?_ _ | refine Keep.s ?_ (by first | assumption | exact Bx.mem (by omega) (by omega) | exact Up.mem (by omega)) | refine Keep.n ?_ (by omega) | refine Keep.ext ?_ (by assumption) | refine Keep.trans ?_ (by assumption) | refine Keep.drew ?_)))) (IsEvs.keep (IsEvs.less hl fun _ hx hn => Bx.new hx hn) (by with_reducible (repeat (first | assumption | exact Keep.refl _ _ | refine Keep.alloc ?_ _ | refine Keep.s ?_ (by first | assumption | exact Bx.mem (by omega) (by omega) | exact Up.mem (by omega)) | refine Keep.n ?_ (by omega) | refine Keep.ext ?_ (by assumption) | refine Keep.trans ?_ (by assumption) | refine Keep.drew ?_)))) : IsSys (Bx N w.heap.size (w.heap.size + 3)) _ _ s) (IsFrame.mk (f := pcF f pc) f8 (IsInts.keep (IsInts.bxn fs) (by with_reducible (repeat (first | assumption | exact Keep.refl _ _ | refine Keep.alloc ?_ _ | refine Keep.s ?_ (by first | assumption | exact Bx.mem (by omega) (by omega) | exact Up.mem (by omega)) | refine Keep.n ?_ (by omega) | refine Keep.ext ?_ (by assumption) | refine Keep.trans ?_ (by assumption) | refine Keep.drew ?_))))) (Bx.le hN (by simp)) hC hFm).calls.mono ?_
  rintro e w1 ⟨_, rfl, hb1, hu1⟩
  obtain ⟨r1, r2, r3, r4, r5, r6, r7, r8, rfl, rW, rG, rC, rL⟩ := hu1.opened
  have B0_1 : Box w1 (w.heap.size) #[.slice aw s.M.W.length cw, .slice ag s.M.G.length cg, .bool s.M.bad, .slice ac s.C.length cc, .slice al s.L.length cl] 83 := (((Box.newAt _ _ _ (by first | rfl | simp)).alloc _).alloc _).ext hb1
  have B1_1 : Box w1 (w.heap.size + 1) #[.int .i64 f.op, .int .i64 pc, .int .i64 (gi f.R 0), .int .i64 (gi f.R 1), .int .i64 (gi f.R 2), .int .i64 (gi f.R 3), .int .i64 (gi f.R 4), .int .i64 (gi f.R 5), .int .i64 (gi f.R 6), .int .i64 (gi f.R 7), .slice ga f.S.length gc] 95 := ((Box.newAt _ _ _ (by first | rfl | simp)).alloc _).ext hb1
  have B2_1 : Box w1 (w.heap.size + 1 + 1) #[.slice none 0 0, .slice none 0 0, .bool false, .slice none 0 0, .slice none 0 0] 83 := (Box.newAt _ _ _ (by first | rfl | simp)).ext hb1
  have s1 : w.heap.size + 3 ≤ w1.heap.size := (by have h := hb1.size; first | omega | (simp at h; omega))
  obtain ⟨c0_0, c0_1, c0_2, c0_3, c0_4, d0_0, d0_1, d0_2, d0_3, d0_4⟩ := cells5 B0_1
  have z0 : w.heap.size < w1.heap.size := B0_1.lt
  obtain ⟨⟨c1_0, c1_1, c1_2, c1_3, c1_4, c1_5, c1_6, c1_7, c1_8, c1_9, c1_10⟩, d1_0, d1_1, d1_2, d1_3, d1_4, d1_5, d1_6, d1_7, d1_8, d1_9, d1_10⟩ := cells11 B1_1
  have z1 : w.heap.size + 1 < w1.heap.size := B1_1.lt
  obtain ⟨c2_0, c2_1, c2_2, c2_3, c2_4, d2_0, d2_1, d2_2, d2_3, d2_4⟩ := cells5 B2_1
  have z2 : w.heap.size + 1 + 1 < w1.heap.size := B2_1.lt
  go_wp2
  exact bodyPost_ret (ret_cell (cs := #[.slice r1 (setS s id (pcF f pc)).M.W.length r2, .slice r3 (setS s id (pcF f pc)).M.G.length r4, .bool (setS s id (pcF f pc)).M.bad, .slice r5 (setS s id (pcF f pc)).C.length r6, .slice r7 (setS s id (pcF f pc)).L.length r8]) (((((B2_1.setCell _).setCell _).setCell _).setCell _).setCell _) Proofs.Try.results149 rfl Proofs.Try.underlying83 rfl (by kernel_rfl)) rfl ⟨_, rfl, (by with_reducible (repeat (first | assumption | exact Ext.refl _ | refine Ext.alloc' ?_ _ | refine Ext.store0 ?_ _ _ | refine Ext.storek ?_ _ _ _ | refine Ext.storen ?_ (by omega) | refine Ext.stores0 ?_ ?_ _ _ | refine Ext.storesk ?_ ?_ _ _ _ | refine Ext.drewN' ?_ _ | refine Ext.drew' ?_ | refine Ext.trans ?_ (by assumption)))), IsSys.less (IsSys.keep hu1 (by with_reducible (repeat (first | assumption | exact Keep.refl _ _ | refine Keep.alloc ?_ _ | refine Keep.s ?_ (by first | assumption | exact Bx.mem (by omega) (by omega) | exact Up.mem (by omega)) | refine Keep.n ?_ (by omega) | refine Keep.ext ?_ (by assumption) | refine Keep.trans ?_ (by assumption) | refine Keep.drew ?_)))) (fun _ _ hn => .inl hn)⟩
set_option maxHeartbeats 1000000 in
set_option maxRecDepth 100000 in
theorem on4_ (N : Nat → Prop) (va vf : Value) (s : SysD) (id pc : Int) (f : FrameD) (w : World) (h : IsSys N w va s) (hf : IsFrame N w vf f) (hN : ∀ b, N b → b < w.heap.size) (hC : s.C.length ≤ 100000) (hFm : ∀ (i : Nat) c, s.C[i]? = some c → c.F.length ≤ 100000) :
    Gives Proofs.Try.prog 165 #[va, .int .i64 id, vf, .int .i64 pc] w (fun r w' => IsSys N w' r (setS s id (pcF f pc))) := by
  obtain ⟨aw, cw, ag, cg, ac, cc, al, cl, rfl, hw, hg, hc, hl⟩ := h.opened
  obtain ⟨ga, gc, rfl, f8, fs⟩ := hf.opened
  go_enter Proofs.Try.func165, Proofs.Try.ntmps165
  go_wp2_with (fail)
  go_at_call 85
  refine (set_ (Bx N w.heap.size (w.heap.size + 3)) _ _ s id (pcF f pc) _ (IsSys.mk rfl (IsInts.keep (IsInts.bxn hw) (by with_reducible (repeat (first | assumption | exact Keep.refl _ _ | refine Keep.alloc ?_ _ | refine Keep.s ?_ (by first | assumption | exact Bx.mem (by omega) (by omega) | exact Up.mem (by omega)) | refine Keep.n ?_ (by omega) | refine Keep.ext ?_ (by assumption) | refine Keep.trans ?_ (by assumption) | refine Keep.drew ?_)))) (IsInts.keep (IsInts.bxn hg) (by with_reducible (repeat (first | assumption | exact Keep.refl _ _ | refine Keep.alloc ?_ _ | refine Keep.s ?_ (by first | assumption | exact Bx.mem (by omega) (by omega) | exact Up.mem (by omega)) | refine Keep.n ?_ (by omega) | refine Keep.ext ?_ (by assumption) | refine Keep.trans ?_ (by assumption) | refine Keep.drew ?_)))) (IsCores.keep (IsCores.less hc fun _ hx hn => Bx.new hx hn) (by with_reducible (repeat (first | assumption | exact Keep.refl _ _ | refine Keep.alloc ?_ _ | refine Keep.s ?_ (by first | assumption | exact Bx.mem (by omega) (by omega) | exact Up.mem (by omega)) | refine Keep.n ?_ (by omega) | refine Keep.ext ?_ (by assumption) | refine Keep.trans ?_ (by assumption) | refine Keep.drew ?_)))) (IsEvs.keep (IsEvs.less hl fun _ hx hn => Bx.new hx hn) (by with_reducible (repeat (first | assumption | exact Keep.refl _ _ | refine Keep.alloc ?_ _ | refine Keep.s ?_ (by first | assumption | exact Bx.mem (by omega) (by omega) | exact Up.mem (by omega)) | refine Keep.n ?_ (by omega) | refine Keep.ext ?_ (by assumption) | refine Keep.trans ?_ (by assumption) | refine Keep.drew ?_)))) : IsSys (Bx N w.heap.size (w.heap.size + 3)) _ _ s) (IsFrame.mk (f := pcF f pc) f8 (IsInts.keep (IsInts.bxn fs) (by with_reducible (repeat (first | assumption | exact Keep.refl _ _ | refine Keep.alloc ?_ _ | refine Keep.s ?_ (by first | assumption | exact Bx.mem (by omega) (by omega) | exact Up.mem (by omega)) | refine Keep.n ?_ (by omega) | refine Keep.ext ?_ (by assumption) | refine Keep.trans ?_ (by assumption) | refine Keep.drew ?_))))) (Bx.le hN (by simp)) hC hFm).calls.mono ?_
  rintro e w1 ⟨_, rfl, hb1, hu1⟩
  obtain ⟨r1, r2, r3, r4, r5, r6, r7, r8, rfl, rW, rG, rC, rL⟩ := hu1.opened
  have B0_1 : Box w1 (w.heap.size) #[.slice aw s.M.W.length cw, .slice ag s.M.G.length cg, .bool s.M.bad, .slice ac s.C.length cc, .slice al s.L.length cl] 83 := (((Box.newAt _ _ _ (by first | rfl | simp)).alloc _).alloc _).ext hb1
  have B1_1 : Box w1 (w.heap.size + 1) #[.int .i64 f.op, .int .i64 pc, .int .i64 (gi f.R 0), .int .i64 (gi f.R 1), .int .i64 (gi f.R 2), .int .i64 (gi f.R 3), .int .i64 (gi f.R 4), .int .i64 (gi f.R 5), .int .i64 (gi f.R 6), .int .i64 (gi f.R 7), .slice ga f.S.length gc] 95 := ((Box.newAt _ _ _ (by first | rfl | simp)).alloc _).ext hb1
  have B2_1 : Box w1 (w.heap.size + 1 + 1) #[.slice none 0 0, .slice none 0 0, .bool false, .slice none 0 0, .slice none 0 0] 83 := (Box.newAt _ _ _ (by first | rfl | simp)).ext hb1
  have s1 : w.heap.size + 3 ≤ w1.heap.size := (by have h := hb1.size; first | omega | (simp at h; omega))
  obtain ⟨c0_0, c0_1, c0_2, c0_3, c0_4, d0_0, d0_1, d0_2, d0_3, d0_4⟩ := cells5 B0_1
  have z0 : w.heap.size < w1.heap.size := B0_1.lt
  obtain ⟨⟨c1_0, c1_1, c1_2, c1_3, c1_4, c1_5, c1_6, c1_7, c1_8, c1_9, c1_10⟩, d1_0, d1_1, d1_2, d1_3, d1_4, d1_5, d1_6, d1_7, d1_8, d1_9, d1_10⟩ := cells11 B1_1
  have z1 : w.heap.size + 1 < w1.heap.size := B1_1.lt
  obtain ⟨c2_0, c2_1, c2_2, c2_3, c2_4, d2_0, d2_1, d2_2, d2_3, d2_4⟩ := cells5 B2_1
  have z2 : w.heap.size + 1 + 1 < w1.heap.size := B2_1.lt
  go_wp2
  exact bodyPost_ret (ret_cell (cs := #[.slice r1 (setS s id (pcF f pc)).M.W.length r2, .slice r3 (setS s id (pcF f pc)).M.G.length r4, .bool (setS s id (pcF f pc)).M.bad, .slice r5 (setS s id (pcF f pc)).C.length r6, .slice r7 (setS s id (pcF f pc)).L.length r8]) (((((B2_1.setCell _).setCell _).setCell _).setCell _).setCell _) Proofs.Try.results165 rfl Proofs.Try.underlying83 rfl (by kernel_rfl)) rfl ⟨_, rfl, (by with_reducible (repeat (first | assumption | exact Ext.refl _ | refine Ext.alloc' ?_ _ | refine Ext.store0 ?_ _ _ | refine Ext.storek ?_ _ _ _ | refine Ext.storen ?_ (by omega) | refine Ext.stores0 ?_ ?_ _ _ | refine Ext.storesk ?_ ?_ _ _ _ | refine Ext.drewN' ?_ _ | refine Ext.drew' ?_ | refine Ext.trans ?_ (by assumption)))), IsSys.less (IsSys.keep hu1 (by with_reducible (repeat (first | assumption | exact Keep.refl _ _ | refine Keep.alloc ?_ _ | refine Keep.s ?_ (by first | assumption | exact Bx.mem (by omega) (by omega) | exact Up.mem (by omega)) | refine Keep.n ?_ (by omega) | refine Keep.ext ?_ (by assumption) | refine Keep.trans ?_ (by assumption) | refine Keep.drew ?_)))) (fun _ _ hn => .inl hn)⟩
set_option maxHeartbeats 1000000 in
set_option maxRecDepth 100000 in
theorem refOn_ (N : Nat → Prop) (va vm vf : Value) (s : SysD) (id pc : Int) (m : Arena) (f : FrameD) (w : World) (h : IsSys N w va s) (hm : IsMem N w vm m) (hf : IsFrame N w vf f) (hN : ∀ b, N b → b < w.heap.size) (hC : s.C.length ≤ 100000) (hFm : ∀ (i : Nat) c, s.C[i]? = some c → c.F.length ≤ 100000) :
    Gives Proofs.Try.prog 151 #[va, .int .i64 id, vm, vf, .int .i64 pc] w (fun r w' => IsSys N w' r (onS s id m f pc)) := by
  obtain ⟨aw, cw, ag, cg, ac, cc, al, cl, rfl, hw, hg, hc, hl⟩ := h.opened
  obtain ⟨bw, dw, bg, dg, rfl, mw, mg⟩ := hm.opened
  obtain ⟨ga, gc, rfl, f8, fs⟩ := hf.opened
  go_enter Proofs.Try.func151, Proofs.Try.ntmps151
  go_wp2_with (fail)
  obtain ⟨W2, hW⟩ : ∃ W, W = ((((w.alloc (.cells #[.slice aw s.M.W.length cw, .slice ag s.M.G.length cg, .bool s.M.bad, .slice ac s.C.length cc, .slice al s.L.length cl] 83 (0, 0))).alloc (.cells #[.slice bw m.W.length dw, .slice bg m.G.length dg, .bool m.bad] 50 (0, 0))).alloc (.cells #[.int .i64 f.op, .int .i64 pc, .int .i64 (gi f.R 0), .int .i64 (gi f.R 1), .int .i64 (gi f.R 2), .int .i64 (gi f.R 3), .int .i64 (gi f.R 4), .int .i64 (gi f.R 5), .int .i64 (gi f.R 6), .int .i64 (gi f.R 7), .slice ga f.S.length gc] 95 (0, 0))).alloc (.cells #[.slice none 0 0, .slice none 0 0, .bool false, .slice none 0 0, .slice none 0 0] 83 (0, 0))) := ⟨_, rfl⟩
  have hX2 : Ext w W2 := by rw [hW]; exact (by with_reducible (repeat (first | assumption | exact Ext.refl _ | refine Ext.alloc' ?_ _ | refine Ext.store0 ?_ _ _ | refine Ext.storek ?_ _ _ _ | refine Ext.storen ?_ (by omega) | refine Ext.stores0 ?_ ?_ _ _ | refine Ext.storesk ?_ ?_ _ _ _ | refine Ext.drewN' ?_ _ | refine Ext.drew' ?_ | refine Ext.trans ?_ (by assumption))))
  have hK2 : Keep (Bx N w.heap.size (w.heap.size + 4)) w W2 := by rw [hW]; exact (by with_reducible (repeat (first | assumption | exact Keep.refl _ _ | refine Keep.alloc ?_ _ | refine Keep.s ?_ (by first | assumption | exact Bx.mem (by omega) (by omega) | exact Up.mem (by omega)) | refine Keep.n ?_ (by omega) | refine Keep.ext ?_ (by assumption) | refine Keep.trans ?_ (by assumption) | refine Keep.drew ?_)))
  have D0_2 : Box ((((w.alloc (.cells #[.slice aw s.M.W.length cw, .slice ag s.M.G.length cg, .bool s.M.bad, .slice ac s.C.length cc, .slice al s.L.length cl] 83 (0, 0))).alloc (.cells #[.slice bw m.W.length dw, .slice bg m.G.length dg, .bool m.bad] 50 (0, 0))).alloc (.cells #[.int .i64 f.op, .int .i64 pc, .int .i64 (gi f.R 0), .int .i64 (gi f.R 1), .int .i64 (gi f.R 2), .int .i64 (gi f.R 3), .int .i64 (gi f.R 4), .int .i64 (gi f.R 5), .int .i64 (gi f.R 6), .int .i64 (gi f.R 7), .slice ga f.S.length gc] 95 (0, 0))).alloc (.cells #[.slice none 0 0, .slice none 0 0, .bool false, .slice none 0 0, .slice none 0 0] 83 (0, 0))) (w.heap.size) #[.slice aw s.M.W.length cw, .slice ag s.M.G.length cg, .bool s.M.bad, .slice ac s.C.length cc, .slice al s.L.length cl] 83 := ((((Box.newAt _ _ _ (by first | rfl | simp)).alloc _).alloc _).alloc _)
  rw [← hW] at D0_2
  have D1_2 : Box ((((w.alloc (.cells #[.slice aw s.M.W.length cw, .slice ag s.M.G.length cg, .bool s.M.bad, .slice ac s.C.length cc, .slice al s.L.length cl] 83 (0, 0))).alloc (.cells #[.slice bw m.W.length dw, .slice bg m.G.length dg, .bool m.bad] 50 (0, 0))).alloc (.cells #[.int .i64 f.op, .int .i64 pc, .int .i64 (gi f.R 0), .int .i64 (gi f.R 1), .int .i64 (gi f.R 2), .int .i64 (gi f.R 3), .int .i64 (gi f.R 4), .int .i64 (gi f.R 5), .int .i64 (gi f.R 6), .int .i64 (gi f.R 7), .slice ga f.S.length gc] 95 (0, 0))).alloc (.cells #[.slice none 0 0, .slice none 0 0, .bool false, .slice none 0 0, .slice none 0 0] 83 (0, 0))) (w.heap.size + 1) #[.slice bw m.W.length dw, .slice bg m.G.length dg, .bool m.bad] 50 := (((Box.newAt _ _ _ (by first | rfl | simp)).alloc _).alloc _)
  rw [← hW] at D1_2
  have D2_2 : Box ((((w.alloc (.cells #[.slice aw s.M.W.length cw, .slice ag s.M.G.length cg, .bool s.M.bad, .slice ac s.C.length cc, .slice al s.L.length cl] 83 (0, 0))).alloc (.cells #[.slice bw m.W.length dw, .slice bg m.G.length dg, .bool m.bad] 50 (0, 0))).alloc (.cells #[.int .i64 f.op, .int .i64 pc, .int .i64 (gi f.R 0), .int .i64 (gi f.R 1), .int .i64 (gi f.R 2), .int .i64 (gi f.R 3), .int .i64 (gi f.R 4), .int .i64 (gi f.R 5), .int .i64 (gi f.R 6), .int .i64 (gi f.R 7), .slice ga f.S.length gc] 95 (0, 0))).alloc (.cells #[.slice none 0 0, .slice none 0 0, .bool false, .slice none 0 0, .slice none 0 0] 83 (0, 0))) (w.heap.size + 1 + 1) #[.int .i64 f.op, .int .i64 pc, .int .i64 (gi f.R 0), .int .i64 (gi f.R 1), .int .i64 (gi f.R 2), .int .i64 (gi f.R 3), .int .i64 (gi f.R 4), .int .i64 (gi f.R 5), .int .i64 (gi f.R 6), .int .i64 (gi f.R 7), .slice ga f.S.length gc] 95 := ((Box.newAt _ _ _ (by first | rfl | simp)).alloc _)
  rw [← hW] at D2_2
  have D3_2 : Box ((((w.alloc (.cells #[.slice aw s.M.W.length cw, .slice ag s.M.G.length cg, .bool s.M.bad, .slice ac s.C.length cc, .slice al s.L.length cl] 83 (0, 0))).alloc (.cells #[.slice bw m.W.length dw, .slice bg m.G.length dg, .bool m.bad] 50 (0, 0))).alloc (.cells #[.int .i64 f.op, .int .i64 pc, .int .i64 (gi f.R 0), .int .i64 (gi f.R 1), .int .i64 (gi f.R 2), .int .i64 (gi f.R 3), .int .i64 (gi f.R 4), .int .i64 (gi f.R 5), .int .i64 (gi f.R 6), .int .i64 (gi f.R 7), .slice ga f.S.length gc] 95 (0, 0))).alloc (.cells #[.slice none 0 0, .slice none 0 0, .bool false, .slice none 0 0, .slice none 0 0] 83 (0, 0))) (w.heap.size + 1 + 1 + 1) #[.slice none 0 0, .slice none 0 0, .bool false, .slice none 0 0, .slice none 0 0] 83 := (Box.newAt _ _ _ (by first | rfl | simp))
  rw [← hW] at D3_2
  have y2 : w.heap.size + 4 ≤ W2.heap.size := by rw [hW]; simp
  rw [← hW]
  clear hW
  have aS : IsSys (Bx N w.heap.size (w.heap.size + 4)) W2 (.agg #[.slice aw s.M.W.length cw, .slice ag s.M.G.length cg, .bool s.M.bad, .slice ac s.C.length cc, .slice al s.L.length cl]) s := (IsSys.bxn h).keep (hK2)
  have aM : IsMem (Bx N w.heap.size (w.heap.size + 4)) W2 (.agg #[.slice bw m.W.length dw, .slice bg m.G.length dg, .bool m.bad]) m := (IsMem.bxn hm).keep hK2
  have aF : IsFrame (Bx N w.heap.size (w.heap.size + 4)) W2 (.agg #[.int .i64 f.op, .int .i64 pc, .int .i64 (gi f.R 0), .int .i64 (gi f.R 1), .int .i64 (gi f.R 2), .int .i64 (gi f.R 3), .int .i64 (gi f.R 4), .int .i64 (gi f.R 5), .int .i64 (gi f.R 6), .int .i64 (gi f.R 7), .slice ga f.S.length gc]) (pcF f pc) := IsFrame.mk (f := pcF f pc) f8 ((IsInts.bxn fs).keep hK2)
  apply region_lit2 (T := [6]) (L := []) (X := [w.heap.size + 1 + 1 + 1]) (G := [eqv _, eqv _, isSysN (Bx N w.heap.size (w.heap.size + 4)) (memS s m), eqv _, eqv _, isSysN (Bx N w.heap.size (w.heap.size + 4)) (setS (memS s m) id (pcF f pc)), anyG])
  case hm => kernel_rfl
  case hop =>
    refine ⟨?_, ?_, ?_, ?_, ?_, ?_, ?_, trivial⟩
    · intro a wa hs hf hd
      have t5 := hf.off 5 (by kernel_rfl) rfl
      exact plain_ rfl (yes_eqv (o_load5 rfl Proofs.Try.underlying83 rfl (by kernel_rfl) t5 ((D0_2.since hs rfl).cell rfl) ((D0_2.since hs rfl).cell rfl) ((D0_2.since hs rfl).cell rfl) ((D0_2.since hs rfl).cell rfl) ((D0_2.since hs rfl).cell rfl)) rfl)
    · intro a wa hs hf hd
      have t7 := hf.off 7 (by kernel_rfl) rfl
      exact plain_ rfl (yes_eqv (o_load3 rfl Proofs.Try.underlying50 rfl (by kernel_rfl) t7 ((D1_2.since hs rfl).cell rfl) ((D1_2.since hs rfl).cell rfl) ((D1_2.since hs rfl).cell rfl)) rfl)
    · intro a wa hs hf hd
      have t13 : a.eval (.tmp 13) = _ := hd.at 0 13 (by kernel_rfl)
      have t14 : a.eval (.tmp 14) = _ := hd.at 1 14 (by kernel_rfl)
      exact plain_ rfl (yes_gives (refMem_ _ _ _ s m _ (aS.ext (Since.to_ext hs)) (aM.keep (Since.to_ext hs).keep)) rfl rfl Proofs.Try.func103 (by kernel_rfl) (by kernel_rfl) (by simp only [List.map_toArray, List.map_cons, List.map_nil, t13, t14]) rfl)
    · intro a wa hs hf hd
      have t1 := hf.off 1 (by kernel_rfl) rfl
      exact plain_ rfl (yes_eqv (o_move rfl t1) rfl)
    · intro a wa hs hf hd
      have t8 := hf.off 8 (by kernel_rfl) rfl
      exact plain_ rfl (yes_eqv (o_load11 rfl Proofs.Try.underlying95 rfl (by kernel_rfl) t8 ((D2_2.since hs rfl).cell rfl) ((D2_2.since hs rfl).cell rfl) ((D2_2.since hs rfl).cell rfl) ((D2_2.since hs rfl).cell rfl) ((D2_2.since hs rfl).cell rfl) ((D2_2.since hs rfl).cell rfl) ((D2_2.since hs rfl).cell rfl) ((D2_2.since hs rfl).cell rfl) ((D2_2.since hs rfl).cell rfl) ((D2_2.since hs rfl).cell rfl) ((D2_2.since hs rfl).cell rfl)) rfl)
    · intro a wa hs hf hd
      have t15 := hd.at 2 15 (by kernel_rfl)
      have t16 : a.eval (.tmp 16) = _ := hd.at 3 16 (by kernel_rfl)
      have t17 : a.eval (.tmp 17) = _ := hd.at 4 17 (by kernel_rfl)
      exact plain_ rfl (yes_gives (refSet_ _ _ _ (memS s m) id (pcF f pc) _ t15 (aF.ext (Since.to_ext hs)) (Bx.le hN (by have := (Since.to_ext hs).size; omega)) hC hFm) rfl rfl Proofs.Try.func89 (by kernel_rfl) (by kernel_rfl) (by simp only [List.map_toArray, List.map_cons, List.map_nil, t15, t16, t17]) rfl)
    · intro a wb wa hs1 hs hf hd hrun
      have t10 := hf.off 10 (by kernel_rfl) rfl
      have t18 := hd.at 5 18 (by kernel_rfl)
      subst hrun
      have q18 : IsSys (Bx N w.heap.size (w.heap.size + 4)) _ (a.eval (.tmp 18)) (setS (memS s m) id (pcF f pc)) := t18
      obtain ⟨r1, r2, r3, r4, r5, r6, r7, r8, hv, _⟩ := q18.opened
      exact ⟨_, o_store rfl t10 hv ((D3_2.since hs1 rfl)) (by kernel_rfl) (by simp [Value.cells, Value.oneCell']) (by first | (simp [Value.cells]; done) | (simp [Value.cells]; omega)) rfl, Since.put hs (.inr (by simp))⟩
  case hG => exact ⟨stable_eqv _, stable_eqv _, stable_isSysN _ _, stable_eqv _, stable_eqv _, stable_isSysN _ _, stable_any, trivial⟩
  case hc => kernel_rfl
  case hfin =>
    intro v2 hs2
    rintro _ rfl _ rfl r2 hr2 _ rfl _ rfl r5 hr5
    obtain ⟨r1, r2, r3, r4, r5, r6, r7, r8, rfl, rW, rG, rC, rL⟩ := IsSys.opened hr5
    rintro v2w ⟨o1, v1, ho1, hr1, rfl⟩
    cases ho1
    simp only [Act.put, List.setIfInBounds_toArray, List.set_cons_zero, List.set_cons_succ] at hr1 ⊢
    cases (hr1.symm.trans (o_store (v := .agg #[.slice r1 (setS (memS s m) id (pcF f pc)).M.W.length r2, .slice r3 (setS (memS s m) id (pcF f pc)).M.G.length r4, .bool (setS (memS s m) id (pcF f pc)).M.bad, .slice r5 (setS (memS s m) id (pcF f pc)).C.length r6, .slice r7 (setS (memS s m) id (pcF f pc)).L.length r8]) (new := #[.slice r1 (setS (memS s m) id (pcF f pc)).M.W.length r2, .slice r3 (setS (memS s m) id (pcF f pc)).M.G.length r4, .bool (setS (memS s m) id (pcF f pc)).M.bad, .slice r5 (setS (memS s m) id (pcF f pc)).C.length r6, .slice r7 (setS (memS s m) id (pcF f pc)).L.length r8]) rfl rfl rfl ((D3_2.since hs2 rfl)) (by kernel_rfl) (by simp [Value.cells, Value.oneCell']) (by first | (simp [Value.cells]; done) | (simp [Value.cells]; omega)) (by first | rfl | kernel_rfl)))
    obtain ⟨w1, hw1⟩ : ∃ x, x = (put v2 (w.heap.size + 1 + 1 + 1) (.cells #[.slice r1 (setS (memS s m) id (pcF f pc)).M.W.length r2, .slice r3 (setS (memS s m) id (pcF f pc)).M.G.length r4, .bool (setS (memS s m) id (pcF f pc)).M.bad, .slice r5 (setS (memS s m) id (pcF f pc)).C.length r6, .slice r7 (setS (memS s m) id (pcF f pc)).L.length r8] 83 (0, 0))) := ⟨_, rfl⟩
    have hW1 : Ext W2 v2 := Since.to_ext hs2
    have hb1 : Ext w w1 := by rw [hw1]; exact Since.to_ext ((Since.of_ext (hX2.trans hW1)).put (.inl (by have := hX2.size; omega)))
    have hk1 : Keep (Bx N w.heap.size (w.heap.size + 4)) w w1 := by rw [hw1]; exact ((hK2.ext hW1).put _ _ (.inr (Bx.mem (by omega) (by omega))))
    have hq1 : Keep (Bx N w.heap.size (w.heap.size + 4)) v2 w1 := by rw [hw1]; exact ((Keep.refl _ _).put _ _ (.inr (Bx.mem (by omega) (by omega))))
    have B0_1 : Box w1 (w.heap.size) #[.slice aw s.M.W.length cw, .slice ag s.M.G.length cg, .bool s.M.bad, .slice ac s.C.length cc, .slice al s.L.length cl] 83 := by rw [hw1]; exact (box_putOther (D0_2.since hs2 rfl) (by omega))
    have B1_1 : Box w1 (w.heap.size + 1) #[.slice bw m.W.length dw, .slice bg m.G.length dg, .bool m.bad] 50 := by rw [hw1]; exact (box_putOther (D1_2.since hs2 rfl) (by omega))
    have B2_1 : Box w1 (w.heap.size + 1 + 1) #[.int .i64 f.op, .int .i64 pc, .int .i64 (gi f.R 0), .int .i64 (gi f.R 1), .int .i64 (gi f.R 2), .int .i64 (gi f.R 3), .int .i64 (gi f.R 4), .int .i64 (gi f.R 5), .int .i64 (gi f.R 6), .int .i64 (gi f.R 7), .slice ga f.S.length gc] 95 := by rw [hw1]; exact (box_putOther (D2_2.since hs2 rfl) (by omega))
    have B3_1 : Box w1 (w.heap.size + 1 + 1 + 1) #[.slice r1 (setS (memS s m) id (pcF f pc)).M.W.length r2, .slice r3 (setS (memS s m) id (pcF f pc)).M.G.length r4, .bool (setS (memS s m) id (pcF f pc)).M.bad, .slice r5 (setS (memS s m) id (pcF f pc)).C.length r6, .slice r7 (setS (memS s m) id (pcF f pc)).L.length r8] 83 := by rw [hw1]; exact (D3_2.since hs2 rfl).put
    have s1 : W2.heap.size ≤ w1.heap.size := by rw [hw1]; have := hW1.size; simpa [put] using this
    rw [← hw1]
    clear hw1
    obtain ⟨c0_0, c0_1, c0_2, c0_3, c0_4, d0_0, d0_1, d0_2, d0_3, d0_4⟩ := cells5 B0_1
    have z0 : w.heap.size < w1.heap.size := B0_1.lt
    obtain ⟨c1_0, c1_1, c1_2, d1_0, d1_1, d1_2⟩ := cells3 B1_1
    have z1 : w.heap.size + 1 < w1.heap.size := B1_1.lt
    obtain ⟨⟨c2_0, c2_1, c2_2, c2_3, c2_4, c2_5, c2_6, c2_7, c2_8, c2_9, c2_10⟩, d2_0, d2_1, d2_2, d2_3, d2_4, d2_5, d2_6, d2_7, d2_8, d2_9, d2_10⟩ := cells11 B2_1
    have z2 : w.heap.size + 1 + 1 < w1.heap.size := B2_1.lt
    obtain ⟨c3_0, c3_1, c3_2, c3_3, c3_4, d3_0, d3_1, d3_2, d3_3, d3_4⟩ := cells5 B3_1
    have z3 : w.heap.size + 1 + 1 + 1 < w1.heap.size := B3_1.lt
    have hu1 : IsSys (Bx N w.heap.size (w.heap.size + 4)) w1 (.agg #[.slice r1 (setS (memS s m) id (pcF f pc)).M.W.length r2, .slice r3 (setS (memS s m) id (pcF f pc)).M.G.length r4, .bool (setS (memS s m) id (pcF f pc)).M.bad, .slice r5 (setS (memS s m) id (pcF f pc)).C.length r6, .slice r7 (setS (memS s m) id (pcF f pc)).L.length r8]) (setS (memS s m) id (pcF f pc)) := IsSys.keep (IsSys.mk rfl rW rG rC rL : IsSys (Bx N w.heap.size (w.heap.size + 4)) v2 _ (setS (memS s m) id (pcF f pc))) hq1
    clear hq1
    go_wp2
    exact bodyPost_ret (ret_cell (cs := #[.slice r1 (setS (memS s m) id (pcF f pc)).M.W.length r2, .slice r3 (setS (memS s m) id (pcF f pc)).M.G.length r4, .bool (setS (memS s m) id (pcF f pc)).M.bad, .slice r5 (setS (memS s m) id (pcF f pc)).C.length r6, .slice r7 (setS (memS s m) id (pcF f pc)).L.length r8]) B3_1 Proofs.Try.results151 rfl Proofs.Try.underlying83 rfl (by kernel_rfl)) rfl ⟨_, rfl, (by with_reducible (repeat (first | assumption | exact Ext.refl _ | refine Ext.alloc' ?_ _ | refine Ext.store0 ?_ _ _ | refine Ext.storek ?_ _ _ _ | refine Ext.storen ?_ (by omega) | refine Ext.stores0 ?_ ?_ _ _ | refine Ext.storesk ?_ ?_ _ _ _ | refine Ext.drewN' ?_ _ | refine Ext.drew' ?_ | refine Ext.trans ?_ (by assumption)))), IsSys.less (IsSys.keep hu1 (by with_reducible (repeat (first | assumption | exact Keep.refl _ _ | refine Keep.alloc ?_ _ | refine Keep.s ?_ (by first | assumption | exact Bx.mem (by omega) (by omega) | exact Up.mem (by omega)) | refine Keep.n ?_ (by omega) | refine Keep.ext ?_ (by assumption) | refine Keep.trans ?_ (by assumption) | refine Keep.drew ?_)))) (fun _ _ hn => .inl hn)⟩
theorem list8 {l : List Int} (h : l.length = 8) : ∃ a b c d e f g i, l = [a, b, c, d, e, f, g, i] := by
  match l, h with
  | [a, b, c, d, e, f, g, i], _ => exact ⟨a, b, c, d, e, f, g, i, rfl⟩
theorem IsFrame.lit {N : Nat → Prop} {w : World} {v : Value} {f : FrameD} (h : IsFrame N w v f) : ∃ op pc q0 q1 q2 q3 q4 q5 q6 q7 S a c, f = ⟨op, pc, [q0, q1, q2, q3, q4, q5, q6, q7], S⟩ ∧ v = .agg #[.int .i64 op, .int .i64 pc, .int .i64 q0, .int .i64 q1, .int .i64 q2, .int .i64 q3, .int .i64 q4, .int .i64 q5, .int .i64 q6, .int .i64 q7, .slice a S.length c] ∧ IsInts N w (.slice a S.length c) S := by
  obtain ⟨a, c, rfl, h8, hs⟩ := h.opened
  obtain ⟨op, pc, R, S⟩ := f
  obtain ⟨q0, q1, q2, q3, q4, q5, q6, q7, rfl⟩ := list8 h8
  exact ⟨op, pc, q0, q1, q2, q3, q4, q5, q6, q7, S, a, c, rfl, rfl, hs⟩
theorem IsFrame.ofLit {N : Nat → Prop} {w : World} {op pc q0 q1 q2 q3 q4 q5 q6 q7 : Int} {S : List Int} {s : Value} (hs : IsInts N w s S) : IsFrame N w (.agg #[.int .i64 op, .int .i64 pc, .int .i64 q0, .int .i64 q1, .int .i64 q2, .int .i64 q3, .int .i64 q4, .int .i64 q5, .int .i64 q6, .int .i64 q7, s]) ⟨op, pc, [q0, q1, q2, q3, q4, q5, q6, q7], S⟩ :=
  ⟨_, rfl, rfl, s, rfl, hs⟩
theorem idx_ (x : Int) (w : World) : Gives Proofs.Try.prog 41 #[.int .i64 x] w (eqv (.int .i64 (idx x))) := index_ x w
theorem refIdx_ (x : Int) (w : World) : Gives Proofs.Try.prog 42 #[.int .i64 x] w (eqv (.int .i64 (idx x))) := refIndex_ x w
theorem zero50 : ∀ (j : Nat) c, (#[.slice none 0 0, .slice none 0 0, .bool false] : Array Value)[j]? = some c → ∀ x, c ≠ .int .i64 x := by
  intro j c h x e
  subst e
  match j, h with
  | 0, h => simp at h
  | 1, h => simp at h
  | 2, h => simp at h
  | n + 3, h => simp at h
theorem IsInts.putNew {N : Nat → Prop} {w : World} {v : Value} {l : List Int} {k : Nat} {cs : Array Value} {t : TypeId} {o : Obj} (h : IsInts N w v l) (hB : Box w k cs t) (hc : ∀ (j : Nat) c, cs[j]? = some c → ∀ x, c ≠ .int .i64 x) : IsInts N (put w k o) v l := by
  obtain ⟨a, cap, rfl, h1, h2, h3, h4⟩ := h
  refine ⟨a, cap, rfl, h1, h2, h3, fun i hi => ?_⟩
  obtain ⟨b, off, e, hb, hn, hcell⟩ := h4 i hi
  refine ⟨b, off, e, by rw [put_size]; exact hb, hn, ?_⟩
  by_cases hbk : k = b
  · subst hbk
    exfalso
    have hB' : w.heap[k]? = some (.cells cs t (0, 0)) := hB
    have h5 : w.cell? ⟨k, off + i, none⟩ = cs[off + i]? := by simp [World.cell?, hB']
    rw [h5] at hcell
    exact hc _ _ hcell _ rfl
  · exact (World.cell?_of_block (a := ⟨b, off + i, none⟩) (put_other hbk)).trans hcell
theorem IsCores.bxn {N : Nat → Prop} {w : World} {hi : Nat} {v : Value} {l : List CoreD} (h : IsCores N w v l) : IsCores (Bx N w.heap.size hi) w v l := IsCores.less h fun _ hx hn => Bx.new hx hn
theorem IsEvs.bxn {N : Nat → Prop} {w : World} {hi : Nat} {v : Value} {l : List EvD} (h : IsEvs N w v l) : IsEvs (Bx N w.heap.size hi) w v l := IsEvs.less h fun _ hx hn => Bx.new hx hn
theorem IsFrame.litv {N : Nat → Prop} {w : World} {v : Value} {op pc q0 q1 q2 q3 q4 q5 q6 q7 : Int} {S : List Int} (h : IsFrame N w v ⟨op, pc, [q0, q1, q2, q3, q4, q5, q6, q7], S⟩) : ∃ a c, v = .agg #[.int .i64 op, .int .i64 pc, .int .i64 q0, .int .i64 q1, .int .i64 q2, .int .i64 q3, .int .i64 q4, .int .i64 q5, .int .i64 q6, .int .i64 q7, .slice a S.length c] ∧ IsInts N w (.slice a S.length c) S := by
  obtain ⟨a, c, e, _, hs⟩ := h.opened
  exact ⟨a, c, e, hs⟩
theorem IsSys.top8 {N : Nat → Prop} {w : World} {v : Value} {s : SysD} (h : IsSys N w v s) {id : Int} : ∀ f, topD s id = some f → f.R.length = 8 := by
  intro f ht
  obtain ⟨k, c, rfl, hck, hpos, hf⟩ := top_some ht
  obtain ⟨aw, cw, ag, cg, ac, cc, al, cl, rfl, hw, hg, hc, hl⟩ := h.opened
  obtain ⟨bc, oc, af, cf, ar, cr, e, xc, nc, hx3, hf', hr, _⟩ := IsCores.at hc hck
  obtain ⟨b, off, s', e', h1, h2, h8, _⟩ := IsFrames.at hf' hf
  exact h8
end Go.Proofs.Ytcfbdfgondmkoaa
