/- HazClears: its walk. -/
import Derived.Test.YtcfbdfgondmkoaaM11
import Derived.Test.YtcfbdfgondmkoaaM10
namespace Go.Proofs.Ytcfbdfgondmkoaa
open Go Go.RowKit
set_option linter.unusedSimpArgs false
set_option linter.unusedVariables false
set_option linter.unnecessarySimpa false

def st5 (k : Nat) : Nat → SysD → SysD
  | 0, s => s
  | j + 1, s => step5 (st5 k j s) k
theorem clear_form {s : SysD} {k : Nat} {cc : CoreD} {m : Arena} {g : FrameD} (M5 : May5 s) (h : s.C[k]? = some cc) (hf : cc.F.length < 40) (hW : m.W.length = s.M.W.length) (hG : m.G = s.M.G) (hg : g.op = 4) :
    let t : SysD := ⟨m, s.C.set k { cc with F := cc.F ++ [g] }, s.L⟩
    t.C.length ≤ 100 ∧ (∀ (i : Nat) c, t.C[i]? = some c → c.F.length ≤ 100000) ∧ Fits t.M ∧ ∀ f, topD t k = some f → f.op = 3 → -9223372036854775808 ≤ gi f.R 0 ∧ gi f.R 0 ≤ 9223372036854775807 := by
  intro t
  have hk := lt_of_get h
  have hget : t.C[k]? = some { cc with F := cc.F ++ [g] } := by simp [t, hk]
  refine ⟨by have := M5.c8; simp [t]; omega, fun i c hi => ?_, ?_, fun f hft hop => ?_⟩
  · by_cases hik : k = i
    · subst hik
      rw [hget] at hi
      cases hi
      simp
      omega
    · have h2 : s.C[i]? = some c := by simpa [t, hik] using hi
      have := M5.f40 i c h2
      omega
  · obtain ⟨f1, f2, f3⟩ := M5.fit
    exact ⟨by show m.W.length = 128 + 4 * (m.G.length - 1); rw [hW, hG]; exact f1, by show 1 ≤ m.G.length; rw [hG]; exact f2, by show m.G.length ≤ 201; rw [hG]; exact f3⟩
  · rw [top_last hget] at hft
    simp at hft
    subst hft
    omega
theorem clear_ok {s : SysD} {k : Nat} {cc : CoreD} (M5 : May5 s) (h : s.C[k]? = some cc) (hf : cc.F.length < 40) (hk8 : k < 8) : ∀ j, j < 3 →
    (st5 k j (callS s k 4 [0, 0, 0])).C.length ≤ 100 ∧ (∀ (i : Nat) c, (st5 k j (callS s k 4 [0, 0, 0])).C[i]? = some c → c.F.length ≤ 100000) ∧ Fits (st5 k j (callS s k 4 [0, 0, 0])).M ∧ ∀ f, topD (st5 k j (callS s k 4 [0, 0, 0])) k = some f → f.op = 3 → -9223372036854775808 ≤ gi f.R 0 ∧ gi f.R 0 ≤ 9223372036854775807 := by
  intro j hj
  have hW : 128 ≤ s.M.W.length := by have := M5.w; omega
  obtain ⟨c1, c2, _⟩ := clears h hf hk8 hW
  obtain rfl | rfl | rfl : j = 0 ∨ j = 1 ∨ j = 2 := by omega
  · show (callS s k 4 [0, 0, 0]).C.length ≤ 100 ∧ _
    have h0 : st5 k 0 (callS s k 4 [0, 0, 0]) = { s with C := s.C.set k { cc with F := cc.F ++ [newF 4 [0, 0, 0]] } } := call_last h hf 4 [0, 0, 0]
    rw [call_last h hf 4 [0, 0, 0]]
    exact clear_form (m := s.M) M5 h hf rfl rfl rfl
  · have h1 : st5 k 1 (callS s k 4 [0, 0, 0]) = _ := c1
    rw [h1]
    exact clear_form M5 h hf (by simp) rfl rfl
  · have h1 : st5 k 2 (callS s k 4 [0, 0, 0]) = _ := c2
    rw [h1]
    exact clear_form M5 h hf (by simp) rfl rfl
def ClR (w wk : World) (b2 : Nat) (cs : Array Value) (S : SysD) (wr : World) : Prop :=
  ∃ v0 v1 v2 v3 v4, Box wr wk.heap.size #[v0, v1, v2, v3, v4] 83 ∧ IsSys (Bx no wk.heap.size (wk.heap.size + 1)) wr (.agg #[v0, v1, v2, v3, v4]) S ∧ Box wr b2 cs 83 ∧ Ext w wr
set_option maxHeartbeats 8000000 in
set_option maxRecDepth 100000 in
theorem hazClears_ (v0 v1 v2 v3 v4 : Value) (s : SysD) (y : Int) (w : World) (h : IsSys no w (.agg #[v0, v1, v2, v3, v4]) s) (lo : 0 ≤ y) (hi : y ≤ 255) :
    Gives Proofs.Try.prog 25 #[.agg #[v0, v1, v2, v3, v4], .int .u8 y] w (eqv (.bool true)) := by
  have km := fun (w' : World) (e : Ext w w') => refMay_ no _ s 60 (by omega) w' (h.ext e)
  obtain ⟨aw, cw, ag, cg, ac, cc, al, cl, e, hw, hg, hc, hl⟩ := h.opened
  obtain ⟨rfl, rfl, rfl, rfl, rfl⟩ : v0 = .slice aw s.M.W.length cw ∧ v1 = .slice ag s.M.G.length cg ∧ v2 = .bool s.M.bad ∧ v3 = .slice ac s.C.length cc ∧ v4 = .slice al s.L.length cl := by simpa using e
  clear e
  cases hm : mayS s 60
  · rw [hm] at km
    clear hm
    go_enter Proofs.Try.func25, Proofs.Try.ntmps25
    go_wp2_with (fail)
    go_at_call 93
    refine (shown5_ _).calls.mono ?_
    rintro e w1 ⟨_, rfl, hb1, rfl⟩
    have B0_1 : Box w1 (w.heap.size) #[.slice aw s.M.W.length cw, .slice ag s.M.G.length cg, .bool s.M.bad, .slice ac s.C.length cc, .slice al s.L.length cl] 83 := (Box.newAt _ _ _ (by first | rfl | simp)).ext hb1
    have s1 : w.heap.size + 1 ≤ w1.heap.size := (by have h := hb1.size; first | omega | (simp at h; omega))
    obtain ⟨c0_0, c0_1, c0_2, c0_3, c0_4, d0_0, d0_1, d0_2, d0_3, d0_4⟩ := cells5 B0_1
    have z0 : w.heap.size < w1.heap.size := B0_1.lt
    go_wp2_with (fail)
    go_at_call 83
    refine (km _ exq).calls.mono ?_
    rintro e w2 ⟨_, rfl, hb2, rfl⟩
    have B0_2 : Box w2 (w.heap.size) #[.slice aw s.M.W.length cw, .slice ag s.M.G.length cg, .bool s.M.bad, .slice ac s.C.length cc, .slice al s.L.length cl] 83 := B0_1.ext hb2
    clear c0_0 c0_1 c0_2 c0_3 c0_4 d0_0 d0_1 d0_2 d0_3 d0_4 z0
    have s2 : w1.heap.size ≤ w2.heap.size := (by have h := hb2.size; first | omega | (simp at h; omega))
    obtain ⟨c0_0, c0_1, c0_2, c0_3, c0_4, d0_0, d0_1, d0_2, d0_3, d0_4⟩ := cells5 B0_2
    have z0 : w.heap.size < w2.heap.size := B0_2.lt
    go_wp2
    go_ret
    exact ⟨_, rfl, exn, rfl⟩
  · rw [hm] at km
    have M5 := may5 hm
    clear hm
    obtain ⟨k, hk⟩ : ∃ k : Nat, (k : Int) = y % (s.C.length : Int) := ⟨(y % (s.C.length : Int)).toNat, by have := Int.emod_nonneg y (show (s.C.length : Int) ≠ 0 by have := M5.c1; omega); omega⟩
    have hkc : k < s.C.length := by have := Int.emod_lt_of_pos y (show (0 : Int) < s.C.length by have := M5.c1; omega); omega
    have ek : y % (s.C.length : Int) = (k : Int) := hk.symm
    have hk8 : k < 8 := by have := M5.c8; omega
    have hC0 : ¬ (s.C.length : Int) = 0 := by have := M5.c1; omega
    have hkC : (k : Int) < (s.C.length : Int) := by omega
    have hC5 : s.C.length ≤ 100000 := by have := M5.c8; omega
    have hW128 : 128 ≤ s.M.W.length := by have := M5.w; omega
    have hWup : s.M.W.length ≤ 100000 := by have := M5.w; have := M5.g201; omega
    obtain ⟨kc, hkc'⟩ := getSome' hkc
    have HKC := Lib.hid hkc'
    have HM5 := Lib.hid M5
    clear hk M5 hkc'
    obtain ⟨bc, oc, af, cf, ar, cr, rfl, xc, nc, hX3, hff, hrr, e0, _⟩ := IsCores.at hc HKC.out
    by_cases h40 : kc.F.length < 40
    · have q1 : ¬ (40 : Int) ≤ (kc.F.length : Int) := by omega
      obtain ⟨c1, c2, c3⟩ := clears HKC.out h40 hk8 hW128
      have okc := clear_ok HM5.out HKC.out h40 hk8
      obtain ⟨S0, hS0⟩ : ∃ S0, callS s k 4 [0, 0, 0] = S0 := ⟨_, rfl⟩
      rw [hS0] at c3 okc
      clear c1 c2
      have KS0 := Lib.hid hS0; have OK := Lib.hid okc; have C3 := Lib.hid c3
      clear hS0 okc c3
      go_enter Proofs.Try.func25, Proofs.Try.ntmps25
      go_wp2_with (fail)
      go_at_call 93
      refine (shown5_ _).calls.mono ?_
      rintro e w1 ⟨_, rfl, hb1, rfl⟩
      have B0_1 : Box w1 (w.heap.size) #[.slice aw s.M.W.length cw, .slice ag s.M.G.length cg, .bool s.M.bad, .slice (some ⟨bc, oc, none⟩) s.C.length cc, .slice al s.L.length cl] 83 := (Box.newAt _ _ _ (by first | rfl | simp)).ext hb1
      have s1 : w.heap.size + 1 ≤ w1.heap.size := (by have h := hb1.size; first | omega | (simp at h; omega))
      obtain ⟨c0_0, c0_1, c0_2, c0_3, c0_4, d0_0, d0_1, d0_2, d0_3, d0_4⟩ := cells5 B0_1
      have z0 : w.heap.size < w1.heap.size := B0_1.lt
      go_wp2_with (fail)
      go_at_call 83
      refine (km _ exq).calls.mono ?_
      rintro e w2 ⟨_, rfl, hb2, rfl⟩
      have e0_2 := cell_ext e0 (show Ext w w2 from exq)
      have xc2 : bc < w2.heap.size := World.block_lt_of_cell? _ _ e0_2
      have B0_2 : Box w2 (w.heap.size) #[.slice aw s.M.W.length cw, .slice ag s.M.G.length cg, .bool s.M.bad, .slice (some ⟨bc, oc, none⟩) s.C.length cc, .slice al s.L.length cl] 83 := B0_1.ext hb2
      clear c0_0 c0_1 c0_2 c0_3 c0_4 d0_0 d0_1 d0_2 d0_3 d0_4 z0
      have s2 : w1.heap.size ≤ w2.heap.size := (by have h := hb2.size; first | omega | (simp at h; omega))
      obtain ⟨c0_0, c0_1, c0_2, c0_3, c0_4, d0_0, d0_1, d0_2, d0_3, d0_4⟩ := cells5 B0_2
      have z0 : w.heap.size < w2.heap.size := B0_2.lt
      go_wp2_with (fail)
      go_at_call 88
      refine (refCall_ no _ s k 4 0 0 0 _ ((IsSys.mk rfl hw hg hc hl : IsSys no w _ s).ext exq) no_lt hC5).calls.mono ?_
      rintro e w3 ⟨_, rfl, hb3, hr3⟩
      rw [KS0.out] at hr3
      obtain ⟨r1, r2, r3, r4, r5, r6, r7, r8, rfl, _⟩ := hr3.opened
      have B0_3 : Box w3 (w.heap.size) #[.slice aw s.M.W.length cw, .slice ag s.M.G.length cg, .bool s.M.bad, .slice (some ⟨bc, oc, none⟩) s.C.length cc, .slice al s.L.length cl] 83 := B0_2.ext hb3
      clear c0_0 c0_1 c0_2 c0_3 c0_4 d0_0 d0_1 d0_2 d0_3 d0_4 z0
      have s3 : w2.heap.size ≤ w3.heap.size := (by have h := hb3.size; first | omega | (simp at h; omega))
      obtain ⟨c0_0, c0_1, c0_2, c0_3, c0_4, d0_0, d0_1, d0_2, d0_3, d0_4⟩ := cells5 B0_3
      have z0 : w.heap.size < w3.heap.size := B0_3.lt
      go_wp2
      have hsA : w.heap.size < w3.heap.size := B0_3.lt
      go_loopw [8] (fun i wr => ∃ j : Nat, i = .int .i64 (j : Int) ∧ j ≤ 3 ∧ ClR w w3 (w.heap.size) #[.slice aw s.M.W.length cw, .slice ag s.M.G.length cg, .bool s.M.bad, .slice (some ⟨bc, oc, none⟩) s.C.length cc, .slice al s.L.length cl] (st5 k j S0) wr) (fun i _ => 3 - (intOf i).toNat)
      case atStart => exact ⟨0, rfl, by omega, _, _, _, _, _, (Box.newAt _ _ _ (by first | rfl | simp)), (IsSys.bxn hr3).ext exq, (B0_3.alloc _), exq⟩
      case round =>
        obtain ⟨j, rfl, hj3, v0, v1, v2, v3, v4, hbx, hsys, hb2, hWx⟩ := hrel
        obtain ⟨w9, rfl⟩ : ∃ w9 : World, w9 = wr := ⟨_, rfl⟩
        have s9 : w3.heap.size < w9.heap.size := hbx.lt
        by_cases hlt : j < 3
        · have q5 : (j : Int) < 3 := by omega
          have ok := OK.out j hlt
          obtain ⟨cT_0, cT_1, cT_2, cT_3, cT_4, dT_0, dT_1, dT_2, dT_3, dT_4⟩ := cells5 hbx
          have zT : w3.heap.size < w9.heap.size := hbx.lt
          obtain ⟨cP_0, cP_1, cP_2, cP_3, cP_4, dP_0, dP_1, dP_2, dP_3, dP_4⟩ := cells5 hb2
          have zP : w.heap.size < w9.heap.size := hb2.lt
          go_wp2_with (fail)
          go_at_call 101
          refine (step5_ (Bx no w3.heap.size (w3.heap.size + 1)) _ (st5 k j S0) k _ (hsys.ext exq) (fun b hb => (by have := hb.elim False.elim (fun q => q.2); omega)) ok.1 ok.2.1 ok.2.2.1 ok.2.2.2).calls.mono ?_
          rintro e w10 ⟨_, rfl, hb10, hr10⟩
          obtain ⟨r1, r2, r3, r4, r5, r6, r7, r8, rfl, _⟩ := hr10.opened
          have BT_10 : Box w10 (w3.heap.size) #[v0, v1, v2, v3, v4] 83 := hbx.ext hb10
          have BP_10 : Box w10 (w.heap.size) #[.slice aw s.M.W.length cw, .slice ag s.M.G.length cg, .bool s.M.bad, .slice (some ⟨bc, oc, none⟩) s.C.length cc, .slice al s.L.length cl] 83 := hb2.ext hb10
          clear cT_0 cT_1 cT_2 cT_3 cT_4 dT_0 dT_1 dT_2 dT_3 dT_4 zT cP_0 cP_1 cP_2 cP_3 cP_4 dP_0 dP_1 dP_2 dP_3 dP_4 zP
          have s10 : w9.heap.size ≤ w10.heap.size := (by have h := hb10.size; first | omega | (simp at h; omega))
          obtain ⟨cT_0, cT_1, cT_2, cT_3, cT_4, dT_0, dT_1, dT_2, dT_3, dT_4⟩ := cells5 BT_10
          have zT : w3.heap.size < w10.heap.size := BT_10.lt
          obtain ⟨cP_0, cP_1, cP_2, cP_3, cP_4, dP_0, dP_1, dP_2, dP_3, dP_4⟩ := cells5 BP_10
          have zP : w.heap.size < w10.heap.size := BP_10.lt
          go_wp2
          go_roundw
          case rel => exact ⟨j + 1, by simp, by omega, _, _, _, _, _, (((((BT_10.setCell _).setCell _).setCell _).setCell _).setCell _), IsSys.keep hr10 keq, (((((BP_10.setOther (by first | omega | (simp <;> omega)) _).setOther (by first | omega | (simp <;> omega)) _).setOther (by first | omega | (simp <;> omega)) _).setOther (by first | omega | (simp <;> omega)) _).setOther (by first | omega | (simp <;> omega)) _), exn⟩
          case measure => simp [intOf]; omega
        · obtain rfl : j = 3 := by omega
          have q5 : ¬ ((3 : Nat) : Int) < 3 := by decide
          have hsys : IsSys (Bx no w3.heap.size (w3.heap.size + 1)) w9 (.agg #[v0, v1, v2, v3, v4]) (step5 (step5 (step5 S0 k) k) k) := hsys
          rw [C3.out] at hsys
          obtain ⟨z1, z2, z3, z4, z5, z6, z7, z8, hze, zW, zG, zC, zL⟩ := hsys.lit5 (a := s.M.W.length) (b := s.M.G.length) (d := s.M.bad) (n := s.C.length) (m := s.L.length) (by simp) rfl rfl (by simp) rfl
          obtain ⟨rfl, rfl, rfl, rfl, rfl⟩ : v0 = .slice z1 s.M.W.length z2 ∧ v1 = .slice z3 s.M.G.length z4 ∧ v2 = .bool s.M.bad ∧ v3 = .slice z5 s.C.length z6 ∧ v4 = .slice z7 s.L.length z8 := by simpa using hze
          clear hze
          obtain ⟨bb, ob, af2, cf2, ar2, cr2, rfl, zx, zn, _, _, _, g0, _⟩ := IsCores.at zC (i := k) (c := { kc with V := 0, E := 0 }) (by simp [hkc])
          obtain ⟨bz, oz, rfl, xz, _, ez⟩ := zW.row (by simp; omega)
          obtain ⟨ba, oa, rfl, xa, _, ea⟩ := (IsInts.ext hw hWx).row (by omega)
          have e09 := cell_ext e0 hWx
          have xc9 : bc < w9.heap.size := World.block_lt_of_cell? _ _ e09
          have EZ := Lib.hid (fun j (hj : j < s.M.W.length) => ez j (by simpa using hj))
          have EA := Lib.hid ea
          clear ez ea hsys
          have kp0 : ∀ w', Gives Proofs.Try.prog 95 #[.int .i64 (k : Int), .int .i64 0] w' (eqv (.int .i64 (8 + 3 * (k : Int)))) := fun w' => by have := refPlace_ (k : Int) 0 w' (by omega) (by omega); rwa [placeD_in (by omega) (by omega) (by omega) (by omega), show 8 + 3 * (k : Int) + 0 = 8 + 3 * (k : Int) by omega] at this
          have kp2 : ∀ w', Gives Proofs.Try.prog 95 #[.int .i64 (k : Int), .int .i64 2] w' (eqv (.int .i64 (8 + 3 * (k : Int) + 2))) := fun w' => by have := refPlace_ (k : Int) 2 w' (by omega) (by omega); rwa [placeD_in (by omega) (by omega) (by omega) (by omega)] at this
          obtain ⟨cT_0, cT_1, cT_2, cT_3, cT_4, dT_0, dT_1, dT_2, dT_3, dT_4⟩ := cells5 hbx
          have zT : w3.heap.size < w9.heap.size := hbx.lt
          obtain ⟨cP_0, cP_1, cP_2, cP_3, cP_4, dP_0, dP_1, dP_2, dP_3, dP_4⟩ := cells5 hb2
          have zP : w.heap.size < w9.heap.size := hb2.lt
          go_wp2_with (fail)
          go_quiet (fail)
          go_wp2
          go_loopw [9] (fun i wr => ∃ j : Nat, i = .int .i64 (j : Int) ∧ j ≤ s.M.W.length ∧ Ext w9 wr) (fun i _ => s.M.W.length - (intOf i).toNat)
          case atStart => exact ⟨0, rfl, by omega, exq⟩
          case round =>
            obtain ⟨j, rfl, hj, hX⟩ := hrel
            obtain ⟨w20, rfl⟩ : ∃ w20 : World, w20 = wr := ⟨_, rfl⟩
            have s20 : w9.heap.size ≤ w20.heap.size := hX.size
            have bT := hbx.ext hX
            have bP := hb2.ext hX
            clear hbx hb2
            by_cases hjl : j < s.M.W.length
            · have q6 : (j : Int) < (s.M.W.length : Int) := by omega
              have ea9 := cell_ext (EA.out j hjl) hX
              have ez9 := cell_ext (EZ.out j hjl) hX
              have xa9 : ba < w20.heap.size := World.block_lt_of_cell? _ _ ea9
              have xz9 : bz < w20.heap.size := World.block_lt_of_cell? _ _ ez9
              rw [cleared_get (by omega)] at ez9
              by_cases hlow : 8 + 3 * k ≤ j
              · have q7 : 8 + 3 * (k : Int) ≤ (j : Int) := by omega
                by_cases hhi : j ≤ 8 + 3 * k + 2
                · have q8 : (j : Int) ≤ 8 + 3 * (k : Int) + 2 := by omega
                  rw [if_pos ⟨hlow, hhi⟩] at ez9
                  obtain ⟨cT_0, cT_1, cT_2, cT_3, cT_4, dT_0, dT_1, dT_2, dT_3, dT_4⟩ := cells5 bT
                  have zT : w3.heap.size < w20.heap.size := bT.lt
                  obtain ⟨cP_0, cP_1, cP_2, cP_3, cP_4, dP_0, dP_1, dP_2, dP_3, dP_4⟩ := cells5 bP
                  have zP : w.heap.size < w20.heap.size := bP.lt
                  go_wp2_with (fail)
                  go_at_call 95
                  refine (kp0 _).calls.mono ?_
                  rintro e w21 ⟨_, rfl, hb21, rfl⟩
                  have ea9 := cell_ext ea9 (show Ext _ w21 from exq)
                  have ez9 := cell_ext ez9 (show Ext _ w21 from exq)
                  have xa9 : ba < w21.heap.size := World.block_lt_of_cell? _ _ ea9
                  have xz9 : bz < w21.heap.size := World.block_lt_of_cell? _ _ ez9
                  have BT_21 : Box w21 (w3.heap.size) #[.slice (some ⟨bz, oz, none⟩) s.M.W.length z2, .slice z3 s.M.G.length z4, .bool s.M.bad, .slice (some ⟨bb, ob, none⟩) s.C.length z6, .slice z7 s.L.length z8] 83 := bT.ext hb21
                  have BP_21 : Box w21 (w.heap.size) #[.slice (some ⟨ba, oa, none⟩) s.M.W.length cw, .slice ag s.M.G.length cg, .bool s.M.bad, .slice (some ⟨bc, oc, none⟩) s.C.length cc, .slice al s.L.length cl] 83 := bP.ext hb21
                  clear cT_0 cT_1 cT_2 cT_3 cT_4 dT_0 dT_1 dT_2 dT_3 dT_4 zT cP_0 cP_1 cP_2 cP_3 cP_4 dP_0 dP_1 dP_2 dP_3 dP_4 zP
                  have s21 : w20.heap.size ≤ w21.heap.size := (by have h := hb21.size; first | omega | (simp at h; omega))
                  obtain ⟨cT_0, cT_1, cT_2, cT_3, cT_4, dT_0, dT_1, dT_2, dT_3, dT_4⟩ := cells5 BT_21
                  have zT : w3.heap.size < w21.heap.size := BT_21.lt
                  obtain ⟨cP_0, cP_1, cP_2, cP_3, cP_4, dP_0, dP_1, dP_2, dP_3, dP_4⟩ := cells5 BP_21
                  have zP : w.heap.size < w21.heap.size := BP_21.lt
                  go_wp2_with (fail)
                  go_at_call 95
                  refine (kp2 _).calls.mono ?_
                  rintro e w22 ⟨_, rfl, hb22, rfl⟩
                  have ea9 := cell_ext ea9 (show Ext _ w22 from exq)
                  have ez9 := cell_ext ez9 (show Ext _ w22 from exq)
                  have xa9 : ba < w22.heap.size := World.block_lt_of_cell? _ _ ea9
                  have xz9 : bz < w22.heap.size := World.block_lt_of_cell? _ _ ez9
                  have BT_22 : Box w22 (w3.heap.size) #[.slice (some ⟨bz, oz, none⟩) s.M.W.length z2, .slice z3 s.M.G.length z4, .bool s.M.bad, .slice (some ⟨bb, ob, none⟩) s.C.length z6, .slice z7 s.L.length z8] 83 := BT_21.ext hb22
                  have BP_22 : Box w22 (w.heap.size) #[.slice (some ⟨ba, oa, none⟩) s.M.W.length cw, .slice ag s.M.G.length cg, .bool s.M.bad, .slice (some ⟨bc, oc, none⟩) s.C.length cc, .slice al s.L.length cl] 83 := BP_21.ext hb22
                  clear cT_0 cT_1 cT_2 cT_3 cT_4 dT_0 dT_1 dT_2 dT_3 dT_4 zT cP_0 cP_1 cP_2 cP_3 cP_4 dP_0 dP_1 dP_2 dP_3 dP_4 zP
                  have s22 : w21.heap.size ≤ w22.heap.size := (by have h := hb22.size; first | omega | (simp at h; omega))
                  obtain ⟨cT_0, cT_1, cT_2, cT_3, cT_4, dT_0, dT_1, dT_2, dT_3, dT_4⟩ := cells5 BT_22
                  have zT : w3.heap.size < w22.heap.size := BT_22.lt
                  obtain ⟨cP_0, cP_1, cP_2, cP_3, cP_4, dP_0, dP_1, dP_2, dP_3, dP_4⟩ := cells5 BP_22
                  have zP : w.heap.size < w22.heap.size := BP_22.lt
                  go_wp2_with (fail)
                  go_quiet (fail)
                  go_wp2
                  go_roundw
                  case rel => exact ⟨j + 1, by simp, by omega, exq⟩
                  case measure => simp [intOf]; omega
                · have q8 : ¬ (j : Int) ≤ 8 + 3 * (k : Int) + 2 := by omega
                  have q8b : decide ((j : Int) ≤ 8 + 3 * (k : Int) + 2) = false := decide_eq_false q8
                  rw [if_neg (by omega)] at ez9
                  obtain ⟨z, hz⟩ : ∃ z, gi s.M.W j = z := ⟨_, rfl⟩
                  rw [hz] at ea9 ez9
                  clear hz
                  obtain ⟨cT_0, cT_1, cT_2, cT_3, cT_4, dT_0, dT_1, dT_2, dT_3, dT_4⟩ := cells5 bT
                  have zT : w3.heap.size < w20.heap.size := bT.lt
                  obtain ⟨cP_0, cP_1, cP_2, cP_3, cP_4, dP_0, dP_1, dP_2, dP_3, dP_4⟩ := cells5 bP
                  have zP : w.heap.size < w20.heap.size := bP.lt
                  go_wp2_with (fail)
                  go_at_call 95
                  refine (kp0 _).calls.mono ?_
                  rintro e w21 ⟨_, rfl, hb21, rfl⟩
                  have ea9 := cell_ext ea9 (show Ext _ w21 from exq)
                  have ez9 := cell_ext ez9 (show Ext _ w21 from exq)
                  have xa9 : ba < w21.heap.size := World.block_lt_of_cell? _ _ ea9
                  have xz9 : bz < w21.heap.size := World.block_lt_of_cell? _ _ ez9
                  have BT_21 : Box w21 (w3.heap.size) #[.slice (some ⟨bz, oz, none⟩) s.M.W.length z2, .slice z3 s.M.G.length z4, .bool s.M.bad, .slice (some ⟨bb, ob, none⟩) s.C.length z6, .slice z7 s.L.length z8] 83 := bT.ext hb21
                  have BP_21 : Box w21 (w.heap.size) #[.slice (some ⟨ba, oa, none⟩) s.M.W.length cw, .slice ag s.M.G.length cg, .bool s.M.bad, .slice (some ⟨bc, oc, none⟩) s.C.length cc, .slice al s.L.length cl] 83 := bP.ext hb21
                  clear cT_0 cT_1 cT_2 cT_3 cT_4 dT_0 dT_1 dT_2 dT_3 dT_4 zT cP_0 cP_1 cP_2 cP_3 cP_4 dP_0 dP_1 dP_2 dP_3 dP_4 zP
                  have s21 : w20.heap.size ≤ w21.heap.size := (by have h := hb21.size; first | omega | (simp at h; omega))
                  obtain ⟨cT_0, cT_1, cT_2, cT_3, cT_4, dT_0, dT_1, dT_2, dT_3, dT_4⟩ := cells5 BT_21
                  have zT : w3.heap.size < w21.heap.size := BT_21.lt
                  obtain ⟨cP_0, cP_1, cP_2, cP_3, cP_4, dP_0, dP_1, dP_2, dP_3, dP_4⟩ := cells5 BP_21
                  have zP : w.heap.size < w21.heap.size := BP_21.lt
                  go_wp2_with (fail)
                  go_at_call 95
                  refine (kp2 _).calls.mono ?_
                  rintro e w22 ⟨_, rfl, hb22, rfl⟩
                  have ea9 := cell_ext ea9 (show Ext _ w22 from exq)
                  have ez9 := cell_ext ez9 (show Ext _ w22 from exq)
                  have xa9 : ba < w22.heap.size := World.block_lt_of_cell? _ _ ea9
                  have xz9 : bz < w22.heap.size := World.block_lt_of_cell? _ _ ez9
                  have BT_22 : Box w22 (w3.heap.size) #[.slice (some ⟨bz, oz, none⟩) s.M.W.length z2, .slice z3 s.M.G.length z4, .bool s.M.bad, .slice (some ⟨bb, ob, none⟩) s.C.length z6, .slice z7 s.L.length z8] 83 := BT_21.ext hb22
                  have BP_22 : Box w22 (w.heap.size) #[.slice (some ⟨ba, oa, none⟩) s.M.W.length cw, .slice ag s.M.G.length cg, .bool s.M.bad, .slice (some ⟨bc, oc, none⟩) s.C.length cc, .slice al s.L.length cl] 83 := BP_21.ext hb22
                  clear cT_0 cT_1 cT_2 cT_3 cT_4 dT_0 dT_1 dT_2 dT_3 dT_4 zT cP_0 cP_1 cP_2 cP_3 cP_4 dP_0 dP_1 dP_2 dP_3 dP_4 zP
                  have s22 : w21.heap.size ≤ w22.heap.size := (by have h := hb22.size; first | omega | (simp at h; omega))
                  obtain ⟨cT_0, cT_1, cT_2, cT_3, cT_4, dT_0, dT_1, dT_2, dT_3, dT_4⟩ := cells5 BT_22
                  have zT : w3.heap.size < w22.heap.size := BT_22.lt
                  obtain ⟨cP_0, cP_1, cP_2, cP_3, cP_4, dP_0, dP_1, dP_2, dP_3, dP_4⟩ := cells5 BP_22
                  have zP : w.heap.size < w22.heap.size := BP_22.lt
                  go_wp2_with (fail)
                  go_quiet (fail)
                  go_wp2
                  go_roundw
                  case rel => exact ⟨j + 1, by simp, by omega, exq⟩
                  case measure => simp [intOf]; omega
              · have q7 : ¬ 8 + 3 * (k : Int) ≤ (j : Int) := by omega
                rw [if_neg (by omega)] at ez9
                obtain ⟨z, hz⟩ : ∃ z, gi s.M.W j = z := ⟨_, rfl⟩
                rw [hz] at ea9 ez9
                clear hz
                obtain ⟨cT_0, cT_1, cT_2, cT_3, cT_4, dT_0, dT_1, dT_2, dT_3, dT_4⟩ := cells5 bT
                have zT : w3.heap.size < w20.heap.size := bT.lt
                obtain ⟨cP_0, cP_1, cP_2, cP_3, cP_4, dP_0, dP_1, dP_2, dP_3, dP_4⟩ := cells5 bP
                have zP : w.heap.size < w20.heap.size := bP.lt
                go_wp2_with (fail)
                go_at_call 95
                refine (kp0 _).calls.mono ?_
                rintro e w21 ⟨_, rfl, hb21, rfl⟩
                have ea9 := cell_ext ea9 (show Ext _ w21 from exq)
                have ez9 := cell_ext ez9 (show Ext _ w21 from exq)
                have xa9 : ba < w21.heap.size := World.block_lt_of_cell? _ _ ea9
                have xz9 : bz < w21.heap.size := World.block_lt_of_cell? _ _ ez9
                have BT_21 : Box w21 (w3.heap.size) #[.slice (some ⟨bz, oz, none⟩) s.M.W.length z2, .slice z3 s.M.G.length z4, .bool s.M.bad, .slice (some ⟨bb, ob, none⟩) s.C.length z6, .slice z7 s.L.length z8] 83 := bT.ext hb21
                have BP_21 : Box w21 (w.heap.size) #[.slice (some ⟨ba, oa, none⟩) s.M.W.length cw, .slice ag s.M.G.length cg, .bool s.M.bad, .slice (some ⟨bc, oc, none⟩) s.C.length cc, .slice al s.L.length cl] 83 := bP.ext hb21
                clear cT_0 cT_1 cT_2 cT_3 cT_4 dT_0 dT_1 dT_2 dT_3 dT_4 zT cP_0 cP_1 cP_2 cP_3 cP_4 dP_0 dP_1 dP_2 dP_3 dP_4 zP
                have s21 : w20.heap.size ≤ w21.heap.size := (by have h := hb21.size; first | omega | (simp at h; omega))
                obtain ⟨cT_0, cT_1, cT_2, cT_3, cT_4, dT_0, dT_1, dT_2, dT_3, dT_4⟩ := cells5 BT_21
                have zT : w3.heap.size < w21.heap.size := BT_21.lt
                obtain ⟨cP_0, cP_1, cP_2, cP_3, cP_4, dP_0, dP_1, dP_2, dP_3, dP_4⟩ := cells5 BP_21
                have zP : w.heap.size < w21.heap.size := BP_21.lt
                go_wp2_with (fail)
                go_quiet (fail)
                go_wp2
                go_roundw
                case rel => exact ⟨j + 1, by simp, by omega, exq⟩
                case measure => simp [intOf]; omega
            · have hje : j = s.M.W.length := by omega
              have q6 : ¬ (j : Int) < (s.M.W.length : Int) := by omega
              obtain ⟨cT_0, cT_1, cT_2, cT_3, cT_4, dT_0, dT_1, dT_2, dT_3, dT_4⟩ := cells5 bT
              have zT : w3.heap.size < w20.heap.size := bT.lt
              obtain ⟨cP_0, cP_1, cP_2, cP_3, cP_4, dP_0, dP_1, dP_2, dP_3, dP_4⟩ := cells5 bP
              have zP : w.heap.size < w20.heap.size := bP.lt
              go_wp2
              go_ret
              exact ⟨_, rfl, exn, rfl⟩
    · have q1 : (40 : Int) ≤ (kc.F.length : Int) := by omega
      go_enter Proofs.Try.func25, Proofs.Try.ntmps25
      go_wp2_with (fail)
      go_at_call 93
      refine (shown5_ _).calls.mono ?_
      rintro e w1 ⟨_, rfl, hb1, rfl⟩
      have B0_1 : Box w1 (w.heap.size) #[.slice aw s.M.W.length cw, .slice ag s.M.G.length cg, .bool s.M.bad, .slice (some ⟨bc, oc, none⟩) s.C.length cc, .slice al s.L.length cl] 83 := (Box.newAt _ _ _ (by first | rfl | simp)).ext hb1
      have s1 : w.heap.size + 1 ≤ w1.heap.size := (by have h := hb1.size; first | omega | (simp at h; omega))
      obtain ⟨c0_0, c0_1, c0_2, c0_3, c0_4, d0_0, d0_1, d0_2, d0_3, d0_4⟩ := cells5 B0_1
      have z0 : w.heap.size < w1.heap.size := B0_1.lt
      go_wp2_with (fail)
      go_at_call 83
      refine (km _ exq).calls.mono ?_
      rintro e w2 ⟨_, rfl, hb2, rfl⟩
      have e0_2 := cell_ext e0 (show Ext w w2 from exq)
      have xc2 : bc < w2.heap.size := World.block_lt_of_cell? _ _ e0_2
      have B0_2 : Box w2 (w.heap.size) #[.slice aw s.M.W.length cw, .slice ag s.M.G.length cg, .bool s.M.bad, .slice (some ⟨bc, oc, none⟩) s.C.length cc, .slice al s.L.length cl] 83 := B0_1.ext hb2
      clear c0_0 c0_1 c0_2 c0_3 c0_4 d0_0 d0_1 d0_2 d0_3 d0_4 z0
      have s2 : w1.heap.size ≤ w2.heap.size := (by have h := hb2.size; first | omega | (simp at h; omega))
      obtain ⟨c0_0, c0_1, c0_2, c0_3, c0_4, d0_0, d0_1, d0_2, d0_3, d0_4⟩ := cells5 B0_2
      have z0 : w.heap.size < w2.heap.size := B0_2.lt
      go_wp2
      go_ret
      exact ⟨_, rfl, exn, rfl⟩
end Go.Proofs.Ytcfbdfgondmkoaa
