/- StackFree: its walk. -/
import Derived.Test.YtcfbdfgondmkoaaM7
namespace Go.Proofs.Ytcfbdfgondmkoaa
open Go Go.RowKit
set_option linter.unusedSimpArgs false
set_option linter.unusedVariables false
set_option linter.unnecessarySimpa false

def FO (c : Nat) (t : Int) (ts : List Int) (m i : Nat) (S : SysD) : Prop := (freeIn c t m i S).2 = true ∨ (freeOut c ts (freeIn c t m i S).1).2 = true
theorem free_start {c : Nat} {t : Int} {ts : List Int} {S : SysD} (h : (freeOut c (t :: ts) S).2 = true) : FO c t ts c 0 S := by
  unfold freeOut at h
  unfold FO
  split at h
  · rename_i h1; exact .inl h1
  · exact .inr h
theorem free_zero {c i : Nat} {t : Int} {ts : List Int} {S : SysD} (h : FO c t ts 0 i S) : (freeOut c ts S).2 = true := by
  rcases h with h | h
  · cases h
  · exact h
theorem free_step {c i m id : Nat} {t : Int} {ts : List Int} {S S1 : SysD} (h : FO c t ts (m + 1) i S) (hi : (((i : Int) + t) % (c : Int)).toNat = id) (hS : step4 S (id : Nat) = S1) (ht : (topD S1 (id : Int)).isSome = true) : FO c t ts m (i + 1) S1 := by
  unfold FO at h ⊢
  unfold freeIn at h
  rw [hi, hS, if_pos ht] at h
  exact h
def FrR (w wk : World) (y2 y3 y4 y5 : Int) (B6 : Nat) (S : SysD) (wr : World) : Prop :=
  ∃ v0 v1 v2 v3 v4, Box wr wk.heap.size #[v0, v1, v2, v3, v4] 83 ∧ IsSys (Bx no wk.heap.size (wk.heap.size + 1)) wr (.agg #[v0, v1, v2, v3, v4]) S ∧ Box wr B6 #[.int .u8 y2, .int .u8 y3, .int .u8 y4, .int .u8 y5] 144 ∧ Ext w wr
set_option maxHeartbeats 8000000 in
set_option maxRecDepth 100000 in
theorem stackFree_ (y0 y1 y2 y3 y4 y5 : Int) (sv : Value) (l : List Int) (w : World) (hp : IsNums .u16 w sv l) (lo0 : 0 ≤ y0) (hi0 : y0 ≤ 255) (lo1 : 0 ≤ y1) (hi1 : y1 ≤ 255) (lo2 : 0 ≤ y2) (hi2 : y2 ≤ 255) (lo3 : 0 ≤ y3) (hi3 : y3 ≤ 255) (lo4 : 0 ≤ y4) (hi4 : y4 ≤ 255) (lo5 : 0 ≤ y5) (hi5 : y5 ≤ 255) :
    Gives Proofs.Try.prog 32 #[.agg #[.int .u8 y0, .int .u8 y1, sv, .int .u8 y2, .int .u8 y3, .int .u8 y4, .int .u8 y5]] w (eqv (.bool true)) := by
  obtain ⟨pa, pcap, rfl⟩ := hp.shape
  have hpx := Lib.hid hp
  clear hp
  by_cases hl : l.length ≤ 200
  · have q0 : ¬ (200 : Int) < (l.length : Int) := by omega
    obtain ⟨c, hc⟩ : ∃ c : Nat, (c : Int) = 1 + y0 % 8 := ⟨(1 + y0 % 8).toNat, by omega⟩
    obtain ⟨n, hn⟩ : ∃ n : Nat, (n : Int) = 1 + y1 % 12 := ⟨(1 + y1 % 12).toNat, by omega⟩
    have c1 : 1 ≤ c := by omega
    have c8 : c ≤ 8 := by omega
    have n1 : 1 ≤ n := by omega
    have n200 : n ≤ 200 := by omega
    have ez0 : 1 + y0 % 8 = (c : Int) := hc.symm
    have ez1 : 1 + y1 % 12 = (n : Int) := hn.symm
    clear hc hn
    have F1 := Lib.hid (fun w' hp => play_ c n l (.slice pa l.length pcap) w' c1 c8 n1 n200 (by omega) hp)
    have PI := play_inv c1 c8 n1 n200 l (by omega)
    generalize playD c n l = st at F1 PI
    have KPI := Lib.hid PI
    obtain ⟨s, own⟩ := st
    obtain ⟨T, L, hT, I, hLl, _⟩ := PI
    have I : Inv c n T s own [] L := I
    have hLl : s.L.length ≤ 200 := Nat.le_trans hLl (by omega)
    have hT9 : T < 1000000 := by omega
    have KI := Lib.hid I
    have KlW := Lib.hid I.lW; have KlG := Lib.hid I.lG; have Kok := Lib.hid I.ok; have KlC := Lib.hid I.lc
    have hC5 : s.C.length ≤ 100000 := by rw [I.lc]; omega
    clear I
    have hc0 : ¬ (c : Int) = 0 := by omega
    have wk0 := Lib.hid (KI.out.wk (k := 200) (Nat.le_trans hT (by omega)) (by omega))
    have hfree := Lib.hid (fun hbusy => free_plain c1 (show l.length ≤ 1000 by omega) KPI.out hbusy [y2, y3, y4, y5] rfl)
    clear KI KPI
    go_enter Proofs.Try.func32, Proofs.Try.ntmps32
    go_wp2_with (fail)
    go_at_call 104
    refine (shown4_ _).calls.mono ?_
    rintro e w1 ⟨_, rfl, hb1, rfl⟩
    have B0_1 : Box w1 (w.heap.size) #[.int .u8 y0, .int .u8 y1, .slice pa l.length pcap, .int .u8 y2, .int .u8 y3, .int .u8 y4, .int .u8 y5] 146 := ((Box.newAt _ _ _ (by first | rfl | simp)).alloc _).ext hb1
    have B1_1 : Box w1 (w.heap.size + 1) #[.int .u8 y2, .int .u8 y3, .int .u8 y4, .int .u8 y5] 144 := (Box.newAt _ _ _ (by first | rfl | simp)).ext hb1
    have s1 : w.heap.size + 2 ≤ w1.heap.size := (by have h := hb1.size; first | omega | (simp at h; omega))
    obtain ⟨c0_0, c0_1, c0_2, c0_3, c0_4, c0_5, c0_6, d0_0, d0_1, d0_2, d0_3, d0_4, d0_5, d0_6⟩ := cells7 B0_1
    have z0 : w.heap.size < w1.heap.size := B0_1.lt
    obtain ⟨c1_0, c1_1, c1_2, c1_3, d1_0, d1_1, d1_2, d1_3⟩ := cells4 B1_1
    have z1 : w.heap.size + 1 < w1.heap.size := B1_1.lt
    go_wp2_with (fail)
    go_at_call 113
    refine (F1.out _ (hpx.out.ext exq)).calls.mono ?_
    rintro e w2 ⟨_, rfl, hb2, RB, u, vs, rfl, hps, hpr⟩
    obtain ⟨p1, p2, p3, p4, p5, p6, p7, p8, rfl, pW, pG, pC, pL⟩ := hps.lit KlW.out KlG.out Kok.out KlC.out rfl
    have B0_2 : Box w2 (w.heap.size) #[.int .u8 y0, .int .u8 y1, .slice pa l.length pcap, .int .u8 y2, .int .u8 y3, .int .u8 y4, .int .u8 y5] 146 := B0_1.ext hb2
    have B1_2 : Box w2 (w.heap.size + 1) #[.int .u8 y2, .int .u8 y3, .int .u8 y4, .int .u8 y5] 144 := B1_1.ext hb2
    clear c0_0 c0_1 c0_2 c0_3 c0_4 c0_5 c0_6 d0_0 d0_1 d0_2 d0_3 d0_4 d0_5 d0_6 z0 c1_0 c1_1 c1_2 c1_3 d1_0 d1_1 d1_2 d1_3 z1
    have s2 : w1.heap.size ≤ w2.heap.size := (by have h := hb2.size; first | omega | (simp at h; omega))
    obtain ⟨c0_0, c0_1, c0_2, c0_3, c0_4, c0_5, c0_6, d0_0, d0_1, d0_2, d0_3, d0_4, d0_5, d0_6⟩ := cells7 B0_2
    have z0 : w.heap.size < w2.heap.size := B0_2.lt
    obtain ⟨c1_0, c1_1, c1_2, c1_3, d1_0, d1_1, d1_2, d1_3⟩ := cells4 B1_2
    have z1 : w.heap.size + 1 < w2.heap.size := B1_2.lt
    go_wp2
    have hW2 : Ext w w2 := exq
    have sB : w.heap.size + 1 < w2.heap.size := by have := hW2.size; omega
    go_loopw [12, 13] (fun e i wr => ∃ (b : Bool) (k : Nat), e = .bool b ∧ i = .int .i64 (k : Int) ∧ k ≤ c ∧ FrR w w2 y2 y3 y4 y5 (w.heap.size + 1) s wr ∧ (b = false → ∀ j, j < k → (topD s (j : Nat)).isSome = true)) (fun _ i _ => c - (intOf i).toNat)
    case atStart => exact ⟨false, 0, rfl, rfl, by omega, ⟨_, _, _, _, _, (Box.newAt _ _ _ (by first | rfl | simp)), (IsSys.bxn hps).ext exq, (B1_2.alloc _), exq⟩, fun _ j hj => by omega⟩
    case round =>
      obtain ⟨b, k, rfl, rfl, hk, hfr, hbusy⟩ := hrel
      obtain ⟨v0, v1, v2, v3, v4, hbx, hsys, hb6, hWx⟩ := hfr
      obtain ⟨w9, rfl⟩ : ∃ w9 : World, w9 = wr := ⟨_, rfl⟩
      have sw9 : w2.heap.size < w9.heap.size := hbx.lt
      have hBusy := Lib.hid hbusy
      clear hbusy
      by_cases hlt : k < c
      · have q1 : (k : Int) < (c : Int) := by omega
        cases b
        · cases ht : (topD s (k : Int)).isSome
          · skip
            obtain ⟨cT_0, cT_1, cT_2, cT_3, cT_4, dT_0, dT_1, dT_2, dT_3, dT_4⟩ := cells5 hbx
            have zT : w2.heap.size < w9.heap.size := hbx.lt
            obtain ⟨cY_0, cY_1, cY_2, cY_3, dY_0, dY_1, dY_2, dY_3⟩ := cells4 hb6
            have zY : w.heap.size + 1 < w9.heap.size := hb6.lt
            go_wp2_with (fail)
            go_at_call 82
            refine (refTop_ (Bx no w2.heap.size (w2.heap.size + 1)) _ s k _ (hsys.ext exq)).calls.mono ?_
            rintro e w10 ⟨_, rfl, hb10, u, rfl, hu10⟩
            rw [ht]
            obtain ⟨fa, fc, rfl, f8, fs⟩ := hu10.opened
            generalize topF s (k : Int) = tf at *
            have BT_10 : Box w10 (w2.heap.size) #[v0, v1, v2, v3, v4] 83 := hbx.ext hb10
            have BY_10 : Box w10 (w.heap.size + 1) #[.int .u8 y2, .int .u8 y3, .int .u8 y4, .int .u8 y5] 144 := hb6.ext hb10
            clear cT_0 cT_1 cT_2 cT_3 cT_4 dT_0 dT_1 dT_2 dT_3 dT_4 zT cY_0 cY_1 cY_2 cY_3 dY_0 dY_1 dY_2 dY_3 zY
            have s10 : w9.heap.size ≤ w10.heap.size := (by have h := hb10.size; first | omega | (simp at h; omega))
            obtain ⟨cT_0, cT_1, cT_2, cT_3, cT_4, dT_0, dT_1, dT_2, dT_3, dT_4⟩ := cells5 BT_10
            have zT : w2.heap.size < w10.heap.size := BT_10.lt
            obtain ⟨cY_0, cY_1, cY_2, cY_3, dY_0, dY_1, dY_2, dY_3⟩ := cells4 BY_10
            have zY : w.heap.size + 1 < w10.heap.size := BY_10.lt
            go_wp2
            go_roundw
            case rel =>
              refine ⟨true, k + 1, rfl, by simp, by omega, ⟨_, _, _, _, _, (BT_10.alloc _), IsSys.ext hsys exq, (BY_10.alloc _), exq⟩, ?_⟩
              exact fun h => by cases h
            case measure => simp [intOf]; omega
          · skip
            obtain ⟨cT_0, cT_1, cT_2, cT_3, cT_4, dT_0, dT_1, dT_2, dT_3, dT_4⟩ := cells5 hbx
            have zT : w2.heap.size < w9.heap.size := hbx.lt
            obtain ⟨cY_0, cY_1, cY_2, cY_3, dY_0, dY_1, dY_2, dY_3⟩ := cells4 hb6
            have zY : w.heap.size + 1 < w9.heap.size := hb6.lt
            go_wp2_with (fail)
            go_at_call 82
            refine (refTop_ (Bx no w2.heap.size (w2.heap.size + 1)) _ s k _ (hsys.ext exq)).calls.mono ?_
            rintro e w10 ⟨_, rfl, hb10, u, rfl, hu10⟩
            rw [ht]
            obtain ⟨fa, fc, rfl, f8, fs⟩ := hu10.opened
            generalize topF s (k : Int) = tf at *
            have BT_10 : Box w10 (w2.heap.size) #[v0, v1, v2, v3, v4] 83 := hbx.ext hb10
            have BY_10 : Box w10 (w.heap.size + 1) #[.int .u8 y2, .int .u8 y3, .int .u8 y4, .int .u8 y5] 144 := hb6.ext hb10
            clear cT_0 cT_1 cT_2 cT_3 cT_4 dT_0 dT_1 dT_2 dT_3 dT_4 zT cY_0 cY_1 cY_2 cY_3 dY_0 dY_1 dY_2 dY_3 zY
            have s10 : w9.heap.size ≤ w10.heap.size := (by have h := hb10.size; first | omega | (simp at h; omega))
            obtain ⟨cT_0, cT_1, cT_2, cT_3, cT_4, dT_0, dT_1, dT_2, dT_3, dT_4⟩ := cells5 BT_10
            have zT : w2.heap.size < w10.heap.size := BT_10.lt
            obtain ⟨cY_0, cY_1, cY_2, cY_3, dY_0, dY_1, dY_2, dY_3⟩ := cells4 BY_10
            have zY : w.heap.size + 1 < w10.heap.size := BY_10.lt
            go_wp2
            go_roundw
            case rel =>
              refine ⟨false, k + 1, rfl, by simp, by omega, ⟨_, _, _, _, _, (BT_10.alloc _), IsSys.ext hsys exq, (BY_10.alloc _), exq⟩, ?_⟩
              exact fun _ j hj => by
                rcases Nat.lt_or_ge j k with h | h
                · exact hBusy.out (by simp) j h
                · obtain rfl : j = k := by omega
                  exact ht
            case measure => simp [intOf]; omega
        · skip
          obtain ⟨cT_0, cT_1, cT_2, cT_3, cT_4, dT_0, dT_1, dT_2, dT_3, dT_4⟩ := cells5 hbx
          have zT : w2.heap.size < w9.heap.size := hbx.lt
          obtain ⟨cY_0, cY_1, cY_2, cY_3, dY_0, dY_1, dY_2, dY_3⟩ := cells4 hb6
          have zY : w.heap.size + 1 < w9.heap.size := hb6.lt
          go_wp2_with (fail)
          go_at_call 82
          refine (refTop_ (Bx no w2.heap.size (w2.heap.size + 1)) _ s k _ (hsys.ext exq)).calls.mono ?_
          rintro e w10 ⟨_, rfl, hb10, u, rfl, hu10⟩
          obtain ⟨fa, fc, rfl, f8, fs⟩ := hu10.opened
          generalize topF s (k : Int) = tf at *
          have BT_10 : Box w10 (w2.heap.size) #[v0, v1, v2, v3, v4] 83 := hbx.ext hb10
          have BY_10 : Box w10 (w.heap.size + 1) #[.int .u8 y2, .int .u8 y3, .int .u8 y4, .int .u8 y5] 144 := hb6.ext hb10
          clear cT_0 cT_1 cT_2 cT_3 cT_4 dT_0 dT_1 dT_2 dT_3 dT_4 zT cY_0 cY_1 cY_2 cY_3 dY_0 dY_1 dY_2 dY_3 zY
          have s10 : w9.heap.size ≤ w10.heap.size := (by have h := hb10.size; first | omega | (simp at h; omega))
          obtain ⟨cT_0, cT_1, cT_2, cT_3, cT_4, dT_0, dT_1, dT_2, dT_3, dT_4⟩ := cells5 BT_10
          have zT : w2.heap.size < w10.heap.size := BT_10.lt
          obtain ⟨cY_0, cY_1, cY_2, cY_3, dY_0, dY_1, dY_2, dY_3⟩ := cells4 BY_10
          have zY : w.heap.size + 1 < w10.heap.size := BY_10.lt
          go_wp2
          go_roundw
          case rel =>
            refine ⟨true, k + 1, rfl, by simp, by omega, ⟨_, _, _, _, _, (BT_10.alloc _), IsSys.ext hsys exq, (BY_10.alloc _), exq⟩, ?_⟩
            exact fun h => by cases h
          case measure => simp [intOf]; omega
      · obtain rfl : k = c := by omega
        have q1 : ¬ (k : Int) < (k : Int) := by omega
        have hFree : Hid (b = false → (freeOut k [y2, y3, y4, y5] s).2 = true) := Lib.hid (fun h => hfree.out (fun i hi => hBusy.out h i hi))
        clear hfree hBusy hlt hk
        obtain ⟨cT_0, cT_1, cT_2, cT_3, cT_4, dT_0, dT_1, dT_2, dT_3, dT_4⟩ := cells5 hbx
        have zT : w2.heap.size < w9.heap.size := hbx.lt
        obtain ⟨cY_0, cY_1, cY_2, cY_3, dY_0, dY_1, dY_2, dY_3⟩ := cells4 hb6
        have zY : w.heap.size + 1 < w9.heap.size := hb6.lt
        go_wp2
        go_loopw [12, 16] (fun e i wr => ∃ (b : Bool) (q : Nat) (S : SysD), e = .bool b ∧ i = .int .i64 (q : Int) ∧ q ≤ 4 ∧ FrR w w2 y2 y3 y4 y5 (w.heap.size + 1) S wr ∧ Wk k n (200 + 8 * q) S ∧ (b = false → (freeOut k ([y2, y3, y4, y5].drop q) S).2 = true)) (fun _ i _ => 4 - (intOf i).toNat)
        case atStart => exact ⟨b, 0, s, rfl, rfl, by omega, ⟨_, _, _, _, _, hbx, hsys, hb6, exq⟩, wk0.out, hFree.out⟩
        case round =>
          clear hbx hsys hb6 hWx sw9 hFree
          obtain ⟨b, q, S, rfl, rfl, hq, hfr, hwk, hfo⟩ := hrel
          obtain ⟨v0, v1, v2, v3, v4, hbx, hsys, hb6, hWx⟩ := hfr
          obtain ⟨w20, rfl⟩ : ∃ w20 : World, w20 = wr := ⟨_, rfl⟩
          have sw20 : w2.heap.size < w20.heap.size := hbx.lt
          have hFO := Lib.hid hfo; have hWK := Lib.hid hwk
          clear hfo hwk
          by_cases hlt : q < 4
          · have q2 : (q : Int) < 4 := by omega
            cases b
            · obtain ⟨t, ts, ht, hgt, hlo, hhi, hgq⟩ : ∃ t ts, [y2, y3, y4, y5].drop q = t :: ts ∧ [y2, y3, y4, y5].drop (q + 1) = ts ∧ 0 ≤ t ∧ t ≤ 255 ∧ #[Value.int .u8 y2, .int .u8 y3, .int .u8 y4, .int .u8 y5].toList[q]? = some (.int .u8 t) := by
                obtain rfl | rfl | rfl | rfl : q = 0 ∨ q = 1 ∨ q = 2 ∨ q = 3 := by omega
                · exact ⟨_, _, rfl, rfl, by omega, by omega, rfl⟩
                · exact ⟨_, _, rfl, rfl, by omega, by omega, rfl⟩
                · exact ⟨_, _, rfl, rfl, by omega, by omega, rfl⟩
                · exact ⟨_, _, rfl, rfl, by omega, by omega, rfl⟩
              have hfo3 := free_start (by have := hFO.out (by simp); rw [ht] at this; exact this)
              have hFO3 := Lib.hid hfo3; have hGT := Lib.hid hgt
              clear hFO hfo3 ht hgt
              obtain ⟨cT_0, cT_1, cT_2, cT_3, cT_4, dT_0, dT_1, dT_2, dT_3, dT_4⟩ := cells5 hbx
              have zT : w2.heap.size < w20.heap.size := hbx.lt
              obtain ⟨cY_0, cY_1, cY_2, cY_3, dY_0, dY_1, dY_2, dY_3⟩ := cells4 hb6
              have zY : w.heap.size + 1 < w20.heap.size := hb6.lt
              go_wp2
              go_loopw [12, 17] (fun e i wr => ∃ (b : Bool) (j : Nat) (S : SysD), e = .bool b ∧ i = .int .i64 (j : Int) ∧ j ≤ k ∧ FrR w w2 y2 y3 y4 y5 (w.heap.size + 1) S wr ∧ Wk k n (200 + 8 * q + j) S ∧ (b = false → FO k t ts (k - j) j S)) (fun _ i _ => k - (intOf i).toNat)
              case atStart => exact ⟨false, 0, S, rfl, rfl, by omega, ⟨_, _, _, _, _, hbx, hsys, hb6, exq⟩, hWK.out, fun _ => hFO3.out⟩
              case round =>
                have hgq20 := hgq
                clear hbx hsys hWx sw20 hb6 hFO3 hWK
                obtain ⟨b, j, S, rfl, rfl, hj, hfr, hwk, hfo⟩ := hrel
                obtain ⟨v0, v1, v2, v3, v4, hbx, hsys, hb6, hWx⟩ := hfr
                obtain ⟨w30, rfl⟩ : ∃ w30 : World, w30 = wr := ⟨_, rfl⟩
                have sw30 : w2.heap.size < w30.heap.size := hbx.lt
                have hFO := Lib.hid hfo; have hWK := Lib.hid hwk
                clear hfo hwk
                have ok := (hWK.out.mono (l := 300) (by omega)).ok (by omega) (by omega)
                have eq30 : w30.cell? ⟨w.heap.size + 1, q, none⟩ = some (.int .u8 t) := hb6.cell (by rw [nth_eq]; exact hgq)
                by_cases hjl : j < k
                · have q3 : (j : Int) < (k : Int) := by omega
                  cases b
                  · obtain ⟨id, hid⟩ : ∃ id : Nat, ((j : Int) + t) % (k : Int) = (id : Int) := ⟨(((j : Int) + t) % (k : Int)).toNat, by have := Int.emod_nonneg ((j : Int) + t) hc0; omega⟩
                    have hidk : id < k := by have := Int.emod_lt_of_pos ((j : Int) + t) (show (0 : Int) < k by omega); omega
                    obtain ⟨S1, hS1⟩ : ∃ S1, step4 S (id : Nat) = S1 := ⟨_, rfl⟩
                    have hwk1 := hWK.out.step (by omega) hidk
                    rw [hS1] at hwk1
                    have hWK1 := Lib.hid hwk1; have hS1h := Lib.hid hS1; have hIDh := Lib.hid hid
                    clear hS1 hwk1
                    cases ht : (topD S1 (id : Int)).isSome
                    · skip
                      obtain ⟨cT_0, cT_1, cT_2, cT_3, cT_4, dT_0, dT_1, dT_2, dT_3, dT_4⟩ := cells5 hbx
                      have zT : w2.heap.size < w30.heap.size := hbx.lt
                      obtain ⟨cY_0, cY_1, cY_2, cY_3, dY_0, dY_1, dY_2, dY_3⟩ := cells4 hb6
                      have zY : w.heap.size + 1 < w30.heap.size := hb6.lt
                      go_wp2_with (fail)
                      go_at_call 111
                      refine (step4_ (Bx no w2.heap.size (w2.heap.size + 1)) _ S id _ (hsys.ext exq) (fun b hb => (by have := hb.elim False.elim (fun q => q.2); omega)) ok.1 ok.2.1 ok.2.2.1 ok.2.2.2).calls.mono ?_
                      rintro e w31 ⟨_, rfl, hb31, hr31⟩
                      rw [hS1h.out] at hr31
                      obtain ⟨r1, r2, r3, r4, r5, r6, r7, r8, rfl, _⟩ := hr31.opened
                      have BT_31 : Box w31 (w2.heap.size) #[v0, v1, v2, v3, v4] 83 := hbx.ext hb31
                      have BY_31 : Box w31 (w.heap.size + 1) #[.int .u8 y2, .int .u8 y3, .int .u8 y4, .int .u8 y5] 144 := hb6.ext hb31
                      clear cT_0 cT_1 cT_2 cT_3 cT_4 dT_0 dT_1 dT_2 dT_3 dT_4 zT cY_0 cY_1 cY_2 cY_3 dY_0 dY_1 dY_2 dY_3 zY
                      have s31 : w30.heap.size ≤ w31.heap.size := (by have h := hb31.size; first | omega | (simp at h; omega))
                      obtain ⟨cT_0, cT_1, cT_2, cT_3, cT_4, dT_0, dT_1, dT_2, dT_3, dT_4⟩ := cells5 BT_31
                      have zT : w2.heap.size < w31.heap.size := BT_31.lt
                      obtain ⟨cY_0, cY_1, cY_2, cY_3, dY_0, dY_1, dY_2, dY_3⟩ := cells4 BY_31
                      have zY : w.heap.size + 1 < w31.heap.size := BY_31.lt
                      go_wp2_with (fail)
                      go_at_call 82
                      refine (refTop_ (Bx no w2.heap.size (w2.heap.size + 1)) _ S1 id _ (IsSys.keep hr31 keq)).calls.mono ?_
                      rintro e w32 ⟨_, rfl, hb32, u, rfl, hu32⟩
                      rw [ht]
                      obtain ⟨fa, fc, rfl, f8, fs⟩ := hu32.opened
                      generalize topF S1 (id : Int) = tf at *
                      have BT_32 : Box w32 (w2.heap.size) #[.slice r1 S1.M.W.length r2, .slice r3 S1.M.G.length r4, .bool S1.M.bad, .slice r5 S1.C.length r6, .slice r7 S1.L.length r8] 83 := (((((BT_31.setCell _).setCell _).setCell _).setCell _).setCell _).ext hb32
                      have BY_32 : Box w32 (w.heap.size + 1) #[.int .u8 y2, .int .u8 y3, .int .u8 y4, .int .u8 y5] 144 := (((((BY_31.setOther (by first | omega | (simp <;> omega)) _).setOther (by first | omega | (simp <;> omega)) _).setOther (by first | omega | (simp <;> omega)) _).setOther (by first | omega | (simp <;> omega)) _).setOther (by first | omega | (simp <;> omega)) _).ext hb32
                      clear cT_0 cT_1 cT_2 cT_3 cT_4 dT_0 dT_1 dT_2 dT_3 dT_4 zT cY_0 cY_1 cY_2 cY_3 dY_0 dY_1 dY_2 dY_3 zY
                      have s32 : w31.heap.size ≤ w32.heap.size := (by have h := hb32.size; first | omega | (simp at h; omega))
                      obtain ⟨cT_0, cT_1, cT_2, cT_3, cT_4, dT_0, dT_1, dT_2, dT_3, dT_4⟩ := cells5 BT_32
                      have zT : w2.heap.size < w32.heap.size := BT_32.lt
                      obtain ⟨cY_0, cY_1, cY_2, cY_3, dY_0, dY_1, dY_2, dY_3⟩ := cells4 BY_32
                      have zY : w.heap.size + 1 < w32.heap.size := BY_32.lt
                      go_wp2
                      go_roundw
                      case rel => exact ⟨true, j + 1, S1, rfl, by simp, by omega, ⟨_, _, _, _, _, (BT_32.alloc _), IsSys.keep hr31 keq, (BY_32.alloc _), exn⟩, hWK1.out, fun h => by cases h⟩
                      case measure => simp [intOf]; omega
                    · skip
                      obtain ⟨cT_0, cT_1, cT_2, cT_3, cT_4, dT_0, dT_1, dT_2, dT_3, dT_4⟩ := cells5 hbx
                      have zT : w2.heap.size < w30.heap.size := hbx.lt
                      obtain ⟨cY_0, cY_1, cY_2, cY_3, dY_0, dY_1, dY_2, dY_3⟩ := cells4 hb6
                      have zY : w.heap.size + 1 < w30.heap.size := hb6.lt
                      go_wp2_with (fail)
                      go_at_call 111
                      refine (step4_ (Bx no w2.heap.size (w2.heap.size + 1)) _ S id _ (hsys.ext exq) (fun b hb => (by have := hb.elim False.elim (fun q => q.2); omega)) ok.1 ok.2.1 ok.2.2.1 ok.2.2.2).calls.mono ?_
                      rintro e w31 ⟨_, rfl, hb31, hr31⟩
                      rw [hS1h.out] at hr31
                      obtain ⟨r1, r2, r3, r4, r5, r6, r7, r8, rfl, _⟩ := hr31.opened
                      have BT_31 : Box w31 (w2.heap.size) #[v0, v1, v2, v3, v4] 83 := hbx.ext hb31
                      have BY_31 : Box w31 (w.heap.size + 1) #[.int .u8 y2, .int .u8 y3, .int .u8 y4, .int .u8 y5] 144 := hb6.ext hb31
                      clear cT_0 cT_1 cT_2 cT_3 cT_4 dT_0 dT_1 dT_2 dT_3 dT_4 zT cY_0 cY_1 cY_2 cY_3 dY_0 dY_1 dY_2 dY_3 zY
                      have s31 : w30.heap.size ≤ w31.heap.size := (by have h := hb31.size; first | omega | (simp at h; omega))
                      obtain ⟨cT_0, cT_1, cT_2, cT_3, cT_4, dT_0, dT_1, dT_2, dT_3, dT_4⟩ := cells5 BT_31
                      have zT : w2.heap.size < w31.heap.size := BT_31.lt
                      obtain ⟨cY_0, cY_1, cY_2, cY_3, dY_0, dY_1, dY_2, dY_3⟩ := cells4 BY_31
                      have zY : w.heap.size + 1 < w31.heap.size := BY_31.lt
                      go_wp2_with (fail)
                      go_at_call 82
                      refine (refTop_ (Bx no w2.heap.size (w2.heap.size + 1)) _ S1 id _ (IsSys.keep hr31 keq)).calls.mono ?_
                      rintro e w32 ⟨_, rfl, hb32, u, rfl, hu32⟩
                      rw [ht]
                      obtain ⟨fa, fc, rfl, f8, fs⟩ := hu32.opened
                      generalize topF S1 (id : Int) = tf at *
                      have BT_32 : Box w32 (w2.heap.size) #[.slice r1 S1.M.W.length r2, .slice r3 S1.M.G.length r4, .bool S1.M.bad, .slice r5 S1.C.length r6, .slice r7 S1.L.length r8] 83 := (((((BT_31.setCell _).setCell _).setCell _).setCell _).setCell _).ext hb32
                      have BY_32 : Box w32 (w.heap.size + 1) #[.int .u8 y2, .int .u8 y3, .int .u8 y4, .int .u8 y5] 144 := (((((BY_31.setOther (by first | omega | (simp <;> omega)) _).setOther (by first | omega | (simp <;> omega)) _).setOther (by first | omega | (simp <;> omega)) _).setOther (by first | omega | (simp <;> omega)) _).setOther (by first | omega | (simp <;> omega)) _).ext hb32
                      clear cT_0 cT_1 cT_2 cT_3 cT_4 dT_0 dT_1 dT_2 dT_3 dT_4 zT cY_0 cY_1 cY_2 cY_3 dY_0 dY_1 dY_2 dY_3 zY
                      have s32 : w31.heap.size ≤ w32.heap.size := (by have h := hb32.size; first | omega | (simp at h; omega))
                      obtain ⟨cT_0, cT_1, cT_2, cT_3, cT_4, dT_0, dT_1, dT_2, dT_3, dT_4⟩ := cells5 BT_32
                      have zT : w2.heap.size < w32.heap.size := BT_32.lt
                      obtain ⟨cY_0, cY_1, cY_2, cY_3, dY_0, dY_1, dY_2, dY_3⟩ := cells4 BY_32
                      have zY : w.heap.size + 1 < w32.heap.size := BY_32.lt
                      go_wp2
                      go_roundw
                      case rel => exact ⟨false, j + 1, S1, rfl, by simp, by omega, ⟨_, _, _, _, _, (BT_32.alloc _), IsSys.keep hr31 keq, (BY_32.alloc _), exn⟩, hWK1.out, fun _ => free_step (m := k - (j + 1)) (by have := hFO.out (by simp); rwa [show k - j = k - (j + 1) + 1 by omega] at this) (by rw [hIDh.out]; rfl) hS1h.out ht⟩
                      case measure => simp [intOf]; omega
                  · skip
                    obtain ⟨cT_0, cT_1, cT_2, cT_3, cT_4, dT_0, dT_1, dT_2, dT_3, dT_4⟩ := cells5 hbx
                    have zT : w2.heap.size < w30.heap.size := hbx.lt
                    obtain ⟨cY_0, cY_1, cY_2, cY_3, dY_0, dY_1, dY_2, dY_3⟩ := cells4 hb6
                    have zY : w.heap.size + 1 < w30.heap.size := hb6.lt
                    go_wp2
                    go_roundw
                    case rel => exact ⟨true, q + 1, S, rfl, by simp, by omega, ⟨_, _, _, _, _, hbx, hsys, hb6, exq⟩, hWK.out.mono (by omega), fun h => by cases h⟩
                    case measure => simp [intOf]; omega
                · have hjk : j = k := by omega
                  subst hjk
                  have q3 : ¬ (j : Int) < (j : Int) := by omega
                  obtain ⟨cT_0, cT_1, cT_2, cT_3, cT_4, dT_0, dT_1, dT_2, dT_3, dT_4⟩ := cells5 hbx
                  have zT : w2.heap.size < w30.heap.size := hbx.lt
                  obtain ⟨cY_0, cY_1, cY_2, cY_3, dY_0, dY_1, dY_2, dY_3⟩ := cells4 hb6
                  have zY : w.heap.size + 1 < w30.heap.size := hb6.lt
                  go_wp2
                  go_roundw
                  case rel => exact ⟨b, q + 1, S, rfl, by simp, by omega, ⟨_, _, _, _, _, hbx, hsys, hb6, exq⟩, hWK.out.mono (by omega), fun h => by rw [hGT.out]; have := hFO.out h; rw [Nat.sub_self] at this; exact free_zero this⟩
                  case measure => simp [intOf]; omega
            · skip
              obtain ⟨cT_0, cT_1, cT_2, cT_3, cT_4, dT_0, dT_1, dT_2, dT_3, dT_4⟩ := cells5 hbx
              have zT : w2.heap.size < w20.heap.size := hbx.lt
              obtain ⟨cY_0, cY_1, cY_2, cY_3, dY_0, dY_1, dY_2, dY_3⟩ := cells4 hb6
              have zY : w.heap.size + 1 < w20.heap.size := hb6.lt
              go_wp2
              go_ret
              exact ⟨_, rfl, exn, rfl⟩
          · obtain rfl : q = 4 := by omega
            have q2 : ¬ ((4 : Nat) : Int) < 4 := by decide
            obtain rfl : b = true := by
              cases b
              · have := hFO.out (by simp); cases this
              · rfl
            obtain ⟨cT_0, cT_1, cT_2, cT_3, cT_4, dT_0, dT_1, dT_2, dT_3, dT_4⟩ := cells5 hbx
            have zT : w2.heap.size < w20.heap.size := hbx.lt
            obtain ⟨cY_0, cY_1, cY_2, cY_3, dY_0, dY_1, dY_2, dY_3⟩ := cells4 hb6
            have zY : w.heap.size + 1 < w20.heap.size := hb6.lt
            go_wp2
            go_ret
            exact ⟨_, rfl, exn, rfl⟩
  · have q0 : (200 : Int) < (l.length : Int) := by omega
    clear hl
    go_enter Proofs.Try.func32, Proofs.Try.ntmps32
    go_wp2_with (fail)
    go_at_call 104
    refine (shown4_ _).calls.mono ?_
    rintro e w1 ⟨_, rfl, hb1, rfl⟩
    have B0_1 : Box w1 (w.heap.size) #[.int .u8 y0, .int .u8 y1, .slice pa l.length pcap, .int .u8 y2, .int .u8 y3, .int .u8 y4, .int .u8 y5] 146 := ((Box.newAt _ _ _ (by first | rfl | simp)).alloc _).ext hb1
    have B1_1 : Box w1 (w.heap.size + 1) #[.int .u8 y2, .int .u8 y3, .int .u8 y4, .int .u8 y5] 144 := (Box.newAt _ _ _ (by first | rfl | simp)).ext hb1
    have s1 : w.heap.size + 2 ≤ w1.heap.size := (by have h := hb1.size; first | omega | (simp at h; omega))
    obtain ⟨c0_0, c0_1, c0_2, c0_3, c0_4, c0_5, c0_6, d0_0, d0_1, d0_2, d0_3, d0_4, d0_5, d0_6⟩ := cells7 B0_1
    have z0 : w.heap.size < w1.heap.size := B0_1.lt
    obtain ⟨c1_0, c1_1, c1_2, c1_3, d1_0, d1_1, d1_2, d1_3⟩ := cells4 B1_1
    have z1 : w.heap.size + 1 < w1.heap.size := B1_1.lt
    go_wp2
    go_ret
    exact ⟨_, rfl, exn, rfl⟩
end Go.Proofs.Ytcfbdfgondmkoaa
