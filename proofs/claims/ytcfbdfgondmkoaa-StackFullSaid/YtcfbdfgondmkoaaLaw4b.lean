/- StackFull: its walk. -/
import Derived.Test.YtcfbdfgondmkoaaM7
namespace Go.Proofs.Ytcfbdfgondmkoaa
open Go Go.RowKit
set_option linter.unusedSimpArgs false
set_option linter.unusedVariables false
set_option linter.unnecessarySimpa false

set_option maxHeartbeats 8000000 in
set_option maxRecDepth 100000 in
theorem stackFull_ (y0 y1 y2 : Int) (sv : Value) (l : List Int) (w : World) (hp : IsNums .u16 w sv l) (lo0 : 0 ≤ y0) (hi0 : y0 ≤ 255) (lo1 : 0 ≤ y1) (hi1 : y1 ≤ 255) (lo2 : 0 ≤ y2) (hi2 : y2 ≤ 255) :
    Gives Proofs.Try.prog 31 #[.agg #[.int .u8 y0, .int .u8 y1, sv, .int .u8 y2]] w (eqv (.bool true)) := by
  obtain ⟨pa, pcap, rfl⟩ := hp.shape
  have hpx := Lib.hid hp
  clear hp
  by_cases hl : l.length ≤ 200
  · have q0 : ¬ (200 : Int) < (l.length : Int) := by omega
    obtain ⟨c, hc⟩ : ∃ c : Nat, (c : Int) = 1 + y0 % 8 := ⟨(1 + y0 % 8).toNat, by omega⟩
    obtain ⟨n, hn⟩ : ∃ n : Nat, (n : Int) = 1 + y1 % 6 := ⟨(1 + y1 % 6).toNat, by omega⟩
    have c1 : 1 ≤ c := by omega
    have c8 : c ≤ 8 := by omega
    have n1 : 1 ≤ n := by omega
    have n200 : n ≤ 200 := by omega
    have ez0 : 1 + y0 % 8 = (c : Int) := hc.symm
    have ez1 : 1 + y1 % 6 = (n : Int) := hn.symm
    clear hc hn
    have F1 := Lib.hid (fun w' hp => play_ c n l (.slice pa l.length pcap) w' c1 c8 n1 n200 (by omega) hp)
    have PI := play_inv c1 c8 n1 n200 l (by omega)
    generalize playD c n l = st at F1 PI
    obtain ⟨s, own⟩ := st
    obtain ⟨T, L, hT, I, hLl, _⟩ := PI
    have I : Inv c n T s own [] L := I
    have hLl : s.L.length ≤ 200 := Nat.le_trans hLl (by omega)
    have hT9 : T < 1000000 := by omega
    have KI := Lib.hid I
    have KlW := Lib.hid I.lW; have KlG := Lib.hid I.lG; have Kok := Lib.hid I.ok; have KlC := Lib.hid I.lc
    have hC5 : s.C.length ≤ 100000 := by rw [I.lc]; omega
    clear I
    obtain ⟨i, hi⟩ : ∃ i : Nat, (i : Int) = y2 % (c : Int) := ⟨(y2 % (c : Int)).toNat, by have := Int.emod_nonneg y2 (show (c : Int) ≠ 0 by omega); omega⟩
    have hic : i < c := by have := Int.emod_lt_of_pos y2 (show (0 : Int) < c by omega); omega
    have ezi : y2 % (c : Int) = (i : Int) := hi.symm
    have hc0 : ¬ (c : Int) = 0 := by omega
    have hiZ : (i : Int) < (c : Int) := by omega
    clear hi
    obtain ⟨cc, hcc, hcase⟩ := top_facts KI.out hic
    rcases hcase with ⟨ht, htN, htF, hF⟩ | ⟨f, ht, htF, hF, hok⟩
    · obtain ⟨cc1, k1, k2, I1, eM, eL⟩ := full_call KI.out hic hcc hF
      have KF := Lib.hid htF
      clear htN htF hcc hF
      obtain ⟨S1, hS1⟩ : ∃ S, callS s i 1 [0, 0, 0] = S := ⟨_, rfl⟩
      rw [hS1] at k1 I1 eM eL
      obtain ⟨c2, m1, m2, m3⟩ := full_end I1 hic k1 k2 hT9 rfl rfl
      have ok := (I1.wk (k := 200) (Nat.le_trans hT (by omega)) (by rw [eL]; omega)).ok (by omega) (by omega)
      have KlW1 := Lib.hid I1.lW; have KlG1 := Lib.hid I1.lG; have Kok1 := Lib.hid I1.ok; have KlC1 := Lib.hid I1.lc
      have KS1 := Lib.hid hS1
      clear hS1 k1 k2 I1 eM eL KI
      obtain ⟨S2, hS2⟩ : ∃ S, step4 S1 (i : Nat) = S := ⟨_, rfl⟩
      rw [hS2] at m1 m2 m3
      have KS2 := Lib.hid hS2; have KE1 := Lib.hid m1; have KlC2 := Lib.hid m2
      clear hS2 m1 m2
      rcases m3 with ⟨k, b, d, e⟩ | ⟨k, b⟩
      · have KK := Lib.hid k; have KFL := Lib.hid b; have KEE := Lib.hid d
        have hLL : ((S2.L.length : Nat) : Int) = ((S1.L.length : Nat) : Int) + 1 := by omega
        clear k b d e
        go_enter Proofs.Try.func31, Proofs.Try.ntmps31
        go_wp2_with (fail)
        go_at_call 104
        refine (shown4_ _).calls.mono ?_
        rintro e w1 ⟨_, rfl, hb1, rfl⟩
        have B0_1 : Box w1 (w.heap.size) #[.int .u8 y0, .int .u8 y1, .slice pa l.length pcap, .int .u8 y2] 142 := (Box.newAt _ _ _ (by first | rfl | simp)).ext hb1
        have s1 : w.heap.size + 1 ≤ w1.heap.size := (by have h := hb1.size; first | omega | (simp at h; omega))
        obtain ⟨c0_0, c0_1, c0_2, c0_3, d0_0, d0_1, d0_2, d0_3⟩ := cells4 B0_1
        have z0 : w.heap.size < w1.heap.size := B0_1.lt
        go_wp2_with (fail)
        go_at_call 113
        refine (F1.out _ (hpx.out.ext exq)).calls.mono ?_
        rintro e w2 ⟨_, rfl, hb2, RB, u, vs, rfl, hps, hpr⟩
        obtain ⟨p1, p2, p3, p4, p5, p6, p7, p8, rfl, pW, pG, pC, pL⟩ := hps.lit KlW.out KlG.out Kok.out KlC.out rfl
        have B0_2 : Box w2 (w.heap.size) #[.int .u8 y0, .int .u8 y1, .slice pa l.length pcap, .int .u8 y2] 142 := B0_1.ext hb2
        clear c0_0 c0_1 c0_2 c0_3 d0_0 d0_1 d0_2 d0_3 z0
        have s2 : w1.heap.size ≤ w2.heap.size := (by have h := hb2.size; first | omega | (simp at h; omega))
        obtain ⟨c0_0, c0_1, c0_2, c0_3, d0_0, d0_1, d0_2, d0_3⟩ := cells4 B0_2
        have z0 : w.heap.size < w2.heap.size := B0_2.lt
        go_wp2_with (fail)
        go_at_call 82
        refine (refTop_ no _ s i _ (hps.ext exq)).calls.mono ?_
        rintro e w3 ⟨_, rfl, hb3, u, rfl, hu3⟩
        rw [ht]
        rw [KF.out] at hu3
        obtain ⟨fa, fc, rfl, fs⟩ := (show IsFrame no _ _ ⟨0, 0, [0, 0, 0, 0, 0, 0, 0, 0], []⟩ from hu3).litv
        have B0_3 : Box w3 (w.heap.size) #[.int .u8 y0, .int .u8 y1, .slice pa l.length pcap, .int .u8 y2] 142 := (B0_2.alloc _).ext hb3
        have B1_3 : Box w3 (w2.heap.size) #[.slice p1 (128 + 4 * n) p2, .slice p3 (n + 1) p4, .bool false, .slice p5 c p6, .slice p7 s.L.length p8] 83 := (Box.newAt _ _ _ (by first | rfl | simp)).ext hb3
        clear c0_0 c0_1 c0_2 c0_3 d0_0 d0_1 d0_2 d0_3 z0
        have s3 : w2.heap.size + 1 ≤ w3.heap.size := (by have h := hb3.size; first | omega | (simp at h; omega))
        obtain ⟨c0_0, c0_1, c0_2, c0_3, d0_0, d0_1, d0_2, d0_3⟩ := cells4 B0_3
        have z0 : w.heap.size < w3.heap.size := B0_3.lt
        obtain ⟨c1_0, c1_1, c1_2, c1_3, c1_4, d1_0, d1_1, d1_2, d1_3, d1_4⟩ := cells5 B1_3
        have z1 : w2.heap.size < w3.heap.size := B1_3.lt
        go_wp2_with (fail)
        go_at_call 88
        refine (refCall_ (Bx no w2.heap.size (w3.heap.size + 1)) _ s i 1 0 0 0 _ ((IsSys.bxn hps).ext exq) (fun b hb => (by have := hb.elim False.elim (fun q => q.2); (try simp); omega)) hC5).calls.mono ?_
        rintro e w4 ⟨_, rfl, hb4, hq4⟩
        rw [KS1.out] at hq4
        obtain ⟨g1, g2, g3, g4, g5, g6, g7, g8, rfl, gW, gG, gC, gL⟩ := hq4.lit KlW1.out KlG1.out Kok1.out KlC1.out rfl
        have B0_4 : Box w4 (w.heap.size) #[.int .u8 y0, .int .u8 y1, .slice pa l.length pcap, .int .u8 y2] 142 := (B0_3.alloc _).ext hb4
        have B1_4 : Box w4 (w2.heap.size) #[.slice p1 (128 + 4 * n) p2, .slice p3 (n + 1) p4, .bool false, .slice p5 c p6, .slice p7 s.L.length p8] 83 := (B1_3.alloc _).ext hb4
        have B2_4 : Box w4 (w3.heap.size) #[.int .i64 0, .int .i64 0, .int .i64 0, .int .i64 0, .int .i64 0, .int .i64 0, .int .i64 0, .int .i64 0, .int .i64 0, .int .i64 0, .slice fa 0 fc] 95 := (Box.newAt _ _ _ (by first | rfl | simp)).ext hb4
        clear c0_0 c0_1 c0_2 c0_3 d0_0 d0_1 d0_2 d0_3 z0 c1_0 c1_1 c1_2 c1_3 c1_4 d1_0 d1_1 d1_2 d1_3 d1_4 z1
        have s4 : w3.heap.size + 1 ≤ w4.heap.size := (by have h := hb4.size; first | omega | (simp at h; omega))
        obtain ⟨c0_0, c0_1, c0_2, c0_3, d0_0, d0_1, d0_2, d0_3⟩ := cells4 B0_4
        have z0 : w.heap.size < w4.heap.size := B0_4.lt
        obtain ⟨c1_0, c1_1, c1_2, c1_3, c1_4, d1_0, d1_1, d1_2, d1_3, d1_4⟩ := cells5 B1_4
        have z1 : w2.heap.size < w4.heap.size := B1_4.lt
        obtain ⟨⟨c2_0, c2_1, c2_2, c2_3, c2_4, c2_5, c2_6, c2_7, c2_8, c2_9, c2_10⟩, d2_0, d2_1, d2_2, d2_3, d2_4, d2_5, d2_6, d2_7, d2_8, d2_9, d2_10⟩ := cells11 B2_4
        have z2 : w3.heap.size < w4.heap.size := B2_4.lt
        go_wp2_with (fail)
        go_at_call 111
        refine (step4_ no _ S1 i _ ((hq4.keep keq).less (fun _ _ h => h.elim)) no_lt ok.1 ok.2.1 ok.2.2.1 ok.2.2.2).calls.mono ?_
        rintro e w5 ⟨_, rfl, hb5, hr5⟩
        rw [KS2.out] at hr5
        obtain ⟨r1, r2, r3, r4, r5, r6, r7, r8, rfl, rW, rG, rC, rL⟩ := hr5.lit rfl rfl rfl KlC2.out rfl
        obtain ⟨bb, ob, af, cf, ar, cr, rfl, zx, zn, _, _, _, e0, e1, e2, _⟩ := IsCores.at rC KE1.out
        rw [KFL.out] at e0
        rw [KEE.out] at e2
        have B0_5 : Box w5 (w.heap.size) #[.int .u8 y0, .int .u8 y1, .slice pa l.length pcap, .int .u8 y2] 142 := ((((((B0_4.setOther (by first | omega | (simp <;> omega)) _).setOther (by first | omega | (simp <;> omega)) _).setOther (by first | omega | (simp <;> omega)) _).setOther (by first | omega | (simp <;> omega)) _).setOther (by first | omega | (simp <;> omega)) _).setOther (by first | omega | (simp <;> omega)) _).ext hb5
        have B1_5 : Box w5 (w2.heap.size) #[.slice g1 (128 + 4 * n) g2, .slice g3 (n + 1) g4, .bool false, .slice g5 c g6, .slice g7 S1.L.length g8] 83 := ((((((B1_4.setCell _).setCell _).setCell _).setCell _).setCell _).setOther (by first | omega | (simp <;> omega)) _).ext hb5
        have B2_5 : Box w5 (w3.heap.size) #[.int .i64 0, .int .i64 0, .int .i64 0, .int .i64 0, .int .i64 0, .int .i64 0, .int .i64 0, .int .i64 0, .int .i64 0, .int .i64 0, .slice fa 0 fc] 95 := ((((((B2_4.setOther (by first | omega | (simp <;> omega)) _).setOther (by first | omega | (simp <;> omega)) _).setOther (by first | omega | (simp <;> omega)) _).setOther (by first | omega | (simp <;> omega)) _).setOther (by first | omega | (simp <;> omega)) _).setCell _).ext hb5
        clear c0_0 c0_1 c0_2 c0_3 d0_0 d0_1 d0_2 d0_3 z0 c1_0 c1_1 c1_2 c1_3 c1_4 d1_0 d1_1 d1_2 d1_3 d1_4 z1 c2_0 c2_1 c2_2 c2_3 c2_4 c2_5 c2_6 c2_7 c2_8 c2_9 c2_10 d2_0 d2_1 d2_2 d2_3 d2_4 d2_5 d2_6 d2_7 d2_8 d2_9 d2_10 z2
        have s5 : w4.heap.size ≤ w5.heap.size := (by have h := hb5.size; first | omega | (simp at h; omega))
        obtain ⟨c0_0, c0_1, c0_2, c0_3, d0_0, d0_1, d0_2, d0_3⟩ := cells4 B0_5
        have z0 : w.heap.size < w5.heap.size := B0_5.lt
        obtain ⟨c1_0, c1_1, c1_2, c1_3, c1_4, d1_0, d1_1, d1_2, d1_3, d1_4⟩ := cells5 B1_5
        have z1 : w2.heap.size < w5.heap.size := B1_5.lt
        obtain ⟨⟨c2_0, c2_1, c2_2, c2_3, c2_4, c2_5, c2_6, c2_7, c2_8, c2_9, c2_10⟩, d2_0, d2_1, d2_2, d2_3, d2_4, d2_5, d2_6, d2_7, d2_8, d2_9, d2_10⟩ := cells11 B2_5
        have z2 : w3.heap.size < w5.heap.size := B2_5.lt
        go_wp2_with (fail)
        go_at_call 62
        refine (refCount_ no _ S1.M 0 _ (IsMem.mk (m := S1.M) Kok1.out.symm ((IsInts.keep gW keq).less (fun _ _ h => h.elim)) ((IsInts.keep gG keq).less (fun _ _ h => h.elim))) (by rw [KlG1.out]; omega)).calls.mono ?_
        rintro e w6 ⟨_, rfl, hb6, rfl⟩
        rw [KK.out]
        have e0 := cell_ext e0 (show Ext _ w6 from exq)
        have e2 := cell_ext e2 (show Ext _ w6 from exq)
        have B0_6 : Box w6 (w.heap.size) #[.int .u8 y0, .int .u8 y1, .slice pa l.length pcap, .int .u8 y2] 142 := (B0_5.alloc _).ext hb6
        have B1_6 : Box w6 (w2.heap.size) #[.slice g1 (128 + 4 * n) g2, .slice g3 (n + 1) g4, .bool false, .slice g5 c g6, .slice g7 S1.L.length g8] 83 := (B1_5.alloc _).ext hb6
        have B2_6 : Box w6 (w3.heap.size) #[.int .i64 0, .int .i64 0, .int .i64 0, .int .i64 0, .int .i64 0, .int .i64 0, .int .i64 0, .int .i64 0, .int .i64 0, .int .i64 0, .slice fa 0 fc] 95 := (B2_5.alloc _).ext hb6
        have B3_6 : Box w6 (w5.heap.size) #[.slice r1 S2.M.W.length r2, .slice r3 S2.M.G.length r4, .bool S2.M.bad, .slice (some ⟨bb, ob, none⟩) c r6, .slice r7 S2.L.length r8] 83 := (Box.newAt _ _ _ (by first | rfl | simp)).ext hb6
        clear c0_0 c0_1 c0_2 c0_3 d0_0 d0_1 d0_2 d0_3 z0 c1_0 c1_1 c1_2 c1_3 c1_4 d1_0 d1_1 d1_2 d1_3 d1_4 z1 c2_0 c2_1 c2_2 c2_3 c2_4 c2_5 c2_6 c2_7 c2_8 c2_9 c2_10 d2_0 d2_1 d2_2 d2_3 d2_4 d2_5 d2_6 d2_7 d2_8 d2_9 d2_10 z2
        have s6 : w5.heap.size + 1 ≤ w6.heap.size := (by have h := hb6.size; first | omega | (simp at h; omega))
        obtain ⟨c0_0, c0_1, c0_2, c0_3, d0_0, d0_1, d0_2, d0_3⟩ := cells4 B0_6
        have z0 : w.heap.size < w6.heap.size := B0_6.lt
        obtain ⟨c1_0, c1_1, c1_2, c1_3, c1_4, d1_0, d1_1, d1_2, d1_3, d1_4⟩ := cells5 B1_6
        have z1 : w2.heap.size < w6.heap.size := B1_6.lt
        obtain ⟨⟨c2_0, c2_1, c2_2, c2_3, c2_4, c2_5, c2_6, c2_7, c2_8, c2_9, c2_10⟩, d2_0, d2_1, d2_2, d2_3, d2_4, d2_5, d2_6, d2_7, d2_8, d2_9, d2_10⟩ := cells11 B2_6
        have z2 : w3.heap.size < w6.heap.size := B2_6.lt
        obtain ⟨c3_0, c3_1, c3_2, c3_3, c3_4, d3_0, d3_1, d3_2, d3_3, d3_4⟩ := cells5 B3_6
        have z3 : w5.heap.size < w6.heap.size := B3_6.lt
        go_wp2
        go_ret
        exact ⟨_, rfl, exn, rfl⟩
      · obtain ⟨K, hK⟩ : ∃ K, countD S1.M.G 1 0 = K := ⟨_, rfl⟩
        rw [hK] at k
        have KK := Lib.hid hK; have KFL := Lib.hid b
        have q3 : ¬ ((K : Nat) : Int) = 0 := by omega
        have q3b : (((K : Nat) : Int) == 0) = false := by simpa using q3
        clear hK k b
        go_enter Proofs.Try.func31, Proofs.Try.ntmps31
        go_wp2_with (fail)
        go_at_call 104
        refine (shown4_ _).calls.mono ?_
        rintro e w1 ⟨_, rfl, hb1, rfl⟩
        have B0_1 : Box w1 (w.heap.size) #[.int .u8 y0, .int .u8 y1, .slice pa l.length pcap, .int .u8 y2] 142 := (Box.newAt _ _ _ (by first | rfl | simp)).ext hb1
        have s1 : w.heap.size + 1 ≤ w1.heap.size := (by have h := hb1.size; first | omega | (simp at h; omega))
        obtain ⟨c0_0, c0_1, c0_2, c0_3, d0_0, d0_1, d0_2, d0_3⟩ := cells4 B0_1
        have z0 : w.heap.size < w1.heap.size := B0_1.lt
        go_wp2_with (fail)
        go_at_call 113
        refine (F1.out _ (hpx.out.ext exq)).calls.mono ?_
        rintro e w2 ⟨_, rfl, hb2, RB, u, vs, rfl, hps, hpr⟩
        obtain ⟨p1, p2, p3, p4, p5, p6, p7, p8, rfl, pW, pG, pC, pL⟩ := hps.lit KlW.out KlG.out Kok.out KlC.out rfl
        have B0_2 : Box w2 (w.heap.size) #[.int .u8 y0, .int .u8 y1, .slice pa l.length pcap, .int .u8 y2] 142 := B0_1.ext hb2
        clear c0_0 c0_1 c0_2 c0_3 d0_0 d0_1 d0_2 d0_3 z0
        have s2 : w1.heap.size ≤ w2.heap.size := (by have h := hb2.size; first | omega | (simp at h; omega))
        obtain ⟨c0_0, c0_1, c0_2, c0_3, d0_0, d0_1, d0_2, d0_3⟩ := cells4 B0_2
        have z0 : w.heap.size < w2.heap.size := B0_2.lt
        go_wp2_with (fail)
        go_at_call 82
        refine (refTop_ no _ s i _ (hps.ext exq)).calls.mono ?_
        rintro e w3 ⟨_, rfl, hb3, u, rfl, hu3⟩
        rw [ht]
        rw [KF.out] at hu3
        obtain ⟨fa, fc, rfl, fs⟩ := (show IsFrame no _ _ ⟨0, 0, [0, 0, 0, 0, 0, 0, 0, 0], []⟩ from hu3).litv
        have B0_3 : Box w3 (w.heap.size) #[.int .u8 y0, .int .u8 y1, .slice pa l.length pcap, .int .u8 y2] 142 := (B0_2.alloc _).ext hb3
        have B1_3 : Box w3 (w2.heap.size) #[.slice p1 (128 + 4 * n) p2, .slice p3 (n + 1) p4, .bool false, .slice p5 c p6, .slice p7 s.L.length p8] 83 := (Box.newAt _ _ _ (by first | rfl | simp)).ext hb3
        clear c0_0 c0_1 c0_2 c0_3 d0_0 d0_1 d0_2 d0_3 z0
        have s3 : w2.heap.size + 1 ≤ w3.heap.size := (by have h := hb3.size; first | omega | (simp at h; omega))
        obtain ⟨c0_0, c0_1, c0_2, c0_3, d0_0, d0_1, d0_2, d0_3⟩ := cells4 B0_3
        have z0 : w.heap.size < w3.heap.size := B0_3.lt
        obtain ⟨c1_0, c1_1, c1_2, c1_3, c1_4, d1_0, d1_1, d1_2, d1_3, d1_4⟩ := cells5 B1_3
        have z1 : w2.heap.size < w3.heap.size := B1_3.lt
        go_wp2_with (fail)
        go_at_call 88
        refine (refCall_ (Bx no w2.heap.size (w3.heap.size + 1)) _ s i 1 0 0 0 _ ((IsSys.bxn hps).ext exq) (fun b hb => (by have := hb.elim False.elim (fun q => q.2); (try simp); omega)) hC5).calls.mono ?_
        rintro e w4 ⟨_, rfl, hb4, hq4⟩
        rw [KS1.out] at hq4
        obtain ⟨g1, g2, g3, g4, g5, g6, g7, g8, rfl, gW, gG, gC, gL⟩ := hq4.lit KlW1.out KlG1.out Kok1.out KlC1.out rfl
        have B0_4 : Box w4 (w.heap.size) #[.int .u8 y0, .int .u8 y1, .slice pa l.length pcap, .int .u8 y2] 142 := (B0_3.alloc _).ext hb4
        have B1_4 : Box w4 (w2.heap.size) #[.slice p1 (128 + 4 * n) p2, .slice p3 (n + 1) p4, .bool false, .slice p5 c p6, .slice p7 s.L.length p8] 83 := (B1_3.alloc _).ext hb4
        have B2_4 : Box w4 (w3.heap.size) #[.int .i64 0, .int .i64 0, .int .i64 0, .int .i64 0, .int .i64 0, .int .i64 0, .int .i64 0, .int .i64 0, .int .i64 0, .int .i64 0, .slice fa 0 fc] 95 := (Box.newAt _ _ _ (by first | rfl | simp)).ext hb4
        clear c0_0 c0_1 c0_2 c0_3 d0_0 d0_1 d0_2 d0_3 z0 c1_0 c1_1 c1_2 c1_3 c1_4 d1_0 d1_1 d1_2 d1_3 d1_4 z1
        have s4 : w3.heap.size + 1 ≤ w4.heap.size := (by have h := hb4.size; first | omega | (simp at h; omega))
        obtain ⟨c0_0, c0_1, c0_2, c0_3, d0_0, d0_1, d0_2, d0_3⟩ := cells4 B0_4
        have z0 : w.heap.size < w4.heap.size := B0_4.lt
        obtain ⟨c1_0, c1_1, c1_2, c1_3, c1_4, d1_0, d1_1, d1_2, d1_3, d1_4⟩ := cells5 B1_4
        have z1 : w2.heap.size < w4.heap.size := B1_4.lt
        obtain ⟨⟨c2_0, c2_1, c2_2, c2_3, c2_4, c2_5, c2_6, c2_7, c2_8, c2_9, c2_10⟩, d2_0, d2_1, d2_2, d2_3, d2_4, d2_5, d2_6, d2_7, d2_8, d2_9, d2_10⟩ := cells11 B2_4
        have z2 : w3.heap.size < w4.heap.size := B2_4.lt
        go_wp2_with (fail)
        go_at_call 111
        refine (step4_ no _ S1 i _ ((hq4.keep keq).less (fun _ _ h => h.elim)) no_lt ok.1 ok.2.1 ok.2.2.1 ok.2.2.2).calls.mono ?_
        rintro e w5 ⟨_, rfl, hb5, hr5⟩
        rw [KS2.out] at hr5
        obtain ⟨r1, r2, r3, r4, r5, r6, r7, r8, rfl, rW, rG, rC, rL⟩ := hr5.lit rfl rfl rfl KlC2.out rfl
        obtain ⟨bb, ob, af, cf, ar, cr, rfl, zx, zn, _, _, _, e0, e1, e2, _⟩ := IsCores.at rC KE1.out
        rw [KFL.out] at e0
        clear e1
        have B0_5 : Box w5 (w.heap.size) #[.int .u8 y0, .int .u8 y1, .slice pa l.length pcap, .int .u8 y2] 142 := ((((((B0_4.setOther (by first | omega | (simp <;> omega)) _).setOther (by first | omega | (simp <;> omega)) _).setOther (by first | omega | (simp <;> omega)) _).setOther (by first | omega | (simp <;> omega)) _).setOther (by first | omega | (simp <;> omega)) _).setOther (by first | omega | (simp <;> omega)) _).ext hb5
        have B1_5 : Box w5 (w2.heap.size) #[.slice g1 (128 + 4 * n) g2, .slice g3 (n + 1) g4, .bool false, .slice g5 c g6, .slice g7 S1.L.length g8] 83 := ((((((B1_4.setCell _).setCell _).setCell _).setCell _).setCell _).setOther (by first | omega | (simp <;> omega)) _).ext hb5
        have B2_5 : Box w5 (w3.heap.size) #[.int .i64 0, .int .i64 0, .int .i64 0, .int .i64 0, .int .i64 0, .int .i64 0, .int .i64 0, .int .i64 0, .int .i64 0, .int .i64 0, .slice fa 0 fc] 95 := ((((((B2_4.setOther (by first | omega | (simp <;> omega)) _).setOther (by first | omega | (simp <;> omega)) _).setOther (by first | omega | (simp <;> omega)) _).setOther (by first | omega | (simp <;> omega)) _).setOther (by first | omega | (simp <;> omega)) _).setCell _).ext hb5
        clear c0_0 c0_1 c0_2 c0_3 d0_0 d0_1 d0_2 d0_3 z0 c1_0 c1_1 c1_2 c1_3 c1_4 d1_0 d1_1 d1_2 d1_3 d1_4 z1 c2_0 c2_1 c2_2 c2_3 c2_4 c2_5 c2_6 c2_7 c2_8 c2_9 c2_10 d2_0 d2_1 d2_2 d2_3 d2_4 d2_5 d2_6 d2_7 d2_8 d2_9 d2_10 z2
        have s5 : w4.heap.size ≤ w5.heap.size := (by have h := hb5.size; first | omega | (simp at h; omega))
        obtain ⟨c0_0, c0_1, c0_2, c0_3, d0_0, d0_1, d0_2, d0_3⟩ := cells4 B0_5
        have z0 : w.heap.size < w5.heap.size := B0_5.lt
        obtain ⟨c1_0, c1_1, c1_2, c1_3, c1_4, d1_0, d1_1, d1_2, d1_3, d1_4⟩ := cells5 B1_5
        have z1 : w2.heap.size < w5.heap.size := B1_5.lt
        obtain ⟨⟨c2_0, c2_1, c2_2, c2_3, c2_4, c2_5, c2_6, c2_7, c2_8, c2_9, c2_10⟩, d2_0, d2_1, d2_2, d2_3, d2_4, d2_5, d2_6, d2_7, d2_8, d2_9, d2_10⟩ := cells11 B2_5
        have z2 : w3.heap.size < w5.heap.size := B2_5.lt
        go_wp2_with (fail)
        go_at_call 62
        refine (refCount_ no _ S1.M 0 _ (IsMem.mk (m := S1.M) Kok1.out.symm ((IsInts.keep gW keq).less (fun _ _ h => h.elim)) ((IsInts.keep gG keq).less (fun _ _ h => h.elim))) (by rw [KlG1.out]; omega)).calls.mono ?_
        rintro e w6 ⟨_, rfl, hb6, rfl⟩
        rw [KK.out]
        have e0 := cell_ext e0 (show Ext _ w6 from exq)
        have e2 := cell_ext e2 (show Ext _ w6 from exq)
        have B0_6 : Box w6 (w.heap.size) #[.int .u8 y0, .int .u8 y1, .slice pa l.length pcap, .int .u8 y2] 142 := (B0_5.alloc _).ext hb6
        have B1_6 : Box w6 (w2.heap.size) #[.slice g1 (128 + 4 * n) g2, .slice g3 (n + 1) g4, .bool false, .slice g5 c g6, .slice g7 S1.L.length g8] 83 := (B1_5.alloc _).ext hb6
        have B2_6 : Box w6 (w3.heap.size) #[.int .i64 0, .int .i64 0, .int .i64 0, .int .i64 0, .int .i64 0, .int .i64 0, .int .i64 0, .int .i64 0, .int .i64 0, .int .i64 0, .slice fa 0 fc] 95 := (B2_5.alloc _).ext hb6
        have B3_6 : Box w6 (w5.heap.size) #[.slice r1 S2.M.W.length r2, .slice r3 S2.M.G.length r4, .bool S2.M.bad, .slice (some ⟨bb, ob, none⟩) c r6, .slice r7 S2.L.length r8] 83 := (Box.newAt _ _ _ (by first | rfl | simp)).ext hb6
        clear c0_0 c0_1 c0_2 c0_3 d0_0 d0_1 d0_2 d0_3 z0 c1_0 c1_1 c1_2 c1_3 c1_4 d1_0 d1_1 d1_2 d1_3 d1_4 z1 c2_0 c2_1 c2_2 c2_3 c2_4 c2_5 c2_6 c2_7 c2_8 c2_9 c2_10 d2_0 d2_1 d2_2 d2_3 d2_4 d2_5 d2_6 d2_7 d2_8 d2_9 d2_10 z2
        have s6 : w5.heap.size + 1 ≤ w6.heap.size := (by have h := hb6.size; first | omega | (simp at h; omega))
        obtain ⟨c0_0, c0_1, c0_2, c0_3, d0_0, d0_1, d0_2, d0_3⟩ := cells4 B0_6
        have z0 : w.heap.size < w6.heap.size := B0_6.lt
        obtain ⟨c1_0, c1_1, c1_2, c1_3, c1_4, d1_0, d1_1, d1_2, d1_3, d1_4⟩ := cells5 B1_6
        have z1 : w2.heap.size < w6.heap.size := B1_6.lt
        obtain ⟨⟨c2_0, c2_1, c2_2, c2_3, c2_4, c2_5, c2_6, c2_7, c2_8, c2_9, c2_10⟩, d2_0, d2_1, d2_2, d2_3, d2_4, d2_5, d2_6, d2_7, d2_8, d2_9, d2_10⟩ := cells11 B2_6
        have z2 : w3.heap.size < w6.heap.size := B2_6.lt
        obtain ⟨c3_0, c3_1, c3_2, c3_3, c3_4, d3_0, d3_1, d3_2, d3_3, d3_4⟩ := cells5 B3_6
        have z3 : w5.heap.size < w6.heap.size := B3_6.lt
        go_wp2
        go_ret
        exact ⟨_, rfl, exn, rfl⟩
    · have KF := Lib.hid htF
      clear htF
      rcases hok with ⟨h8, ⟨hop, _⟩ | ⟨hop, _⟩⟩
      · have KOP := Lib.hid hop
        by_cases hpc : f.pc = 0
        · obtain ⟨c2, m1, m2, m3⟩ := full_end KI.out hic hcc hF hT9 hop hpc
          have ok := (KI.out.wk (k := 200) (Nat.le_trans hT (by omega)) (by omega)).ok (by omega) (by omega)
          have KlW1 := KlW; have KlG1 := KlG; have Kok1 := Kok; have KlC1 := KlC
          have KPC := Lib.hid hpc
          clear hcc hF KI h8 hop hpc
          obtain ⟨S2, hS2⟩ : ∃ S, step4 s (i : Nat) = S := ⟨_, rfl⟩
          rw [hS2] at m1 m2 m3
          have KS2 := Lib.hid hS2; have KE1 := Lib.hid m1; have KlC2 := Lib.hid m2
          clear hS2 m1 m2
          rcases m3 with ⟨k, b, d, e⟩ | ⟨k, b⟩
          · have KK := Lib.hid k; have KFL := Lib.hid b; have KEE := Lib.hid d
            have hLL : ((S2.L.length : Nat) : Int) = ((s.L.length : Nat) : Int) + 1 := by omega
            clear k b d e
            go_enter Proofs.Try.func31, Proofs.Try.ntmps31
            go_wp2_with (fail)
            go_at_call 104
            refine (shown4_ _).calls.mono ?_
            rintro e w1 ⟨_, rfl, hb1, rfl⟩
            have B0_1 : Box w1 (w.heap.size) #[.int .u8 y0, .int .u8 y1, .slice pa l.length pcap, .int .u8 y2] 142 := (Box.newAt _ _ _ (by first | rfl | simp)).ext hb1
            have s1 : w.heap.size + 1 ≤ w1.heap.size := (by have h := hb1.size; first | omega | (simp at h; omega))
            obtain ⟨c0_0, c0_1, c0_2, c0_3, d0_0, d0_1, d0_2, d0_3⟩ := cells4 B0_1
            have z0 : w.heap.size < w1.heap.size := B0_1.lt
            go_wp2_with (fail)
            go_at_call 113
            refine (F1.out _ (hpx.out.ext exq)).calls.mono ?_
            rintro e w2 ⟨_, rfl, hb2, RB, u, vs, rfl, hps, hpr⟩
            obtain ⟨p1, p2, p3, p4, p5, p6, p7, p8, rfl, pW, pG, pC, pL⟩ := hps.lit KlW.out KlG.out Kok.out KlC.out rfl
            have B0_2 : Box w2 (w.heap.size) #[.int .u8 y0, .int .u8 y1, .slice pa l.length pcap, .int .u8 y2] 142 := B0_1.ext hb2
            clear c0_0 c0_1 c0_2 c0_3 d0_0 d0_1 d0_2 d0_3 z0
            have s2 : w1.heap.size ≤ w2.heap.size := (by have h := hb2.size; first | omega | (simp at h; omega))
            obtain ⟨c0_0, c0_1, c0_2, c0_3, d0_0, d0_1, d0_2, d0_3⟩ := cells4 B0_2
            have z0 : w.heap.size < w2.heap.size := B0_2.lt
            go_wp2_with (fail)
            go_at_call 82
            refine (refTop_ no _ s i _ (hps.ext exq)).calls.mono ?_
            rintro e w3 ⟨_, rfl, hb3, u, rfl, hu3⟩
            rw [ht]
            rw [KF.out] at hu3
            obtain ⟨fa, fc, rfl, f8, fs⟩ := hu3.opened
            rw [KOP.out, KPC.out]
            have B0_3 : Box w3 (w.heap.size) #[.int .u8 y0, .int .u8 y1, .slice pa l.length pcap, .int .u8 y2] 142 := (B0_2.alloc _).ext hb3
            have B1_3 : Box w3 (w2.heap.size) #[.slice p1 (128 + 4 * n) p2, .slice p3 (n + 1) p4, .bool false, .slice p5 c p6, .slice p7 s.L.length p8] 83 := (Box.newAt _ _ _ (by first | rfl | simp)).ext hb3
            clear c0_0 c0_1 c0_2 c0_3 d0_0 d0_1 d0_2 d0_3 z0
            have s3 : w2.heap.size + 1 ≤ w3.heap.size := (by have h := hb3.size; first | omega | (simp at h; omega))
            obtain ⟨c0_0, c0_1, c0_2, c0_3, d0_0, d0_1, d0_2, d0_3⟩ := cells4 B0_3
            have z0 : w.heap.size < w3.heap.size := B0_3.lt
            obtain ⟨c1_0, c1_1, c1_2, c1_3, c1_4, d1_0, d1_1, d1_2, d1_3, d1_4⟩ := cells5 B1_3
            have z1 : w2.heap.size < w3.heap.size := B1_3.lt
            go_wp2_with (fail)
            go_at_call 111
            refine (step4_ no _ s i _ (hps.ext exq) no_lt ok.1 ok.2.1 ok.2.2.1 ok.2.2.2).calls.mono ?_
            rintro e w4 ⟨_, rfl, hb4, hr4⟩
            rw [KS2.out] at hr4
            obtain ⟨r1, r2, r3, r4, r5, r6, r7, r8, rfl, rW, rG, rC, rL⟩ := hr4.lit rfl rfl rfl KlC2.out rfl
            obtain ⟨bb, ob, af, cf, ar, cr, rfl, zx, zn, _, _, _, e0, e1, e2, _⟩ := IsCores.at rC KE1.out
            rw [KFL.out] at e0
            rw [KEE.out] at e2
            have B0_4 : Box w4 (w.heap.size) #[.int .u8 y0, .int .u8 y1, .slice pa l.length pcap, .int .u8 y2] 142 := (B0_3.alloc _).ext hb4
            have B1_4 : Box w4 (w2.heap.size) #[.slice p1 (128 + 4 * n) p2, .slice p3 (n + 1) p4, .bool false, .slice p5 c p6, .slice p7 s.L.length p8] 83 := (B1_3.alloc _).ext hb4
            have B2_4 : Box w4 (w3.heap.size) #[.int .i64 1, .int .i64 0, .int .i64 (gi f.R 0), .int .i64 (gi f.R 1), .int .i64 (gi f.R 2), .int .i64 (gi f.R 3), .int .i64 (gi f.R 4), .int .i64 (gi f.R 5), .int .i64 (gi f.R 6), .int .i64 (gi f.R 7), .slice fa f.S.length fc] 95 := (Box.newAt _ _ _ (by first | rfl | simp)).ext hb4
            clear c0_0 c0_1 c0_2 c0_3 d0_0 d0_1 d0_2 d0_3 z0 c1_0 c1_1 c1_2 c1_3 c1_4 d1_0 d1_1 d1_2 d1_3 d1_4 z1
            have s4 : w3.heap.size + 1 ≤ w4.heap.size := (by have h := hb4.size; first | omega | (simp at h; omega))
            obtain ⟨c0_0, c0_1, c0_2, c0_3, d0_0, d0_1, d0_2, d0_3⟩ := cells4 B0_4
            have z0 : w.heap.size < w4.heap.size := B0_4.lt
            obtain ⟨c1_0, c1_1, c1_2, c1_3, c1_4, d1_0, d1_1, d1_2, d1_3, d1_4⟩ := cells5 B1_4
            have z1 : w2.heap.size < w4.heap.size := B1_4.lt
            obtain ⟨⟨c2_0, c2_1, c2_2, c2_3, c2_4, c2_5, c2_6, c2_7, c2_8, c2_9, c2_10⟩, d2_0, d2_1, d2_2, d2_3, d2_4, d2_5, d2_6, d2_7, d2_8, d2_9, d2_10⟩ := cells11 B2_4
            have z2 : w3.heap.size < w4.heap.size := B2_4.lt
            go_wp2_with (fail)
            go_at_call 62
            refine (refCount_ no _ s.M 0 _ (IsMem.mk (m := s.M) Kok1.out.symm (IsInts.ext pW exq) (IsInts.ext pG exq)) (by rw [KlG1.out]; omega)).calls.mono ?_
            rintro e w5 ⟨_, rfl, hb5, rfl⟩
            rw [KK.out]
            have e0 := cell_ext e0 (show Ext _ w5 from exq)
            have e2 := cell_ext e2 (show Ext _ w5 from exq)
            have B0_5 : Box w5 (w.heap.size) #[.int .u8 y0, .int .u8 y1, .slice pa l.length pcap, .int .u8 y2] 142 := (B0_4.alloc _).ext hb5
            have B1_5 : Box w5 (w2.heap.size) #[.slice p1 (128 + 4 * n) p2, .slice p3 (n + 1) p4, .bool false, .slice p5 c p6, .slice p7 s.L.length p8] 83 := (B1_4.alloc _).ext hb5
            have B2_5 : Box w5 (w3.heap.size) #[.int .i64 1, .int .i64 0, .int .i64 (gi f.R 0), .int .i64 (gi f.R 1), .int .i64 (gi f.R 2), .int .i64 (gi f.R 3), .int .i64 (gi f.R 4), .int .i64 (gi f.R 5), .int .i64 (gi f.R 6), .int .i64 (gi f.R 7), .slice fa f.S.length fc] 95 := (B2_4.alloc _).ext hb5
            have B3_5 : Box w5 (w4.heap.size) #[.slice r1 S2.M.W.length r2, .slice r3 S2.M.G.length r4, .bool S2.M.bad, .slice (some ⟨bb, ob, none⟩) c r6, .slice r7 S2.L.length r8] 83 := (Box.newAt _ _ _ (by first | rfl | simp)).ext hb5
            clear c0_0 c0_1 c0_2 c0_3 d0_0 d0_1 d0_2 d0_3 z0 c1_0 c1_1 c1_2 c1_3 c1_4 d1_0 d1_1 d1_2 d1_3 d1_4 z1 c2_0 c2_1 c2_2 c2_3 c2_4 c2_5 c2_6 c2_7 c2_8 c2_9 c2_10 d2_0 d2_1 d2_2 d2_3 d2_4 d2_5 d2_6 d2_7 d2_8 d2_9 d2_10 z2
            have s5 : w4.heap.size + 1 ≤ w5.heap.size := (by have h := hb5.size; first | omega | (simp at h; omega))
            obtain ⟨c0_0, c0_1, c0_2, c0_3, d0_0, d0_1, d0_2, d0_3⟩ := cells4 B0_5
            have z0 : w.heap.size < w5.heap.size := B0_5.lt
            obtain ⟨c1_0, c1_1, c1_2, c1_3, c1_4, d1_0, d1_1, d1_2, d1_3, d1_4⟩ := cells5 B1_5
            have z1 : w2.heap.size < w5.heap.size := B1_5.lt
            obtain ⟨⟨c2_0, c2_1, c2_2, c2_3, c2_4, c2_5, c2_6, c2_7, c2_8, c2_9, c2_10⟩, d2_0, d2_1, d2_2, d2_3, d2_4, d2_5, d2_6, d2_7, d2_8, d2_9, d2_10⟩ := cells11 B2_5
            have z2 : w3.heap.size < w5.heap.size := B2_5.lt
            obtain ⟨c3_0, c3_1, c3_2, c3_3, c3_4, d3_0, d3_1, d3_2, d3_3, d3_4⟩ := cells5 B3_5
            have z3 : w4.heap.size < w5.heap.size := B3_5.lt
            go_wp2
            go_ret
            exact ⟨_, rfl, exn, rfl⟩
          · obtain ⟨K, hK⟩ : ∃ K, countD s.M.G 1 0 = K := ⟨_, rfl⟩
            rw [hK] at k
            have KK := Lib.hid hK; have KFL := Lib.hid b
            have q3 : ¬ ((K : Nat) : Int) = 0 := by omega
            have q3b : (((K : Nat) : Int) == 0) = false := by simpa using q3
            clear hK k b
            go_enter Proofs.Try.func31, Proofs.Try.ntmps31
            go_wp2_with (fail)
            go_at_call 104
            refine (shown4_ _).calls.mono ?_
            rintro e w1 ⟨_, rfl, hb1, rfl⟩
            have B0_1 : Box w1 (w.heap.size) #[.int .u8 y0, .int .u8 y1, .slice pa l.length pcap, .int .u8 y2] 142 := (Box.newAt _ _ _ (by first | rfl | simp)).ext hb1
            have s1 : w.heap.size + 1 ≤ w1.heap.size := (by have h := hb1.size; first | omega | (simp at h; omega))
            obtain ⟨c0_0, c0_1, c0_2, c0_3, d0_0, d0_1, d0_2, d0_3⟩ := cells4 B0_1
            have z0 : w.heap.size < w1.heap.size := B0_1.lt
            go_wp2_with (fail)
            go_at_call 113
            refine (F1.out _ (hpx.out.ext exq)).calls.mono ?_
            rintro e w2 ⟨_, rfl, hb2, RB, u, vs, rfl, hps, hpr⟩
            obtain ⟨p1, p2, p3, p4, p5, p6, p7, p8, rfl, pW, pG, pC, pL⟩ := hps.lit KlW.out KlG.out Kok.out KlC.out rfl
            have B0_2 : Box w2 (w.heap.size) #[.int .u8 y0, .int .u8 y1, .slice pa l.length pcap, .int .u8 y2] 142 := B0_1.ext hb2
            clear c0_0 c0_1 c0_2 c0_3 d0_0 d0_1 d0_2 d0_3 z0
            have s2 : w1.heap.size ≤ w2.heap.size := (by have h := hb2.size; first | omega | (simp at h; omega))
            obtain ⟨c0_0, c0_1, c0_2, c0_3, d0_0, d0_1, d0_2, d0_3⟩ := cells4 B0_2
            have z0 : w.heap.size < w2.heap.size := B0_2.lt
            go_wp2_with (fail)
            go_at_call 82
            refine (refTop_ no _ s i _ (hps.ext exq)).calls.mono ?_
            rintro e w3 ⟨_, rfl, hb3, u, rfl, hu3⟩
            rw [ht]
            rw [KF.out] at hu3
            obtain ⟨fa, fc, rfl, f8, fs⟩ := hu3.opened
            rw [KOP.out, KPC.out]
            have B0_3 : Box w3 (w.heap.size) #[.int .u8 y0, .int .u8 y1, .slice pa l.length pcap, .int .u8 y2] 142 := (B0_2.alloc _).ext hb3
            have B1_3 : Box w3 (w2.heap.size) #[.slice p1 (128 + 4 * n) p2, .slice p3 (n + 1) p4, .bool false, .slice p5 c p6, .slice p7 s.L.length p8] 83 := (Box.newAt _ _ _ (by first | rfl | simp)).ext hb3
            clear c0_0 c0_1 c0_2 c0_3 d0_0 d0_1 d0_2 d0_3 z0
            have s3 : w2.heap.size + 1 ≤ w3.heap.size := (by have h := hb3.size; first | omega | (simp at h; omega))
            obtain ⟨c0_0, c0_1, c0_2, c0_3, d0_0, d0_1, d0_2, d0_3⟩ := cells4 B0_3
            have z0 : w.heap.size < w3.heap.size := B0_3.lt
            obtain ⟨c1_0, c1_1, c1_2, c1_3, c1_4, d1_0, d1_1, d1_2, d1_3, d1_4⟩ := cells5 B1_3
            have z1 : w2.heap.size < w3.heap.size := B1_3.lt
            go_wp2_with (fail)
            go_at_call 111
            refine (step4_ no _ s i _ (hps.ext exq) no_lt ok.1 ok.2.1 ok.2.2.1 ok.2.2.2).calls.mono ?_
            rintro e w4 ⟨_, rfl, hb4, hr4⟩
            rw [KS2.out] at hr4
            obtain ⟨r1, r2, r3, r4, r5, r6, r7, r8, rfl, rW, rG, rC, rL⟩ := hr4.lit rfl rfl rfl KlC2.out rfl
            obtain ⟨bb, ob, af, cf, ar, cr, rfl, zx, zn, _, _, _, e0, e1, e2, _⟩ := IsCores.at rC KE1.out
            rw [KFL.out] at e0
            clear e1
            have B0_4 : Box w4 (w.heap.size) #[.int .u8 y0, .int .u8 y1, .slice pa l.length pcap, .int .u8 y2] 142 := (B0_3.alloc _).ext hb4
            have B1_4 : Box w4 (w2.heap.size) #[.slice p1 (128 + 4 * n) p2, .slice p3 (n + 1) p4, .bool false, .slice p5 c p6, .slice p7 s.L.length p8] 83 := (B1_3.alloc _).ext hb4
            have B2_4 : Box w4 (w3.heap.size) #[.int .i64 1, .int .i64 0, .int .i64 (gi f.R 0), .int .i64 (gi f.R 1), .int .i64 (gi f.R 2), .int .i64 (gi f.R 3), .int .i64 (gi f.R 4), .int .i64 (gi f.R 5), .int .i64 (gi f.R 6), .int .i64 (gi f.R 7), .slice fa f.S.length fc] 95 := (Box.newAt _ _ _ (by first | rfl | simp)).ext hb4
            clear c0_0 c0_1 c0_2 c0_3 d0_0 d0_1 d0_2 d0_3 z0 c1_0 c1_1 c1_2 c1_3 c1_4 d1_0 d1_1 d1_2 d1_3 d1_4 z1
            have s4 : w3.heap.size + 1 ≤ w4.heap.size := (by have h := hb4.size; first | omega | (simp at h; omega))
            obtain ⟨c0_0, c0_1, c0_2, c0_3, d0_0, d0_1, d0_2, d0_3⟩ := cells4 B0_4
            have z0 : w.heap.size < w4.heap.size := B0_4.lt
            obtain ⟨c1_0, c1_1, c1_2, c1_3, c1_4, d1_0, d1_1, d1_2, d1_3, d1_4⟩ := cells5 B1_4
            have z1 : w2.heap.size < w4.heap.size := B1_4.lt
            obtain ⟨⟨c2_0, c2_1, c2_2, c2_3, c2_4, c2_5, c2_6, c2_7, c2_8, c2_9, c2_10⟩, d2_0, d2_1, d2_2, d2_3, d2_4, d2_5, d2_6, d2_7, d2_8, d2_9, d2_10⟩ := cells11 B2_4
            have z2 : w3.heap.size < w4.heap.size := B2_4.lt
            go_wp2_with (fail)
            go_at_call 62
            refine (refCount_ no _ s.M 0 _ (IsMem.mk (m := s.M) Kok1.out.symm (IsInts.ext pW exq) (IsInts.ext pG exq)) (by rw [KlG1.out]; omega)).calls.mono ?_
            rintro e w5 ⟨_, rfl, hb5, rfl⟩
            rw [KK.out]
            have e0 := cell_ext e0 (show Ext _ w5 from exq)
            have e2 := cell_ext e2 (show Ext _ w5 from exq)
            have B0_5 : Box w5 (w.heap.size) #[.int .u8 y0, .int .u8 y1, .slice pa l.length pcap, .int .u8 y2] 142 := (B0_4.alloc _).ext hb5
            have B1_5 : Box w5 (w2.heap.size) #[.slice p1 (128 + 4 * n) p2, .slice p3 (n + 1) p4, .bool false, .slice p5 c p6, .slice p7 s.L.length p8] 83 := (B1_4.alloc _).ext hb5
            have B2_5 : Box w5 (w3.heap.size) #[.int .i64 1, .int .i64 0, .int .i64 (gi f.R 0), .int .i64 (gi f.R 1), .int .i64 (gi f.R 2), .int .i64 (gi f.R 3), .int .i64 (gi f.R 4), .int .i64 (gi f.R 5), .int .i64 (gi f.R 6), .int .i64 (gi f.R 7), .slice fa f.S.length fc] 95 := (B2_4.alloc _).ext hb5
            have B3_5 : Box w5 (w4.heap.size) #[.slice r1 S2.M.W.length r2, .slice r3 S2.M.G.length r4, .bool S2.M.bad, .slice (some ⟨bb, ob, none⟩) c r6, .slice r7 S2.L.length r8] 83 := (Box.newAt _ _ _ (by first | rfl | simp)).ext hb5
            clear c0_0 c0_1 c0_2 c0_3 d0_0 d0_1 d0_2 d0_3 z0 c1_0 c1_1 c1_2 c1_3 c1_4 d1_0 d1_1 d1_2 d1_3 d1_4 z1 c2_0 c2_1 c2_2 c2_3 c2_4 c2_5 c2_6 c2_7 c2_8 c2_9 c2_10 d2_0 d2_1 d2_2 d2_3 d2_4 d2_5 d2_6 d2_7 d2_8 d2_9 d2_10 z2
            have s5 : w4.heap.size + 1 ≤ w5.heap.size := (by have h := hb5.size; first | omega | (simp at h; omega))
            obtain ⟨c0_0, c0_1, c0_2, c0_3, d0_0, d0_1, d0_2, d0_3⟩ := cells4 B0_5
            have z0 : w.heap.size < w5.heap.size := B0_5.lt
            obtain ⟨c1_0, c1_1, c1_2, c1_3, c1_4, d1_0, d1_1, d1_2, d1_3, d1_4⟩ := cells5 B1_5
            have z1 : w2.heap.size < w5.heap.size := B1_5.lt
            obtain ⟨⟨c2_0, c2_1, c2_2, c2_3, c2_4, c2_5, c2_6, c2_7, c2_8, c2_9, c2_10⟩, d2_0, d2_1, d2_2, d2_3, d2_4, d2_5, d2_6, d2_7, d2_8, d2_9, d2_10⟩ := cells11 B2_5
            have z2 : w3.heap.size < w5.heap.size := B2_5.lt
            obtain ⟨c3_0, c3_1, c3_2, c3_3, c3_4, d3_0, d3_1, d3_2, d3_3, d3_4⟩ := cells5 B3_5
            have z3 : w4.heap.size < w5.heap.size := B3_5.lt
            go_wp2
            go_ret
            exact ⟨_, rfl, exn, rfl⟩
        · have ok := (KI.out.wk (k := 200) (Nat.le_trans hT (by omega)) (by omega)).ok (by omega) (by omega)
          have q2 : (f.pc == 0) = false := by simpa using hpc
          have q2b : (f.pc != 0) = true := by simpa using hpc
          obtain ⟨c2, m1, m2, _⟩ := tag_end KI.out hcc hF hT9
          clear hcc hF KI h8 m1 hop
          obtain ⟨S2, hS2⟩ : ∃ S, step4 s (i : Nat) = S := ⟨_, rfl⟩
          rw [hS2] at m2
          have KS2 := Lib.hid hS2; have KlC2 := Lib.hid m2
          clear hS2 m2
          go_enter Proofs.Try.func31, Proofs.Try.ntmps31
          go_wp2_with (fail)
          go_at_call 104
          refine (shown4_ _).calls.mono ?_
          rintro e w1 ⟨_, rfl, hb1, rfl⟩
          have B0_1 : Box w1 (w.heap.size) #[.int .u8 y0, .int .u8 y1, .slice pa l.length pcap, .int .u8 y2] 142 := (Box.newAt _ _ _ (by first | rfl | simp)).ext hb1
          have s1 : w.heap.size + 1 ≤ w1.heap.size := (by have h := hb1.size; first | omega | (simp at h; omega))
          obtain ⟨c0_0, c0_1, c0_2, c0_3, d0_0, d0_1, d0_2, d0_3⟩ := cells4 B0_1
          have z0 : w.heap.size < w1.heap.size := B0_1.lt
          go_wp2_with (fail)
          go_at_call 113
          refine (F1.out _ (hpx.out.ext exq)).calls.mono ?_
          rintro e w2 ⟨_, rfl, hb2, RB, u, vs, rfl, hps, hpr⟩
          obtain ⟨p1, p2, p3, p4, p5, p6, p7, p8, rfl, pW, pG, pC, pL⟩ := hps.lit KlW.out KlG.out Kok.out KlC.out rfl
          have B0_2 : Box w2 (w.heap.size) #[.int .u8 y0, .int .u8 y1, .slice pa l.length pcap, .int .u8 y2] 142 := B0_1.ext hb2
          clear c0_0 c0_1 c0_2 c0_3 d0_0 d0_1 d0_2 d0_3 z0
          have s2 : w1.heap.size ≤ w2.heap.size := (by have h := hb2.size; first | omega | (simp at h; omega))
          obtain ⟨c0_0, c0_1, c0_2, c0_3, d0_0, d0_1, d0_2, d0_3⟩ := cells4 B0_2
          have z0 : w.heap.size < w2.heap.size := B0_2.lt
          go_wp2_with (fail)
          go_at_call 82
          refine (refTop_ no _ s i _ (hps.ext exq)).calls.mono ?_
          rintro e w3 ⟨_, rfl, hb3, u, rfl, hu3⟩
          rw [ht]
          rw [KF.out] at hu3
          obtain ⟨fa, fc, rfl, f8, fs⟩ := hu3.opened
          rw [KOP.out]
          have B0_3 : Box w3 (w.heap.size) #[.int .u8 y0, .int .u8 y1, .slice pa l.length pcap, .int .u8 y2] 142 := (B0_2.alloc _).ext hb3
          have B1_3 : Box w3 (w2.heap.size) #[.slice p1 (128 + 4 * n) p2, .slice p3 (n + 1) p4, .bool false, .slice p5 c p6, .slice p7 s.L.length p8] 83 := (Box.newAt _ _ _ (by first | rfl | simp)).ext hb3
          clear c0_0 c0_1 c0_2 c0_3 d0_0 d0_1 d0_2 d0_3 z0
          have s3 : w2.heap.size + 1 ≤ w3.heap.size := (by have h := hb3.size; first | omega | (simp at h; omega))
          obtain ⟨c0_0, c0_1, c0_2, c0_3, d0_0, d0_1, d0_2, d0_3⟩ := cells4 B0_3
          have z0 : w.heap.size < w3.heap.size := B0_3.lt
          obtain ⟨c1_0, c1_1, c1_2, c1_3, c1_4, d1_0, d1_1, d1_2, d1_3, d1_4⟩ := cells5 B1_3
          have z1 : w2.heap.size < w3.heap.size := B1_3.lt
          go_wp2_with (fail)
          go_at_call 111
          refine (step4_ no _ s i _ (hps.ext exq) no_lt ok.1 ok.2.1 ok.2.2.1 ok.2.2.2).calls.mono ?_
          rintro e w4 ⟨_, rfl, hb4, hr4⟩
          rw [KS2.out] at hr4
          obtain ⟨r1, r2, r3, r4, r5, r6, r7, r8, rfl, rW, rG, rC, rL⟩ := hr4.lit rfl rfl rfl KlC2.out rfl
          have B0_4 : Box w4 (w.heap.size) #[.int .u8 y0, .int .u8 y1, .slice pa l.length pcap, .int .u8 y2] 142 := (B0_3.alloc _).ext hb4
          have B1_4 : Box w4 (w2.heap.size) #[.slice p1 (128 + 4 * n) p2, .slice p3 (n + 1) p4, .bool false, .slice p5 c p6, .slice p7 s.L.length p8] 83 := (B1_3.alloc _).ext hb4
          have B2_4 : Box w4 (w3.heap.size) #[.int .i64 1, .int .i64 f.pc, .int .i64 (gi f.R 0), .int .i64 (gi f.R 1), .int .i64 (gi f.R 2), .int .i64 (gi f.R 3), .int .i64 (gi f.R 4), .int .i64 (gi f.R 5), .int .i64 (gi f.R 6), .int .i64 (gi f.R 7), .slice fa f.S.length fc] 95 := (Box.newAt _ _ _ (by first | rfl | simp)).ext hb4
          clear c0_0 c0_1 c0_2 c0_3 d0_0 d0_1 d0_2 d0_3 z0 c1_0 c1_1 c1_2 c1_3 c1_4 d1_0 d1_1 d1_2 d1_3 d1_4 z1
          have s4 : w3.heap.size + 1 ≤ w4.heap.size := (by have h := hb4.size; first | omega | (simp at h; omega))
          obtain ⟨c0_0, c0_1, c0_2, c0_3, d0_0, d0_1, d0_2, d0_3⟩ := cells4 B0_4
          have z0 : w.heap.size < w4.heap.size := B0_4.lt
          obtain ⟨c1_0, c1_1, c1_2, c1_3, c1_4, d1_0, d1_1, d1_2, d1_3, d1_4⟩ := cells5 B1_4
          have z1 : w2.heap.size < w4.heap.size := B1_4.lt
          obtain ⟨⟨c2_0, c2_1, c2_2, c2_3, c2_4, c2_5, c2_6, c2_7, c2_8, c2_9, c2_10⟩, d2_0, d2_1, d2_2, d2_3, d2_4, d2_5, d2_6, d2_7, d2_8, d2_9, d2_10⟩ := cells11 B2_4
          have z2 : w3.heap.size < w4.heap.size := B2_4.lt
          go_wp2
          go_ret
          exact ⟨_, rfl, exn, rfl⟩
      · have KOP := Lib.hid hop
        clear hcc hF KI h8 hop
        go_enter Proofs.Try.func31, Proofs.Try.ntmps31
        go_wp2_with (fail)
        go_at_call 104
        refine (shown4_ _).calls.mono ?_
        rintro e w1 ⟨_, rfl, hb1, rfl⟩
        have B0_1 : Box w1 (w.heap.size) #[.int .u8 y0, .int .u8 y1, .slice pa l.length pcap, .int .u8 y2] 142 := (Box.newAt _ _ _ (by first | rfl | simp)).ext hb1
        have s1 : w.heap.size + 1 ≤ w1.heap.size := (by have h := hb1.size; first | omega | (simp at h; omega))
        obtain ⟨c0_0, c0_1, c0_2, c0_3, d0_0, d0_1, d0_2, d0_3⟩ := cells4 B0_1
        have z0 : w.heap.size < w1.heap.size := B0_1.lt
        go_wp2_with (fail)
        go_at_call 113
        refine (F1.out _ (hpx.out.ext exq)).calls.mono ?_
        rintro e w2 ⟨_, rfl, hb2, RB, u, vs, rfl, hps, hpr⟩
        obtain ⟨p1, p2, p3, p4, p5, p6, p7, p8, rfl, pW, pG, pC, pL⟩ := hps.lit KlW.out KlG.out Kok.out KlC.out rfl
        have B0_2 : Box w2 (w.heap.size) #[.int .u8 y0, .int .u8 y1, .slice pa l.length pcap, .int .u8 y2] 142 := B0_1.ext hb2
        clear c0_0 c0_1 c0_2 c0_3 d0_0 d0_1 d0_2 d0_3 z0
        have s2 : w1.heap.size ≤ w2.heap.size := (by have h := hb2.size; first | omega | (simp at h; omega))
        obtain ⟨c0_0, c0_1, c0_2, c0_3, d0_0, d0_1, d0_2, d0_3⟩ := cells4 B0_2
        have z0 : w.heap.size < w2.heap.size := B0_2.lt
        go_wp2_with (fail)
        go_at_call 82
        refine (refTop_ no _ s i _ (hps.ext exq)).calls.mono ?_
        rintro e w3 ⟨_, rfl, hb3, u, rfl, hu3⟩
        rw [ht]
        rw [KF.out] at hu3
        obtain ⟨fa, fc, rfl, f8, fs⟩ := hu3.opened
        rw [KOP.out]
        have B0_3 : Box w3 (w.heap.size) #[.int .u8 y0, .int .u8 y1, .slice pa l.length pcap, .int .u8 y2] 142 := (B0_2.alloc _).ext hb3
        have B1_3 : Box w3 (w2.heap.size) #[.slice p1 (128 + 4 * n) p2, .slice p3 (n + 1) p4, .bool false, .slice p5 c p6, .slice p7 s.L.length p8] 83 := (Box.newAt _ _ _ (by first | rfl | simp)).ext hb3
        clear c0_0 c0_1 c0_2 c0_3 d0_0 d0_1 d0_2 d0_3 z0
        have s3 : w2.heap.size + 1 ≤ w3.heap.size := (by have h := hb3.size; first | omega | (simp at h; omega))
        obtain ⟨c0_0, c0_1, c0_2, c0_3, d0_0, d0_1, d0_2, d0_3⟩ := cells4 B0_3
        have z0 : w.heap.size < w3.heap.size := B0_3.lt
        obtain ⟨c1_0, c1_1, c1_2, c1_3, c1_4, d1_0, d1_1, d1_2, d1_3, d1_4⟩ := cells5 B1_3
        have z1 : w2.heap.size < w3.heap.size := B1_3.lt
        go_wp2
        go_ret
        exact ⟨_, rfl, exn, rfl⟩
  · have q0 : (200 : Int) < (l.length : Int) := by omega
    clear hl
    go_enter Proofs.Try.func31, Proofs.Try.ntmps31
    go_wp2_with (fail)
    go_at_call 104
    refine (shown4_ _).calls.mono ?_
    rintro e w1 ⟨_, rfl, hb1, rfl⟩
    have B0_1 : Box w1 (w.heap.size) #[.int .u8 y0, .int .u8 y1, .slice pa l.length pcap, .int .u8 y2] 142 := (Box.newAt _ _ _ (by first | rfl | simp)).ext hb1
    have s1 : w.heap.size + 1 ≤ w1.heap.size := (by have h := hb1.size; first | omega | (simp at h; omega))
    obtain ⟨c0_0, c0_1, c0_2, c0_3, d0_0, d0_1, d0_2, d0_3⟩ := cells4 B0_1
    have z0 : w.heap.size < w1.heap.size := B0_1.lt
    go_wp2
    go_ret
    exact ⟨_, rfl, exn, rfl⟩
end Go.Proofs.Ytcfbdfgondmkoaa
