/- StackTags: its walk. -/
import Derived.Test.YtcfbdfgondmkoaaM7
namespace Go.Proofs.Ytcfbdfgondmkoaa
open Go Go.RowKit
set_option linter.unusedSimpArgs false
set_option linter.unusedVariables false
set_option linter.unnecessarySimpa false

theorem IsInts.opened0 {N : Nat → Prop} {w : World} {a : Option Addr} {n cap : Nat} {l : List Int} (h : IsInts N w (.slice a n cap) l) (hn : l.length = n) (h0 : 0 < n) : ∃ b o, a = some ⟨b, o, none⟩ ∧ b < w.heap.size ∧ ¬ N b ∧ w.cell? ⟨b, o, none⟩ = some (.int .i64 (gi l 0)) := by
  obtain ⟨a', c', e, _, _, h3⟩ := h.opened
  cases e
  obtain ⟨b, o, rfl, hb, hn', hc⟩ := h3 0 (by omega)
  exact ⟨b, o, rfl, hb, hn', hc⟩
theorem sameF_refl (f : FrameD) : sameF f f = true := by simp [sameF, eq8]
theorem sameC_refl (c : CoreD) : sameC c c = true := by simp [sameC, eq3, all2_refl sameF_refl]
theorem sameE_refl (e : EvD) : sameE e e = true := by simp [sameE]
theorem sameS_refl (s : SysD) : sameS s s = true := by simp [sameS, sameD_refl, all2_refl sameC_refl, all2_refl sameE_refl]
set_option maxHeartbeats 8000000 in
set_option maxRecDepth 100000 in
theorem stackTags_ (y0 y1 y2 : Int) (sv : Value) (l : List Int) (w : World) (hp : IsNums .u16 w sv l) (lo0 : 0 ≤ y0) (hi0 : y0 ≤ 255) (lo1 : 0 ≤ y1) (hi1 : y1 ≤ 255) (lo2 : 0 ≤ y2) (hi2 : y2 ≤ 255) :
    Gives Proofs.Try.prog 35 #[.agg #[.int .u8 y0, .int .u8 y1, sv, .int .u8 y2]] w (eqv (.bool true)) := by
  obtain ⟨pa, pcap, rfl⟩ := hp.shape
  have hpx := Lib.hid hp
  clear hp
  by_cases hl : l.length ≤ 200
  · have q0 : ¬ (200 : Int) < (l.length : Int) := by omega
    obtain ⟨c, hc⟩ : ∃ c : Nat, (c : Int) = 1 + y0 % 8 := ⟨(1 + y0 % 8).toNat, by omega⟩
    obtain ⟨n, hn⟩ : ∃ n : Nat, (n : Int) = 1 + y1 % 12 := ⟨(1 + y1 % 12).toNat, by omega⟩
    have c1 : 1 ≤ c := by omega
    have c8 : c ≤ 8 := by omega
    have n1 : 1 ≤ n := by omega
    have n200 : n ≤ 200 := by omega
    have ez0 : 1 + y0 % 8 = (c : Int) := hc.symm
    have ez1 : 1 + y1 % 12 = (n : Int) := hn.symm
    clear hc hn
    have F1 := Lib.hid (fun w' hp => play_ c n l (.slice pa l.length pcap) w' c1 c8 n1 n200 (by omega) hp)
    have PI := play_inv c1 c8 n1 n200 l (by omega)
    generalize playD c n l = st at F1 PI
    obtain ⟨s, own⟩ := st
    obtain ⟨T, L, hT, I, hLl, _⟩ := PI
    have I : Inv c n T s own [] L := I
    have hLl : s.L.length ≤ 200 := Nat.le_trans hLl (by omega)
    have hT9 : T < 1000000 := by omega
    have KI := Lib.hid I
    have KlW := Lib.hid I.lW; have KlG := Lib.hid I.lG; have Kok := Lib.hid I.ok; have KlC := Lib.hid I.lc
    have hC5 : s.C.length ≤ 100000 := by rw [I.lc]; omega
    clear I
    obtain ⟨i, hi⟩ : ∃ i : Nat, (i : Int) = y2 % (c : Int) := ⟨(y2 % (c : Int)).toNat, by have := Int.emod_nonneg y2 (show (c : Int) ≠ 0 by omega); omega⟩
    have hic : i < c := by have := Int.emod_lt_of_pos y2 (show (0 : Int) < c by omega); omega
    have ezi : y2 % (c : Int) = (i : Int) := hi.symm
    have hc0 : ¬ (c : Int) = 0 := by omega
    have hiZ : (i : Int) < (c : Int) := by omega
    clear hi
    have ok := (KI.out.wk (k := 200) (Nat.le_trans hT (by omega)) (by omega)).ok (by omega) (by omega)
    have fit := Lib.hid ok.2.2.1
    obtain ⟨cc, hcc, hcase⟩ := top_facts KI.out hic
    rcases hcase with ⟨ht, htN, htF, hF⟩ | ⟨f, ht, htF, hF, hok⟩
    · have hS2 : step4 s (i : Nat) = s := step4_idle htN
      have KS2 := Lib.hid hS2; have KlW2 := KlW; have KlC2 := KlC
      clear hS2 htN htF hcc hF KI
      go_enter Proofs.Try.func35, Proofs.Try.ntmps35
      go_wp2_with (fail)
      go_at_call 104
      refine (shown4_ _).calls.mono ?_
      rintro e w1 ⟨_, rfl, hb1, rfl⟩
      have B0_1 : Box w1 (w.heap.size) #[.int .u8 y0, .int .u8 y1, .slice pa l.length pcap, .int .u8 y2] 150 := (Box.newAt _ _ _ (by first | rfl | simp)).ext hb1
      have s1 : w.heap.size + 1 ≤ w1.heap.size := (by have h := hb1.size; first | omega | (simp at h; omega))
      obtain ⟨c0_0, c0_1, c0_2, c0_3, d0_0, d0_1, d0_2, d0_3⟩ := cells4 B0_1
      have z0 : w.heap.size < w1.heap.size := B0_1.lt
      go_wp2_with (fail)
      go_at_call 113
      refine (F1.out _ (hpx.out.ext exq)).calls.mono ?_
      rintro e w2 ⟨_, rfl, hb2, RB, u, vs, rfl, hps, hpr⟩
      obtain ⟨p1, p2, p3, p4, p5, p6, p7, p8, rfl, pW, pG, pC, pL⟩ := hps.lit KlW.out KlG.out Kok.out KlC.out rfl
      obtain ⟨ba, oa, rfl, xa, _, ea⟩ := pW.opened0 KlW.out (by omega)
      have B0_2 : Box w2 (w.heap.size) #[.int .u8 y0, .int .u8 y1, .slice pa l.length pcap, .int .u8 y2] 150 := B0_1.ext hb2
      clear c0_0 c0_1 c0_2 c0_3 d0_0 d0_1 d0_2 d0_3 z0
      have s2 : w1.heap.size ≤ w2.heap.size := (by have h := hb2.size; first | omega | (simp at h; omega))
      obtain ⟨c0_0, c0_1, c0_2, c0_3, d0_0, d0_1, d0_2, d0_3⟩ := cells4 B0_2
      have z0 : w.heap.size < w2.heap.size := B0_2.lt
      go_wp2_with (fail)
      go_at_call 82
      refine (refTop_ no _ s i _ (hps.ext exq)).calls.mono ?_
      rintro e w3 ⟨_, rfl, hb3, u, rfl, hu3⟩
      rw [ht]
      obtain ⟨fa, fc, rfl, f8, fs⟩ := hu3.opened
      generalize topF s (i : Int) = tf at *
      have B0_3 : Box w3 (w.heap.size) #[.int .u8 y0, .int .u8 y1, .slice pa l.length pcap, .int .u8 y2] 150 := (B0_2.alloc _).ext hb3
      have B1_3 : Box w3 (w2.heap.size) #[.slice (some ⟨ba, oa, none⟩) (128 + 4 * n) p2, .slice p3 (n + 1) p4, .bool false, .slice p5 c p6, .slice p7 s.L.length p8] 83 := (Box.newAt _ _ _ (by first | rfl | simp)).ext hb3
      clear c0_0 c0_1 c0_2 c0_3 d0_0 d0_1 d0_2 d0_3 z0
      have s3 : w2.heap.size + 1 ≤ w3.heap.size := (by have h := hb3.size; first | omega | (simp at h; omega))
      obtain ⟨c0_0, c0_1, c0_2, c0_3, d0_0, d0_1, d0_2, d0_3⟩ := cells4 B0_3
      have z0 : w.heap.size < w3.heap.size := B0_3.lt
      obtain ⟨c1_0, c1_1, c1_2, c1_3, c1_4, d1_0, d1_1, d1_2, d1_3, d1_4⟩ := cells5 B1_3
      have z1 : w2.heap.size < w3.heap.size := B1_3.lt
      go_wp2_with (fail)
      go_at_call 111
      refine (step4_ no _ s i _ (hps.ext exq) no_lt ok.1 ok.2.1 ok.2.2.1 ok.2.2.2).calls.mono ?_
      rintro e w4 ⟨_, rfl, hb4, hr4⟩
      rw [KS2.out] at hr4
      obtain ⟨r1, r2, r3, r4, r5, r6, r7, r8, rfl, rW, rG, rC, rL⟩ := hr4.lit KlW2.out rfl rfl KlC2.out rfl
      obtain ⟨bz, oz, rfl, xz, _, ez⟩ := rW.opened0 KlW2.out (by omega)
      have ea := cell_ext ea (show Ext _ w4 from exq)
      have xa4 : ba < w4.heap.size := World.block_lt_of_cell? _ _ ea
      have B0_4 : Box w4 (w.heap.size) #[.int .u8 y0, .int .u8 y1, .slice pa l.length pcap, .int .u8 y2] 150 := (B0_3.alloc _).ext hb4
      have B1_4 : Box w4 (w2.heap.size) #[.slice (some ⟨ba, oa, none⟩) (128 + 4 * n) p2, .slice p3 (n + 1) p4, .bool false, .slice p5 c p6, .slice p7 s.L.length p8] 83 := (B1_3.alloc _).ext hb4
      have B2_4 : Box w4 (w3.heap.size) #[.int .i64 tf.op, .int .i64 tf.pc, .int .i64 (gi tf.R 0), .int .i64 (gi tf.R 1), .int .i64 (gi tf.R 2), .int .i64 (gi tf.R 3), .int .i64 (gi tf.R 4), .int .i64 (gi tf.R 5), .int .i64 (gi tf.R 6), .int .i64 (gi tf.R 7), .slice fa tf.S.length fc] 95 := (Box.newAt _ _ _ (by first | rfl | simp)).ext hb4
      clear c0_0 c0_1 c0_2 c0_3 d0_0 d0_1 d0_2 d0_3 z0 c1_0 c1_1 c1_2 c1_3 c1_4 d1_0 d1_1 d1_2 d1_3 d1_4 z1
      have s4 : w3.heap.size + 1 ≤ w4.heap.size := (by have h := hb4.size; first | omega | (simp at h; omega))
      obtain ⟨c0_0, c0_1, c0_2, c0_3, d0_0, d0_1, d0_2, d0_3⟩ := cells4 B0_4
      have z0 : w.heap.size < w4.heap.size := B0_4.lt
      obtain ⟨c1_0, c1_1, c1_2, c1_3, c1_4, d1_0, d1_1, d1_2, d1_3, d1_4⟩ := cells5 B1_4
      have z1 : w2.heap.size < w4.heap.size := B1_4.lt
      obtain ⟨⟨c2_0, c2_1, c2_2, c2_3, c2_4, c2_5, c2_6, c2_7, c2_8, c2_9, c2_10⟩, d2_0, d2_1, d2_2, d2_3, d2_4, d2_5, d2_6, d2_7, d2_8, d2_9, d2_10⟩ := cells11 B2_4
      have z2 : w3.heap.size < w4.heap.size := B2_4.lt
      go_wp2_with (fail)
      go_at_call 78
      refine (refSys_ no _ _ s s _ (hps.ext exq) (hr4.ext exq)).calls.mono ?_
      rintro e w5 ⟨_, rfl, hb5, rfl⟩
      rw [sameS_refl]
      have B0_5 : Box w5 (w.heap.size) #[.int .u8 y0, .int .u8 y1, .slice pa l.length pcap, .int .u8 y2] 150 := (B0_4.alloc _).ext hb5
      have B1_5 : Box w5 (w2.heap.size) #[.slice (some ⟨ba, oa, none⟩) (128 + 4 * n) p2, .slice p3 (n + 1) p4, .bool false, .slice p5 c p6, .slice p7 s.L.length p8] 83 := (B1_4.alloc _).ext hb5
      have B2_5 : Box w5 (w3.heap.size) #[.int .i64 tf.op, .int .i64 tf.pc, .int .i64 (gi tf.R 0), .int .i64 (gi tf.R 1), .int .i64 (gi tf.R 2), .int .i64 (gi tf.R 3), .int .i64 (gi tf.R 4), .int .i64 (gi tf.R 5), .int .i64 (gi tf.R 6), .int .i64 (gi tf.R 7), .slice fa tf.S.length fc] 95 := (B2_4.alloc _).ext hb5
      have B3_5 : Box w5 (w4.heap.size) #[.slice (some ⟨bz, oz, none⟩) (128 + 4 * n) r2, .slice r3 s.M.G.length r4, .bool s.M.bad, .slice r5 c r6, .slice r7 s.L.length r8] 83 := (Box.newAt _ _ _ (by first | rfl | simp)).ext hb5
      clear c0_0 c0_1 c0_2 c0_3 d0_0 d0_1 d0_2 d0_3 z0 c1_0 c1_1 c1_2 c1_3 c1_4 d1_0 d1_1 d1_2 d1_3 d1_4 z1 c2_0 c2_1 c2_2 c2_3 c2_4 c2_5 c2_6 c2_7 c2_8 c2_9 c2_10 d2_0 d2_1 d2_2 d2_3 d2_4 d2_5 d2_6 d2_7 d2_8 d2_9 d2_10 z2
      have s5 : w4.heap.size + 1 ≤ w5.heap.size := (by have h := hb5.size; first | omega | (simp at h; omega))
      obtain ⟨c0_0, c0_1, c0_2, c0_3, d0_0, d0_1, d0_2, d0_3⟩ := cells4 B0_5
      have z0 : w.heap.size < w5.heap.size := B0_5.lt
      obtain ⟨c1_0, c1_1, c1_2, c1_3, c1_4, d1_0, d1_1, d1_2, d1_3, d1_4⟩ := cells5 B1_5
      have z1 : w2.heap.size < w5.heap.size := B1_5.lt
      obtain ⟨⟨c2_0, c2_1, c2_2, c2_3, c2_4, c2_5, c2_6, c2_7, c2_8, c2_9, c2_10⟩, d2_0, d2_1, d2_2, d2_3, d2_4, d2_5, d2_6, d2_7, d2_8, d2_9, d2_10⟩ := cells11 B2_5
      have z2 : w3.heap.size < w5.heap.size := B2_5.lt
      obtain ⟨c3_0, c3_1, c3_2, c3_3, c3_4, d3_0, d3_1, d3_2, d3_3, d3_4⟩ := cells5 B3_5
      have z3 : w4.heap.size < w5.heap.size := B3_5.lt
      go_wp2
      go_ret
      exact ⟨_, rfl, exn, rfl⟩
    · obtain ⟨c2, m1, m2, mw, m3⟩ := tag_end KI.out hcc hF hT9
      rw [KlW.out] at mw
      clear hcc hF KI hok htF
      obtain ⟨S2, hS2⟩ : ∃ S, step4 s (i : Nat) = S := ⟨_, rfl⟩
      rw [hS2] at m1 m2 m3 mw
      have KS2 := Lib.hid hS2; have KE1 := Lib.hid m1; have KlC2 := Lib.hid m2; have KlW2 := Lib.hid mw
      clear hS2 m1 m2 mw
      rcases m3 with ⟨k, b, d⟩ | ⟨k | ⟨k, b⟩, d⟩
      · have KFL := Lib.hid k; have KEE := Lib.hid b
        obtain ⟨t, hta⟩ : ∃ t, gi s.M.W 0 / 2097152 % 1099511627776 = t := ⟨_, rfl⟩
        have htb : gi S2.M.W 0 / 2097152 % 1099511627776 = t + 1 := by rw [← hta]; exact d
        have KTA := Lib.hid hta; have KTB := Lib.hid htb
        have tlo : 0 ≤ t := by rw [← hta]; omega
        have thi : t < 1099511627776 := by rw [← hta]; omega
        clear hta htb k b d
        go_enter Proofs.Try.func35, Proofs.Try.ntmps35
        go_wp2_with (fail)
        go_at_call 104
        refine (shown4_ _).calls.mono ?_
        rintro e w1 ⟨_, rfl, hb1, rfl⟩
        have B0_1 : Box w1 (w.heap.size) #[.int .u8 y0, .int .u8 y1, .slice pa l.length pcap, .int .u8 y2] 150 := (Box.newAt _ _ _ (by first | rfl | simp)).ext hb1
        have s1 : w.heap.size + 1 ≤ w1.heap.size := (by have h := hb1.size; first | omega | (simp at h; omega))
        obtain ⟨c0_0, c0_1, c0_2, c0_3, d0_0, d0_1, d0_2, d0_3⟩ := cells4 B0_1
        have z0 : w.heap.size < w1.heap.size := B0_1.lt
        go_wp2_with (fail)
        go_at_call 113
        refine (F1.out _ (hpx.out.ext exq)).calls.mono ?_
        rintro e w2 ⟨_, rfl, hb2, RB, u, vs, rfl, hps, hpr⟩
        obtain ⟨p1, p2, p3, p4, p5, p6, p7, p8, rfl, pW, pG, pC, pL⟩ := hps.lit KlW.out KlG.out Kok.out KlC.out rfl
        obtain ⟨ba, oa, rfl, xa, _, ea⟩ := pW.opened0 KlW.out (by omega)
        have B0_2 : Box w2 (w.heap.size) #[.int .u8 y0, .int .u8 y1, .slice pa l.length pcap, .int .u8 y2] 150 := B0_1.ext hb2
        clear c0_0 c0_1 c0_2 c0_3 d0_0 d0_1 d0_2 d0_3 z0
        have s2 : w1.heap.size ≤ w2.heap.size := (by have h := hb2.size; first | omega | (simp at h; omega))
        obtain ⟨c0_0, c0_1, c0_2, c0_3, d0_0, d0_1, d0_2, d0_3⟩ := cells4 B0_2
        have z0 : w.heap.size < w2.heap.size := B0_2.lt
        go_wp2_with (fail)
        go_at_call 82
        refine (refTop_ no _ s i _ (hps.ext exq)).calls.mono ?_
        rintro e w3 ⟨_, rfl, hb3, u, rfl, hu3⟩
        rw [ht]
        obtain ⟨fa, fc, rfl, f8, fs⟩ := hu3.opened
        generalize topF s (i : Int) = tf at *
        have B0_3 : Box w3 (w.heap.size) #[.int .u8 y0, .int .u8 y1, .slice pa l.length pcap, .int .u8 y2] 150 := (B0_2.alloc _).ext hb3
        have B1_3 : Box w3 (w2.heap.size) #[.slice (some ⟨ba, oa, none⟩) (128 + 4 * n) p2, .slice p3 (n + 1) p4, .bool false, .slice p5 c p6, .slice p7 s.L.length p8] 83 := (Box.newAt _ _ _ (by first | rfl | simp)).ext hb3
        clear c0_0 c0_1 c0_2 c0_3 d0_0 d0_1 d0_2 d0_3 z0
        have s3 : w2.heap.size + 1 ≤ w3.heap.size := (by have h := hb3.size; first | omega | (simp at h; omega))
        obtain ⟨c0_0, c0_1, c0_2, c0_3, d0_0, d0_1, d0_2, d0_3⟩ := cells4 B0_3
        have z0 : w.heap.size < w3.heap.size := B0_3.lt
        obtain ⟨c1_0, c1_1, c1_2, c1_3, c1_4, d1_0, d1_1, d1_2, d1_3, d1_4⟩ := cells5 B1_3
        have z1 : w2.heap.size < w3.heap.size := B1_3.lt
        go_wp2_with (fail)
        go_at_call 111
        refine (step4_ no _ s i _ (hps.ext exq) no_lt ok.1 ok.2.1 ok.2.2.1 ok.2.2.2).calls.mono ?_
        rintro e w4 ⟨_, rfl, hb4, hr4⟩
        rw [KS2.out] at hr4
        obtain ⟨r1, r2, r3, r4, r5, r6, r7, r8, rfl, rW, rG, rC, rL⟩ := hr4.lit KlW2.out rfl rfl KlC2.out rfl
        obtain ⟨bz, oz, rfl, xz, _, ez⟩ := rW.opened0 KlW2.out (by omega)
        have ea := cell_ext ea (show Ext _ w4 from exq)
        have xa4 : ba < w4.heap.size := World.block_lt_of_cell? _ _ ea
        obtain ⟨bb, ob, af, cf, ar, cr, rfl, zx, zn, _, _, _, e0, e1, e2, _⟩ := IsCores.at rC KE1.out
        rw [KFL.out] at e0
        clear e1
        rw [KEE.out] at e2
        have B0_4 : Box w4 (w.heap.size) #[.int .u8 y0, .int .u8 y1, .slice pa l.length pcap, .int .u8 y2] 150 := (B0_3.alloc _).ext hb4
        have B1_4 : Box w4 (w2.heap.size) #[.slice (some ⟨ba, oa, none⟩) (128 + 4 * n) p2, .slice p3 (n + 1) p4, .bool false, .slice p5 c p6, .slice p7 s.L.length p8] 83 := (B1_3.alloc _).ext hb4
        have B2_4 : Box w4 (w3.heap.size) #[.int .i64 tf.op, .int .i64 tf.pc, .int .i64 (gi tf.R 0), .int .i64 (gi tf.R 1), .int .i64 (gi tf.R 2), .int .i64 (gi tf.R 3), .int .i64 (gi tf.R 4), .int .i64 (gi tf.R 5), .int .i64 (gi tf.R 6), .int .i64 (gi tf.R 7), .slice fa tf.S.length fc] 95 := (Box.newAt _ _ _ (by first | rfl | simp)).ext hb4
        clear c0_0 c0_1 c0_2 c0_3 d0_0 d0_1 d0_2 d0_3 z0 c1_0 c1_1 c1_2 c1_3 c1_4 d1_0 d1_1 d1_2 d1_3 d1_4 z1
        have s4 : w3.heap.size + 1 ≤ w4.heap.size := (by have h := hb4.size; first | omega | (simp at h; omega))
        obtain ⟨c0_0, c0_1, c0_2, c0_3, d0_0, d0_1, d0_2, d0_3⟩ := cells4 B0_4
        have z0 : w.heap.size < w4.heap.size := B0_4.lt
        obtain ⟨c1_0, c1_1, c1_2, c1_3, c1_4, d1_0, d1_1, d1_2, d1_3, d1_4⟩ := cells5 B1_4
        have z1 : w2.heap.size < w4.heap.size := B1_4.lt
        obtain ⟨⟨c2_0, c2_1, c2_2, c2_3, c2_4, c2_5, c2_6, c2_7, c2_8, c2_9, c2_10⟩, d2_0, d2_1, d2_2, d2_3, d2_4, d2_5, d2_6, d2_7, d2_8, d2_9, d2_10⟩ := cells11 B2_4
        have z2 : w3.heap.size < w4.heap.size := B2_4.lt
        go_wp2_with (fail)
        go_at_call 46
        refine (refTag_ (gi S2.M.W 0) _).calls.mono ?_
        rintro e w5 ⟨_, rfl, hb5, rfl⟩
        rw [KTB.out]
        have B0_5 : Box w5 (w.heap.size) #[.int .u8 y0, .int .u8 y1, .slice pa l.length pcap, .int .u8 y2] 150 := (B0_4.alloc _).ext hb5
        have B1_5 : Box w5 (w2.heap.size) #[.slice (some ⟨ba, oa, none⟩) (128 + 4 * n) p2, .slice p3 (n + 1) p4, .bool false, .slice p5 c p6, .slice p7 s.L.length p8] 83 := (B1_4.alloc _).ext hb5
        have B2_5 : Box w5 (w3.heap.size) #[.int .i64 tf.op, .int .i64 tf.pc, .int .i64 (gi tf.R 0), .int .i64 (gi tf.R 1), .int .i64 (gi tf.R 2), .int .i64 (gi tf.R 3), .int .i64 (gi tf.R 4), .int .i64 (gi tf.R 5), .int .i64 (gi tf.R 6), .int .i64 (gi tf.R 7), .slice fa tf.S.length fc] 95 := (B2_4.alloc _).ext hb5
        have B3_5 : Box w5 (w4.heap.size) #[.slice (some ⟨bz, oz, none⟩) (128 + 4 * n) r2, .slice r3 S2.M.G.length r4, .bool S2.M.bad, .slice (some ⟨bb, ob, none⟩) c r6, .slice r7 S2.L.length r8] 83 := (Box.newAt _ _ _ (by first | rfl | simp)).ext hb5
        clear c0_0 c0_1 c0_2 c0_3 d0_0 d0_1 d0_2 d0_3 z0 c1_0 c1_1 c1_2 c1_3 c1_4 d1_0 d1_1 d1_2 d1_3 d1_4 z1 c2_0 c2_1 c2_2 c2_3 c2_4 c2_5 c2_6 c2_7 c2_8 c2_9 c2_10 d2_0 d2_1 d2_2 d2_3 d2_4 d2_5 d2_6 d2_7 d2_8 d2_9 d2_10 z2
        have s5 : w4.heap.size + 1 ≤ w5.heap.size := (by have h := hb5.size; first | omega | (simp at h; omega))
        obtain ⟨c0_0, c0_1, c0_2, c0_3, d0_0, d0_1, d0_2, d0_3⟩ := cells4 B0_5
        have z0 : w.heap.size < w5.heap.size := B0_5.lt
        obtain ⟨c1_0, c1_1, c1_2, c1_3, c1_4, d1_0, d1_1, d1_2, d1_3, d1_4⟩ := cells5 B1_5
        have z1 : w2.heap.size < w5.heap.size := B1_5.lt
        obtain ⟨⟨c2_0, c2_1, c2_2, c2_3, c2_4, c2_5, c2_6, c2_7, c2_8, c2_9, c2_10⟩, d2_0, d2_1, d2_2, d2_3, d2_4, d2_5, d2_6, d2_7, d2_8, d2_9, d2_10⟩ := cells11 B2_5
        have z2 : w3.heap.size < w5.heap.size := B2_5.lt
        obtain ⟨c3_0, c3_1, c3_2, c3_3, c3_4, d3_0, d3_1, d3_2, d3_3, d3_4⟩ := cells5 B3_5
        have z3 : w4.heap.size < w5.heap.size := B3_5.lt
        go_wp2_with (fail)
        go_at_call 46
        refine (refTag_ (gi s.M.W 0) _).calls.mono ?_
        rintro e w6 ⟨_, rfl, hb6, rfl⟩
        rw [KTA.out]
        have B0_6 : Box w6 (w.heap.size) #[.int .u8 y0, .int .u8 y1, .slice pa l.length pcap, .int .u8 y2] 150 := B0_5.ext hb6
        have B1_6 : Box w6 (w2.heap.size) #[.slice (some ⟨ba, oa, none⟩) (128 + 4 * n) p2, .slice p3 (n + 1) p4, .bool false, .slice p5 c p6, .slice p7 s.L.length p8] 83 := B1_5.ext hb6
        have B2_6 : Box w6 (w3.heap.size) #[.int .i64 tf.op, .int .i64 tf.pc, .int .i64 (gi tf.R 0), .int .i64 (gi tf.R 1), .int .i64 (gi tf.R 2), .int .i64 (gi tf.R 3), .int .i64 (gi tf.R 4), .int .i64 (gi tf.R 5), .int .i64 (gi tf.R 6), .int .i64 (gi tf.R 7), .slice fa tf.S.length fc] 95 := B2_5.ext hb6
        have B3_6 : Box w6 (w4.heap.size) #[.slice (some ⟨bz, oz, none⟩) (128 + 4 * n) r2, .slice r3 S2.M.G.length r4, .bool S2.M.bad, .slice (some ⟨bb, ob, none⟩) c r6, .slice r7 S2.L.length r8] 83 := B3_5.ext hb6
        clear c0_0 c0_1 c0_2 c0_3 d0_0 d0_1 d0_2 d0_3 z0 c1_0 c1_1 c1_2 c1_3 c1_4 d1_0 d1_1 d1_2 d1_3 d1_4 z1 c2_0 c2_1 c2_2 c2_3 c2_4 c2_5 c2_6 c2_7 c2_8 c2_9 c2_10 d2_0 d2_1 d2_2 d2_3 d2_4 d2_5 d2_6 d2_7 d2_8 d2_9 d2_10 z2 c3_0 c3_1 c3_2 c3_3 c3_4 d3_0 d3_1 d3_2 d3_3 d3_4 z3
        have s6 : w5.heap.size ≤ w6.heap.size := (by have h := hb6.size; first | omega | (simp at h; omega))
        obtain ⟨c0_0, c0_1, c0_2, c0_3, d0_0, d0_1, d0_2, d0_3⟩ := cells4 B0_6
        have z0 : w.heap.size < w6.heap.size := B0_6.lt
        obtain ⟨c1_0, c1_1, c1_2, c1_3, c1_4, d1_0, d1_1, d1_2, d1_3, d1_4⟩ := cells5 B1_6
        have z1 : w2.heap.size < w6.heap.size := B1_6.lt
        obtain ⟨⟨c2_0, c2_1, c2_2, c2_3, c2_4, c2_5, c2_6, c2_7, c2_8, c2_9, c2_10⟩, d2_0, d2_1, d2_2, d2_3, d2_4, d2_5, d2_6, d2_7, d2_8, d2_9, d2_10⟩ := cells11 B2_6
        have z2 : w3.heap.size < w6.heap.size := B2_6.lt
        obtain ⟨c3_0, c3_1, c3_2, c3_3, c3_4, d3_0, d3_1, d3_2, d3_3, d3_4⟩ := cells5 B3_6
        have z3 : w4.heap.size < w6.heap.size := B3_6.lt
        go_wp2
        go_ret
        exact ⟨_, rfl, exn, rfl⟩
      · have KFL := Lib.hid k; have KD := Lib.hid d
        clear k d
        go_enter Proofs.Try.func35, Proofs.Try.ntmps35
        go_wp2_with (fail)
        go_at_call 104
        refine (shown4_ _).calls.mono ?_
        rintro e w1 ⟨_, rfl, hb1, rfl⟩
        have B0_1 : Box w1 (w.heap.size) #[.int .u8 y0, .int .u8 y1, .slice pa l.length pcap, .int .u8 y2] 150 := (Box.newAt _ _ _ (by first | rfl | simp)).ext hb1
        have s1 : w.heap.size + 1 ≤ w1.heap.size := (by have h := hb1.size; first | omega | (simp at h; omega))
        obtain ⟨c0_0, c0_1, c0_2, c0_3, d0_0, d0_1, d0_2, d0_3⟩ := cells4 B0_1
        have z0 : w.heap.size < w1.heap.size := B0_1.lt
        go_wp2_with (fail)
        go_at_call 113
        refine (F1.out _ (hpx.out.ext exq)).calls.mono ?_
        rintro e w2 ⟨_, rfl, hb2, RB, u, vs, rfl, hps, hpr⟩
        obtain ⟨p1, p2, p3, p4, p5, p6, p7, p8, rfl, pW, pG, pC, pL⟩ := hps.lit KlW.out KlG.out Kok.out KlC.out rfl
        obtain ⟨ba, oa, rfl, xa, _, ea⟩ := pW.opened0 KlW.out (by omega)
        have B0_2 : Box w2 (w.heap.size) #[.int .u8 y0, .int .u8 y1, .slice pa l.length pcap, .int .u8 y2] 150 := B0_1.ext hb2
        clear c0_0 c0_1 c0_2 c0_3 d0_0 d0_1 d0_2 d0_3 z0
        have s2 : w1.heap.size ≤ w2.heap.size := (by have h := hb2.size; first | omega | (simp at h; omega))
        obtain ⟨c0_0, c0_1, c0_2, c0_3, d0_0, d0_1, d0_2, d0_3⟩ := cells4 B0_2
        have z0 : w.heap.size < w2.heap.size := B0_2.lt
        go_wp2_with (fail)
        go_at_call 82
        refine (refTop_ no _ s i _ (hps.ext exq)).calls.mono ?_
        rintro e w3 ⟨_, rfl, hb3, u, rfl, hu3⟩
        rw [ht]
        obtain ⟨fa, fc, rfl, f8, fs⟩ := hu3.opened
        generalize topF s (i : Int) = tf at *
        have B0_3 : Box w3 (w.heap.size) #[.int .u8 y0, .int .u8 y1, .slice pa l.length pcap, .int .u8 y2] 150 := (B0_2.alloc _).ext hb3
        have B1_3 : Box w3 (w2.heap.size) #[.slice (some ⟨ba, oa, none⟩) (128 + 4 * n) p2, .slice p3 (n + 1) p4, .bool false, .slice p5 c p6, .slice p7 s.L.length p8] 83 := (Box.newAt _ _ _ (by first | rfl | simp)).ext hb3
        clear c0_0 c0_1 c0_2 c0_3 d0_0 d0_1 d0_2 d0_3 z0
        have s3 : w2.heap.size + 1 ≤ w3.heap.size := (by have h := hb3.size; first | omega | (simp at h; omega))
        obtain ⟨c0_0, c0_1, c0_2, c0_3, d0_0, d0_1, d0_2, d0_3⟩ := cells4 B0_3
        have z0 : w.heap.size < w3.heap.size := B0_3.lt
        obtain ⟨c1_0, c1_1, c1_2, c1_3, c1_4, d1_0, d1_1, d1_2, d1_3, d1_4⟩ := cells5 B1_3
        have z1 : w2.heap.size < w3.heap.size := B1_3.lt
        go_wp2_with (fail)
        go_at_call 111
        refine (step4_ no _ s i _ (hps.ext exq) no_lt ok.1 ok.2.1 ok.2.2.1 ok.2.2.2).calls.mono ?_
        rintro e w4 ⟨_, rfl, hb4, hr4⟩
        rw [KS2.out] at hr4
        obtain ⟨r1, r2, r3, r4, r5, r6, r7, r8, rfl, rW, rG, rC, rL⟩ := hr4.lit KlW2.out rfl rfl KlC2.out rfl
        obtain ⟨bz, oz, rfl, xz, _, ez⟩ := rW.opened0 KlW2.out (by omega)
        rw [KD.out] at ez
        have ea := cell_ext ea (show Ext _ w4 from exq)
        have xa4 : ba < w4.heap.size := World.block_lt_of_cell? _ _ ea
        obtain ⟨bb, ob, af, cf, ar, cr, rfl, zx, zn, _, _, _, e0, e1, e2, _⟩ := IsCores.at rC KE1.out
        rw [KFL.out] at e0
        clear e1
        have B0_4 : Box w4 (w.heap.size) #[.int .u8 y0, .int .u8 y1, .slice pa l.length pcap, .int .u8 y2] 150 := (B0_3.alloc _).ext hb4
        have B1_4 : Box w4 (w2.heap.size) #[.slice (some ⟨ba, oa, none⟩) (128 + 4 * n) p2, .slice p3 (n + 1) p4, .bool false, .slice p5 c p6, .slice p7 s.L.length p8] 83 := (B1_3.alloc _).ext hb4
        have B2_4 : Box w4 (w3.heap.size) #[.int .i64 tf.op, .int .i64 tf.pc, .int .i64 (gi tf.R 0), .int .i64 (gi tf.R 1), .int .i64 (gi tf.R 2), .int .i64 (gi tf.R 3), .int .i64 (gi tf.R 4), .int .i64 (gi tf.R 5), .int .i64 (gi tf.R 6), .int .i64 (gi tf.R 7), .slice fa tf.S.length fc] 95 := (Box.newAt _ _ _ (by first | rfl | simp)).ext hb4
        clear c0_0 c0_1 c0_2 c0_3 d0_0 d0_1 d0_2 d0_3 z0 c1_0 c1_1 c1_2 c1_3 c1_4 d1_0 d1_1 d1_2 d1_3 d1_4 z1
        have s4 : w3.heap.size + 1 ≤ w4.heap.size := (by have h := hb4.size; first | omega | (simp at h; omega))
        obtain ⟨c0_0, c0_1, c0_2, c0_3, d0_0, d0_1, d0_2, d0_3⟩ := cells4 B0_4
        have z0 : w.heap.size < w4.heap.size := B0_4.lt
        obtain ⟨c1_0, c1_1, c1_2, c1_3, c1_4, d1_0, d1_1, d1_2, d1_3, d1_4⟩ := cells5 B1_4
        have z1 : w2.heap.size < w4.heap.size := B1_4.lt
        obtain ⟨⟨c2_0, c2_1, c2_2, c2_3, c2_4, c2_5, c2_6, c2_7, c2_8, c2_9, c2_10⟩, d2_0, d2_1, d2_2, d2_3, d2_4, d2_5, d2_6, d2_7, d2_8, d2_9, d2_10⟩ := cells11 B2_4
        have z2 : w3.heap.size < w4.heap.size := B2_4.lt
        go_wp2
        go_ret
        exact ⟨_, rfl, exn, rfl⟩
      · have KFL := Lib.hid k; have KEE := Lib.hid b; have KD := Lib.hid d
        clear k b d
        go_enter Proofs.Try.func35, Proofs.Try.ntmps35
        go_wp2_with (fail)
        go_at_call 104
        refine (shown4_ _).calls.mono ?_
        rintro e w1 ⟨_, rfl, hb1, rfl⟩
        have B0_1 : Box w1 (w.heap.size) #[.int .u8 y0, .int .u8 y1, .slice pa l.length pcap, .int .u8 y2] 150 := (Box.newAt _ _ _ (by first | rfl | simp)).ext hb1
        have s1 : w.heap.size + 1 ≤ w1.heap.size := (by have h := hb1.size; first | omega | (simp at h; omega))
        obtain ⟨c0_0, c0_1, c0_2, c0_3, d0_0, d0_1, d0_2, d0_3⟩ := cells4 B0_1
        have z0 : w.heap.size < w1.heap.size := B0_1.lt
        go_wp2_with (fail)
        go_at_call 113
        refine (F1.out _ (hpx.out.ext exq)).calls.mono ?_
        rintro e w2 ⟨_, rfl, hb2, RB, u, vs, rfl, hps, hpr⟩
        obtain ⟨p1, p2, p3, p4, p5, p6, p7, p8, rfl, pW, pG, pC, pL⟩ := hps.lit KlW.out KlG.out Kok.out KlC.out rfl
        obtain ⟨ba, oa, rfl, xa, _, ea⟩ := pW.opened0 KlW.out (by omega)
        have B0_2 : Box w2 (w.heap.size) #[.int .u8 y0, .int .u8 y1, .slice pa l.length pcap, .int .u8 y2] 150 := B0_1.ext hb2
        clear c0_0 c0_1 c0_2 c0_3 d0_0 d0_1 d0_2 d0_3 z0
        have s2 : w1.heap.size ≤ w2.heap.size := (by have h := hb2.size; first | omega | (simp at h; omega))
        obtain ⟨c0_0, c0_1, c0_2, c0_3, d0_0, d0_1, d0_2, d0_3⟩ := cells4 B0_2
        have z0 : w.heap.size < w2.heap.size := B0_2.lt
        go_wp2_with (fail)
        go_at_call 82
        refine (refTop_ no _ s i _ (hps.ext exq)).calls.mono ?_
        rintro e w3 ⟨_, rfl, hb3, u, rfl, hu3⟩
        rw [ht]
        obtain ⟨fa, fc, rfl, f8, fs⟩ := hu3.opened
        generalize topF s (i : Int) = tf at *
        have B0_3 : Box w3 (w.heap.size) #[.int .u8 y0, .int .u8 y1, .slice pa l.length pcap, .int .u8 y2] 150 := (B0_2.alloc _).ext hb3
        have B1_3 : Box w3 (w2.heap.size) #[.slice (some ⟨ba, oa, none⟩) (128 + 4 * n) p2, .slice p3 (n + 1) p4, .bool false, .slice p5 c p6, .slice p7 s.L.length p8] 83 := (Box.newAt _ _ _ (by first | rfl | simp)).ext hb3
        clear c0_0 c0_1 c0_2 c0_3 d0_0 d0_1 d0_2 d0_3 z0
        have s3 : w2.heap.size + 1 ≤ w3.heap.size := (by have h := hb3.size; first | omega | (simp at h; omega))
        obtain ⟨c0_0, c0_1, c0_2, c0_3, d0_0, d0_1, d0_2, d0_3⟩ := cells4 B0_3
        have z0 : w.heap.size < w3.heap.size := B0_3.lt
        obtain ⟨c1_0, c1_1, c1_2, c1_3, c1_4, d1_0, d1_1, d1_2, d1_3, d1_4⟩ := cells5 B1_3
        have z1 : w2.heap.size < w3.heap.size := B1_3.lt
        go_wp2_with (fail)
        go_at_call 111
        refine (step4_ no _ s i _ (hps.ext exq) no_lt ok.1 ok.2.1 ok.2.2.1 ok.2.2.2).calls.mono ?_
        rintro e w4 ⟨_, rfl, hb4, hr4⟩
        rw [KS2.out] at hr4
        obtain ⟨r1, r2, r3, r4, r5, r6, r7, r8, rfl, rW, rG, rC, rL⟩ := hr4.lit KlW2.out rfl rfl KlC2.out rfl
        obtain ⟨bz, oz, rfl, xz, _, ez⟩ := rW.opened0 KlW2.out (by omega)
        rw [KD.out] at ez
        have ea := cell_ext ea (show Ext _ w4 from exq)
        have xa4 : ba < w4.heap.size := World.block_lt_of_cell? _ _ ea
        obtain ⟨bb, ob, af, cf, ar, cr, rfl, zx, zn, _, _, _, e0, e1, e2, _⟩ := IsCores.at rC KE1.out
        rw [KFL.out] at e0
        clear e1
        rw [KEE.out] at e2
        have B0_4 : Box w4 (w.heap.size) #[.int .u8 y0, .int .u8 y1, .slice pa l.length pcap, .int .u8 y2] 150 := (B0_3.alloc _).ext hb4
        have B1_4 : Box w4 (w2.heap.size) #[.slice (some ⟨ba, oa, none⟩) (128 + 4 * n) p2, .slice p3 (n + 1) p4, .bool false, .slice p5 c p6, .slice p7 s.L.length p8] 83 := (B1_3.alloc _).ext hb4
        have B2_4 : Box w4 (w3.heap.size) #[.int .i64 tf.op, .int .i64 tf.pc, .int .i64 (gi tf.R 0), .int .i64 (gi tf.R 1), .int .i64 (gi tf.R 2), .int .i64 (gi tf.R 3), .int .i64 (gi tf.R 4), .int .i64 (gi tf.R 5), .int .i64 (gi tf.R 6), .int .i64 (gi tf.R 7), .slice fa tf.S.length fc] 95 := (Box.newAt _ _ _ (by first | rfl | simp)).ext hb4
        clear c0_0 c0_1 c0_2 c0_3 d0_0 d0_1 d0_2 d0_3 z0 c1_0 c1_1 c1_2 c1_3 c1_4 d1_0 d1_1 d1_2 d1_3 d1_4 z1
        have s4 : w3.heap.size + 1 ≤ w4.heap.size := (by have h := hb4.size; first | omega | (simp at h; omega))
        obtain ⟨c0_0, c0_1, c0_2, c0_3, d0_0, d0_1, d0_2, d0_3⟩ := cells4 B0_4
        have z0 : w.heap.size < w4.heap.size := B0_4.lt
        obtain ⟨c1_0, c1_1, c1_2, c1_3, c1_4, d1_0, d1_1, d1_2, d1_3, d1_4⟩ := cells5 B1_4
        have z1 : w2.heap.size < w4.heap.size := B1_4.lt
        obtain ⟨⟨c2_0, c2_1, c2_2, c2_3, c2_4, c2_5, c2_6, c2_7, c2_8, c2_9, c2_10⟩, d2_0, d2_1, d2_2, d2_3, d2_4, d2_5, d2_6, d2_7, d2_8, d2_9, d2_10⟩ := cells11 B2_4
        have z2 : w3.heap.size < w4.heap.size := B2_4.lt
        go_wp2
        go_ret
        exact ⟨_, rfl, exn, rfl⟩
  · have q0 : (200 : Int) < (l.length : Int) := by omega
    clear hl
    go_enter Proofs.Try.func35, Proofs.Try.ntmps35
    go_wp2_with (fail)
    go_at_call 104
    refine (shown4_ _).calls.mono ?_
    rintro e w1 ⟨_, rfl, hb1, rfl⟩
    have B0_1 : Box w1 (w.heap.size) #[.int .u8 y0, .int .u8 y1, .slice pa l.length pcap, .int .u8 y2] 150 := (Box.newAt _ _ _ (by first | rfl | simp)).ext hb1
    have s1 : w.heap.size + 1 ≤ w1.heap.size := (by have h := hb1.size; first | omega | (simp at h; omega))
    obtain ⟨c0_0, c0_1, c0_2, c0_3, d0_0, d0_1, d0_2, d0_3⟩ := cells4 B0_1
    have z0 : w.heap.size < w1.heap.size := B0_1.lt
    go_wp2
    go_ret
    exact ⟨_, rfl, exn, rfl⟩
end Go.Proofs.Ytcfbdfgondmkoaa
