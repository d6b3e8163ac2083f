/- StackSafe: its walk. -/
import Derived.Test.YtcfbdfgondmkoaaM7
namespace Go.Proofs.Ytcfbdfgondmkoaa
open Go Go.RowKit
set_option linter.unusedSimpArgs false
set_option linter.unusedVariables false
set_option linter.unnecessarySimpa false

theorem IsInts.opened0 {N : Nat → Prop} {w : World} {a : Option Addr} {n cap : Nat} {l : List Int} (h : IsInts N w (.slice a n cap) l) (hn : l.length = n) (h0 : 0 < n) : ∃ b o, a = some ⟨b, o, none⟩ ∧ b < w.heap.size ∧ ¬ N b := by
  obtain ⟨a', c', e, _, _, h3⟩ := h.opened
  cases e
  obtain ⟨b, o, rfl, hb, hn', hc⟩ := h3 0 (by omega)
  exact ⟨b, o, rfl, hb, hn'⟩
theorem IsInts.at_ {N : Nat → Prop} {w : World} {b o n cap : Nat} {l : List Int} (h : IsInts N w (.slice (some ⟨b, o, none⟩) n cap) l) (hn : l.length = n) {j : Nat} (hj : j < n) : w.cell? ⟨b, o + j, none⟩ = some (.int .i64 (gi l j)) := by
  obtain ⟨a', c', e, _, _, h3⟩ := h.opened
  cases e
  obtain ⟨b', o', e, hb, hn', hc⟩ := h3 j (by omega)
  cases e
  exact hc
theorem OwnAt.cells {base : Nat} {w : World} {v : Value} {l : List Int} (h : OwnAt base w v l) : ∃ a cap, v = .slice a l.length cap ∧ l.length ≤ 9223372036854775807 ∧ ∀ k, k < l.length → ∃ g o, a = some ⟨g, o, none⟩ ∧ g < w.heap.size ∧ w.cell? ⟨g, o + k, none⟩ = some (.int .i64 (gi l k)) := by
  rcases h with ⟨rfl, rfl⟩ | ⟨g, o, cap, cur, rfl, hb, hg, hc, hm, hs, hx⟩
  · exact ⟨none, 0, rfl, by simp, fun k h => by simp at h⟩
  · refine ⟨_, cap, rfl, by simp [maxLen] at hm; omega, fun k hk => ⟨g, o, rfl, hg.lt, hg.cell ?_⟩⟩
    rw [nth_eq]
    simpa using hx k hk
theorem safe_at {c n T : Nat} {s : SysD} {own : List (List Int)} {L : List Int} (I : Inv c n T s own [] L) {P : Nat} (h1 : 1 ≤ P) (h2 : P ≤ n) :
    (held P own s.C = 0 ∧ inD L P = true ∧ gi s.M.G P = 0) ∨ (held P own s.C = 1 ∧ inD L P = false ∧ gi s.M.G P = 1) := by
  obtain ⟨a, b, c', d⟩ := I.at (p := (P : Int)) (by omega) (by omega)
  rw [show ((P : Int)).toNat = P by omega] at c' d
  have hin : inD L P = L.elem (P : Int) := by
    cases h : L.elem (P : Int)
    · cases h' : inD L P
      · rfl
      · have := inD_count.1 h'
        have := List.count_pos_iff.1 this
        have h8 : L.elem (P : Int) = true := by simpa using this
        rw [h] at h8; cases h8
    · have h8 : (P : Int) ∈ L := by simpa using h
      exact inD_count.2 (List.count_pos_iff.2 h8)
  rw [hin]
  by_cases h0 : held P own s.C = 0
  · have h8 : L.elem (P : Int) = true := by rw [b]; simpa using h0
    rw [h8] at c'
    exact .inl ⟨h0, h8, by simpa using c'.symm⟩
  · have h8 : L.elem (P : Int) = false := by rw [b]; simpa using h0
    exact .inr ⟨by omega, h8, d h8⟩
set_option maxHeartbeats 8000000 in
set_option maxRecDepth 100000 in
theorem stackSafe_ (y0 y1 : Int) (sv : Value) (l : List Int) (w : World) (hp : IsNums .u16 w sv l) (lo0 : 0 ≤ y0) (hi0 : y0 ≤ 255) (lo1 : 0 ≤ y1) (hi1 : y1 ≤ 255) :
    Gives Proofs.Try.prog 30 #[.int .u8 y0, .int .u8 y1, sv] w (eqv (.bool true)) := by
  obtain ⟨pa, pcap, rfl⟩ := hp.shape
  have hpx := Lib.hid hp
  clear hp
  by_cases hl : l.length ≤ 300
  · have q0 : ¬ (300 : Int) < (l.length : Int) := by omega
    obtain ⟨c, hc⟩ : ∃ c : Nat, (c : Int) = 1 + y0 % 8 := ⟨(1 + y0 % 8).toNat, by omega⟩
    obtain ⟨n, hn⟩ : ∃ n : Nat, (n : Int) = 1 + y1 % 12 := ⟨(1 + y1 % 12).toNat, by omega⟩
    have c1 : 1 ≤ c := by omega
    have c8 : c ≤ 8 := by omega
    have n1 : 1 ≤ n := by omega
    have n200 : n ≤ 200 := by omega
    have ez0 : 1 + y0 % 8 = (c : Int) := hc.symm
    have ez1 : 1 + y1 % 12 = (n : Int) := hn.symm
    clear hc hn
    have F1 := Lib.hid (fun w' hp => play_ c n l (.slice pa l.length pcap) w' c1 c8 n1 n200 (by omega) hp)
    have PI := play_inv c1 c8 n1 n200 l (by omega)
    generalize playD c n l = st at F1 PI
    obtain ⟨s, own⟩ := st
    obtain ⟨T, L, hT, I, hLl, _⟩ := PI
    have I : Inv c n T s own [] L := I
    have hLl : s.L.length ≤ 300 := Nat.le_trans hLl (by omega)
    have hT9 : T < 1000000 := by omega
    have KI := Lib.hid I
    have KlW := Lib.hid I.lW; have KlG := Lib.hid I.lG; have Kok := Lib.hid I.ok; have KlC := Lib.hid I.lc
    have hC5 : s.C.length ≤ 100000 := by rw [I.lc]; omega
    clear I
    have hc0 : ¬ (c : Int) = 0 := by omega
    have n12 : n ≤ 12 := by omega
    have ok := (KI.out.wk (k := 300) (Nat.le_trans hT (by omega)) (by omega)).ok (by omega) (by omega)
    have fit := Lib.hid ok.2.2.1
    have KWK := Lib.hid KI.out.walk
    have KlO := Lib.hid KI.out.lo
    clear ok
    go_enter Proofs.Try.func30, Proofs.Try.ntmps30
    go_wp2_with (fail)
    go_at_call 104
    refine (shown4_ _).calls.mono ?_
    rintro e w1 ⟨_, rfl, hb1, rfl⟩
    have s1 : w.heap.size ≤ w1.heap.size := (by have h := hb1.size; first | omega | (simp at h; omega))
    go_wp2_with (fail)
    go_at_call 113
    refine (F1.out _ (hpx.out.ext exq)).calls.mono ?_
    rintro e w2 ⟨_, rfl, hb2, RB, u, vs, rfl, hps, hpr⟩
    obtain ⟨p1, p2, p3, p4, p5, p6, p7, p8, rfl, pW, pG, pC, pL⟩ := hps.lit KlW.out KlG.out Kok.out KlC.out rfl
    have s2 : w1.heap.size ≤ w2.heap.size := (by have h := hb2.size; first | omega | (simp at h; omega))
    go_wp2_with (fail)
    go_at_call 105
    refine (walk_ no _ s.M _ (IsMem.mk (m := s.M) Kok.out.symm (IsInts.ext pW exq) (IsInts.ext pG exq)) no_lt fit.out).calls.mono ?_
    rintro e w3 ⟨_, rfl, hb3, u, rfl, hl1⟩
    rw [KWK.out] at hl1 ⊢
    obtain ⟨la, lc, rfl, _⟩ := hl1.opened
    have B0_3 : Box w3 (w2.heap.size) #[.slice p1 (128 + 4 * n) p2, .slice p3 (n + 1) p4, .bool false, .slice p5 c p6, .slice p7 s.L.length p8] 83 := (Box.newAt _ _ _ (by first | rfl | simp)).ext hb3
    have s3 : w2.heap.size + 1 ≤ w3.heap.size := (by have h := hb3.size; first | omega | (simp at h; omega))
    obtain ⟨c0_0, c0_1, c0_2, c0_3, c0_4, d0_0, d0_1, d0_2, d0_3, d0_4⟩ := cells5 B0_3
    have z0 : w2.heap.size < w3.heap.size := B0_3.lt
    go_wp2
    have hE23 : Ext w2 w3 := exq
    have hWk : Ext w w3 := exq
    have hbT3 : Box w3 w2.heap.size #[.slice p1 (128 + 4 * n) p2, .slice p3 (n + 1) p4, .bool false, .slice p5 c p6, .slice p7 s.L.length p8] 83 := B0_3
    have hps3 := hps.ext hE23
    have hpG3 := IsInts.ext pG hE23
    have hpr3 := hpr.ext hE23
    obtain ⟨bg, og, rfl, xg, _⟩ := hpG3.opened0 KlG.out (by omega)
    have hpg := Lib.hid (fun (j : Nat) (hj : j < n + 1) => hpG3.at_ KlG.out hj)
    clear pW pG pC pL hps hpr hE23 xg hpG3
    go_loopw [15] (fun i wr => ∃ P : Nat, i = .int .i64 (P : Int) ∧ 1 ≤ P ∧ P ≤ n + 1 ∧ Ext w3 wr) (fun i _ => n + 1 - (intOf i).toNat)
    case atStart => exact ⟨1, rfl, by omega, by omega, exq⟩
    case round =>
      obtain ⟨P, rfl, hP1, hP2, hX⟩ := hrel
      obtain ⟨w9, rfl⟩ : ∃ w9 : World, w9 = wr := ⟨_, rfl⟩
      have sw9 : w2.heap.size < w9.heap.size := Nat.lt_of_lt_of_le hbT3.lt hX.size
      by_cases hlt : P ≤ n
      · have q1 : (P : Int) ≤ (n : Int) := by omega
        have hbTw9 : Box w9 w2.heap.size #[.slice p1 (128 + 4 * n) p2, .slice (some ⟨bg, og, none⟩) (n + 1) p4, .bool false, .slice p5 c p6, .slice p7 s.L.length p8] 83 := hbT3.ext hX
        obtain ⟨cT_0, cT_1, cT_2, cT_3, cT_4, dT_0, dT_1, dT_2, dT_3, dT_4⟩ := cells5 hbTw9
        have zT : w2.heap.size < w9.heap.size := hbTw9.lt
        go_wp2
        go_loopw [16, 17] (fun e i wr => ∃ (A j : Nat), e = .int .i64 (A : Int) ∧ i = .int .i64 (j : Int) ∧ j ≤ c ∧ A = atI own s.C P j ∧ Ext w3 wr) (fun _ i _ => c - (intOf i).toNat)
        case atStart => exact ⟨0, 0, rfl, rfl, by omega, rfl, exq⟩
        case round =>
          clear hX sw9
          obtain ⟨A, j, rfl, rfl, hj, hA, hX⟩ := hrel
          obtain ⟨w20, rfl⟩ : ∃ w20 : World, w20 = wr := ⟨_, rfl⟩
          have sw20 : w2.heap.size < w20.heap.size := Nat.lt_of_lt_of_le hbT3.lt hX.size
          have hheld := (KI.out.at (p := (P : Int)) (by omega) (by omega)).1
          have hA1 : A ≤ 1 := by rw [hA]; exact Nat.le_trans atI_le hheld
          have HA := Lib.hid hA
          clear hA
          by_cases hjl : j < c
          · have q2 : (j : Int) < (c : Int) := by omega
            obtain ⟨o, ho⟩ := getSome' (show j < own.length by rw [KlO.out]; exact hjl)
            obtain ⟨v, hv, hO⟩ := hpr3.row j o ho
            obtain ⟨va, vc, rfl, hoL, hvs⟩ := hO.cells
            have er3 : w3.cell? ⟨RB, j, none⟩ = some (.slice va o.length vc) := hpr3.box.cell (by rw [nth_eq]; simpa using hv)
            have xr3 : RB < w3.heap.size := hpr3.box.lt
            obtain ⟨cc, hcc, hcase⟩ := top_facts KI.out hjl
            have hnx : ∀ x, pushC (P : Int) cc = x → atI own s.C P j + o.count (P : Int) + x ≤ 1 := fun x hx => by rw [← hx, ← atI_succ ho hcc]; exact Nat.le_trans atI_le hheld
            have HN := Lib.hid hnx
            have HS := Lib.hid (atI_succ (p := (P : Int)) ho hcc)
            have HC := Lib.hid hcase
            have HV := Lib.hid hvs
            have hoc : Hid (atI own s.C P j + o.count (P : Int) ≤ 1) := Lib.hid (Nat.le_trans (Nat.le_add_right _ (pushC P cc)) (hnx _ rfl))
            clear hcase hnx hvs hv hO hcc ho
            have hbTw20 : Box w20 w2.heap.size #[.slice p1 (128 + 4 * n) p2, .slice (some ⟨bg, og, none⟩) (n + 1) p4, .bool false, .slice p5 c p6, .slice p7 s.L.length p8] 83 := hbT3.ext hX
            obtain ⟨cT_0, cT_1, cT_2, cT_3, cT_4, dT_0, dT_1, dT_2, dT_3, dT_4⟩ := cells5 hbTw20
            have zT : w2.heap.size < w20.heap.size := hbTw20.lt
            go_wp2
            go_loopw [16, 18] (fun e i wr => ∃ (D k : Nat), e = .int .i64 (D : Int) ∧ i = .int .i64 (k : Int) ∧ k ≤ o.length ∧ D = atI own s.C P j + cntI o P k ∧ Ext w3 wr) (fun _ i _ => o.length - (intOf i).toNat)
            case atStart => exact ⟨A, 0, rfl, rfl, by omega, HA.out, exq⟩
            case round =>
              clear hX sw20
              obtain ⟨D, k, rfl, rfl, hk, hD, hX⟩ := hrel
              obtain ⟨w30, rfl⟩ : ∃ w30 : World, w30 = wr := ⟨_, rfl⟩
              have sw30 : w2.heap.size < w30.heap.size := Nat.lt_of_lt_of_le hbT3.lt hX.size
              have hD1 : D ≤ 1 := by rw [hD]; exact Nat.le_trans (Nat.add_le_add_left cntI_le _) hoc.out
              have HD := Lib.hid hD
              clear hD
              have er := cell_ext er3 hX
              by_cases hkl : k < o.length
              · have q3 : (k : Int) < (o.length : Int) := by omega
                obtain ⟨g, go, rfl, hgl, hgc⟩ := HV.out k hkl
                have eg := cell_ext hgc hX
                have HG := Lib.hid (cntI_succ (o := o) (p := (P : Int)) hkl)
                obtain ⟨z, hz⟩ : ∃ z, gi o k = z := ⟨_, rfl⟩
                rw [hz] at eg hgc HG
                clear hz
                by_cases hzp : z = (P : Int)
                · have q4 : (z == (P : Int)) = true := by simpa using hzp
                  have HD2 : Hid (D + 1 = atI own s.C P j + cntI o P (k + 1)) := Lib.hid (by rw [HG.out, HD.out, if_pos hzp]; omega)
                  have hbTw30 : Box w30 w2.heap.size #[.slice p1 (128 + 4 * n) p2, .slice (some ⟨bg, og, none⟩) (n + 1) p4, .bool false, .slice p5 c p6, .slice p7 s.L.length p8] 83 := hbT3.ext hX
                  obtain ⟨cT_0, cT_1, cT_2, cT_3, cT_4, dT_0, dT_1, dT_2, dT_3, dT_4⟩ := cells5 hbTw30
                  have zT : w2.heap.size < w30.heap.size := hbTw30.lt
                  go_wp2
                  go_roundw
                  case rel => exact ⟨D + 1, k + 1, by simp, by simp, by omega, HD2.out, exq⟩
                  case measure => simp [intOf]; omega
                · have q4 : (z == (P : Int)) = false := by simpa using hzp
                  have HD2 : Hid (D = atI own s.C P j + cntI o P (k + 1)) := Lib.hid (by rw [HG.out, HD.out, if_neg hzp]; rfl)
                  have hbTw30 : Box w30 w2.heap.size #[.slice p1 (128 + 4 * n) p2, .slice (some ⟨bg, og, none⟩) (n + 1) p4, .bool false, .slice p5 c p6, .slice p7 s.L.length p8] 83 := hbT3.ext hX
                  obtain ⟨cT_0, cT_1, cT_2, cT_3, cT_4, dT_0, dT_1, dT_2, dT_3, dT_4⟩ := cells5 hbTw30
                  have zT : w2.heap.size < w30.heap.size := hbTw30.lt
                  go_wp2
                  go_roundw
                  case rel => exact ⟨D, k + 1, by simp, by simp, by omega, HD2.out, exq⟩
                  case measure => simp [intOf]; omega
              · have hke : k = o.length := by omega
                subst hke
                have q3 : ¬ (o.length : Int) < (o.length : Int) := by omega
                have HD3 : Hid (D = atI own s.C P j + o.count (P : Int)) := Lib.hid (by rw [HD.out, cntI_all])
                rcases HC.out with ⟨ht, htN, htF, hF⟩ | ⟨f, ht, htF, hF, hok⟩
                · have HE : Hid (D = atI own s.C P (j + 1)) := Lib.hid (by rw [HS.out, pushC_none hF, HD3.out]; rfl)
                  clear htF hF htN
                  have hbTw30 : Box w30 w2.heap.size #[.slice p1 (128 + 4 * n) p2, .slice (some ⟨bg, og, none⟩) (n + 1) p4, .bool false, .slice p5 c p6, .slice p7 s.L.length p8] 83 := hbT3.ext hX
                  obtain ⟨cT_0, cT_1, cT_2, cT_3, cT_4, dT_0, dT_1, dT_2, dT_3, dT_4⟩ := cells5 hbTw30
                  have zT : w2.heap.size < w30.heap.size := hbTw30.lt
                  go_wp2_with (fail)
                  go_at_call 82
                  refine (refTop_ no _ s j _ (hps3.ext exq)).calls.mono ?_
                  rintro e w31 ⟨_, rfl, hb31, u, rfl, hu31⟩
                  rw [ht]
                  obtain ⟨fa, fc, rfl, f8, fs⟩ := hu31.opened
                  generalize topF s (j : Int) = tf at *
                  have BT_31 : Box w31 (w2.heap.size) #[.slice p1 (128 + 4 * n) p2, .slice (some ⟨bg, og, none⟩) (n + 1) p4, .bool false, .slice p5 c p6, .slice p7 s.L.length p8] 83 := hbTw30.ext hb31
                  clear cT_0 cT_1 cT_2 cT_3 cT_4 dT_0 dT_1 dT_2 dT_3 dT_4 zT
                  have s31 : w30.heap.size ≤ w31.heap.size := (by have h := hb31.size; first | omega | (simp at h; omega))
                  obtain ⟨cT_0, cT_1, cT_2, cT_3, cT_4, dT_0, dT_1, dT_2, dT_3, dT_4⟩ := cells5 BT_31
                  have zT : w2.heap.size < w31.heap.size := BT_31.lt
                  go_wp2
                  go_roundw
                  case rel => exact ⟨D, j + 1, by simp, by simp, by omega, HE.out, exq⟩
                  case measure => simp [intOf]; omega
                · have KF := Lib.hid htF
                  have hpc := pushC_some (p := (P : Int)) hF
                  clear htF hF hok
                  by_cases hop : f.op = 2
                  · have q5 : (f.op == 2) = true := by simpa using hop
                    by_cases hR : gi f.R 0 = (P : Int)
                    · have q6 : (gi f.R 0 == (P : Int)) = true := by simpa using hR
                      have HE : Hid (D + 1 = atI own s.C P (j + 1)) := Lib.hid (by rw [HS.out, hpc, HD3.out, if_pos ⟨hop, hR⟩])
                      clear hpc hop hR
                      have hbTw30 : Box w30 w2.heap.size #[.slice p1 (128 + 4 * n) p2, .slice (some ⟨bg, og, none⟩) (n + 1) p4, .bool false, .slice p5 c p6, .slice p7 s.L.length p8] 83 := hbT3.ext hX
                      obtain ⟨cT_0, cT_1, cT_2, cT_3, cT_4, dT_0, dT_1, dT_2, dT_3, dT_4⟩ := cells5 hbTw30
                      have zT : w2.heap.size < w30.heap.size := hbTw30.lt
                      go_wp2_with (fail)
                      go_at_call 82
                      refine (refTop_ no _ s j _ (hps3.ext exq)).calls.mono ?_
                      rintro e w31 ⟨_, rfl, hb31, u, rfl, hu31⟩
                      rw [ht]
                      rw [KF.out] at hu31
                      obtain ⟨fa, fc, rfl, f8, fs⟩ := hu31.opened
                      have BT_31 : Box w31 (w2.heap.size) #[.slice p1 (128 + 4 * n) p2, .slice (some ⟨bg, og, none⟩) (n + 1) p4, .bool false, .slice p5 c p6, .slice p7 s.L.length p8] 83 := hbTw30.ext hb31
                      clear cT_0 cT_1 cT_2 cT_3 cT_4 dT_0 dT_1 dT_2 dT_3 dT_4 zT
                      have s31 : w30.heap.size ≤ w31.heap.size := (by have h := hb31.size; first | omega | (simp at h; omega))
                      obtain ⟨cT_0, cT_1, cT_2, cT_3, cT_4, dT_0, dT_1, dT_2, dT_3, dT_4⟩ := cells5 BT_31
                      have zT : w2.heap.size < w31.heap.size := BT_31.lt
                      go_wp2
                      go_roundw
                      case rel => exact ⟨D + 1, j + 1, by simp, by simp, by omega, HE.out, exq⟩
                      case measure => simp [intOf]; omega
                    · have q6 : (gi f.R 0 == (P : Int)) = false := by simpa using hR
                      have HE : Hid (D = atI own s.C P (j + 1)) := Lib.hid (by rw [HS.out, hpc, HD3.out, if_neg (fun h => hR h.2)]; rfl)
                      clear hpc hop
                      have hbTw30 : Box w30 w2.heap.size #[.slice p1 (128 + 4 * n) p2, .slice (some ⟨bg, og, none⟩) (n + 1) p4, .bool false, .slice p5 c p6, .slice p7 s.L.length p8] 83 := hbT3.ext hX
                      obtain ⟨cT_0, cT_1, cT_2, cT_3, cT_4, dT_0, dT_1, dT_2, dT_3, dT_4⟩ := cells5 hbTw30
                      have zT : w2.heap.size < w30.heap.size := hbTw30.lt
                      go_wp2_with (fail)
                      go_at_call 82
                      refine (refTop_ no _ s j _ (hps3.ext exq)).calls.mono ?_
                      rintro e w31 ⟨_, rfl, hb31, u, rfl, hu31⟩
                      rw [ht]
                      rw [KF.out] at hu31
                      obtain ⟨fa, fc, rfl, f8, fs⟩ := hu31.opened
                      have BT_31 : Box w31 (w2.heap.size) #[.slice p1 (128 + 4 * n) p2, .slice (some ⟨bg, og, none⟩) (n + 1) p4, .bool false, .slice p5 c p6, .slice p7 s.L.length p8] 83 := hbTw30.ext hb31
                      clear cT_0 cT_1 cT_2 cT_3 cT_4 dT_0 dT_1 dT_2 dT_3 dT_4 zT
                      have s31 : w30.heap.size ≤ w31.heap.size := (by have h := hb31.size; first | omega | (simp at h; omega))
                      obtain ⟨cT_0, cT_1, cT_2, cT_3, cT_4, dT_0, dT_1, dT_2, dT_3, dT_4⟩ := cells5 BT_31
                      have zT : w2.heap.size < w31.heap.size := BT_31.lt
                      go_wp2
                      go_roundw
                      case rel => exact ⟨D, j + 1, by simp, by simp, by omega, HE.out, exq⟩
                      case measure => simp [intOf]; omega
                  · have q5 : (f.op == 2) = false := by simpa using hop
                    have HE : Hid (D = atI own s.C P (j + 1)) := Lib.hid (by rw [HS.out, hpc, HD3.out, if_neg (fun h => hop h.1)]; rfl)
                    clear hpc
                    have hbTw30 : Box w30 w2.heap.size #[.slice p1 (128 + 4 * n) p2, .slice (some ⟨bg, og, none⟩) (n + 1) p4, .bool false, .slice p5 c p6, .slice p7 s.L.length p8] 83 := hbT3.ext hX
                    obtain ⟨cT_0, cT_1, cT_2, cT_3, cT_4, dT_0, dT_1, dT_2, dT_3, dT_4⟩ := cells5 hbTw30
                    have zT : w2.heap.size < w30.heap.size := hbTw30.lt
                    go_wp2_with (fail)
                    go_at_call 82
                    refine (refTop_ no _ s j _ (hps3.ext exq)).calls.mono ?_
                    rintro e w31 ⟨_, rfl, hb31, u, rfl, hu31⟩
                    rw [ht]
                    rw [KF.out] at hu31
                    obtain ⟨fa, fc, rfl, f8, fs⟩ := hu31.opened
                    have BT_31 : Box w31 (w2.heap.size) #[.slice p1 (128 + 4 * n) p2, .slice (some ⟨bg, og, none⟩) (n + 1) p4, .bool false, .slice p5 c p6, .slice p7 s.L.length p8] 83 := hbTw30.ext hb31
                    clear cT_0 cT_1 cT_2 cT_3 cT_4 dT_0 dT_1 dT_2 dT_3 dT_4 zT
                    have s31 : w30.heap.size ≤ w31.heap.size := (by have h := hb31.size; first | omega | (simp at h; omega))
                    obtain ⟨cT_0, cT_1, cT_2, cT_3, cT_4, dT_0, dT_1, dT_2, dT_3, dT_4⟩ := cells5 BT_31
                    have zT : w2.heap.size < w31.heap.size := BT_31.lt
                    go_wp2
                    go_roundw
                    case rel => exact ⟨D, j + 1, by simp, by simp, by omega, HE.out, exq⟩
                    case measure => simp [intOf]; omega
          · have hje : j = c := by omega
            have hAe : A = held P own s.C := by rw [HA.out, hje, atI_all KlO.out KlC.out]
            subst hje
            have q2 : ¬ (j : Int) < (j : Int) := by omega
            obtain hgp := hpg.out P (by omega)
            have egp := cell_ext hgp hX
            have q7 : (P : Int) < (n : Int) + 1 := by omega
            rcases safe_at KI.out hP1 hlt with ⟨h1, h2, h3⟩ | ⟨h1, h2, h3⟩
            · obtain rfl : A = 0 := by rw [hAe, h1]
              rw [h3] at egp
              have KIN := Lib.hid h2
              clear hAe h1 h2 h3 hgp hA1 HA
              have hbTw20 : Box w20 w2.heap.size #[.slice p1 (128 + 4 * n) p2, .slice (some ⟨bg, og, none⟩) (n + 1) p4, .bool false, .slice p5 j p6, .slice p7 s.L.length p8] 83 := hbT3.ext hX
              obtain ⟨cT_0, cT_1, cT_2, cT_3, cT_4, dT_0, dT_1, dT_2, dT_3, dT_4⟩ := cells5 hbTw20
              have zT : w2.heap.size < w20.heap.size := hbTw20.lt
              go_wp2_with (fail)
              go_at_call 114
              refine (in_ no _ L P _ (IsInts.ext hl1 exq)).calls.mono ?_
              rintro e w21 ⟨_, rfl, hb21, rfl⟩
              rw [KIN.out]
              have egp := cell_ext egp (show Ext _ w21 from exq)
              have BT_21 : Box w21 (w2.heap.size) #[.slice p1 (128 + 4 * n) p2, .slice (some ⟨bg, og, none⟩) (n + 1) p4, .bool false, .slice p5 j p6, .slice p7 s.L.length p8] 83 := hbTw20.ext hb21
              clear cT_0 cT_1 cT_2 cT_3 cT_4 dT_0 dT_1 dT_2 dT_3 dT_4 zT
              have s21 : w20.heap.size ≤ w21.heap.size := (by have h := hb21.size; first | omega | (simp at h; omega))
              obtain ⟨cT_0, cT_1, cT_2, cT_3, cT_4, dT_0, dT_1, dT_2, dT_3, dT_4⟩ := cells5 BT_21
              have zT : w2.heap.size < w21.heap.size := BT_21.lt
              go_wp2
              go_roundw
              case rel => exact ⟨P + 1, by simp, by omega, by omega, exq⟩
              case measure => simp [intOf]; omega
            · obtain rfl : A = 1 := by rw [hAe, h1]
              rw [h3] at egp
              have KIN := Lib.hid h2
              clear hAe h1 h2 h3 hgp hA1 HA
              have hbTw20 : Box w20 w2.heap.size #[.slice p1 (128 + 4 * n) p2, .slice (some ⟨bg, og, none⟩) (n + 1) p4, .bool false, .slice p5 j p6, .slice p7 s.L.length p8] 83 := hbT3.ext hX
              obtain ⟨cT_0, cT_1, cT_2, cT_3, cT_4, dT_0, dT_1, dT_2, dT_3, dT_4⟩ := cells5 hbTw20
              have zT : w2.heap.size < w20.heap.size := hbTw20.lt
              go_wp2_with (fail)
              go_at_call 114
              refine (in_ no _ L P _ (IsInts.ext hl1 exq)).calls.mono ?_
              rintro e w21 ⟨_, rfl, hb21, rfl⟩
              rw [KIN.out]
              have egp := cell_ext egp (show Ext _ w21 from exq)
              have BT_21 : Box w21 (w2.heap.size) #[.slice p1 (128 + 4 * n) p2, .slice (some ⟨bg, og, none⟩) (n + 1) p4, .bool false, .slice p5 j p6, .slice p7 s.L.length p8] 83 := hbTw20.ext hb21
              clear cT_0 cT_1 cT_2 cT_3 cT_4 dT_0 dT_1 dT_2 dT_3 dT_4 zT
              have s21 : w20.heap.size ≤ w21.heap.size := (by have h := hb21.size; first | omega | (simp at h; omega))
              obtain ⟨cT_0, cT_1, cT_2, cT_3, cT_4, dT_0, dT_1, dT_2, dT_3, dT_4⟩ := cells5 BT_21
              have zT : w2.heap.size < w21.heap.size := BT_21.lt
              go_wp2
              go_roundw
              case rel => exact ⟨P + 1, by simp, by omega, by omega, exq⟩
              case measure => simp [intOf]; omega
      · have hPe : P = n + 1 := by omega
        have q1 : ¬ (P : Int) ≤ (n : Int) := by omega
        have hbTw9 : Box w9 w2.heap.size #[.slice p1 (128 + 4 * n) p2, .slice (some ⟨bg, og, none⟩) (n + 1) p4, .bool false, .slice p5 c p6, .slice p7 s.L.length p8] 83 := hbT3.ext hX
        obtain ⟨cT_0, cT_1, cT_2, cT_3, cT_4, dT_0, dT_1, dT_2, dT_3, dT_4⟩ := cells5 hbTw9
        have zT : w2.heap.size < w9.heap.size := hbTw9.lt
        go_wp2
        go_ret
        exact ⟨_, rfl, exn, rfl⟩
  · have q0 : (300 : Int) < (l.length : Int) := by omega
    clear hl
    go_enter Proofs.Try.func30, Proofs.Try.ntmps30
    go_wp2_with (fail)
    go_at_call 104
    refine (shown4_ _).calls.mono ?_
    rintro e w1 ⟨_, rfl, hb1, rfl⟩
    have s1 : w.heap.size ≤ w1.heap.size := (by have h := hb1.size; first | omega | (simp at h; omega))
    go_wp2
    go_ret
    exact ⟨_, rfl, exn, rfl⟩
end Go.Proofs.Ytcfbdfgondmkoaa
