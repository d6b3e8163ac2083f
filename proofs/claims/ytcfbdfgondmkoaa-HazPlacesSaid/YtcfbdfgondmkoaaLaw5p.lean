/- HazPlaces: its walk. -/
import Derived.Test.YtcfbdfgondmkoaaM2
import Derived.Test.YtcfbdfgondmkoaaM10
namespace Go.Proofs.Ytcfbdfgondmkoaa
open Go Go.RowKit
set_option linter.unusedSimpArgs false
set_option linter.unusedVariables false
set_option linter.unnecessarySimpa false

set_option maxHeartbeats 4000000 in
set_option maxRecDepth 100000 in
theorem hazPlaces_ (y0 y1 y2 y3 : Int) (w : World) (lo0 : 0 ≤ y0) (hi0 : y0 ≤ 255) (lo1 : 0 ≤ y1) (hi1 : y1 ≤ 255) (lo2 : 0 ≤ y2) (hi2 : y2 ≤ 255) (lo3 : 0 ≤ y3) (hi3 : y3 ≤ 255) :
    Gives Proofs.Try.prog 27 #[.agg #[.int .u8 y0, .int .u8 y1, .int .u8 y2, .int .u8 y3]] w (eqv (.bool true)) := by
  obtain ⟨a, ea, a0, a1⟩ : ∃ a, y0 % 8 = a ∧ 0 ≤ a ∧ a < 8 := ⟨_, rfl, by omega, by omega⟩
  obtain ⟨b, eb, b0, b1⟩ : ∃ b, y1 % 8 = b ∧ 0 ≤ b ∧ b < 8 := ⟨_, rfl, by omega, by omega⟩
  obtain ⟨i, ei, i0, i1⟩ : ∃ i, y2 % 3 = i ∧ 0 ≤ i ∧ i < 3 := ⟨_, rfl, by omega, by omega⟩
  obtain ⟨k, ek, k0, k1⟩ : ∃ k, y3 % 3 = k ∧ 0 ≤ k ∧ k < 3 := ⟨_, rfl, by omega, by omega⟩
  obtain ⟨p, hp⟩ : ∃ p, p = 8 + 3 * a + i := ⟨_, rfl⟩
  obtain ⟨q, hq⟩ : ∃ q, q = 8 + 3 * b + k := ⟨_, rfl⟩
  obtain ⟨r, hr⟩ : ∃ r, r = 8 + 3 * a := ⟨_, rfl⟩
  have kp : ∀ w', Gives Proofs.Try.prog 94 #[.int .i64 a, .int .i64 i] w' (eqv (.int .i64 p)) := fun w' => by have := place_ a i w' (by omega) (by omega); rwa [placeD_in a0 a1 i0 i1, ← hp] at this
  have kq : ∀ w', Gives Proofs.Try.prog 94 #[.int .i64 b, .int .i64 k] w' (eqv (.int .i64 q)) := fun w' => by have := place_ b k w' (by omega) (by omega); rwa [placeD_in b0 b1 k0 k1, ← hq] at this
  have kr : ∀ w', Gives Proofs.Try.prog 94 #[.int .i64 a, .int .i64 0] w' (eqv (.int .i64 r)) := fun w' => by have := place_ a 0 w' (by omega) (by omega); rwa [placeD_in a0 a1 (by omega) (by omega), show 8 + 3 * a + 0 = r by omega] at this
  have ks : ∀ w', Gives Proofs.Try.prog 94 #[.int .i64 a, .int .i64 2] w' (eqv (.int .i64 (r + 2))) := fun w' => by have := place_ a 2 w' (by omega) (by omega); rwa [placeD_in a0 a1 (by omega) (by omega), show 8 + 3 * a + 2 = r + 2 by omega] at this
  have p0 : 8 ≤ p := by omega
  have p1 : p < 32 := by omega
  have r0 : 8 ≤ r := by omega
  have r1 : r < 32 := by omega
  by_cases hab : a = b
  · have q1 : (a == b) = true := by simpa using hab
    by_cases hik : i = k
    · have q2 : (i == k) = true := by simpa using hik
      have q3 : (p == q) = true := by simp; omega
      clear hp hq hr hab hik
      go_enter Proofs.Try.func27, Proofs.Try.ntmps27
      go_wp2_with (fail)
      go_at_call 93
      refine (shown5_ _).calls.mono ?_
      rintro e w1 ⟨_, rfl, hb1, rfl⟩
      have B0_1 : Box w1 (w.heap.size) #[.int .u8 y0, .int .u8 y1, .int .u8 y2, .int .u8 y3] 128 := (Box.newAt _ _ _ (by first | rfl | simp)).ext hb1
      have s1 : w.heap.size + 1 ≤ w1.heap.size := (by have h := hb1.size; first | omega | (simp at h; omega))
      obtain ⟨c0_0, c0_1, c0_2, c0_3, d0_0, d0_1, d0_2, d0_3⟩ := cells4 B0_1
      have z0 : w.heap.size < w1.heap.size := B0_1.lt
      go_wp2_with (fail)
      go_at_call 94
      refine (kp _).calls.mono ?_
      rintro e w2 ⟨_, rfl, hb2, rfl⟩
      have B0_2 : Box w2 (w.heap.size) #[.int .u8 y0, .int .u8 y1, .int .u8 y2, .int .u8 y3] 128 := B0_1.ext hb2
      clear c0_0 c0_1 c0_2 c0_3 d0_0 d0_1 d0_2 d0_3 z0
      have s2 : w1.heap.size ≤ w2.heap.size := (by have h := hb2.size; first | omega | (simp at h; omega))
      obtain ⟨c0_0, c0_1, c0_2, c0_3, d0_0, d0_1, d0_2, d0_3⟩ := cells4 B0_2
      have z0 : w.heap.size < w2.heap.size := B0_2.lt
      go_wp2_with (fail)
      go_at_call 94
      refine (kq _).calls.mono ?_
      rintro e w3 ⟨_, rfl, hb3, rfl⟩
      have B0_3 : Box w3 (w.heap.size) #[.int .u8 y0, .int .u8 y1, .int .u8 y2, .int .u8 y3] 128 := B0_2.ext hb3
      clear c0_0 c0_1 c0_2 c0_3 d0_0 d0_1 d0_2 d0_3 z0
      have s3 : w2.heap.size ≤ w3.heap.size := (by have h := hb3.size; first | omega | (simp at h; omega))
      obtain ⟨c0_0, c0_1, c0_2, c0_3, d0_0, d0_1, d0_2, d0_3⟩ := cells4 B0_3
      have z0 : w.heap.size < w3.heap.size := B0_3.lt
      go_wp2_with (fail)
      go_at_call 94
      refine (ks _).calls.mono ?_
      rintro e w4 ⟨_, rfl, hb4, rfl⟩
      have B0_4 : Box w4 (w.heap.size) #[.int .u8 y0, .int .u8 y1, .int .u8 y2, .int .u8 y3] 128 := B0_3.ext hb4
      clear c0_0 c0_1 c0_2 c0_3 d0_0 d0_1 d0_2 d0_3 z0
      have s4 : w3.heap.size ≤ w4.heap.size := (by have h := hb4.size; first | omega | (simp at h; omega))
      obtain ⟨c0_0, c0_1, c0_2, c0_3, d0_0, d0_1, d0_2, d0_3⟩ := cells4 B0_4
      have z0 : w.heap.size < w4.heap.size := B0_4.lt
      go_wp2_with (fail)
      go_at_call 94
      refine (kr _).calls.mono ?_
      rintro e w5 ⟨_, rfl, hb5, rfl⟩
      have B0_5 : Box w5 (w.heap.size) #[.int .u8 y0, .int .u8 y1, .int .u8 y2, .int .u8 y3] 128 := B0_4.ext hb5
      clear c0_0 c0_1 c0_2 c0_3 d0_0 d0_1 d0_2 d0_3 z0
      have s5 : w4.heap.size ≤ w5.heap.size := (by have h := hb5.size; first | omega | (simp at h; omega))
      obtain ⟨c0_0, c0_1, c0_2, c0_3, d0_0, d0_1, d0_2, d0_3⟩ := cells4 B0_5
      have z0 : w.heap.size < w5.heap.size := B0_5.lt
      go_wp2
      go_ret
      exact ⟨_, rfl, exn, rfl⟩
    · have q2 : (i == k) = false := by simpa using hik
      have q3 : (p == q) = false := by simp; omega
      clear hp hq hr hab hik
      go_enter Proofs.Try.func27, Proofs.Try.ntmps27
      go_wp2_with (fail)
      go_at_call 93
      refine (shown5_ _).calls.mono ?_
      rintro e w1 ⟨_, rfl, hb1, rfl⟩
      have B0_1 : Box w1 (w.heap.size) #[.int .u8 y0, .int .u8 y1, .int .u8 y2, .int .u8 y3] 128 := (Box.newAt _ _ _ (by first | rfl | simp)).ext hb1
      have s1 : w.heap.size + 1 ≤ w1.heap.size := (by have h := hb1.size; first | omega | (simp at h; omega))
      obtain ⟨c0_0, c0_1, c0_2, c0_3, d0_0, d0_1, d0_2, d0_3⟩ := cells4 B0_1
      have z0 : w.heap.size < w1.heap.size := B0_1.lt
      go_wp2_with (fail)
      go_at_call 94
      refine (kp _).calls.mono ?_
      rintro e w2 ⟨_, rfl, hb2, rfl⟩
      have B0_2 : Box w2 (w.heap.size) #[.int .u8 y0, .int .u8 y1, .int .u8 y2, .int .u8 y3] 128 := B0_1.ext hb2
      clear c0_0 c0_1 c0_2 c0_3 d0_0 d0_1 d0_2 d0_3 z0
      have s2 : w1.heap.size ≤ w2.heap.size := (by have h := hb2.size; first | omega | (simp at h; omega))
      obtain ⟨c0_0, c0_1, c0_2, c0_3, d0_0, d0_1, d0_2, d0_3⟩ := cells4 B0_2
      have z0 : w.heap.size < w2.heap.size := B0_2.lt
      go_wp2_with (fail)
      go_at_call 94
      refine (kq _).calls.mono ?_
      rintro e w3 ⟨_, rfl, hb3, rfl⟩
      have B0_3 : Box w3 (w.heap.size) #[.int .u8 y0, .int .u8 y1, .int .u8 y2, .int .u8 y3] 128 := B0_2.ext hb3
      clear c0_0 c0_1 c0_2 c0_3 d0_0 d0_1 d0_2 d0_3 z0
      have s3 : w2.heap.size ≤ w3.heap.size := (by have h := hb3.size; first | omega | (simp at h; omega))
      obtain ⟨c0_0, c0_1, c0_2, c0_3, d0_0, d0_1, d0_2, d0_3⟩ := cells4 B0_3
      have z0 : w.heap.size < w3.heap.size := B0_3.lt
      go_wp2_with (fail)
      go_at_call 94
      refine (ks _).calls.mono ?_
      rintro e w4 ⟨_, rfl, hb4, rfl⟩
      have B0_4 : Box w4 (w.heap.size) #[.int .u8 y0, .int .u8 y1, .int .u8 y2, .int .u8 y3] 128 := B0_3.ext hb4
      clear c0_0 c0_1 c0_2 c0_3 d0_0 d0_1 d0_2 d0_3 z0
      have s4 : w3.heap.size ≤ w4.heap.size := (by have h := hb4.size; first | omega | (simp at h; omega))
      obtain ⟨c0_0, c0_1, c0_2, c0_3, d0_0, d0_1, d0_2, d0_3⟩ := cells4 B0_4
      have z0 : w.heap.size < w4.heap.size := B0_4.lt
      go_wp2_with (fail)
      go_at_call 94
      refine (kr _).calls.mono ?_
      rintro e w5 ⟨_, rfl, hb5, rfl⟩
      have B0_5 : Box w5 (w.heap.size) #[.int .u8 y0, .int .u8 y1, .int .u8 y2, .int .u8 y3] 128 := B0_4.ext hb5
      clear c0_0 c0_1 c0_2 c0_3 d0_0 d0_1 d0_2 d0_3 z0
      have s5 : w4.heap.size ≤ w5.heap.size := (by have h := hb5.size; first | omega | (simp at h; omega))
      obtain ⟨c0_0, c0_1, c0_2, c0_3, d0_0, d0_1, d0_2, d0_3⟩ := cells4 B0_5
      have z0 : w.heap.size < w5.heap.size := B0_5.lt
      go_wp2
      go_ret
      exact ⟨_, rfl, exn, rfl⟩
  · have q1 : (a == b) = false := by simpa using hab
    have q3 : (p == q) = false := by simp; omega
    clear hp hq hr hab
    go_enter Proofs.Try.func27, Proofs.Try.ntmps27
    go_wp2_with (fail)
    go_at_call 93
    refine (shown5_ _).calls.mono ?_
    rintro e w1 ⟨_, rfl, hb1, rfl⟩
    have B0_1 : Box w1 (w.heap.size) #[.int .u8 y0, .int .u8 y1, .int .u8 y2, .int .u8 y3] 128 := (Box.newAt _ _ _ (by first | rfl | simp)).ext hb1
    have s1 : w.heap.size + 1 ≤ w1.heap.size := (by have h := hb1.size; first | omega | (simp at h; omega))
    obtain ⟨c0_0, c0_1, c0_2, c0_3, d0_0, d0_1, d0_2, d0_3⟩ := cells4 B0_1
    have z0 : w.heap.size < w1.heap.size := B0_1.lt
    go_wp2_with (fail)
    go_at_call 94
    refine (kp _).calls.mono ?_
    rintro e w2 ⟨_, rfl, hb2, rfl⟩
    have B0_2 : Box w2 (w.heap.size) #[.int .u8 y0, .int .u8 y1, .int .u8 y2, .int .u8 y3] 128 := B0_1.ext hb2
    clear c0_0 c0_1 c0_2 c0_3 d0_0 d0_1 d0_2 d0_3 z0
    have s2 : w1.heap.size ≤ w2.heap.size := (by have h := hb2.size; first | omega | (simp at h; omega))
    obtain ⟨c0_0, c0_1, c0_2, c0_3, d0_0, d0_1, d0_2, d0_3⟩ := cells4 B0_2
    have z0 : w.heap.size < w2.heap.size := B0_2.lt
    go_wp2_with (fail)
    go_at_call 94
    refine (kq _).calls.mono ?_
    rintro e w3 ⟨_, rfl, hb3, rfl⟩
    have B0_3 : Box w3 (w.heap.size) #[.int .u8 y0, .int .u8 y1, .int .u8 y2, .int .u8 y3] 128 := B0_2.ext hb3
    clear c0_0 c0_1 c0_2 c0_3 d0_0 d0_1 d0_2 d0_3 z0
    have s3 : w2.heap.size ≤ w3.heap.size := (by have h := hb3.size; first | omega | (simp at h; omega))
    obtain ⟨c0_0, c0_1, c0_2, c0_3, d0_0, d0_1, d0_2, d0_3⟩ := cells4 B0_3
    have z0 : w.heap.size < w3.heap.size := B0_3.lt
    go_wp2_with (fail)
    go_at_call 94
    refine (ks _).calls.mono ?_
    rintro e w4 ⟨_, rfl, hb4, rfl⟩
    have B0_4 : Box w4 (w.heap.size) #[.int .u8 y0, .int .u8 y1, .int .u8 y2, .int .u8 y3] 128 := B0_3.ext hb4
    clear c0_0 c0_1 c0_2 c0_3 d0_0 d0_1 d0_2 d0_3 z0
    have s4 : w3.heap.size ≤ w4.heap.size := (by have h := hb4.size; first | omega | (simp at h; omega))
    obtain ⟨c0_0, c0_1, c0_2, c0_3, d0_0, d0_1, d0_2, d0_3⟩ := cells4 B0_4
    have z0 : w.heap.size < w4.heap.size := B0_4.lt
    go_wp2_with (fail)
    go_at_call 94
    refine (kr _).calls.mono ?_
    rintro e w5 ⟨_, rfl, hb5, rfl⟩
    have B0_5 : Box w5 (w.heap.size) #[.int .u8 y0, .int .u8 y1, .int .u8 y2, .int .u8 y3] 128 := B0_4.ext hb5
    clear c0_0 c0_1 c0_2 c0_3 d0_0 d0_1 d0_2 d0_3 z0
    have s5 : w4.heap.size ≤ w5.heap.size := (by have h := hb5.size; first | omega | (simp at h; omega))
    obtain ⟨c0_0, c0_1, c0_2, c0_3, d0_0, d0_1, d0_2, d0_3⟩ := cells4 B0_5
    have z0 : w.heap.size < w5.heap.size := B0_5.lt
    go_wp2
    go_ret
    exact ⟨_, rfl, exn, rfl⟩
end Go.Proofs.Ytcfbdfgondmkoaa
