/- PackNext: its walk. -/
import Derived.Test.YtcfbdfgondmkoaaPack2
import Derived.Test.YtcfbdfgondmkoaaEqA
namespace Go.Proofs.Ytcfbdfgondmkoaa
open Go Go.RowKit

theorem next_word (T k i m : Int) : nextW (word (T + k) i m) i m = word (T + (k + 1)) i m := by
  unfold nextW; rw [word_tag]; unfold word; omega
theorem word_far (T k i m : Int) (h0 : 0 < k) (h1 : k < 1000) : (word (T + k) i m == word T i m) = false := by
  have : word (T + k) i m ≠ word T i m := fun e => by
    have h := congrArg (fun z => z / 2097152 % 1099511627776) e
    simp only [word_tag] at h
    omega
  simpa using this
set_option maxHeartbeats 400000 in
theorem packNext_ (x i m n : Int) (w : World) (h0 : 0 ≤ i) (h1 : i ≤ 4294967295) (h2 : 0 ≤ m) (h3 : m ≤ 255) (h4 : 0 ≤ n) (h5 : n ≤ 65535) : Gives Proofs.Try.prog 5 #[.agg #[.int .i64 x, .int .u32 i, .int .u8 m, .int .u16 n]] w (eqv (.bool true)) := by
  have r1 : rightB (nextW x (i % 1048576) (m % 2)) = true := by have := word_bounds (x / 2097152 % 1099511627776 + 1) (i % 1048576) (m % 2); unfold rightB nextW; simp; omega
  have a1 : nextW x (i % 1048576) (m % 2) / 2 % 1048576 = i % 1048576 := by unfold nextW; rw [word_index]; omega
  have a2 : nextW x (i % 1048576) (m % 2) % 2 = m % 2 := by unfold nextW; rw [word_mark]; omega
  have a3 : nextW x (i % 1048576) (m % 2) / 2097152 % 1099511627776 = (x / 2097152 + 1) % 1099511627776 := by unfold nextW; rw [word_tag]; omega
  have a4 : nextW x (i % 1048576) (m % 2) = word ((x / 2097152 + 1) % 1099511627776 + 0) (i % 1048576) (m % 2) := by unfold nextW word; omega
  have A4 := Lib.hid a4
  clear a4
  obtain ⟨X, hX⟩ : ∃ X, nextW x (i % 1048576) (m % 2) = X := ⟨_, rfl⟩
  rw [hX] at r1 a1 a2 a3 A4
  have HX := Lib.hid hX
  clear hX
  obtain ⟨T, hT⟩ : ∃ T, (x / 2097152 + 1) % 1099511627776 = T := ⟨_, rfl⟩
  have A5 := Lib.hid (show X = word (T + 0) (i % 1048576) (m % 2) by rw [← hT]; exact A4.out)
  have A6 := Lib.hid (show ∀ k : Int, 0 < k → k < 1000 → (word (T + k) (i % 1048576) (m % 2) == X) = false from fun k hk0 hk1 => by rw [A5.out, Int.add_zero]; exact word_far T k _ _ hk0 hk1)
  have hT1 : 0 ≤ T := by omega
  have hT2 : T < 1099511627776 := by omega
  have HT := Lib.hid hT
  clear hT A4
  obtain ⟨N, hN⟩ : ∃ N : Nat, (N : Int) = n % 1000 := ⟨(n % 1000).toNat, by omega⟩
  have hN1 : N < 1000 := by omega
  have HN := Lib.hid hN
  clear hN
  go_enter Proofs.Try.func5, Proofs.Try.ntmps5
  go_wp2_with (first | (go_at_call 36; refine (shown1_ _).calls.mono ?_; rintro e w0 ⟨_, rfl, hb0, rfl⟩) | (go_at_call 37; refine (of_ _ _ _ _).calls.mono ?_; rintro e w1 ⟨_, rfl, hb1, rfl⟩; skip) | (go_at_call 38; refine (refOf_ _ _ _ _).calls.mono ?_; rintro e w1 ⟨_, rfl, hb1, rfl⟩; skip) | (go_at_call 47; refine (next_ _ _ _ _).calls.mono ?_; rintro e w2 ⟨_, rfl, hb2, rfl⟩; rw [HX.out]) | (go_at_call 48; refine (refNext_ _ _ _ _).calls.mono ?_; rintro e w2 ⟨_, rfl, hb2, rfl⟩) | (go_at_call 41; refine (index_ _ _).calls.mono ?_; rintro e w3 ⟨_, rfl, hb3, rfl⟩) | (go_at_call 42; refine (refIndex_ _ _).calls.mono ?_; rintro e w3 ⟨_, rfl, hb3, rfl⟩) | (go_at_call 43; refine (mark_ _ _).calls.mono ?_; rintro e w4 ⟨_, rfl, hb4, rfl⟩) | (go_at_call 44; refine (refMark_ _ _).calls.mono ?_; rintro e w4 ⟨_, rfl, hb4, rfl⟩) | (go_at_call 45; refine (tag_ _ _).calls.mono ?_; rintro e w5 ⟨_, rfl, hb5, rfl⟩) | (go_at_call 46; refine (refTag_ _ _).calls.mono ?_; rintro e w5 ⟨_, rfl, hb5, rfl⟩) | (go_at_call 39; refine (right_ _ _).calls.mono ?_; rintro e w6 ⟨_, rfl, hb6, rfl⟩) | (go_at_call 40; refine (refRight_ _ _).calls.mono ?_; rintro e w6 ⟨_, rfl, hb6, rfl⟩))
  go_loopw [11, 12] (fun y kk wr => ∃ k : Nat, k ≤ N ∧ kk = .int .i64 k ∧ y = .int .i64 (word (T + k) (i % 1048576) (m % 2)) ∧ Ext w wr) (fun _ kk _ => N - (intOf kk).toNat)
  case atStart => exact ⟨0, Nat.zero_le _, rfl, congrArg (Value.int .i64) A5.out, by repeat (first | assumption | exact Ext.refl _ | refine Ext.trans ?_ (Ext.alloc _ _) | refine Ext.trans ?_ (by assumption))⟩
  case round =>
    obtain ⟨k, hk, rfl, rfl, hE⟩ := hrel
    by_cases hlt : k < N
    · have hlt' : (k : Int) < n % 1000 := by have := HN.out; omega
      have hne := A6.out (k + 1) (by omega) (by omega)
      go_wp2_with (go_at_call 47; refine (next_ _ _ _ _).calls.mono ?_; rintro e w2 ⟨_, rfl, hb2, rfl⟩; rw [next_word])
      go_roundw
      case rel => rw [show ((k : Int) + 1) = ((k + 1 : Nat) : Int) by omega]; ((repeat apply Exists.intro); refine ⟨⟨k + 1, by omega, rfl, rfl, Ext.trans hE hb2⟩, ?_⟩); rw [Int.emod_add_emod]
      case measure => simp [intOf]; omega
    · have hge : ¬ (k : Int) < n % 1000 := by have := HN.out; omega
      have hy : word (T + k) (i % 1048576) (m % 2) / 2097152 % 1099511627776 = (x / 2097152 + 1 + n % 1000) % 1099511627776 := by rw [word_tag]; have := HN.out; have := HT.out; omega
      go_wp2_with (first | (go_at_call 36; refine (shown1_ _).calls.mono ?_; rintro e w0 ⟨_, rfl, hb0, rfl⟩) | (go_at_call 37; refine (of_ _ _ _ _).calls.mono ?_; rintro e w1 ⟨_, rfl, hb1, rfl⟩; skip) | (go_at_call 38; refine (refOf_ _ _ _ _).calls.mono ?_; rintro e w1 ⟨_, rfl, hb1, rfl⟩; skip) | (go_at_call 47; refine (next_ _ _ _ _).calls.mono ?_; rintro e w2 ⟨_, rfl, hb2, rfl⟩) | (go_at_call 48; refine (refNext_ _ _ _ _).calls.mono ?_; rintro e w2 ⟨_, rfl, hb2, rfl⟩) | (go_at_call 41; refine (index_ _ _).calls.mono ?_; rintro e w3 ⟨_, rfl, hb3, rfl⟩) | (go_at_call 42; refine (refIndex_ _ _).calls.mono ?_; rintro e w3 ⟨_, rfl, hb3, rfl⟩) | (go_at_call 43; refine (mark_ _ _).calls.mono ?_; rintro e w4 ⟨_, rfl, hb4, rfl⟩) | (go_at_call 44; refine (refMark_ _ _).calls.mono ?_; rintro e w4 ⟨_, rfl, hb4, rfl⟩) | (go_at_call 45; refine (tag_ _ _).calls.mono ?_; rintro e w5 ⟨_, rfl, hb5, rfl⟩) | (go_at_call 46; refine (refTag_ _ _).calls.mono ?_; rintro e w5 ⟨_, rfl, hb5, rfl⟩) | (go_at_call 39; refine (right_ _ _).calls.mono ?_; rintro e w6 ⟨_, rfl, hb6, rfl⟩) | (go_at_call 40; refine (refRight_ _ _).calls.mono ?_; rintro e w6 ⟨_, rfl, hb6, rfl⟩))
      go_ret
      exact ⟨_, rfl, by repeat (first | assumption | exact Ext.refl _ | refine Ext.trans ?_ (Ext.alloc _ _) | refine Ext.trans ?_ (by assumption)), rfl⟩

end Go.Proofs.Ytcfbdfgondmkoaa
