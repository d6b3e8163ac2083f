/- Plain numbers: bits cut out and joined. -/
import Derived.Laws.BitsLemmas
import Derived.Laws.BitsAllLaws
import Derived.IntWalk
namespace Go.Proofs.Ytcfbdfgondmkoaa
open Go

theorem wrap_in (n : Int) (h0 : -9223372036854775808 ≤ n) (h1 : n ≤ 9223372036854775807) : IntKind.i64.wrap n = n := by rw [IntKind.wrap_i64]; omega

theorem toNat_ofInt64 (x : Int) : (BitVec.ofInt 64 x).toNat = (x % 18446744073709551616).toNat := by
  rw [BitVec.toNat_ofInt]; rfl

theorem and_mask (x : Int) (n : Nat) (hn : n ≤ 62) : bits .and .i64 x ((2 : Int) ^ n - 1) = x % 2 ^ n := by
  have hp : (2 : Nat) ^ n ≤ 2 ^ 62 := Nat.pow_le_pow_right (by decide) hn
  have hp0 : 0 < (2 : Nat) ^ n := Nat.two_pow_pos n
  have hc : ((2 : Int) ^ n) = ((2 ^ n : Nat) : Int) := by simp
  show IntKind.i64.wrap (((BitVec.ofInt 64 x) &&& (BitVec.ofInt 64 ((2 : Int) ^ n - 1))).toNat : Int) = x % 2 ^ n
  rw [BitVec.toNat_and, toNat_ofInt64, toNat_ofInt64, hc]
  have hm : (((2 ^ n : Nat) : Int) - 1) % 18446744073709551616 = ((2 ^ n - 1 : Nat) : Int) := by
    have : (((2 ^ n : Nat) : Int) - 1) = ((2 ^ n - 1 : Nat) : Int) := by omega
    rw [this]
    exact Int.emod_eq_of_lt (by omega) (by omega)
  rw [hm, Int.toNat_natCast, Nat.and_two_pow_sub_one_eq_mod]
  have hx : ((x % 18446744073709551616).toNat : Int) = x % 18446744073709551616 := Int.toNat_of_nonneg (Int.emod_nonneg _ (by decide))
  have hmod : (((x % 18446744073709551616).toNat % 2 ^ n : Nat) : Int) = x % ((2 ^ n : Nat) : Int) := by
    rw [Int.natCast_emod, hx]
    have hd : ((2 ^ n : Nat) : Int) ∣ 18446744073709551616 := by
      have : (18446744073709551616 : Int) = ((2 ^ 64 : Nat) : Int) := by decide
      rw [this]
      exact Int.natCast_dvd_natCast.2 (Nat.pow_dvd_pow 2 (by omega))
    exact Int.emod_emod_of_dvd x hd
  rw [hmod]
  have h0 : 0 ≤ x % ((2 ^ n : Nat) : Int) := Int.emod_nonneg _ (by omega)
  have h1 : x % ((2 ^ n : Nat) : Int) < ((2 ^ n : Nat) : Int) := Int.emod_lt_of_pos _ (by omega)
  exact wrap_in _ (by omega) (by omega)

theorem and1 (x : Int) : bits .and .i64 x 1 = x % 2 := and_mask x 1 (by decide)
theorem and20 (x : Int) : bits .and .i64 x 1048575 = x % 1048576 := and_mask x 20 (by decide)
theorem and40 (x : Int) : bits .and .i64 x 1099511627775 = x % 1099511627776 := and_mask x 40 (by decide)

/-- Joined bits. -/
theorem or_add (a b : Int) (n : Nat) (ha0 : 0 ≤ a) (ha : a < 2 ^ n) (hb0 : 0 ≤ b) (hs : a + b * 2 ^ n < 9223372036854775808) : bits .or .i64 a (b * 2 ^ n) = a + b * 2 ^ n := by
  obtain ⟨x, rfl⟩ := Int.eq_ofNat_of_zero_le ha0
  obtain ⟨y, rfl⟩ := Int.eq_ofNat_of_zero_le hb0
  have hc : ((2 : Int) ^ n) = ((2 ^ n : Nat) : Int) := by simp
  rw [hc] at ha hs ⊢
  have hx : x < 2 ^ n := by omega
  have hm : ((y : Int) * ((2 ^ n : Nat) : Int)) = ((y * 2 ^ n : Nat) : Int) := by simp
  rw [hm] at hs ⊢
  show IntKind.i64.wrap (((BitVec.ofInt 64 (x : Int)) ||| (BitVec.ofInt 64 ((y * 2 ^ n : Nat) : Int))).toNat : Int) = _
  rw [BitVec.toNat_or, toNat_ofInt64, toNat_ofInt64, Int.emod_eq_of_lt (by omega) (by omega), Int.emod_eq_of_lt (by omega) (by omega), Int.toNat_natCast, Int.toNat_natCast]
  have hj : (x ||| y * 2 ^ n) = x + y * 2 ^ n := by
    rw [Nat.or_comm, nat_join n (y * 2 ^ n) x (by simp) hx, Nat.add_comm]
  rw [hj]
  exact wrap_in _ (by omega) (by omega)

/-- A word of three parts. -/
def word (t i m : Int) : Int := m % 2 + i % 1048576 * 2 + t % 1099511627776 * 2097152

theorem word_bounds (t i m : Int) : 0 ≤ word t i m ∧ word t i m < 2305843009213693952 := by unfold word; omega

theorem join_eq (m i t : Int) :
    bits .or .i64 (bits .or .i64 (bits .or .i64 0 (IntKind.i64.wrap (bits .and .i64 m 1 * 2 ^ 0))) (IntKind.i64.wrap (bits .and .i64 i 1048575 * 2 ^ 1))) (IntKind.i64.wrap (bits .and .i64 t 1099511627775 * 2 ^ 21)) = word t i m := by
  rw [and1, and20, and40]
  have e0 : IntKind.i64.wrap (m % 2 * 2 ^ 0) = m % 2 * 2 ^ 0 := wrap_in _ (by omega) (by omega)
  have e1 : IntKind.i64.wrap (i % 1048576 * 2 ^ 1) = i % 1048576 * 2 ^ 1 := wrap_in _ (by omega) (by omega)
  have e2 : IntKind.i64.wrap (t % 1099511627776 * 2 ^ 21) = t % 1099511627776 * 2 ^ 21 := wrap_in _ (by omega) (by omega)
  rw [e0, e1, e2]
  rw [or_add 0 (m % 2) 0 (by omega) (by omega) (by omega) (by omega)]
  rw [or_add _ (i % 1048576) 1 (by omega) (by omega) (by omega) (by omega)]
  rw [or_add _ (t % 1099511627776) 21 (by omega) (by omega) (by omega) (by omega)]
  unfold word
  omega

theorem tmod_cases (a b : Int) (hb : 0 < b) : -b < a.tmod b ∧ a.tmod b < b ∧ (a % b = if a.tmod b < 0 then a.tmod b + b else a.tmod b) := by
  have h := @Int.tmod_eq_emod a b
  have h0 : 0 ≤ a % b := Int.emod_nonneg _ (by omega)
  have h1 : a % b < b := Int.emod_lt_of_pos _ hb
  have hn : (b.natAbs : Int) = b := by omega
  by_cases hc : 0 ≤ a ∨ b ∣ a
  · rw [if_pos hc] at h
    refine ⟨by omega, by omega, ?_⟩
    rw [if_neg (by omega)]
    omega
  · rw [if_neg hc, hn] at h
    have hne : a % b ≠ 0 := fun e => hc (.inr (Int.dvd_of_emod_eq_zero e))
    refine ⟨by omega, by omega, ?_⟩
    rw [if_pos (by omega)]
    omega
end Go.Proofs.Ytcfbdfgondmkoaa
