/-
  Bits of 64: and, xor, not.
  No condition: plain lemmas.
-/
import Derived.Test.YtegociefcfcihaaDoorFs
namespace Go.Fw
open Go
theorem and64_nat (a b : Nat) (h : a < 18446744073709551616 ∧ b < 18446744073709551616) : bits .and .u64 (a : Int) (b : Int) = ((a &&& b : Nat) : Int) := u64_and_nat a b h.1 h.2
theorem xor64_nat (a b : Nat) (h : a < 18446744073709551616 ∧ b < 18446744073709551616) : bits .xor .u64 (a : Int) (b : Int) = ((a ^^^ b : Nat) : Int) := u64_xor_nat a b h.1 h.2
theorem xor_ones (a : Nat) (h : a < 18446744073709551616) : 18446744073709551615 ^^^ a = 18446744073709551615 - a := Nat.eq_of_testBit_eq fun j => by
  have := Nat.testBit_two_pow_sub_succ (n := 64) (x := a) h j
  rw [show 18446744073709551615 - a = 2 ^ 64 - (a + 1) by omega, this, Nat.testBit_xor, show (18446744073709551615 : Nat) = 2 ^ 64 - 1 by decide, Nat.testBit_two_pow_sub_one]
  by_cases hj : j < 64
  · simp [hj]
  · have : a.testBit j = false := Nat.testBit_lt_two_pow (Nat.lt_of_lt_of_le h (Nat.pow_le_pow_right (n := 2) (i := 64) (by omega) (by omega)))
    simp [hj, this]
theorem compl64_nat (a : Nat) (h : a < 18446744073709551616) : bits .xor .u64 (if IntKind.u64.signed then -1 else IntKind.u64.max) (a : Int) = ((18446744073709551615 - a : Nat) : Int) := by
  rw [← xor_ones a h]
  exact u64_xor_nat 18446744073709551615 a (by omega) h
theorem set_low {ys : List Nat} {x i v : Nat} (hl : ys.length = 4) (hi : i < 4) (hy : ∀ q, q < i → ys.getD q 0 = lim x q) (hv : v = lim x i) : ∀ q, q < i + 1 → (ys.set i v).getD q 0 = lim x q := fun q hq => by
  rw [getD_set _ _ _ _ (by omega)]
  split
  · rename_i h; subst h; exact hv
  · exact hy q (by omega)
theorem set_high {ys : List Nat} {x i v : Nat} (hl : ys.length = 4) (hi : i < 4) (hz : ∀ q, i ≤ q → q < 4 → ys.getD q 0 = lim x q) : ∀ q, i + 1 ≤ q → q < 4 → (ys.set i v).getD q 0 = lim x q := fun q h1 h2 => by
  rw [getD_set _ _ _ _ (by omega), if_neg (by omega)]; exact hz q (by omega) h2
set_option exponentiation.threshold 600 in
theorem mul_lt512 (x y : Nat) : x % 2 ^ 256 * (y % 2 ^ 256) < 2 ^ 512 := by
  have h1 := Nat.mod_lt x (show 2 ^ 256 > 0 by omega)
  have h2 := Nat.mod_lt y (show 2 ^ 256 > 0 by omega)
  have h3 := Nat.mul_lt_mul'' h1 h2
  rw [← Nat.pow_add] at h3
  exact h3
/-! ### Shifts, part by part -/
theorem shl_last {s wh pt x i : Nat} (h : s % 2 ^ 256 = 64 * wh + pt) (hp : pt < 64) (hw : wh ≤ i) (hi : i < 4) (h2 : ¬ (wh < i ∧ 0 < pt)) : lim x (i - wh) * 2 ^ pt % 18446744073709551616 = lim (shlN s x) i := by
  rw [shl_lim x i h hp (by omega) hi, if_neg (by omega)]
  by_cases hwi : wh < i
  · obtain rfl : pt = 0 := by omega
    rw [if_pos hwi, Nat.div_eq_of_lt (show lim x (i - wh - 1) < 2 ^ (64 - 0) from lim_lt _ _), Nat.or_zero]
  · rw [if_neg hwi, Nat.or_zero]
theorem shl_both {s wh pt x i : Nat} (h : s % 2 ^ 256 = 64 * wh + pt) (hp : pt < 64) (hw : wh < i) (hi : i < 4) : lim x (i - wh) * 2 ^ pt % 18446744073709551616 ||| lim x (i - wh - 1) / 2 ^ (64 - pt) = lim (shlN s x) i := by
  rw [shl_lim x i h hp (by omega) hi, if_neg (by omega), if_pos hw]
theorem shr_last {s wh pt x i : Nat} (h : s % 2 ^ 256 = 64 * wh + pt) (hp : pt < 64) (hi : i + wh < 4) (h2 : ¬ (i + wh < 3 ∧ 0 < pt)) : lim x (i + wh) / 2 ^ pt = lim (shrN s x) i := by
  rw [shr_lim x i h hp (by omega) (by omega), if_pos hi]
  by_cases hwi : i + wh < 3
  · obtain rfl : pt = 0 := by omega
    rw [if_pos hwi, show lim x (i + wh + 1) * 2 ^ (64 - 0) % 18446744073709551616 = 0 from Nat.mul_mod_left _ _, Nat.or_zero]
  · rw [if_neg hwi, Nat.or_zero]
theorem shr_both {s wh pt x i : Nat} (h : s % 2 ^ 256 = 64 * wh + pt) (hp : pt < 64) (hi : i + wh < 3) : lim x (i + wh) / 2 ^ pt ||| lim x (i + wh + 1) * 2 ^ (64 - pt) % 18446744073709551616 = lim (shrN s x) i := by
  rw [shr_lim x i h hp (by omega) (by omega), if_pos (by omega), if_pos hi]
theorem set_down {ys : List Nat} {x k v : Nat} (hl : ys.length = 4) (hk : k < 4) (hy : ∀ q, k + 1 ≤ q → q < 4 → ys.getD q 0 = lim x q) (hv : v = lim x k) : ∀ q, k ≤ q → q < 4 → (ys.set k v).getD q 0 = lim x q := fun q h1 h2 => by
  rw [getD_set _ _ _ _ (by omega)]
  split
  · rename_i h; subst h; exact hv
  · exact hy q (by omega) h2
theorem set_zlow {ys : List Nat} {k v : Nat} (hl : ys.length = 4) (hk : k < 4) (hz : ∀ q, q < k + 1 → ys.getD q 0 = 0) : ∀ q, q < k → (ys.set k v).getD q 0 = 0 := fun q h1 => by
  rw [getD_set _ _ _ _ (by omega), if_neg (by omega)]; exact hz q (by omega)
theorem set_zhigh {ys : List Nat} {i v : Nat} (hl : ys.length = 4) (hi : i < 4) (hz : ∀ q, i ≤ q → ys.getD q 0 = 0) : ∀ q, i + 1 ≤ q → (ys.set i v).getD q 0 = 0 := fun q h1 => by
  rw [getD_set _ _ _ _ (by omega), if_neg (by omega)]; exact hz q (by omega)
theorem shrN_one' (e : Nat) : shrN 1 e % 2 ^ 256 = e % 2 ^ 256 / 2 := by
  unfold shrN
  rw [if_pos (by decide), show 2 ^ (1 % 2 ^ 256) = 2 by decide]
  omega
theorem lim_low {x : Nat} (h : x % 2 ^ 256 < 18446744073709551616) : lim x 0 = x % 2 ^ 256 := by unfold lim; omega
end Go.Fw
