/-
  Plain laws of words: moduli, powers, shifts, signs laid up, orders.
  No condition: plain lemmas.
-/
import Derived.Test.YtegociefcfcihaaDoorPw
namespace Go.Fw
open Go
/-! ### Moduli -/
theorem addm_nz {a b m : Nat} (h : ¬ m % 2 ^ 256 = 0) : addmN a b m = (a % 2 ^ 256 + b % 2 ^ 256) % (m % 2 ^ 256) := by unfold addmN; rw [if_neg h]
theorem mulm_nz {a b m : Nat} (h : ¬ m % 2 ^ 256 = 0) : mulmN a b m = (a % 2 ^ 256 * (b % 2 ^ 256)) % (m % 2 ^ 256) := by unfold mulmN; rw [if_neg h]
theorem addm_lt {a b m : Nat} (h : ¬ m % 2 ^ 256 = 0) : addmN a b m % 2 ^ 256 < m % 2 ^ 256 := by
  rw [addm_nz h]
  have h1 := Nat.mod_lt (a % 2 ^ 256 + b % 2 ^ 256) (show m % 2 ^ 256 > 0 by omega)
  rw [Nat.mod_eq_of_lt (by omega)]; exact h1
theorem mulm_lt {a b m : Nat} (h : ¬ m % 2 ^ 256 = 0) : mulmN a b m % 2 ^ 256 < m % 2 ^ 256 := by
  rw [mulm_nz h]
  have h1 := Nat.mod_lt (a % 2 ^ 256 * (b % 2 ^ 256)) (show m % 2 ^ 256 > 0 by omega)
  rw [Nat.mod_eq_of_lt (by omega)]; exact h1
theorem small_mod {x m : Nat} (h : ¬ m % 2 ^ 256 = 0) : x % (m % 2 ^ 256) % 2 ^ 256 = x % (m % 2 ^ 256) := by
  have h1 := Nat.mod_lt x (show m % 2 ^ 256 > 0 by omega)
  exact Nat.mod_eq_of_lt (by omega)
theorem addm_comm (a b m : Nat) : addmN a b m = addmN b a m := by unfold addmN; rw [Nat.add_comm]
theorem mulm_comm (a b m : Nat) : mulmN a b m = mulmN b a m := by unfold mulmN; rw [Nat.mul_comm]
theorem addm_zero {a m : Nat} (h : ¬ m % 2 ^ 256 = 0) : addmN a 0 m = modN a m := by rw [addm_nz h, modN_nz h, Nat.zero_mod, Nat.add_zero]
theorem mulm_zero (a m : Nat) : mulmN a 0 m = 0 := by unfold mulmN; split; rfl; rw [Nat.zero_mod, Nat.mul_zero, Nat.zero_mod]
theorem addm_mod {a b m : Nat} (h : ¬ m % 2 ^ 256 = 0) : addmN a b m = addmN (modN a m) (modN b m) m := by
  rw [addm_nz h, addm_nz h, modN_nz h, modN_nz h, small_mod h, small_mod h, ← Nat.add_mod]
theorem succ_mod {b : Nat} (hb : ¬ b % 2 ^ 256 = 115792089237316195423570985008687907853269984665640564039457584007913129639935) : (b + 1) % 2 ^ 256 = b % 2 ^ 256 + 1 := by omega
theorem addm_succ {a b m : Nat} (h : ¬ m % 2 ^ 256 = 0) (hb : ¬ b % 2 ^ 256 = 115792089237316195423570985008687907853269984665640564039457584007913129639935) : addmN a (b + 1) m = addmN (addmN a b m) 1 m := by
  rw [addm_nz h, addm_nz h, addm_nz h, small_mod h, succ_mod hb, show 1 % 2 ^ 256 = 1 from rfl, Nat.mod_add_mod, Nat.add_assoc]
theorem mulm_succ {a b m : Nat} (h : ¬ m % 2 ^ 256 = 0) (hb : ¬ b % 2 ^ 256 = 115792089237316195423570985008687907853269984665640564039457584007913129639935) : mulmN a (b + 1) m = addmN (mulmN a b m) a m := by
  rw [mulm_nz h, mulm_nz h, addm_nz h, small_mod h, succ_mod hb, Nat.mod_add_mod, Nat.mul_add, Nat.mul_one]

/-! ### Powers -/
theorem pow_mod' (a n : Nat) : (a ^ n % 2 ^ 256) % 2 ^ 256 = a ^ n % 2 ^ 256 := Nat.mod_mod _ _
theorem powN_zero (a : Nat) : powN a 0 % 2 ^ 256 = 1 % 2 ^ 256 := by unfold powN; rw [Nat.zero_mod, Nat.pow_zero, Nat.mod_mod]
theorem powN_one (a : Nat) : powN a 1 % 2 ^ 256 = a % 2 ^ 256 := by unfold powN; rw [show 1 % 2 ^ 256 = 1 from rfl, Nat.pow_one, Nat.mod_mod]
theorem powN_two (a : Nat) : powN a 2 % 2 ^ 256 = a * a % 2 ^ 256 := by unfold powN; rw [show 2 % 2 ^ 256 = 2 from rfl, Nat.pow_two, Nat.mod_mod]
theorem powN_succ {a b : Nat} (hb : ¬ b % 2 ^ 256 = 115792089237316195423570985008687907853269984665640564039457584007913129639935) : powN a (b + 1) % 2 ^ 256 = powN a b * a % 2 ^ 256 := by
  unfold powN; rw [succ_mod hb, Nat.pow_succ, Nat.mod_mod, Nat.mod_mul_mod]
theorem powN_add {a b c : Nat} (h : ¬ (b + c) % 2 ^ 256 < b % 2 ^ 256) : powN a (b + c) % 2 ^ 256 = powN a b * powN a c % 2 ^ 256 := by
  unfold powN; rw [show (b + c) % 2 ^ 256 = b % 2 ^ 256 + c % 2 ^ 256 by omega, Nat.pow_add, Nat.mod_mod, ← Nat.mul_mod]

/-! ### Shifts -/
theorem pow2_small {s : Nat} (h : s % 2 ^ 256 < 256) : powN 2 s = 2 ^ (s % 2 ^ 256) := by
  unfold powN
  exact Nat.mod_eq_of_lt (Nat.pow_lt_pow_right (by omega) h)
theorem shl_pow {s x : Nat} (h : s % 2 ^ 256 < 256) : shlN s x % 2 ^ 256 = x * powN 2 s % 2 ^ 256 := by
  unfold shlN; rw [if_pos h, pow2_small h, Nat.mod_mul_mod]
theorem shr_pow {s x : Nat} (h : s % 2 ^ 256 < 256) : shrN s x = divN x (powN 2 s) := by
  have h1 : powN 2 s % 2 ^ 256 = 2 ^ (s % 2 ^ 256) := by rw [pow2_small h]; exact Nat.mod_eq_of_lt (Nat.pow_lt_pow_right (by omega) h)
  have h2 : 2 ^ (s % 2 ^ 256) > 0 := Nat.pow_pos (by omega)
  rw [divN_nz (by omega), h1]
  unfold shrN; rw [if_pos h]
theorem shlN_congr {s t x : Nat} (h : s % 2 ^ 256 = t % 2 ^ 256) : shlN s x = shlN t x := by unfold shlN; rw [h]
theorem shrN_congr {s t x : Nat} (h : s % 2 ^ 256 = t % 2 ^ 256) : shrN s x = shrN t x := by unfold shrN; rw [h]
theorem sarN_congr {s t x : Nat} (h : s % 2 ^ 256 = t % 2 ^ 256) : sarN s x = sarN t x := by unfold sarN; rw [shrN_congr h, shrN_congr h]
theorem ext_amount {k : Nat} (h : k % 2 ^ 256 < 31) : dif 248 (k * 8) % 2 ^ 256 = (248 - 8 * (k % 2 ^ 256)) % 2 ^ 256 := by unfold dif; omega
theorem sx_shift {k x : Nat} (h : k % 2 ^ 256 < 31) : sxN k x = sarN (dif 248 (k * 8)) (shlN (dif 248 (k * 8)) x) := by
  unfold sxN; rw [if_pos h, sarN_congr (ext_amount h), shlN_congr (ext_amount h)]
theorem sx_bit {k x : Nat} (h : k % 2 ^ 256 < 31) (i : Nat) (hi : i < 256) : (sxN k x).testBit i = if i < 8 * (k % 2 ^ 256) + 8 then x.testBit i else x.testBit (8 * (k % 2 ^ 256) + 7) := by
  unfold sxN
  generalize hn : k % 2 ^ 256 = n at h
  rw [if_pos h]
  have hs : (248 - 8 * n) % 2 ^ 256 = 248 - 8 * n := Nat.mod_eq_of_lt (by omega)
  rw [sarN_testBit _ _ i hi, hs]
  by_cases h2 : i < 8 * n + 8
  · rw [if_pos (show 248 - 8 * n < 256 ∧ i + (248 - 8 * n) < 256 by omega), if_pos h2, shlN_testBit _ _ _ (by omega), hs, show i + (248 - 8 * n) - (248 - 8 * n) = i by omega]
    have h3 : 248 - 8 * n < 256 := by omega
    have h4 : 248 - 8 * n ≤ i + (248 - 8 * n) := by omega
    simp [h3]
  · rw [if_neg (show ¬ (248 - 8 * n < 256 ∧ i + (248 - 8 * n) < 256) by omega), if_neg h2, ← sgn_testBit, shlN_testBit _ _ _ (by omega), hs, show 255 - (248 - 8 * n) = 8 * n + 7 by omega]
    have h3 : 248 - 8 * n < 256 := by omega
    have h4 : 248 ≤ 255 + 8 * n := by omega
    simp [h3, h4]
theorem sx_again {k x : Nat} (h : k % 2 ^ 256 < 31) : sxN k (sxN k x) % 2 ^ 256 = sxN k x % 2 ^ 256 := mod_bits fun i hi => by
  rw [sx_bit h i hi]
  split
  · rfl
  · rename_i h2
    rw [sx_bit h i hi, if_neg h2, sx_bit h _ (by omega), if_pos (by omega)]

/-! ### Orders -/
def wcmp (x y : Nat) : Int := if x % 2 ^ 256 = y % 2 ^ 256 then 0 else if x % 2 ^ 256 < y % 2 ^ 256 then -1 else 1
theorem wcmp_flip (x y : Nat) : wcmp y x = - wcmp x y := by unfold wcmp; split <;> split <;> (try split) <;> (try split) <;> omega
theorem wcmp_zero (x y : Nat) : wcmp x y = 0 ↔ x % 2 ^ 256 = y % 2 ^ 256 := by unfold wcmp; split <;> (try split) <;> omega
theorem wcmp_neg (x y : Nat) : wcmp x y < 0 ↔ x % 2 ^ 256 < y % 2 ^ 256 := by unfold wcmp; split <;> (try split) <;> omega
theorem wcmp_pos (x y : Nat) : wcmp x y > 0 ↔ y % 2 ^ 256 < x % 2 ^ 256 := by unfold wcmp; split <;> (try split) <;> omega
theorem wcmp_fit (x y : Nat) : -1 ≤ wcmp x y ∧ wcmp x y ≤ 1 := by unfold wcmp; split <;> (try split) <;> omega
theorem neqB_same {p q : Prop} [Decidable p] [Decidable q] (h : p ↔ q) : (!(decide p == decide q)) = false := by
  by_cases hp : p
  · have hq := h.1 hp; simp [hp, hq]
  · have hq : ¬ q := fun x => hp (h.2 x)
    simp [hp, hq]
theorem eqB_same {p q : Prop} [Decidable p] [Decidable q] (h : p ↔ q) : (decide p == decide q) = true := by
  by_cases hp : p
  · have hq := h.1 hp; simp [hp, hq]
  · have hq : ¬ q := fun x => hp (h.2 x)
    simp [hp, hq]
theorem xor_high {r : Nat} (h : r < 2 ^ 255) : r ^^^ 2 ^ 255 = r + 2 ^ 255 := by
  have e := Nat.two_pow_add_eq_or_of_lt h 1
  rw [Nat.mul_one] at e
  rw [Nat.add_comm, e]
  refine Nat.eq_of_testBit_eq fun i => ?_
  rw [Nat.testBit_xor, Nat.testBit_or, Nat.testBit_two_pow]
  by_cases hi : 255 = i
  · subst hi; rw [Nat.testBit_lt_two_pow h]; simp
  · simp [hi]
theorem xor_top (a : Nat) : (a ^^^ 2 ^ 255) % 2 ^ 256 = if sgn a then a % 2 ^ 256 - 2 ^ 255 else a % 2 ^ 256 + 2 ^ 255 := by
  rw [Nat.xor_mod_two_pow, show 2 ^ 255 % 2 ^ 256 = 2 ^ 255 from rfl]
  have hlt := Nat.mod_lt a (show 2 ^ 256 > 0 by omega)
  split
  · rename_i h
    unfold sgn at h
    have h1 := xor_high (r := a % 2 ^ 256 - 2 ^ 255) (by omega)
    rw [show a % 2 ^ 256 - 2 ^ 255 + 2 ^ 255 = a % 2 ^ 256 by omega] at h1
    rw [← h1, Nat.xor_assoc, Nat.xor_self, Nat.xor_zero]
    omega
  · rename_i h
    unfold sgn at h
    exact xor_high (by omega)
theorem slt_xor (a b : Nat) : sltP a b ↔ (a ^^^ 2 ^ 255) % 2 ^ 256 < (b ^^^ 2 ^ 255) % 2 ^ 256 := by
  rw [xor_top, xor_top]
  unfold sltP
  have hla := Nat.mod_lt a (show 2 ^ 256 > 0 by omega)
  have hlb := Nat.mod_lt b (show 2 ^ 256 > 0 by omega)
  by_cases ha : sgn a <;> by_cases hb : sgn b <;> simp only [ha, hb, decide_true, decide_false, if_true, if_false, not_true_eq_false, not_false_eq_true, reduceCtorEq, true_iff, false_iff] <;> (unfold sgn at ha hb; omega)
end Go.Fw
