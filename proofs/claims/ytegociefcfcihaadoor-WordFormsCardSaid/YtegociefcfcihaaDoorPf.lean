/-
  Plain laws that hold the two ways of reckoning against one another: bits, signs, bytes, leading zeros.
  No condition: plain lemmas.
-/
import Derived.Test.YtegociefcfcihaaDoorPe
set_option linter.unusedVariables false
namespace Go.Fw
open Go
theorem bit_of {z i y j : Nat} (h : z.testBit i = y.testBit j) : z / 2 ^ i % 2 = y / 2 ^ j % 2 := by rw [bit_testBit, bit_testBit, h]
theorem bit_lt (x i : Nat) : x / 2 ^ i % 2 ≤ 1 := by have := Nat.mod_lt (x / 2 ^ i) (show 2 > 0 by omega); omega
theorem ofB_and (x y : Nat) : ofB (fun i => x / 2 ^ i % 2 * (y / 2 ^ i % 2)) = (x &&& y) % 2 ^ 256 := ofB_eq fun i _ => bit_and x y i
theorem ofB_or (x y : Nat) : ofB (fun i => x / 2 ^ i % 2 + y / 2 ^ i % 2 - x / 2 ^ i % 2 * (y / 2 ^ i % 2)) = (x ||| y) % 2 ^ 256 := ofB_eq fun i _ => bit_or x y i
theorem ofB_xor (x y : Nat) : ofB (fun i => (x / 2 ^ i % 2 + y / 2 ^ i % 2) % 2) = (x ^^^ y) % 2 ^ 256 := ofB_eq fun i _ => bit_xor x y i
theorem ofB_not (x : Nat) : ofB (fun i => 1 - x / 2 ^ i % 2) = notN x := by
  rw [ofB_eq (z := notN x) fun i hi => bit_not x i 256 hi]
  exact Nat.mod_eq_of_lt (notN_lt x)
theorem bit_zero (i : Nat) : 0 / 2 ^ i % 2 = 0 := by rw [Nat.zero_div]
theorem ofB_shl (s x k : Nat) (hk : k = min 256 (s % 2 ^ 256)) : ofB (fun i => if k ≤ i then x / 2 ^ (i - k) % 2 else 0) = shlN s x % 2 ^ 256 := ofB_eq fun i hi => by
  rw [bit_testBit, shlN_testBit s x i hi]
  by_cases h : s % 2 ^ 256 < 256
  · have hk2 : k = s % 2 ^ 256 := by omega
    rw [← hk2] at h ⊢
    by_cases h2 : k ≤ i
    · rw [if_pos h2, bit_testBit]; simp [h, h2]
    · rw [if_neg h2]; simp [h2]
  · rw [if_neg (show ¬ k ≤ i by omega)]; simp [h]
theorem ofB_low (s x k : Nat) (hk : k = min 256 (s % 2 ^ 256)) : ofB (fun i => if i + k < 256 then x / 2 ^ (i + k) % 2 else 0) = shrN s x % 2 ^ 256 := ofB_eq fun i hi => by
  rw [bit_testBit, shrN_testBit s x i]
  by_cases h : s % 2 ^ 256 < 256
  · have hk2 : k = s % 2 ^ 256 := by omega
    rw [← hk2] at h ⊢
    by_cases h2 : i + k < 256
    · rw [if_pos h2, bit_testBit]; simp [h, h2]
    · rw [if_neg h2]; simp [h2]
  · rw [if_neg (show ¬ i + k < 256 by omega)]; simp [h]
theorem ofB_sar (s x k : Nat) (hk : k = min 256 (s % 2 ^ 256)) : ofB (fun i => if i + k < 256 then x / 2 ^ (i + k) % 2 else x / 2 ^ 255 % 2) = sarN s x % 2 ^ 256 := ofB_eq fun i hi => by
  rw [bit_testBit, sarN_testBit s x i hi]
  by_cases h : s % 2 ^ 256 < 256 ∧ i + s % 2 ^ 256 < 256
  · rw [if_pos h, if_pos (show i + k < 256 by omega), bit_testBit, show i + k = i + s % 2 ^ 256 by omega]
  · rw [if_neg h, if_neg (show ¬ i + k < 256 by omega), bit_testBit, sgn_testBit]
def sxN (k x : Nat) : Nat := if k % 2 ^ 256 < 31 then sarN (248 - 8 * (k % 2 ^ 256)) (shlN (248 - 8 * (k % 2 ^ 256)) x) else x
theorem ofB_sx (k x n : Nat) (hn : n = k % 2 ^ 256) (h : n < 31) : ofB (fun i => if i < 8 * n + 8 then x / 2 ^ i % 2 else x / 2 ^ (8 * n + 7) % 2) = sxN k x % 2 ^ 256 := ofB_eq fun i hi => by
  unfold sxN
  rw [← hn, if_pos h, bit_testBit]
  have hs : (248 - 8 * n) % 2 ^ 256 = 248 - 8 * n := Nat.mod_eq_of_lt (by omega)
  rw [sarN_testBit _ _ i hi, hs]
  by_cases h2 : i < 8 * n + 8
  · rw [if_pos (show 248 - 8 * n < 256 ∧ i + (248 - 8 * n) < 256 by omega), if_pos h2, shlN_testBit _ _ _ (by omega), hs, bit_testBit, show i + (248 - 8 * n) - (248 - 8 * n) = i by omega]
    have h3 : 248 - 8 * n < 256 := by omega
    have h4 : 248 - 8 * n ≤ i + (248 - 8 * n) := by omega
    simp [h3]
  · rw [if_neg (show ¬ (248 - 8 * n < 256 ∧ i + (248 - 8 * n) < 256) by omega), if_neg h2, ← sgn_testBit, shlN_testBit _ _ _ (by omega), hs, bit_testBit, show 255 - (248 - 8 * n) = 8 * n + 7 by omega]
    have h3 : 248 - 8 * n < 256 := by omega
    have h4 : 248 ≤ 255 + 8 * n := by omega
    simp [h3, h4]
def byteN (i x : Nat) : Nat := if i % 2 ^ 256 < 32 then x / 256 ^ (31 - i % 2 ^ 256) % 256 else 0
/-- Zeros ahead: n of them, where the bit behind is 1. -/
theorem clz_of {x n : Nat} (hn : n ≤ 256) (hz : ∀ t, t < n → x / 2 ^ (255 - t) % 2 = 0) (h : n < 256 → x / 2 ^ (255 - n) % 2 ≠ 0) : n = 256 - bitLen (x % 2 ^ 256) := by
  have hle := bitLen_le256 x
  obtain ⟨h1, h2⟩ := bitLen_spec (x % 2 ^ 256)
  have top : ∀ j, j < 256 → x / 2 ^ j % 2 = x % 2 ^ 256 / 2 ^ j % 2 := fun j hj => by
    rw [bit_testBit, bit_testBit, Nat.testBit_mod_two_pow]; simp [hj]
  generalize hb : bitLen (x % 2 ^ 256) = b at *
  rcases Nat.lt_trichotomy n (256 - b) with h3 | h3 | h3
  · -- the bit at 255 - n is above all
    exfalso
    have := h (by omega)
    rw [top _ (by omega), Nat.div_eq_of_lt] at this
    · simp at this
    · exact Nat.lt_of_lt_of_le h1 (Nat.pow_le_pow_right (by omega) (by omega))
  · exact h3
  · exfalso
    have hb0 : b ≠ 0 := by omega
    have hx : x % 2 ^ 256 ≠ 0 := fun e => by rw [e] at hb; rw [bitLen_zero] at hb; omega
    have h4 := h2 hx
    have h5 := hz (256 - b) h3
    rw [top _ (by omega), show 255 - (256 - b) = b - 1 by omega] at h5
    have h6 : x % 2 ^ 256 / 2 ^ (b - 1) = 1 := by
      have hp : 0 < 2 ^ (b - 1) := Nat.pow_pos (by omega)
      have e : 2 ^ b = 2 ^ (b - 1) * 2 := by rw [← Nat.pow_succ]; congr 1; omega
      have l1 : x % 2 ^ 256 / 2 ^ (b - 1) < 2 := (Nat.div_lt_iff_lt_mul hp).2 (by rw [Nat.mul_comm, ← e]; exact h1)
      have l2 : 1 ≤ x % 2 ^ 256 / 2 ^ (b - 1) := (Nat.le_div_iff_mul_le hp).2 (by omega)
      omega
    rw [h6] at h5; omega
end Go.Fw
