/-
  Plain laws of words, bit by bit: parts and their bits, shifts, signs, powers.
  No condition: plain lemmas.
-/
import Derived.Test.YtegociefcfcihaaDoorPd
set_option linter.unusedVariables false
namespace Go.Fw
open Go

theorem lim_testBit (x i j : Nat) : (lim x i).testBit j = (decide (j < 64) && x.testBit (64 * i + j)) := by
  unfold lim
  rw [← pow64, show (18446744073709551616 : Nat) = 2 ^ 64 by decide, Nat.testBit_mod_two_pow, Nat.testBit_div_two_pow, Nat.add_comm]
theorem lim_bits {x i v : Nat} (h : ∀ j, v.testBit j = (decide (j < 64) && x.testBit (64 * i + j))) : v = lim x i :=
  Nat.eq_of_testBit_eq fun j => by rw [h, lim_testBit]
theorem lim_and (x y i : Nat) : lim (x &&& y) i = lim x i &&& lim y i := Nat.eq_of_testBit_eq fun j => by
  rw [Nat.testBit_and, lim_testBit, lim_testBit, lim_testBit, Nat.testBit_and]
  cases decide (j < 64) <;> simp
theorem lim_or (x y i : Nat) : lim (x ||| y) i = lim x i ||| lim y i := Nat.eq_of_testBit_eq fun j => by
  rw [Nat.testBit_or, lim_testBit, lim_testBit, lim_testBit, Nat.testBit_or]
  cases decide (j < 64) <;> simp
theorem lim_xor (x y i : Nat) : lim (x ^^^ y) i = lim x i ^^^ lim y i := Nat.eq_of_testBit_eq fun j => by
  rw [Nat.testBit_xor, lim_testBit, lim_testBit, lim_testBit, Nat.testBit_xor]
  cases decide (j < 64) <;> simp
def notN (x : Nat) : Nat := 2 ^ 256 - 1 - x % 2 ^ 256
theorem notN_testBit (x j : Nat) : (notN x).testBit j = (decide (j < 256) && !x.testBit j) := by
  have hlt := Nat.mod_lt x (show 2 ^ 256 > 0 by decide)
  unfold notN
  rw [show 2 ^ 256 - 1 - x % 2 ^ 256 = 2 ^ 256 - (x % 2 ^ 256 + 1) by omega, Nat.testBit_two_pow_sub_succ hlt, Nat.testBit_mod_two_pow]
  cases h : decide (j < 256) <;> simp
theorem lim_not (x i : Nat) (h : i < 4) : lim (notN x) i = 18446744073709551615 - lim x i := by
  have hlt := lim_lt x i
  refine (lim_bits fun j => ?_).symm
  rw [show 18446744073709551615 - lim x i = 2 ^ 64 - (lim x i + 1) by omega, Nat.testBit_two_pow_sub_succ (by omega), lim_testBit, notN_testBit]
  by_cases hj : j < 64
  · have : 64 * i + j < 256 := by omega
    simp [hj, this]
  · simp [hj]
theorem notN_lt (x : Nat) : notN x < 2 ^ 256 := by unfold notN; omega
theorem mod_bits {x y : Nat} (h : ∀ j, j < 256 → x.testBit j = y.testBit j) : x % 2 ^ 256 = y % 2 ^ 256 := Nat.eq_of_testBit_eq fun j => by
  rw [Nat.testBit_mod_two_pow, Nat.testBit_mod_two_pow]
  by_cases hj : j < 256
  · simp [hj, h j hj]
  · simp [hj]
/-- A number by its bits. -/
def ofB (f : Nat → Nat) : Nat := vq 2 ((List.range 256).map f)
theorem ofB_eq {z : Nat} {f : Nat → Nat} (h : ∀ i, i < 256 → z / 2 ^ i % 2 = f i) : ofB f = z % 2 ^ 256 := by
  rw [← bitsL_vq]
  unfold ofB bitsL
  congr 1
  exact List.map_congr_left fun i hi => (h i (by simpa using hi)).symm
theorem ofB_list {xs : List Nat} {f : Nat → Nat} (hl : xs.length = 256) (h : ∀ i, i < 256 → xs.getD i 0 = f i) : vq 2 xs = ofB f := by
  unfold ofB
  congr 1
  apply List.ext_getElem (by simp [hl])
  intro i h1 h2
  have := h i (by omega)
  simpa [List.getD, h1] using this

/-! ### Shifts -/
def shlN (s x : Nat) : Nat := if s % 2 ^ 256 < 256 then x % 2 ^ 256 * 2 ^ (s % 2 ^ 256) else 0
def shrN (s x : Nat) : Nat := if s % 2 ^ 256 < 256 then x % 2 ^ 256 / 2 ^ (s % 2 ^ 256) else 0
theorem shlN_testBit (s x j : Nat) (hj : j < 256) : (shlN s x).testBit j = (decide (s % 2 ^ 256 < 256) && decide (s % 2 ^ 256 ≤ j) && x.testBit (j - s % 2 ^ 256)) := by
  unfold shlN
  split
  · rename_i h
    rw [Nat.testBit_mul_two_pow, Nat.testBit_mod_two_pow]
    have : j - s % 2 ^ 256 < 256 := by omega
    simp [h, this]
  · rename_i h; simp [h]
theorem shrN_testBit (s x j : Nat) : (shrN s x).testBit j = (decide (s % 2 ^ 256 < 256) && decide (j + s % 2 ^ 256 < 256) && x.testBit (j + s % 2 ^ 256)) := by
  unfold shrN
  split
  · rename_i h
    rw [Nat.testBit_div_two_pow, Nat.testBit_mod_two_pow]
    simp [h]
  · rename_i h; simp [h]
theorem shl_lim {s wh pt : Nat} (x i : Nat) (h : s % 2 ^ 256 = 64 * wh + pt) (hp : pt < 64) (hw : wh < 4) (hi : i < 4) :
    lim (shlN s x) i = if i < wh then 0 else (lim x (i - wh) * 2 ^ pt % 18446744073709551616) ||| (if wh < i then lim x (i - wh - 1) / 2 ^ (64 - pt) else 0) := by
  refine (lim_bits fun j => ?_).symm
  by_cases hj : j < 64
  · rw [shlN_testBit _ _ _ (by omega), h]
    simp only [hj, decide_true, Bool.true_and, show decide (64 * wh + pt < 256) = true from decide_eq_true (by omega)]
    split
    · rename_i h1
      rw [show decide (64 * wh + pt ≤ 64 * i + j) = false from decide_eq_false (by omega)]
      simp
    · rename_i h1
      rw [Nat.testBit_or, show (18446744073709551616 : Nat) = 2 ^ 64 by decide, Nat.testBit_mod_two_pow, Nat.testBit_mul_two_pow, lim_testBit]
      by_cases h2 : pt ≤ j
      · have e3 : 64 * (i - wh) + (j - pt) = 64 * i + j - (64 * wh + pt) := by omega
        have h4 : j - pt < 64 := by omega
        have h6 : 64 * wh + pt ≤ 64 * i + j := by omega
        have h5 : (if wh < i then lim x (i - wh - 1) / 2 ^ (64 - pt) else 0).testBit j = false := by
          split
          · rw [Nat.testBit_div_two_pow, lim_testBit, show decide (j + (64 - pt) < 64) = false from decide_eq_false (by omega)]; rfl
          · simp
        rw [h5, e3]
        simp [hj, h2, h4, h6]
      · have h5 : decide (pt ≤ j) = false := decide_eq_false h2
        rw [h5]
        by_cases h6 : wh < i
        · rw [if_pos h6, Nat.testBit_div_two_pow, lim_testBit]
          have e3 : 64 * (i - wh - 1) + (j + (64 - pt)) = 64 * i + j - (64 * wh + pt) := by omega
          have h7 : j + (64 - pt) < 64 := by omega
          have h8 : 64 * wh + pt ≤ 64 * i + j := by omega
          rw [e3]
          simp [h7, h8]
        · rw [if_neg h6, show decide (64 * wh + pt ≤ 64 * i + j) = false from decide_eq_false (by omega)]
          simp
  · rw [show decide (j < 64) = false from decide_eq_false hj]
    simp only [Bool.false_and]
    split
    · simp
    · rw [Nat.testBit_or, show (18446744073709551616 : Nat) = 2 ^ 64 by decide, Nat.testBit_mod_two_pow, show decide (j < 64) = false from decide_eq_false hj]
      split
      · rw [Nat.testBit_div_two_pow, lim_testBit, show decide (j + (64 - pt) < 64) = false from decide_eq_false (by omega)]; rfl
      · simp
theorem shr_lim {s wh pt : Nat} (x i : Nat) (h : s % 2 ^ 256 = 64 * wh + pt) (hp : pt < 64) (hw : wh < 4) (hi : i < 4) :
    lim (shrN s x) i = if i + wh < 4 then (lim x (i + wh) / 2 ^ pt) ||| (if i + wh < 3 then lim x (i + wh + 1) * 2 ^ (64 - pt) % 18446744073709551616 else 0) else 0 := by
  refine (lim_bits fun j => ?_).symm
  rw [shrN_testBit, h]
  by_cases hj : j < 64
  · simp only [hj, decide_true, Bool.true_and, show decide (64 * wh + pt < 256) = true from decide_eq_true (by omega)]
    split
    · rename_i h1
      rw [Nat.testBit_or, Nat.testBit_div_two_pow, lim_testBit]
      by_cases h2 : j + pt < 64
      · have h3 : (if i + wh < 3 then lim x (i + wh + 1) * 2 ^ (64 - pt) % 18446744073709551616 else 0).testBit j = false := by
          split
          · rw [show (18446744073709551616 : Nat) = 2 ^ 64 by decide, Nat.testBit_mod_two_pow, Nat.testBit_mul_two_pow, show decide (64 - pt ≤ j) = false from decide_eq_false (by omega)]; simp
          · simp
        have e3 : 64 * (i + wh) + (j + pt) = 64 * i + j + (64 * wh + pt) := by omega
        have h4 : 64 * i + j + (64 * wh + pt) < 256 := by omega
        rw [h3, e3]
        simp [h2, h4]
      · rw [show decide (j + pt < 64) = false from decide_eq_false h2]
        by_cases h6 : i + wh < 3
        · rw [if_pos h6, show (18446744073709551616 : Nat) = 2 ^ 64 by decide, Nat.testBit_mod_two_pow, Nat.testBit_mul_two_pow, lim_testBit]
          have e3 : 64 * (i + wh + 1) + (j - (64 - pt)) = 64 * i + j + (64 * wh + pt) := by omega
          have h7 : 64 - pt ≤ j := by omega
          have h8 : 64 * i + j + (64 * wh + pt) < 256 := by omega
          have h9 : j - (64 - pt) < 64 := by omega
          rw [e3]
          simp [hj, h7, h8, h9]
        · rw [if_neg h6, show decide (64 * i + j + (64 * wh + pt) < 256) = false from decide_eq_false (by omega)]
          simp
    · rename_i h1
      rw [show decide (64 * i + j + (64 * wh + pt) < 256) = false from decide_eq_false (by omega)]
      simp
  · rw [show decide (j < 64) = false from decide_eq_false hj]
    simp only [Bool.false_and]
    split
    · rw [Nat.testBit_or, Nat.testBit_div_two_pow, lim_testBit, show decide (j + pt < 64) = false from decide_eq_false (by omega)]
      split
      · rw [show (18446744073709551616 : Nat) = 2 ^ 64 by decide, Nat.testBit_mod_two_pow, show decide (j < 64) = false from decide_eq_false hj]; rfl
      · simp
    · simp
theorem shrN_zero (s x : Nat) (h : ¬ s % 2 ^ 256 < 256) : shrN s x = 0 := by unfold shrN; rw [if_neg h]
theorem shlN_zero (s x : Nat) (h : ¬ s % 2 ^ 256 < 256) : shlN s x = 0 := by unfold shlN; rw [if_neg h]

/-! ### Signs -/
def sgn (x : Nat) : Prop := 2 ^ 255 ≤ x % 2 ^ 256
instance (x : Nat) : Decidable (sgn x) := inferInstanceAs (Decidable (_ ≤ _))
theorem sgn_lim (x : Nat) : sgn x ↔ lim x 3 / 9223372036854775808 = 1 := by unfold sgn lim; omega
theorem sgn_testBit (x : Nat) : x.testBit 255 = decide (sgn x) := by
  rw [Nat.testBit_eq_decide_div_mod_eq]
  unfold sgn
  exact decide_eq_decide.2 (by omega)
def negN (x : Nat) : Nat := dif 0 x
theorem negN_mod (x : Nat) : negN x % 2 ^ 256 = if x % 2 ^ 256 = 0 then 0 else 2 ^ 256 - x % 2 ^ 256 := by unfold negN dif; split <;> omega
def absN (x : Nat) : Nat := if sgn x then 2 ^ 256 - x % 2 ^ 256 else x % 2 ^ 256
theorem absN_le (x : Nat) : absN x ≤ 2 ^ 255 := by unfold absN; split <;> (rename_i h; unfold sgn at h; omega)
theorem absN_zero (x : Nat) : absN x = 0 ↔ x % 2 ^ 256 = 0 := by unfold absN; split <;> (rename_i h; unfold sgn at h; omega)
def divN (x y : Nat) : Nat := if y % 2 ^ 256 = 0 then 0 else x % 2 ^ 256 / (y % 2 ^ 256)
def modN (x y : Nat) : Nat := if y % 2 ^ 256 = 0 then 0 else x % 2 ^ 256 % (y % 2 ^ 256)
def sdivN (a b : Nat) : Nat := if ¬ (decide (sgn a) = decide (sgn b)) then negN (divN (absN a) (absN b)) else divN (absN a) (absN b)
def smodN (a b : Nat) : Nat := if sgn a then negN (modN (absN a) (absN b)) else modN (absN a) (absN b)
def addmN (a b m : Nat) : Nat := if m % 2 ^ 256 = 0 then 0 else (a % 2 ^ 256 + b % 2 ^ 256) % (m % 2 ^ 256)
def mulmN (a b m : Nat) : Nat := if m % 2 ^ 256 = 0 then 0 else (a % 2 ^ 256 * (b % 2 ^ 256)) % (m % 2 ^ 256)
def sarN (s x : Nat) : Nat := if sgn x then notN (shrN s (notN x)) else shrN s x
def sltP (a b : Nat) : Prop := if ¬ (decide (sgn a) = decide (sgn b)) then sgn a else a % 2 ^ 256 < b % 2 ^ 256
instance (a b : Nat) : Decidable (sltP a b) := by unfold sltP; exact inferInstance
theorem sarN_testBit (s x j : Nat) (hj : j < 256) : (sarN s x).testBit j = if s % 2 ^ 256 < 256 ∧ j + s % 2 ^ 256 < 256 then x.testBit (j + s % 2 ^ 256) else decide (sgn x) := by
  unfold sarN
  split
  · rename_i h
    rw [notN_testBit, shrN_testBit, notN_testBit]
    split
    · rename_i h2; simp [hj, h2.1, h2.2]
    · rename_i h2
      rw [decide_eq_true h, decide_eq_true hj]
      by_cases c1 : s % 2 ^ 256 < 256 <;> by_cases c2 : j + s % 2 ^ 256 < 256
      · exact absurd ⟨c1, c2⟩ h2
      · simp [c2]
      · simp [c1]
      · simp [c1]
  · rename_i h
    rw [shrN_testBit]
    split
    · rename_i h2; simp [h2.1, h2.2]
    · rename_i h2
      rw [decide_eq_false h]
      by_cases c1 : s % 2 ^ 256 < 256 <;> by_cases c2 : j + s % 2 ^ 256 < 256
      · exact absurd ⟨c1, c2⟩ h2
      · simp [c2]
      · simp [c1]
      · simp [c1]

/-! ### Powers -/
def powN (x y : Nat) : Nat := x ^ (y % 2 ^ 256) % 2 ^ 256
/-- By squares, from the lowest bit. -/
theorem pow_low (a b : Nat) (X : Nat) : X * a ^ b % 2 ^ 256 = (if b % 2 = 1 then X * a % 2 ^ 256 else X) * (a * a % 2 ^ 256) ^ (b / 2) % 2 ^ 256 := by
  have e : a ^ b = a ^ (b % 2) * (a * a) ^ (b / 2) := by
    conv => lhs; rw [← Nat.div_add_mod b 2]
    rw [Nat.pow_add, Nat.pow_mul, Nat.pow_two, Nat.mul_comm]
  rw [e, ← Nat.mul_assoc]
  have h2 : ∀ Y, Y * (a * a % 2 ^ 256) ^ (b / 2) % 2 ^ 256 = Y * (a * a) ^ (b / 2) % 2 ^ 256 := fun Y => by
    rw [Nat.mul_mod, ← Nat.pow_mod, ← Nat.mul_mod]
  rw [h2]
  rcases Nat.mod_two_eq_zero_or_one b with h | h
  · rw [h, if_neg (by omega)]; simp
  · rw [h, if_pos rfl, Nat.pow_one, Nat.mul_mod (X * a % 2 ^ 256), Nat.mod_mod, ← Nat.mul_mod]
/-- From the highest bit. -/
theorem pow_high (a E i : Nat) : a ^ (E / 2 ^ i) % 2 ^ 256 = (if E / 2 ^ i % 2 = 1 then (a ^ (E / 2 ^ (i + 1)) % 2 ^ 256 * (a ^ (E / 2 ^ (i + 1)) % 2 ^ 256) % 2 ^ 256 * a) % 2 ^ 256 else a ^ (E / 2 ^ (i + 1)) % 2 ^ 256 * (a ^ (E / 2 ^ (i + 1)) % 2 ^ 256) % 2 ^ 256) := by
  have e1 : E / 2 ^ i / 2 = E / 2 ^ (i + 1) := by rw [Nat.div_div_eq_div_mul, Nat.pow_succ]
  have e : E / 2 ^ i = E / 2 ^ (i + 1) + E / 2 ^ (i + 1) + E / 2 ^ i % 2 := by
    have := Nat.div_add_mod (E / 2 ^ i) 2
    rw [e1] at this
    omega
  have h2 : a ^ (E / 2 ^ i) = a ^ (E / 2 ^ (i + 1)) * a ^ (E / 2 ^ (i + 1)) * a ^ (E / 2 ^ i % 2) := by
    conv => lhs; rw [e]
    rw [Nat.pow_add, Nat.pow_add]
  rw [h2]
  generalize a ^ (E / 2 ^ (i + 1)) = Y
  rw [← Nat.mul_mod Y Y]
  rcases Nat.mod_two_eq_zero_or_one (E / 2 ^ i) with h | h
  · rw [h, if_neg (by omega)]; simp
  · rw [h, if_pos rfl, Nat.pow_one, Nat.mod_mul_mod]
end Go.Fw
