/-
  Plain laws for the document's signed reckoning and its bits.
  No condition: plain lemmas.
-/
import Derived.Test.YtegociefcfcihaaDoorPy
namespace Go.Fw
open Go
theorem absN_small (x : Nat) : absN x % 2 ^ 256 = absN x := Nat.mod_eq_of_lt (by have := absN_le x; omega)
theorem sdivN_zero {a b : Nat} (h : absN b = 0) : 0 % 2 ^ 256 = sdivN a b % 2 ^ 256 := by
  have h1 : divN (absN a) (absN b) = 0 := by unfold divN; rw [if_pos (by rw [absN_small]; exact h)]
  unfold sdivN
  rw [h1]
  split
  · rw [negN_mod, if_pos (Nat.zero_mod _)]
  · rfl
theorem sdivN_nz {a b : Nat} (h : ¬ absN b = 0) : sdivN a b = if ¬ decide (sgn a) = decide (sgn b) then negN (absN a / absN b) else absN a / absN b := by
  unfold sdivN
  rw [divN_nz (by rw [absN_small]; exact h), absN_small, absN_small]
theorem smodN_zero {a b : Nat} (h : absN b = 0) : 0 % 2 ^ 256 = smodN a b % 2 ^ 256 := by
  have h1 : modN (absN a) (absN b) = 0 := by unfold modN; rw [if_pos (by rw [absN_small]; exact h)]
  unfold smodN
  rw [h1]
  split
  · rw [negN_mod, if_pos (Nat.zero_mod _)]
  · rfl
theorem smodN_nz {a b : Nat} (h : ¬ absN b = 0) : smodN a b = if sgn a then negN (absN a % absN b) else absN a % absN b := by
  unfold smodN
  rw [modN_nz (by rw [absN_small]; exact h), absN_small, absN_small]
theorem put_whole (cs vs : List Value) (h : cs.length = vs.length) : put cs 0 vs = vs := by
  unfold put
  rw [List.take_zero, List.nil_append, Nat.zero_add, List.drop_eq_nil_of_le (by omega), List.append_nil]
theorem set_bits {ys : List Nat} {f : Nat → Nat} {i v : Nat} (hl : ys.length = 256) (hi : i < 256) (hy : ∀ q, q < i → ys.getD q 0 = f q) (hv : v = f i) : ∀ q, q < i + 1 → (ys.set i v).getD q 0 = f q := fun q hq => by
  rw [getD_set _ _ _ _ (by omega)]
  split
  · rename_i h; subst h; exact hv
  · exact hy q (by omega)
theorem set_rest {ys : List Nat} {f : Nat → Nat} {i v : Nat} (hl : ys.length = 256) (hi : i < 256) (hz : ∀ q, i ≤ q → q < 256 → ys.getD q 0 = f q) : ∀ q, i + 1 ≤ q → q < 256 → (ys.set i v).getD q 0 = f q := fun q h1 h2 => by
  rw [getD_set _ _ _ _ (by omega), if_neg (by omega)]; exact hz q (by omega) h2
theorem dq_of {ys : List Nat} {f : Nat → Nat} (hl : ys.length = 256) (hy : ∀ q, q < 256 → ys.getD q 0 = f q) (hf : ∀ q, f q ≤ 1) : Dq 2 ys := fun x hx => by
  obtain ⟨i, hi, rfl⟩ := List.mem_iff_getElem.1 hx
  have h1 := hy i (by omega)
  have h2 := hf i
  rw [List.getD_eq_getElem?_getD, List.getElem?_eq_getElem hi, Option.getD_some] at h1
  omega
theorem bit_and_le {a b : Nat} (ha : a ≤ 1) (hb : b ≤ 1) : a * b ≤ 1 := Nat.mul_le_mul ha hb
theorem bit_or_le {a b : Nat} (ha : a ≤ 1) (hb : b ≤ 1) : a * b ≤ a ∧ a + b - a * b ≤ 1 := by
  have h1 : a = 0 ∨ a = 1 := by omega
  rcases h1 with rfl | rfl <;> simp <;> omega
theorem dig_step {V j : Nat} {ds bs : List Nat} (hl : ds.length = 32) (hj : j < 256) (hd : ∀ q, q < 32 → ds.getD q 0 = digF V (j + 1) q) (hb : bs.getD j 0 = V / 2 ^ j % 2) : ∀ q, q < 32 → (ds.set (j / 8) (2 * ds.getD (j / 8) 0 + bs.getD j 0)).getD q 0 = digF V j q := fun q hq => by
  rw [getD_set _ _ _ _ (by omega)]
  split
  · rename_i h; subst h; rw [digF_step V j _ (by omega) (by omega), hd _ hq, hb, Nat.mul_comm]
  · rw [digF_other V j q (by omega)]; exact hd q hq
theorem dgs_of {ds : List Nat} {V : Nat} (hl : ds.length = 32) (hd : ∀ q, q < 32 → ds.getD q 0 = digF V 0 q) : ds = dgs V 32 := by
  apply List.ext_getElem (by rw [dgs_length, hl])
  intro i h1 h2
  have a := hd i (by omega)
  have b := dgs_get V 32 i (by omega)
  rw [digF_zero] at a
  rw [List.getD_eq_getElem?_getD, List.getElem?_eq_getElem h1, Option.getD_some] at a
  rw [List.getD_eq_getElem?_getD, List.getElem?_eq_getElem h2, Option.getD_some] at b
  rw [a, b]
theorem top_step (X i : Nat) : X / 256 ^ (i + 1) * 256 + X / 256 ^ i % 256 = X / 256 ^ i := by
  rw [Nat.pow_succ, ← Nat.div_div_eq_div_mul, Nat.mul_comm]
  exact Nat.div_add_mod _ _
theorem dig_mod {x i : Nat} (hi : i < 32) : x / 256 ^ i % 256 = x % 2 ^ 256 / 256 ^ i % 256 := by
  rw [← dgs_get x 32 i hi, vl_get (dgs_dg x 32) i, dgs_vl32]
theorem bit_mod (x i : Nat) (hi : i < 256) : x % 2 ^ 256 / 2 ^ i % 2 = x / 2 ^ i % 2 := by
  rw [bit_testBit, bit_testBit, Nat.testBit_mod_two_pow]; simp [hi]
end Go.Fw
