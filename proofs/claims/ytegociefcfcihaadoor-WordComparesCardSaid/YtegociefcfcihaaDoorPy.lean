/-
  Plain laws of rows of digits: taking away, times, dividing, bits; comparing.
  No condition: plain lemmas.
-/
import Derived.Test.YtegociefcfcihaaDoorPx
namespace Go.Fw
open Go
theorem wcmp_ref (x y : Nat) : wcmp x y = cmpN (x % 2 ^ 256) (y % 2 ^ 256) := by
  unfold wcmp cmpN
  split
  · rw [if_neg (by omega), if_neg (by omega)]
  · split
    · rfl
    · rw [if_pos (by omega)]
theorem cmpN_zero (a b : Nat) : cmpN a b = 0 ↔ a = b := by unfold cmpN; split <;> (try split) <;> omega
theorem minus_step {xs0 xs1 zs : List Nat} {i b d b' : Nat} (hl : zs.length = i) (hv : vl zs + vl (xs1.take i) = vl (xs0.take i) + b * 256 ^ i) (he : xs0.getD i 0 + 256 * b' = xs1.getD i 0 + b + d) :
    vl (zs ++ [d]) + vl (xs1.take (i + 1)) = vl (xs0.take (i + 1)) + b' * 256 ^ (i + 1) := by
  rw [vl_append, hl, vl_take_succ, vl_take_succ, Nat.pow_succ]
  have h1 : vl [d] = d := by simp [vl]
  have h2 := congrArg (· * 256 ^ i) he
  simp only [Nat.add_mul] at h2
  rw [h1]
  grind
theorem minus_end {xs0 xs1 zs : List Nat} {b : Nat} (hz : Dg zs) (hv : vl zs + vl xs1 = vl xs0 + b * 256 ^ zs.length) (hle : vl xs1 ≤ vl xs0) : vl zs = vl xs0 - vl xs1 := by
  have := vl_lt hz
  rcases Nat.eq_zero_or_pos b with h | h
  · subst h; omega
  · have : 256 ^ zs.length ≤ b * 256 ^ zs.length := Nat.le_mul_of_pos_left _ h
    omega
/-! ### A number's digits -/
theorem small_snoc (n k : Nat) : n % 256 ^ k + n / 256 ^ k % 256 * 256 ^ k = n % 256 ^ (k + 1) := by
  rw [Nat.pow_succ, Nat.mod_mul, Nat.mul_comm (256 ^ k)]
theorem small_len {n m k : Nat} (hn : n < 9223372036854775808) (hl : k ≤ 8) (hm : m = n / 256 ^ k) (h : 0 < m) : k < 8 := by
  rcases Nat.lt_or_ge k 8 with h8 | h8
  · exact h8
  · obtain rfl : k = 8 := by omega
    have : n / 256 ^ 8 = 0 := Nat.div_eq_of_lt (Nat.lt_trans hn (by decide))
    omega
/-! ### Times -/
theorem dq_zeros (b : Nat) (h : 0 < b := by decide) (n : Nat) : Dq b (List.replicate n 0) := fun x hx => by
  rw [List.eq_of_mem_replicate hx]; exact h
theorem getD_replicate0 (n q : Nat) : (List.replicate n 0).getD q 0 = 0 := by
  rw [List.getD_eq_getElem?_getD, List.getElem?_replicate]; split <;> rfl
theorem dg_of {xs : List Nat} (h : Dq 256 xs) : Dg xs := h
theorem times_round {xs0 xs1 ps ps' : List Nat} {i k c c' : Nat} (hs : vq 256 ps' + c' * 256 ^ (i + k + 1) = vq 256 ps + c * 256 ^ (i + k) + xs0.getD i 0 * xs1.getD k 0 * 256 ^ (i + k))
    (hv : vq 256 ps + c * 256 ^ (i + k) = vl (xs0.take i) * vl xs1 + xs0.getD i 0 * vl (xs1.take k) * 256 ^ i) :
    vq 256 ps' + c' * 256 ^ (i + (k + 1)) = vl (xs0.take i) * vl xs1 + xs0.getD i 0 * vl (xs1.take (k + 1)) * 256 ^ i := by
  rw [← Nat.add_assoc i k 1, hs, hv, vl_take_succ, Nat.pow_add]
  generalize 256 ^ i = a
  generalize 256 ^ k = b
  grind
theorem times_zero {ps : List Nat} {n0 n1 i k v : Nat} (hl : ps.length = n0 + n1 + 1) (hk : k ≤ n1 ∧ i < n0) (hz : ∀ q, i + n1 + (if k ≤ n1 then 0 else 1) ≤ q → ps.getD q 0 = 0) : ∀ q, i + n1 + (if k + 1 ≤ n1 then 0 else 1) ≤ q → (ps.set (i + k) v).getD q 0 = 0 := fun q hq => by
  rw [getD_set _ _ _ _ (by omega), if_neg (by split at hq <;> omega)]
  refine hz q ?_
  rw [if_pos hk.1]
  split at hq <;> omega
theorem times_val {xs0 xs1 ps : List Nat} {i c : Nat} (hv : vq 256 ps + c * 256 ^ (i + (xs1.length + 1)) = vl (xs0.take i) * vl xs1 + xs0.getD i 0 * vl (xs1.take (xs1.length + 1)) * 256 ^ i) :
    vq 256 ps + c * 256 ^ (i + (xs1.length + 1)) = vl (xs0.take (i + 1)) * vl xs1 := by
  rw [vl_take_all xs1 _ (by omega)] at hv
  rw [hv, vl_take_succ, Nat.add_mul]
  generalize 256 ^ i = a
  grind
theorem times_carry {xs0 xs1 ps : List Nat} {i c : Nat} (hx0 : Dg xs0) (hx1 : Dg xs1) (hv : vq 256 ps + c * 256 ^ (i + (xs1.length + 1)) = vl (xs0.take i) * vl xs1 + xs0.getD i 0 * vl (xs1.take (xs1.length + 1)) * 256 ^ i) : c = 0 := by
  have h := times_val hv
  have h0 := vl_take_lt hx0 (i + 1)
  have h1 := vl_lt hx1
  have h2 := Nat.mul_lt_mul'' h0 h1
  rw [← Nat.pow_add, show i + 1 + xs1.length = i + (xs1.length + 1) by omega] at h2
  rcases Nat.eq_zero_or_pos c with hc | hc
  · exact hc
  · have : 256 ^ (i + (xs1.length + 1)) ≤ c * 256 ^ (i + (xs1.length + 1)) := Nat.le_mul_of_pos_left _ hc
    omega
theorem times_done {xs0 xs1 ps : List Nat} {i c : Nat} (hv : vq 256 ps + c * 256 ^ (i + (xs1.length + 1)) = vl (xs0.take i) * vl xs1 + xs0.getD i 0 * vl (xs1.take (xs1.length + 1)) * 256 ^ i) (hc : c = 0) : vq 256 ps = vl (xs0.take (i + 1)) * vl xs1 := by
  have h := times_val hv
  rw [hc, Nat.zero_mul, Nat.add_zero] at h
  exact h
end Go.Fw
