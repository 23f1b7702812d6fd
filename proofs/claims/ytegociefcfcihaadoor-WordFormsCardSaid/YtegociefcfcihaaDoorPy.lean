/-
  Plain laws of rows of digits: taking away, times, dividing, bits; comparing.
  No condition: plain lemmas.
-/
import Derived.Test.YtegociefcfcihaaDoorPx
namespace Go.Fw
open Go
theorem wcmp_ref (x y : Nat) : wcmp x y = cmpN (x % 2 ^ 256) (y % 2 ^ 256) := by
  unfold wcmp cmpN
  split
  · rw [if_neg (by omega), if_neg (by omega)]
  · split
    · rfl
    · rw [if_pos (by omega)]
theorem cmpN_zero (a b : Nat) : cmpN a b = 0 ↔ a = b := by unfold cmpN; split <;> (try split) <;> omega
theorem minus_step {xs0 xs1 zs : List Nat} {i b d b' : Nat} (hl : zs.length = i) (hv : vl zs + vl (xs1.take i) = vl (xs0.take i) + b * 256 ^ i) (he : xs0.getD i 0 + 256 * b' = xs1.getD i 0 + b + d) :
    vl (zs ++ [d]) + vl (xs1.take (i + 1)) = vl (xs0.take (i + 1)) + b' * 256 ^ (i + 1) := by
  rw [vl_append, hl, vl_take_succ, vl_take_succ, Nat.pow_succ]
  have h1 : vl [d] = d := by simp [vl]
  have h2 := congrArg (· * 256 ^ i) he
  simp only [Nat.add_mul] at h2
  rw [h1]
  grind
theorem minus_end {xs0 xs1 zs : List Nat} {b : Nat} (hz : Dg zs) (hv : vl zs + vl xs1 = vl xs0 + b * 256 ^ zs.length) (hle : vl xs1 ≤ vl xs0) : vl zs = vl xs0 - vl xs1 := by
  have := vl_lt hz
  rcases Nat.eq_zero_or_pos b with h | h
  · subst h; omega
  · have : 256 ^ zs.length ≤ b * 256 ^ zs.length := Nat.le_mul_of_pos_left _ h
    omega
/-! ### A number's digits -/
theorem small_snoc (n k : Nat) : n % 256 ^ k + n / 256 ^ k % 256 * 256 ^ k = n % 256 ^ (k + 1) := by
  rw [Nat.pow_succ, Nat.mod_mul, Nat.mul_comm (256 ^ k)]
theorem small_len {n m k : Nat} (hn : n < 9223372036854775808) (hl : k ≤ 8) (hm : m = n / 256 ^ k) (h : 0 < m) : k < 8 := by
  rcases Nat.lt_or_ge k 8 with h8 | h8
  · exact h8
  · obtain rfl : k = 8 := by omega
    have : n / 256 ^ 8 = 0 := Nat.div_eq_of_lt (Nat.lt_trans hn (by decide))
    omega
/-! ### Times -/
theorem dq_zeros (b : Nat) (h : 0 < b := by decide) (n : Nat) : Dq b (List.replicate n 0) := fun x hx => by
  rw [List.eq_of_mem_replicate hx]; exact h
theorem getD_replicate0 (n q : Nat) : (List.replicate n 0).getD q 0 = 0 := by
  rw [List.getD_eq_getElem?_getD, List.getElem?_replicate]; split <;> rfl
theorem dg_of {xs : List Nat} (h : Dq 256 xs) : Dg xs := h
theorem times_round {xs0 xs1 ps ps' : List Nat} {i k c c' : Nat} (hs : vq 256 ps' + c' * 256 ^ (i + k + 1) = vq 256 ps + c * 256 ^ (i + k) + xs0.getD i 0 * xs1.getD k 0 * 256 ^ (i + k))
    (hv : vq 256 ps + c * 256 ^ (i + k) = vl (xs0.take i) * vl xs1 + xs0.getD i 0 * vl (xs1.take k) * 256 ^ i) :
    vq 256 ps' + c' * 256 ^ (i + (k + 1)) = vl (xs0.take i) * vl xs1 + xs0.getD i 0 * vl (xs1.take (k + 1)) * 256 ^ i := by
  rw [← Nat.add_assoc i k 1, hs, hv, vl_take_succ, Nat.pow_add]
  generalize 256 ^ i = a
  generalize 256 ^ k = b
  grind
theorem times_zero {ps : List Nat} {n0 n1 i k v : Nat} (hl : ps.length = n0 + n1 + 1) (hk : k ≤ n1 ∧ i < n0) (hz : ∀ q, i + n1 + (if k ≤ n1 then 0 else 1) ≤ q → ps.getD q 0 = 0) : ∀ q, i + n1 + (if k + 1 ≤ n1 then 0 else 1) ≤ q → (ps.set (i + k) v).getD q 0 = 0 := fun q hq => by
  rw [getD_set _ _ _ _ (by omega), if_neg (by split at hq <;> omega)]
  refine hz q ?_
  rw [if_pos hk.1]
  split at hq <;> omega
theorem times_val {xs0 xs1 ps : List Nat} {i c : Nat} (hv : vq 256 ps + c * 256 ^ (i + (xs1.length + 1)) = vl (xs0.take i) * vl xs1 + xs0.getD i 0 * vl (xs1.take (xs1.length + 1)) * 256 ^ i) :
    vq 256 ps + c * 256 ^ (i + (xs1.length + 1)) = vl (xs0.take (i + 1)) * vl xs1 := by
  rw [vl_take_all xs1 _ (by omega)] at hv
  rw [hv, vl_take_succ, Nat.add_mul]
  generalize 256 ^ i = a
  grind
theorem times_carry {xs0 xs1 ps : List Nat} {i c : Nat} (hx0 : Dg xs0) (hx1 : Dg xs1) (hv : vq 256 ps + c * 256 ^ (i + (xs1.length + 1)) = vl (xs0.take i) * vl xs1 + xs0.getD i 0 * vl (xs1.take (xs1.length + 1)) * 256 ^ i) : c = 0 := by
  have h := times_val hv
  have h0 := vl_take_lt hx0 (i + 1)
  have h1 := vl_lt hx1
  have h2 := Nat.mul_lt_mul'' h0 h1
  rw [← Nat.pow_add, show i + 1 + xs1.length = i + (xs1.length + 1) by omega] at h2
  rcases Nat.eq_zero_or_pos c with hc | hc
  · exact hc
  · have : 256 ^ (i + (xs1.length + 1)) ≤ c * 256 ^ (i + (xs1.length + 1)) := Nat.le_mul_of_pos_left _ hc
    omega
theorem times_done {xs0 xs1 ps : List Nat} {i c : Nat} (hv : vq 256 ps + c * 256 ^ (i + (xs1.length + 1)) = vl (xs0.take i) * vl xs1 + xs0.getD i 0 * vl (xs1.take (xs1.length + 1)) * 256 ^ i) (hc : c = 0) : vq 256 ps = vl (xs0.take (i + 1)) * vl xs1 := by
  have h := times_val hv
  rw [hc, Nat.zero_mul, Nat.add_zero] at h
  exact h
/-! ### Bits -/
theorem bit_digit (V i : Nat) : V / 256 ^ (i / 8) % 256 / 2 ^ (i % 8) % 2 = V / 2 ^ i % 2 := by
  have h8 : i % 8 < 8 := Nat.mod_lt _ (by omega)
  have e : (256 : Nat) ^ (i / 8) = 2 ^ (8 * (i / 8)) := by rw [Nat.pow_mul]
  rw [bit_testBit, bit_testBit, show (256 : Nat) = 2 ^ 8 by decide, Nat.testBit_mod_two_pow, ← show (256 : Nat) = 2 ^ 8 by decide, e, Nat.testBit_div_two_pow, show i % 8 + 8 * (i / 8) = i by omega]
  simp [h8]
/-! ### Dividing -/
theorem cut_facts {xs zs : List Nat} {n : Nat} (hz : zs = xs.take n) (hx : Dg xs) (hlt : vl xs < 256 ^ n) : Dg zs ∧ zs.length ≤ n ∧ vl zs = vl xs := by
  subst hz
  exact ⟨hx.take n, by rw [List.length_take]; omega, by rw [vl_take_mod hx, Nat.mod_eq_of_lt hlt]⟩
theorem div_room {R b : Nat} {ds : List Nat} (hd : Dg ds) (hR : R < vl ds) (hb : b ≤ 1) : 2 * R + b < 256 ^ (ds.length + 2) := by
  have := vl_lt hd
  rw [Nat.pow_add]
  omega
theorem div_lt {N D k R : Nat} (hD : 0 < D) (hR : R = N / 2 ^ (k + 1) % D) (h : 2 * R + N / 2 ^ k % 2 < D) : 2 * R + N / 2 ^ k % 2 = N / 2 ^ k % D ∧ hb (N / D) (k + 1) = hb (N / D) k := by
  have := div_step N D k hD
  rw [← hR, if_pos h, if_pos h] at this
  exact ⟨this.1.symm, (hb_lim0 this.2).symm⟩
theorem div_ge {N D k R : Nat} (hD : 0 < D) (hR : R = N / 2 ^ (k + 1) % D) (h : D ≤ 2 * R + N / 2 ^ k % 2) : 2 * R + N / 2 ^ k % 2 - D = N / 2 ^ k % D ∧ hb (N / D) (k + 1) + 2 ^ k = hb (N / D) k := by
  have := div_step N D k hD
  rw [← hR, if_neg (by omega), if_neg (by omega)] at this
  refine ⟨this.1.symm, ?_⟩
  rw [hb_step (N / D) k, this.2, Nat.one_mul]
theorem dig_room (Q k : Nat) : hb Q (k + 1) / 256 ^ (k / 8) % 256 + 2 ^ (k % 8) < 256 := by
  have hr : k % 8 < 8 := Nat.mod_lt _ (by omega)
  have hk : k = 8 * (k / 8) + k % 8 := by omega
  generalize hq : k / 8 = q at *
  generalize hr' : k % 8 = r at *
  have e0 : (256 : Nat) ^ q = 2 ^ (8 * q) := by rw [Nat.pow_mul]
  have e1 : hb Q (k + 1) / 256 ^ q = Q / 2 ^ (k + 1) * 2 ^ (r + 1) := by
    unfold hb
    rw [show 2 ^ (k + 1) = 2 ^ (r + 1) * 256 ^ q by rw [e0, ← Nat.pow_add, show r + 1 + 8 * q = k + 1 by omega]]
    rw [← Nat.mul_assoc, Nat.mul_div_cancel _ (Nat.pow_pos (by omega))]
  rw [e1]
  generalize Q / 2 ^ (k + 1) = A
  have e2 : (256 : Nat) = 2 ^ (7 - r) * 2 ^ (r + 1) := by rw [← Nat.pow_add, show 7 - r + (r + 1) = 8 by omega]
  have e3 : A * 2 ^ (r + 1) % 256 = A % 2 ^ (7 - r) * 2 ^ (r + 1) := by
    rw [e2]; exact Nat.mul_mod_mul_right _ _ _
  rw [e3]
  have h3 : A % 2 ^ (7 - r) + 1 ≤ 2 ^ (7 - r) := Nat.mod_lt _ (Nat.pow_pos (by omega))
  have h4 := Nat.mul_le_mul_right (2 ^ (r + 1)) h3
  rw [← e2, Nat.add_mul, Nat.one_mul, Nat.pow_succ] at h4
  have h5 : 0 < 2 ^ r := Nat.pow_pos (by omega)
  rw [Nat.pow_succ]
  omega
theorem div_set {qs : List Nat} {Q k : Nat} (hq : Dg qs) (hv : vl qs = hb Q (k + 1)) (hl : k / 8 < qs.length) : Dg (qs.set (k / 8) (qs.getD (k / 8) 0 + 2 ^ (k % 8))) ∧ vl (qs.set (k / 8) (qs.getD (k / 8) 0 + 2 ^ (k % 8))) = hb Q (k + 1) + 2 ^ k := by
  have h1 := dig_room Q k
  have h2 := vl_get hq (k / 8)
  rw [hv] at h2
  refine ⟨hq.set _ (by rw [h2]; exact h1), ?_⟩
  have h3 := vl_set qs (k / 8) (qs.getD (k / 8) 0 + 2 ^ (k % 8)) hl
  have h4 : 2 ^ (k % 8) * 256 ^ (k / 8) = 2 ^ k := by
    rw [show (256 : Nat) = 2 ^ 8 by decide, ← Nat.pow_mul, ← Nat.pow_add, show k % 8 + 8 * (k / 8) = k by omega]
  rw [Nat.add_mul, h4, hv] at h3
  omega
theorem bits_small {xs : List Nat} (h : Dg xs) : vl xs < 2 ^ (8 * xs.length) := by
  rw [Nat.pow_mul]; exact vl_lt h
theorem div_small {xs : List Nat} {d : Nat} (h : Dg xs) : vl xs / d < 2 ^ (8 * xs.length) := Nat.lt_of_le_of_lt (Nat.div_le_self _ _) (bits_small h)
theorem vl_zeros (n : Nat) : vl (List.replicate n 0) = 0 := by rw [← vq_vl]; exact vq_zeros 256 n
theorem cut_mod {xs zs : List Nat} (hz : zs = xs.take 32) (hx : Dg xs) : Dg zs ∧ zs.length ≤ 32 ∧ vl zs = vl xs % 2 ^ 256 := by
  subst hz
  exact ⟨hx.take _, by rw [List.length_take]; omega, by rw [vl_take_mod hx]⟩
theorem pow_bit1 (a E k : Nat) (h : E / 2 ^ k % 2 = 1) : (a ^ (E / 2 ^ (k + 1)) % 2 ^ 256 * (a ^ (E / 2 ^ (k + 1)) % 2 ^ 256) % 2 ^ 256) * (a % 2 ^ 256) % 2 ^ 256 = a ^ (E / 2 ^ k) % 2 ^ 256 := by
  have h1 := pow_high a E k
  rw [if_pos h] at h1
  rw [h1, Nat.mul_mod_mod]
theorem pow_bit0 (a E k : Nat) (h : ¬ E / 2 ^ k % 2 = 1) : a ^ (E / 2 ^ (k + 1)) % 2 ^ 256 * (a ^ (E / 2 ^ (k + 1)) % 2 ^ 256) % 2 ^ 256 = a ^ (E / 2 ^ k) % 2 ^ 256 := by
  have h1 := pow_high a E k
  rw [if_neg h] at h1
  exact h1.symm
end Go.Fw
