/-
  Plain laws: values in any base, products digit by digit, bits, shifts part by part.
  No condition: plain lemmas.
-/
import Derived.Test.YtegociefcfcihaaDoorFh
set_option linter.unusedVariables false
namespace Go.Fw
open Go

/-! ### Values in a base -/
def vq (b : Nat) : List Nat → Nat
  | [] => 0
  | x :: xs => x + b * vq b xs
theorem vq_vl (xs : List Nat) : vq 256 xs = vl xs := by
  induction xs with
  | nil => rfl
  | cons x xs ih => simp only [vq, vl, ih]
def Dq (b : Nat) (xs : List Nat) : Prop := ∀ x ∈ xs, x < b
theorem Dq.getD {b : Nat} {xs : List Nat} (h : Dq b xs) (hb : 0 < b) (i : Nat) : xs.getD i 0 < b := by
  rw [List.getD_eq_getElem?_getD]
  by_cases hi : i < xs.length
  · simp [hi]; exact h _ (List.getElem_mem hi)
  · simp [List.getElem?_eq_none (Nat.le_of_not_lt hi)]; exact hb
theorem Dq.set {b : Nat} {xs : List Nat} (h : Dq b xs) (i : Nat) {v : Nat} (hv : v < b) : Dq b (xs.set i v) := fun y hy => by
  rcases List.mem_or_eq_of_mem_set hy with h1 | h1
  · exact h y h1
  · omega
theorem vq_set (b : Nat) : ∀ (xs : List Nat) (i v : Nat), i < xs.length → vq b (xs.set i v) + xs.getD i 0 * b ^ i = vq b xs + v * b ^ i
  | [], i, v, h => by simp at h
  | x :: xs, 0, v, h => by simp [vq]; omega
  | x :: xs, i + 1, v, h => by
    have := vq_set b xs i v (by simpa using h)
    simp only [List.set_cons_succ, vq, List.getD_cons_succ, Nat.pow_succ]
    have h2 : b * (vq b (xs.set i v) + xs.getD i 0 * b ^ i) = b * (vq b xs + v * b ^ i) := by rw [this]
    rw [Nat.mul_add, Nat.mul_add] at h2
    rw [← Nat.mul_assoc, ← Nat.mul_assoc, Nat.mul_comm _ b, Nat.mul_comm (v * b ^ i) b]
    omega
theorem vq_append (b : Nat) (xs ys : List Nat) : vq b (xs ++ ys) = vq b xs + vq b ys * b ^ xs.length := by
  induction xs with
  | nil => simp [vq]
  | cons x xs ih =>
    simp only [List.cons_append, vq, ih, List.length_cons, Nat.pow_succ]
    rw [Nat.mul_add, ← Nat.mul_assoc, Nat.mul_comm b (vq b ys), Nat.mul_assoc (vq b ys), Nat.mul_comm b (b ^ _)]
    omega
theorem vq_lt {b : Nat} {xs : List Nat} (h : Dq b xs) (hb : 0 < b) : vq b xs < b ^ xs.length := by
  induction xs with
  | nil => simp [vq]
  | cons x xs ih =>
    have h1 := ih (fun y hy => h y (by simp [hy]))
    have h2 := h x (by simp)
    simp only [vq, List.length_cons, Nat.pow_succ]
    have h3 : b * (vq b xs + 1) ≤ b * b ^ xs.length := Nat.mul_le_mul_left _ h1
    rw [Nat.mul_add, Nat.mul_comm b (b ^ xs.length)] at h3
    omega
theorem vq_take_succ (b : Nat) (xs : List Nat) (i : Nat) : vq b (xs.take (i + 1)) = vq b (xs.take i) + xs.getD i 0 * b ^ i := by
  by_cases hi : i < xs.length
  · rw [List.take_succ_eq_append_getElem hi, vq_append, List.length_take, Nat.min_eq_left (Nat.le_of_lt hi)]
    simp [List.getD, hi, vq]
  · rw [List.take_of_length_le (by omega), List.take_of_length_le (by omega), List.getD_eq_getElem?_getD, List.getElem?_eq_none (by omega)]
    simp
theorem vq_zeros (b n : Nat) : vq b (List.replicate n 0) = 0 := by
  induction n with
  | zero => rfl
  | succ n ih => simp [List.replicate_succ, vq, ih]
/-- The limbs of a word. -/
theorem vq_wl (x : Nat) : vq 18446744073709551616 (wl x) = x % 2 ^ 256 := by
  unfold wl vq vq vq vq vq lim
  omega
theorem wl_dq (x : Nat) : Dq 18446744073709551616 (wl x) := by
  intro y hy
  unfold wl at hy
  simp at hy
  rcases hy with rfl | rfl | rfl | rfl <;> exact lim_lt _ _
theorem vq_get {b : Nat} (hb : 0 < b) : ∀ {xs : List Nat}, Dq b xs → ∀ i, xs.getD i 0 = vq b xs / b ^ i % b
  | [], _, i => by simp [vq]
  | x :: xs, h, 0 => by
    have h2 := h x (by simp)
    simp only [List.getD_cons_zero, vq, Nat.pow_zero, Nat.div_one, Nat.add_mul_mod_self_left]
    exact (Nat.mod_eq_of_lt h2).symm
  | x :: xs, h, i + 1 => by
    have ih := vq_get hb (xs := xs) (fun y hy => h y (by simp [hy])) i
    have h2 := h x (by simp)
    rw [List.getD_cons_succ, ih]
    simp only [vq]
    rw [Nat.pow_succ', ← Nat.div_div_eq_div_mul, Nat.add_mul_div_left _ _ hb, Nat.div_eq_of_lt h2, Nat.zero_add]
/-- One step of a product. -/
theorem mul_step {b : Nat} {ls : List Nat} {j x y c : Nat} (hb : 1 < b) (hl : Dq b ls) (hj : j < ls.length) (hx : x < b) (hy : y < b) (hc : c < b) :
    (ls.getD j 0 + x * y + c) / b < b ∧ Dq b (ls.set j ((ls.getD j 0 + x * y + c) % b)) ∧
    vq b (ls.set j ((ls.getD j 0 + x * y + c) % b)) + (ls.getD j 0 + x * y + c) / b * b ^ (j + 1) = vq b ls + c * b ^ j + x * y * b ^ j := by
  have h1 := hl.getD (by omega) j
  have h2 := vq_set b ls j ((ls.getD j 0 + x * y + c) % b) hj
  have hxy : x * y ≤ (b - 1) * (b - 1) := Nat.mul_le_mul (by omega) (by omega)
  have hbb : (b - 1) * (b - 1) + (b - 1) + (b - 1) + 1 = b * b := by
    obtain ⟨d, rfl⟩ : ∃ d, b = d + 1 := ⟨b - 1, by omega⟩
    simp only [Nat.add_sub_cancel]
    rw [Nat.add_mul, Nat.mul_add]
    omega
  refine ⟨(Nat.div_lt_iff_lt_mul (by omega)).2 (by omega), hl.set j (Nat.mod_lt _ (by omega)), ?_⟩
  generalize hn : ls.getD j 0 + x * y + c = n at *
  have e : n % b * b ^ j + n / b * b ^ (j + 1) = n * b ^ j := by
    rw [Nat.pow_succ, Nat.mul_comm (b ^ j) b, ← Nat.mul_assoc, ← Nat.add_mul]
    congr 1
    rw [Nat.mul_comm (n / b) b, Nat.add_comm]; exact Nat.div_add_mod n b
  have e2 : n * b ^ j = ls.getD j 0 * b ^ j + x * y * b ^ j + c * b ^ j := by rw [← hn, Nat.add_mul, Nat.add_mul]
  omega

/-! ### Bits -/
def bitsL (x n : Nat) : List Nat := (List.range n).map fun i => x / 2 ^ i % 2
theorem bitsL_length (x n : Nat) : (bitsL x n).length = n := by simp [bitsL]
theorem bitsL_get (x n i : Nat) (h : i < n) : (bitsL x n).getD i 0 = x / 2 ^ i % 2 := by simp [bitsL, List.getD, h]
theorem bitsL_far (x n i : Nat) (h : n ≤ i) : (bitsL x n).getD i 0 = 0 := getD_far _ _ (by rw [bitsL_length]; exact h)
theorem bitsL_of {xs : List Nat} {x n : Nat} (hl : xs.length = n) (h : ∀ i, i < n → xs.getD i 0 = x / 2 ^ i % 2) : xs = bitsL x n := by
  apply List.ext_getElem (by rw [bitsL_length, hl])
  intro i h1 h2
  have a := h i (by omega)
  have b := bitsL_get x n i (by omega)
  rw [← b] at a
  simpa [List.getD, h1, h2] using a
theorem bitsL_vq (x n : Nat) : vq 2 (bitsL x n) = x % 2 ^ n := by
  induction n with
  | zero => simp [bitsL, vq, Nat.mod_one]
  | succ n ih =>
    have e : bitsL x (n + 1) = bitsL x n ++ [x / 2 ^ n % 2] := by simp [bitsL, List.range_succ]
    rw [e, vq_append, ih, bitsL_length, Nat.pow_succ, Nat.mod_mul]
    simp [vq, Nat.mul_comm]
theorem bitsL_dq (x n : Nat) : Dq 2 (bitsL x n) := by
  intro y hy
  simp only [bitsL, List.mem_map] at hy
  obtain ⟨i, _, rfl⟩ := hy
  exact Nat.mod_lt _ (by omega)
theorem bit_testBit (x i : Nat) : x / 2 ^ i % 2 = if x.testBit i then 1 else 0 := by
  rw [Nat.testBit_eq_decide_div_mod_eq]
  have := Nat.mod_lt (x / 2 ^ i) (show 2 > 0 by omega)
  by_cases h : x / 2 ^ i % 2 = 1
  · simp [h]
  · simp [h]; omega
theorem bit_and (x y i : Nat) : (x &&& y) / 2 ^ i % 2 = x / 2 ^ i % 2 * (y / 2 ^ i % 2) := by
  rw [bit_testBit, bit_testBit, bit_testBit, Nat.testBit_and]
  cases x.testBit i <;> cases y.testBit i <;> rfl
theorem bit_or (x y i : Nat) : (x ||| y) / 2 ^ i % 2 = x / 2 ^ i % 2 + y / 2 ^ i % 2 - x / 2 ^ i % 2 * (y / 2 ^ i % 2) := by
  rw [bit_testBit, bit_testBit, bit_testBit, Nat.testBit_or]
  cases x.testBit i <;> cases y.testBit i <;> rfl
theorem bit_xor (x y i : Nat) : (x ^^^ y) / 2 ^ i % 2 = (x / 2 ^ i % 2 + y / 2 ^ i % 2) % 2 := by
  rw [bit_testBit, bit_testBit, bit_testBit, Nat.testBit_xor]
  cases x.testBit i <;> cases y.testBit i <;> rfl
theorem bit_not (x i n : Nat) (h : i < n) : (2 ^ n - 1 - x % 2 ^ n) / 2 ^ i % 2 = 1 - x / 2 ^ i % 2 := by
  have hlt := Nat.mod_lt x (Nat.pow_pos (n := n) (show 0 < 2 by omega))
  rw [bit_testBit, bit_testBit, show 2 ^ n - 1 - x % 2 ^ n = 2 ^ n - (x % 2 ^ n + 1) by omega, Nat.testBit_two_pow_sub_succ hlt, Nat.testBit_mod_two_pow]
  simp only [h, decide_true, Bool.true_and]
  cases x.testBit i <;> rfl
/-- The n-th digit as it is filled bit by bit. -/
def digF (V j q : Nat) : Nat := V / 2 ^ (max j (8 * q)) % 2 ^ (8 * q + 8 - max j (8 * q))
theorem digF_zero (V q : Nat) : digF V 0 q = V / 256 ^ q % 256 := by
  unfold digF
  rw [Nat.max_eq_right (by omega), show 8 * q + 8 - 8 * q = 8 by omega, Nat.pow_mul]
theorem digF_far (V j q : Nat) (h : 8 * q + 8 ≤ j) : digF V j q = 0 := by
  unfold digF
  rw [Nat.max_eq_left (by omega), show 8 * q + 8 - j = 0 by omega]
  simp [Nat.mod_one]
theorem digF_lt (V j q : Nat) (h : 8 * q < j) : digF V j q < 128 := by
  unfold digF
  have h1 : 2 ^ (8 * q + 8 - max j (8 * q)) ≤ 2 ^ 7 := Nat.pow_le_pow_right (by omega) (by omega)
  have h2 := Nat.mod_lt (V / 2 ^ (max j (8 * q))) (show 2 ^ (8 * q + 8 - max j (8 * q)) > 0 from Nat.pow_pos (by omega))
  omega
theorem digF_step (V j q : Nat) (h1 : 8 * q ≤ j) (h2 : j < 8 * q + 8) : digF V j q = digF V (j + 1) q * 2 + V / 2 ^ j % 2 := by
  unfold digF
  rw [Nat.max_eq_left h1, Nat.max_eq_left (by omega : 8 * q ≤ j + 1)]
  have e : 8 * q + 8 - j = (8 * q + 8 - (j + 1)) + 1 := by omega
  rw [e, Nat.pow_succ, Nat.mul_comm (2 ^ (8 * q + 8 - (j + 1))) 2, Nat.mod_mul, Nat.div_div_eq_div_mul, Nat.pow_succ 2 j, Nat.add_comm, Nat.mul_comm 2]
theorem digF_other (V j q : Nat) (h : j < 8 * q ∨ 8 * q + 8 ≤ j) : digF V j q = digF V (j + 1) q := by
  rcases h with h | h
  · unfold digF; rw [Nat.max_eq_right (by omega), Nat.max_eq_right (by omega)]
  · rw [digF_far _ _ _ h, digF_far _ _ _ (by omega)]

/-! ### Bits of a word's parts -/
theorem pow64 (k : Nat) : 2 ^ (64 * k) = 18446744073709551616 ^ k := by rw [Nat.pow_mul]
/-- The bits of Q from number j on, at their places. -/
def hb (Q j : Nat) : Nat := Q / 2 ^ j * 2 ^ j
theorem hb_zero (Q : Nat) : hb Q 0 = Q := by simp [hb]
theorem hb_big {Q j : Nat} (h : Q < 2 ^ j) : hb Q j = 0 := by unfold hb; rw [Nat.div_eq_of_lt h, Nat.zero_mul]
theorem hb_step (Q k : Nat) : hb Q k = hb Q (k + 1) + Q / 2 ^ k % 2 * 2 ^ k := by
  unfold hb
  have h := Nat.div_add_mod (Q / 2 ^ k) 2
  have h2 : Q / 2 ^ k / 2 = Q / 2 ^ (k + 1) := by rw [Nat.div_div_eq_div_mul, Nat.pow_succ]
  rw [h2] at h
  conv => lhs; rw [← h]
  rw [Nat.add_mul, Nat.pow_succ]
  congr 1
  rw [Nat.mul_comm 2, Nat.mul_assoc, Nat.mul_comm 2 (2 ^ k)]
theorem hb_lim_other (Q k q : Nat) (hk : k / 64 ≠ q) : lim (hb Q k) q = lim (hb Q (k + 1)) q := by
  rw [hb_step]
  unfold lim
  rcases Nat.lt_or_ge (k / 64) q with h | h
  · have e : hb Q (k + 1) = 2 ^ (k + 1) * (Q / 2 ^ (k + 1)) := by unfold hb; rw [Nat.mul_comm]
    have e2 : 18446744073709551616 ^ q = 2 ^ (k + 1) * 2 ^ (64 * q - (k + 1)) := by rw [← pow64, ← Nat.pow_add, show k + 1 + (64 * q - (k + 1)) = 64 * q by omega]
    have hlt : Q / 2 ^ k % 2 * 2 ^ k < 2 ^ (k + 1) := by
      rw [Nat.pow_succ, Nat.mul_comm (2 ^ k)]
      exact Nat.mul_lt_mul_of_pos_right (Nat.mod_lt _ (by omega)) (Nat.pow_pos (by omega))
    rw [e, e2, ← Nat.div_div_eq_div_mul, ← Nat.div_div_eq_div_mul, Nat.mul_add_div (Nat.pow_pos (by omega)), Nat.div_eq_of_lt hlt, Nat.add_zero, Nat.mul_div_cancel_left _ (Nat.pow_pos (by omega))]
  · have e2 : 2 ^ k = 18446744073709551616 ^ q * (18446744073709551616 * 2 ^ (k - 64 * q - 64)) := by
      rw [← Nat.mul_assoc, ← Nat.pow_succ, ← pow64, ← Nat.pow_add, show 64 * (q + 1) + (k - 64 * q - 64) = k by omega]
    have e3 : ∀ c, c * 2 ^ k = 18446744073709551616 ^ q * (18446744073709551616 * (c * 2 ^ (k - 64 * q - 64))) := by
      intro c; rw [e2]; simp only [Nat.mul_assoc, Nat.mul_comm]
    rw [e3, Nat.add_mul_div_left _ _ (Nat.pow_pos (by omega)), Nat.add_mul_mod_self_left]
theorem hb_lim (Q k : Nat) : lim (hb Q k) (k / 64) = lim (hb Q (k + 1)) (k / 64) ||| (Q / 2 ^ k % 2 * 2 ^ (k % 64)) := by
  have hr : k % 64 < 64 := Nat.mod_lt _ (by omega)
  have hk : k = 64 * (k / 64) + k % 64 := by omega
  generalize hq : k / 64 = q at *
  generalize hr' : k % 64 = r at *
  have e1 : hb Q (k + 1) / 18446744073709551616 ^ q = Q / 2 ^ (k + 1) * 2 ^ (r + 1) := by
    unfold hb
    rw [show 2 ^ (k + 1) = 2 ^ (r + 1) * 18446744073709551616 ^ q by rw [← pow64, ← Nat.pow_add, show r + 1 + 64 * q = k + 1 by omega]]
    rw [← Nat.mul_assoc, Nat.mul_div_cancel _ (Nat.pow_pos (by omega))]
  have e2 : hb Q k / 18446744073709551616 ^ q = Q / 2 ^ (k + 1) * 2 ^ (r + 1) + Q / 2 ^ k % 2 * 2 ^ r := by
    rw [hb_step, show 2 ^ k = 2 ^ r * 18446744073709551616 ^ q by rw [← pow64, ← Nat.pow_add, show r + 64 * q = k by omega], ← Nat.mul_assoc, Nat.add_mul_div_right _ _ (Nat.pow_pos (by omega)), e1]
  unfold lim
  rw [e1, e2]
  have hc : Q / 2 ^ k % 2 * 2 ^ r < 2 ^ (r + 1) := by
    rw [Nat.pow_succ, Nat.mul_comm (2 ^ r)]
    exact Nat.mul_lt_mul_of_pos_right (Nat.mod_lt _ (by omega)) (Nat.pow_pos (by omega))
  generalize Q / 2 ^ (k + 1) = A at *
  generalize Q / 2 ^ k % 2 * 2 ^ r = C at *
  have e3 : A * 2 ^ (r + 1) % 18446744073709551616 = A % 2 ^ (63 - r) * 2 ^ (r + 1) := by
    rw [show (18446744073709551616 : Nat) = 2 ^ (63 - r) * 2 ^ (r + 1) by rw [← Nat.pow_add, show 63 - r + (r + 1) = 64 by omega]]
    exact Nat.mul_mod_mul_right _ _ _
  have e4 : (A * 2 ^ (r + 1) + C) % 18446744073709551616 = A % 2 ^ (63 - r) * 2 ^ (r + 1) + C := by
    have h1 : A * 2 ^ (r + 1) + C = (A % 2 ^ (63 - r) * 2 ^ (r + 1) + C) + 18446744073709551616 * (A / 2 ^ (63 - r)) := by
      have h2 := Nat.div_add_mod A (2 ^ (63 - r))
      conv => lhs; rw [← h2]
      rw [show (18446744073709551616 : Nat) = 2 ^ (63 - r) * 2 ^ (r + 1) by rw [← Nat.pow_add, show 63 - r + (r + 1) = 64 by omega]]
      rw [Nat.add_mul, Nat.mul_assoc (2 ^ (63 - r)), Nat.mul_comm (A / 2 ^ (63 - r)), ← Nat.mul_assoc]
      omega
    rw [h1, Nat.add_mul_mod_self_left]
    apply Nat.mod_eq_of_lt
    have h3 : A % 2 ^ (63 - r) + 1 ≤ 2 ^ (63 - r) := Nat.mod_lt _ (Nat.pow_pos (by omega))
    have h4 : (A % 2 ^ (63 - r) + 1) * 2 ^ (r + 1) ≤ 2 ^ (63 - r) * 2 ^ (r + 1) := Nat.mul_le_mul_right _ h3
    rw [← Nat.pow_add, show 63 - r + (r + 1) = 64 by omega, Nat.add_mul] at h4
    omega
  rw [e3, e4]
  rw [nat_join (r + 1)]
  · exact Nat.mul_mod_left _ _
  · exact hc
theorem hb_lim0 {Q k : Nat} (h : Q / 2 ^ k % 2 = 0) : hb Q k = hb Q (k + 1) := by rw [hb_step, h]; omega
/-- Long division, a bit at a time. -/
theorem div_step (N d j : Nat) (hd : 0 < d) :
    (N / 2 ^ j) % d = (if 2 * ((N / 2 ^ (j + 1)) % d) + N / 2 ^ j % 2 < d then 2 * ((N / 2 ^ (j + 1)) % d) + N / 2 ^ j % 2 else 2 * ((N / 2 ^ (j + 1)) % d) + N / 2 ^ j % 2 - d) ∧
    (N / d) / 2 ^ j % 2 = (if 2 * ((N / 2 ^ (j + 1)) % d) + N / 2 ^ j % 2 < d then 0 else 1) := by
  have e1 : N / 2 ^ j = 2 * (N / 2 ^ (j + 1)) + N / 2 ^ j % 2 := by
    have h2 : N / 2 ^ j / 2 = N / 2 ^ (j + 1) := by rw [Nat.div_div_eq_div_mul, Nat.pow_succ]
    have := Nat.div_add_mod (N / 2 ^ j) 2
    rw [h2] at this
    exact this.symm
  have e2 : N / d / 2 ^ j = (N / 2 ^ j) / d := by rw [Nat.div_div_eq_div_mul, Nat.div_div_eq_div_mul, Nat.mul_comm]
  have hr := Nat.mod_lt (N / 2 ^ (j + 1)) hd
  have hm := Nat.div_add_mod (N / 2 ^ (j + 1)) d
  have hbit := Nat.mod_lt (N / 2 ^ j) (show 2 > 0 by omega)
  rw [e2]
  generalize hM : N / 2 ^ j % 2 = m at *
  rw [e1]
  generalize hR : N / 2 ^ (j + 1) % d = r at *
  generalize hQ : N / 2 ^ (j + 1) / d = q at *
  generalize N / 2 ^ (j + 1) = U at *
  have e3 : 2 * U + m = 2 * r + m + d * (2 * q) := by rw [← hm, Nat.mul_add, ← Nat.mul_assoc, Nat.mul_comm 2 d, Nat.mul_assoc]; omega
  rw [e3, Nat.add_mul_mod_self_left, Nat.add_mul_div_left _ _ hd]
  split
  · rename_i h; rw [Nat.mod_eq_of_lt h, Nat.div_eq_of_lt h]; exact ⟨rfl, by omega⟩
  · rename_i h
    have h2 : 2 * r + m = (2 * r + m - d) + d := by omega
    have h3 : 2 * r + m - d < d := by omega
    rw [h2, Nat.add_mod_right, Nat.mod_eq_of_lt h3, Nat.add_div_right _ hd, Nat.div_eq_of_lt h3]
    refine ⟨by omega, by omega⟩
end Go.Fw
