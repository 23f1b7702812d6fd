/-
  Plain laws of rows of digits: comparing, adding, taking away, multiplying.
  No condition: plain lemmas.
-/
import Derived.Test.YtpkjbeebhdgleaaPa
set_option linter.unusedVariables false
namespace Go.Fw
open Go

theorem vl_ext : ∀ (xs ys : List Nat), (∀ t, xs.getD t 0 = ys.getD t 0) → vl xs = vl ys
  | [], [], _ => rfl
  | [], y :: ys, h => by
    have h0 := h 0
    have := vl_ext [] ys (fun t => by have := h (t + 1); simpa using this)
    simp [vl] at h0 this ⊢; omega
  | x :: xs, [], h => by
    have h0 := h 0
    have := vl_ext xs [] (fun t => by have := h (t + 1); simpa using this)
    simp [vl] at h0 this ⊢; omega
  | x :: xs, y :: ys, h => by
    have h0 := h 0
    have := vl_ext xs ys (fun t => by have := h (t + 1); simpa using this)
    simp [vl] at h0 this ⊢; omega

theorem vl_zero {xs : List Nat} (h : ∀ t, xs.getD t 0 = 0) : vl xs = 0 := by
  have := vl_ext xs [] (fun t => by rw [h t]; simp)
  simpa [vl] using this
theorem vl_pos : ∀ (xs : List Nat) (t : Nat), xs.getD t 0 ≠ 0 → vl xs ≠ 0
  | [], t, h => by simp at h
  | x :: xs, 0, h => by simp [vl] at h ⊢; omega
  | x :: xs, t + 1, h => by
    have := vl_pos xs t (by simpa using h)
    simp [vl]; omega

theorem vl_lt_at : ∀ (i : Nat) (xs ys : List Nat), Dg xs → Dg ys → xs.getD i 0 < ys.getD i 0 → (∀ t, i < t → xs.getD t 0 = ys.getD t 0) → vl xs < vl ys
  | i, xs, [], _, _, h, _ => by simp at h
  | 0, [], y :: ys, hx, hy, h, he => by simp [vl] at h ⊢; omega
  | 0, x :: xs, y :: ys, hx, hy, h, he => by
    have := vl_ext xs ys (fun t => by have := he (t + 1) (by omega); simpa using this)
    simp [vl] at h ⊢; omega
  | i + 1, [], y :: ys, hx, hy, h, he => by
    have := vl_lt_at i [] ys Dg.nil (fun z hz => hy z (by simp [hz])) (by simpa using h) (fun t ht => by have := he (t + 1) (by omega); simpa using this)
    simp [vl] at this ⊢; omega
  | i + 1, x :: xs, y :: ys, hx, hy, h, he => by
    have := vl_lt_at i xs ys (fun z hz => hx z (by simp [hz])) (fun z hz => hy z (by simp [hz])) (by simpa using h) (fun t ht => by have := he (t + 1) (by omega); simpa using this)
    have h1 := hx x (by simp)
    simp [vl]; omega

/-- What 'compare' tells. -/
def cmpN (a b : Nat) : Int := if a < b then -1 else if b < a then 1 else 0
theorem cmpN_lt {a b : Nat} (h : a < b) : cmpN a b = -1 := by simp [cmpN, h]
theorem cmpN_gt {a b : Nat} (h : b < a) : cmpN a b = 1 := by simp [cmpN, h, Nat.not_lt.2 (Nat.le_of_lt h)]
theorem cmpN_eq {a b : Nat} (h : a = b) : cmpN a b = 0 := by subst h; simp [cmpN]

theorem vl_take_mod {xs : List Nat} (h : Dg xs) (n : Nat) : vl (xs.take n) = vl xs % 256 ^ n := by
  have e : xs = xs.take n ++ xs.drop n := (List.take_append_drop n xs).symm
  have hlt := vl_take_lt h n
  by_cases hn : n ≤ xs.length
  · have h1 : vl xs = vl (xs.take n) + vl (xs.drop n) * 256 ^ n := by
      conv => lhs; rw [e]
      rw [vl_append, List.length_take, Nat.min_eq_left hn]
    rw [h1, Nat.add_mul_mod_self_right, Nat.mod_eq_of_lt hlt]
  · rw [vl_take_all xs n (by omega)] at hlt ⊢
    rw [Nat.mod_eq_of_lt hlt]
theorem vl_get {xs : List Nat} (h : Dg xs) (i : Nat) : xs.getD i 0 = vl xs / 256 ^ i % 256 := by
  have h1 := vl_take_mod h (i + 1)
  rw [vl_take_succ, vl_take_mod h i, Nat.pow_succ] at h1
  have hp : 0 < 256 ^ i := Nat.pow_pos (by omega)
  have h2 : (vl xs % 256 ^ i + xs.getD i 0 * 256 ^ i) / 256 ^ i = vl xs % (256 ^ i * 256) / 256 ^ i := by rw [h1]
  rw [Nat.add_mul_div_right _ _ hp, Nat.div_eq_of_lt (Nat.mod_lt _ hp), Nat.zero_add, Nat.mod_mul_right_div_self] at h2
  exact h2

/-- Adding: what is made after i rounds. -/
theorem plus_step {xs ys zs : List Nat} {i c : Nat} (hx : Dg xs) (hy : Dg ys) (hz : Dg zs) (hl : zs.length = i) (hc : c ≤ 1) (h : vl zs + c * 256 ^ i = vl (xs.take i) + vl (ys.take i)) :
    Dg (zs ++ [(xs.getD i 0 + ys.getD i 0 + c) % 256]) ∧ (xs.getD i 0 + ys.getD i 0 + c) / 256 ≤ 1 ∧
    vl (zs ++ [(xs.getD i 0 + ys.getD i 0 + c) % 256]) + (xs.getD i 0 + ys.getD i 0 + c) / 256 * 256 ^ (i + 1) = vl (xs.take (i + 1)) + vl (ys.take (i + 1)) := by
  have h1 := hx.getD i
  have h2 := hy.getD i
  refine ⟨hz.snoc (Nat.mod_lt _ (by omega)), by omega, ?_⟩
  rw [vl_snoc, hl, vl_take_succ, vl_take_succ]
  generalize hn : xs.getD i 0 + ys.getD i 0 + c = n
  have e : n % 256 * 256 ^ i + n / 256 * 256 ^ (i + 1) = n * 256 ^ i := by
    rw [Nat.pow_succ, Nat.mul_comm (256 ^ i) 256, ← Nat.mul_assoc, ← Nat.add_mul]
    congr 1
    omega
  have e2 : n * 256 ^ i = xs.getD i 0 * 256 ^ i + ys.getD i 0 * 256 ^ i + c * 256 ^ i := by rw [← hn, Nat.add_mul, Nat.add_mul]
  omega

theorem vl_set : ∀ (xs : List Nat) (i v : Nat), i < xs.length → vl (xs.set i v) + xs.getD i 0 * 256 ^ i = vl xs + v * 256 ^ i
  | [], i, v, h => by simp at h
  | x :: xs, 0, v, h => by simp [vl]; omega
  | x :: xs, i + 1, v, h => by
    have := vl_set xs i v (by simpa using h)
    simp only [List.set_cons_succ, vl, List.getD_cons_succ, Nat.pow_succ]
    rw [← Nat.mul_assoc, ← Nat.mul_assoc, Nat.mul_comm _ 256, Nat.mul_comm (v * 256 ^ i) 256]
    omega
theorem Dg.set {xs : List Nat} (h : Dg xs) (i : Nat) {v : Nat} (hv : v < 256) : Dg (xs.set i v) := fun y hy => by
  rcases List.mem_or_eq_of_mem_set hy with h1 | h1
  · exact h y h1
  · omega

/-! ### The parts of a word, as they are filled digit by digit -/
/-- Part q, when the digits from number j on are in. -/
def limF (D j q : Nat) : Nat := D / 256 ^ (max j (8 * q)) % 256 ^ (8 * q + 8 - max j (8 * q))
theorem pow256 (k : Nat) : 256 ^ (8 * k) = 18446744073709551616 ^ k := by rw [Nat.pow_mul]
theorem limF_zero (D q : Nat) : limF D 0 q = lim D q := by
  unfold limF lim
  rw [Nat.max_eq_right (by omega), show 8 * q + 8 - 8 * q = 8 by omega, pow256]
theorem limF_far (D j q : Nat) (h : 8 * q + 8 ≤ j) : limF D j q = 0 := by
  unfold limF
  rw [Nat.max_eq_left (by omega), show 8 * q + 8 - j = 0 by omega]
  simp [Nat.mod_one]
theorem limF_lt (D j q : Nat) : limF D j q < 18446744073709551616 := by
  unfold limF
  have h1 : 256 ^ (8 * q + 8 - max j (8 * q)) ≤ 256 ^ 8 := Nat.pow_le_pow_right (by omega) (by omega)
  have h2 := Nat.mod_lt (D / 256 ^ (max j (8 * q))) (show 256 ^ (8 * q + 8 - max j (8 * q)) > 0 from Nat.pow_pos (by omega))
  omega
theorem limF_lt' (D j q : Nat) (h : 8 * q < j) : limF D j q < 72057594037927936 := by
  unfold limF
  have h1 : 256 ^ (8 * q + 8 - max j (8 * q)) ≤ 256 ^ 7 := Nat.pow_le_pow_right (by omega) (by omega)
  have h2 := Nat.mod_lt (D / 256 ^ (max j (8 * q))) (show 256 ^ (8 * q + 8 - max j (8 * q)) > 0 from Nat.pow_pos (by omega))
  omega
/-- One digit more. -/
theorem limF_step (D j q : Nat) (h1 : 8 * q ≤ j) (h2 : j < 8 * q + 8) : limF D j q = limF D (j + 1) q * 256 + D / 256 ^ j % 256 := by
  unfold limF
  rw [Nat.max_eq_left h1, Nat.max_eq_left (by omega : 8 * q ≤ j + 1)]
  have e : 8 * q + 8 - j = (8 * q + 8 - (j + 1)) + 1 := by omega
  rw [e, Nat.pow_succ, Nat.mul_comm (256 ^ (8 * q + 8 - (j + 1))) 256, Nat.mod_mul, Nat.div_div_eq_div_mul, Nat.pow_succ 256 j, Nat.add_comm, Nat.mul_comm 256]
theorem limF_other (D j q : Nat) (h : j < 8 * q ∨ 8 * q + 8 ≤ j) : limF D j q = limF D (j + 1) q := by
  rcases h with h | h
  · unfold limF; rw [Nat.max_eq_right (by omega), Nat.max_eq_right (by omega)]
  · rw [limF_far _ _ _ h, limF_far _ _ _ (by omega)]

/-- A word by its parts. -/
theorem list4 {ys : List Nat} (h : ys.length = 4) : ys = [ys.getD 0 0, ys.getD 1 0, ys.getD 2 0, ys.getD 3 0] := by
  match ys, h with
  | [a, b, c, d], _ => rfl
theorem wl_of {ys : List Nat} (h : ys.length = 4) (x : Nat) (hq : ∀ q, q < 4 → ys.getD q 0 = lim x q) : ys = wl x := by
  rw [list4 h, hq 0 (by omega), hq 1 (by omega), hq 2 (by omega), hq 3 (by omega)]; rfl
theorem getD_set (ys : List Nat) (i j v : Nat) (h : i < ys.length) : (ys.set i v).getD j 0 = if i = j then v else ys.getD j 0 := by
  rw [List.getD_eq_getElem?_getD, List.getElem?_set]
  by_cases hij : i = j
  · subst hij; simp [h]
  · simp [hij, List.getD_eq_getElem?_getD]
theorem lim_mod (x i : Nat) (h : i < 4) : lim (x % 2 ^ 256) i = lim x i := by
  unfold lim
  rw [show (2 : Nat) ^ 256 = 18446744073709551616 ^ i * 18446744073709551616 ^ (4 - i) by rw [← Nat.pow_add, show i + (4 - i) = 4 by omega]]
  rw [Nat.mod_mul_right_div_self]
  rw [show 18446744073709551616 ^ (4 - i) = 18446744073709551616 * 18446744073709551616 ^ (3 - i) by rw [← Nat.pow_succ', show (3 - i).succ = 4 - i by omega]]
  exact Nat.mod_mul_right_mod _ _ _
theorem W_mod (x : Nat) : W (x % 2 ^ 256) = W x := by
  show Value.agg (wc _).toArray = Value.agg (wc _).toArray
  have : wl (x % 2 ^ 256) = wl x := by unfold wl; rw [lim_mod x 0 (by omega), lim_mod x 1 (by omega), lim_mod x 2 (by omega), lim_mod x 3 (by omega)]
  rw [wc, this]
theorem W_congr {x y : Nat} (h : x % 2 ^ 256 = y % 2 ^ 256) : W x = W y := by rw [← W_mod x, h, W_mod]

/-- A digit of a word out of its parts. -/
theorem lim_digit (x i : Nat) : lim x (i / 8) / 256 ^ (i % 8) % 256 = x / 256 ^ i % 256 := by
  unfold lim
  rw [← pow256]
  have e : (18446744073709551616 : Nat) = 256 ^ (i % 8) * 256 ^ (8 - i % 8) := by rw [← Nat.pow_add, show i % 8 + (8 - i % 8) = 8 by omega]
  rw [e, Nat.mod_mul_right_div_self, show 8 - i % 8 = (7 - i % 8) + 1 by omega, Nat.pow_succ, Nat.mul_comm _ 256, Nat.mod_mul_right_mod, Nat.div_div_eq_div_mul, ← Nat.pow_add, show 8 * (i / 8) + i % 8 = i by omega]

theorem dgs_vl32 (x : Nat) : vl (dgs x 32) = x % 2 ^ 256 := by rw [dgs_vl, show (256 : Nat) ^ 32 = 2 ^ 256 by decide]
theorem of_facts {zs : List Nat} {x : Nat} (h : zs = dgs x 32) : Dg zs ∧ zs.length = 32 ∧ vl zs = x % 2 ^ 256 ∧ ∀ i, i < 32 → zs.getD i 0 = x / 256 ^ i % 256 := by
  subst h; exact ⟨dgs_dg x 32, dgs_length x 32, dgs_vl32 x, fun i hi => dgs_get x 32 i hi⟩
theorem vl_full : vl (List.replicate 32 0 ++ [1]) = 2 ^ 256 := by decide +kernel
theorem dg_full : Dg (List.replicate 32 0 ++ [1]) := by
  intro x hx
  simp at hx
  omega

theorem full_facts {zs : List Nat} (h : zs = List.replicate 32 0 ++ [1]) : Dg zs ∧ zs.length = 33 ∧ vl zs = 2 ^ 256 := by
  subst h; exact ⟨dg_full, rfl, vl_full⟩
theorem cmpN_ge {a b : Nat} (h : 0 ≤ cmpN a b) : b ≤ a := by
  unfold cmpN at h; split at h
  · omega
  · split at h <;> omega
theorem cmpN_nge {a b : Nat} (h : ¬ 0 ≤ cmpN a b) : a < b := by
  unfold cmpN at h; split at h
  · assumption
  · split at h <;> omega

theorem cmpN_pos (a b : Nat) : decide ((0 : Int) < cmpN a b) = decide (b < a) := by
  unfold cmpN
  split
  · rw [decide_eq_false (by omega), decide_eq_false (by omega)]
  · split
    · rw [decide_eq_true (by omega), decide_eq_true (by assumption)]
    · rw [decide_eq_false (by omega), decide_eq_false (by assumption)]
theorem cmpN_neg (a b : Nat) : decide (cmpN a b < (0 : Int)) = decide (a < b) := by
  unfold cmpN
  split
  · rw [decide_eq_true (by omega), decide_eq_true (by assumption)]
  · split
    · rw [decide_eq_false (by omega), decide_eq_false (by assumption)]
    · rw [decide_eq_false (by omega), decide_eq_false (by assumption)]
theorem cmpN_nonneg (a b : Nat) : decide ((0 : Int) ≤ cmpN a b) = decide (b ≤ a) := by
  unfold cmpN
  split
  · rw [decide_eq_false (by omega), decide_eq_false (by omega)]
  · split
    · rw [decide_eq_true (by omega), decide_eq_true (by omega)]
    · rw [decide_eq_true (by omega), decide_eq_true (by omega)]

/-- How many bytes a word needs. -/
def sizeFrom (x : Nat) : Nat → Nat
  | 0 => 0
  | n + 1 => if x / 256 ^ n % 256 = 0 then sizeFrom x n else n + 1
def sizeN (x : Nat) : Nat := sizeFrom x 32
theorem sizeFrom_of (x n : Nat) (h : n ≠ 0 → x / 256 ^ (n - 1) % 256 ≠ 0) : ∀ m, n ≤ m → (∀ t, n ≤ t → t < m → x / 256 ^ t % 256 = 0) → sizeFrom x m = n
  | 0, hm, _ => by unfold sizeFrom; omega
  | m + 1, hm, hz => by
    unfold sizeFrom
    by_cases hn : n = m + 1
    · subst hn
      rw [if_neg (by simpa using h (by omega))]
    · rw [if_pos (hz m (by omega) (by omega))]
      exact sizeFrom_of x n h m (by omega) (fun t h1 h2 => hz t h1 (by omega))
theorem sizeN_of {x n : Nat} (hn : n ≤ 32) (hz : ∀ t, n ≤ t → t < 32 → x / 256 ^ t % 256 = 0) (h : n ≠ 0 → x / 256 ^ (n - 1) % 256 ≠ 0) : sizeN x = n := sizeFrom_of x n h 32 hn hz
end Go.Fw
