/-
  Plain laws of words: a ring, quotients and rests, signs, powers, shifts.
  No condition: plain lemmas.
-/
import Derived.Test.YtegociefcfcihaaDoorFu
namespace Go.Fw
open Go
/-- A word as bits. -/
def bv (x : Nat) : BitVec 256 := BitVec.ofNat 256 x
theorem bv_eq {x y : Nat} : bv x = bv y ↔ x % 2 ^ 256 = y % 2 ^ 256 := by
  unfold bv
  constructor
  · intro h; have := congrArg BitVec.toNat h; simpa using this
  · intro h; apply BitVec.eq_of_toNat_eq; simpa using h
theorem bv_add (x y : Nat) : bv (x + y) = bv x + bv y := BitVec.ofNat_add x y
theorem bv_mul (x y : Nat) : bv (x * y) = bv x * bv y := BitVec.ofNat_mul x y
theorem bv_mod (x : Nat) : bv (x % 2 ^ 256) = bv x := bv_eq.2 (Nat.mod_mod _ _)
theorem bv_dif (x y : Nat) : bv (dif x y) = bv x - bv y := by
  have h : (dif x y + y) % 2 ^ 256 = x % 2 ^ 256 := by unfold dif; omega
  have h2 := bv_eq.2 h
  rw [bv_add] at h2
  grind
theorem bv_neg (x : Nat) : bv (negN x) = - bv x := by
  unfold negN; rw [bv_dif]; have : bv 0 = 0 := rfl; rw [this]; simp
theorem bv_zero : bv 0 = 0 := rfl
theorem bv_one : bv 1 = 1 := rfl
theorem bv_abs (x : Nat) : bv (absN x) = if sgn x then - bv x else bv x := by
  unfold absN
  split
  · rw [← bv_neg]; refine bv_eq.2 ?_; rw [negN_mod]; rename_i h; unfold sgn at h; split <;> omega
  · exact bv_mod x

theorem dif_add (x y : Nat) : dif (x + y) y % 2 ^ 256 = x % 2 ^ 256 := by unfold dif; omega
theorem dif_back (x y : Nat) : (dif x y + y) % 2 ^ 256 = x % 2 ^ 256 := by unfold dif; omega
theorem divN_nz {x y : Nat} (h : ¬ y % 2 ^ 256 = 0) : divN x y = x % 2 ^ 256 / (y % 2 ^ 256) := by unfold divN; rw [if_neg h]
theorem modN_nz {x y : Nat} (h : ¬ y % 2 ^ 256 = 0) : modN x y = x % 2 ^ 256 % (y % 2 ^ 256) := by unfold modN; rw [if_neg h]
theorem divN_le (x y : Nat) : divN x y ≤ x % 2 ^ 256 := by unfold divN; split; omega; exact Nat.div_le_self _ _
theorem modN_le (x y : Nat) : modN x y ≤ x % 2 ^ 256 := by unfold modN; split; omega; exact Nat.mod_le _ _
theorem modN_lt {x y : Nat} (h : ¬ y % 2 ^ 256 = 0) : modN x y < y % 2 ^ 256 := by rw [modN_nz h]; exact Nat.mod_lt _ (by omega)
theorem div_whole {x y : Nat} (h : ¬ y % 2 ^ 256 = 0) : divN x y * (y % 2 ^ 256) + modN x y = x % 2 ^ 256 := by
  rw [divN_nz h, modN_nz h, Nat.mul_comm]; exact Nat.div_add_mod _ _
theorem div_back {x y : Nat} (h : ¬ y % 2 ^ 256 = 0) : (divN x y * y + modN x y) % 2 ^ 256 = x % 2 ^ 256 := by
  refine bv_eq.1 ?_
  have := congrArg bv (div_whole (x := x) h)
  rw [bv_add, bv_mul, bv_mod, bv_mod] at this
  rw [bv_add, bv_mul, this]
theorem div_prod {x y : Nat} (h : ¬ y % 2 ^ 256 = 0) : divN x y * y % 2 ^ 256 = divN x y * (y % 2 ^ 256) := by
  have h1 := div_whole (x := x) h
  have h2 := Nat.mod_lt x (show 2 ^ 256 > 0 by omega)
  have h3 : divN x y * y % 2 ^ 256 = divN x y * (y % 2 ^ 256) % 2 ^ 256 := bv_eq.1 (by rw [bv_mul, bv_mul, bv_mod])
  rw [h3]; exact Nat.mod_eq_of_lt (by omega)
theorem div_again {x y : Nat} (h : ¬ y % 2 ^ 256 = 0) : divN (divN x y * y) y % 2 ^ 256 = divN x y % 2 ^ 256 := by
  rw [divN_nz (x := divN x y * y) h, div_prod h, Nat.mul_div_cancel _ (by omega)]
theorem div_below {x y : Nat} (h : ¬ y % 2 ^ 256 = 0) : ¬ x % 2 ^ 256 < divN x y * y % 2 ^ 256 := by
  have h1 := div_whole (x := x) h
  rw [div_prod h]; omega
theorem sdiv_back (x y : Nat) (h : ¬ y % 2 ^ 256 = 0) : (sdivN x y * y + smodN x y) % 2 ^ 256 = x % 2 ^ 256 := by
  refine bv_eq.1 ?_
  have hy := absN_le y
  have hb : ¬ absN y % 2 ^ 256 = 0 := by
    have := absN_zero y
    rw [Nat.mod_eq_of_lt (by omega)]
    intro h0; exact h (this.1 h0)
  have h1 := congrArg bv (div_whole (x := absN x) (y := absN y) hb)
  rw [bv_add, bv_mul, bv_mod, bv_mod, bv_abs, bv_abs] at h1
  rw [bv_add, bv_mul]
  unfold sdivN smodN
  by_cases hx : sgn x <;> by_cases hy2 : sgn y <;> simp only [hx, hy2, decide_true, decide_false, if_true, if_false, not_true_eq_false, not_false_eq_true, reduceCtorEq, bv_neg] at h1 ⊢ <;> grind
end Go.Fw
