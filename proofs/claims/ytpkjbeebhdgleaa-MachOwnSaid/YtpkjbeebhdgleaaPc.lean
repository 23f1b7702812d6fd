/-
  Plain laws of words: adding and taking away with a carry, shifts, leading zeros, bytes.
  No condition: plain lemmas.
-/
import Derived.Test.YtpkjbeebhdgleaaFg
import Derived.Laws.MathBits
import Derived.Laws.BitsAllLaws
import Derived.Laws.Bits128
set_option linter.unusedVariables false
namespace Go.Fw
open Go

/-! ### Entries under other names -/
section
variable {P : Program} {ops : Array Oper} {F : Act → World → Prop} {w0 w : World} {M : List Nat} {N : Nf} {L : List (Oper × K)} {σ : List (Nat × Value)} {l lS : List (Nat × Ent)} {Q : Exit → Act → World → Prop}
def rm (k : Nat) : List (Nat × Ent) → List (Nat × Ent)
  | [] => []
  | (j, e) :: r => match Nat.beq j k with | true => rm k r | false => (j, e) :: rm k r
theorem lk_rm (k n : Nat) (l : List (Nat × Ent)) : lk (rm k l) n = if n = k then none else lk l n := by
  induction l with
  | nil => simp [rm, lk]
  | cons p r ih =>
    obtain ⟨j, e⟩ := p
    simp only [rm]
    cases hb : Nat.beq j k with
    | true =>
      have hjk : j = k := Nat.eq_of_beq_eq_true hb
      subst hjk
      simp only [ih, lk_cons]
      by_cases h : n = j
      · simp [h]
      · simp [h, Ne.symm h]
    | false =>
      have hjk : j ≠ k := fun e => by rw [e] at hb; simp at hb
      simp only [lk_cons, ih]
      by_cases h : j = n
      · subst h; simp [hjk]
      · simp [h]
/-- One entry moves to another name, what stood there falls away. -/
theorem WS.mv (hw : WS w0 M l w) {e : Ent} (k k' : Nat) (he : lk l k = some e) : WS w0 M ((k', e) :: rm k (rm k' l)) w := by
  have key : ∀ n u, lk ((k', e) :: rm k (rm k' l)) n = some u → (n = k' ∧ u = e) ∨ (n ≠ k' ∧ n ≠ k ∧ lk l n = some u) := by
    intro n u h
    rw [lk_cons, lk_rm, lk_rm] at h
    by_cases h1 : k' = n
    · subst h1; simp at h; exact .inl ⟨rfl, h.symm⟩
    · by_cases h2 : n = k
      · subst h2; simp [h1] at h
      · rw [if_neg h1, if_neg h2, if_neg (Ne.symm h1)] at h
        exact .inr ⟨Ne.symm h1, h2, h⟩
  refine ⟨hw.os, hw.tape, hw.output, hw.size, hw.keep, fun j u h => ?_, fun j j' u u' g h h' hne hg => ?_, fun j u g h hg => ?_⟩
  · rcases key j u h with ⟨_, rfl⟩ | ⟨_, _, h2⟩
    · exact hw.live k _ he
    · exact hw.live j u h2
  · rcases key j u h with ⟨rfl, rfl⟩ | ⟨a1, a2, h2⟩ <;> rcases key j' u' h' with ⟨rfl, rfl⟩ | ⟨b1, b2, h3⟩
    · exact absurd rfl hne
    · exact hw.apart k j' _ _ g he h3 (Ne.symm b2) hg
    · exact hw.apart j k _ _ g h2 he a2 hg
    · exact hw.apart j j' _ _ g h2 h3 hne hg
  · rcases key j u h with ⟨_, rfl⟩ | ⟨_, _, h2⟩
    · exact hw.own k _ g he hg
    · exact hw.own j u g h2 hg
theorem T.mv {c : Code} {e : Ent} (k k' : Nat) (he : lk l k = some e) (h : T P w0 M N Q c σ ((k', e) :: rm k (rm k' l))) : T P w0 M N Q c σ l := fun a w ha hw => h a w ha (hw.mv k k' he)
theorem X.mv {x : Exit} {e : Ent} (k k' : Nat) (he : lk l k = some e) (h : X w0 M N Q x σ ((k', e) :: rm k (rm k' l))) : X w0 M N Q x σ l := fun a w ha hw => h a w ha (hw.mv k k' he)
end

/-! ### Bits -/
theorem or_nat (a b : Nat) (h : a < 18446744073709551616 ∧ b < 18446744073709551616) : bits .or .u64 (a : Int) (b : Int) = ((a ||| b : Nat) : Int) := u64_or_nat a b h.1 h.2
theorem and1023 (n : Int) : bits .and .i64 n 1023 = n % 1024 := by
  have h127 : (BitVec.ofInt 64 1023).toNat = 2 ^ 10 - 1 := by decide
  have key : (BitVec.ofInt 64 n &&& BitVec.ofInt 64 1023).toNat = (n % ((2 ^ 64 : Nat) : Int)).toNat % 2 ^ 10 := by
    rw [BitVec.toNat_and, BitVec.toNat_ofInt, h127, Nat.and_two_pow_sub_one_eq_mod]
  show IntKind.i64.wrap ((BitVec.ofInt 64 n &&& BitVec.ofInt 64 1023).toNat : Nat) = n % 1024
  rw [key, IntKind.wrap_i64]
  omega
theorem shr_nat (a s : Nat) (h : s ≤ 64) : ((a : Int)).fdiv (2 ^ min ((s : Int)).toNat IntKind.u64.bits) = ((a / 2 ^ s : Nat) : Int) := by
  have e : min ((s : Int)).toNat IntKind.u64.bits = s := by simp [IntKind.bits]; omega
  rw [e, Int.fdiv_eq_ediv_of_nonneg _ (Int.pow_nonneg (by omega))]
  simp
theorem shl_nat (a s : Nat) (h : s ≤ 64 ∧ a * 2 ^ s < 18446744073709551616) : IntKind.u64.wrap ((a : Int) * 2 ^ min ((s : Int)).toNat IntKind.u64.bits) = ((a * 2 ^ s : Nat) : Int) := by
  have e : min ((s : Int)).toNat IntKind.u64.bits = s := by simp [IntKind.bits]; omega
  rw [e, show (a : Int) * 2 ^ s = ((a * 2 ^ s : Nat) : Int) by simp]
  exact wrapu_nat' _ (by omega)
theorem shl_nat' (a s : Nat) (h : s ≤ 64) : IntKind.u64.wrap ((a : Int) * 2 ^ min ((s : Int)).toNat IntKind.u64.bits) = ((a * 2 ^ s % 18446744073709551616 : Nat) : Int) := by
  have e : min ((s : Int)).toNat IntKind.u64.bits = s := by simp [IntKind.bits]; omega
  rw [e, show (a : Int) * 2 ^ s = ((a * 2 ^ s : Nat) : Int) by simp]
  exact wrapu_nat _
theorem pow8 (k : Nat) : 2 ^ (k * 8) = 256 ^ k := by rw [Nat.mul_comm, Nat.pow_mul]

/-! ### Adding and taking away -/
abbrev B64 : Nat := 18446744073709551616
theorem lim0 (x : Nat) : lim x 0 = x % 18446744073709551616 := by unfold lim; omega
theorem add_step (x y i : Nat) (h : i < 4) : (lim x i + lim y i + (x % 18446744073709551616 ^ i + y % 18446744073709551616 ^ i) / 18446744073709551616 ^ i) % 18446744073709551616 = lim (x + y) i ∧
    (lim x i + lim y i + (x % 18446744073709551616 ^ i + y % 18446744073709551616 ^ i) / 18446744073709551616 ^ i) / 18446744073709551616 = (x % 18446744073709551616 ^ (i + 1) + y % 18446744073709551616 ^ (i + 1)) / 18446744073709551616 ^ (i + 1) := by
  unfold lim
  match i, h with
  | 0, _ => omega
  | 1, _ => omega
  | 2, _ => omega
  | 3, _ => omega
theorem add_carry_le (x y i : Nat) : (x % 18446744073709551616 ^ i + y % 18446744073709551616 ^ i) / 18446744073709551616 ^ i ≤ 1 := by
  have hp : 0 < 18446744073709551616 ^ i := Nat.pow_pos (by omega)
  have h1 := Nat.mod_lt x hp
  have h2 := Nat.mod_lt y hp
  have : (x % 18446744073709551616 ^ i + y % 18446744073709551616 ^ i) / 18446744073709551616 ^ i < 2 := (Nat.div_lt_iff_lt_mul hp).2 (by omega)
  omega
/-- What is borrowed for the parts below i. -/
def bor (x y i : Nat) : Nat := if x % 18446744073709551616 ^ i < y % 18446744073709551616 ^ i then 1 else 0
theorem bor_le (x y i : Nat) : bor x y i ≤ 1 := by unfold bor; split <;> omega
theorem bor_zero (x y : Nat) : bor x y 0 = 0 := by unfold bor; simp [Nat.mod_one]
def dif (x y : Nat) : Nat := x + (2 ^ 256 - y % 2 ^ 256)
theorem sub_step (x y i : Nat) (h : i < 4) : (lim x i + 18446744073709551616 - lim y i - bor x y i) % 18446744073709551616 = lim (dif x y) i ∧
    (if lim x i < lim y i + bor x y i then 1 else 0) = bor x y (i + 1) := by
  unfold lim dif bor
  match i, h with
  | 0, _ => constructor; (repeat' split) <;> omega; (repeat' split) <;> omega
  | 1, _ => constructor; (repeat' split) <;> omega; (repeat' split) <;> omega
  | 2, _ => constructor; (repeat' split) <;> omega; (repeat' split) <;> omega
  | 3, _ => constructor; (repeat' split) <;> omega; (repeat' split) <;> omega
theorem bor4 (x y : Nat) : bor x y 4 = if x % 2 ^ 256 < y % 2 ^ 256 then 1 else 0 := rfl

/-! ### Sums -/
def sumN (xs : List Nat) : Nat := (xs.map (· % 2 ^ 256)).sum
theorem sumN_snoc (xs : List Nat) (x : Nat) : sumN (xs ++ [x]) = sumN xs + x % 2 ^ 256 := by simp [sumN]
theorem sumN_take_le (xs : List Nat) (i : Nat) : sumN (xs.take i) ≤ sumN xs := by
  have : sumN xs = sumN (xs.take i) + sumN (xs.drop i) := by
    conv => lhs; rw [← List.take_append_drop i xs]
    simp only [sumN]
    rw [List.map_append, List.sum_append]
  omega
theorem sumN_lt (xs : List Nat) : sumN xs ≤ xs.length * (2 ^ 256 - 1) := by
  induction xs with
  | nil => simp [sumN]
  | cons x xs ih =>
    simp only [sumN, List.map_cons, List.sum_cons, List.length_cons] at ih ⊢
    have := Nat.mod_lt x (show 2 ^ 256 > 0 by decide)
    rw [Nat.add_mul]
    omega
theorem take_succ_getD (xs : List Nat) (i : Nat) (h : i < xs.length) : xs.take (i + 1) = xs.take i ++ [xs.getD i 0] := by
  rw [List.take_succ_eq_append_getElem h]; simp [List.getD, h]
theorem drop_getD (xs : List Nat) (i : Nat) (h : i < xs.length) : xs.drop i = xs.getD i 0 :: xs.drop (i + 1) := by
  rw [List.drop_eq_getElem_cons h]; simp [List.getD, h]

/-! ### Leading zeros -/
theorem bitLen_zero : bitLen 0 = 0 := rfl
theorem bitLen_limb (x i : Nat) (h : i < 4) (hz : ∀ q, i < q → q < 4 → lim x q = 0) (hn : lim x i ≠ 0) : bitLen (x % 2 ^ 256) = 64 * i + bitLen (lim x i) := by
  have e : (x % 2 ^ 256) / 2 ^ (64 * i) = lim x i := by
    unfold lim at hz ⊢
    match i, h with
    | 0, _ => have := hz 1 (by omega) (by omega); have := hz 2 (by omega) (by omega); have := hz 3 (by omega) (by omega); omega
    | 1, _ => have := hz 2 (by omega) (by omega); have := hz 3 (by omega) (by omega); omega
    | 2, _ => have := hz 3 (by omega) (by omega); omega
    | 3, _ => omega
  rw [← e]
  exact bitLen_shift _ _ (by rw [e]; exact hn)
theorem bitLen_none (x : Nat) (hz : ∀ q, q < 4 → lim x q = 0) : bitLen (x % 2 ^ 256) = 0 := by
  have : x % 2 ^ 256 = 0 := by
    have := hz 0 (by omega); have := hz 1 (by omega); have := hz 2 (by omega); have := hz 3 (by omega)
    unfold lim at *; omega
  rw [this]; rfl
theorem bitLen_le64 (x : Nat) (h : x < 18446744073709551616) : bitLen x ≤ 64 := by
  unfold bitLen; split
  · omega
  · rename_i h0; have := (Nat.log2_lt h0).2 (show x < 2 ^ 64 from h); omega
theorem bitLen_le256 (x : Nat) : bitLen (x % 2 ^ 256) ≤ 256 := by
  unfold bitLen; split
  · omega
  · rename_i h0; have := (Nat.log2_lt h0).2 (Nat.mod_lt x (show 2 ^ 256 > 0 by decide)); omega
theorem bitLen_pos (x : Nat) (h : x ≠ 0) : 1 ≤ bitLen x := by unfold bitLen; rw [if_neg h]; omega
theorem digit_mod (x t : Nat) (h : t < 32) : x / 256 ^ t % 256 = (x % 2 ^ 256) / 256 ^ t % 256 := by
  rw [show (2 : Nat) ^ 256 = 256 ^ t * 256 ^ (32 - t) by rw [← Nat.pow_add, show t + (32 - t) = 32 by omega]]
  rw [Nat.mod_mul_right_div_self, show 32 - t = (31 - t) + 1 by omega, Nat.pow_succ', Nat.mod_mul_right_mod]
theorem sizeN_bitLen (x : Nat) : sizeN x = (bitLen (x % 2 ^ 256) + 7) / 8 := by
  have hle := bitLen_le256 x
  obtain ⟨h1, h2⟩ := bitLen_spec (x % 2 ^ 256)
  generalize hb : bitLen (x % 2 ^ 256) = b at *
  refine sizeN_of (by omega) (fun t ht1 ht2 => ?_) (fun hn => ?_)
  · rw [digit_mod x t ht2, Nat.div_eq_of_lt]
    have : 2 ^ b ≤ 256 ^ t := by rw [show 256 ^ t = 2 ^ (8 * t) by rw [Nat.pow_mul]]; exact Nat.pow_le_pow_right (by omega) (by omega)
    omega
  · have hx0 : x % 2 ^ 256 ≠ 0 := fun e => by rw [e, bitLen_zero] at hb; omega
    have h3 := h2 hx0
    have hn' : (b + 7) / 8 - 1 < 32 := by omega
    generalize hk : (b + 7) / 8 - 1 = k at *
    rw [digit_mod x k hn']
    have e1 : 256 ^ k = 2 ^ (8 * k) := by rw [Nat.pow_mul]
    have h4 : 256 ^ k ≤ x % 2 ^ 256 := by
      rw [e1]
      exact Nat.le_trans (Nat.pow_le_pow_right (by omega) (by omega)) h3
    have h5 : x % 2 ^ 256 < 256 ^ k * 256 := by
      have : 2 ^ b ≤ 2 ^ (8 * k + 8) := Nat.pow_le_pow_right (by omega) (by omega)
      rw [Nat.pow_add, ← e1] at this
      omega
    have hp : 0 < 256 ^ k := Nat.pow_pos (by omega)
    have h6 : (x % 2 ^ 256) / 256 ^ k < 256 := (Nat.div_lt_iff_lt_mul hp).2 (by rw [Nat.mul_comm]; exact h5)
    have h7 : 1 ≤ (x % 2 ^ 256) / 256 ^ k := (Nat.le_div_iff_mul_le hp).2 (by omega)
    omega
theorem sizeN_le (x : Nat) : sizeN x ≤ 32 := by rw [sizeN_bitLen]; have := bitLen_le256 x; omega
theorem lim_small (x : Nat) (h : sizeN x ≤ 8) : lim x 0 = x % 2 ^ 256 := by
  rw [sizeN_bitLen] at h
  obtain ⟨h1, _⟩ := bitLen_spec (x % 2 ^ 256)
  have : 2 ^ bitLen (x % 2 ^ 256) ≤ 2 ^ 64 := Nat.pow_le_pow_right (by omega) (by omega)
  rw [lim0]
  omega

/-! ### Words out of bytes, part by part -/
/-- The digits of D from number j on, at their places. -/
def hi (D j : Nat) : Nat := D / 256 ^ j * 256 ^ j
theorem hi_zero (D : Nat) : hi D 0 = D := by simp [hi]
theorem hi_big {D j : Nat} (h : D < 256 ^ j) : hi D j = 0 := by unfold hi; rw [Nat.div_eq_of_lt h, Nat.zero_mul]
theorem hi_step (D k : Nat) : hi D k = hi D (k + 1) + D / 256 ^ k % 256 * 256 ^ k := by
  unfold hi
  have h := Nat.div_add_mod (D / 256 ^ k) 256
  have h2 : D / 256 ^ k / 256 = D / 256 ^ (k + 1) := by rw [Nat.div_div_eq_div_mul, Nat.pow_succ]
  rw [h2] at h
  conv => lhs; rw [← h]
  rw [Nat.add_mul, Nat.pow_succ]
  congr 1
  rw [Nat.mul_comm 256, Nat.mul_assoc, Nat.mul_comm 256 (256 ^ k)]
theorem hi_lim_other (D k q : Nat) (hq : q < 4) (hk : k / 8 ≠ q) : lim (hi D k) q = lim (hi D (k + 1)) q := by
  rw [hi_step]
  unfold lim
  rcases Nat.lt_or_ge (k / 8) q with h | h
  · -- below: the digit is lost in the quotient
    have e : hi D (k + 1) = 256 ^ (k + 1) * (D / 256 ^ (k + 1)) := by unfold hi; rw [Nat.mul_comm]
    have e2 : 18446744073709551616 ^ q = 256 ^ (k + 1) * 256 ^ (8 * q - (k + 1)) := by rw [← pow256, ← Nat.pow_add, show k + 1 + (8 * q - (k + 1)) = 8 * q by omega]
    have hlt : D / 256 ^ k % 256 * 256 ^ k < 256 ^ (k + 1) := by
      rw [Nat.pow_succ, Nat.mul_comm (256 ^ k)]
      exact Nat.mul_lt_mul_of_pos_right (Nat.mod_lt _ (by omega)) (Nat.pow_pos (by omega))
    rw [e, e2, ← Nat.div_div_eq_div_mul, ← Nat.div_div_eq_div_mul, Nat.mul_add_div (Nat.pow_pos (by omega)), Nat.div_eq_of_lt hlt, Nat.add_zero, Nat.mul_div_cancel_left _ (Nat.pow_pos (by omega))]
  · -- above: the digit is a multiple of what is cut
    have e2 : 256 ^ k = 18446744073709551616 ^ q * (18446744073709551616 * 256 ^ (k - 8 * q - 8)) := by
      rw [← Nat.mul_assoc, ← Nat.pow_succ, ← pow256, ← Nat.pow_add, show 8 * (q + 1) + (k - 8 * q - 8) = k by omega]
    have e3 : ∀ c, c * 256 ^ k = 18446744073709551616 ^ q * (18446744073709551616 * (c * 256 ^ (k - 8 * q - 8))) := by
      intro c; rw [e2]; simp only [Nat.mul_assoc, Nat.mul_comm]
    rw [e3, Nat.add_mul_div_left _ _ (Nat.pow_pos (by omega)), Nat.add_mul_mod_self_left]
theorem hi_lim (D k : Nat) : lim (hi D k) (k / 8) = lim (hi D (k + 1)) (k / 8) ||| (D / 256 ^ k % 256 * 2 ^ (k % 8 * 8)) := by
  have hr : k % 8 < 8 := Nat.mod_lt _ (by omega)
  have hk : k = 8 * (k / 8) + k % 8 := by omega
  generalize hq : k / 8 = q at *
  generalize hr' : k % 8 = r at *
  rw [pow8]
  have e1 : hi D (k + 1) / 18446744073709551616 ^ q = D / 256 ^ (k + 1) * 256 ^ (r + 1) := by
    unfold hi
    rw [show 256 ^ (k + 1) = 256 ^ (r + 1) * 18446744073709551616 ^ q by rw [← pow256, ← Nat.pow_add, show r + 1 + 8 * q = k + 1 by omega]]
    rw [← Nat.mul_assoc, Nat.mul_div_cancel _ (Nat.pow_pos (by omega))]
  have e2 : hi D k / 18446744073709551616 ^ q = D / 256 ^ (k + 1) * 256 ^ (r + 1) + D / 256 ^ k % 256 * 256 ^ r := by
    rw [hi_step, show 256 ^ k = 256 ^ r * 18446744073709551616 ^ q by rw [← pow256, ← Nat.pow_add, show r + 8 * q = k by omega], ← Nat.mul_assoc, Nat.add_mul_div_right _ _ (Nat.pow_pos (by omega)), e1]
  unfold lim
  rw [e1, e2]
  have hc : D / 256 ^ k % 256 * 256 ^ r < 256 ^ (r + 1) := by
    rw [Nat.pow_succ, Nat.mul_comm (256 ^ r)]
    exact Nat.mul_lt_mul_of_pos_right (Nat.mod_lt _ (by omega)) (Nat.pow_pos (by omega))
  generalize D / 256 ^ (k + 1) = A at *
  generalize D / 256 ^ k % 256 * 256 ^ r = C at *
  have e3 : A * 256 ^ (r + 1) % 18446744073709551616 = A % 256 ^ (7 - r) * 256 ^ (r + 1) := by
    rw [show (18446744073709551616 : Nat) = 256 ^ (7 - r) * 256 ^ (r + 1) by rw [← Nat.pow_add, show 7 - r + (r + 1) = 8 by omega]]
    exact Nat.mul_mod_mul_right _ _ _
  have e4 : (A * 256 ^ (r + 1) + C) % 18446744073709551616 = A % 256 ^ (7 - r) * 256 ^ (r + 1) + C := by
    have h1 : A * 256 ^ (r + 1) + C = (A % 256 ^ (7 - r) * 256 ^ (r + 1) + C) + 18446744073709551616 * (A / 256 ^ (7 - r)) := by
      have h2 := Nat.div_add_mod A (256 ^ (7 - r))
      conv => lhs; rw [← h2]
      rw [show (18446744073709551616 : Nat) = 256 ^ (7 - r) * 256 ^ (r + 1) by rw [← Nat.pow_add, show 7 - r + (r + 1) = 8 by omega]]
      rw [Nat.add_mul, Nat.mul_assoc (256 ^ (7 - r)), Nat.mul_comm (A / 256 ^ (7 - r)), ← Nat.mul_assoc]
      omega
    rw [h1, Nat.add_mul_mod_self_left]
    apply Nat.mod_eq_of_lt
    have h3 : A % 256 ^ (7 - r) + 1 ≤ 256 ^ (7 - r) := Nat.mod_lt _ (Nat.pow_pos (by omega))
    have h4 : (A % 256 ^ (7 - r) + 1) * 256 ^ (r + 1) ≤ 256 ^ (7 - r) * 256 ^ (r + 1) := Nat.mul_le_mul_right _ h3
    rw [← Nat.pow_add, show 7 - r + (r + 1) = 8 by omega, Nat.add_mul] at h4
    omega
  rw [e3, e4]
  rw [nat_join (8 * (r + 1))]
  · rw [Nat.pow_mul]; exact Nat.mul_mod_left _ _
  · rw [Nat.pow_mul]; exact hc

/-! ### Bytes of a word, the highest first -/
def bytesN (x : Nat) : List Nat := (dgs x 32).reverse
theorem bytesN_length (x : Nat) : (bytesN x).length = 32 := by unfold bytesN; rw [List.length_reverse, dgs_length]
theorem bytesN_dg (x : Nat) : Dg (bytesN x) := fun y hy => dgs_dg x 32 y (List.mem_reverse.1 hy)
theorem bytesN_get (x i : Nat) (h : i < 32) : (bytesN x).getD i 0 = x / 256 ^ (31 - i) % 256 := by
  have hl := dgs_length x 32
  have := dgs_get x 32 (31 - i) (by omega)
  rw [List.getD_eq_getElem?_getD] at this
  unfold bytesN
  rw [List.getD_eq_getElem?_getD, List.getElem?_reverse (by omega), hl, show 32 - 1 - i = 31 - i by omega]
  exact this
theorem bytesN_of {x : Nat} {ys : List Nat} (hl : ys.length = 32) (h : ∀ q, q < 32 → ys.getD q 0 = x / 256 ^ (31 - q) % 256) : ys = bytesN x := by
  apply List.ext_getElem (by rw [bytesN_length, hl])
  intro i h1 h2
  have a := h i (by omega)
  have b := bytesN_get x i (by omega)
  rw [← b] at a
  simpa [List.getD, h1, h2] using a
theorem bytesN_vl (x : Nat) : vl (bytesN x).reverse = x % 2 ^ 256 := by unfold bytesN; rw [List.reverse_reverse, dgs_vl32]
theorem Dg.reverse {xs : List Nat} (h : Dg xs) : Dg xs.reverse := fun y hy => h y (List.mem_reverse.1 hy)
theorem Dg.drop {xs : List Nat} (h : Dg xs) (i : Nat) : Dg (xs.drop i) := fun x hx => h x (List.mem_of_mem_drop hx)
end Go.Fw
