/-
  Memories that are all 0, masks, rows of one's own: what MachPieces, MachReaches, MachRowed, MachKeeps need.
  No condition: plain lemmas.
-/
import Derived.Test.YtpkjbeebhdgleaaFq
import Derived.Test.YtpkjbeebhdgleaaOa
set_option linter.unusedVariables false
namespace Go.Fw
open Go
theorem and_mask (n : Int) (j : Nat) (m : Int) (hm : (BitVec.ofInt 64 m).toNat = 2 ^ j - 1) (hj : j ≤ 62) : bits .and .i64 n m = n % ((2 ^ j : Nat) : Int) := by
  have hp : (2 : Nat) ^ j ≤ 2 ^ 62 := Nat.pow_le_pow_right (by omega) hj
  have hp0 : 0 < (2 : Nat) ^ j := Nat.pow_pos (by omega)
  have key : (BitVec.ofInt 64 n &&& BitVec.ofInt 64 m).toNat = (n % ((2 ^ 64 : Nat) : Int)).toNat % 2 ^ j := by
    rw [BitVec.toNat_and, BitVec.toNat_ofInt, hm, Nat.and_two_pow_sub_one_eq_mod]
  show IntKind.i64.wrap ((BitVec.ofInt 64 n &&& BitVec.ofInt 64 m).toNat : Nat) = _
  rw [key]
  have hlt := Nat.mod_lt (n % ((2 ^ 64 : Nat) : Int)).toNat hp0
  rw [wrap_nat64 _ (by omega)]
  have h2 : ((n % ((2 ^ 64 : Nat) : Int)).toNat : Int) = n % ((2 ^ 64 : Nat) : Int) := Int.toNat_of_nonneg (Int.emod_nonneg _ (by omega))
  rw [Int.natCast_emod, h2]
  exact Int.emod_emod_of_dvd _ (by
    have : (2 : Nat) ^ j ∣ 2 ^ 64 := Nat.pow_dvd_pow 2 (by omega)
    exact Int.natCast_dvd_natCast.2 this)
theorem and8191 (n : Int) : bits .and .i64 n 8191 = n % 8192 := and_mask n 13 8191 (by decide) (by omega)
theorem and65535 (n : Int) : bits .and .i64 n 65535 = n % 65536 := and_mask n 16 65535 (by decide) (by omega)
theorem and4095 (n : Int) : bits .and .i64 n 4095 = n % 4096 := and_mask n 12 4095 (by decide) (by omega)
theorem and255 (n : Int) : bits .and .i64 n 255 = n % 256 := and_mask n 8 255 (by decide) (by omega)

theorem growE_ok {u : Int} (h : 0 ≤ u ∧ u ≤ 4194304) : growE u = 0 := by unfold growE; rw [if_neg (by omega), if_neg (by omega)]
theorem growE_iff {u : Int} (h : u ≤ 4194304) : ((growE u : Nat) : Int) = 0 ↔ 0 ≤ u := by unfold growE; split; omega; rw [if_neg (by omega)]; omega
theorem growL_ok {L : Nat} {k : Nat} (h : k ≤ 4194304) : growL L (k : Int) = max L ((k + 31) / 32 * 32) := by unfold growL; rw [if_neg (by omega)]; simp
theorem grow_zero {z : Nat} (h : z ≤ 4194304) : growB [] (z : Int) = List.replicate ((z + 31) / 32 * 32) 0 := by
  unfold growB; rw [List.length_nil, growL_ok h]; simp
theorem rep_get (L q : Nat) : (List.replicate L 0).getD q 0 = 0 := by
  rw [List.getD_eq_getElem?_getD, List.getElem?_replicate]; split <;> rfl
theorem zero_ext {xs : List Nat} {L : Nat} (hl : xs.length = L) (h : ∀ q, q < L → xs.getD q 0 = 0) : xs = List.replicate L 0 :=
  ext_getD (by rw [hl, List.length_replicate]) (fun q hq => by rw [rep_get]; exact h q (by omega))
theorem zcut_get (L : Nat) (a n : Int) (q : Nat) : (cutB (List.replicate L 0) a n).getD q 0 = 0 := by
  by_cases h : pieceE (List.replicate L 0).length a n = 0
  · by_cases hq : q < n.toNat
    · rw [cutB_get h q hq, rep_get]
    · exact getD_far _ _ (by rw [cutB_len h]; omega)
  · rw [cutB_no h]; rfl
theorem zwrite {L : Nat} {a : Int} {xs : List Nat} (h : ∀ q, xs.getD q 0 = 0) : writeB (List.replicate L 0) a xs = List.replicate L 0 := by
  refine zero_ext (by rw [writeB_length, List.length_replicate]) (fun q hq => ?_)
  by_cases hx : xs = []
  · subst hx; rw [writeB_nil, rep_get]
  · by_cases hE : pieceE (List.replicate L 0).length a (xs.length : Nat) = 0
    · rw [writeB_yes hE, putB_get (piece_fit hE hx)]
      split
      · exact h _
      · exact rep_get _ _
    · rw [writeB_no hE, rep_get]
theorem zmove (L : Nat) (t f n : Int) : moveB (List.replicate L 0) t f n = List.replicate L 0 := by
  unfold moveB; split
  · exact zwrite (fun q => zcut_get L f n q)
  · rfl
theorem zload (L : Nat) (a : Int) : loadX (List.replicate L 0) a = 0 := by
  unfold loadX; split
  · refine vl_zero (fun t => ?_)
    by_cases ht : t < (cutB (List.replicate L 0) a 32).length
    · rw [List.getD_eq_getElem?_getD, List.getElem?_reverse ht, ← List.getD_eq_getElem?_getD]; exact zcut_get L a 32 _
    · exact getD_far _ _ (by rw [List.length_reverse]; omega)
  · rfl
theorem moveE_self (L : Nat) (a n : Int) : moveE L a a n = pieceE L a n := by
  by_cases h : a < 0 ∨ n < 0
  · rw [moveE_bad (by omega), pieceE_bad h]
  · by_cases h2 : pieceE L a n = 0
    · rw [h2]; exact moveE_ok (by omega) h2 h2
    · rw [moveE_far (by omega) (.inl h2)]; exact (move_pos (t := a) (by omega) h2).symm
theorem cut_write {bs xs : List Nat} {a : Int} (h : pieceE bs.length a (xs.length : Nat) = 0) : cutB (writeB bs a xs) a (xs.length : Nat) = xs := by
  have h2 : pieceE (writeB bs a xs).length a (xs.length : Nat) = 0 := by rw [writeB_length]; exact h
  refine ext_getD (by rw [cutB_len h2]; simp) (fun q hq => ?_)
  rw [cutB_len h2] at hq
  rw [cutB_get h2 q hq, writeB_yes h, putB_get (piece_fit h (fun e => by subst e; simp at hq)), if_pos (by simp at hq; omega)]
  congr 1; omega
theorem load_write {bs : List Nat} {a : Int} {x : Nat} (h : pieceE bs.length a 32 = 0) : loadX (writeB bs a (bytesN x)) a = x % 2 ^ 256 ∧ pieceE (writeB bs a (bytesN x)).length a 32 = 0 := by
  have hl := bytesN_length x
  have h1 : pieceE bs.length a ((bytesN x).length : Nat) = 0 := by rw [hl]; exact h
  have hc := cut_write h1
  rw [hl] at hc
  have h2 : pieceE (writeB bs a (bytesN x)).length a 32 = 0 := by rw [writeB_length]; exact h
  refine ⟨?_, h2⟩
  unfold loadX
  rw [if_pos h2]
  have e : cutB (writeB bs a (bytesN x)) a 32 = bytesN x := hc
  rw [e, bytesN_vl]
theorem W_wval {a b c d : Nat} (h : a < 18446744073709551616 ∧ b < 18446744073709551616 ∧ c < 18446744073709551616 ∧ d < 18446744073709551616) : Value.agg ([.int .u64 (a : Int), .int .u64 (b : Int), .int .u64 (c : Int), .int .u64 (d : Int)] : List Value).toArray = W (wval a b c d) := by
  show _ = Value.agg (rowN .u64 (wl (wval a b c d))).toArray
  rw [wl_wval h]
  rfl
theorem growL_cases {L : Nat} {u : Int} (h : u ≤ 100000) : (u < 0 ∧ growL L u = L) ∨ (0 ≤ u ∧ growL L u = max L ((u.toNat + 31) / 32 * 32)) := by
  unfold growL
  by_cases h1 : u < 0
  · exact .inl ⟨h1, by rw [if_pos (by omega)]⟩
  · exact .inr ⟨by omega, by rw [if_neg (by omega)]⟩
theorem growB_eq {bs : List Nat} {u : Int} {q : Nat} (h : growL bs.length u = bs.length + q) : bs ++ List.replicate q 0 = growB bs u := by
  unfold growB; rw [h]; simp
theorem moveE_iff {L : Nat} {t f n : Int} : moveE L t f n = 0 ↔ 0 ≤ t ∧ 0 ≤ f ∧ 0 ≤ n ∧ pieceE L f n = 0 ∧ pieceE L t n = 0 := by
  unfold moveE; split; omega; split <;> omega
theorem writeB_at {bs xs : List Nat} {a : Int} {p : Nat} (h : pieceE bs.length a (xs.length : Nat) = 0) (hp : a = (p : Int)) : putB bs p xs = writeB bs a xs := by
  rw [writeB_yes h, hp]; rfl
theorem set_putB {bs : List Nat} {p u : Nat} (h : p < bs.length) : bs.set p u = putB bs p [u] := by
  refine ext_getD (by rw [List.length_set, putB_length (by simp; omega)]) (fun q hq => ?_)
  rw [getD_set _ _ _ _ h, putB_get (by simp; omega)]
  by_cases h1 : p = q
  · subst h1; rw [if_pos rfl, if_pos (by simp)]; simp
  · rw [if_neg h1, if_neg (by simp; omega)]
end Go.Fw
