/-
  Stacks as rings: what MachRing says of them.
  No condition: plain lemmas.
-/
import Derived.Test.YtpkjbeebhdgleaaFl
set_option linter.unusedVariables false
namespace Go.Fw
open Go
theorem and2047 (n : Int) : bits .and .i64 n 2047 = n % 2048 := by
  have h127 : (BitVec.ofInt 64 2047).toNat = 2 ^ 11 - 1 := by decide
  have key : (BitVec.ofInt 64 n &&& BitVec.ofInt 64 2047).toNat = (n % ((2 ^ 64 : Nat) : Int)).toNat % 2 ^ 11 := by
    rw [BitVec.toNat_and, BitVec.toNat_ofInt, h127, Nat.and_two_pow_sub_one_eq_mod]
  show IntKind.i64.wrap ((BitVec.ofInt 64 n &&& BitVec.ofInt 64 2047).toNat : Nat) = n % 2048
  rw [key, IntKind.wrap_i64]
  omega
theorem zstk_get (q : Nat) : zstk.getD q 0 = 0 := by
  unfold zstk
  rw [List.getD_eq_getElem?_getD, List.getElem?_replicate]; split <;> rfl
theorem rowW_zstk : rowW zstk = List.replicate 4096 (.int .u64 0) := by
  have : ∀ n, rowW (List.replicate n 0) = List.replicate (n * 4) (.int .u64 0) := by
    intro n
    induction n with
    | zero => rfl
    | succ n ih =>
      rw [List.replicate_succ, show (n + 1) * 4 = 4 + n * 4 by omega, ← List.replicate_append_replicate]
      show wc 0 ++ rowW (List.replicate n 0) = _
      rw [ih]; rfl
  exact this 1024
theorem ring_words {S : List Nat} {n : Int} {i : Nat} (h : (i : Int) < min (max n 0) 1024) : (wordsS S n).getD ((min (max n 0) 1024).toNat - 1 - i) 0 = S.getD (ix (n - ((i : Int) + 1))) 0 := by
  rw [wordsS_get _ _ _ (by omega)]
  congr 1
  unfold ix
  split <;> omega
theorem pushE_or (n : Int) : pushE n = 0 ∨ pushE n = 91 := by unfold pushE; split <;> simp
end Go.Fw
