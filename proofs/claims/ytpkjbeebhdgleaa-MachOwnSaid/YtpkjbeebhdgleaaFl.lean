/-
  Calls that look beside calls that do not: the same turn.
  No condition: plain lemmas.
-/
import Derived.Test.YtpkjbeebhdgleaaFk
set_option linter.unusedVariables false
namespace Go.Fw
open Go
theorem push_yes {S : List Nat} {n : Int} {x : Nat} (h : ((pushE n : Nat) : Int) = 0) : pushS S n x = S.set (ix n) x ∧ pushN n = n + 1 := by
  have := (pushE_iff n).1 h
  unfold pushS pushN; rw [if_neg (by omega), if_neg (by omega)]; exact ⟨rfl, rfl⟩
theorem push_no {S : List Nat} {n : Int} {x : Nat} (h : ¬ ((pushE n : Nat) : Int) = 0) : pushS S n x = S ∧ pushN n = n := by
  have := pushE_iff n
  unfold pushS pushN; rw [if_pos (by omega), if_pos (by omega)]; exact ⟨rfl, rfl⟩
theorem pop_yes {S : List Nat} {n : Int} (h : ((popE n : Nat) : Int) = 0) : popX S n = S.getD (ix (n - 1)) 0 ∧ popN n = n - 1 := by
  have := (popE_iff n).1 h
  unfold popX popN; rw [if_neg (by omega), if_neg (by omega)]; exact ⟨rfl, rfl⟩
theorem pop_no {S : List Nat} {n : Int} (h : ¬ ((popE n : Nat) : Int) = 0) : popN n = n := by
  have := popE_iff n
  unfold popN; rw [if_pos (by omega)]
theorem swp_comm (S : List Nat) (i j : Nat) : swp S i j = swp S j i := by
  unfold swp
  by_cases h : i = j
  · subst h; rfl
  · rw [List.set_comm _ _ h]
end Go.Fw
