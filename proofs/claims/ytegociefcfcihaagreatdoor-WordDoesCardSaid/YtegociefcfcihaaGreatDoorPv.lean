/-
  Do of every code, as one.
  No condition: plain lemmas.
-/
import Derived.Test.YtegociefcfcihaaGreatDoorPz
namespace Go.Fw
open Go
def doO (n : Int) : Option (Nat → Nat → Nat → Nat) := if n < 0 then none else (doS[n.toNat]?).getD none
def doW (n : Int) (x y z : Nat) : Nat := match doO n with | some S => S x y z | none => 0
theorem doO_at (k : Nat) : doO (k : Int) = (doS[k]?).getD none := by unfold doO; rw [if_neg (by omega), Int.toNat_natCast]
theorem doW_at (k x y z : Nat) : doW (k : Int) x y z = match (doS[k]?).getD none with | some S => S x y z | none => 0 := by unfold doW; rw [doO_at]
theorem doO_none {n : Int} (h : n < 1 ∨ (11 < n ∧ n < 16) ∨ 30 < n) : doO n = none := by
  by_cases h0 : n < 0
  · unfold doO; rw [if_pos h0]
  · obtain ⟨k, rfl⟩ : ∃ k : Nat, n = (k : Int) := ⟨n.toNat, by omega⟩
    rw [doO_at]
    by_cases h1 : k < 31
    · have : k = 0 ∨ k = 12 ∨ k = 13 ∨ k = 14 ∨ k = 15 := by omega
      rcases this with rfl | rfl | rfl | rfl | rfl <;> rfl
    · rw [List.getElem?_eq_none (by show 31 ≤ k; omega)]; rfl
theorem doW_none {n : Int} {x y z : Nat} (h : n < 1 ∨ (11 < n ∧ n < 16) ∨ 30 < n) : doW n x y z = 0 := by unfold doW; rw [doO_none h]
end Go.Fw
