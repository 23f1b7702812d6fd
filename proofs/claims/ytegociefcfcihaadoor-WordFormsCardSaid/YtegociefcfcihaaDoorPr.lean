/-
  Plain laws of a row with nine words behind it.
  No condition: plain lemmas.
-/
import Derived.Test.YtegociefcfcihaaDoorPt
import Derived.Test.YtegociefcfcihaaDoorFr
namespace Go.Fw
open Go
def tailW (xs : List Nat) (i : Nat) : List Nat := xs ++ (List.range i).map (fun k => wval 77 0 0 k)
theorem tailW_zero (xs : List Nat) : tailW xs 0 = xs := by simp [tailW]
theorem tailW_succ (xs : List Nat) (i : Nat) : tailW xs (i + 1) = tailW xs i ++ [wval 77 0 0 i] := by simp [tailW, List.range_succ]
theorem tailW_length (xs : List Nat) (i : Nat) : (tailW xs i).length = xs.length + i := by simp [tailW]
theorem tailW_take (xs : List Nat) (i : Nat) : (tailW xs i).take xs.length = xs := by simp [tailW]
theorem tailW_low (xs : List Nat) (i k : Nat) (h : k < xs.length) : (tailW xs i).getD k 0 = xs.getD k 0 := by
  unfold tailW
  rw [List.getD_eq_getElem?_getD, List.getElem?_append_left h, ← List.getD_eq_getElem?_getD]
theorem tailW_high (xs : List Nat) (i k : Nat) (h : xs.length ≤ k) (h2 : k < xs.length + i) : (tailW xs i).getD k 0 = wval 77 0 0 (k - xs.length) := by
  unfold tailW
  rw [List.getD_eq_getElem?_getD, List.getElem?_append_right h, List.getElem?_map, List.getElem?_range (by omega)]
  rfl
theorem cs_takeW {w : World} {A : Option Addr} {ys : List Nat} (h : Cs w A (rowW ys)) (n : Nat) : Cs w A (rowW (ys.take n)) := fun i x hx => h i x (by
  rw [← rowW_take] at hx
  have hlt : i < n * 4 := by
    rcases Nat.lt_or_ge i (n * 4) with h | h
    · exact h
    · rw [List.getElem?_eq_none (by rw [List.length_take]; omega)] at hx; cases hx
  rwa [List.getElem?_take_of_lt hlt] at hx)
theorem slice_front (A : Option Addr) (q mx s : Nat) : Value.slice (if mx = 0 then A else A.map (·.add (0 * s))) (q - 0) (mx - 0) = .slice A q mx := by
  split
  · rfl
  · cases A
    · rfl
    · simp [Addr.add]
end Go.Fw
