/-
  Plain laws of a word's bytes.
  No condition: plain lemmas.
-/
import Derived.Test.YtegociefcfcihaaDoorPz
namespace Go.Fw
open Go
theorem drop_cells {kd : IntKind} {xs : List Nat} {z o : Nat} (hl : xs.length = 32) (hz : z ≤ 32) (ho : o = if 32 = z then 0 else z) : ∀ (i : Nat) (x : Value), (rowN kd (xs.drop z))[i]? = some x → (rowN kd xs)[o + i]? = some x := fun i x h => by
  by_cases h32 : z = 32
  · subst h32; rw [List.drop_eq_nil_of_le (by omega)] at h; simp [rowN] at h
  · rw [if_neg (by omega)] at ho
    subst ho
    unfold rowN at h ⊢
    rw [List.getElem?_map, List.getElem?_drop] at h
    rw [List.getElem?_map]
    exact h
theorem lead_zero {x z : Nat} (hz : ∀ q, q < z → (bytesN x).getD q 0 = 0) : vl ((bytesN x).drop z).reverse = x % 2 ^ 256 := by
  have h1 : (bytesN x).reverse = ((bytesN x).drop z).reverse ++ ((bytesN x).take z).reverse := by rw [← List.reverse_append, List.take_append_drop]
  have h2 := bytesN_vl x
  rw [h1, vl_append] at h2
  have h3 : vl ((bytesN x).take z).reverse = 0 := vl_zero fun t => by
    rcases Nat.lt_or_ge t ((bytesN x).take z).reverse.length with h | h
    · rw [List.length_reverse] at h
      rw [List.getD_eq_getElem?_getD, List.getElem?_reverse h]
      have h4 := hz (((bytesN x).take z).length - 1 - t) (by rw [List.length_take] at h ⊢; omega)
      rw [List.getElem?_take_of_lt (by rw [List.length_take] at h ⊢; omega), ← List.getD_eq_getElem?_getD]
      exact h4
    · rw [List.getD_eq_getElem?_getD, List.getElem?_eq_none h]; rfl
  rw [h3] at h2
  omega
theorem byte_acc {x i acc : Nat} (hi : i < 32) (ha : acc % 2 ^ 256 = x % 2 ^ 256 / 256 ^ (32 - i)) : (acc * 256 + byteN i x) % 2 ^ 256 = x % 2 ^ 256 / 256 ^ (32 - (i + 1)) := by
  have hb : byteN i x = x % 2 ^ 256 / 256 ^ (31 - i) % 256 := by
    unfold byteN
    rw [Nat.mod_eq_of_lt (show i < 2 ^ 256 by omega), if_pos hi, dig_mod (by omega)]
  have h1 := top_step (x % 2 ^ 256) (31 - i)
  rw [show 31 - i + 1 = 32 - i by omega, ← ha, ← hb] at h1
  rw [show 32 - (i + 1) = 31 - i by omega, ← h1]
  have h2 : x % 2 ^ 256 / 256 ^ (31 - i) ≤ x % 2 ^ 256 := Nat.div_le_self _ _
  omega
theorem byte_eq {x i : Nat} (hi : i < 32) : byteN i x = x / 256 ^ (31 - i) % 256 := by
  unfold byteN
  rw [Nat.mod_eq_of_lt (show i < 2 ^ 256 by omega), if_pos hi]
theorem size_lead {x z : Nat} (hz : z ≤ 32) (h0 : ∀ q, q < z → (bytesN x).getD q 0 = 0) (h1 : z < 32 → (bytesN x).getD z 0 ≠ 0) : sizeN x = 32 - z := sizeN_of (by omega) (fun t h2 h3 => by
    have := h0 (31 - t) (by omega)
    rwa [bytesN_get _ _ (by omega), show 31 - (31 - t) = t by omega] at this) (fun h => by
    have := h1 (by omega)
    rwa [bytesN_get _ _ (by omega), show 31 - z = 32 - z - 1 by omega] at this)
end Go.Fw
