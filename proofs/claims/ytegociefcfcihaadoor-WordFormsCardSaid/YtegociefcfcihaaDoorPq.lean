/-
  Addresses as bytes.
  No condition: plain lemmas.
-/
import Derived.Test.YtegociefcfcihaaDoorPr
import Derived.Test.YtegociefcfcihaaDoorFn
set_option linter.unusedVariables false
namespace Go.Fw
open Go
def addrN (x : Nat) : List Nat := if sizeN x > 20 then List.replicate 20 0 else (bytesN x).drop 12
theorem addrN_length (x : Nat) : (addrN x).length = 20 := by unfold addrN; split <;> simp [bytesN_length]
theorem rowN_drop (kd : IntKind) (xs : List Nat) (n : Nat) : (rowN kd xs).drop n = rowN kd (xs.drop n) := by simp [rowN]
theorem rowN_tk (kd : IntKind) (xs : List Nat) (n : Nat) : (rowN kd xs).take n = rowN kd (xs.take n) := by simp [rowN]
theorem drop12_length (x : Nat) : ((bytesN x).drop 12).length = 20 := by rw [List.length_drop, bytesN_length]
theorem drop12_cells (x : Nat) : ((rowN .u8 (bytesN x)).drop 12).take 20 = rowN .u8 ((bytesN x).drop 12) := by
  rw [rowN_drop, rowN_tk, List.take_of_length_le (by rw [drop12_length]; omega)]
theorem drop12_get (x i : Nat) (h : i < 20) : ((bytesN x).drop 12).getD i 0 = x / 256 ^ (19 - i) % 256 := by
  rw [List.getD_eq_getElem?_getD, List.getElem?_drop, ← List.getD_eq_getElem?_getD, bytesN_get _ _ (by omega), show 31 - (12 + i) = 19 - i by omega]
theorem drop12_of {x : Nat} {ys : List Nat} (hl : ys.length = 20) (h : ∀ q, q < 20 → ys.getD q 0 = x / 256 ^ (19 - q) % 256) : ys = (bytesN x).drop 12 := by
  apply List.ext_getElem (by rw [drop12_length, hl])
  intro i h1 h2
  have a := h i (by omega)
  have b := drop12_get x i (by omega)
  rw [List.getD_eq_getElem?_getD, List.getElem?_eq_getElem h1, Option.getD_some] at a
  rw [List.getD_eq_getElem?_getD, List.getElem?_eq_getElem h2, Option.getD_some] at b
  rw [a, b]
theorem set20 {ys : List Nat} {x i v : Nat} (hl : ys.length = 20) (hi : i < 20) (hy : ∀ q, q < i → ys.getD q 0 = x / 256 ^ (19 - q) % 256) (hv : v = x / 256 ^ (19 - i) % 256) : ∀ q, q < i + 1 → (ys.set i v).getD q 0 = x / 256 ^ (19 - q) % 256 := fun q hq => by
  rw [getD_set _ _ _ _ (by omega)]
  split
  · rename_i h; subst h; exact hv
  · exact hy q (by omega)
section
variable {P : Program} {ops : Array Oper} {F : Act → World → Prop} {w0 w w' : World} {M : List Nat} {N : Nat} {L : List (Oper × K)} {σ : List (Nat × Value)} {l lS : List (Nat × Ent)}
  {d : Option Tmp} {ty : TypeId} {p : String} {af : Array Edge} {x : Operand}
/-- A string out of bytes that no operation of the region turns. -/
theorem J.convBSs {src dst e q cap : Nat} {A : Option Addr} (hs : P.underlying src = some (.slice e)) (he : P.underlying e = some (.int .u8)) (ht : P.underlying dst = some .string) (hx : ev σ x = some (.slice A q cap)) (xs : List Nat) (hq : xs.length = q)
    (hA : ∀ w, WS w0 M lS w → Cs w A (rowN .u8 xs)) (hd : okd N d) (h : J P ops F w0 M N lS L (putd d (.string (bstr xs)) σ) l) : J P ops F w0 M N lS ((⟨d, .convert src dst x, ty, p, af, none⟩, .s) :: L) σ l :=
  J.stable rfl hd _ (fun a ha w hw => by
    simp only [execOp, ha.eval hx, Sem.run_bind, run_convert_bytes_string w src dst e A q cap hs he ht, run_bstr hq (hA w hw), Result.andThen, Sem.run_pure]) h
end
end Go.Fw
