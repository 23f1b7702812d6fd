/-
  Texts that the statement stands on, one behind the other: plain lemmas and walks of functions.
  No condition.
-/
import Derived.Shelf.Strconv.Itoa1
import Derived.Shelf.Strconv.Itoa2
import Derived.Lib.ItoaNum
import Derived.Lib.Itoa
import Derived.Test.YtegociefcfcihaaDoorChecked
import Derived.Test.YtegociefcfcihaaDoorUba
import Derived.Test.YtegociefcfcihaaDoorUbb
set_option linter.unusedVariables false
namespace Go.Fw
open Go
theorem digU_ok {b c : Nat} (hb : b ≤ 16) : okD b c ↔ digU c < b := by
  unfold okD worthZ digU
  split
  · omega
  · split
    · omega
    · split <;> omega
theorem digU_eq {b c : Nat} (h : okD b c) : (worthZ c).toNat = digU c := by
  unfold okD worthZ at h
  unfold worthZ digU
  split
  · omega
  · split
    · omega
    · split
      · omega
      · rename_i h1 h2 h3; rw [if_neg h1, if_neg h2, if_neg h3] at h; omega
theorem numV_mono {b : Nat} {ss : List Nat} (hb : 1 ≤ b) : ∀ i k, i + k ≤ ss.length → numV b (ss.take i) ≤ numV b (ss.take (i + k))
  | i, 0, _ => Nat.le_refl _
  | i, k + 1, h => by
    have h1 := numV_mono (ss := ss) hb i k (by omega)
    have h2 := numV_take b ss (i + k) (by omega)
    have h3 : numV b (ss.take (i + k)) * 1 ≤ numV b (ss.take (i + k)) * b := Nat.mul_le_mul_left _ hb
    rw [Nat.add_assoc] at h2
    omega
theorem numV_big {b : Nat} {ss : List Nat} (hb : 1 ≤ b) {i : Nat} (hi : i ≤ ss.length) (h : 2 ^ 256 ≤ numV b (ss.take i)) : ¬ numV b ss < 2 ^ 256 := by
  have h1 := numV_mono hb i (ss.length - i) (ss := ss) (by omega)
  rw [show i + (ss.length - i) = ss.length by omega, List.take_length] at h1
  omega
theorem bstr_take (ss : List Nat) (k : Nat) (h : k ≤ ss.length) : (bstr ss).extract 0 k = bstr (ss.take k) := by
  apply ByteArray.ext
  rw [ByteArray.data_extract]
  apply Array.ext'
  simp [bstr, List.map_take]
theorem dg_take {ss : List Nat} (h : Dg ss) (k : Nat) : Dg (ss.take k) := fun x hx => h x (List.mem_of_mem_take hx)
theorem hexP_take (ss : List Nat) : ss.take 2 = [48, 120] ↔ hexP ss := by
  unfold hexP
  match ss with
  | [] => simp
  | [a] => simp
  | a :: b :: t => simp
theorem dg_0x : Dg [48, 120] := by intro x hx; simp at hx; omega
/-- One round of reading: the product and the digit. -/
theorem round_mul {v b d : Nat} (hv : v < 2 ^ 256) (hb : b ≤ 16) : (v % 2 ^ 256 * (b % 2 ^ 256)) / 2 ^ 256 % 2 ^ 64 = v * b / 2 ^ 256 := by
  have h1 : v * b ≤ v * 16 := Nat.mul_le_mul_left _ hb
  rw [Nat.mod_eq_of_lt hv, Nat.mod_eq_of_lt (show b < 2 ^ 256 by omega)]
  exact Nat.mod_eq_of_lt (by omega)
/-- One round of reading: what the two checks say. -/
theorem round_mul' {v b d : Nat} (hv : v < 2 ^ 256) (hb : b ≤ 16) : v % 2 ^ 256 * (b % 2 ^ 256) = v * b := by
  rw [Nat.mod_eq_of_lt hv, Nat.mod_eq_of_lt (show b < 2 ^ 256 by omega)]
theorem round_big1 {v b d : Nat} (hv : v < 2 ^ 256) (hb : b ≤ 16) (h : (0 : Int) < ((lim (v % 2 ^ 256 * (b % 2 ^ 256)) 4 : Nat) : Int)) : 2 ^ 256 ≤ v * b + d := by
  rw [round_mul' (d := d) hv hb] at h
  unfold lim at h
  have h1 : v * b ≤ v * 16 := Nat.mul_le_mul_left _ hb
  generalize v * b = p at *
  omega
theorem round_p {v b d : Nat} (hv : v < 2 ^ 256) (hb : b ≤ 16) (h : ¬ (0 : Int) < ((lim (v % 2 ^ 256 * (b % 2 ^ 256)) 4 : Nat) : Int)) : v % 2 ^ 256 * (b % 2 ^ 256) = v * b ∧ v * b < 2 ^ 256 := by
  refine ⟨round_mul' (d := d) hv hb, ?_⟩
  rw [round_mul' (d := d) hv hb] at h
  unfold lim at h
  have h1 : v * b ≤ v * 16 := Nat.mul_le_mul_left _ hb
  generalize v * b = p at *
  omega
theorem round_big2 {v b d : Nat} (hv : v < 2 ^ 256) (hb : b ≤ 16) (hd : d < 16) (h : ¬ (0 : Int) < ((lim (v % 2 ^ 256 * (b % 2 ^ 256)) 4 : Nat) : Int)) (h2 : (0 : Int) < (((v % 2 ^ 256 * (b % 2 ^ 256) % 2 ^ 256 + d % 2 ^ 256) / 2 ^ 256 : Nat) : Int)) : 2 ^ 256 ≤ v * b + d := by
  obtain ⟨h3, h4⟩ := round_p (d := d) hv hb h
  rw [h3] at h2
  generalize v * b = p at *
  omega
theorem round_fin {v b d : Nat} (hv : v < 2 ^ 256) (hb : b ≤ 16) (hd : d < 16) (h : ¬ (0 : Int) < ((lim (v % 2 ^ 256 * (b % 2 ^ 256)) 4 : Nat) : Int)) (h2 : ¬ (0 : Int) < (((v % 2 ^ 256 * (b % 2 ^ 256) % 2 ^ 256 + d % 2 ^ 256) / 2 ^ 256 : Nat) : Int)) : v * b + d < 2 ^ 256 ∧ v % 2 ^ 256 * (b % 2 ^ 256) % 2 ^ 256 + d % 2 ^ 256 = v * b + d := by
  obtain ⟨h3, h4⟩ := round_p (d := d) hv hb h
  rw [h3] at h2 ⊢
  generalize v * b = p at *
  omega
theorem okD_next {b : Nat} {ss : List Nat} {j : Nat} (h : ∀ q, q < j → okD b (ss.getD q 0)) (hj : okD b (ss.getD j 0)) : ∀ q, q < j + 1 → okD b (ss.getD q 0) := fun q hq => by
  rcases Nat.lt_succ_iff_lt_or_eq.1 hq with h1 | h1
  · exact h q h1
  · subst h1; exact hj
end Go.Fw
set_option linter.unusedVariables false
namespace Go.Fw
open Go
theorem digL_append (b n i : Nat) : ∀ j, digL b n (i + j) = digL b n i ++ digL b (n / b ^ i) j
  | 0 => by simp [digL]
  | j + 1 => by
    rw [← Nat.add_assoc, digL_succ, digL_append b n i j, digL_succ, List.append_assoc, Nat.div_div_eq_div_mul, ← Nat.pow_add]
theorem numd_small {b n : Nat} (h : n < b) : numd b n 1 := ⟨Nat.le_refl _, by rw [Nat.pow_one]; exact Nat.div_eq_of_lt h, fun q => by omega⟩
theorem numd_succ {b n m : Nat} (hb : 2 ≤ b) (hn : b ≤ n) (h : numd b (n / b) m) : numd b n (m + 1) := by
  refine ⟨by omega, by rw [Nat.pow_succ, Nat.mul_comm, ← Nat.div_div_eq_div_mul]; exact h.2.1, fun _ => ?_⟩
  rw [Nat.add_sub_cancel]
  rcases Nat.lt_or_ge 1 m with h1 | h1
  · obtain ⟨k, rfl⟩ : ∃ k, m = k + 1 := ⟨m - 1, by omega⟩
    rw [Nat.pow_succ, Nat.mul_comm, ← Nat.div_div_eq_div_mul]
    exact h.2.2 h1
  · have := h.1
    obtain rfl : m = 1 := by omega
    rw [Nat.pow_one]
    exact Nat.pos_iff_ne_zero.1 (Nat.div_pos hn (by omega))
theorem numd_dec (u : Nat) : numd 10 u (Lib.nDigits u) := by
  induction u using Nat.strongRecOn with
  | _ u ih =>
    by_cases h : u < 10
    · rw [Lib.nDigits_small h]; exact numd_small h
    · rw [Lib.nDigits_big h]; exact numd_succ (by omega) (by omega) (ih _ (by omega))
def decN (u : Nat) : List Nat := txt 10 u (Lib.nDigits u)
theorem decN_length (u : Nat) : (decN u).length = Lib.nDigits u := txt_length _ _ _
theorem txt_range (b n m : Nat) : txt b n m = (List.range m).map fun t => chrN (n / b ^ (m - 1 - t) % b) := by
  apply List.ext_getElem
  · rw [txt_length]; simp
  · intro i h1 h2
    rw [txt_length] at h1
    simp only [txt, digL, List.getElem_map, List.getElem_reverse, List.getElem_range, List.length_map, List.length_range]
theorem dg_chr (u j : Nat) : Lib.dg u j = UInt8.ofNat (chrN (u / 10 ^ j % 10)) := by
  unfold Lib.dg chrN
  rw [if_pos (Nat.mod_lt _ (by omega))]
theorem bstr_decN (u : Nat) : bstr (decN u) = ⟨(Lib.decDigits u).toArray⟩ := by
  unfold bstr
  congr 2
  rw [Lib.decDigits_eq, decN, txt_range, List.map_map]
  exact List.map_congr_left fun t _ => (dg_chr _ _).symm
theorem decN_dg (u : Nat) : Dg (decN u) := txt_dg (by omega) (by omega)
theorem decN_le (u : Nat) (h : u < 10 ^ 19) : (decN u).length ≤ 19 := by
  rw [decN_length]
  rcases Nat.lt_or_ge 19 (Lib.nDigits u) with h1 | h1
  · exact absurd (Nat.div_eq_of_lt (Nat.lt_of_lt_of_le h (Nat.pow_le_pow_right (by omega) (by omega)))) ((numd_dec u).2.2 (by omega))
  · exact h1
theorem decN_pos (u : Nat) : 1 ≤ (decN u).length := by rw [decN_length]; exact (numd_dec u).1
/-- Digits of 0. -/
theorem digL_zero (b j : Nat) : digL b 0 j = List.replicate j 0 := by simp [digL, List.map_const']
theorem digL_mod {b n j : Nat} (i : Nat) (h : i ≤ j) : digL b (n % b ^ j) i = digL b n i := by
  unfold digL
  refine List.map_congr_left fun k hk => ?_
  have hk := List.mem_range.1 hk
  have e : b ^ j = b ^ k * (b * b ^ (j - k - 1)) := by rw [← Nat.pow_succ', ← Nat.pow_add]; congr 1; omega
  rw [e, Nat.mod_mul_right_div_self, Nat.mod_mul_right_mod]
/-- The lowest 19 k digits. -/
def padN (X k : Nat) : List Nat := (digL 10 X (19 * k)).reverse.map chrN
theorem padN_length (X k : Nat) : (padN X k).length = 19 * k := by simp [padN, digL_length]
theorem padN_dg (X k : Nat) : Dg (padN X k) := txt_dg (b := 10) (by omega) (by omega)
theorem padN_zero (X : Nat) : padN X 0 = [] := by simp [padN, digL]
/-- Filled up with zeros: nineteen digits. -/
theorem filled_dec {X k j : Nat} (hj : j + (decN (X / 10 ^ (19 * k) % 10 ^ 19)).length = 19) : (List.replicate j 48 ++ decN (X / 10 ^ (19 * k) % 10 ^ 19)) ++ padN X k = padN X (k + 1) := by
  have hm := decN_length (X / 10 ^ (19 * k) % 10 ^ 19)
  have hn := numd_dec (X / 10 ^ (19 * k) % 10 ^ 19)
  generalize hR : X / 10 ^ (19 * k) % 10 ^ 19 = R at *
  have h1 : digL 10 R 19 = digL 10 R (Lib.nDigits R) ++ List.replicate j 0 := by
    rw [← digL_zero 10, show (0 : Nat) = R / 10 ^ Lib.nDigits R from hn.2.1.symm, ← digL_append]
    congr 1
    omega
  have h2 : digL 10 (X / 10 ^ (19 * k)) 19 = digL 10 R 19 := by rw [← hR, digL_mod 19 (Nat.le_refl _)]
  unfold padN
  rw [show 19 * (k + 1) = 19 * k + 19 by omega, digL_append, h2, h1, List.reverse_append, List.reverse_append, List.map_append, List.map_append, List.reverse_replicate, List.map_replicate]
  rfl
/-- The topmost digits. -/
theorem text_done {X k : Nat} (hk : k = 0 ∨ X / 10 ^ (19 * k) ≠ 0) (hq : X / 10 ^ (19 * k) / 10 ^ 19 = 0) {m : Nat} (hm : numd 10 X m) : decN (X / 10 ^ (19 * k) % 10 ^ 19) ++ padN X k = txt 10 X m := by
  have hlt : X / 10 ^ (19 * k) < 10 ^ 19 := by
    rcases Nat.lt_or_ge (X / 10 ^ (19 * k)) (10 ^ 19) with h | h
    · exact h
    · have := Nat.div_pos h (by decide); omega
  rw [Nat.mod_eq_of_lt hlt]
  have hn := numd_dec (X / 10 ^ (19 * k))
  have hm2 : numd 10 X (19 * k + Lib.nDigits (X / 10 ^ (19 * k))) := by
    refine ⟨by have := hn.1; omega, by rw [Nat.pow_add, ← Nat.div_div_eq_div_mul]; exact hn.2.1, fun h1 => ?_⟩
    rw [Nat.add_sub_assoc hn.1, Nat.pow_add, ← Nat.div_div_eq_div_mul]
    rcases Nat.lt_or_ge 1 (Lib.nDigits (X / 10 ^ (19 * k))) with h2 | h2
    · exact hn.2.2 h2
    · have := hn.1
      rw [show Lib.nDigits (X / 10 ^ (19 * k)) - 1 = 0 by omega, Nat.pow_zero, Nat.div_one]
      rcases hk with rfl | hk
      · omega
      · exact hk
  obtain rfl := numd_unique (by omega) hm hm2
  unfold padN decN txt
  rw [digL_append, List.reverse_append, List.map_append]
theorem text_less {X k : Nat} (h : X / 10 ^ (19 * k) / 10 ^ 19 ≠ 0) : X / 10 ^ (19 * (k + 1)) ≠ 0 ∧ X / 10 ^ (19 * (k + 1)) < X / 10 ^ (19 * k) := by
  have e : X / 10 ^ (19 * (k + 1)) = X / 10 ^ (19 * k) / 10 ^ 19 := by rw [show 19 * (k + 1) = 19 * k + 19 by omega, Nat.pow_add, Nat.div_div_eq_div_mul]
  rw [e]
  refine ⟨h, ?_⟩
  generalize X / 10 ^ (19 * k) = q at *
  exact Nat.div_lt_self (by
    rcases Nat.eq_zero_or_pos q with h0 | h0
    · subst h0; simp at h
    · exact h0) (by decide)
/-! ### What formatBase10 leaves -/
section
open Go.Sort Go.RowKit
theorem heap_mapBlock (w : World) (g i : Nat) (f : Array Value → Array Value) : (mapBlock w g f).heap[i]? = if g = i then (w.heap[i]?).map (onCells f) else w.heap[i]? := by
  unfold mapBlock
  rw [Array.getElem?_modify]
theorem ws_putRow {w : World} {g t : Nat} {bs : List Nat} {dk : Array UInt8} (n : Nat) (hat : w.heap[g]? = some (.cells (rowN .u8 bs).toArray t (0, 0))) (hk : dk.size ≤ bs.length) :
    WS w [g] [(0, ⟨some g, t, rowN .u8 (dk.toList.map UInt8.toNat ++ bs.drop dk.size)⟩)] ((putRow (fun (b : UInt8) => Value.int .u8 (b.toNat : Int)) w g 0 dk).drewN n) := by
  have hcells : putCells (fun (b : UInt8) => Value.int .u8 (b.toNat : Int)) 0 dk (rowN .u8 bs).toArray = (rowN .u8 (dk.toList.map UInt8.toNat ++ bs.drop dk.size)).toArray := by
    apply Array.ext'
    apply List.ext_getElem
    · simp [putCells, rowN]; omega
    · intro i h1 h2
      simp only [putCells, rowN, Array.toList_mapIdx, List.getElem_mapIdx, List.getElem_map]
      simp only [Nat.zero_le, true_and, Nat.zero_add, Nat.sub_zero]
      by_cases hi : i < dk.size
      · rw [if_pos hi, List.getElem_append_left (by simp; exact hi), getElem!_pos dk i hi]
        simp
      · rw [if_neg hi, List.getElem_append_right (by simp; omega)]
        simp only [List.length_map, Array.length_toList, List.getElem_drop]
        congr 3
        omega
  have hh : ((putRow (fun (b : UInt8) => Value.int .u8 (b.toNat : Int)) w g 0 dk).drewN n).heap = (putRow (fun (b : UInt8) => Value.int .u8 (b.toNat : Int)) w g 0 dk).heap := by
    induction n with
    | zero => rfl
    | succ n ih => exact ih
  have hs : (putRow (fun (b : UInt8) => Value.int .u8 (b.toNat : Int)) w g 0 dk).heap.size = w.heap.size := by simp [putRow, mapBlock]
  have hd : ∀ (w : World) (n : Nat), (w.drewN n).os = w.os ∧ (w.drewN n).tape = w.tape ∧ (w.drewN n).output = w.output := fun w n => by
    induction n with
    | zero => exact ⟨rfl, rfl, rfl⟩
    | succ n ih => exact ih
  refine ⟨(hd _ n).1, (hd _ n).2.1, (hd _ n).2.2, by rw [hh, hs]; exact Nat.le_refl _, fun i hi hM => ?_, fun j e he => ?_, fun j j' e e' q he he' hne => ?_, fun j e q he hq => ?_⟩
  · rw [hh]
    unfold putRow
    rw [heap_mapBlock, if_neg (by rintro rfl; simp at hM)]
  · rw [lk_cons] at he
    split at he
    · cases he
      simp only [Ent.At]
      rw [hh]
      unfold putRow
      rw [heap_mapBlock, if_pos rfl, hat]
      simp only [Option.map_some, onCells, hcells]
    · simp [lk] at he
  · rw [lk_cons] at he he'
    split at he <;> split at he'
    · omega
    · simp [lk] at he'
    · simp [lk] at he
    · simp [lk] at he
  · rw [lk_cons] at he
    split at he
    · cases he; cases hq; right; simp
    · simp [lk] at he
theorem holds_row {w : World} {g t nd : Nat} {bs : List Nat} (hat : w.heap[g]? = some (.cells (rowN .u8 bs).toArray t (0, 0))) (hb : Dg bs) (hk : nd ≤ bs.length) :
    Holds (fun (b : UInt8) => Value.int .u8 (b.toNat : Int)) w g 0 ((bs.take nd).map UInt8.ofNat).toArray := fun j hj => by
  have hj : j < nd := by simp at hj; omega
  have hx : bs[j]'(by omega) < 256 := hb _ (List.getElem_mem (by omega))
  refine ⟨?_, ?_⟩
  · rw [Nat.zero_add, getElem!_pos _ j (by simp; omega)]
    simp only [World.cell?, hat, rowN]
    simp [Nat.mod_eq_of_lt hx, show j < bs.length by omega]
  · rw [Nat.zero_add]
    simp only [World.frozen?, hat]
    simp
theorem fmt_dec {u v' : Nat} {dk : Array UInt8} (h : Lib.FmtInv (Lib.nDigits u) u 0 v' dk) : dk.toList.map UInt8.toNat = decN u := by
  apply List.ext_getElem
  · rw [List.length_map, Array.length_toList, h.size, decN_length]
  · intro i h1 h2
    rw [decN_length] at h2
    have h3 := h.done i (Nat.zero_le _) h2
    rw [getElem!_pos dk i (by rw [h.size]; exact h2)] at h3
    simp only [List.getElem_map, Array.getElem_toList, h3]
    have : (decN u)[i]'(by rw [decN_length]; exact h2) = chrN (u / 10 ^ (Lib.nDigits u - 1 - i) % 10) := by
      simp only [decN, txt_range, List.getElem_map, List.getElem_range]
    rw [this, dg_chr, UInt8.toNat_ofNat', Nat.mod_eq_of_lt (chrN_lt (by have := Nat.mod_lt (u / 10 ^ (Lib.nDigits u - 1 - i)) (show 10 > 0 by omega); omega))]
/-! ### The library's contracts in one's own words -/
theorem small_wrap {P : Program} {f : FuncId} {args : Array Value} {w : World} {i : Nat} (h : Calls P f args w fun e w' => e = .returned (.string ⟨(Lib.decDigits i).toArray⟩) ∧ w' = w) : Calls P f args w fun e w' => e = .returned (.string (bstr (decN i))) ∧ WS w [] [] w' :=
  h.mono fun e w' hh => ⟨by rw [bstr_decN]; exact hh.1, by rw [hh.2]; exact WS.refl _ _⟩
theorem val_wrap {P : Program} {f : FuncId} {args : Array Value} {w : World} {v : Value} (h : Calls P f args w fun e w' => e = .returned v ∧ w' = w) : Calls P f args w fun e w' => e = .returned v ∧ WS w [] [] w' :=
  h.mono fun e w' hh => ⟨hh.1, by rw [hh.2]; exact WS.refl _ _⟩
theorem fmt_wrap {P : Program} {f : FuncId} {w : World} {g t u cap : Nat} {bs : List Nat} (hat : w.heap[g]? = some (.cells (rowN .u8 bs).toArray t (0, 0))) (hb : Dg bs) (hk : Lib.nDigits u ≤ bs.length) (hu : u < 18446744073709551616) (hs : bs.length ≤ 1000)
    (h : ∀ d : Array UInt8, Holds (fun (b : UInt8) => Value.int .u8 (b.toNat : Int)) w g 0 d → u < 10 ^ d.size → d.size < 4611686018427387904 → Calls P f #[.slice (some ⟨g, 0, none⟩) d.size cap, .int .u64 u] w fun e w' =>
      e = .returned (.tuple #[]) ∧ ∃ (n v' : Nat) (dk : Array UInt8), w' = (putRow (fun (b : UInt8) => Value.int .u8 (b.toNat : Int)) w g 0 dk).drewN n ∧ Lib.FmtInv d.size u 0 v' dk) :
    Calls P f #[.slice (some ⟨g, 0, none⟩) (Lib.nDigits u) cap, .int .u64 u] w fun e w' => e = .returned (.tuple #[]) ∧ WS w [g] [(0, ⟨some g, t, rowN .u8 (decN u ++ bs.drop (Lib.nDigits u))⟩)] w' := by
  have hsz : ((bs.take (Lib.nDigits u)).map UInt8.ofNat).toArray.size = Lib.nDigits u := by simp; omega
  have := h _ (holds_row hat hb hk) (by rw [hsz]; exact Lib.lt_pow_nDigits u) (by rw [hsz]; omega)
  rw [hsz] at this
  refine this.mono fun e w' ⟨he, n, v', dk, hw', hF⟩ => ⟨he, ?_⟩
  subst hw'
  have hd := fmt_dec hF
  have hz := hF.size
  rw [← hd, ← hz]
  exact ws_putRow n hat (by rw [hz]; exact hk)
end
theorem tab_ws {P : Program} {w w' : World} {l : List (Nat × Ent)} {n : String} {k : IntKind} {zs : List Int} {g : Nat} (hg : P.globalNamed n = some g) (h : Lib.TabIs P w n k zs) (hw : WS w [] l w') : Lib.TabIs P w' n k zs := by
  unfold Lib.TabIs World.var? at *
  rw [hg] at h ⊢
  simp only [Option.bind_some] at h ⊢
  have hlt : g < w.heap.size := by
    rcases Nat.lt_or_ge g w.heap.size with h' | h'
    · exact h'
    · rw [Array.getElem?_eq_none h'] at h; cases h
  rw [hw.keep g hlt (by simp)]
  exact h
theorem WS.preCs {w0 w : World} {M : List Nat} {l : List (Nat × Ent)} (hw : WS w0 M l w) {k g t : Nat} {kd : IntKind} {xs ys : List Nat} (hl : lk l k = some ⟨some g, t, rowN kd (xs ++ ys)⟩) : Cs w (some ⟨g, 0, none⟩) (rowN kd xs) :=
  hw.csOf hl 0 (rowN kd xs) fun i x hx => by
    rw [Nat.zero_add]
    show (rowN kd (xs ++ ys))[i]? = _
    rw [rowN_append, List.getElem?_append_left (by
      rcases Nat.lt_or_ge i (rowN kd xs).length with h | h
      · exact h
      · rw [List.getElem?_eq_none h] at hx; cases hx)]
    exact hx
/-! ### Text -/
theorem wc_mod (x : Nat) : wc (x % 2 ^ 256) = wc x := by
  have : wl (x % 2 ^ 256) = wl x := by unfold wl; rw [lim_mod x 0 (by omega), lim_mod x 1 (by omega), lim_mod x 2 (by omega), lim_mod x 3 (by omega)]
  rw [wc, this]
theorem text_k {X k : Nat} (hX : X < 2 ^ 256) (h : k = 0 ∨ X / 10 ^ (19 * k) ≠ 0) : k ≤ 4 := by
  rcases Nat.lt_or_ge 4 k with h1 | h1
  · rcases h with h | h
    · omega
    · exact absurd (Nat.div_eq_of_lt (Nat.lt_of_lt_of_le hX (Nat.le_trans (show 2 ^ 256 ≤ 10 ^ (19 * 5) by decide) (Nat.pow_le_pow_right (by omega) (by omega))))) h
  · exact h1
theorem text_q {Q : Nat} (hQ : Q < 2 ^ 256) : (Q % 2 ^ 256 + 0 * 2 ^ 256) / (10000000000000000000 % 2 ^ 256) = Q / 10 ^ 19 := by
  rw [Nat.mod_eq_of_lt hQ, Nat.zero_mul, Nat.add_zero]
theorem text_r {Q : Nat} (hQ : Q < 2 ^ 256) : (Q % 2 ^ 256 + 0 * 2 ^ 256) % (10000000000000000000 % 2 ^ 256) = Q % 10 ^ 19 := by
  rw [Nat.mod_eq_of_lt hQ, Nat.zero_mul, Nat.add_zero]
theorem text_lim (R : Nat) : lim (R % 10 ^ 19) 0 = R % 10 ^ 19 := by
  unfold lim
  rw [Nat.pow_zero, Nat.div_one]
  exact Nat.mod_eq_of_lt (Nat.lt_trans (Nat.mod_lt _ (by decide)) (by decide))
theorem text_next (X k : Nat) : X / 10 ^ (19 * (k + 1)) = X / 10 ^ (19 * k) / 10 ^ 19 := by rw [show 19 * (k + 1) = 19 * k + 19 by omega, Nat.pow_add, Nat.div_div_eq_div_mul]
end Go.Fw
set_option linter.unusedVariables false
namespace Go.Fw
open Go
theorem worth_chr {d : Nat} (h : d < 16) : worthZ (chrN d) = (d : Int) := by
  unfold worthZ chrN
  by_cases h1 : d < 10
  · rw [if_pos h1, if_pos (by omega)]; omega
  · rw [if_neg h1, if_neg (by omega), if_pos (by omega)]; omega
theorem txt_ok {b n m : Nat} (hb : 0 < b) (hb2 : b ≤ 16) : ∀ c ∈ txt b n m, okD b c := fun c hc => by
  simp only [txt, List.mem_map, List.mem_reverse] at hc
  obtain ⟨d, hd, rfl⟩ := hc
  have := digL_lt hb hd
  unfold okD
  rw [worth_chr (by omega)]
  omega
theorem txt_okS {b n m : Nat} (hb : 0 < b) (hb2 : b ≤ 16) (hm : 1 ≤ m) : okS b (txt b n m) := ⟨fun h => by have := txt_length b n m; rw [h] at this; simp at this; omega, txt_ok hb hb2⟩
theorem digL_cons (b n m : Nat) : digL b n (m + 1) = (n % b) :: digL b (n / b) m := by
  rw [Nat.add_comm, digL_append, Nat.pow_one]
  simp [digL]
theorem numV_txt {b : Nat} (hb : 0 < b) (hb2 : b ≤ 16) : ∀ (m n : Nat), numV b (txt b n m) = n % b ^ m
  | 0, n => by simp [txt, digL, numV, Nat.mod_one]
  | m + 1, n => by
    have ih := numV_txt hb hb2 m (n / b)
    unfold txt at ih ⊢
    rw [digL_cons, List.reverse_cons, List.map_append]
    show numV b (_ ++ [chrN (n % b)]) = _
    have hd := Nat.mod_lt n hb
    rw [numV_snoc, ih, worth_chr (by omega), Int.toNat_natCast, Nat.pow_succ, Nat.mul_comm (b ^ m), Nat.mod_mul]
    rw [Nat.mul_comm, Nat.add_comm]
theorem numd_lt {b n m : Nat} (hb : 0 < b) (h : numd b n m) : n < b ^ m := by
  rcases Nat.lt_or_ge n (b ^ m) with h1 | h1
  · exact h1
  · have := Nat.div_pos h1 (Nat.pow_pos hb); have := h.2.1; omega
theorem numV_told {b n m : Nat} (hb : 0 < b) (hb2 : b ≤ 16) (h : numd b n m) : numV b (txt b n m) = n := by
  rw [numV_txt hb hb2, Nat.mod_eq_of_lt (numd_lt hb h)]
theorem numd78 {n m : Nat} (h : numd 10 n m) (hn : n < 2 ^ 256) : m ≤ 78 := by
  rcases Nat.lt_or_ge 78 m with h1 | h1
  · exact absurd (Nat.div_eq_of_lt (Nat.lt_of_lt_of_le hn (show 2 ^ 256 ≤ 10 ^ (m - 1) from Nat.le_trans (by decide : 2 ^ 256 ≤ 10 ^ 78) (Nat.pow_le_pow_right (by omega) (by omega))))) (h.2.2 (by omega))
  · exact h1
theorem not_hexP {ss : List Nat} (h : ∀ c ∈ ss, okD 10 c) : ¬ hexP ss := fun q => by
  have h1 := h (ss.getD 1 0) (by
    rw [List.getD_eq_getElem?_getD, List.getElem?_eq_getElem (by have := q.1; omega)]; exact List.getElem_mem _)
  rw [q.2.2] at h1
  revert h1; decide
theorem parse_hex {X m : Nat} (hX : X < 2 ^ 256) (hm : numd 16 X m) : parseN ([48, 120] ++ txt 16 X m) = (X, 0) := by
  have hm64 := numd64 hm hX
  have hl := txt_length 16 X m
  have hd : ([48, 120] ++ txt 16 X m).drop 2 = txt 16 X m := rfl
  rw [parseN_hex (by rw [List.length_append, hl]; show ¬ 78 < 2 + m; omega) ⟨by rw [List.length_append]; show 2 ≤ 2 + _; omega, rfl, rfl⟩ (by rw [List.length_append, hl]; show ¬ 64 < 2 + m - 2; omega), hd]
  have hv := numV_told (by omega) (by omega) hm
  rw [bodyN_ok (txt_okS (by omega) (by omega) hm.1) (by rw [hv]; exact hX), hv]
theorem parse_text {X m : Nat} (hX : X < 2 ^ 256) (hm : numd 10 X m) : parseN (txt 10 X m) = (X, 0) := by
  have hm78 := numd78 hm hX
  have hl := txt_length 10 X m
  rw [parseN_dec (by rw [hl]; omega) (not_hexP (txt_ok (by omega) (by omega)))]
  have hv := numV_told (by omega) (by omega) hm
  rw [bodyN_ok (txt_okS (by omega) (by omega) hm.1) (by rw [hv]; exact hX), hv]
theorem parse_zero {X m : Nat} (hX : X < 2 ^ 256) (hm : numd 10 X m) (hl7 : m ≠ 78) : parseN ([48] ++ txt 10 X m) = (X, 0) := by
  have hm78 := numd78 hm hX
  have hl := txt_length 10 X m
  have hall : ∀ c ∈ [48] ++ txt 10 X m, okD 10 c := fun c hc => by
    rcases List.mem_append.1 hc with h | h
    · obtain rfl := List.mem_singleton.1 h; decide
    · exact txt_ok (by omega) (by omega) c h
  rw [parseN_dec (by rw [List.length_append, hl]; show ¬ 78 < 1 + m; omega) (not_hexP hall)]
  have hv : numV 10 ([48] ++ txt 10 X m) = X := numV_told (by omega) (by omega) hm
  rw [bodyN_ok ⟨by simp, hall⟩ (by rw [hv]; exact hX), hv]
theorem parse_over {X m : Nat} (hm : m = 78) : parseN ([48] ++ txt 10 X m) = (0, 2) := by
  have hl := txt_length 10 X m
  exact parseN_long (by rw [List.length_append, hl]; show 78 < 1 + m; omega)
theorem parse_codes (ss : List Nat) : ((parseN ss).2 = 0 ∧ (parseN ss).1 < 2 ^ 256 ∧ ¬ 78 < ss.length) ∨ ((parseN ss).1 = 0 ∧ (parseN ss).2 = 2 ∧ 78 < ss.length) ∨ ((parseN ss).1 = 0 ∧ (parseN ss).2 = 10 ∧ ¬ 78 < ss.length) := by
  unfold parseN bodyN
  split
  · right; left; exact ⟨rfl, rfl, by assumption⟩
  · split
    · split
      · right; right; exact ⟨rfl, rfl, by assumption⟩
      · split
        · rename_i h; left; exact ⟨rfl, h.2, by assumption⟩
        · right; right; exact ⟨rfl, rfl, by assumption⟩
    · split
      · rename_i h; left; exact ⟨rfl, h.2, by assumption⟩
      · right; right; exact ⟨rfl, rfl, by assumption⟩
theorem numd_short {b n m k : Nat} (hb : 0 < b) (hk : 1 ≤ k) (hn : n < b ^ k) (h : numd b n m) : m ≤ k := by
  rcases Nat.lt_or_ge k m with h1 | h1
  · exact absurd (Nat.div_eq_of_lt (Nat.lt_of_lt_of_le hn (Nat.pow_le_pow_right hb (by omega)))) (h.2.2 (by omega))
  · exact h1
theorem body_short {b : Nat} {ss : List Nat} (hb : 0 < b) (h0 : (bodyN b ss).2 = 0) {m : Nat} (hm : numd b (bodyN b ss).1 m) : m ≤ ss.length := by
  by_cases h : okS b ss ∧ numV b ss < 2 ^ 256
  · rw [bodyN_ok h.1 h.2] at hm
    have h1 : 0 < ss.length := List.length_pos_iff.2 h.1.1
    have h2 := numV_lt hb ss.length (Nat.le_refl _) (ss := ss) (fun q hq => h.1.2 _ (by rw [List.getD_eq_getElem?_getD, List.getElem?_eq_getElem hq]; exact List.getElem_mem _))
    rw [List.take_length] at h2
    exact numd_short hb (by omega) h2 hm
  · unfold bodyN at h0; rw [if_neg h] at h0; cases h0
theorem hex_short {ss : List Nat} (h0 : (parseN ss).2 = 0) (h1 : 1 < ss.length) (h2 : ss.getD 1 0 = 120) {m : Nat} (hm : numd 16 (parseN ss).1 m) : 2 + m ≤ ss.length := by
  have hx : hexP ss := by
    by_cases hx : hexP ss
    · exact hx
    · exfalso
      unfold parseN bodyN at h0
      rw [if_neg hx] at h0
      split at h0
      · cases h0
      · split at h0
        · rename_i h
          have h3 := h.1.2 (ss.getD 1 0) (by rw [List.getD_eq_getElem?_getD, List.getElem?_eq_getElem h1]; exact List.getElem_mem _)
          rw [h2] at h3; revert h3; decide
        · cases h0
  unfold parseN at h0 hm
  rw [if_pos hx] at h0 hm
  split at h0
  · cases h0
  · rename_i h7
    rw [if_neg h7] at hm
    split at h0
    · cases h0
    · rename_i h8
      rw [if_neg h8] at hm
      have := body_short (by omega) h0 hm
      rw [List.length_drop] at this
      omega
theorem dec_short {ss : List Nat} (h0 : (parseN ss).2 = 0) (h1 : ¬ (1 < ss.length ∧ ss.getD 1 0 = 120)) {m : Nat} (hm : numd 10 (parseN ss).1 m) : m ≤ ss.length := by
  have hx : ¬ hexP ss := fun q => h1 ⟨q.1, q.2.2⟩
  unfold parseN at h0 hm
  rw [if_neg hx] at h0 hm
  split at h0
  · cases h0
  · rename_i h7
    rw [if_neg h7] at hm
    exact body_short (by omega) h0 hm
theorem dec_short' {ss : List Nat} (h0 : (parseN ss).2 = 0) (h1 : ss.getD 1 0 ≠ 120) {m : Nat} (hm : numd 10 (parseN ss).1 m) : m ≤ ss.length := dec_short h0 (fun q => h1 q.2) hm
theorem bstr_of (s : ByteArray) : ∃ ss, s = bstr ss ∧ Dg ss := by
  refine ⟨s.data.toList.map UInt8.toNat, ?_, fun x hx => ?_⟩
  · apply ByteArray.ext
    unfold bstr
    rw [List.map_map]
    apply Array.ext'
    rw [List.toList_toArray]
    conv => lhs; rw [← List.map_id s.data.toList]
    exact List.map_congr_left fun a _ => by simp
  · obtain ⟨u, _, rfl⟩ := List.mem_map.1 hx
    exact u.toNat_lt
end Go.Fw
set_option linter.unusedVariables false
set_option maxRecDepth 20000
namespace Go.Proofs.YtegociefcfcihaaDoor.Wa
open Go Go.Fw

theorem sz39 : SizeT Tryd.prog 39 32 := (by unfold SizeT; kernel_rfl)
theorem fok160 : FnOk Tryd.prog 160 := FnOk.mk' Tryd.func160 (by kernel_rfl) rfl
theorem zero24 : ZeroT Tryd.prog 24 (.agg ([.int .u64 0, .int .u64 0, .int .u64 0, .int .u64 0]).toArray) := (by unfold ZeroT; kernel_rfl)
theorem sz22 : SizeT Tryd.prog 22 1 := (by unfold SizeT; kernel_rfl)
theorem arr24 : ArrT Tryd.prog 24 4 22 1 := ⟨Tryd.underlying24, sz22⟩
theorem one22 : OneT Tryd.prog 22 := ⟨⟨_, Tryd.underlying22, rfl⟩, by kernel_rfl⟩
theorem agg24 : AggT Tryd.prog 24 4 := ⟨⟨_, Tryd.underlying24, rfl⟩, by kernel_rfl⟩
theorem sz24 : SizeT Tryd.prog 24 4 := (by unfold SizeT; kernel_rfl)
theorem fok111 : FnOk Tryd.prog 111 := FnOk.mk' Tryd.func111 (by kernel_rfl) rfl
theorem fok54 : FnOk Tryd.prog 54 := FnOk.mk' Tryd.func54 (by kernel_rfl) rfl
theorem eqw24 : EqT Tryd.prog 24 := ⟨⟨22, arr24, one22, Tryd.underlying22⟩, by kernel_rfl⟩
theorem fok149 : FnOk Tryd.prog 149 := FnOk.mk' Tryd.func149 (by kernel_rfl) rfl
theorem fok134 : FnOk Tryd.prog 134 := FnOk.mk' Tryd.func134 (by kernel_rfl) rfl
theorem fok75 : FnOk Tryd.prog 75 := FnOk.mk' Tryd.func75 (by kernel_rfl) rfl
theorem sl35 : SlT Tryd.prog 35 24 4 := ⟨Tryd.underlying35, sz24⟩
theorem fok107 : FnOk Tryd.prog 107 := FnOk.mk' Tryd.func107 (by kernel_rfl) rfl
theorem sz5 : SizeT Tryd.prog 5 1 := (by unfold SizeT; kernel_rfl)
theorem sl45 : SlT Tryd.prog 45 5 1 := ⟨Tryd.underlying45, sz5⟩
theorem one5 : OneT Tryd.prog 5 := ⟨⟨_, Tryd.underlying5, rfl⟩, by kernel_rfl⟩
theorem zero39 : ZeroT Tryd.prog 39 (.agg ([.int .u8 0, .int .u8 0, .int .u8 0, .int .u8 0, .int .u8 0, .int .u8 0, .int .u8 0, .int .u8 0, .int .u8 0, .int .u8 0, .int .u8 0, .int .u8 0, .int .u8 0, .int .u8 0, .int .u8 0, .int .u8 0, .int .u8 0, .int .u8 0, .int .u8 0, .int .u8 0, .int .u8 0, .int .u8 0, .int .u8 0, .int .u8 0, .int .u8 0, .int .u8 0, .int .u8 0, .int .u8 0, .int .u8 0, .int .u8 0, .int .u8 0, .int .u8 0]).toArray) := (by unfold ZeroT; kernel_rfl)
theorem arr39 : ArrT Tryd.prog 39 32 5 1 := ⟨Tryd.underlying39, sz5⟩
theorem agg39 : AggT Tryd.prog 39 32 := ⟨⟨_, Tryd.underlying39, rfl⟩, by kernel_rfl⟩

theorem Len64 (w : World) (x0 : Nat) (hx : x0 < 18446744073709551616) :
    Calls Tryd.prog 160 [.int .u64 (x0 : Int)].toArray w fun e w' => e = .returned (.int .i64 (bitLen x0 : Int)) ∧ WS w [] [] w' := by
  refine calls_of_T [] 25 [] Tryd.func160 rfl Tryd.ntmps160 (by simp) (WS.refl _ _) ?_
  refine T.seq ?_
  refine T.text [.l] rfl ?_
  refine J.assign rfl rfl ?_
  refine J.end ?_
  refine X.then ?_
  refine T.meet (ι := Nat × Nat) (fun ((n1, x1) : Nat × Nat) => bitLen x0 = n1 + bitLen x1 ∧ x1 < 4294967296 ∧ n1 ≤ 32) (fun ((n1, x1) : Nat × Nat) => [(2, .int .i64 (n1 : Int)), (0, .int .u64 (x1 : Int))]) (fun ((n1, x1) : Nat × Nat) => []) ?_ ?_
  · -- up to where the ways meet
    refine T.seq ?_
    refine T.text [.l, .l] rfl ?_
    refine J.move rfl rfl ?_
    refine J.geq rfl rfl rfl rfl ?_
    refine J.end ?_
    refine X.then ?_
    refine T.cond_dec rfl (fun h1 => ?_) (fun h1 => ?_)
    · skip
      refine T.seq ?_
      refine T.text [.l, .l, .l] rfl ?_
      refine J.move rfl rfl ?_
      refine J.shr rfl rfl rfl (by decide) (by exact shr_nat _ 32 (by omega)) ?_
      refine J.assign rfl rfl ?_
      refine J.end ?_
      refine X.then ?_
      refine T.text [.l] rfl ?_
      refine J.assign rfl rfl ?_
      refine J.end ?_
      exact X.at ⟨(0 + 32), (x0 / 2 ^ 32)⟩ ⟨by have := bitLen_shift x0 32; omega, by omega, by omega⟩ (by repeat (first | exact Sub.nil _ | refine Sub.cons (by first | rfl | (rw [dgs_zero]; rfl) | (rw [List.drop_length]; rfl) | (simp; done) | (congr 2; omega) | (congr 3; omega)) ?_)) (by repeat (first | exact Sub.nil _ | refine Sub.cons (by first | rfl | (rw [dgs_zero]; rfl) | (rw [List.drop_length]; rfl) | (simp; done) | (congr 2; omega) | (congr 3; omega)) ?_))
    · skip
      refine T.skip ?_
      exact X.at ⟨0, x0⟩ ⟨by have := bitLen_shift x0 32; omega, by omega, by omega⟩ (by repeat (first | exact Sub.nil _ | refine Sub.cons (by first | rfl | (rw [dgs_zero]; rfl) | (rw [List.drop_length]; rfl) | (simp; done) | (congr 2; omega) | (congr 3; omega)) ?_)) (by repeat (first | exact Sub.nil _ | refine Sub.cons (by first | rfl | (rw [dgs_zero]; rfl) | (rw [List.drop_length]; rfl) | (simp; done) | (congr 2; omega) | (congr 3; omega)) ?_))
  · rintro ⟨n1, x1⟩ ⟨hb1, hx1, hn1⟩
    try dsimp only at *
    refine T.meet (ι := Nat × Nat) (fun ((n2, x2) : Nat × Nat) => bitLen x0 = n2 + bitLen x2 ∧ x2 < 65536 ∧ n2 ≤ 48) (fun ((n2, x2) : Nat × Nat) => [(2, .int .i64 (n2 : Int)), (0, .int .u64 (x2 : Int))]) (fun ((n2, x2) : Nat × Nat) => []) ?_ ?_
    · -- up to where the ways meet
      refine T.seq ?_
      refine T.text [.l, .l] rfl ?_
      refine J.move rfl rfl ?_
      refine J.geq rfl rfl rfl rfl ?_
      refine J.end ?_
      refine X.then ?_
      refine T.cond_dec rfl (fun h2 => ?_) (fun h2 => ?_)
      · skip
        refine T.seq ?_
        refine T.text [.l, .l, .l] rfl ?_
        refine J.move rfl rfl ?_
        refine J.shr rfl rfl rfl (by decide) (by exact shr_nat _ 16 (by omega)) ?_
        refine J.assign rfl rfl ?_
        refine J.end ?_
        refine X.then ?_
        refine T.text [.l, .l, .l] rfl ?_
        refine J.move rfl rfl ?_
        refine J.add rfl rfl rfl (by first | exact add_nat _ 16 (by omega) | exact i64_ok _ (by omega) | exact rfl) ?_
        refine J.assign rfl rfl ?_
        refine J.end ?_
        exact X.at ⟨(n1 + 16), (x1 / 2 ^ 16)⟩ ⟨by have := bitLen_shift x1 16; omega, by omega, by omega⟩ (by repeat (first | exact Sub.nil _ | refine Sub.cons (by first | rfl | (rw [dgs_zero]; rfl) | (rw [List.drop_length]; rfl) | (simp; done) | (congr 2; omega) | (congr 3; omega)) ?_)) (by repeat (first | exact Sub.nil _ | refine Sub.cons (by first | rfl | (rw [dgs_zero]; rfl) | (rw [List.drop_length]; rfl) | (simp; done) | (congr 2; omega) | (congr 3; omega)) ?_))
      · skip
        refine T.skip ?_
        exact X.at ⟨n1, x1⟩ ⟨by have := bitLen_shift x1 16; omega, by omega, by omega⟩ (by repeat (first | exact Sub.nil _ | refine Sub.cons (by first | rfl | (rw [dgs_zero]; rfl) | (rw [List.drop_length]; rfl) | (simp; done) | (congr 2; omega) | (congr 3; omega)) ?_)) (by repeat (first | exact Sub.nil _ | refine Sub.cons (by first | rfl | (rw [dgs_zero]; rfl) | (rw [List.drop_length]; rfl) | (simp; done) | (congr 2; omega) | (congr 3; omega)) ?_))
    · rintro ⟨n2, x2⟩ ⟨hb2, hx2, hn2⟩
      try dsimp only at *
      refine T.meet (ι := Nat × Nat) (fun ((n3, x3) : Nat × Nat) => bitLen x0 = n3 + bitLen x3 ∧ x3 < 256 ∧ n3 ≤ 56) (fun ((n3, x3) : Nat × Nat) => [(2, .int .i64 (n3 : Int)), (0, .int .u64 (x3 : Int))]) (fun ((n3, x3) : Nat × Nat) => []) ?_ ?_
      · -- up to where the ways meet
        refine T.seq ?_
        refine T.text [.l, .l] rfl ?_
        refine J.move rfl rfl ?_
        refine J.geq rfl rfl rfl rfl ?_
        refine J.end ?_
        refine X.then ?_
        refine T.cond_dec rfl (fun h3 => ?_) (fun h3 => ?_)
        · skip
          refine T.seq ?_
          refine T.text [.l, .l, .l] rfl ?_
          refine J.move rfl rfl ?_
          refine J.shr rfl rfl rfl (by decide) (by exact shr_nat _ 8 (by omega)) ?_
          refine J.assign rfl rfl ?_
          refine J.end ?_
          refine X.then ?_
          refine T.text [.l, .l, .l] rfl ?_
          refine J.move rfl rfl ?_
          refine J.add rfl rfl rfl (by first | exact add_nat _ 8 (by omega) | exact i64_ok _ (by omega) | exact rfl) ?_
          refine J.assign rfl rfl ?_
          refine J.end ?_
          exact X.at ⟨(n2 + 8), (x2 / 2 ^ 8)⟩ ⟨by have := bitLen_shift x2 8; omega, by omega, by omega⟩ (by repeat (first | exact Sub.nil _ | refine Sub.cons (by first | rfl | (rw [dgs_zero]; rfl) | (rw [List.drop_length]; rfl) | (simp; done) | (congr 2; omega) | (congr 3; omega)) ?_)) (by repeat (first | exact Sub.nil _ | refine Sub.cons (by first | rfl | (rw [dgs_zero]; rfl) | (rw [List.drop_length]; rfl) | (simp; done) | (congr 2; omega) | (congr 3; omega)) ?_))
        · skip
          refine T.skip ?_
          exact X.at ⟨n2, x2⟩ ⟨by have := bitLen_shift x2 8; omega, by omega, by omega⟩ (by repeat (first | exact Sub.nil _ | refine Sub.cons (by first | rfl | (rw [dgs_zero]; rfl) | (rw [List.drop_length]; rfl) | (simp; done) | (congr 2; omega) | (congr 3; omega)) ?_)) (by repeat (first | exact Sub.nil _ | refine Sub.cons (by first | rfl | (rw [dgs_zero]; rfl) | (rw [List.drop_length]; rfl) | (simp; done) | (congr 2; omega) | (congr 3; omega)) ?_))
      · rintro ⟨n3, x3⟩ ⟨hb3, hx3, hn3⟩
        try dsimp only at *
        refine T.seq ?_
        refine T.text [.l, .l, .l, .l, .l, .l, .l] rfl ?_
        refine J.move rfl rfl ?_
        refine J.move rfl rfl ?_
        refine J.conv (by rw [Tryd.underlying22]; rfl) Tryd.underlying5 rfl rfl (by first | exact wrap8_nat' _ (by omega) | exact wrap8_nat _ | exact u8_ok _ (by omega) | exact u8_wrap _) ?_
        refine J.indexTab (f := bitLen) Tryd.underlying9 rfl (by decide +kernel) rfl (by omega) rfl ?_
        have hb8 := bitLen_le8 x3 hx3
        refine J.conv (by rw [Tryd.underlying5]; rfl) Tryd.underlying3 rfl rfl (by first | exact wrap_nat64 _ (by omega) | exact i64_ok _ (by omega) | exact rfl) ?_
        refine J.add rfl rfl rfl (by first | exact add_nat _ _ (by omega) | exact i64_ok _ (by omega) | exact rfl) ?_
        refine J.assign rfl rfl ?_
        refine J.end ?_
        refine X.then ?_
        refine T.ret ?_
        exact X.ret1 rfl (RV.tmp rfl) (fun w' hw' => ⟨by congr 2; omega, hw'.sub (Sub.nil _)⟩)

theorem LeadingZeros64 (w : World) (x0 : Nat) (hx : x0 < 18446744073709551616) :
    Calls Tryd.prog 149 [.int .u64 (x0 : Int)].toArray w fun e w' => e = .returned (.int .i64 ((64 - bitLen x0 : Nat) : Int)) ∧ WS w [] [] w' := by
  have hb := bitLen_le64 x0 hx
  refine calls_of_T [] 6 [] Tryd.func149 rfl Tryd.ntmps149 (by simp) (WS.refl _ _) ?_
  refine T.seq ?_
  refine T.text [.l] rfl ?_
  refine J.assign rfl rfl ?_
  refine J.end ?_
  refine X.then ?_
  refine T.seq ?_
  refine T.text [.l, .l, .l, .l] rfl ?_
  refine J.move rfl rfl ?_
  refine J.call0 (k := .l) trivial fok160 rfl rfl (fun w hw => Wa.Len64 w _ hx) ?_
  refine J.sub' rfl rfl rfl (by first | exact sub_nat 64 _ (by omega) | exact i64_ok _ (by omega) | exact rfl) ?_
  refine J.assign rfl rfl ?_
  refine J.end ?_
  refine X.then ?_
  refine T.ret ?_
  exact X.ret1 rfl (RV.tmp rfl) (fun w' hw' => ⟨rfl, hw'.sub (Sub.nil _)⟩)

theorem plus (w : World) (x0 : Nat) (x1 : Nat) :
    Calls Tryd.prog 107 [W x0, W x1].toArray w fun e w' => e = .returned (.tuple #[W (x0 + x1), .int .u64 (((x0 % 2 ^ 256 + x1 % 2 ^ 256) / 2 ^ 256 : Nat) : Int)]) ∧ WS w [] [] w' := by
  refine calls_of_T [] 28 [] Tryd.func107 rfl Tryd.ntmps107 (by simp) (WS.refl _ _) ?_
  refine T.seq ?_
  refine T.text [.l, .l, .l, .l] rfl ?_
  refine J.box 2 rfl rfl (wc x0) rfl rfl (fun g2 hg2 => ?_)
  refine J.box 3 rfl rfl (wc x1) rfl rfl (fun g3 hg3 => ?_)
  refine J.alloc 4 rfl zero24 [.int .u64 0, .int .u64 0, .int .u64 0, .int .u64 0] rfl rfl (fun g4 hg4 => ?_)
  refine J.assign rfl rfl ?_
  refine J.end ?_
  refine X.then ?_
  refine T.seq ?_
  refine T.text [.l] rfl ?_
  refine J.alloc 6 rfl zero24 [.int .u64 0, .int .u64 0, .int .u64 0, .int .u64 0] rfl rfl (fun g6 hg6 => ?_)
  refine J.end ?_
  refine X.then ?_
  refine T.seq ?_
  refine T.text [.l] rfl ?_
  refine J.assign rfl rfl ?_
  refine J.end ?_
  refine X.then ?_
  refine T.seq ?_
  refine T.seq ?_
  refine T.text [.l] rfl ?_
  refine J.move rfl rfl ?_
  refine J.end ?_
  refine X.then ?_
  refine T.block ?_
  refine T.loop (ι := Nat × Nat × List Nat) (fun ((i, c, ys) : Nat × Nat × List Nat) => i ≤ 4 ∧ c = (x0 % 18446744073709551616 ^ i + x1 % 18446744073709551616 ^ i) / 18446744073709551616 ^ i ∧ ys.length = 4 ∧ ∀ q, q < i → ys.getD q 0 = lim (x0 + x1) q) (fun ((i, c, ys) : Nat × Nat × List Nat) => [(0, W x0), (1, W x1), (2, .pointer (some ⟨g2, 0, none⟩)), (3, .pointer (some ⟨g3, 0, none⟩)), (4, .pointer (some ⟨g4, 0, none⟩)), (5, .int .u64 0), (6, .pointer (some ⟨g6, 0, none⟩)), (7, .int .u64 (c : Int)), (9, .int .i64 (i : Int))]) (fun ((i, c, ys) : Nat × Nat × List Nat) => [(2, ⟨some g2, 24, (wc x0)⟩), (3, ⟨some g3, 24, (wc x1)⟩), (4, ⟨some g4, 24, [.int .u64 0, .int .u64 0, .int .u64 0, .int .u64 0]⟩), (6, ⟨some g6, 24, rowN .u64 ys⟩)]) (fun ((i, c, ys) : Nat × Nat × List Nat) => 4 - i) ⟨0, 0, [0, 0, 0, 0]⟩ ⟨Nat.zero_le _, by simp [Nat.mod_one], rfl, fun q hq => by omega⟩ (by repeat (first | exact Sub.nil _ | refine Sub.cons (by first | rfl | (rw [dgs_zero]; rfl) | (rw [List.drop_length]; rfl) | (simp; done) | (congr 2; omega) | (congr 3; omega)) ?_)) (by repeat (first | exact Sub.nil _ | refine Sub.cons (by first | rfl | (rw [dgs_zero]; rfl) | (rw [List.drop_length]; rfl) | (simp; done) | (congr 2; omega) | (congr 3; omega)) ?_)) ?_
  rintro ⟨i, c, ys⟩ ⟨hi, hc, hl, hy⟩
  try dsimp only at *
  have hcl : c ≤ 1 := by rw [hc]; exact add_carry_le x0 x1 i
  have hl0 := lim_lt x0 i
  have hl1 := lim_lt x1 i
  refine T.seq ?_
  refine T.text [.l] rfl ?_
  refine J.lss rfl rfl rfl rfl ?_
  refine J.end ?_
  refine X.then ?_
  refine T.seq ?_
  refine T.cond_dec rfl (fun h1 => ?_) (fun h1 => ?_)
  · have hi4 : i < 4 := by omega
    have hst := add_step x0 x1 i hi4
    refine T.skip ?_
    refine X.then ?_
    refine T.seq ?_
    refine T.block ?_
    refine T.seq ?_
    refine T.text [.l, .l] rfl ?_
    refine J.move rfl rfl ?_
    refine J.assign rfl rfl ?_
    refine J.end ?_
    refine X.then ?_
    refine T.draw [] [(0, .g), (1, .g), (2, .g), (3, .q), (4, .g), (5, .g), (6, .q), (7, .g), (8, .g), (9, .g), (10, .g), (11, .g), (12, .g), (13, .l), (14, .g)] (by kernel_rfl) (by kernel_rfl) ?_ (by repeat (first | exact Sub.nil _ | refine Sub.cons (by first | rfl | (rw [dgs_zero]; rfl) | (rw [List.drop_length]; rfl) | (simp; done) | (congr 2; omega) | (congr 3; omega)) ?_))
    refine J.move rfl rfl ?_
    refine J.move rfl rfl ?_
    refine J.indexArr arr24 rfl rfl (by omega) (by omega) (by first | exact Int.toNat_natCast _ | rfl) rfl ?_
    refine J.load1 (k := .q) trivial 2 rfl rfl one22 (by exact rowN_get0 _ _ _ (by rw [wl_length]; omega)) rfl ?_
    refine J.as 16 (.int .u64 ((lim x0 i : Nat) : Int)) rfl (by rw [wl_get _ _ (by omega)]) ?_
    refine J.move rfl rfl ?_
    refine J.indexArr arr24 rfl rfl (by omega) (by omega) (by first | exact Int.toNat_natCast _ | rfl) rfl ?_
    refine J.load1 (k := .q) trivial 3 rfl rfl one22 (by exact rowN_get0 _ _ _ (by rw [wl_length]; omega)) rfl ?_
    refine J.as 19 (.int .u64 ((lim x1 i : Nat) : Int)) rfl (by rw [wl_get _ _ (by omega)]) ?_
    refine J.move rfl rfl ?_
    refine J.add64 Tryd.func142 (by kernel_rfl) (by kernel_rfl) (by kernel_rfl) (by kernel_rfl) rfl rfl rfl (by omega) rfl ?_
    refine J.move rfl rfl ?_
    refine J.extract rfl rfl rfl ?_
    refine J.extract rfl rfl rfl ?_
    refine J.indexArr arr24 rfl rfl (by omega) (by omega) (by first | exact Int.toNat_natCast _ | rfl) rfl ?_
    refine J.store 6 rfl rfl rfl rfl [.int .u64 ((((lim x0 i + lim x1 i + c) % 18446744073709551616 : Nat)) : Int)] rfl sz22 (by rw [rowN_length, hl]; show _ + 1 ≤ 4; omega) (by first | exact rowN_one _ _ | (simp; done) | (intro u hu; simp at hu; subst hu; rfl) | (intro u hu; simp at hu; rcases hu with rfl | rfl <;> rfl)) (by first | decide | exact Nat.zero_lt_succ _ | simp) trivial (rowN .u64 (ys.set i ((lim x0 i + lim x1 i + c) % 18446744073709551616))) (by rw [Nat.zero_add, Nat.mul_one]; exact putN' _ _ _ _ (by omega)) ?_
    refine J.assign rfl rfl ?_
    refine J.end ?_
    refine X.inBlock (X.then ?_)
    refine T.text [.l, .l] rfl ?_
    refine J.add rfl rfl rfl (by first | exact add_nat _ 1 (by omega) | exact i64_ok _ (by omega) | exact rfl) ?_
    refine J.move rfl rfl ?_
    refine J.end ?_
    exact X.round ⟨(i + 1), ((lim x0 i + lim x1 i + c) / 18446744073709551616), (ys.set i ((lim x0 i + lim x1 i + c) % 18446744073709551616))⟩ ⟨by omega, by rw [hc]; exact hst.2, by simp [hl], fun q hq => by
          rw [getD_set _ _ _ _ (by omega)]
          split
          · rename_i hiq; subst hiq; rw [hc]; exact hst.1
          · exact hy q (by omega)⟩ (by first | omega | (dsimp only; omega)) (by repeat (first | exact Sub.nil _ | refine Sub.cons (by first | rfl | (rw [dgs_zero]; rfl) | (rw [List.drop_length]; rfl) | (simp; done) | (congr 2; omega) | (congr 3; omega)) ?_)) (by repeat (first | exact Sub.nil _ | refine Sub.cons (by first | rfl | (rw [dgs_zero]; rfl) | (rw [List.drop_length]; rfl) | (simp; done) | (congr 2; omega) | (congr 3; omega)) ?_))
  · obtain rfl : i = 4 := by omega
    obtain rfl : ys = wl (x0 + x1) := wl_of hl _ hy
    refine T.exit ?_
    refine X.then_exit (X.then_exit (X.inBlock_eq (X.then ?_)))
    refine T.seq ?_
    refine T.text [.l, .l, .l, .l] rfl ?_
    refine J.loadN (k := .l) trivial 6 rfl rfl agg24 (wc (x0 + x1)) rfl rfl rfl ?_
    refine J.move rfl rfl ?_
    refine J.store 4 rfl rfl rfl rfl (wc (x0 + x1)) rfl sz24 (by first | decide | exact Nat.le_refl _ | exact Nat.le_of_ble_eq_true rfl | (simp [rowN]; done) | (simp [rowN]; omega)) (by first | exact rowN_one _ _ | (simp; done) | (intro u hu; simp at hu; subst hu; rfl) | (intro u hu; simp at hu; rcases hu with rfl | rfl <;> rfl)) (by first | decide | exact Nat.zero_lt_succ _ | simp) trivial (wc (x0 + x1)) rfl ?_
    refine J.assign rfl rfl ?_
    refine J.end ?_
    refine X.then ?_
    refine T.ret ?_
    exact X.ret2 rfl (RV.agg 4 rfl rfl agg24 (wc (x0 + x1)) (by rfl) (by rfl) rfl) (RV.tmp rfl) (fun w' hw' => ⟨by first | (rw [hc]; done) | (rw [hc]; rfl), hw'.sub (Sub.nil _)⟩)

theorem minus (w : World) (x0 : Nat) (x1 : Nat) :
    Calls Tryd.prog 111 [W x0, W x1].toArray w fun e w' => e = .returned (.tuple #[W (dif x0 x1), .int .u64 ((if x0 % 2 ^ 256 < x1 % 2 ^ 256 then 1 else 0 : Nat) : Int)]) ∧ WS w [] [] w' := by
  refine calls_of_T [] 28 [] Tryd.func111 rfl Tryd.ntmps111 (by simp) (WS.refl _ _) ?_
  refine T.seq ?_
  refine T.text [.l, .l, .l, .l] rfl ?_
  refine J.box 2 rfl rfl (wc x0) rfl rfl (fun g2 hg2 => ?_)
  refine J.box 3 rfl rfl (wc x1) rfl rfl (fun g3 hg3 => ?_)
  refine J.alloc 4 rfl zero24 [.int .u64 0, .int .u64 0, .int .u64 0, .int .u64 0] rfl rfl (fun g4 hg4 => ?_)
  refine J.assign rfl rfl ?_
  refine J.end ?_
  refine X.then ?_
  refine T.seq ?_
  refine T.text [.l] rfl ?_
  refine J.alloc 6 rfl zero24 [.int .u64 0, .int .u64 0, .int .u64 0, .int .u64 0] rfl rfl (fun g6 hg6 => ?_)
  refine J.end ?_
  refine X.then ?_
  refine T.seq ?_
  refine T.text [.l] rfl ?_
  refine J.assign rfl rfl ?_
  refine J.end ?_
  refine X.then ?_
  refine T.seq ?_
  refine T.seq ?_
  refine T.text [.l] rfl ?_
  refine J.move rfl rfl ?_
  refine J.end ?_
  refine X.then ?_
  refine T.block ?_
  refine T.loop (ι := Nat × Nat × List Nat) (fun ((i, c, ys) : Nat × Nat × List Nat) => i ≤ 4 ∧ c = bor x0 x1 i ∧ ys.length = 4 ∧ ∀ q, q < i → ys.getD q 0 = lim (dif x0 x1) q) (fun ((i, c, ys) : Nat × Nat × List Nat) => [(0, W x0), (1, W x1), (2, .pointer (some ⟨g2, 0, none⟩)), (3, .pointer (some ⟨g3, 0, none⟩)), (4, .pointer (some ⟨g4, 0, none⟩)), (5, .int .u64 0), (6, .pointer (some ⟨g6, 0, none⟩)), (7, .int .u64 (c : Int)), (9, .int .i64 (i : Int))]) (fun ((i, c, ys) : Nat × Nat × List Nat) => [(2, ⟨some g2, 24, (wc x0)⟩), (3, ⟨some g3, 24, (wc x1)⟩), (4, ⟨some g4, 24, [.int .u64 0, .int .u64 0, .int .u64 0, .int .u64 0]⟩), (6, ⟨some g6, 24, rowN .u64 ys⟩)]) (fun ((i, c, ys) : Nat × Nat × List Nat) => 4 - i) ⟨0, 0, [0, 0, 0, 0]⟩ ⟨Nat.zero_le _, (bor_zero x0 x1).symm, rfl, fun q hq => by omega⟩ (by repeat (first | exact Sub.nil _ | refine Sub.cons (by first | rfl | (rw [dgs_zero]; rfl) | (rw [List.drop_length]; rfl) | (simp; done) | (congr 2; omega) | (congr 3; omega)) ?_)) (by repeat (first | exact Sub.nil _ | refine Sub.cons (by first | rfl | (rw [dgs_zero]; rfl) | (rw [List.drop_length]; rfl) | (simp; done) | (congr 2; omega) | (congr 3; omega)) ?_)) ?_
  rintro ⟨i, c, ys⟩ ⟨hi, hc, hl, hy⟩
  try dsimp only at *
  have hcl : c ≤ 1 := by rw [hc]; exact bor_le x0 x1 i
  have hl0 := lim_lt x0 i
  have hl1 := lim_lt x1 i
  refine T.seq ?_
  refine T.text [.l] rfl ?_
  refine J.lss rfl rfl rfl rfl ?_
  refine J.end ?_
  refine X.then ?_
  refine T.seq ?_
  refine T.cond_dec rfl (fun h1 => ?_) (fun h1 => ?_)
  · have hi4 : i < 4 := by omega
    have hst := sub_step x0 x1 i hi4
    refine T.skip ?_
    refine X.then ?_
    refine T.seq ?_
    refine T.block ?_
    refine T.seq ?_
    refine T.text [.l, .l] rfl ?_
    refine J.move rfl rfl ?_
    refine J.assign rfl rfl ?_
    refine J.end ?_
    refine X.then ?_
    refine T.draw [] [(0, .g), (1, .g), (2, .g), (3, .q), (4, .g), (5, .g), (6, .q), (7, .g), (8, .g), (9, .g), (10, .g), (11, .g), (12, .g), (13, .l), (14, .g)] (by kernel_rfl) (by kernel_rfl) ?_ (by repeat (first | exact Sub.nil _ | refine Sub.cons (by first | rfl | (rw [dgs_zero]; rfl) | (rw [List.drop_length]; rfl) | (simp; done) | (congr 2; omega) | (congr 3; omega)) ?_))
    refine J.move rfl rfl ?_
    refine J.move rfl rfl ?_
    refine J.indexArr arr24 rfl rfl (by omega) (by omega) (by first | exact Int.toNat_natCast _ | rfl) rfl ?_
    refine J.load1 (k := .q) trivial 2 rfl rfl one22 (by exact rowN_get0 _ _ _ (by rw [wl_length]; omega)) rfl ?_
    refine J.as 16 (.int .u64 ((lim x0 i : Nat) : Int)) rfl (by rw [wl_get _ _ (by omega)]) ?_
    refine J.move rfl rfl ?_
    refine J.indexArr arr24 rfl rfl (by omega) (by omega) (by first | exact Int.toNat_natCast _ | rfl) rfl ?_
    refine J.load1 (k := .q) trivial 3 rfl rfl one22 (by exact rowN_get0 _ _ _ (by rw [wl_length]; omega)) rfl ?_
    refine J.as 19 (.int .u64 ((lim x1 i : Nat) : Int)) rfl (by rw [wl_get _ _ (by omega)]) ?_
    refine J.move rfl rfl ?_
    refine J.sub64 Tryd.func145 (by kernel_rfl) (by kernel_rfl) (by kernel_rfl) (by kernel_rfl) rfl rfl rfl (by omega) rfl ?_
    refine J.move rfl rfl ?_
    refine J.extract rfl rfl rfl ?_
    refine J.extract rfl rfl rfl ?_
    refine J.indexArr arr24 rfl rfl (by omega) (by omega) (by first | exact Int.toNat_natCast _ | rfl) rfl ?_
    refine J.store 6 rfl rfl rfl rfl [.int .u64 ((((lim x0 i + 18446744073709551616 - lim x1 i - c) % 18446744073709551616 : Nat)) : Int)] rfl sz22 (by rw [rowN_length, hl]; show _ + 1 ≤ 4; omega) (by first | exact rowN_one _ _ | (simp; done) | (intro u hu; simp at hu; subst hu; rfl) | (intro u hu; simp at hu; rcases hu with rfl | rfl <;> rfl)) (by first | decide | exact Nat.zero_lt_succ _ | simp) trivial (rowN .u64 (ys.set i ((lim x0 i + 18446744073709551616 - lim x1 i - c) % 18446744073709551616))) (by rw [Nat.zero_add, Nat.mul_one]; exact putN' _ _ _ _ (by omega)) ?_
    refine J.assign rfl rfl ?_
    refine J.end ?_
    refine X.inBlock (X.then ?_)
    refine T.text [.l, .l] rfl ?_
    refine J.add rfl rfl rfl (by first | exact add_nat _ 1 (by omega) | exact i64_ok _ (by omega) | exact rfl) ?_
    refine J.move rfl rfl ?_
    refine J.end ?_
    exact X.round ⟨(i + 1), (if lim x0 i < lim x1 i + c then 1 else 0), (ys.set i ((lim x0 i + 18446744073709551616 - lim x1 i - c) % 18446744073709551616))⟩ ⟨by omega, by rw [hc]; exact hst.2, by simp [hl], fun q hq => by
          rw [getD_set _ _ _ _ (by omega)]
          split
          · rename_i hiq; subst hiq; rw [hc]; exact hst.1
          · exact hy q (by omega)⟩ (by first | omega | (dsimp only; omega)) (by repeat (first | exact Sub.nil _ | refine Sub.cons (by first | rfl | (rw [dgs_zero]; rfl) | (rw [List.drop_length]; rfl) | (simp; done) | (congr 2; omega) | (congr 3; omega)) ?_)) (by repeat (first | exact Sub.nil _ | refine Sub.cons (by first | rfl | (rw [dgs_zero]; rfl) | (rw [List.drop_length]; rfl) | (simp; done) | (congr 2; omega) | (congr 3; omega)) ?_))
  · obtain rfl : i = 4 := by omega
    obtain rfl : ys = wl (dif x0 x1) := wl_of hl _ hy
    refine T.exit ?_
    refine X.then_exit (X.then_exit (X.inBlock_eq (X.then ?_)))
    refine T.seq ?_
    refine T.text [.l, .l, .l, .l] rfl ?_
    refine J.loadN (k := .l) trivial 6 rfl rfl agg24 (wc (dif x0 x1)) rfl rfl rfl ?_
    refine J.move rfl rfl ?_
    refine J.store 4 rfl rfl rfl rfl (wc (dif x0 x1)) rfl sz24 (by first | decide | exact Nat.le_refl _ | exact Nat.le_of_ble_eq_true rfl | (simp [rowN]; done) | (simp [rowN]; omega)) (by first | exact rowN_one _ _ | (simp; done) | (intro u hu; simp at hu; subst hu; rfl) | (intro u hu; simp at hu; rcases hu with rfl | rfl <;> rfl)) (by first | decide | exact Nat.zero_lt_succ _ | simp) trivial (wc (dif x0 x1)) rfl ?_
    refine J.assign rfl rfl ?_
    refine J.end ?_
    refine X.then ?_
    refine T.ret ?_
    exact X.ret2 rfl (RV.agg 4 rfl rfl agg24 (wc (dif x0 x1)) (by rfl) (by rfl) rfl) (RV.tmp rfl) (fun w' hw' => ⟨by first | (rw [hc]; done) | (rw [hc]; rfl), hw'.sub (Sub.nil _)⟩)

theorem Lt (w : World) (x0 : Nat) (x1 : Nat) :
    Calls Tryd.prog 54 [W x0, W x1].toArray w fun e w' => e = .returned (.bool (decide (x0 % 2 ^ 256 < x1 % 2 ^ 256))) ∧ WS w [] [] w' := by
  refine calls_of_T [] 15 [] Tryd.func54 rfl Tryd.ntmps54 (by simp) (WS.refl _ _) ?_
  refine T.seq ?_
  refine T.text [.l, .l, .l] rfl ?_
  refine J.box 2 rfl rfl (wc x0) rfl rfl (fun g2 hg2 => ?_)
  refine J.box 3 rfl rfl (wc x1) rfl rfl (fun g3 hg3 => ?_)
  refine J.assign rfl rfl ?_
  refine J.end ?_
  refine X.then ?_
  refine T.seq ?_
  refine T.text [.l, .l, .l, .l, .l, .l, .l, .l, .l] rfl ?_
  refine J.loadN (k := .l) trivial 2 rfl rfl agg24 (wc x0) rfl rfl rfl ?_
  refine J.loadN (k := .l) trivial 3 rfl rfl agg24 (wc x1) rfl rfl rfl ?_
  refine J.call0 (k := .l) trivial fok111 rfl rfl (fun w hw => Wa.minus w _ _) ?_
  refine J.move rfl rfl ?_
  refine J.extract rfl rfl rfl ?_
  refine J.extract rfl rfl rfl ?_
  refine J.alloc 5 rfl zero24 [.int .u64 0, .int .u64 0, .int .u64 0, .int .u64 0] rfl rfl (fun g5 hg5 => ?_)
  refine J.store 5 rfl rfl rfl rfl (wc (dif x0 x1)) rfl sz24 (by first | decide | exact Nat.le_refl _ | exact Nat.le_of_ble_eq_true rfl | (simp [rowN]; done) | (simp [rowN]; omega)) (by first | exact rowN_one _ _ | (simp; done) | (intro u hu; simp at hu; subst hu; rfl) | (intro u hu; simp at hu; rcases hu with rfl | rfl <;> rfl)) (by first | decide | exact Nat.zero_lt_succ _ | simp) trivial (wc (dif x0 x1)) rfl ?_
  refine J.assign rfl rfl ?_
  refine J.end ?_
  refine X.then ?_
  refine T.seq ?_
  refine T.text [.l, .l, .l] rfl ?_
  refine J.move rfl rfl ?_
  refine J.eql rfl rfl rfl rfl ?_
  refine J.assign rfl rfl ?_
  refine J.end ?_
  refine X.then ?_
  refine T.ret ?_
  exact X.ret1 rfl (RV.tmp rfl) (fun w' hw' => ⟨by congr 2; split <;> simp_all, hw'.sub (Sub.nil _)⟩)

theorem Gt (w : World) (x0 : Nat) (x1 : Nat) :
    Calls Tryd.prog 55 [W x0, W x1].toArray w fun e w' => e = .returned (.bool (decide (x1 % 2 ^ 256 < x0 % 2 ^ 256))) ∧ WS w [] [] w' := by
  refine calls_of_T [] 8 [] Tryd.func55 rfl Tryd.ntmps55 (by simp) (WS.refl _ _) ?_
  refine T.seq ?_
  refine T.text [.l, .l, .l] rfl ?_
  refine J.box 2 rfl rfl (wc x0) rfl rfl (fun g2 hg2 => ?_)
  refine J.box 3 rfl rfl (wc x1) rfl rfl (fun g3 hg3 => ?_)
  refine J.assign rfl rfl ?_
  refine J.end ?_
  refine X.then ?_
  refine T.seq ?_
  refine T.text [.l, .l, .l, .l] rfl ?_
  refine J.loadN (k := .l) trivial 3 rfl rfl agg24 (wc x1) rfl rfl rfl ?_
  refine J.loadN (k := .l) trivial 2 rfl rfl agg24 (wc x0) rfl rfl rfl ?_
  refine J.call0 (k := .l) trivial fok54 rfl rfl (fun w hw => Wa.Lt w _ _) ?_
  refine J.assign rfl rfl ?_
  refine J.end ?_
  refine X.then ?_
  refine T.ret ?_
  exact X.ret1 rfl (RV.tmp rfl) (fun w' hw' => ⟨rfl, hw'.sub (Sub.nil _)⟩)

theorem IsZero (w : World) (x0 : Nat) :
    Calls Tryd.prog 81 [W x0].toArray w fun e w' => e = .returned (.bool (decide (x0 % 2 ^ 256 = 0))) ∧ WS w [] [] w' := by
  refine calls_of_T [] 6 [] Tryd.func81 rfl Tryd.ntmps81 (by simp) (WS.refl _ _) ?_
  refine T.seq ?_
  refine T.text [.l, .l] rfl ?_
  refine J.box 1 rfl rfl (wc x0) rfl rfl (fun g1 hg1 => ?_)
  refine J.assign rfl rfl ?_
  refine J.end ?_
  refine X.then ?_
  refine T.seq ?_
  refine T.text [.l, .l, .l, .l] rfl ?_
  refine J.loadN (k := .l) trivial 1 rfl rfl agg24 (wc x0) rfl rfl rfl ?_
  refine J.build rfl rfl (W 0) (fun w => by kernel_rfl) ?_
  refine J.eqW eqw24 rfl rfl rfl ?_
  refine J.assign rfl rfl ?_
  refine J.end ?_
  refine X.then ?_
  refine T.ret ?_
  exact X.ret1 rfl (RV.tmp rfl) (fun w' hw' => ⟨rfl, hw'.sub (Sub.nil _)⟩)

theorem ahead (w : World) (x0 : Nat) :
    Calls Tryd.prog 134 [W x0].toArray w fun e w' => e = .returned (.int .i64 ((256 - bitLen (x0 % 2 ^ 256) : Nat) : Int)) ∧ WS w [] [] w' := by
  refine calls_of_T [] 20 [] Tryd.func134 rfl Tryd.ntmps134 (by simp) (WS.refl _ _) ?_
  refine T.seq ?_
  refine T.text [.l, .l] rfl ?_
  refine J.box 1 rfl rfl (wc x0) rfl rfl (fun g1 hg1 => ?_)
  refine J.assign rfl rfl ?_
  refine J.end ?_
  refine X.then ?_
  refine T.seq ?_
  refine T.text [.l] rfl ?_
  refine J.assign rfl rfl ?_
  refine J.end ?_
  refine X.then ?_
  refine T.seq ?_
  refine T.seq ?_
  refine T.text [.l] rfl ?_
  refine J.assign rfl rfl ?_
  refine J.end ?_
  refine X.then ?_
  refine T.block ?_
  refine T.loop (ι := Nat) (fun (j : Nat) => j ≤ 4 ∧ ∀ q, j ≤ q → q < 4 → lim x0 q = 0) (fun (j : Nat) => [(0, W x0), (1, .pointer (some ⟨g1, 0, none⟩)), (2, .int .i64 0), (3, .int .i64 ((256 - 64 * j : Nat) : Int)), (4, .int .i64 ((j : Int) - 1))]) (fun (j : Nat) => [(1, ⟨some g1, 24, (wc x0)⟩)]) (fun (j : Nat) => j) 4 ⟨Nat.le_refl _, fun q h1 h2 => by omega⟩ (by repeat (first | exact Sub.nil _ | refine Sub.cons (by first | rfl | (rw [dgs_zero]; rfl) | (rw [List.drop_length]; rfl) | (simp; done) | (congr 2; omega) | (congr 3; omega)) ?_)) (by repeat (first | exact Sub.nil _ | refine Sub.cons (by first | rfl | (rw [dgs_zero]; rfl) | (rw [List.drop_length]; rfl) | (simp; done) | (congr 2; omega) | (congr 3; omega)) ?_)) ?_
  rintro j ⟨hj, hz⟩
  refine T.seq ?_
  refine T.seq ?_
  refine T.text [.l, .l] rfl ?_
  refine J.move rfl rfl ?_
  refine J.geq rfl rfl rfl rfl ?_
  refine J.end ?_
  refine X.then ?_
  refine T.cond_dec rfl (fun h1 => ?_) (fun h1 => ?_)
  · obtain ⟨i, rfl⟩ : ∃ i, j = i + 1 := ⟨j - 1, by omega⟩
    refine T.as 4 (.int .i64 (i : Int)) rfl (by congr 1; omega) ?_
    have hll := lim_lt x0 i
    have hbl := bitLen_le64 (lim x0 i) hll
    refine T.skip ?_
    refine X.then ?_
    refine T.seq ?_
    refine T.block ?_
    refine T.seq ?_
    refine T.text [.l, .l, .l, .l, .l] rfl ?_
    refine J.move rfl rfl ?_
    refine J.indexArr arr24 rfl rfl (by omega) (by omega) (by first | exact Int.toNat_natCast _ | rfl) rfl ?_
    refine J.load1 (k := .l) trivial 1 rfl rfl one22 (by exact rowN_get0 _ _ _ (by rw [wl_length]; omega)) rfl ?_
    refine J.as 12 (.int .u64 ((lim x0 i : Nat) : Int)) rfl (by rw [wl_get _ _ (by omega)]) ?_
    refine J.call0 (k := .l) trivial fok149 rfl rfl (fun w hw => Wa.LeadingZeros64 w _ hll) ?_
    refine J.assign rfl rfl ?_
    refine J.end ?_
    refine X.then ?_
    refine T.seq ?_
    refine T.text [.l, .l, .l, .l] rfl ?_
    refine J.move rfl rfl ?_
    refine J.move rfl rfl ?_
    refine J.add rfl rfl rfl (by first | exact add_nat _ _ (by omega) | exact i64_ok _ (by omega) | exact rfl) ?_
    refine J.assign rfl rfl ?_
    refine J.end ?_
    refine X.then ?_
    refine T.seq ?_
    refine T.text [.l, .l] rfl ?_
    refine J.move rfl rfl ?_
    refine J.lss rfl rfl rfl rfl ?_
    refine J.end ?_
    refine X.then ?_
    refine T.cond_dec rfl (fun h2 => ?_) (fun h2 => ?_)
    · have hne : lim x0 i ≠ 0 := fun e => by rw [e, bitLen_zero] at h2; omega
      have hbe := bitLen_limb x0 i (by omega) (fun q h1 h2 => hz q (by omega) h2) hne
      refine T.exit ?_
      refine X.inBlock_ne rfl (X.then_exit (X.then_exit (X.inBlock_eq (X.then ?_))))
      refine T.seq ?_
      refine T.text [.l, .l] rfl ?_
      refine J.move rfl rfl ?_
      refine J.assign rfl rfl ?_
      refine J.end ?_
      refine X.then ?_
      refine T.ret ?_
      exact X.ret1 rfl (RV.tmp rfl) (fun w' hw' => ⟨by congr 2; omega, hw'.sub (Sub.nil _)⟩)
    · refine T.as 3 (.int .i64 ((256 - 64 * i : Nat) : Int)) rfl (by congr 2; omega) ?_
      refine T.skip ?_
      refine X.inBlock (X.then ?_)
      refine T.text [.l, .l, .l] rfl ?_
      refine J.move rfl rfl ?_
      refine J.sub' rfl rfl rfl (by first | exact sub_nat _ 1 (by omega) | exact i64_ok _ (by omega) | exact rfl) ?_
      refine J.assign rfl rfl ?_
      refine J.end ?_
      exact X.round i ⟨by omega, fun q h3 h4 => (Nat.lt_or_ge i q).elim (fun h => hz q h h4) (fun h => by obtain rfl : q = i := (by omega); exact Classical.byContradiction fun hne => by have := bitLen_pos _ hne; omega)⟩ (by first | omega | (dsimp only; omega)) (by repeat (first | exact Sub.nil _ | refine Sub.cons (by first | rfl | (rw [dgs_zero]; rfl) | (rw [List.drop_length]; rfl) | (simp; done) | (congr 2; omega) | (congr 3; omega)) ?_)) (by repeat (first | exact Sub.nil _ | refine Sub.cons (by first | rfl | (rw [dgs_zero]; rfl) | (rw [List.drop_length]; rfl) | (simp; done) | (congr 2; omega) | (congr 3; omega)) ?_))
  · obtain rfl : j = 0 := by omega
    have hbn := bitLen_none x0 (fun q hq => hz q (Nat.zero_le _) hq)
    refine T.exit ?_
    refine X.then_exit (X.then_exit (X.inBlock_eq (X.then ?_)))
    refine T.seq ?_
    refine T.text [.l, .l] rfl ?_
    refine J.move rfl rfl ?_
    refine J.assign rfl rfl ?_
    refine J.end ?_
    refine X.then ?_
    refine T.ret ?_
    exact X.ret1 rfl (RV.tmp rfl) (fun w' hw' => ⟨by congr 2; omega, hw'.sub (Sub.nil _)⟩)

theorem Size (w : World) (x0 : Nat) :
    Calls Tryd.prog 75 [W x0].toArray w fun e w' => e = .returned (.int .i64 (sizeN x0 : Int)) ∧ WS w [] [] w' := by
  have hb := bitLen_le256 x0
  have hs := sizeN_bitLen x0
  refine calls_of_T [] 7 [] Tryd.func75 rfl Tryd.ntmps75 (by simp) (WS.refl _ _) ?_
  refine T.seq ?_
  refine T.text [.l, .l] rfl ?_
  refine J.box 1 rfl rfl (wc x0) rfl rfl (fun g1 hg1 => ?_)
  refine J.assign rfl rfl ?_
  refine J.end ?_
  refine X.then ?_
  refine T.seq ?_
  refine T.text [.l, .l, .l, .l, .l] rfl ?_
  refine J.loadN (k := .l) trivial 1 rfl rfl agg24 (wc x0) rfl rfl rfl ?_
  refine J.call0 (k := .l) trivial fok134 rfl rfl (fun w hw => Wa.ahead w _) ?_
  refine J.sub' rfl rfl rfl (by first | exact sub_nat 263 _ (by omega) | exact i64_ok _ (by omega) | exact rfl) ?_
  refine J.quo rfl rfl rfl (by omega) (by first | exact quo_nat _ 8 (by omega) | exact i64_quo_ok _ _ (by omega) | exact rfl) ?_
  refine J.assign rfl rfl ?_
  refine J.end ?_
  refine X.then ?_
  refine T.ret ?_
  exact X.ret1 rfl (RV.tmp rfl) (fun w' hw' => ⟨by congr 2; omega, hw'.sub (Sub.nil _)⟩)

theorem Uint (w : World) (x0 : Nat) :
    Calls Tryd.prog 93 [W x0].toArray w fun e w' => e = .returned (.tuple #[.int .u64 ((if sizeN x0 > 8 then 0 else lim x0 0 : Nat) : Int), .bool (decide (¬ sizeN x0 > 8))]) ∧ WS w [] [] w' := by
  refine calls_of_T [] 9 [] Tryd.func93 rfl Tryd.ntmps93 (by simp) (WS.refl _ _) ?_
  refine T.seq ?_
  refine T.text [.l, .l, .l] rfl ?_
  refine J.box 1 rfl rfl (wc x0) rfl rfl (fun g1 hg1 => ?_)
  refine J.assign rfl rfl ?_
  refine J.assign rfl rfl ?_
  refine J.end ?_
  refine X.then ?_
  refine T.seq ?_
  refine T.seq ?_
  refine T.text [.l, .l, .l] rfl ?_
  refine J.loadN (k := .l) trivial 1 rfl rfl agg24 (wc x0) rfl rfl rfl ?_
  refine J.call0 (k := .l) trivial fok75 rfl rfl (fun w hw => Wa.Size w _) ?_
  refine J.gtr rfl rfl rfl rfl ?_
  refine J.end ?_
  refine X.then ?_
  refine T.cond_dec rfl (fun h1 => ?_) (fun h1 => ?_)
  · skip
    refine T.seq ?_
    refine T.text [.l, .l] rfl ?_
    refine J.assign rfl rfl ?_
    refine J.assign rfl rfl ?_
    refine J.end ?_
    refine X.then ?_
    refine T.ret ?_
    refine X.then_ret ?_
    exact X.ret2 rfl (RV.tmp rfl) (RV.tmp rfl) (fun w' hw' => ⟨by rw [if_pos (by omega), decide_eq_false (by omega)]; rfl, hw'.sub (Sub.nil _)⟩)
  · skip
    refine T.skip ?_
    refine X.then ?_
    refine T.seq ?_
    refine T.text [.l, .l, .l, .l] rfl ?_
    refine J.indexArr arr24 rfl rfl (by omega) (by omega) (by rfl) rfl ?_
    refine J.load1 (k := .l) trivial 1 rfl rfl one22 rfl rfl ?_
    refine J.assign rfl rfl ?_
    refine J.assign rfl rfl ?_
    refine J.end ?_
    refine X.then ?_
    refine T.ret ?_
    exact X.ret2 rfl (RV.tmp rfl) (RV.tmp rfl) (fun w' hw' => ⟨by rw [if_neg (by omega), decide_eq_true (by omega)], hw'.sub (Sub.nil _)⟩)

theorem Sum (w : World) (A0 : Option Addr) (c0 : Nat) (xs0 : List Nat) (hc0 : Cs w A0 (rowW xs0)) (hb0 : xs0.length ≤ 9223372036854775807) :
    Calls Tryd.prog 86 [.slice A0 xs0.length c0].toArray w fun e w' => e = .returned (.tuple #[W (if sumN xs0 < 2 ^ 256 then sumN xs0 else 0), .bool (decide (sumN xs0 < 2 ^ 256))]) ∧ WS w [] [] w' := by
  refine calls_of_T [] 25 [] Tryd.func86 rfl Tryd.ntmps86 (by simp) (WS.refl _ _) ?_
  refine T.seq ?_
  refine T.text [.l, .l] rfl ?_
  refine J.alloc 2 rfl zero24 [.int .u64 0, .int .u64 0, .int .u64 0, .int .u64 0] rfl rfl (fun g2 hg2 => ?_)
  refine J.assign rfl rfl ?_
  refine J.end ?_
  refine X.then ?_
  refine T.seq ?_
  refine T.text [.l] rfl ?_
  refine J.alloc 4 rfl zero24 [.int .u64 0, .int .u64 0, .int .u64 0, .int .u64 0] rfl rfl (fun g4 hg4 => ?_)
  refine J.end ?_
  refine X.then ?_
  refine T.seq ?_
  refine T.seq ?_
  refine T.text [.l, .l, .l] rfl ?_
  refine J.move rfl rfl ?_
  refine J.lenSl Tryd.underlying35 rfl rfl ?_
  refine J.move rfl rfl ?_
  refine J.end ?_
  refine X.then ?_
  refine T.block ?_
  refine T.asE 4 ⟨some g4, 24, wc (sumN (xs0.take 0))⟩ rfl (by rw [show sumN (xs0.take 0) = 0 by simp [sumN]]; rfl) ?_
  refine T.loop (ι := Nat) (fun (i : Nat) => i ≤ xs0.length ∧ sumN (xs0.take i) < 2 ^ 256) (fun (i : Nat) => [(0, .slice A0 xs0.length c0), (2, .pointer (some ⟨g2, 0, none⟩)), (4, .pointer (some ⟨g4, 0, none⟩)), (8, .slice A0 xs0.length c0), (9, .int .i64 ((xs0.length : Nat) : Int)), (10, .int .i64 (i : Int))]) (fun (i : Nat) => [(2, ⟨some g2, 24, [.int .u64 0, .int .u64 0, .int .u64 0, .int .u64 0]⟩), (4, ⟨some g4, 24, wc (sumN (xs0.take i))⟩)]) (fun (i : Nat) => xs0.length - i) 0 ⟨Nat.zero_le _, by simp [sumN]⟩ (by repeat (first | exact Sub.nil _ | refine Sub.cons (by first | rfl | (rw [dgs_zero]; rfl) | (rw [List.drop_length]; rfl) | (simp; done) | (congr 2; omega) | (congr 3; omega)) ?_)) (by repeat (first | exact Sub.nil _ | refine Sub.cons (by first | rfl | (rw [dgs_zero]; rfl) | (rw [List.drop_length]; rfl) | (simp; done) | (congr 2; omega) | (congr 3; omega)) ?_)) ?_
  rintro i ⟨hi, hs⟩
  refine T.seq ?_
  refine T.text [.l] rfl ?_
  refine J.lss rfl rfl rfl rfl ?_
  refine J.end ?_
  refine X.then ?_
  refine T.seq ?_
  refine T.cond_dec rfl (fun h1 => ?_) (fun h1 => ?_)
  · skip
    refine T.skip ?_
    refine X.then ?_
    refine T.seq ?_
    refine T.block ?_
    refine T.seq ?_
    refine T.text [.l, .l, .l, .l] rfl ?_
    refine J.indexSlI sl35 rfl (Cs.isSomeW hc0 (by omega)) rfl (by omega) (by omega) (by first | exact Int.toNat_natCast _ | rfl) rfl ?_
    refine J.loadIW (k := .l) trivial hc0 (off_nil _) rfl agg24 (by first | rfl | with_reducible exact rowW_seg0 _ _ _ (by omega) | with_reducible exact rowW_seg00 _ _ (by omega) | with_reducible exact rowW_segs _ _ _ (by omega) | with_reducible exact rowW_seg _ _ (by omega) | with_reducible exact rowW_segb _ _ _ (by omega) | exact rowW_seg _ _ (by omega) | exact rowW_segs _ _ _ (by omega)) rfl ?_
    have hts : sumN (xs0.take (i + 1)) = sumN (xs0.take i) + xs0.getD i 0 % 2 ^ 256 := by rw [take_succ_getD _ _ (by omega), sumN_snoc]
    have hml := Nat.mod_lt (xs0.getD i 0) (show 2 ^ 256 > 0 by decide)
    have hme := Nat.mod_eq_of_lt hs
    refine J.alloc 6 rfl zero24 [.int .u64 0, .int .u64 0, .int .u64 0, .int .u64 0] rfl rfl (fun g6 hg6 => ?_)
    refine J.store 6 rfl rfl rfl rfl (wc (xs0.getD i 0)) rfl sz24 (by first | decide | exact Nat.le_refl _ | exact Nat.le_of_ble_eq_true rfl | (simp [rowN]; done) | (simp [rowN]; omega)) (by first | exact rowN_one _ _ | (simp; done) | (intro u hu; simp at hu; subst hu; rfl) | (intro u hu; simp at hu; rcases hu with rfl | rfl <;> rfl)) (by first | decide | exact Nat.zero_lt_succ _ | simp) trivial (wc (xs0.getD i 0)) rfl ?_
    refine J.end ?_
    refine X.then ?_
    refine T.seq ?_
    refine T.text [.l] rfl ?_
    refine J.assign rfl rfl ?_
    refine J.end ?_
    refine X.then ?_
    refine T.seq ?_
    refine T.text [.l, .l, .l, .l, .l, .l, .l, .l] rfl ?_
    refine J.loadN (k := .l) trivial 4 rfl rfl agg24 (wc (sumN (xs0.take i))) rfl rfl rfl ?_
    refine J.loadN (k := .l) trivial 6 rfl rfl agg24 (wc (xs0.getD i 0)) rfl rfl rfl ?_
    refine J.call0 (k := .l) trivial fok107 rfl rfl (fun w hw => Wa.plus w _ _) ?_
    refine J.move rfl rfl ?_
    refine J.extract rfl rfl rfl ?_
    refine J.as 18 (W (sumN (xs0.take i) + xs0.getD i 0 % 2 ^ 256)) rfl (W_congr (by omega)) ?_
    refine J.extract rfl rfl rfl ?_
    refine J.store 4 rfl rfl rfl rfl (wc (sumN (xs0.take i) + xs0.getD i 0 % 2 ^ 256)) rfl sz24 (by first | decide | exact Nat.le_refl _ | exact Nat.le_of_ble_eq_true rfl | (simp [rowN]; done) | (simp [rowN]; omega)) (by first | exact rowN_one _ _ | (simp; done) | (intro u hu; simp at hu; subst hu; rfl) | (intro u hu; simp at hu; rcases hu with rfl | rfl <;> rfl)) (by first | decide | exact Nat.zero_lt_succ _ | simp) trivial (wc (sumN (xs0.take i) + xs0.getD i 0 % 2 ^ 256)) rfl ?_
    refine J.assign rfl rfl ?_
    refine J.end ?_
    refine X.then ?_
    refine T.seq ?_
    refine T.text [.l, .l] rfl ?_
    refine J.move rfl rfl ?_
    refine J.gtr rfl rfl rfl rfl ?_
    refine J.end ?_
    refine X.then ?_
    refine T.cond_dec rfl (fun h2 => ?_) (fun h2 => ?_)
    · have hle := sumN_take_le xs0 (i + 1)
      rw [hme] at h2
      refine T.seq ?_
      refine T.text [.l, .l, .l] rfl ?_
      refine J.build rfl rfl (W 0) (fun w => by kernel_rfl) ?_
      refine J.store 2 rfl rfl rfl rfl (wc 0) rfl sz24 (by first | decide | exact Nat.le_refl _ | exact Nat.le_of_ble_eq_true rfl | (simp [rowN]; done) | (simp [rowN]; omega)) (by first | exact rowN_one _ _ | (simp; done) | (intro u hu; simp at hu; subst hu; rfl) | (intro u hu; simp at hu; rcases hu with rfl | rfl <;> rfl)) (by first | decide | exact Nat.zero_lt_succ _ | simp) trivial (wc 0) rfl ?_
      refine J.assign rfl rfl ?_
      refine J.end ?_
      refine X.then ?_
      refine T.ret ?_
      refine X.inBlock_ret (X.then_ret (X.then_ret (X.inBlock_ret (X.then_ret ?_))))
      exact X.ret2 rfl (RV.agg 2 rfl rfl agg24 (wc 0) (by rfl) (by rfl) rfl) (RV.tmp rfl) (fun w' hw' => ⟨by rw [if_neg (by omega), decide_eq_false (by omega)], hw'.sub (Sub.nil _)⟩)
    · rw [hme] at h2
      refine T.skip ?_
      refine X.inBlock (X.then ?_)
      refine T.text [.l, .l] rfl ?_
      refine J.add rfl rfl rfl (by first | exact add_nat _ 1 (by omega) | exact i64_ok _ (by omega) | exact rfl) ?_
      refine J.move rfl rfl ?_
      refine J.end ?_
      exact X.round (i + 1) ⟨by omega, by rw [hts]; omega⟩ (by first | omega | (dsimp only; omega)) (by repeat (first | exact Sub.nil _ | refine Sub.cons (by first | rfl | (rw [dgs_zero]; rfl) | (rw [List.drop_length]; rfl) | (simp; done) | (congr 2; omega) | (congr 3; omega)) ?_)) (by repeat (first | exact Sub.nil _ | refine Sub.cons (by first | rfl | (rw [hts]; rfl)) ?_))
  · obtain rfl : i = xs0.length := by omega
    rw [List.take_length] at hs
    rw [List.take_length]
    refine T.exit ?_
    refine X.then_exit (X.then_exit (X.inBlock_eq (X.then ?_)))
    refine T.seq ?_
    refine T.text [.l, .l, .l] rfl ?_
    refine J.loadN (k := .l) trivial 4 rfl rfl agg24 (wc (sumN xs0)) rfl rfl rfl ?_
    refine J.store 2 rfl rfl rfl rfl (wc (sumN xs0)) rfl sz24 (by first | decide | exact Nat.le_refl _ | exact Nat.le_of_ble_eq_true rfl | (simp [rowN]; done) | (simp [rowN]; omega)) (by first | exact rowN_one _ _ | (simp; done) | (intro u hu; simp at hu; subst hu; rfl) | (intro u hu; simp at hu; rcases hu with rfl | rfl <;> rfl)) (by first | decide | exact Nat.zero_lt_succ _ | simp) trivial (wc (sumN xs0)) rfl ?_
    refine J.assign rfl rfl ?_
    refine J.end ?_
    refine X.then ?_
    refine T.ret ?_
    exact X.ret2 rfl (RV.agg 2 rfl rfl agg24 (wc (sumN xs0)) (by rfl) (by rfl) rfl) (RV.tmp rfl) (fun w' hw' => ⟨by rw [if_pos hs, decide_eq_true hs], hw'.sub (Sub.nil _)⟩)

theorem FromBytes (w : World) (A0 : Option Addr) (c0 : Nat) (xs0 : List Nat) (hc0 : Cs w A0 (rowN .u8 xs0)) (hx0 : Dg xs0) (hb0 : xs0.length ≤ 4294967296) :
    Calls Tryd.prog 90 [.slice A0 xs0.length c0].toArray w fun e w' => e = .returned (.tuple #[W (if xs0.length ≤ 32 then vl xs0.reverse else 0), .int .i64 ((if xs0.length ≤ 32 then 0 else 2 : Nat) : Int)]) ∧ WS w [] [] w' := by
  have hD := hx0.reverse
  have hDl : xs0.reverse.length = xs0.length := List.length_reverse
  have hlt := vl_lt hD
  refine calls_of_T [] 38 [] Tryd.func90 rfl Tryd.ntmps90 (by simp) (WS.refl _ _) ?_
  refine T.seq ?_
  refine T.text [.l, .l] rfl ?_
  refine J.alloc 2 rfl zero24 [.int .u64 0, .int .u64 0, .int .u64 0, .int .u64 0] rfl rfl (fun g2 hg2 => ?_)
  refine J.assign rfl rfl ?_
  refine J.end ?_
  refine X.then ?_
  refine T.seq ?_
  refine T.text [.l] rfl ?_
  refine J.alloc 4 rfl zero24 [.int .u64 0, .int .u64 0, .int .u64 0, .int .u64 0] rfl rfl (fun g4 hg4 => ?_)
  refine J.end ?_
  refine X.then ?_
  refine T.seq ?_
  refine T.seq ?_
  refine T.text [.l, .l, .l] rfl ?_
  refine J.move rfl rfl ?_
  refine J.lenSl Tryd.underlying45 rfl rfl ?_
  refine J.gtr rfl rfl rfl rfl ?_
  refine J.end ?_
  refine X.then ?_
  refine T.cond_dec rfl (fun h1 => ?_) (fun h1 => ?_)
  · skip
    refine T.seq ?_
    refine T.text [.l, .l, .l] rfl ?_
    refine J.loadN (k := .l) trivial 4 rfl rfl agg24 [.int .u64 0, .int .u64 0, .int .u64 0, .int .u64 0] rfl rfl rfl ?_
    refine J.store 2 rfl rfl rfl rfl [.int .u64 0, .int .u64 0, .int .u64 0, .int .u64 0] rfl sz24 (by first | decide | exact Nat.le_refl _ | exact Nat.le_of_ble_eq_true rfl | (simp [rowN]; done) | (simp [rowN]; omega)) (by first | exact rowN_one _ _ | (simp; done) | (intro u hu; simp at hu; subst hu; rfl) | (intro u hu; simp at hu; rcases hu with rfl | rfl <;> rfl)) (by first | decide | exact Nat.zero_lt_succ _ | simp) trivial [.int .u64 0, .int .u64 0, .int .u64 0, .int .u64 0] rfl ?_
    refine J.assign rfl rfl ?_
    refine J.end ?_
    refine X.then ?_
    refine T.ret ?_
    refine X.then_ret ?_
    exact X.ret2 rfl (RV.agg 2 rfl rfl agg24 [.int .u64 0, .int .u64 0, .int .u64 0, .int .u64 0] (by rfl) (by rfl) rfl) (RV.tmp rfl) (fun w' hw' => ⟨by rw [if_neg (by omega), if_neg (by omega)]; rfl, hw'.sub (Sub.nil _)⟩)
  · skip
    refine T.skip ?_
    refine X.then ?_
    refine T.seq ?_
    refine T.seq ?_
    refine T.text [.l, .l, .l] rfl ?_
    refine J.move rfl rfl ?_
    refine J.lenSl Tryd.underlying45 rfl rfl ?_
    refine J.move rfl rfl ?_
    refine J.end ?_
    refine X.then ?_
    refine T.block ?_
    rw [hDl] at hlt
    have h00 : hi (vl xs0.reverse) (xs0.length - 0) = 0 := hi_big hlt
    refine T.asE 4 ⟨some g4, 24, wc (hi (vl xs0.reverse) (xs0.length - 0))⟩ rfl (by rw [h00]; rfl) ?_
    refine T.loop (ι := Nat) (fun (i : Nat) => i ≤ xs0.length) (fun (i : Nat) => [(0, .slice A0 xs0.length c0), (2, .pointer (some ⟨g2, 0, none⟩)), (3, .int .i64 0), (4, .pointer (some ⟨g4, 0, none⟩)), (8, .slice A0 xs0.length c0), (9, .int .i64 ((xs0.length : Nat) : Int)), (12, .slice A0 xs0.length c0), (13, .int .i64 ((xs0.length : Nat) : Int)), (14, .int .i64 (i : Int))]) (fun (i : Nat) => [(2, ⟨some g2, 24, [.int .u64 0, .int .u64 0, .int .u64 0, .int .u64 0]⟩), (4, ⟨some g4, 24, wc (hi (vl xs0.reverse) (xs0.length - i))⟩)]) (fun (i : Nat) => xs0.length - i) 0 (Nat.zero_le _) (by repeat (first | exact Sub.nil _ | refine Sub.cons (by first | rfl | (rw [dgs_zero]; rfl) | (rw [List.drop_length]; rfl) | (simp; done) | (congr 2; omega) | (congr 3; omega)) ?_)) (by repeat (first | exact Sub.nil _ | refine Sub.cons (by first | rfl | (rw [dgs_zero]; rfl) | (rw [List.drop_length]; rfl) | (simp; done) | (congr 2; omega) | (congr 3; omega)) ?_)) ?_
    rintro i hi'
    refine T.seq ?_
    refine T.text [.l] rfl ?_
    refine J.lss rfl rfl rfl rfl ?_
    refine J.end ?_
    refine X.then ?_
    refine T.seq ?_
    refine T.cond_dec rfl (fun h2 => ?_) (fun h2 => ?_)
    · obtain ⟨k, hk⟩ : ∃ k, xs0.length - i = k + 1 := ⟨xs0.length - i - 1, by omega⟩
      have hk2 : xs0.length - (i + 1) = k := by omega
      have hdig : xs0.getD i 0 = vl xs0.reverse / 256 ^ k % 256 := (by rw [← vl_get hD, List.getD_eq_getElem?_getD, List.getD_eq_getElem?_getD, List.getElem?_reverse (by omega), show xs0.length - 1 - k = i by omega])
      have hdl := hx0.getD i
      have hk8 : k / 8 < 4 := by omega
      refine T.asE 4 ⟨some g4, 24, rowN .u64 (wl (hi (vl xs0.reverse) (k + 1)))⟩ rfl (by rw [hk]) ?_
      have hll := lim_lt (hi (vl xs0.reverse) (k + 1)) (k / 8)
      have hps : 2 ^ (k % 8 * 8) ≤ 72057594037927936 := by rw [pow8]; exact (Nat.pow_le_pow_right (by omega) (show k % 8 ≤ 7 by omega) : 256 ^ (k % 8) ≤ 256 ^ 7)
      have hpm : xs0.getD i 0 * 2 ^ (k % 8 * 8) ≤ 255 * 72057594037927936 := Nat.mul_le_mul (by omega) hps
      refine T.skip ?_
      refine X.then ?_
      refine T.seq ?_
      refine T.block ?_
      refine T.seq ?_
      refine T.text [.l, .l, .l, .l, .l] rfl ?_
      refine J.move rfl rfl ?_
      refine J.indexSlI sl45 rfl (Cs.isSomeN hc0 (by omega)) rfl (by omega) (by omega) (by first | exact Int.toNat_natCast _ | rfl) rfl ?_
      refine J.loadI1 (k := .l) trivial hc0 (off_nil _) rfl one5 (by first | rfl | with_reducible exact rowN_get1 _ _ _ (by omega) | with_reducible exact rowN_get _ _ _ (by omega) | exact rowN_get1 _ _ _ (by omega)) rfl ?_
      refine J.assign rfl rfl ?_
      refine J.assign rfl rfl ?_
      refine J.end ?_
      refine X.then ?_
      refine T.seq ?_
      refine T.text [.l, .l, .l, .l, .l, .l] rfl ?_
      refine J.move rfl rfl ?_
      refine J.lenSl Tryd.underlying45 rfl rfl ?_
      refine J.sub' rfl rfl rfl (by first | exact sub_nat _ 1 (by omega) | exact i64_ok _ (by omega) | exact rfl) ?_
      refine J.move rfl rfl ?_
      refine J.sub' rfl rfl rfl (by first | exact sub_nat _ _ (by omega) | exact i64_ok _ (by omega) | exact rfl) ?_
      refine J.as 23 (.int .i64 (k : Int)) rfl (by congr 1; omega) ?_
      refine J.assign rfl rfl ?_
      refine J.end ?_
      refine X.then ?_
      refine T.draw [] [(0, .g), (1, .g), (2, .g), (3, .q), (4, .g), (5, .g), (6, .g), (7, .g), (8, .g), (9, .g), (10, .g), (11, .g), (12, .l)] (by kernel_rfl) (by kernel_rfl) ?_ (by repeat (first | exact Sub.nil _ | refine Sub.cons (by first | rfl | (rw [dgs_zero]; rfl) | (rw [List.drop_length]; rfl) | (simp; done) | (congr 2; omega) | (congr 3; omega)) ?_))
      refine J.move rfl rfl ?_
      refine J.quo rfl rfl rfl (by omega) (by first | exact quo_nat _ 8 (by omega) | exact i64_quo_ok _ _ (by omega) | exact rfl) ?_
      refine J.indexArr arr24 rfl rfl (by omega) (by omega) (by first | exact Int.toNat_natCast _ | rfl) rfl ?_
      refine J.load1 (k := .q) trivial 4 rfl rfl one22 (by exact rowN_get0 _ _ _ (by rw [wl_length]; omega)) rfl ?_
      refine J.as 27 (.int .u64 ((lim (hi (vl xs0.reverse) (k + 1)) (k / 8) : Nat) : Int)) rfl (by rw [wl_get _ _ (by omega)]) ?_
      refine J.move rfl rfl ?_
      refine J.conv (by rw [Tryd.underlying5]; rfl) Tryd.underlying22 rfl rfl (by first | exact wrapu_nat' _ (by omega) | exact wrapu_nat _ | exact u64_wrap _) ?_
      refine J.move rfl rfl ?_
      refine J.rem rfl rfl rfl (by omega) (by first | exact rem_nat _ 8 | exact rem_ok _ _ (by omega) | exact rfl) ?_
      refine J.mul rfl rfl rfl (by first | exact mul_nat _ 8 (by omega) | exact i64_ok _ (by omega) | exact rfl) ?_
      refine J.shl rfl rfl rfl (by omega) (by exact shl_nat _ (k % 8 * 8) (by omega)) ?_
      refine J.bor rfl rfl rfl (by exact or_nat _ _ (by omega)) ?_
      refine J.as 34 (.int .u64 ((lim (hi (vl xs0.reverse) k) (k / 8) : Nat) : Int)) rfl (by rw [hi_lim, hdig]) ?_
      refine J.indexArr arr24 rfl rfl (by omega) (by omega) (by first | exact Int.toNat_natCast _ | rfl) rfl ?_
      refine J.store 4 rfl rfl rfl rfl [.int .u64 ((lim (hi (vl xs0.reverse) k) (k / 8) : Nat) : Int)] rfl sz22 (by rw [rowN_length, wl_length]; show _ + 1 ≤ 4; omega) (by first | exact rowN_one _ _ | (simp; done) | (intro u hu; simp at hu; subst hu; rfl) | (intro u hu; simp at hu; rcases hu with rfl | rfl <;> rfl)) (by first | decide | exact Nat.zero_lt_succ _ | simp) trivial (wc (hi (vl xs0.reverse) (xs0.length - (i + 1)))) (by rw [Nat.zero_add, Nat.mul_one, hk2]; exact (putN' _ _ _ _ (by rw [wl_length]; omega)).trans (congrArg (rowN .u64) (wl_of (by simp [wl_length]) _ (fun q hq => by
            rw [getD_set _ _ _ _ (by rw [wl_length]; omega)]
            split
            · rename_i h; subst h; rfl
            · rename_i h; rw [wl_get _ _ hq, hi_lim_other _ _ _ hq h])))) ?_
      refine J.end ?_
      refine X.inBlock (X.then ?_)
      refine T.text [.l, .l] rfl ?_
      refine J.add rfl rfl rfl (by first | exact add_nat _ 1 (by omega) | exact i64_ok _ (by omega) | exact rfl) ?_
      refine J.move rfl rfl ?_
      refine J.end ?_
      exact X.round (i + 1) (by omega) (by first | omega | (dsimp only; omega)) (by repeat (first | exact Sub.nil _ | refine Sub.cons (by first | rfl | (rw [dgs_zero]; rfl) | (rw [List.drop_length]; rfl) | (simp; done) | (congr 2; omega) | (congr 3; omega)) ?_)) (by repeat (first | exact Sub.nil _ | refine Sub.cons (by first | rfl | (rw [dgs_zero]; rfl) | (rw [List.drop_length]; rfl) | (simp; done) | (congr 2; omega) | (congr 3; omega)) ?_))
    · obtain rfl : i = xs0.length := by omega
      rw [Nat.sub_self, hi_zero]
      refine T.exit ?_
      refine X.then_exit (X.then_exit (X.inBlock_eq (X.then ?_)))
      refine T.seq ?_
      refine T.text [.l, .l, .l] rfl ?_
      refine J.loadN (k := .l) trivial 4 rfl rfl agg24 (wc (vl xs0.reverse)) rfl rfl rfl ?_
      refine J.store 2 rfl rfl rfl rfl (wc (vl xs0.reverse)) rfl sz24 (by first | decide | exact Nat.le_refl _ | exact Nat.le_of_ble_eq_true rfl | (simp [rowN]; done) | (simp [rowN]; omega)) (by first | exact rowN_one _ _ | (simp; done) | (intro u hu; simp at hu; subst hu; rfl) | (intro u hu; simp at hu; rcases hu with rfl | rfl <;> rfl)) (by first | decide | exact Nat.zero_lt_succ _ | simp) trivial (wc (vl xs0.reverse)) rfl ?_
      refine J.assign rfl rfl ?_
      refine J.end ?_
      refine X.then ?_
      refine T.ret ?_
      exact X.ret2 rfl (RV.agg 2 rfl rfl agg24 (wc (vl xs0.reverse)) (by rfl) (by rfl) rfl) (RV.tmp rfl) (fun w' hw' => ⟨by rw [if_pos (by omega), if_pos (by omega)]; rfl, hw'.sub (Sub.nil _)⟩)

theorem Bytes (w : World) (x0 : Nat) :
    Calls Tryd.prog 88 [W x0].toArray w fun e w' => e = .returned (.agg (rowN .u8 (bytesN x0)).toArray) ∧ WS w [] [] w' := by
  refine calls_of_T [] 24 [] Tryd.func88 rfl Tryd.ntmps88 (by simp) (WS.refl _ _) ?_
  refine T.seq ?_
  refine T.text [.l, .l] rfl ?_
  refine J.box 1 rfl rfl (wc x0) rfl rfl (fun g1 hg1 => ?_)
  refine J.alloc 2 rfl zero39 [.int .u8 0, .int .u8 0, .int .u8 0, .int .u8 0, .int .u8 0, .int .u8 0, .int .u8 0, .int .u8 0, .int .u8 0, .int .u8 0, .int .u8 0, .int .u8 0, .int .u8 0, .int .u8 0, .int .u8 0, .int .u8 0, .int .u8 0, .int .u8 0, .int .u8 0, .int .u8 0, .int .u8 0, .int .u8 0, .int .u8 0, .int .u8 0, .int .u8 0, .int .u8 0, .int .u8 0, .int .u8 0, .int .u8 0, .int .u8 0, .int .u8 0, .int .u8 0] rfl rfl (fun g2 hg2 => ?_)
  refine J.end ?_
  refine X.then ?_
  refine T.seq ?_
  refine T.text [.l] rfl ?_
  refine J.alloc 3 rfl zero39 [.int .u8 0, .int .u8 0, .int .u8 0, .int .u8 0, .int .u8 0, .int .u8 0, .int .u8 0, .int .u8 0, .int .u8 0, .int .u8 0, .int .u8 0, .int .u8 0, .int .u8 0, .int .u8 0, .int .u8 0, .int .u8 0, .int .u8 0, .int .u8 0, .int .u8 0, .int .u8 0, .int .u8 0, .int .u8 0, .int .u8 0, .int .u8 0, .int .u8 0, .int .u8 0, .int .u8 0, .int .u8 0, .int .u8 0, .int .u8 0, .int .u8 0, .int .u8 0] rfl rfl (fun g3 hg3 => ?_)
  refine J.end ?_
  refine X.then ?_
  refine T.seq ?_
  refine T.seq ?_
  refine T.text [.l] rfl ?_
  refine J.move rfl rfl ?_
  refine J.end ?_
  refine X.then ?_
  refine T.block ?_
  refine T.loop (ι := Nat × List Nat) (fun ((i, ys) : Nat × List Nat) => i ≤ 32 ∧ ys.length = 32 ∧ ∀ q, q < i → ys.getD q 0 = x0 / 256 ^ (31 - q) % 256) (fun ((i, ys) : Nat × List Nat) => [(0, W x0), (1, .pointer (some ⟨g1, 0, none⟩)), (2, .pointer (some ⟨g2, 0, none⟩)), (3, .pointer (some ⟨g3, 0, none⟩)), (6, .int .i64 (i : Int))]) (fun ((i, ys) : Nat × List Nat) => [(1, ⟨some g1, 24, (wc x0)⟩), (2, ⟨some g2, 39, [.int .u8 0, .int .u8 0, .int .u8 0, .int .u8 0, .int .u8 0, .int .u8 0, .int .u8 0, .int .u8 0, .int .u8 0, .int .u8 0, .int .u8 0, .int .u8 0, .int .u8 0, .int .u8 0, .int .u8 0, .int .u8 0, .int .u8 0, .int .u8 0, .int .u8 0, .int .u8 0, .int .u8 0, .int .u8 0, .int .u8 0, .int .u8 0, .int .u8 0, .int .u8 0, .int .u8 0, .int .u8 0, .int .u8 0, .int .u8 0, .int .u8 0, .int .u8 0]⟩), (3, ⟨some g3, 39, rowN .u8 ys⟩)]) (fun ((i, ys) : Nat × List Nat) => 32 - i) ⟨0, (List.replicate 32 0)⟩ ⟨Nat.zero_le _, rfl, fun q hq => by omega⟩ (by repeat (first | exact Sub.nil _ | refine Sub.cons (by first | rfl | (rw [dgs_zero]; rfl) | (rw [List.drop_length]; rfl) | (simp; done) | (congr 2; omega) | (congr 3; omega)) ?_)) (by repeat (first | exact Sub.nil _ | refine Sub.cons (by first | rfl | (rw [dgs_zero]; rfl) | (rw [List.drop_length]; rfl) | (simp; done) | (congr 2; omega) | (congr 3; omega)) ?_)) ?_
  rintro ⟨i, ys⟩ ⟨hi, hl, hy⟩
  try dsimp only at *
  refine T.seq ?_
  refine T.text [.l] rfl ?_
  refine J.lss rfl rfl rfl rfl ?_
  refine J.end ?_
  refine X.then ?_
  refine T.seq ?_
  refine T.cond_dec rfl (fun h1 => ?_) (fun h1 => ?_)
  · have hj : 31 - i < 32 := by omega
    have hld := lim_digit x0 (31 - i)
    have hml : x0 / 256 ^ (31 - i) % 256 < 256 := Nat.mod_lt _ (by omega)
    refine T.skip ?_
    refine X.then ?_
    refine T.seq ?_
    refine T.block ?_
    refine T.seq ?_
    refine T.text [.l, .l] rfl ?_
    refine J.move rfl rfl ?_
    refine J.assign rfl rfl ?_
    refine J.end ?_
    refine X.then ?_
    refine T.seq ?_
    refine T.text [.l, .l, .l] rfl ?_
    refine J.move rfl rfl ?_
    refine J.sub' rfl rfl rfl (by first | exact sub_nat 31 _ (by omega) | exact i64_ok _ (by omega) | exact rfl) ?_
    refine J.assign rfl rfl ?_
    refine J.end ?_
    refine X.then ?_
    refine T.text [.l, .l, .l, .l, .l, .l, .l, .l, .l, .l, .l, .l] rfl ?_
    refine J.move rfl rfl ?_
    refine J.move rfl rfl ?_
    refine J.quo rfl rfl rfl (by omega) (by first | exact quo_nat _ 8 (by omega) | exact i64_quo_ok _ _ (by omega) | exact rfl) ?_
    refine J.indexArr arr24 rfl rfl (by omega) (by omega) (by first | exact Int.toNat_natCast _ | rfl) rfl ?_
    refine J.load1 (k := .l) trivial 1 rfl rfl one22 (by exact rowN_get0 _ _ _ (by rw [wl_length]; omega)) rfl ?_
    refine J.as 15 (.int .u64 ((lim x0 ((31 - i) / 8) : Nat) : Int)) rfl (by rw [wl_get _ _ (by omega)]) ?_
    refine J.move rfl rfl ?_
    refine J.rem rfl rfl rfl (by omega) (by first | exact rem_nat _ 8 | exact rem_ok _ _ (by omega) | exact rfl) ?_
    refine J.mul rfl rfl rfl (by first | exact mul_nat _ 8 (by omega) | exact i64_ok _ (by omega) | exact rfl) ?_
    refine J.shr rfl rfl rfl (by omega) (by exact shr_nat _ ((31 - i) % 8 * 8) (by omega)) ?_
    refine J.conv (by rw [Tryd.underlying22]; rfl) Tryd.underlying5 rfl rfl (by exact wrap8_nat _) ?_
    refine J.as 20 (.int .u8 ((x0 / 256 ^ (31 - i) % 256 : Nat) : Int)) rfl (by rw [pow8, hld]) ?_
    refine J.indexArr arr39 rfl rfl (by omega) (by omega) (by first | exact Int.toNat_natCast _ | rfl) rfl ?_
    refine J.store 3 rfl rfl rfl rfl [.int .u8 ((x0 / 256 ^ (31 - i) % 256 : Nat) : Int)] rfl sz5 (by rw [rowN_length, hl]; show _ + 1 ≤ 32; omega) (by first | exact rowN_one _ _ | (simp; done) | (intro u hu; simp at hu; subst hu; rfl) | (intro u hu; simp at hu; rcases hu with rfl | rfl <;> rfl)) (by first | decide | exact Nat.zero_lt_succ _ | simp) trivial (rowN .u8 (ys.set i (x0 / 256 ^ (31 - i) % 256))) (by rw [Nat.zero_add, Nat.mul_one]; exact putN' _ _ _ _ (by omega)) ?_
    refine J.end ?_
    refine X.inBlock (X.then ?_)
    refine T.text [.l, .l] rfl ?_
    refine J.add rfl rfl rfl (by first | exact add_nat _ 1 (by omega) | exact i64_ok _ (by omega) | exact rfl) ?_
    refine J.move rfl rfl ?_
    refine J.end ?_
    exact X.round ⟨(i + 1), (ys.set i (x0 / 256 ^ (31 - i) % 256))⟩ ⟨by omega, by simp [hl], fun q hq => by
          rw [getD_set _ _ _ _ (by omega)]
          split
          · rename_i hiq; subst hiq; rfl
          · exact hy q (by omega)⟩ (by first | omega | (dsimp only; omega)) (by repeat (first | exact Sub.nil _ | refine Sub.cons (by first | rfl | (rw [dgs_zero]; rfl) | (rw [List.drop_length]; rfl) | (simp; done) | (congr 2; omega) | (congr 3; omega)) ?_)) (by repeat (first | exact Sub.nil _ | refine Sub.cons (by first | rfl | (rw [dgs_zero]; rfl) | (rw [List.drop_length]; rfl) | (simp; done) | (congr 2; omega) | (congr 3; omega)) ?_))
  · obtain rfl : i = 32 := by omega
    obtain rfl : ys = bytesN x0 := bytesN_of hl hy
    refine T.exit ?_
    refine X.then_exit (X.then_exit (X.inBlock_eq (X.then ?_)))
    refine T.seq ?_
    refine T.text [.l, .l] rfl ?_
    refine J.loadN (k := .l) trivial 3 rfl rfl agg39 (rowN .u8 (bytesN x0)) (by rw [rowN_length, bytesN_length]) (by rw [List.drop_zero]; exact List.take_of_length_le (by rw [rowN_length, bytesN_length]; omega)) rfl ?_
    refine J.store 2 rfl rfl rfl rfl (rowN .u8 (bytesN x0)) rfl (by rw [rowN_length, bytesN_length]; exact sz39) (by rw [rowN_length, bytesN_length]; exact Nat.le_refl _) (by first | exact rowN_one _ _ | (simp; done) | (intro u hu; simp at hu; subst hu; rfl) | (intro u hu; simp at hu; rcases hu with rfl | rfl <;> rfl)) (by rw [rowN_length, bytesN_length]; decide) trivial (rowN .u8 (bytesN x0)) (by unfold put; rw [rowN_length, bytesN_length]; exact List.append_nil _) ?_
    refine J.end ?_
    refine X.then ?_
    refine T.ret ?_
    exact X.ret1 rfl (RV.agg 2 rfl rfl agg39 (rowN .u8 (bytesN x0)) (by rw [rowN_length, bytesN_length]) (by rw [List.drop_zero]; exact List.take_of_length_le (by rw [rowN_length, bytesN_length]; exact Nat.le_refl _)) rfl) (fun w' hw' => ⟨rfl, hw'.sub (Sub.nil _)⟩)
end Go.Proofs.YtegociefcfcihaaDoor.Wa
set_option linter.unusedVariables false
set_option maxRecDepth 20000
namespace Go.Proofs.YtegociefcfcihaaDoor.Wb
open Go Go.Fw

theorem sz39 : SizeT Tryd.prog 39 32 := (by unfold SizeT; kernel_rfl)
theorem zero8 : ZeroT Tryd.prog 67 (.agg (rowN .u64 (lg 0)).toArray) := (by unfold ZeroT; kernel_rfl)
theorem zero24 : ZeroT Tryd.prog 24 (.agg ([.int .u64 0, .int .u64 0, .int .u64 0, .int .u64 0]).toArray) := (by unfold ZeroT; kernel_rfl)
theorem agg24 : AggT Tryd.prog 24 4 := ⟨⟨_, Tryd.underlying24, rfl⟩, by kernel_rfl⟩
theorem fok107 : FnOk Tryd.prog 107 := FnOk.mk' Tryd.func107 (by kernel_rfl) rfl
theorem sz24 : SizeT Tryd.prog 24 4 := (by unfold SizeT; kernel_rfl)
theorem fok111 : FnOk Tryd.prog 111 := FnOk.mk' Tryd.func111 (by kernel_rfl) rfl
theorem zero67 : ZeroT Tryd.prog 67 (.agg ([.int .u64 0, .int .u64 0, .int .u64 0, .int .u64 0, .int .u64 0, .int .u64 0, .int .u64 0, .int .u64 0]).toArray) := (by unfold ZeroT; kernel_rfl)
theorem sz22 : SizeT Tryd.prog 22 1 := (by unfold SizeT; kernel_rfl)
theorem arr24 : ArrT Tryd.prog 24 4 22 1 := ⟨Tryd.underlying24, sz22⟩
theorem one22 : OneT Tryd.prog 22 := ⟨⟨_, Tryd.underlying22, rfl⟩, by kernel_rfl⟩
theorem fok146 : FnOk Tryd.prog 146 := FnOk.mk' Tryd.func146 (by kernel_rfl) rfl
theorem arr67 : ArrT Tryd.prog 67 8 22 1 := ⟨Tryd.underlying67, sz22⟩
theorem agg67 : AggT Tryd.prog 67 8 := ⟨⟨_, Tryd.underlying67, rfl⟩, by kernel_rfl⟩
theorem sz67 : SizeT Tryd.prog 67 8 := (by unfold SizeT; kernel_rfl)
theorem fok114 : FnOk Tryd.prog 114 := FnOk.mk' Tryd.func114 (by kernel_rfl) rfl

theorem Add (w : World) (x0 : Nat) (x1 : Nat) :
    Calls Tryd.prog 23 [W x0, W x1].toArray w fun e w' => e = .returned (W (x0 + x1)) ∧ WS w [] [] w' := by
  refine calls_of_T [] 14 [] Tryd.func23 rfl Tryd.ntmps23 (by simp) (WS.refl _ _) ?_
  refine T.seq ?_
  refine T.text [.l, .l, .l] rfl ?_
  refine J.box 2 rfl rfl (wc x0) rfl rfl (fun g2 hg2 => ?_)
  refine J.box 3 rfl rfl (wc x1) rfl rfl (fun g3 hg3 => ?_)
  refine J.alloc 4 rfl zero24 [.int .u64 0, .int .u64 0, .int .u64 0, .int .u64 0] rfl rfl (fun g4 hg4 => ?_)
  refine J.end ?_
  refine X.then ?_
  refine T.seq ?_
  refine T.text [.l, .l, .l, .l, .l, .l, .l, .l, .l] rfl ?_
  refine J.loadN (k := .l) trivial 2 rfl rfl agg24 (wc x0) rfl rfl rfl ?_
  refine J.loadN (k := .l) trivial 3 rfl rfl agg24 (wc x1) rfl rfl rfl ?_
  refine J.call0 (k := .l) trivial fok107 rfl rfl (fun w hw => Wa.plus w _ _) ?_
  refine J.move rfl rfl ?_
  refine J.extract rfl rfl rfl ?_
  refine J.extract rfl rfl rfl ?_
  refine J.alloc 5 rfl zero24 [.int .u64 0, .int .u64 0, .int .u64 0, .int .u64 0] rfl rfl (fun g5 hg5 => ?_)
  refine J.store 5 rfl rfl rfl rfl (wc (x0 + x1)) rfl sz24 (by first | decide | exact Nat.le_refl _ | exact Nat.le_of_ble_eq_true rfl | (simp [rowN]; done) | (simp [rowN]; omega)) (by first | exact rowN_one _ _ | (simp; done) | (intro u hu; simp at hu; subst hu; rfl) | (intro u hu; simp at hu; rcases hu with rfl | rfl <;> rfl)) (by first | decide | exact Nat.zero_lt_succ _ | simp) trivial (wc (x0 + x1)) rfl ?_
  refine J.assign rfl rfl ?_
  refine J.end ?_
  refine X.then ?_
  refine T.seq ?_
  refine T.text [.l, .l] rfl ?_
  refine J.loadN (k := .l) trivial 5 rfl rfl agg24 (wc (x0 + x1)) rfl rfl rfl ?_
  refine J.store 4 rfl rfl rfl rfl (wc (x0 + x1)) rfl sz24 (by first | decide | exact Nat.le_refl _ | exact Nat.le_of_ble_eq_true rfl | (simp [rowN]; done) | (simp [rowN]; omega)) (by first | exact rowN_one _ _ | (simp; done) | (intro u hu; simp at hu; subst hu; rfl) | (intro u hu; simp at hu; rcases hu with rfl | rfl <;> rfl)) (by first | decide | exact Nat.zero_lt_succ _ | simp) trivial (wc (x0 + x1)) rfl ?_
  refine J.end ?_
  refine X.then ?_
  refine T.ret ?_
  exact X.ret1 rfl (RV.agg 4 rfl rfl agg24 (wc (x0 + x1)) (by rfl) (by rfl) rfl) (fun w' hw' => ⟨rfl, hw'.sub (Sub.nil _)⟩)

theorem Sub (w : World) (x0 : Nat) (x1 : Nat) :
    Calls Tryd.prog 25 [W x0, W x1].toArray w fun e w' => e = .returned (W (dif x0 x1)) ∧ WS w [] [] w' := by
  refine calls_of_T [] 14 [] Tryd.func25 rfl Tryd.ntmps25 (by simp) (WS.refl _ _) ?_
  refine T.seq ?_
  refine T.text [.l, .l, .l] rfl ?_
  refine J.box 2 rfl rfl (wc x0) rfl rfl (fun g2 hg2 => ?_)
  refine J.box 3 rfl rfl (wc x1) rfl rfl (fun g3 hg3 => ?_)
  refine J.alloc 4 rfl zero24 [.int .u64 0, .int .u64 0, .int .u64 0, .int .u64 0] rfl rfl (fun g4 hg4 => ?_)
  refine J.end ?_
  refine X.then ?_
  refine T.seq ?_
  refine T.text [.l, .l, .l, .l, .l, .l, .l, .l, .l] rfl ?_
  refine J.loadN (k := .l) trivial 2 rfl rfl agg24 (wc x0) rfl rfl rfl ?_
  refine J.loadN (k := .l) trivial 3 rfl rfl agg24 (wc x1) rfl rfl rfl ?_
  refine J.call0 (k := .l) trivial fok111 rfl rfl (fun w hw => Wa.minus w _ _) ?_
  refine J.move rfl rfl ?_
  refine J.extract rfl rfl rfl ?_
  refine J.extract rfl rfl rfl ?_
  refine J.alloc 5 rfl zero24 [.int .u64 0, .int .u64 0, .int .u64 0, .int .u64 0] rfl rfl (fun g5 hg5 => ?_)
  refine J.store 5 rfl rfl rfl rfl (wc (dif x0 x1)) rfl sz24 (by first | decide | exact Nat.le_refl _ | exact Nat.le_of_ble_eq_true rfl | (simp [rowN]; done) | (simp [rowN]; omega)) (by first | exact rowN_one _ _ | (simp; done) | (intro u hu; simp at hu; subst hu; rfl) | (intro u hu; simp at hu; rcases hu with rfl | rfl <;> rfl)) (by first | decide | exact Nat.zero_lt_succ _ | simp) trivial (wc (dif x0 x1)) rfl ?_
  refine J.assign rfl rfl ?_
  refine J.end ?_
  refine X.then ?_
  refine T.seq ?_
  refine T.text [.l, .l] rfl ?_
  refine J.loadN (k := .l) trivial 5 rfl rfl agg24 (wc (dif x0 x1)) rfl rfl rfl ?_
  refine J.store 4 rfl rfl rfl rfl (wc (dif x0 x1)) rfl sz24 (by first | decide | exact Nat.le_refl _ | exact Nat.le_of_ble_eq_true rfl | (simp [rowN]; done) | (simp [rowN]; omega)) (by first | exact rowN_one _ _ | (simp; done) | (intro u hu; simp at hu; subst hu; rfl) | (intro u hu; simp at hu; rcases hu with rfl | rfl <;> rfl)) (by first | decide | exact Nat.zero_lt_succ _ | simp) trivial (wc (dif x0 x1)) rfl ?_
  refine J.end ?_
  refine X.then ?_
  refine T.ret ?_
  exact X.ret1 rfl (RV.agg 4 rfl rfl agg24 (wc (dif x0 x1)) (by rfl) (by rfl) rfl) (fun w' hw' => ⟨rfl, hw'.sub (Sub.nil _)⟩)

theorem Mul64 (w : World) (x y : Nat) (hx : x < 18446744073709551616) (hy : y < 18446744073709551616) :
    Calls Tryd.prog 146 [.int .u64 (x : Int), .int .u64 (y : Int)].toArray w fun e w' => e = .returned (.tuple #[.int .u64 ((x * y / 18446744073709551616 : Nat) : Int), .int .u64 ((x * y % 18446744073709551616 : Nat) : Int)]) ∧ WS w [] [] w' := by
  obtain ⟨h1, h2, h3, h4, h5, h6⟩ := mul64 x y hx hy
  refine calls_of_T [] 51 [] Tryd.func146 rfl Tryd.ntmps146 (by simp) (WS.refl _ _) ?_
  refine T.seq ?_
  refine T.text [.l, .l] rfl ?_
  refine J.assign rfl rfl ?_
  refine J.assign rfl rfl ?_
  refine J.end ?_
  refine X.then ?_
  refine T.seq ?_
  refine T.text [.l, .l, .l] rfl ?_
  refine J.move rfl rfl ?_
  refine J.band rfl rfl rfl (by exact u64_and32 _ (by omega)) ?_
  refine J.assign rfl rfl ?_
  refine J.end ?_
  refine X.then ?_
  refine T.seq ?_
  refine T.text [.l, .l, .l] rfl ?_
  refine J.move rfl rfl ?_
  refine J.shr rfl rfl rfl (by decide) (by exact shr32_nat _) ?_
  refine J.assign rfl rfl ?_
  refine J.end ?_
  refine X.then ?_
  refine T.seq ?_
  refine T.text [.l, .l, .l] rfl ?_
  refine J.move rfl rfl ?_
  refine J.band rfl rfl rfl (by exact u64_and32 _ (by omega)) ?_
  refine J.assign rfl rfl ?_
  refine J.end ?_
  refine X.then ?_
  refine T.seq ?_
  refine T.text [.l, .l, .l] rfl ?_
  refine J.move rfl rfl ?_
  refine J.shr rfl rfl rfl (by decide) (by exact shr32_nat _) ?_
  refine J.assign rfl rfl ?_
  refine J.end ?_
  refine X.then ?_
  refine T.seq ?_
  refine T.text [.l, .l, .l, .l] rfl ?_
  refine J.move rfl rfl ?_
  refine J.move rfl rfl ?_
  refine J.mul rfl rfl rfl (by exact mulu_nat _ _ (Nat.le_trans h1 (by omega))) ?_
  refine J.assign rfl rfl ?_
  refine J.end ?_
  refine X.then ?_
  refine T.seq ?_
  refine T.text [.l, .l, .l, .l, .l, .l, .l] rfl ?_
  refine J.move rfl rfl ?_
  refine J.move rfl rfl ?_
  refine J.mul rfl rfl rfl (by exact mulu_nat _ _ (Nat.le_trans h2 (by omega))) ?_
  refine J.move rfl rfl ?_
  refine J.shr rfl rfl rfl (by decide) (by exact shr32_nat _) ?_
  refine J.add rfl rfl rfl (by first | exact addu_nat _ _ (by omega) | exact u64_ok _ (by omega) | exact u64_wrap _) ?_
  refine J.assign rfl rfl ?_
  refine J.end ?_
  refine X.then ?_
  refine T.seq ?_
  refine T.text [.l, .l, .l] rfl ?_
  refine J.move rfl rfl ?_
  refine J.band rfl rfl rfl (by exact u64_and32 _ (by omega)) ?_
  refine J.assign rfl rfl ?_
  refine J.end ?_
  refine X.then ?_
  refine T.seq ?_
  refine T.text [.l, .l, .l] rfl ?_
  refine J.move rfl rfl ?_
  refine J.shr rfl rfl rfl (by decide) (by exact shr32_nat _) ?_
  refine J.assign rfl rfl ?_
  refine J.end ?_
  refine X.then ?_
  refine T.seq ?_
  refine T.text [.l, .l, .l, .l, .l, .l] rfl ?_
  refine J.move rfl rfl ?_
  refine J.move rfl rfl ?_
  refine J.move rfl rfl ?_
  refine J.mul rfl rfl rfl (by exact mulu_nat _ _ (Nat.le_trans h3 (by omega))) ?_
  refine J.add rfl rfl rfl (by first | exact addu_nat _ _ (by omega) | exact u64_ok _ (by omega) | exact u64_wrap _) ?_
  refine J.assign rfl rfl ?_
  refine J.end ?_
  refine X.then ?_
  refine T.seq ?_
  refine T.text [.l, .l, .l, .l, .l, .l, .l, .l, .l] rfl ?_
  refine J.move rfl rfl ?_
  refine J.move rfl rfl ?_
  refine J.mul rfl rfl rfl (by exact mulu_nat _ _ (Nat.le_trans h4 (by omega))) ?_
  refine J.move rfl rfl ?_
  refine J.add rfl rfl rfl (by first | exact addu_nat _ _ (by omega) | exact u64_ok _ (by omega) | exact u64_wrap _) ?_
  refine J.move rfl rfl ?_
  refine J.shr rfl rfl rfl (by decide) (by exact shr32_nat _) ?_
  refine J.add rfl rfl rfl (by first | exact addu_nat _ _ (by omega) | exact u64_ok _ (by omega) | exact u64_wrap _) ?_
  refine J.as 47 (.int .u64 ((x * y / 18446744073709551616 : Nat) : Int)) rfl (by rw [← h5]) ?_
  refine J.assign rfl rfl ?_
  refine J.end ?_
  refine X.then ?_
  refine T.seq ?_
  refine T.text [.l, .l, .l, .l] rfl ?_
  refine J.move rfl rfl ?_
  refine J.move rfl rfl ?_
  refine J.mul rfl rfl rfl (by exact mulw_nat _ _) ?_
  refine J.assign rfl rfl ?_
  refine J.end ?_
  refine X.then ?_
  refine T.ret ?_
  exact X.ret2 rfl (RV.tmp rfl) (RV.tmp rfl) (fun w' hw' => ⟨rfl, hw'.sub (Sub.nil _)⟩)

set_option maxHeartbeats 1000000 in
theorem times (w : World) (x0 : Nat) (x1 : Nat) :
    Calls Tryd.prog 114 [W x0, W x1].toArray w fun e w' => e = .returned (.agg (lc ((x0 % 2 ^ 256) * (x1 % 2 ^ 256))).toArray) ∧ WS w [] [] w' := by
  refine calls_of_T [] 62 [] Tryd.func114 rfl Tryd.ntmps114 (by simp) (WS.refl _ _) ?_
  refine T.seq ?_
  refine T.text [.l, .l, .l] rfl ?_
  refine J.box 2 rfl rfl (wc x0) rfl rfl (fun g2 hg2 => ?_)
  refine J.box 3 rfl rfl (wc x1) rfl rfl (fun g3 hg3 => ?_)
  refine J.alloc 4 rfl zero67 [.int .u64 0, .int .u64 0, .int .u64 0, .int .u64 0, .int .u64 0, .int .u64 0, .int .u64 0, .int .u64 0] rfl rfl (fun g4 hg4 => ?_)
  refine J.end ?_
  refine X.then ?_
  refine T.seq ?_
  refine T.text [.l] rfl ?_
  refine J.alloc 5 rfl zero8 (rowN .u64 (lg 0)) rfl rfl (fun g5 hg5 => ?_)
  refine J.end ?_
  refine X.then ?_
  refine T.seq ?_
  refine T.seq ?_
  refine T.text [.l] rfl ?_
  refine J.move rfl rfl ?_
  refine J.end ?_
  refine X.then ?_
  refine T.block ?_
  refine T.loop (ι := Nat × List Nat) (fun ((i, ps) : Nat × List Nat) => i ≤ 4 ∧ ps.length = 8 ∧ Dq 18446744073709551616 ps ∧ vq 18446744073709551616 ps = (x0 % 2 ^ 256) % 18446744073709551616 ^ i * (x1 % 2 ^ 256) ∧ ∀ q, i + 4 ≤ q → ps.getD q 0 = 0) (fun ((i, ps) : Nat × List Nat) => [(0, W x0), (1, W x1), (2, .pointer (some ⟨g2, 0, none⟩)), (3, .pointer (some ⟨g3, 0, none⟩)), (4, .pointer (some ⟨g4, 0, none⟩)), (5, .pointer (some ⟨g5, 0, none⟩)), (12, .int .i64 (i : Int))]) (fun ((i, ps) : Nat × List Nat) => [(2, ⟨some g2, 24, (wc x0)⟩), (3, ⟨some g3, 24, (wc x1)⟩), (4, ⟨some g4, 67, [.int .u64 0, .int .u64 0, .int .u64 0, .int .u64 0, .int .u64 0, .int .u64 0, .int .u64 0, .int .u64 0]⟩), (5, ⟨some g5, 67, rowN .u64 ps⟩)]) (fun ((i, ps) : Nat × List Nat) => 4 - i) ⟨0, (lg 0)⟩ ⟨Nat.zero_le _, rfl, lg_dq 0, by rw [Nat.pow_zero, Nat.mod_one, Nat.zero_mul]; exact lg_zero, fun q hq => lg_zero_get q⟩ (by repeat (first | exact Sub.nil _ | refine Sub.cons (by first | rfl | (rw [dgs_zero]; rfl) | (rw [List.drop_length]; rfl) | (simp; done) | (congr 2; omega) | (congr 3; omega)) ?_)) (by repeat (first | exact Sub.nil _ | refine Sub.cons (by first | rfl | (rw [dgs_zero]; rfl) | (rw [List.drop_length]; rfl) | (simp; done) | (congr 2; omega) | (congr 3; omega)) ?_)) ?_
  rintro ⟨i, ps⟩ ⟨hi, hl, hd, hv, hz⟩
  try dsimp only at *
  refine T.seq ?_
  refine T.text [.l] rfl ?_
  refine J.lss rfl rfl rfl rfl ?_
  refine J.end ?_
  refine X.then ?_
  refine T.seq ?_
  refine T.cond_dec rfl (fun h1 => ?_) (fun h1 => ?_)
  · skip
    refine T.skip ?_
    refine X.then ?_
    refine T.seq ?_
    refine T.block ?_
    refine T.seq ?_
    refine T.text [.l, .l] rfl ?_
    refine J.move rfl rfl ?_
    refine J.assign rfl rfl ?_
    refine J.end ?_
    refine X.then ?_
    refine T.seq ?_
    refine T.text [.l] rfl ?_
    refine J.assign rfl rfl ?_
    refine J.end ?_
    refine X.then ?_
    refine T.seq ?_
    refine T.seq ?_
    refine T.text [.l] rfl ?_
    refine J.move rfl rfl ?_
    refine J.end ?_
    refine X.then ?_
    refine T.block ?_
    refine T.loop (ι := Nat × Nat × List Nat) (fun ((k, c, ps2) : Nat × Nat × List Nat) => k ≤ 4 ∧ c < 18446744073709551616 ∧ ps2.length = 8 ∧ Dq 18446744073709551616 ps2 ∧ vq 18446744073709551616 ps2 + c * 18446744073709551616 ^ (i + k) = (x0 % 2 ^ 256) % 18446744073709551616 ^ i * (x1 % 2 ^ 256) + lim x0 i * ((x1 % 2 ^ 256) % 18446744073709551616 ^ k) * 18446744073709551616 ^ i ∧ ∀ q, i + 4 ≤ q → ps2.getD q 0 = 0) (fun ((k, c, ps2) : Nat × Nat × List Nat) => [(0, W x0), (1, W x1), (2, .pointer (some ⟨g2, 0, none⟩)), (3, .pointer (some ⟨g3, 0, none⟩)), (4, .pointer (some ⟨g4, 0, none⟩)), (5, .pointer (some ⟨g5, 0, none⟩)), (12, .int .i64 (i : Int)), (14, .int .i64 (i : Int)), (6, .int .i64 (i : Int)), (15, .int .i64 (k : Int)), (7, .int .u64 (c : Int))]) (fun ((k, c, ps2) : Nat × Nat × List Nat) => [(2, ⟨some g2, 24, (wc x0)⟩), (3, ⟨some g3, 24, (wc x1)⟩), (4, ⟨some g4, 67, [.int .u64 0, .int .u64 0, .int .u64 0, .int .u64 0, .int .u64 0, .int .u64 0, .int .u64 0, .int .u64 0]⟩), (5, ⟨some g5, 67, rowN .u64 ps2⟩)]) (fun ((k, c, ps2) : Nat × Nat × List Nat) => 4 - k) ⟨0, 0, ps⟩ ⟨Nat.zero_le _, by omega, hl, hd, by rw [hv, Nat.pow_zero 18446744073709551616, Nat.mod_one]; omega, hz⟩ (by repeat (first | exact Sub.nil _ | refine Sub.cons (by first | rfl | (rw [dgs_zero]; rfl) | (rw [List.drop_length]; rfl) | (simp; done) | (congr 2; omega) | (congr 3; omega)) ?_)) (by repeat (first | exact Sub.nil _ | refine Sub.cons (by first | rfl | (rw [dgs_zero]; rfl) | (rw [List.drop_length]; rfl) | (simp; done) | (congr 2; omega) | (congr 3; omega)) ?_)) ?_
    rintro ⟨k, c, ps2⟩ ⟨hk, hc, hl2, hd2, hv2, hz2⟩
    try dsimp only at *
    refine T.seq ?_
    refine T.text [.l] rfl ?_
    refine J.lss rfl rfl rfl rfl ?_
    refine J.end ?_
    refine X.then ?_
    refine T.seq ?_
    refine T.cond_dec rfl (fun h2 => ?_) (fun h2 => ?_)
    · have hll0 := lim_lt x0 i
      have hll1 := lim_lt x1 k
      have hgl := hd2.getD (by omega) (i + k)
      refine T.skip ?_
      refine X.then ?_
      refine T.seq ?_
      refine T.block ?_
      refine T.seq ?_
      refine T.text [.l, .l] rfl ?_
      refine J.move rfl rfl ?_
      refine J.assign rfl rfl ?_
      refine J.end ?_
      refine X.then ?_
      refine T.seq ?_
      refine T.draw [] [(0, .g), (1, .g), (2, .q), (3, .g), (4, .g), (5, .q), (6, .q), (7, .g), (8, .g), (9, .g), (10, .g), (11, .g)] (by kernel_rfl) (by kernel_rfl) ?_ (by repeat (first | exact Sub.nil _ | refine Sub.cons (by first | rfl | (rw [dgs_zero]; rfl) | (rw [List.drop_length]; rfl) | (simp; done) | (congr 2; omega) | (congr 3; omega)) ?_))
      refine J.move rfl rfl ?_
      refine J.indexArr arr24 rfl rfl (by omega) (by omega) (by first | exact Int.toNat_natCast _ | rfl) rfl ?_
      refine J.load1 (k := .q) trivial 2 rfl rfl one22 (by exact wc_at _ _ (by omega)) rfl ?_
      have hl21 := lim_lt x0 i
      refine J.move rfl rfl ?_
      refine J.indexArr arr24 rfl rfl (by omega) (by omega) (by first | exact Int.toNat_natCast _ | rfl) rfl ?_
      refine J.load1 (k := .q) trivial 3 rfl rfl one22 (by exact wc_at _ _ (by omega)) rfl ?_
      have hl24 := lim_lt x1 k
      refine J.call0 (k := .q) trivial fok146 rfl rfl (fun w hw => Wb.Mul64 w _ _ hll0 hll1) ?_
      obtain ⟨_, _, _, _, _, hP⟩ := mul64 (lim x0 i) (lim x1 k) hll0 hll1
      have hm := mac hgl hc hP
      have hst := mul_step (by omega) hd2 (show i + k < ps2.length by omega) hll0 hll1 hc
      have hv4 : vq 18446744073709551616 (ps2.set (i + k) ((ps2.getD (i + k) 0 + lim x0 i * lim x1 k + c) % 18446744073709551616)) + (ps2.getD (i + k) 0 + lim x0 i * lim x1 k + c) / 18446744073709551616 * 18446744073709551616 ^ (i + (k + 1)) = (x0 % 2 ^ 256) % 18446744073709551616 ^ i * (x1 % 2 ^ 256) + lim x0 i * ((x1 % 2 ^ 256) % 18446744073709551616 ^ (k + 1)) * 18446744073709551616 ^ i := by
        rw [← Nat.add_assoc i k 1, hst.2.2, hv2, mod_succ_lim (x1 % 2 ^ 256) k, lim_mod256 x1 k (by omega), Nat.mul_add, Nat.add_mul, Nat.add_assoc]; congr 2; rw [Nat.pow_add, ← Nat.mul_assoc (lim x0 i), Nat.mul_assoc (lim x0 i * lim x1 k), Nat.mul_comm (18446744073709551616 ^ k)]
      refine J.move rfl rfl ?_
      refine J.extract rfl rfl rfl ?_
      refine J.extract rfl rfl rfl ?_
      refine J.assign rfl rfl ?_
      refine J.assign rfl rfl ?_
      refine J.end ?_
      refine X.then ?_
      refine T.seq ?_
      refine T.text [.l] rfl ?_
      refine J.assign rfl rfl ?_
      refine J.end ?_
      refine X.then ?_
      refine T.seq ?_
      refine T.text [.l, .l, .l, .l, .l, .l, .l, .l, .l, .l, .l, .l] rfl ?_
      refine J.move rfl rfl ?_
      refine J.move rfl rfl ?_
      refine J.move rfl rfl ?_
      refine J.add rfl rfl rfl (by first | exact add_nat _ _ (by omega) | exact i64_ok _ (by omega) | exact rfl) ?_
      refine J.indexArr arr67 rfl rfl (by omega) (by omega) (by first | exact Int.toNat_natCast _ | rfl) rfl ?_
      refine J.load1 (k := .l) trivial 5 rfl rfl one22 (by exact rowN_get0 _ _ _ (by omega)) rfl ?_
      refine J.add64z Tryd.func142 (by kernel_rfl) (by kernel_rfl) (by kernel_rfl) (by kernel_rfl) rfl rfl rfl ?_
      refine J.move rfl rfl ?_
      refine J.extract rfl rfl rfl ?_
      refine J.extract rfl rfl rfl ?_
      refine J.assign rfl rfl ?_
      refine J.assign rfl rfl ?_
      refine J.end ?_
      refine X.then ?_
      refine T.seq ?_
      refine T.text [.l, .l, .l, .l] rfl ?_
      refine J.move rfl rfl ?_
      refine J.move rfl rfl ?_
      refine J.add rfl rfl rfl (by first | exact addu_nat _ _ (by omega) | exact u64_ok _ (by omega) | exact u64_wrap _) ?_
      refine J.assign rfl rfl ?_
      refine J.end ?_
      refine X.then ?_
      refine T.seq ?_
      refine T.text [.l, .l, .l, .l, .l, .l, .l, .l] rfl ?_
      refine J.move rfl rfl ?_
      refine J.move rfl rfl ?_
      refine J.add64z Tryd.func142 (by kernel_rfl) (by kernel_rfl) (by kernel_rfl) (by kernel_rfl) rfl rfl rfl ?_
      refine J.move rfl rfl ?_
      refine J.extract rfl rfl rfl ?_
      refine J.extract rfl rfl rfl ?_
      refine J.assign rfl rfl ?_
      refine J.assign rfl rfl ?_
      refine J.end ?_
      refine X.then ?_
      refine T.seq ?_
      refine T.text [.l, .l, .l, .l, .l, .l] rfl ?_
      refine J.move rfl rfl ?_
      refine J.move rfl rfl ?_
      refine J.add rfl rfl rfl (by first | exact add_nat _ _ (by omega) | exact i64_ok _ (by omega) | exact rfl) ?_
      refine J.move rfl rfl ?_
      refine J.indexArr arr67 rfl rfl (by omega) (by omega) (by first | exact Int.toNat_natCast _ | rfl) rfl ?_
      refine J.as 50 (.int .u64 (((ps2.getD (i + k) 0 + lim x0 i * lim x1 k + c) % 18446744073709551616 : Nat) : Int)) rfl (by congr 2; have := hm.2.2.1; omega) ?_
      refine J.store 5 rfl rfl rfl rfl [.int .u64 (((ps2.getD (i + k) 0 + lim x0 i * lim x1 k + c) % 18446744073709551616 : Nat) : Int)] rfl sz22 (by rw [rowN_length, hl2]; show _ + 1 ≤ 8; omega) (by first | exact rowN_one _ _ | (simp; done) | (intro u hu; simp at hu; subst hu; rfl) | (intro u hu; simp at hu; rcases hu with rfl | rfl <;> rfl)) (by first | decide | exact Nat.zero_lt_succ _ | simp) trivial (rowN .u64 (ps2.set (i + k) ((ps2.getD (i + k) 0 + lim x0 i * lim x1 k + c) % 18446744073709551616))) (by rw [Nat.zero_add, Nat.mul_one]; exact putN' _ _ _ _ (by omega)) ?_
      refine J.end ?_
      refine X.then ?_
      refine T.text [.l, .l, .l, .l] rfl ?_
      refine J.move rfl rfl ?_
      refine J.move rfl rfl ?_
      refine J.add rfl rfl rfl (by first | exact addu_nat _ _ (by omega) | exact u64_ok _ (by omega) | exact u64_wrap _) ?_
      refine J.as 54 (.int .u64 (((ps2.getD (i + k) 0 + lim x0 i * lim x1 k + c) / 18446744073709551616 : Nat) : Int)) rfl (by congr 2; have := hm.2.2.2; omega) ?_
      refine J.assign rfl rfl ?_
      refine J.end ?_
      refine X.inBlock (X.then ?_)
      refine T.text [.l, .l] rfl ?_
      refine J.add rfl rfl rfl (by first | exact add_nat _ 1 (by omega) | exact i64_ok _ (by omega) | exact rfl) ?_
      refine J.move rfl rfl ?_
      refine J.end ?_
      exact X.round ⟨(k + 1), ((ps2.getD (i + k) 0 + lim x0 i * lim x1 k + c) / 18446744073709551616), (ps2.set (i + k) ((ps2.getD (i + k) 0 + lim x0 i * lim x1 k + c) % 18446744073709551616))⟩ ⟨by omega, hst.1, by rw [List.length_set]; exact hl2, hst.2.1, hv4, fun q hq => by rw [getD_set _ _ _ _ (by omega), if_neg (by omega)]; exact hz2 q hq⟩ (by first | omega | (dsimp only; omega)) (by repeat (first | exact Sub.nil _ | refine Sub.cons (by first | rfl | (rw [dgs_zero]; rfl) | (rw [List.drop_length]; rfl) | (simp; done) | (congr 2; omega) | (congr 3; omega)) ?_)) (by repeat (first | exact Sub.nil _ | refine Sub.cons (by first | rfl | (rw [dgs_zero]; rfl) | (rw [List.drop_length]; rfl) | (simp; done) | (congr 2; omega) | (congr 3; omega)) ?_))
    · obtain rfl : k = 4 := by omega
      have hvs := vq_set 18446744073709551616 ps2 (i + 4) c (by omega)
      rw [hz2 (i + 4) (by omega), Nat.zero_mul, Nat.add_zero, hv2] at hvs
      have hv3 : vq 18446744073709551616 (ps2.set (i + 4) c) = (x0 % 2 ^ 256) % 18446744073709551616 ^ (i + 1) * (x1 % 2 ^ 256) := by rw [hvs, mod_succ_lim (x0 % 2 ^ 256) i, lim_mod256 x0 i (by omega), Nat.add_mul, Nat.mod_eq_of_lt (show x1 % 2 ^ 256 < 18446744073709551616 ^ 4 by omega)]; congr 1; rw [Nat.mul_assoc, Nat.mul_comm (x1 % 2 ^ 256), ← Nat.mul_assoc]
      refine T.exit ?_
      refine X.then_exit (X.then_exit (X.inBlock_eq (X.then ?_)))
      refine T.text [.l, .l, .l, .l, .l] rfl ?_
      refine J.move rfl rfl ?_
      refine J.add rfl rfl rfl (by first | exact add_nat _ 4 (by omega) | exact i64_ok _ (by omega) | exact rfl) ?_
      refine J.move rfl rfl ?_
      refine J.indexArr arr67 rfl rfl (by omega) (by omega) (by first | exact Int.toNat_natCast _ | rfl) rfl ?_
      refine J.store 5 rfl rfl rfl rfl [.int .u64 ((c : Nat) : Int)] rfl sz22 (by rw [rowN_length, hl2]; show _ + 1 ≤ 8; omega) (by first | exact rowN_one _ _ | (simp; done) | (intro u hu; simp at hu; subst hu; rfl) | (intro u hu; simp at hu; rcases hu with rfl | rfl <;> rfl)) (by first | decide | exact Nat.zero_lt_succ _ | simp) trivial (rowN .u64 (ps2.set (i + 4) c)) (by rw [Nat.zero_add, Nat.mul_one]; exact putN' _ _ _ _ (by omega)) ?_
      refine J.end ?_
      refine X.inBlock (X.then ?_)
      refine T.text [.l, .l] rfl ?_
      refine J.add rfl rfl rfl (by first | exact add_nat _ 1 (by omega) | exact i64_ok _ (by omega) | exact rfl) ?_
      refine J.move rfl rfl ?_
      refine J.end ?_
      exact X.round ⟨(i + 1), (ps2.set (i + 4) c)⟩ ⟨by omega, by rw [List.length_set]; exact hl2, hd2.set _ hc, hv3, fun q hq => by rw [getD_set _ _ _ _ (by omega), if_neg (by omega)]; exact hz2 q (by omega)⟩ (by first | omega | (dsimp only; omega)) (by repeat (first | exact Sub.nil _ | refine Sub.cons (by first | rfl | (rw [dgs_zero]; rfl) | (rw [List.drop_length]; rfl) | (simp; done) | (congr 2; omega) | (congr 3; omega)) ?_)) (by repeat (first | exact Sub.nil _ | refine Sub.cons (by first | rfl | (rw [dgs_zero]; rfl) | (rw [List.drop_length]; rfl) | (simp; done) | (congr 2; omega) | (congr 3; omega)) ?_))
  · obtain rfl : i = 4 := by omega
    have hlg := lg_of hl hd
    rw [hv, Nat.mod_eq_of_lt (by omega)] at hlg
    rw [hlg]
    refine T.exit ?_
    refine X.then_exit (X.then_exit (X.inBlock_eq (X.then ?_)))
    refine T.seq ?_
    refine T.text [.l, .l] rfl ?_
    refine J.loadN (k := .l) trivial 5 rfl rfl agg67 (lc ((x0 % 2 ^ 256) * (x1 % 2 ^ 256))) rfl rfl rfl ?_
    refine J.store 4 rfl rfl rfl rfl (lc ((x0 % 2 ^ 256) * (x1 % 2 ^ 256))) rfl sz67 (by first | decide | exact Nat.le_refl _ | exact Nat.le_of_ble_eq_true rfl | (simp [rowN]; done) | (simp [rowN]; omega)) (by first | exact rowN_one _ _ | (simp; done) | (intro u hu; simp at hu; subst hu; rfl) | (intro u hu; simp at hu; rcases hu with rfl | rfl <;> rfl)) (by first | decide | exact Nat.zero_lt_succ _ | simp) trivial (lc ((x0 % 2 ^ 256) * (x1 % 2 ^ 256))) rfl ?_
    refine J.end ?_
    refine X.then ?_
    refine T.ret ?_
    exact X.ret1 rfl (RV.agg 4 rfl rfl agg67 (lc ((x0 % 2 ^ 256) * (x1 % 2 ^ 256))) (by rfl) (by rfl) rfl) (fun w' hw' => ⟨rfl, hw'.sub (Sub.nil _)⟩)

theorem Mul (w : World) (x0 : Nat) (x1 : Nat) :
    Calls Tryd.prog 27 [W x0, W x1].toArray w fun e w' => e = .returned (W (x0 * x1)) ∧ WS w [] [] w' := by
  refine calls_of_T [] 12 [] Tryd.func27 rfl Tryd.ntmps27 (by simp) (WS.refl _ _) ?_
  refine T.seq ?_
  refine T.text [.l, .l, .l] rfl ?_
  refine J.box 2 rfl rfl (wc x0) rfl rfl (fun g2 hg2 => ?_)
  refine J.box 3 rfl rfl (wc x1) rfl rfl (fun g3 hg3 => ?_)
  refine J.alloc 4 rfl zero24 [.int .u64 0, .int .u64 0, .int .u64 0, .int .u64 0] rfl rfl (fun g4 hg4 => ?_)
  refine J.end ?_
  refine X.then ?_
  refine T.seq ?_
  refine T.text [.l, .l, .l, .l, .l] rfl ?_
  refine J.loadN (k := .l) trivial 2 rfl rfl agg24 (wc x0) rfl rfl rfl ?_
  refine J.loadN (k := .l) trivial 3 rfl rfl agg24 (wc x1) rfl rfl rfl ?_
  refine J.call0 (k := .l) trivial fok114 rfl rfl (fun w hw => Wb.times w _ _) ?_
  refine J.alloc 5 rfl zero67 [.int .u64 0, .int .u64 0, .int .u64 0, .int .u64 0, .int .u64 0, .int .u64 0, .int .u64 0, .int .u64 0] rfl rfl (fun g5 hg5 => ?_)
  refine J.store 5 rfl rfl rfl rfl (lc ((x0 % 2 ^ 256) * (x1 % 2 ^ 256))) rfl sz67 (by first | decide | exact Nat.le_refl _ | exact Nat.le_of_ble_eq_true rfl | (simp [rowN]; done) | (simp [rowN]; omega)) (by first | exact rowN_one _ _ | (simp; done) | (intro u hu; simp at hu; subst hu; rfl) | (intro u hu; simp at hu; rcases hu with rfl | rfl <;> rfl)) (by first | decide | exact Nat.zero_lt_succ _ | simp) trivial (lc ((x0 % 2 ^ 256) * (x1 % 2 ^ 256))) rfl ?_
  refine J.end ?_
  refine X.then ?_
  refine T.seq ?_
  refine T.text [.l, .l, .l, .l] rfl ?_
  refine J.sliceArr arr67 rfl optInt.none (optInt.some rfl (by omega) (by rfl)) optInt.none (by simp) (by omega) (by omega) (by omega) rfl rfl ?_
  refine J.toArr Tryd.underlying24 rfl (by decide) rfl ?_
  refine J.loadN (k := .l) trivial 5 rfl rfl agg24 (wc ((x0 % 2 ^ 256) * (x1 % 2 ^ 256))) rfl rfl rfl ?_
  refine J.store 4 rfl rfl rfl rfl (wc ((x0 % 2 ^ 256) * (x1 % 2 ^ 256))) rfl sz24 (by first | decide | exact Nat.le_refl _ | exact Nat.le_of_ble_eq_true rfl | (simp [rowN]; done) | (simp [rowN]; omega)) (by first | exact rowN_one _ _ | (simp; done) | (intro u hu; simp at hu; subst hu; rfl) | (intro u hu; simp at hu; rcases hu with rfl | rfl <;> rfl)) (by first | decide | exact Nat.zero_lt_succ _ | simp) trivial (wc ((x0 % 2 ^ 256) * (x1 % 2 ^ 256))) rfl ?_
  refine J.end ?_
  refine X.then ?_
  refine T.ret ?_
  exact X.ret1 rfl (RV.agg 4 rfl rfl agg24 (wc ((x0 % 2 ^ 256) * (x1 % 2 ^ 256))) (by rfl) (by rfl) rfl) (fun w' hw' => ⟨retW (by rw [← Nat.mul_mod]), hw'.sub (Sub.nil _)⟩)

theorem wide (w : World) (x0 c : Nat) (hc : c < 18446744073709551616) :
    Calls Tryd.prog 117 [W x0, .int .u64 (c : Int)].toArray w fun e w' => e = .returned (.agg (lc (x0 % 2 ^ 256 + c * 2 ^ 256)).toArray) ∧ WS w [] [] w' := by
  refine calls_of_T [] 15 [] Tryd.func117 rfl Tryd.ntmps117 (by simp) (WS.refl _ _) ?_
  refine T.seq ?_
  refine T.text [.l, .l] rfl ?_
  refine J.box 2 rfl rfl (wc x0) rfl rfl (fun g2 hg2 => ?_)
  refine J.alloc 4 rfl zero67 [.int .u64 0, .int .u64 0, .int .u64 0, .int .u64 0, .int .u64 0, .int .u64 0, .int .u64 0, .int .u64 0] rfl rfl (fun g4 hg4 => ?_)
  refine J.end ?_
  refine X.then ?_
  refine T.seq ?_
  refine T.text [.l, .l, .l, .l, .l, .l, .l, .l, .l, .l, .l] rfl ?_
  refine J.indexArr arr24 rfl rfl (by omega) (by omega) (by rfl) rfl ?_
  refine J.load1 (k := .l) trivial 2 rfl rfl one22 (by exact wc_at _ 0 (by omega)) rfl ?_
  have hl6 := lim_lt x0 0
  refine J.indexArr arr24 rfl rfl (by omega) (by omega) (by rfl) rfl ?_
  refine J.load1 (k := .l) trivial 2 rfl rfl one22 (by exact wc_at _ 1 (by omega)) rfl ?_
  have hl8 := lim_lt x0 1
  refine J.indexArr arr24 rfl rfl (by omega) (by omega) (by rfl) rfl ?_
  refine J.load1 (k := .l) trivial 2 rfl rfl one22 (by exact wc_at _ 2 (by omega)) rfl ?_
  have hl10 := lim_lt x0 2
  refine J.indexArr arr24 rfl rfl (by omega) (by omega) (by rfl) rfl ?_
  refine J.load1 (k := .l) trivial 2 rfl rfl one22 (by exact wc_at _ 3 (by omega)) rfl ?_
  have hl12 := lim_lt x0 3
  refine J.move rfl rfl ?_
  refine J.build rfl rfl (.agg ([.int .u64 ((lim x0 0 : Nat) : Int), .int .u64 ((lim x0 1 : Nat) : Int), .int .u64 ((lim x0 2 : Nat) : Int), .int .u64 ((lim x0 3 : Nat) : Int), .int .u64 (c : Int), .int .u64 0, .int .u64 0, .int .u64 0] : List Value).toArray) (fun w => by kernel_rfl) ?_
  refine J.as 14 (.agg (lc (x0 % 2 ^ 256 + c * 2 ^ 256)).toArray) rfl (by show _ = Value.agg (rowN .u64 (lg (x0 % 2 ^ 256 + c * 2 ^ 256))).toArray; rw [← lg_wide hc]; rfl) ?_
  refine J.store 4 rfl rfl rfl rfl (lc (x0 % 2 ^ 256 + c * 2 ^ 256)) rfl sz67 (by first | decide | exact Nat.le_refl _ | exact Nat.le_of_ble_eq_true rfl | (simp [rowN]; done) | (simp [rowN]; omega)) (by first | exact rowN_one _ _ | (simp; done) | (intro u hu; simp at hu; subst hu; rfl) | (intro u hu; simp at hu; rcases hu with rfl | rfl <;> rfl)) (by first | decide | exact Nat.zero_lt_succ _ | simp) trivial (lc (x0 % 2 ^ 256 + c * 2 ^ 256)) rfl ?_
  refine J.end ?_
  refine X.then ?_
  refine T.ret ?_
  exact X.ret1 rfl (RV.agg 4 rfl rfl agg67 (lc (x0 % 2 ^ 256 + c * 2 ^ 256)) (by rfl) (by rfl) rfl) (fun w' hw' => ⟨rfl, hw'.sub (Sub.nil _)⟩)

theorem double (w : World) (x0 b : Nat) (hb : b ≤ 1) :
    Calls Tryd.prog 147 [W x0, .int .u64 (b : Int)].toArray w fun e w' => e = .returned (W (2 * x0 + b)) ∧ WS w [] [] w' := by
  refine calls_of_T [] 25 [] Tryd.func147 rfl Tryd.ntmps147 (by simp) (WS.refl _ _) ?_
  refine T.seq ?_
  refine T.text [.l, .l] rfl ?_
  refine J.box 2 rfl rfl (wc x0) rfl rfl (fun g2 hg2 => ?_)
  refine J.alloc 4 rfl zero24 [.int .u64 0, .int .u64 0, .int .u64 0, .int .u64 0] rfl rfl (fun g4 hg4 => ?_)
  refine J.end ?_
  refine X.then ?_
  refine T.seq ?_
  refine T.seq ?_
  refine T.text [.l] rfl ?_
  refine J.move rfl rfl ?_
  refine J.end ?_
  refine X.then ?_
  refine T.block ?_
  refine T.loop (ι := Nat × List Nat) (fun ((i, ys) : Nat × List Nat) => i ≤ 4 ∧ ys.length = 4 ∧ (∀ q, q < i → ys.getD q 0 = lim (2 * x0 + b) q) ∧ ∀ q, i ≤ q → q < 4 → ys.getD q 0 = lim x0 q) (fun ((i, ys) : Nat × List Nat) => [(0, W x0), (2, .pointer (some ⟨g2, 0, none⟩)), (4, .pointer (some ⟨g4, 0, none⟩)), (7, .int .i64 (i : Int)), (1, .int .u64 ((lw x0 b i : Nat) : Int))]) (fun ((i, ys) : Nat × List Nat) => [(4, ⟨some g4, 24, [.int .u64 0, .int .u64 0, .int .u64 0, .int .u64 0]⟩), (2, ⟨some g2, 24, rowN .u64 ys⟩)]) (fun ((i, ys) : Nat × List Nat) => 4 - i) ⟨0, (wl x0)⟩ ⟨Nat.zero_le _, rfl, fun q hq => by omega, fun q _ hq => wl_get x0 q hq⟩ (by repeat (first | exact Sub.nil _ | refine Sub.cons (by first | rfl | (rw [dgs_zero]; rfl) | (rw [List.drop_length]; rfl) | (simp; done) | (congr 2; omega) | (congr 3; omega)) ?_)) (by repeat (first | exact Sub.nil _ | refine Sub.cons (by first | rfl | (rw [dgs_zero]; rfl) | (rw [List.drop_length]; rfl) | (simp; done) | (congr 2; omega) | (congr 3; omega)) ?_)) ?_
  rintro ⟨i, ys⟩ ⟨hi, hl, hy, hz⟩
  try dsimp only at *
  refine T.seq ?_
  refine T.text [.l] rfl ?_
  refine J.lss rfl rfl rfl rfl ?_
  refine J.end ?_
  refine X.then ?_
  refine T.seq ?_
  refine T.cond_dec rfl (fun h1 => ?_) (fun h1 => ?_)
  · have hi4 : i < 4 := by omega
    have hyi := hz i (Nat.le_refl _) hi4
    have hll := lim_lt x0 i
    have hlw := lw_le x0 b i hb
    have hdl := dbl_lim x0 b i hb hi4
    refine T.skip ?_
    refine X.then ?_
    refine T.seq ?_
    refine T.block ?_
    refine T.seq ?_
    refine T.text [.l, .l] rfl ?_
    refine J.move rfl rfl ?_
    refine J.assign rfl rfl ?_
    refine J.end ?_
    refine X.then ?_
    refine T.seq ?_
    refine T.text [.l, .l, .l, .l, .l] rfl ?_
    refine J.move rfl rfl ?_
    refine J.indexArr arr24 rfl rfl (by omega) (by omega) (by first | exact Int.toNat_natCast _ | rfl) rfl ?_
    refine J.load1 (k := .l) trivial 2 rfl rfl one22 (by exact rowN_get0 _ _ _ (by omega)) rfl ?_
    refine J.as 12 (.int .u64 ((lim x0 i : Nat) : Int)) rfl (by rw [hyi]) ?_
    refine J.shr rfl rfl rfl (by decide) (by exact shr63_nat _) ?_
    refine J.as 13 (.int .u64 ((lw x0 b (i + 1) : Nat) : Int)) rfl (by unfold lw; rw [if_neg (by omega)]; rfl) ?_
    refine J.assign rfl rfl ?_
    refine J.end ?_
    refine X.then ?_
    refine T.seq ?_
    refine T.text [.l, .l, .l, .l, .l, .l, .l, .l, .l] rfl ?_
    refine J.move rfl rfl ?_
    refine J.move rfl rfl ?_
    refine J.indexArr arr24 rfl rfl (by omega) (by omega) (by first | exact Int.toNat_natCast _ | rfl) rfl ?_
    refine J.load1 (k := .l) trivial 2 rfl rfl one22 (by exact rowN_get0 _ _ _ (by omega)) rfl ?_
    refine J.as 17 (.int .u64 ((lim x0 i : Nat) : Int)) rfl (by rw [hyi]) ?_
    refine J.shl rfl rfl rfl (by decide) (by exact shl1_nat _) ?_
    refine J.move rfl rfl ?_
    refine J.bor rfl rfl rfl (by exact or_nat _ _ (by omega)) ?_
    refine J.as 20 (.int .u64 ((lim (2 * x0 + b) i : Nat) : Int)) rfl (by rw [hdl]) ?_
    refine J.indexArr arr24 rfl rfl (by omega) (by omega) (by first | exact Int.toNat_natCast _ | rfl) rfl ?_
    refine J.store 2 rfl rfl rfl rfl [.int .u64 ((lim (2 * x0 + b) i : Nat) : Int)] rfl sz22 (by rw [rowN_length, hl]; show _ + 1 ≤ 4; omega) (by first | exact rowN_one _ _ | (simp; done) | (intro u hu; simp at hu; subst hu; rfl) | (intro u hu; simp at hu; rcases hu with rfl | rfl <;> rfl)) (by first | decide | exact Nat.zero_lt_succ _ | simp) trivial (rowN .u64 (ys.set i (lim (2 * x0 + b) i))) (by rw [Nat.zero_add, Nat.mul_one]; exact putN' _ _ _ _ (by omega)) ?_
    refine J.end ?_
    refine X.then ?_
    refine T.text [.l, .l] rfl ?_
    refine J.move rfl rfl ?_
    refine J.assign rfl rfl ?_
    refine J.end ?_
    refine X.inBlock (X.then ?_)
    refine T.text [.l, .l] rfl ?_
    refine J.add rfl rfl rfl (by first | exact add_nat _ 1 (by omega) | exact i64_ok _ (by omega) | exact rfl) ?_
    refine J.move rfl rfl ?_
    refine J.end ?_
    exact X.round ⟨(i + 1), (ys.set i (lim (2 * x0 + b) i))⟩ ⟨by omega, by simp [hl], fun q hq => by
          rw [getD_set _ _ _ _ (by omega)]
          split
          · rename_i h; subst h; rfl
          · exact hy q (by omega), fun q h1 h2 => by rw [getD_set _ _ _ _ (by omega), if_neg (by omega)]; exact hz q (by omega) h2⟩ (by first | omega | (dsimp only; omega)) (by repeat (first | exact Sub.nil _ | refine Sub.cons (by first | rfl | (rw [dgs_zero]; rfl) | (rw [List.drop_length]; rfl) | (simp; done) | (congr 2; omega) | (congr 3; omega)) ?_)) (by repeat (first | exact Sub.nil _ | refine Sub.cons (by first | rfl | (rw [dgs_zero]; rfl) | (rw [List.drop_length]; rfl) | (simp; done) | (congr 2; omega) | (congr 3; omega)) ?_))
  · obtain rfl : i = 4 := by omega
    obtain rfl : ys = wl (2 * x0 + b) := wl_of hl _ hy
    refine T.exit ?_
    refine X.then_exit (X.then_exit (X.inBlock_eq (X.then ?_)))
    refine T.seq ?_
    refine T.text [.l, .l] rfl ?_
    refine J.loadN (k := .l) trivial 2 rfl rfl agg24 (wc (2 * x0 + b)) rfl rfl rfl ?_
    refine J.store 4 rfl rfl rfl rfl (wc (2 * x0 + b)) rfl sz24 (by first | decide | exact Nat.le_refl _ | exact Nat.le_of_ble_eq_true rfl | (simp [rowN]; done) | (simp [rowN]; omega)) (by first | exact rowN_one _ _ | (simp; done) | (intro u hu; simp at hu; subst hu; rfl) | (intro u hu; simp at hu; rcases hu with rfl | rfl <;> rfl)) (by first | decide | exact Nat.zero_lt_succ _ | simp) trivial (wc (2 * x0 + b)) rfl ?_
    refine J.end ?_
    refine X.then ?_
    refine T.ret ?_
    exact X.ret1 rfl (RV.agg 4 rfl rfl agg24 (wc (2 * x0 + b)) (by rfl) (by rfl) rfl) (fun w' hw' => ⟨rfl, hw'.sub (Sub.nil _)⟩)
end Go.Proofs.YtegociefcfcihaaDoor.Wb
set_option linter.unusedVariables false
set_option maxRecDepth 20000
namespace Go.Proofs.YtegociefcfcihaaDoor.Wd
open Go Go.Fw

theorem sz39 : SizeT Tryd.prog 39 32 := (by unfold SizeT; kernel_rfl)
theorem zero8 : ZeroT Tryd.prog 67 (.agg (rowN .u64 (lg 0)).toArray) := (by unfold ZeroT; kernel_rfl)
theorem zero24 : ZeroT Tryd.prog 24 (.agg ([.int .u64 0, .int .u64 0, .int .u64 0, .int .u64 0]).toArray) := (by unfold ZeroT; kernel_rfl)
theorem sz22 : SizeT Tryd.prog 22 1 := (by unfold SizeT; kernel_rfl)
theorem arr67 : ArrT Tryd.prog 67 8 22 1 := ⟨Tryd.underlying67, sz22⟩
theorem one22 : OneT Tryd.prog 22 := ⟨⟨_, Tryd.underlying22, rfl⟩, by kernel_rfl⟩
theorem arr24 : ArrT Tryd.prog 24 4 22 1 := ⟨Tryd.underlying24, sz22⟩
theorem agg24 : AggT Tryd.prog 24 4 := ⟨⟨_, Tryd.underlying24, rfl⟩, by kernel_rfl⟩
theorem fok147 : FnOk Tryd.prog 147 := FnOk.mk' Tryd.func147 (by kernel_rfl) rfl
theorem sz24 : SizeT Tryd.prog 24 4 := (by unfold SizeT; kernel_rfl)
theorem fok25 : FnOk Tryd.prog 25 := FnOk.mk' Tryd.func25 (by kernel_rfl) rfl
theorem fok54 : FnOk Tryd.prog 54 := FnOk.mk' Tryd.func54 (by kernel_rfl) rfl

set_option maxHeartbeats 1000000 in
theorem divide (w : World) (N x1 : Nat) (hN : N < 2 ^ 512) (hD : x1 % 2 ^ 256 ≠ 0) :
    Calls Tryd.prog 116 [.agg (lc (N)).toArray, W x1].toArray w fun e w' => e = .returned (.tuple #[W (N / (x1 % 2 ^ 256)), W (N % (x1 % 2 ^ 256))]) ∧ WS w [] [] w' := by
  refine calls_of_T [] 60 [] Tryd.func116 rfl Tryd.ntmps116 (by simp) (WS.refl _ _) ?_
  refine T.seq ?_
  refine T.text [.l, .l, .l, .l] rfl ?_
  refine J.box 2 rfl rfl (lc N) rfl rfl (fun g2 hg2 => ?_)
  refine J.box 3 rfl rfl (wc x1) rfl rfl (fun g3 hg3 => ?_)
  refine J.alloc 4 rfl zero24 [.int .u64 0, .int .u64 0, .int .u64 0, .int .u64 0] rfl rfl (fun g4 hg4 => ?_)
  refine J.alloc 5 rfl zero24 [.int .u64 0, .int .u64 0, .int .u64 0, .int .u64 0] rfl rfl (fun g5 hg5 => ?_)
  refine J.end ?_
  refine X.then ?_
  refine T.scope ?_
  refine T.seq ?_
  refine T.text [.l] rfl ?_
  refine J.assign rfl rfl ?_
  refine J.end ?_
  refine X.then ?_
  refine T.seq ?_
  refine T.label ?_
  refine X.then ?_
  refine T.meet (ι := Nat) (fun (t : Nat) => t ≤ 7 ∧ N < 18446744073709551616 ^ (t + 1)) (fun (t : Nat) => [(0, .agg (lc (N)).toArray), (1, W x1), (2, .pointer (some ⟨g2, 0, none⟩)), (3, .pointer (some ⟨g3, 0, none⟩)), (4, .pointer (some ⟨g4, 0, none⟩)), (5, .pointer (some ⟨g5, 0, none⟩)), (6, .int .i64 (t : Int))]) (fun (t : Nat) => [(2, ⟨some g2, 67, (lc N)⟩), (3, ⟨some g3, 24, (wc x1)⟩), (4, ⟨some g4, 24, [.int .u64 0, .int .u64 0, .int .u64 0, .int .u64 0]⟩), (5, ⟨some g5, 24, [.int .u64 0, .int .u64 0, .int .u64 0, .int .u64 0]⟩)]) ?_ ?_
  · -- up to where the ways meet
    refine T.block ?_
    refine T.loop (ι := Nat) (fun (t : Nat) => t ≤ 7 ∧ N < 18446744073709551616 ^ (t + 1)) (fun (t : Nat) => [(0, .agg (lc (N)).toArray), (1, W x1), (2, .pointer (some ⟨g2, 0, none⟩)), (3, .pointer (some ⟨g3, 0, none⟩)), (4, .pointer (some ⟨g4, 0, none⟩)), (5, .pointer (some ⟨g5, 0, none⟩)), (6, .int .i64 (t : Int))]) (fun (t : Nat) => [(2, ⟨some g2, 67, (lc N)⟩), (3, ⟨some g3, 24, (wc x1)⟩), (4, ⟨some g4, 24, [.int .u64 0, .int .u64 0, .int .u64 0, .int .u64 0]⟩), (5, ⟨some g5, 24, [.int .u64 0, .int .u64 0, .int .u64 0, .int .u64 0]⟩)]) (fun (t : Nat) => t) 7 ⟨Nat.le_refl _, by omega⟩ (by repeat (first | exact Sub.nil _ | refine Sub.cons (by first | rfl | (rw [dgs_zero]; rfl) | (rw [List.drop_length]; rfl) | (simp; done) | (congr 2; omega) | (congr 3; omega)) ?_)) (by repeat (first | exact Sub.nil _ | refine Sub.cons (by first | rfl | (rw [dgs_zero]; rfl) | (rw [List.drop_length]; rfl) | (simp; done) | (congr 2; omega) | (congr 3; omega)) ?_)) ?_
    rintro t ⟨ht, hNt⟩
    refine T.seq ?_
    refine T.seq ?_
    refine T.text [.l, .l] rfl ?_
    refine J.move rfl rfl ?_
    refine J.gtr rfl rfl rfl rfl ?_
    refine J.end ?_
    refine X.then ?_
    refine T.cond_dec rfl (fun h1 => ?_) (fun h1 => ?_)
    · skip
      refine T.skip ?_
      refine X.then ?_
      refine T.block ?_
      refine T.seq ?_
      refine T.seq ?_
      refine T.text [.l, .l, .l, .l] rfl ?_
      refine J.move rfl rfl ?_
      refine J.indexArr arr67 rfl rfl (by omega) (by omega) (by first | exact Int.toNat_natCast _ | rfl) rfl ?_
      refine J.load1 (k := .l) trivial 2 rfl rfl one22 (by exact lc_at _ _ (by omega)) rfl ?_
      have hl14 := lim_lt N t
      refine J.neq rfl rfl rfl rfl ?_
      refine J.end ?_
      refine X.then ?_
      refine T.cond_dec rfl (fun h2 => ?_) (fun h2 => ?_)
      · skip
        refine T.exit ?_
        refine X.then_exit (X.inBlock_ne rfl (X.then_exit (X.inBlock_eq ?_)))
        exact X.at t ⟨ht, hNt⟩ (by repeat (first | exact Sub.nil _ | refine Sub.cons (by first | rfl | (rw [dgs_zero]; rfl) | (rw [List.drop_length]; rfl) | (simp; done) | (congr 2; omega) | (congr 3; omega)) ?_)) (by repeat (first | exact Sub.nil _ | refine Sub.cons (by first | rfl | (rw [dgs_zero]; rfl) | (rw [List.drop_length]; rfl) | (simp; done) | (congr 2; omega) | (congr 3; omega)) ?_))
      · skip
        refine T.skip ?_
        refine X.then ?_
        refine T.text [.l, .l, .l] rfl ?_
        refine J.move rfl rfl ?_
        refine J.sub' rfl rfl rfl (by first | exact sub_nat _ 1 (by omega) | exact i64_ok _ (by omega) | exact rfl) ?_
        refine J.assign rfl rfl ?_
        refine J.end ?_
        refine X.inBlock ?_
        refine X.as 6 (.int .i64 ((t - 1 : Nat) : Int)) rfl (by first | rfl | (congr 1; omega)) ?_
        exact X.round (t - 1) ⟨by omega, by rw [show t - 1 + 1 = t by omega]; exact lim_small_top hNt (by omega)⟩ (by first | omega | (dsimp only; omega)) (by repeat (first | exact Sub.nil _ | refine Sub.cons (by first | rfl | (rw [dgs_zero]; rfl) | (rw [List.drop_length]; rfl) | (simp; done) | (congr 2; omega) | (congr 3; omega)) ?_)) (by repeat (first | exact Sub.nil _ | refine Sub.cons (by first | rfl | (rw [dgs_zero]; rfl) | (rw [List.drop_length]; rfl) | (simp; done) | (congr 2; omega) | (congr 3; omega)) ?_))
    · skip
      refine T.exit ?_
      refine X.then_exit (X.then_exit (X.inBlock_eq ?_))
      exact X.at t ⟨ht, hNt⟩ (by repeat (first | exact Sub.nil _ | refine Sub.cons (by first | rfl | (rw [dgs_zero]; rfl) | (rw [List.drop_length]; rfl) | (simp; done) | (congr 2; omega) | (congr 3; omega)) ?_)) (by repeat (first | exact Sub.nil _ | refine Sub.cons (by first | rfl | (rw [dgs_zero]; rfl) | (rw [List.drop_length]; rfl) | (simp; done) | (congr 2; omega) | (congr 3; omega)) ?_))
  · rintro t ⟨ht, hNt⟩
    refine T.seq ?_
    refine T.label ?_
    refine X.then ?_
    refine T.seq ?_
    refine T.seq ?_
    refine T.text [.l, .l] rfl ?_
    refine J.move rfl rfl ?_
    refine J.assign rfl rfl ?_
    refine J.end ?_
    refine X.then ?_
    refine T.block ?_
    have hNp : N < 2 ^ (64 * (t + 1)) := by rw [pow64]; exact hNt
    refine T.loop (ι := Nat × Nat × Nat) (fun ((i, R, Q) : Nat × Nat × Nat) => i ≤ 7 ∧ R % 2 ^ 256 = N / 2 ^ (64 * (i + 1)) % (x1 % 2 ^ 256) ∧ Q % 2 ^ 256 = hb (N / (x1 % 2 ^ 256)) (64 * (i + 1)) % 2 ^ 256) (fun ((i, R, Q) : Nat × Nat × Nat) => [(0, .agg (lc (N)).toArray), (1, W x1), (2, .pointer (some ⟨g2, 0, none⟩)), (3, .pointer (some ⟨g3, 0, none⟩)), (4, .pointer (some ⟨g4, 0, none⟩)), (5, .pointer (some ⟨g5, 0, none⟩)), (6, .int .i64 (t : Int)), (7, .int .i64 (i : Int))]) (fun ((i, R, Q) : Nat × Nat × Nat) => [(2, ⟨some g2, 67, (lc N)⟩), (3, ⟨some g3, 24, (wc x1)⟩), (4, ⟨some g4, 24, wc Q⟩), (5, ⟨some g5, 24, wc R⟩)]) (fun ((i, R, Q) : Nat × Nat × Nat) => i) ⟨t, 0, 0⟩ ⟨ht, by rw [Nat.div_eq_of_lt hNp, Nat.zero_mod, Nat.zero_mod], by rw [hb_big (Nat.lt_of_le_of_lt (Nat.div_le_self _ _) hNp)]⟩ (by repeat (first | exact Sub.nil _ | refine Sub.cons (by first | rfl | (rw [dgs_zero]; rfl) | (rw [List.drop_length]; rfl) | (simp; done) | (congr 2; omega) | (congr 3; omega)) ?_)) (by repeat (first | exact Sub.nil _ | refine Sub.cons (by first | rfl | (rw [dgs_zero]; rfl) | (rw [List.drop_length]; rfl) | (simp; done) | (congr 2; omega) | (congr 3; omega)) ?_)) ?_
    rintro ⟨i, R, Q⟩ ⟨hi, hR, hQ⟩
    try dsimp only at *
    refine T.seq ?_
    refine T.block ?_
    refine T.seq ?_
    refine T.seq ?_
    refine T.text [.l] rfl ?_
    refine J.assign rfl rfl ?_
    refine J.end ?_
    refine X.then ?_
    refine T.block ?_
    refine T.loop (ι := Nat × Nat × Nat) (fun ((u, R, Q) : Nat × Nat × Nat) => u ≤ 64 ∧ R % 2 ^ 256 = N / 2 ^ (64 * i + u) % (x1 % 2 ^ 256) ∧ Q % 2 ^ 256 = hb (N / (x1 % 2 ^ 256)) (64 * i + u) % 2 ^ 256) (fun ((u, R, Q) : Nat × Nat × Nat) => [(0, .agg (lc (N)).toArray), (1, W x1), (2, .pointer (some ⟨g2, 0, none⟩)), (3, .pointer (some ⟨g3, 0, none⟩)), (4, .pointer (some ⟨g4, 0, none⟩)), (5, .pointer (some ⟨g5, 0, none⟩)), (6, .int .i64 (t : Int)), (7, .int .i64 (i : Int)), (8, .int .i64 ((u : Int) - 1))]) (fun ((u, R, Q) : Nat × Nat × Nat) => [(2, ⟨some g2, 67, (lc N)⟩), (3, ⟨some g3, 24, (wc x1)⟩), (4, ⟨some g4, 24, wc Q⟩), (5, ⟨some g5, 24, wc R⟩)]) (fun ((u, R, Q) : Nat × Nat × Nat) => u) ⟨64, R, Q⟩ ⟨Nat.le_refl _, by rw [show 64 * i + 64 = 64 * (i + 1) by omega]; exact hR, by rw [show 64 * i + 64 = 64 * (i + 1) by omega]; exact hQ⟩ (by repeat (first | exact Sub.nil _ | refine Sub.cons (by first | rfl | (rw [dgs_zero]; rfl) | (rw [List.drop_length]; rfl) | (simp; done) | (congr 2; omega) | (congr 3; omega)) ?_)) (by repeat (first | exact Sub.nil _ | refine Sub.cons (by first | rfl | (rw [dgs_zero]; rfl) | (rw [List.drop_length]; rfl) | (simp; done) | (congr 2; omega) | (congr 3; omega)) ?_)) ?_
    rintro ⟨u, R, Q⟩ ⟨hu, hR, hQ⟩
    try dsimp only at *
    refine T.seq ?_
    refine T.seq ?_
    refine T.text [.l, .l] rfl ?_
    refine J.move rfl rfl ?_
    refine J.geq rfl rfl rfl rfl ?_
    refine J.end ?_
    refine X.then ?_
    refine T.cond_dec rfl (fun h3 => ?_) (fun h3 => ?_)
    · obtain ⟨k, rfl⟩ : ∃ k, u = k + 1 := ⟨u - 1, by omega⟩
      refine T.as 8 (.int .i64 (k : Int)) rfl (by first | rfl | (congr 1; omega)) ?_
      have hds := div_step N (x1 % 2 ^ 256) (64 * i + k) (by omega)
      rw [show 64 * i + k + 1 = 64 * i + (k + 1) by omega, ← hR] at hds
      have hRl := Nat.mod_lt (N / 2 ^ (64 * i + (k + 1))) (show 0 < (x1 % 2 ^ 256) by omega)
      rw [← hR] at hRl
      have hlb := lim_bit N i k (by omega)
      have hbl := bit_lt N (64 * i + k)
      have hov := lim3_top R
      refine T.skip ?_
      refine X.then ?_
      refine T.seq ?_
      refine T.block ?_
      refine T.seq ?_
      refine T.text [.l, .l, .l, .l, .l] rfl ?_
      refine J.indexArr arr24 rfl rfl (by omega) (by omega) (by rfl) rfl ?_
      refine J.load1 (k := .l) trivial 5 rfl rfl one22 (by exact wc_at _ 3 (by omega)) rfl ?_
      have hl26 := lim_lt R 3
      refine J.shr rfl rfl rfl (by decide) (by exact shr63_nat _) ?_
      refine J.eql rfl rfl rfl rfl ?_
      refine J.assign rfl rfl ?_
      refine J.end ?_
      refine X.then ?_
      refine T.seq ?_
      refine T.draw [] [(0, .q), (1, .g), (2, .g), (3, .q), (4, .g), (5, .g), (6, .g), (7, .q), (8, .l)] (by kernel_rfl) (by kernel_rfl) ?_ (by repeat (first | exact Sub.nil _ | refine Sub.cons (by first | rfl | (rw [dgs_zero]; rfl) | (rw [List.drop_length]; rfl) | (simp; done) | (congr 2; omega) | (congr 3; omega)) ?_))
      refine J.loadN (k := .q) trivial 5 rfl rfl agg24 (wc R) rfl rfl rfl ?_
      refine J.move rfl rfl ?_
      refine J.indexArr arr67 rfl rfl (by omega) (by omega) (by first | exact Int.toNat_natCast _ | rfl) rfl ?_
      refine J.load1 (k := .q) trivial 2 rfl rfl one22 (by exact lc_at _ _ (by omega)) rfl ?_
      have hl32 := lim_lt N i
      refine J.move rfl rfl ?_
      refine J.shr rfl rfl rfl (by omega) (by exact shr_nat _ k (by omega)) ?_
      refine J.band rfl rfl rfl (by exact u64_and1 _ (Nat.lt_of_le_of_lt (Nat.div_le_self _ _) hl32)) ?_
      refine J.as 35 (.int .u64 ((N / 2 ^ (64 * i + k) % 2 : Nat) : Int)) rfl (by rw [hlb]) ?_
      refine J.call0 (k := .q) trivial fok147 rfl rfl (fun w hw => Wb.double w _ _ (by omega)) ?_
      refine J.store 5 rfl rfl rfl rfl (wc (2 * R + (N / 2 ^ (64 * i + k) % 2))) rfl sz24 (by first | decide | exact Nat.le_refl _ | exact Nat.le_of_ble_eq_true rfl | (simp [rowN]; done) | (simp [rowN]; omega)) (by first | exact rowN_one _ _ | (simp; done) | (intro u hu; simp at hu; subst hu; rfl) | (intro u hu; simp at hu; rcases hu with rfl | rfl <;> rfl)) (by first | decide | exact Nat.zero_lt_succ _ | simp) trivial (wc (2 * R + (N / 2 ^ (64 * i + k) % 2))) rfl ?_
      refine J.end ?_
      refine X.then ?_
      refine T.seq ?_
      refine T.text [.l, .l, .l, .l, .l, .l, .l] rfl ?_
      refine J.move rfl rfl ?_
      refine J.move rfl rfl ?_
      refine J.split 38 rfl (fun h4 => ?_) (fun h4 => ?_)
      · skip
        refine J.no rfl rfl rfl rfl ?_
        refine J.no rfl rfl rfl rfl ?_
        refine J.no rfl rfl rfl rfl ?_
        refine J.no rfl rfl rfl rfl ?_
        refine J.pick_t rfl rfl rfl ?_
        refine J.end ?_
        refine X.then ?_
        refine T.cond_true rfl ?_
        refine T.seq ?_
        refine T.text [.l, .l, .l, .l] rfl ?_
        refine J.loadN (k := .l) trivial 5 rfl rfl agg24 (wc (2 * R + (N / 2 ^ (64 * i + k) % 2))) rfl rfl rfl ?_
        refine J.loadN (k := .l) trivial 3 rfl rfl agg24 (wc x1) rfl rfl rfl ?_
        refine J.call0 (k := .l) trivial fok25 rfl rfl (fun w hw => Wb.Sub w _ _) ?_
        refine J.store 5 rfl rfl rfl rfl (wc (dif ((2 * R + (N / 2 ^ (64 * i + k) % 2))) x1)) rfl sz24 (by first | decide | exact Nat.le_refl _ | exact Nat.le_of_ble_eq_true rfl | (simp [rowN]; done) | (simp [rowN]; omega)) (by first | exact rowN_one _ _ | (simp; done) | (intro u hu; simp at hu; subst hu; rfl) | (intro u hu; simp at hu; rcases hu with rfl | rfl <;> rfl)) (by first | decide | exact Nat.zero_lt_succ _ | simp) trivial (wc (dif ((2 * R + (N / 2 ^ (64 * i + k) % 2))) x1)) rfl ?_
        refine J.end ?_
        refine X.then ?_
        refine T.seq ?_
        refine T.text [.l, .l] rfl ?_
        refine J.move rfl rfl ?_
        refine J.lss rfl rfl rfl rfl ?_
        refine J.end ?_
        refine X.then ?_
        refine T.cond_dec rfl (fun h5 => ?_) (fun h5 => ?_)
        · skip
          refine T.draw [] [(0, .g), (1, .g), (2, .q), (3, .g), (4, .g), (5, .g), (6, .g), (7, .l)] (by kernel_rfl) (by kernel_rfl) ?_ (by repeat (first | exact Sub.nil _ | refine Sub.cons (by first | rfl | (rw [dgs_zero]; rfl) | (rw [List.drop_length]; rfl) | (simp; done) | (congr 2; omega) | (congr 3; omega)) ?_))
          refine J.move rfl rfl ?_
          refine J.indexArr arr24 rfl rfl (by omega) (by omega) (by first | exact Int.toNat_natCast _ | rfl) rfl ?_
          refine J.load1 (k := .q) trivial 4 rfl rfl one22 (by exact wc_at _ _ (by omega)) rfl ?_
          have hl51 := lim_lt Q i
          refine J.move rfl rfl ?_
          refine J.shl rfl rfl rfl (by omega) (by exact shl_one k (by omega)) ?_
          have hpk : 2 ^ k < 18446744073709551616 := Nat.lt_of_lt_of_le (Nat.pow_lt_pow_right (by omega) (show k < 64 by omega)) (by decide)
          refine J.bor rfl rfl rfl (by exact or_nat _ _ ⟨hl51, hpk⟩) ?_
          refine J.indexArr arr24 rfl rfl (by omega) (by omega) (by first | exact Int.toNat_natCast _ | rfl) rfl ?_
          refine J.store 4 rfl rfl rfl rfl [.int .u64 ((lim Q i ||| 2 ^ k : Nat) : Int)] rfl sz22 (by rw [rowN_length, wl_length]; show _ + 1 ≤ 4; omega) (by first | exact rowN_one _ _ | (simp; done) | (intro u hu; simp at hu; subst hu; rfl) | (intro u hu; simp at hu; rcases hu with rfl | rfl <;> rfl)) (by first | decide | exact Nat.zero_lt_succ _ | simp) trivial (wc (hb (N / (x1 % 2 ^ 256)) (64 * i + k))) (by rw [Nat.zero_add, Nat.mul_one]; exact (putN' _ _ _ _ (by rw [wl_length]; omega)).trans (congrArg (rowN .u64) (hb_set (by omega) (by omega) hQ (by rw [hds.2]; rw [if_neg (by omega)])))) ?_
          refine J.end ?_
          refine X.inBlock (X.then ?_)
          refine T.text [.l, .l, .l] rfl ?_
          refine J.move rfl rfl ?_
          refine J.sub' rfl rfl rfl (by first | exact sub_nat _ 1 (by omega) | exact i64_ok _ (by omega) | exact rfl) ?_
          refine J.assign rfl rfl ?_
          refine J.end ?_
          exact X.round ⟨k, (dif ((2 * R + (N / 2 ^ (64 * i + k) % 2))) x1), (hb (N / (x1 % 2 ^ 256)) (64 * i + k))⟩ ⟨by omega, by rw [hds.1]; (try unfold dif); split <;> omega, rfl⟩ (by first | omega | (dsimp only; omega)) (by repeat (first | exact Sub.nil _ | refine Sub.cons (by first | rfl | (rw [dgs_zero]; rfl) | (rw [List.drop_length]; rfl) | (simp; done) | (congr 2; omega) | (congr 3; omega)) ?_)) (by repeat (first | exact Sub.nil _ | refine Sub.cons (by first | rfl | (rw [dgs_zero]; rfl) | (rw [List.drop_length]; rfl) | (simp; done) | (congr 2; omega) | (congr 3; omega)) ?_))
        · skip
          refine T.skip ?_
          refine X.inBlock (X.then ?_)
          refine T.text [.l, .l, .l] rfl ?_
          refine J.move rfl rfl ?_
          refine J.sub' rfl rfl rfl (by first | exact sub_nat _ 1 (by omega) | exact i64_ok _ (by omega) | exact rfl) ?_
          refine J.assign rfl rfl ?_
          refine J.end ?_
          exact X.round ⟨k, (dif ((2 * R + (N / 2 ^ (64 * i + k) % 2))) x1), Q⟩ ⟨by omega, by rw [hds.1]; (try unfold dif); split <;> omega, by first | (rw [hQ, ← Nat.add_assoc, ← hb_lim0 (by rw [hds.2]; rw [if_pos (by omega)])]) | (rw [hQ, hb_high (by omega), hb_high (by omega)])⟩ (by first | omega | (dsimp only; omega)) (by repeat (first | exact Sub.nil _ | refine Sub.cons (by first | rfl | (rw [dgs_zero]; rfl) | (rw [List.drop_length]; rfl) | (simp; done) | (congr 2; omega) | (congr 3; omega)) ?_)) (by repeat (first | exact Sub.nil _ | refine Sub.cons (by first | rfl | (rw [dgs_zero]; rfl) | (rw [List.drop_length]; rfl) | (simp; done) | (congr 2; omega) | (congr 3; omega)) ?_))
      · skip
        refine J.yes rfl rfl ?_
        refine J.loadN (k := .l) trivial 5 rfl rfl agg24 (wc (2 * R + (N / 2 ^ (64 * i + k) % 2))) rfl rfl rfl ?_
        refine J.yes rfl rfl ?_
        refine J.loadN (k := .l) trivial 3 rfl rfl agg24 (wc x1) rfl rfl rfl ?_
        refine J.yes rfl rfl ?_
        refine J.call0 (k := .l) trivial fok54 rfl rfl (fun w hw => Wa.Lt w _ _) ?_
        refine J.yes rfl rfl ?_
        refine J.not rfl rfl (by rw [← decide_not]) ?_
        refine J.pick_f rfl rfl rfl ?_
        refine J.end ?_
        refine X.then ?_
        refine T.cond_dec rfl (fun h6 => ?_) (fun h6 => ?_)
        · skip
          refine T.seq ?_
          refine T.text [.l, .l, .l, .l] rfl ?_
          refine J.loadN (k := .l) trivial 5 rfl rfl agg24 (wc (2 * R + (N / 2 ^ (64 * i + k) % 2))) rfl rfl rfl ?_
          refine J.loadN (k := .l) trivial 3 rfl rfl agg24 (wc x1) rfl rfl rfl ?_
          refine J.call0 (k := .l) trivial fok25 rfl rfl (fun w hw => Wb.Sub w _ _) ?_
          refine J.store 5 rfl rfl rfl rfl (wc (dif ((2 * R + (N / 2 ^ (64 * i + k) % 2))) x1)) rfl sz24 (by first | decide | exact Nat.le_refl _ | exact Nat.le_of_ble_eq_true rfl | (simp [rowN]; done) | (simp [rowN]; omega)) (by first | exact rowN_one _ _ | (simp; done) | (intro u hu; simp at hu; subst hu; rfl) | (intro u hu; simp at hu; rcases hu with rfl | rfl <;> rfl)) (by first | decide | exact Nat.zero_lt_succ _ | simp) trivial (wc (dif ((2 * R + (N / 2 ^ (64 * i + k) % 2))) x1)) rfl ?_
          refine J.end ?_
          refine X.then ?_
          refine T.seq ?_
          refine T.text [.l, .l] rfl ?_
          refine J.move rfl rfl ?_
          refine J.lss rfl rfl rfl rfl ?_
          refine J.end ?_
          refine X.then ?_
          refine T.cond_dec rfl (fun h7 => ?_) (fun h7 => ?_)
          · skip
            refine T.draw [] [(0, .g), (1, .g), (2, .q), (3, .g), (4, .g), (5, .g), (6, .g), (7, .l)] (by kernel_rfl) (by kernel_rfl) ?_ (by repeat (first | exact Sub.nil _ | refine Sub.cons (by first | rfl | (rw [dgs_zero]; rfl) | (rw [List.drop_length]; rfl) | (simp; done) | (congr 2; omega) | (congr 3; omega)) ?_))
            refine J.move rfl rfl ?_
            refine J.indexArr arr24 rfl rfl (by omega) (by omega) (by first | exact Int.toNat_natCast _ | rfl) rfl ?_
            refine J.load1 (k := .q) trivial 4 rfl rfl one22 (by exact wc_at _ _ (by omega)) rfl ?_
            have hl51 := lim_lt Q i
            refine J.move rfl rfl ?_
            refine J.shl rfl rfl rfl (by omega) (by exact shl_one k (by omega)) ?_
            have hpk : 2 ^ k < 18446744073709551616 := Nat.lt_of_lt_of_le (Nat.pow_lt_pow_right (by omega) (show k < 64 by omega)) (by decide)
            refine J.bor rfl rfl rfl (by exact or_nat _ _ ⟨hl51, hpk⟩) ?_
            refine J.indexArr arr24 rfl rfl (by omega) (by omega) (by first | exact Int.toNat_natCast _ | rfl) rfl ?_
            refine J.store 4 rfl rfl rfl rfl [.int .u64 ((lim Q i ||| 2 ^ k : Nat) : Int)] rfl sz22 (by rw [rowN_length, wl_length]; show _ + 1 ≤ 4; omega) (by first | exact rowN_one _ _ | (simp; done) | (intro u hu; simp at hu; subst hu; rfl) | (intro u hu; simp at hu; rcases hu with rfl | rfl <;> rfl)) (by first | decide | exact Nat.zero_lt_succ _ | simp) trivial (wc (hb (N / (x1 % 2 ^ 256)) (64 * i + k))) (by rw [Nat.zero_add, Nat.mul_one]; exact (putN' _ _ _ _ (by rw [wl_length]; omega)).trans (congrArg (rowN .u64) (hb_set (by omega) (by omega) hQ (by rw [hds.2]; rw [if_neg (by omega)])))) ?_
            refine J.end ?_
            refine X.inBlock (X.then ?_)
            refine T.text [.l, .l, .l] rfl ?_
            refine J.move rfl rfl ?_
            refine J.sub' rfl rfl rfl (by first | exact sub_nat _ 1 (by omega) | exact i64_ok _ (by omega) | exact rfl) ?_
            refine J.assign rfl rfl ?_
            refine J.end ?_
            exact X.round ⟨k, (dif ((2 * R + (N / 2 ^ (64 * i + k) % 2))) x1), (hb (N / (x1 % 2 ^ 256)) (64 * i + k))⟩ ⟨by omega, by rw [hds.1]; (try unfold dif); split <;> omega, rfl⟩ (by first | omega | (dsimp only; omega)) (by repeat (first | exact Sub.nil _ | refine Sub.cons (by first | rfl | (rw [dgs_zero]; rfl) | (rw [List.drop_length]; rfl) | (simp; done) | (congr 2; omega) | (congr 3; omega)) ?_)) (by repeat (first | exact Sub.nil _ | refine Sub.cons (by first | rfl | (rw [dgs_zero]; rfl) | (rw [List.drop_length]; rfl) | (simp; done) | (congr 2; omega) | (congr 3; omega)) ?_))
          · skip
            refine T.skip ?_
            refine X.inBlock (X.then ?_)
            refine T.text [.l, .l, .l] rfl ?_
            refine J.move rfl rfl ?_
            refine J.sub' rfl rfl rfl (by first | exact sub_nat _ 1 (by omega) | exact i64_ok _ (by omega) | exact rfl) ?_
            refine J.assign rfl rfl ?_
            refine J.end ?_
            exact X.round ⟨k, (dif ((2 * R + (N / 2 ^ (64 * i + k) % 2))) x1), Q⟩ ⟨by omega, by rw [hds.1]; (try unfold dif); split <;> omega, by first | (rw [hQ, ← Nat.add_assoc, ← hb_lim0 (by rw [hds.2]; rw [if_pos (by omega)])]) | (rw [hQ, hb_high (by omega), hb_high (by omega)])⟩ (by first | omega | (dsimp only; omega)) (by repeat (first | exact Sub.nil _ | refine Sub.cons (by first | rfl | (rw [dgs_zero]; rfl) | (rw [List.drop_length]; rfl) | (simp; done) | (congr 2; omega) | (congr 3; omega)) ?_)) (by repeat (first | exact Sub.nil _ | refine Sub.cons (by first | rfl | (rw [dgs_zero]; rfl) | (rw [List.drop_length]; rfl) | (simp; done) | (congr 2; omega) | (congr 3; omega)) ?_))
        · skip
          refine T.skip ?_
          refine X.inBlock (X.then ?_)
          refine T.text [.l, .l, .l] rfl ?_
          refine J.move rfl rfl ?_
          refine J.sub' rfl rfl rfl (by first | exact sub_nat _ 1 (by omega) | exact i64_ok _ (by omega) | exact rfl) ?_
          refine J.assign rfl rfl ?_
          refine J.end ?_
          exact X.round ⟨k, (2 * R + (N / 2 ^ (64 * i + k) % 2)), Q⟩ ⟨by omega, by rw [hds.1]; (try unfold dif); split <;> omega, by first | (rw [hQ, ← Nat.add_assoc, ← hb_lim0 (by rw [hds.2]; rw [if_pos (by omega)])]) | (rw [hQ, hb_high (by omega), hb_high (by omega)])⟩ (by first | omega | (dsimp only; omega)) (by repeat (first | exact Sub.nil _ | refine Sub.cons (by first | rfl | (rw [dgs_zero]; rfl) | (rw [List.drop_length]; rfl) | (simp; done) | (congr 2; omega) | (congr 3; omega)) ?_)) (by repeat (first | exact Sub.nil _ | refine Sub.cons (by first | rfl | (rw [dgs_zero]; rfl) | (rw [List.drop_length]; rfl) | (simp; done) | (congr 2; omega) | (congr 3; omega)) ?_))
    · obtain rfl : u = 0 := by omega
      rw [Nat.add_zero] at hR hQ
      refine T.exit ?_
      refine X.then_exit (X.then_exit (X.inBlock_eq (X.then ?_)))
      refine T.seq ?_
      refine T.text [.l, .l] rfl ?_
      refine J.move rfl rfl ?_
      refine J.eql rfl rfl rfl rfl ?_
      refine J.end ?_
      refine X.then ?_
      refine T.cond_dec rfl (fun h8 => ?_) (fun h8 => ?_)
      · obtain rfl : i = 0 := by omega
        refine T.exit ?_
        refine X.inBlock_ne rfl (X.then_exit (X.then_exit (X.inBlock_eq (X.then ?_))))
        refine T.seq ?_
        refine T.draw [(5, ⟨some g5, 24, wc R⟩)] [(0, .q), (1, .s), (2, .l), (3, .l)] (by kernel_rfl) (by kernel_rfl) ?_ (by repeat (first | exact Sub.nil _ | refine Sub.cons (by first | rfl | (rw [dgs_zero]; rfl) | (rw [List.drop_length]; rfl) | (simp; done) | (congr 2; omega) | (congr 3; omega)) ?_))
        refine J.loadN (k := .q) trivial 4 rfl rfl agg24 (wc Q) rfl rfl rfl ?_
        refine J.loadNs 5 rfl rfl agg24 (wc R) rfl rfl rfl ?_
        refine J.storeSame 4 rfl rfl rfl (wc Q) rfl sz24 (Nat.le_of_ble_eq_true rfl) (rowN_one _ _) (by show 0 < 4; omega) trivial (put_all _ _ rfl) ?_
        refine J.storeSame 5 rfl rfl rfl (wc R) rfl sz24 (Nat.le_of_ble_eq_true rfl) (rowN_one _ _) (by show 0 < 4; omega) trivial (put_all _ _ rfl) ?_
        refine J.end ?_
        refine X.then ?_
        refine T.ret ?_
        refine X.scope_ret ?_
        exact X.ret2 rfl (RV.agg 4 rfl rfl agg24 (wc Q) (by rfl) (by rfl) rfl) (RV.agg 5 rfl rfl agg24 (wc R) (by rfl) (by rfl) rfl) (fun w' hw' => ⟨by rw [Nat.mul_zero] at hR hQ; rw [Nat.pow_zero, Nat.div_one] at hR; rw [hb_zero] at hQ; exact congrArg Ending.returned (congrArg Value.tuple (by rw [W_congr (x := N / (x1 % 2 ^ 256)) (y := Q) hQ.symm, W_congr (x := N % (x1 % 2 ^ 256)) (y := R) (by rw [hR]; exact Nat.mod_eq_of_lt (by have := Nat.mod_lt N (show 0 < (x1 % 2 ^ 256) by omega); omega))])), hw'.sub (Sub.nil _)⟩)
      · obtain ⟨i2, rfl⟩ : ∃ i2, i = i2 + 1 := ⟨i - 1, by omega⟩
        refine T.as 7 (.int .i64 ((i2 + 1 : Nat) : Int)) rfl (by first | rfl | (congr 1; omega)) ?_
        refine T.skip ?_
        refine X.inBlock (X.then ?_)
        refine T.text [.l, .l, .l] rfl ?_
        refine J.move rfl rfl ?_
        refine J.sub' rfl rfl rfl (by first | exact sub_nat _ 1 (by omega) | exact i64_ok _ (by omega) | exact rfl) ?_
        refine J.assign rfl rfl ?_
        refine J.end ?_
        exact X.round ⟨i2, R, Q⟩ ⟨by omega, hR, hQ⟩ (by first | omega | (dsimp only; omega)) (by repeat (first | exact Sub.nil _ | refine Sub.cons (by first | rfl | (rw [dgs_zero]; rfl) | (rw [List.drop_length]; rfl) | (simp; done) | (congr 2; omega) | (congr 3; omega)) ?_)) (by repeat (first | exact Sub.nil _ | refine Sub.cons (by first | rfl | (rw [dgs_zero]; rfl) | (rw [List.drop_length]; rfl) | (simp; done) | (congr 2; omega) | (congr 3; omega)) ?_))
end Go.Proofs.YtegociefcfcihaaDoor.Wd
