/-
  Do of every code, as one.
  No condition: plain lemmas.
-/
import Derived.Test.YtegociefcfcihaaGreatDoorPz
import Derived.Test.YtegociefcfcihaaGreatDoorOa
import Derived.Test.YtegociefcfcihaaGreatDoorFj
namespace Go.Fw
open Go
def doO (n : Int) : Option (Nat → Nat → Nat → Nat) := if n < 0 then none else (doS[n.toNat]?).getD none
def doW (n : Int) (x y z : Nat) : Nat := match doO n with | some S => S x y z | none => 0
theorem doO_at (k : Nat) : doO (k : Int) = (doS[k]?).getD none := by unfold doO; rw [if_neg (by omega), Int.toNat_natCast]
theorem doW_at (k x y z : Nat) : doW (k : Int) x y z = match (doS[k]?).getD none with | some S => S x y z | none => 0 := by unfold doW; rw [doO_at]
theorem doO_none {n : Int} (h : n < 1 ∨ (11 < n ∧ n < 16) ∨ 30 < n) : doO n = none := by
  by_cases h0 : n < 0
  · unfold doO; rw [if_pos h0]
  · obtain ⟨k, rfl⟩ : ∃ k : Nat, n = (k : Int) := ⟨n.toNat, by omega⟩
    rw [doO_at]
    by_cases h1 : k < 31
    · have : k = 0 ∨ k = 12 ∨ k = 13 ∨ k = 14 ∨ k = 15 := by omega
      rcases this with rfl | rfl | rfl | rfl | rfl <;> rfl
    · rw [List.getElem?_eq_none (by show 31 ≤ k; omega)]; rfl
theorem doW_none {n : Int} {x y z : Nat} (h : n < 1 ∨ (11 < n ∧ n < 16) ∨ 30 < n) : doW n x y z = 0 := by unfold doW; rw [doO_none h]
end Go.Fw

set_option linter.unusedVariables false
namespace Go.Fw
open Go Go.ChangeShapes Go.WideShapes Go.ChangeAt Go.RowKit
/-- A reckoning. -/
structure PlD where
  k : Int
  x : Nat
  y : Nat
  z : Nat
def PlD.zero : PlD := ⟨0, 0, 0, 0⟩
def PlD.cs (o : PlD) : List Value := [.int .i64 o.k] ++ (wc o.x ++ (wc o.y ++ wc o.z))
structure PlD.Ok (W : World) (o : PlD) : Prop where
  k : -9223372036854775808 ≤ o.k ∧ o.k ≤ 9223372036854775807
theorem plc_length (o : PlD) : o.cs.length = 13 := rfl
theorem plc_one (o : PlD) : ∀ u ∈ o.cs, u.oneCell' = true := by
  intro u hu
  simp only [PlD.cs, wc, rowN, wl, List.mem_append, List.mem_singleton, List.mem_map] at hu
  rcases hu with rfl | ⟨a, _, rfl⟩ | ⟨a, _, rfl⟩ | ⟨a, _, rfl⟩ <;> rfl
def rowP (os : List PlD) : List Value := os.flatMap PlD.cs
theorem rowP_length (os : List PlD) : (rowP os).length = os.length * 13 := by
  induction os with
  | nil => rfl
  | cons x xs ih =>
    show (x.cs ++ rowP xs).length = _
    rw [List.length_append, ih, plc_length, List.length_cons]; omega
theorem rowP_drop (os : List PlD) (i : Nat) : (rowP os).drop (i * 13) = rowP (os.drop i) := by
  induction os generalizing i with
  | nil => simp [rowP]
  | cons x xs ih =>
    cases i with
    | zero => simp [rowP]
    | succ i =>
      have e : (i + 1) * 13 = x.cs.length + i * 13 := by rw [plc_length]; omega
      rw [e]
      simp only [rowP, List.flatMap_cons, List.drop_succ_cons] at ih ⊢
      rw [List.drop_length_add_append, ih]
theorem rowP_seg (os : List PlD) (i : Nat) (h : i < os.length) : ((rowP os).drop (i * 13)).take 13 = (os.getD i PlD.zero).cs := by
  rw [rowP_drop, List.drop_eq_getElem_cons h]
  simp only [rowP, List.flatMap_cons]
  rw [List.take_append_of_le_length (by rw [plc_length]; omega), List.take_of_length_le (by rw [plc_length]; omega)]
  simp [List.getD, h]
section
variable {P : Program} {W : World} {H : Type} {enc : TypeId × Value → H} {base : Nat} {sp : Nat → Bool} {held : Bool}
/-- The table's rows for a reckoning. -/
structure PlT (P : Program) (t ti tw tx : TypeId) : Prop where
  str : (match P.underlying t with | some (.struct fs) => fs.toList.map (fun f => (f.type, f.offset)) | _ => []) = [(ti, 0), (tw, 1), (tw, 5), (tw, 9)]
  size : P.cellsOf t = 13
  int : P.underlying ti = some (.int .i64)
  int1 : P.cellsOf ti = 1
  word : WordT P tw tx
theorem trod_play {t ti tw tx : TypeId} (T : PlT P t ti tw tx) {fuel : Nat} {cs : List Value} {x : DataW H × List MemPlace} (h : DataW.trod enc P W base sp held fuel t cs = some x) : ∃ o : PlD, o.Ok W ∧ cs = o.cs := by
  cases hu : P.underlying t with
  | none => have := T.str; rw [hu] at this; simp at this
  | some dd =>
    cases dd with
    | struct fs =>
      have hs := T.str
      rw [hu] at hs
      simp only at hs
      obtain ⟨xs, m, _, _, hl, hxl, hf⟩ := DataW.trod_struct hu h
      rw [T.size] at hl
      have get : ∀ (i : Nat) (ft off : Nat), [(ti, 0), (tw, 1), (tw, 5), (tw, 9)][i]? = some (ft, off) → ∃ y, DataW.trod enc P W base sp held m ft ((cs.drop off).take (P.cellsOf ft)) = some y := by
        intro i ft off hi
        rw [← hs, List.getElem?_map, Option.map_eq_some_iff] at hi
        obtain ⟨f, h1, h2⟩ := hi
        have h3 : fs[i]? = some f := by rw [← Array.getElem?_toList]; exact h1
        have h4 := hf i f h3
        simp only [Prod.mk.injEq] at h2
        rw [h2.1, h2.2] at h4
        have hlt : i < xs.length := by rw [hxl]; exact (Array.getElem?_eq_some_iff.1 h3).1
        rw [List.getElem?_eq_getElem hlt] at h4
        exact ⟨_, h4⟩
      obtain ⟨y0, h0⟩ := get 0 ti 0 rfl
      obtain ⟨y1, h1⟩ := get 1 tw 1 rfl
      obtain ⟨y2, h2⟩ := get 2 tw 5 rfl
      obtain ⟨y3, h3⟩ := get 3 tw 9 rfl
      rw [T.int1] at h0
      rw [T.word.four] at h1 h2 h3
      obtain ⟨k, e0, _, w0⟩ := DataW.trod_int T.int h0
      obtain ⟨u, _, e1⟩ := trod_word T.word h1
      obtain ⟨v, _, e2⟩ := trod_word T.word h2
      obtain ⟨q, _, e3⟩ := trod_word T.word h3
      refine ⟨⟨k, u, v, q⟩, ⟨wf_i64 w0⟩, ?_⟩
      match cs, hl with
      | [a0, a1, a2, a3, a4, a5, a6, a7, a8, a9, a10, a11, a12], _ =>
        simp only [List.drop_zero, List.take_succ_cons, List.take_zero, List.drop_succ_cons, List.cons.injEq, and_true] at e0 e1 e2 e3
        show _ = [.int .i64 k] ++ (wc u ++ (wc v ++ wc q))
        rw [← e1, ← e2, ← e3, e0]
        rfl
    | _ => have := T.str; rw [hu] at this; simp at this

/-- Plays. -/
theorem open_playsN {r : Reach} {b0 : Nat} {t e ti tw tx : TypeId} (ht : P.underlying t = some (.slice e)) (T : PlT P e ti tw tx) {v : Value} {d : DataW H} {ps : List MemPlace} (hv : Value.okWide P W r b0 t v)
    (h : DataW.Trod enc P W base sp held t v d ps) : ∃ (A : Option Addr) (c : Nat) (os : List PlD), v = .slice A os.length c ∧ Cs W A (rowP os) ∧ (∀ i, i < os.length → (os.getD i PlD.zero).Ok W) ∧ os.length ≤ c ∧ c ≤ maxLen := by
  obtain ⟨A, len, cap, rfl⟩ := okWide_slice ht hv
  obtain ⟨fuel, hf⟩ := h
  rcases DataW.trod_slice ht hf with ⟨h0, _⟩ | ⟨a, l, c, elems, rest, n, _, h0, _, hb, hl, hm, hlen, hel, _, _⟩
  · simp [Value.cells] at h0
    obtain ⟨rfl, rfl, rfl⟩ := h0
    exact ⟨none, 0, [], rfl, Cs.nil _ _, fun i hi => by simp at hi, Nat.le_refl _, Nat.zero_le _⟩
  · simp [Value.cells] at h0
    obtain ⟨rfl, rfl, rfl⟩ := h0
    rw [T.size] at hel
    have each : ∀ i, i < len → ∃ o : PlD, o.Ok W ∧ ∀ j, j < 13 → W.cell? (a.add (i * 13 + j)) = o.cs[j]? := fun i hi => by
      have h1 := hel i hi
      rw [List.getElem?_eq_getElem (by omega)] at h1
      cases hc2 : W.cells? base (a.add (i * 13)) 13 with
      | none => rw [hc2] at h1; cases h1
      | some cs =>
        rw [hc2] at h1
        obtain ⟨o, e1, e2⟩ := trod_play T h1
        obtain ⟨_, e3⟩ := cells_at hc2
        refine ⟨o, e1, fun j hj => ?_⟩
        rw [← Addr.add_add, e3 j hj, e2]
    let f : Nat → PlD := fun i => if h : i < len then (each i h).choose else PlD.zero
    have hf1 : ∀ i, i < len → (f i).Ok W ∧ ∀ j, j < 13 → W.cell? (a.add (i * 13 + j)) = (f i).cs[j]? := fun i hi => by
      have := (each i hi).choose_spec
      simp only [f, dif_pos hi]
      exact this
    have hget : ∀ i, i < len → ((List.range len).map f).getD i PlD.zero = f i := fun i hi => by simp [List.getD, hi]
    refine ⟨some a, cap, (List.range len).map f, by simp, fun i x hx => ⟨a, rfl, ?_⟩, fun i hi => ?_, by simpa using hl, hm⟩
    · have hi : i < len * 13 := by
        have := (List.getElem?_eq_some_iff.1 hx).1
        rw [rowP_length] at this
        simpa using this
      have hq : i / 13 < len := by omega
      have h2 := (hf1 (i / 13) hq).2 (i % 13) (Nat.mod_lt _ (by omega))
      have h3 := rowP_seg ((List.range len).map f) (i / 13) (by simpa using hq)
      rw [hget _ hq] at h3
      rw [show i / 13 * 13 + i % 13 = i by omega, ← h3, List.getElem?_take_of_lt (Nat.mod_lt _ (by omega)), List.getElem?_drop, show i / 13 * 13 + i % 13 = i by omega] at h2
      rw [h2, hx]
    · have hi' : i < len := by simpa using hi
      rw [hget _ hi']
      exact (hf1 i hi').1
end
end Go.Fw
