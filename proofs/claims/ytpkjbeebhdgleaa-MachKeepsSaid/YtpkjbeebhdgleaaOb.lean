/-
  Scripts: rows of steps, read off 'DataW.Trod'.
  No condition: plain lemmas.
-/
import Derived.Test.YtpkjbeebhdgleaaOa
import Derived.Test.YtpkjbeebhdgleaaFj
set_option linter.unusedVariables false
namespace Go.Fw
open Go Go.ChangeShapes Go.WideShapes Go.ChangeAt Go.RowKit
/-- A step. -/
structure OpD where
  k : Int
  b : Bool
  n : Int
  m : Int
  p : Int
  x : Nat
  y : Nat
  A : Option Addr
  c : Nat
  bs : List Nat
def OpD.zero : OpD := ⟨0, false, 0, 0, 0, 0, 0, none, 0, []⟩
abbrev OpD.cs (o : OpD) : List Value := opc o.k o.b o.n o.m o.p o.x o.y (.slice o.A o.bs.length o.c)
def i64r (n : Int) : Prop := -9223372036854775808 ≤ n ∧ n ≤ 9223372036854775807
structure OpD.Ok (W : World) (o : OpD) : Prop where
  k : i64r o.k
  n : i64r o.n
  m : i64r o.m
  p : i64r o.p
  x : o.x < 2 ^ 256
  y : o.y < 2 ^ 256
  cs : Cs W o.A (rowN .u8 o.bs)
  dg : Dg o.bs
  le : o.bs.length ≤ o.c
  max : o.c ≤ maxLen
def rowO (os : List OpD) : List Value := os.flatMap OpD.cs
theorem rowO_length (os : List OpD) : (rowO os).length = os.length * 14 := by
  induction os with
  | nil => rfl
  | cons x xs ih =>
    show (x.cs ++ rowO xs).length = _
    rw [List.length_append, ih, opc_length, List.length_cons]; omega
theorem rowO_drop (os : List OpD) (i : Nat) : (rowO os).drop (i * 14) = rowO (os.drop i) := by
  induction os generalizing i with
  | nil => simp [rowO]
  | cons x xs ih =>
    cases i with
    | zero => simp [rowO]
    | succ i =>
      have e : (i + 1) * 14 = x.cs.length + i * 14 := by rw [opc_length]; omega
      rw [e]
      simp only [rowO, List.flatMap_cons, List.drop_succ_cons] at ih ⊢
      rw [List.drop_length_add_append, ih]
theorem rowO_seg (os : List OpD) (i : Nat) (h : i < os.length) : ((rowO os).drop (i * 14)).take 14 = (os.getD i OpD.zero).cs := by
  rw [rowO_drop, List.drop_eq_getElem_cons h]
  simp only [rowO, List.flatMap_cons]
  rw [List.take_append_of_le_length (by rw [opc_length]; omega), List.take_of_length_le (by rw [opc_length]; omega)]
  simp [List.getD, h]
section
variable {P : Program} {W : World} {H : Type} {enc : TypeId × Value → H} {base : Nat} {sp : Nat → Bool} {held : Bool}
/-- The table's rows for a step. -/
structure OpT (P : Program) (t ti tb tw tx ts te : TypeId) : Prop where
  str : (match P.underlying t with | some (.struct fs) => fs.toList.map (fun f => (f.type, f.offset)) | _ => []) = [(ti, 0), (tb, 1), (ti, 2), (ti, 3), (ti, 4), (tw, 5), (tw, 9), (ts, 13)]
  size : P.cellsOf t = 14
  int : P.underlying ti = some (.int .i64)
  int1 : P.cellsOf ti = 1
  bool : P.underlying tb = some .bool
  bool1 : P.cellsOf tb = 1
  word : WordT P tw tx
  sl : P.underlying ts = some (.slice te)
  sl1 : P.cellsOf ts = 1
  byte : P.underlying te = some (.int .u8)
  byte1 : P.cellsOf te = 1

theorem trod_bool1 {t : TypeId} (ht : P.underlying t = some .bool) {fuel : Nat} {cs : List Value} {x : DataW H × List MemPlace} (h : DataW.trod enc P W base sp held fuel t cs = some x) : ∃ b, cs = [.bool b] := by
  cases fuel with
  | zero => simp [DataW.trod] at h
  | succ m =>
    unfold DataW.trod at h
    rw [ht] at h
    match cs, h with
    | [.bool b], _ => exact ⟨b, rfl⟩
/-- Bytes, from one cell. -/
theorem trod_bytes {t e : TypeId} (ht : P.underlying t = some (.slice e)) (he : P.underlying e = some (.int .u8)) (hc : P.cellsOf e = 1) {fuel : Nat} {cs : List Value} {x : DataW H × List MemPlace} (h : DataW.trod enc P W base sp held fuel t cs = some x) :
    ∃ (A : Option Addr) (c : Nat) (xs : List Nat), cs = [.slice A xs.length c] ∧ Cs W A (rowN .u8 xs) ∧ Dg xs ∧ xs.length ≤ c ∧ c ≤ maxLen := by
  rcases DataW.trod_slice ht h with ⟨h0, _⟩ | ⟨a, len, cap, elems, rest, n, _, h0, _, hb, hl, hm, hlen, hel, _, _⟩
  · exact ⟨none, 0, [], h0, Cs.nil _ _, Dg.nil, Nat.le_refl _, Nat.zero_le _⟩
  · subst h0
    rw [hc] at hel
    have each : ∀ i, i < len → ∃ n : Nat, n < 256 ∧ W.cell? (a.add i) = some (.int .u8 (n : Int)) := fun i hi => by
      have h1 := hel i hi
      rw [List.getElem?_eq_getElem (by omega)] at h1
      cases hc2 : W.cells? base (a.add (i * 1)) 1 with
      | none => rw [hc2] at h1; cases h1
      | some cs =>
        rw [hc2] at h1
        obtain ⟨n, e1, _, e2⟩ := DataW.trod_int he h1
        obtain ⟨_, e3⟩ := cells_at hc2
        have e4 := e3 0 (by omega)
        rw [e1, Addr.add_add] at e4
        have := wf_u8 e2
        refine ⟨n.toNat, by omega, ?_⟩
        rw [Int.toNat_of_nonneg this.1]
        simpa using e4
    let f : Nat → Nat := fun i => if h : i < len then (each i h).choose else 0
    have hf1 : ∀ i, i < len → f i < 256 ∧ W.cell? (a.add i) = some (.int .u8 (f i : Int)) := fun i hi => by
      have := (each i hi).choose_spec
      simp only [f, dif_pos hi]
      exact this
    refine ⟨some a, cap, (List.range len).map f, by simp, fun i x hx => ⟨a, rfl, ?_⟩, fun y hy => ?_, by simpa using hl, hm⟩
    · have hi : i < len := by
        have := (List.getElem?_eq_some_iff.1 hx).1
        simpa [rowN] using this
      rw [(hf1 i hi).2, ← hx]
      simp [rowN, hi]
    · simp only [List.mem_map, List.mem_range] at hy
      obtain ⟨i, hi, rfl⟩ := hy
      exact (hf1 i hi).1

theorem len1 {cs : List Value} {v : Value} (h : cs = [v]) : cs = [v] := h
/-- A step's cells. -/
theorem trod_op {t ti tb tw tx ts te : TypeId} (T : OpT P t ti tb tw tx ts te) {fuel : Nat} {cs : List Value} {x : DataW H × List MemPlace} (h : DataW.trod enc P W base sp held fuel t cs = some x) : ∃ o : OpD, o.Ok W ∧ cs = o.cs := by
  cases hu : P.underlying t with
  | none => have := T.str; rw [hu] at this; simp at this
  | some dd =>
    cases dd with
    | struct fs =>
      have hs := T.str
      rw [hu] at hs
      simp only at hs
      obtain ⟨xs, m, _, _, hl, hxl, hf⟩ := DataW.trod_struct hu h
      rw [T.size] at hl
      have get : ∀ (i : Nat) (ft off : Nat), [(ti, 0), (tb, 1), (ti, 2), (ti, 3), (ti, 4), (tw, 5), (tw, 9), (ts, 13)][i]? = some (ft, off) → ∃ y, DataW.trod enc P W base sp held m ft ((cs.drop off).take (P.cellsOf ft)) = some y := by
        intro i ft off hi
        rw [← hs, List.getElem?_map, Option.map_eq_some_iff] at hi
        obtain ⟨f, h1, h2⟩ := hi
        have h3 : fs[i]? = some f := by rw [← Array.getElem?_toList]; exact h1
        have h4 := hf i f h3
        simp only [Prod.mk.injEq] at h2
        rw [h2.1, h2.2] at h4
        have hlt : i < xs.length := by rw [hxl]; exact (Array.getElem?_eq_some_iff.1 h3).1
        rw [List.getElem?_eq_getElem hlt] at h4
        exact ⟨_, h4⟩
      obtain ⟨y0, h0⟩ := get 0 ti 0 rfl
      obtain ⟨y1, h1⟩ := get 1 tb 1 rfl
      obtain ⟨y2, h2⟩ := get 2 ti 2 rfl
      obtain ⟨y3, h3⟩ := get 3 ti 3 rfl
      obtain ⟨y4, h4⟩ := get 4 ti 4 rfl
      obtain ⟨y5, h5⟩ := get 5 tw 5 rfl
      obtain ⟨y6, h6⟩ := get 6 tw 9 rfl
      obtain ⟨y7, h7⟩ := get 7 ts 13 rfl
      rw [T.int1] at h0 h2 h3 h4
      rw [T.bool1] at h1
      rw [T.word.four] at h5 h6
      rw [T.sl1] at h7
      obtain ⟨k, e0, _, w0⟩ := DataW.trod_int T.int h0
      obtain ⟨b, e1⟩ := trod_bool1 T.bool h1
      obtain ⟨n, e2, _, w2⟩ := DataW.trod_int T.int h2
      obtain ⟨q, e3, _, w3⟩ := DataW.trod_int T.int h3
      obtain ⟨p, e4, _, w4⟩ := DataW.trod_int T.int h4
      obtain ⟨u, w5, e5⟩ := trod_word T.word h5
      obtain ⟨v, w6, e6⟩ := trod_word T.word h6
      obtain ⟨A, c, bs, e7, c1, c2, c3, c4⟩ := trod_bytes T.sl T.byte T.byte1 h7
      refine ⟨⟨k, b, n, q, p, u, v, A, c, bs⟩, ⟨wf_i64 w0, wf_i64 w2, wf_i64 w3, wf_i64 w4, w5, w6, c1, c2, c3, c4⟩, ?_⟩
      match cs, hl with
      | [a0, a1, a2, a3, a4, a5, a6, a7, a8, a9, a10, a11, a12, a13], _ =>
        simp only [List.drop_zero, List.take_succ_cons, List.take_zero, List.drop_succ_cons, List.cons.injEq, and_true] at e0 e1 e2 e3 e4 e5 e6 e7
        show _ = [.int .i64 k, .bool b, .int .i64 n, .int .i64 q, .int .i64 p] ++ (wc u ++ (wc v ++ [.slice A bs.length c]))
        rw [← e5, ← e6, e0, e1, e2, e3, e4, e7]
        rfl
    | _ => have := T.str; rw [hu] at this; simp at this

/-- Scripts. -/
theorem open_opsN {r : Reach} {b0 : Nat} {t e ti tb tw tx ts te : TypeId} (ht : P.underlying t = some (.slice e)) (T : OpT P e ti tb tw tx ts te) {v : Value} {d : DataW H} {ps : List MemPlace} (hv : Value.okWide P W r b0 t v)
    (h : DataW.Trod enc P W base sp held t v d ps) : ∃ (A : Option Addr) (c : Nat) (os : List OpD), v = .slice A os.length c ∧ Cs W A (rowO os) ∧ (∀ i, i < os.length → (os.getD i OpD.zero).Ok W) ∧ os.length ≤ c ∧ c ≤ maxLen := by
  obtain ⟨A, len, cap, rfl⟩ := okWide_slice ht hv
  obtain ⟨fuel, hf⟩ := h
  rcases DataW.trod_slice ht hf with ⟨h0, _⟩ | ⟨a, l, c, elems, rest, n, _, h0, _, hb, hl, hm, hlen, hel, _, _⟩
  · simp [Value.cells] at h0
    obtain ⟨rfl, rfl, rfl⟩ := h0
    exact ⟨none, 0, [], rfl, Cs.nil _ _, fun i hi => by simp at hi, Nat.le_refl _, Nat.zero_le _⟩
  · simp [Value.cells] at h0
    obtain ⟨rfl, rfl, rfl⟩ := h0
    rw [T.size] at hel
    have each : ∀ i, i < len → ∃ o : OpD, o.Ok W ∧ ∀ j, j < 14 → W.cell? (a.add (i * 14 + j)) = o.cs[j]? := fun i hi => by
      have h1 := hel i hi
      rw [List.getElem?_eq_getElem (by omega)] at h1
      cases hc2 : W.cells? base (a.add (i * 14)) 14 with
      | none => rw [hc2] at h1; cases h1
      | some cs =>
        rw [hc2] at h1
        obtain ⟨o, e1, e2⟩ := trod_op T h1
        obtain ⟨_, e3⟩ := cells_at hc2
        refine ⟨o, e1, fun j hj => ?_⟩
        rw [← Addr.add_add, e3 j hj, e2]
    let f : Nat → OpD := fun i => if h : i < len then (each i h).choose else OpD.zero
    have hf1 : ∀ i, i < len → (f i).Ok W ∧ ∀ j, j < 14 → W.cell? (a.add (i * 14 + j)) = (f i).cs[j]? := fun i hi => by
      have := (each i hi).choose_spec
      simp only [f, dif_pos hi]
      exact this
    have hget : ∀ i, i < len → ((List.range len).map f).getD i OpD.zero = f i := fun i hi => by simp [List.getD, hi]
    refine ⟨some a, cap, (List.range len).map f, by simp, fun i x hx => ⟨a, rfl, ?_⟩, fun i hi => ?_, by simpa using hl, hm⟩
    · have hi : i < len * 14 := by
        have := (List.getElem?_eq_some_iff.1 hx).1
        rw [rowO_length] at this
        simpa using this
      have hq : i / 14 < len := by omega
      have h2 := (hf1 (i / 14) hq).2 (i % 14) (Nat.mod_lt _ (by omega))
      have h3 := rowO_seg ((List.range len).map f) (i / 14) (by simpa using hq)
      rw [hget _ hq] at h3
      rw [show i / 14 * 14 + i % 14 = i by omega, ← h3, List.getElem?_take_of_lt (Nat.mod_lt _ (by omega)), List.getElem?_drop, show i / 14 * 14 + i % 14 = i by omega] at h2
      rw [h2, hx]
    · have hi' : i < len := by simpa using hi
      rw [hget _ hi']
      exact (hf1 i hi').1
end
theorem OpD.len (o : OpD) : o.cs.length = 14 := rfl
theorem rowO_get (os : List OpD) (i j : Nat) (h : i < os.length) (hj : j < 14) : (rowO os)[i * 14 + j]? = (os.getD i OpD.zero).cs[j]? := by
  rw [← rowO_seg os i h, List.getElem?_take_of_lt hj, List.getElem?_drop]
theorem rowO_b (os : List OpD) (i : Nat) (h : i < os.length) : (rowO os)[i * 14 + 1]? = some (.bool (os.getD i OpD.zero).b) := rowO_get os i 1 h (by omega)
end Go.Fw
