/-
  What the arguments of a statement are: bytes, words, rows of words; read off 'DataW.Trod'.
  No condition: plain lemmas.
-/
import Derived.Test.YtpkjbeebhdgleaaFh
import Derived.ChangeSlices
import Derived.WideShapes
import Derived.ProofKit
import Derived.OpenShut
import Derived.Below
set_option linter.unusedVariables false
namespace Go.Fw
open Go Go.ChangeShapes Go.WideShapes Go.ChangeAt Go.RowKit
section
variable {P : Program} {W : World} {H : Type} {enc : TypeId × Value → H} {base : Nat} {sp : Nat → Bool} {held : Bool}

theorem mapM_at {α β : Type} {f : α → Option β} : ∀ {xs : List α} {ys : List β}, xs.mapM f = some ys → xs.length = ys.length ∧ ∀ (i : Nat) (x : α), xs[i]? = some x → ∃ y, ys[i]? = some y ∧ f x = some y
  | [], ys, h => by simp at h; subst h; simp
  | x :: xs, ys, h => by
    rw [List.mapM_cons] at h
    cases h1 : f x with
    | none => simp [h1] at h
    | some y =>
      cases h2 : xs.mapM f with
      | none => simp [h1, h2] at h
      | some zs =>
        simp [h1, h2] at h
        subst h
        obtain ⟨e, k⟩ := mapM_at h2
        refine ⟨by simp [e], fun i u hu => ?_⟩
        cases i with
        | zero => simp at hu; subst hu; exact ⟨y, rfl, h1⟩
        | succ i => exact k i u (by simpa using hu)

theorem cells_at {a : Addr} {n : Nat} {cs : List Value} (h : W.cells? base a n = some cs) : cs.length = n ∧ ∀ i, i < n → W.cell? (a.add i) = cs[i]? := by
  unfold World.cells? at h
  split at h
  · obtain ⟨e, k⟩ := mapM_at h
    refine ⟨by rw [← e]; simp, fun i hi => ?_⟩
    obtain ⟨y, hy, h2⟩ := k i i (by simp [hi])
    rw [hy, h2]
  · cases h

theorem wf_u8 {n : Int} (h : (Lit.int .u8 n).wf = true) : 0 ≤ n ∧ n < 256 := by
  simp [Lit.wf, IntKind.min, IntKind.max, IntKind.signed, IntKind.bits] at h
  omega
theorem wf_u64 {n : Int} (h : (Lit.int .u64 n).wf = true) : 0 ≤ n ∧ n < 18446744073709551616 := by
  simp [Lit.wf, IntKind.min, IntKind.max, IntKind.signed, IntKind.bits] at h
  omega
theorem wf_i64 {n : Int} (h : (Lit.int .i64 n).wf = true) : -9223372036854775808 ≤ n ∧ n ≤ 9223372036854775807 := by
  simp [Lit.wf, IntKind.min, IntKind.max, IntKind.signed, IntKind.bits] at h
  omega

/-- The number of four parts. -/
def wval (a b c d : Nat) : Nat := a + 18446744073709551616 * (b + 18446744073709551616 * (c + 18446744073709551616 * d))
theorem wval_lt {a b c d : Nat} (h : a < 18446744073709551616 ∧ b < 18446744073709551616 ∧ c < 18446744073709551616 ∧ d < 18446744073709551616) : wval a b c d < 2 ^ 256 := by unfold wval; omega
theorem wl_wval {a b c d : Nat} (h : a < 18446744073709551616 ∧ b < 18446744073709551616 ∧ c < 18446744073709551616 ∧ d < 18446744073709551616) : wl (wval a b c d) = [a, b, c, d] := by
  have e0 : lim (wval a b c d) 0 = a := by unfold lim wval; omega
  have e1 : lim (wval a b c d) 1 = b := by unfold lim wval; omega
  have e2 : lim (wval a b c d) 2 = c := by unfold lim wval; omega
  have e3 : lim (wval a b c d) 3 = d := by unfold lim wval; omega
  unfold wl
  rw [e0, e1, e2, e3]

/-- The table's rows for a word. -/
structure WordT (P : Program) (t e : TypeId) : Prop where
  arr : P.underlying t = some (.array 4 e)
  int : P.underlying e = some (.int .u64)
  one : P.cellsOf e = 1
  four : P.cellsOf t = 4

theorem trod_word {t e : TypeId} (T : WordT P t e) {fuel : Nat} {cs : List Value} {x : DataW H × List MemPlace} (h : DataW.trod enc P W base sp held fuel t cs = some x) : ∃ n, n < 2 ^ 256 ∧ cs = wc n := by
  obtain ⟨xs, m, _, _, hl, hxl, hx⟩ := DataW.trod_array T.arr h
  rw [T.four] at hl
  rw [T.one] at hx
  match cs, hl with
  | [c0, c1, c2, c3], _ =>
    have get : ∀ i, i < 4 → ∃ n, (([c0, c1, c2, c3].drop (i * 1)).take 1) = [.int .u64 n] ∧ (Lit.int .u64 n).wf = true := fun i hi => by
      have h1 := hx i hi
      rw [List.getElem?_eq_getElem (by omega)] at h1
      obtain ⟨n, e1, _, e2⟩ := DataW.trod_int T.int h1
      exact ⟨n, e1, e2⟩
    obtain ⟨n0, e0, f0⟩ := get 0 (by omega)
    obtain ⟨n1, e1, f1⟩ := get 1 (by omega)
    obtain ⟨n2, e2, f2⟩ := get 2 (by omega)
    obtain ⟨n3, e3, f3⟩ := get 3 (by omega)
    simp at e0 e1 e2 e3
    subst e0; subst e1; subst e2; subst e3
    have g0 := wf_u64 f0
    have g1 := wf_u64 f1
    have g2 := wf_u64 f2
    have g3 := wf_u64 f3
    have hb : n0.toNat < 18446744073709551616 ∧ n1.toNat < 18446744073709551616 ∧ n2.toNat < 18446744073709551616 ∧ n3.toNat < 18446744073709551616 := by omega
    refine ⟨wval n0.toNat n1.toNat n2.toNat n3.toNat, wval_lt hb, ?_⟩
    rw [wc, wl_wval hb]
    simp only [rowN, List.map_cons, List.map_nil]
    rw [Int.toNat_of_nonneg g0.1, Int.toNat_of_nonneg g1.1, Int.toNat_of_nonneg g2.1, Int.toNat_of_nonneg g3.1]
theorem open_word {r : Reach} {b0 : Nat} {t e : TypeId} (T : WordT P t e) {v : Value} {d : DataW H} {ps : List MemPlace} (hv : Value.okWide P W r b0 t v) (h : DataW.Trod enc P W base sp held t v d ps) : ∃ n, n < 2 ^ 256 ∧ v = Go.Fw.W n := by
  obtain ⟨fuel, hf⟩ := h
  simp only [Value.okWide, T.arr] at hv
  obtain ⟨cs, rfl, _⟩ := hv
  obtain ⟨n, hn, hc⟩ := trod_word T hf
  refine ⟨n, hn, ?_⟩
  simp only [Value.cells] at hc
  rw [show cs = cs.toList.toArray by simp, hc]

/-- Bytes. -/
theorem open_bytesN {r : Reach} {b0 : Nat} {t e : TypeId} (ht : P.underlying t = some (.slice e)) (he : P.underlying e = some (.int .u8)) (hc : P.cellsOf e = 1) {v : Value} {d : DataW H} {ps : List MemPlace} (hv : Value.okWide P W r b0 t v)
    (h : DataW.Trod enc P W base sp held t v d ps) : ∃ (A : Option Addr) (c : Nat) (xs : List Nat), v = .slice A xs.length c ∧ Cs W A (rowN .u8 xs) ∧ Dg xs ∧ xs.length ≤ c ∧ c ≤ maxLen := by
  obtain ⟨A, len, cap, rfl⟩ := okWide_slice ht hv
  obtain ⟨fuel, hf⟩ := h
  rcases DataW.trod_slice ht hf with ⟨h0, _⟩ | ⟨a, l, c, elems, rest, n, _, h0, _, hb, hl, hm, hlen, hel, _, _⟩
  · simp [Value.cells] at h0
    obtain ⟨rfl, rfl, rfl⟩ := h0
    exact ⟨none, 0, [], rfl, Cs.nil _ _, Dg.nil, Nat.le_refl _, Nat.zero_le _⟩
  · simp [Value.cells] at h0
    obtain ⟨rfl, rfl, rfl⟩ := h0
    rw [hc] at hel
    have each : ∀ i, i < len → ∃ n : Nat, n < 256 ∧ W.cell? (a.add i) = some (.int .u8 (n : Int)) := fun i hi => by
      have h1 := hel i hi
      rw [List.getElem?_eq_getElem (by omega)] at h1
      cases hc2 : W.cells? base (a.add (i * 1)) 1 with
      | none => rw [hc2] at h1; cases h1
      | some cs =>
        rw [hc2] at h1
        obtain ⟨n, e1, _, e2⟩ := DataW.trod_int he h1
        obtain ⟨_, e3⟩ := cells_at hc2
        have e4 := e3 0 (by omega)
        rw [e1, Addr.add_add] at e4
        have := wf_u8 e2
        refine ⟨n.toNat, by omega, ?_⟩
        rw [Int.toNat_of_nonneg this.1]
        simpa using e4
    let f : Nat → Nat := fun i => if h : i < len then (each i h).choose else 0
    have hf1 : ∀ i, i < len → f i < 256 ∧ W.cell? (a.add i) = some (.int .u8 (f i : Int)) := fun i hi => by
      have := (each i hi).choose_spec
      simp only [f, dif_pos hi]
      exact this
    refine ⟨some a, cap, (List.range len).map f, by simp, fun i x hx => ⟨a, rfl, ?_⟩, fun y hy => ?_, by simpa using hl, hm⟩
    · have hi : i < len := by
        have := (List.getElem?_eq_some_iff.1 hx).1
        simpa [rowN] using this
      rw [(hf1 i hi).2, ← hx]
      simp [rowN, hi]
    · simp only [List.mem_map, List.mem_range] at hy
      obtain ⟨i, hi, rfl⟩ := hy
      exact (hf1 i hi).1

/-- Rows of words. -/
theorem open_wordsN {r : Reach} {b0 : Nat} {t e e1 : TypeId} (ht : P.underlying t = some (.slice e)) (T : WordT P e e1) {v : Value} {d : DataW H} {ps : List MemPlace} (hv : Value.okWide P W r b0 t v)
    (h : DataW.Trod enc P W base sp held t v d ps) : ∃ (A : Option Addr) (c : Nat) (xs : List Nat), v = .slice A xs.length c ∧ Cs W A (rowW xs) ∧ (∀ x ∈ xs, x < 2 ^ 256) ∧ xs.length ≤ c ∧ c ≤ maxLen := by
  obtain ⟨A, len, cap, rfl⟩ := okWide_slice ht hv
  obtain ⟨fuel, hf⟩ := h
  rcases DataW.trod_slice ht hf with ⟨h0, _⟩ | ⟨a, l, c, elems, rest, n, _, h0, _, hb, hl, hm, hlen, hel, _, _⟩
  · simp [Value.cells] at h0
    obtain ⟨rfl, rfl, rfl⟩ := h0
    exact ⟨none, 0, [], rfl, Cs.nil _ _, fun x hx => by simp at hx, Nat.le_refl _, Nat.zero_le _⟩
  · simp [Value.cells] at h0
    obtain ⟨rfl, rfl, rfl⟩ := h0
    rw [T.four] at hel
    have each : ∀ i, i < len → ∃ n : Nat, n < 2 ^ 256 ∧ ∀ j, j < 4 → W.cell? (a.add (i * 4 + j)) = (wc n)[j]? := fun i hi => by
      have h1 := hel i hi
      rw [List.getElem?_eq_getElem (by omega)] at h1
      cases hc2 : W.cells? base (a.add (i * 4)) 4 with
      | none => rw [hc2] at h1; cases h1
      | some cs =>
        rw [hc2] at h1
        obtain ⟨n, e1, e2⟩ := trod_word T h1
        obtain ⟨_, e3⟩ := cells_at hc2
        refine ⟨n, e1, fun j hj => ?_⟩
        rw [← Addr.add_add, e3 j hj, e2]
    let f : Nat → Nat := fun i => if h : i < len then (each i h).choose else 0
    have hf1 : ∀ i, i < len → f i < 2 ^ 256 ∧ ∀ j, j < 4 → W.cell? (a.add (i * 4 + j)) = (wc (f i))[j]? := fun i hi => by
      have := (each i hi).choose_spec
      simp only [f, dif_pos hi]
      exact this
    refine ⟨some a, cap, (List.range len).map f, by simp, fun i x hx => ⟨a, rfl, ?_⟩, fun y hy => ?_, by simpa using hl, hm⟩
    · have hi : i < len * 4 := by
        have := (List.getElem?_eq_some_iff.1 hx).1
        rw [rowW_length] at this
        simpa using this
      have hq : i / 4 < len := by omega
      have h2 := (hf1 (i / 4) hq).2 (i % 4) (Nat.mod_lt _ (by omega))
      have h3 := rowW_seg ((List.range len).map f) (i / 4) (by simpa using hq)
      have h4 : ((List.range len).map f).getD (i / 4) 0 = f (i / 4) := by simp [List.getD, hq]
      rw [h4] at h3
      rw [show i / 4 * 4 + i % 4 = i by omega, ← h3, List.getElem?_take_of_lt (Nat.mod_lt _ (by omega)), List.getElem?_drop, show i / 4 * 4 + i % 4 = i by omega] at h2
      rw [h2, hx]
    · simp only [List.mem_map, List.mem_range] at hy
      obtain ⟨i, hi, rfl⟩ := hy
      exact (hf1 i hi).1
end
end Go.Fw
