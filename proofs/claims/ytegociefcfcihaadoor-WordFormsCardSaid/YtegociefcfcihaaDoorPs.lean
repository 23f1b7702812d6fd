/-
  Arrays of bytes compared; an address opened.
  No condition: plain lemmas.
-/
import Derived.Test.YtegociefcfcihaaDoorPq
import Derived.Test.YtegociefcfcihaaDoorOa
set_option linter.unusedVariables false
namespace Go.Fw
open Go Go.ChangeShapes Go.WideShapes Go.ChangeAt Go.RowKit
section
variable {P : Program} {ops : Array Oper} {F : Act → World → Prop} {w0 w w' : World} {M : List Nat} {N : Nat} {L : List (Oper × K)} {σ : List (Nat × Value)} {l lS : List (Nat × Ent)} {k : K}
  {d : Option Tmp} {ty t : TypeId} {p : String} {af : Array Edge} {x y : Operand}
def EqA (P : Program) (t : TypeId) (len : Nat) : Prop := (∃ e, ArrT P t len e 1 ∧ OneT P e ∧ P.underlying e = some (.int .u8)) ∧ P.eqGuardType P.depth t = false
theorem run_eqA {len : Nat} (hT : EqA P t len) (xs ys : List Nat) (hx : xs.length = len) (hy : ys.length = len) (w : World) : (Op.equal t (.agg (rowN .u8 xs).toArray) (.agg (rowN .u8 ys).toArray)).run P w = .ok (decide (xs = ys)) w := by
  obtain ⟨⟨e, h1, h2, h3⟩, _⟩ := hT
  exact run_eqInts h1 h2 h3 9998 9999 rfl xs ys hx hy w
theorem J.eqA {t' : TypeId} {len : Nat} {xs ys : List Nat} (hT : EqA P t len) (hx : ev σ x = some (.agg (rowN .u8 xs).toArray)) (hy : ev σ y = some (.agg (rowN .u8 ys).toArray)) (hlx : xs.length = len) (hly : ys.length = len) (hd : okd N d) (h : J P ops F w0 M N lS L (putd d (.bool (decide (xs = ys))) σ) l) :
    J P ops F w0 M N lS ((⟨d, .binOp .eql t x y t', ty, p, af, none⟩, k) :: L) σ l :=
  J.eqlR hx hy hd (fun w => by
    simp only [Sem.run_bind, run_eqGuard_agg w .eql t x y _ _ hT.2, Result.andThen_ok, binOp, run_eqA hT xs ys hlx hly, Sem.run_pure]) h
theorem J.neqA {t' : TypeId} {len : Nat} {xs ys : List Nat} (hT : EqA P t len) (hx : ev σ x = some (.agg (rowN .u8 xs).toArray)) (hy : ev σ y = some (.agg (rowN .u8 ys).toArray)) (hlx : xs.length = len) (hly : ys.length = len) (hd : okd N d) (h : J P ops F w0 M N lS L (putd d (.bool (decide (¬ xs = ys))) σ) l) :
    J P ops F w0 M N lS ((⟨d, .binOp .neq t x y t', ty, p, af, none⟩, k) :: L) σ l :=
  J.eqlR hx hy hd (fun w => by
    simp only [Sem.run_bind, run_eqGuard_agg w .neq t x y _ _ hT.2, Result.andThen_ok, binOp, run_eqA hT xs ys hlx hly, Sem.run_pure, decide_not]) h
end
section
variable {P : Program} {W : World} {H : Type} {enc : TypeId × Value → H} {base : Nat} {sp : Nat → Bool} {held : Bool}
theorem open_bytesA {r : Reach} {b0 n : Nat} {t e : TypeId} (ht : P.underlying t = some (.array n e)) (he : P.underlying e = some (.int .u8)) (hc : P.cellsOf e = 1) (hn : P.cellsOf t = n) {v : Value} {d : DataW H} {ps : List MemPlace} (hv : Value.okWide P W r b0 t v)
    (h : DataW.Trod enc P W base sp held t v d ps) : ∃ bs : List Nat, v = .agg (rowN .u8 bs).toArray ∧ bs.length = n ∧ Dg bs := by
  obtain ⟨fuel, hf⟩ := h
  simp only [Value.okWide, ht] at hv
  obtain ⟨cs, rfl, _⟩ := hv
  simp only [Value.cells] at hf
  obtain ⟨xs, m, _, _, hl, hxl, hx⟩ := DataW.trod_array ht hf
  rw [hn] at hl
  rw [hc] at hx
  have each : ∀ i, i < n → ∃ q : Nat, q < 256 ∧ cs.toList[i]? = some (.int .u8 (q : Int)) := fun i hi => by
    have h1 := hx i hi
    rw [List.getElem?_eq_getElem (by omega)] at h1
    obtain ⟨q, e1, _, e2⟩ := DataW.trod_int he h1
    have := wf_u8 e2
    refine ⟨q.toNat, by omega, ?_⟩
    rw [Int.toNat_of_nonneg this.1]
    have e3 := congrArg (fun l : List Value => l[0]?) e1
    simpa using e3
  let f : Nat → Nat := fun i => if h : i < n then (each i h).choose else 0
  have hf1 : ∀ i, i < n → f i < 256 ∧ cs.toList[i]? = some (.int .u8 (f i : Int)) := fun i hi => by
    have := (each i hi).choose_spec
    simp only [f, dif_pos hi]
    exact this
  refine ⟨(List.range n).map f, ?_, by simp, fun y hy => ?_⟩
  · have : cs.toList = rowN .u8 ((List.range n).map f) := by
      apply List.ext_getElem?
      intro i
      rcases Nat.lt_or_ge i n with hi | hi
      · rw [(hf1 i hi).2]; simp [rowN, hi]
      · rw [List.getElem?_eq_none (by omega), List.getElem?_eq_none (by simp [rowN]; omega)]
    rw [← this]
  · simp only [List.mem_map, List.mem_range] at hy
    obtain ⟨i, hi, rfl⟩ := hy
    exact (hf1 i hi).1
end
theorem putNs (kd : IntKind) (xs : List Nat) (sp : List Value) (i v : Nat) (h : i < xs.length) : put (rowN kd xs ++ sp) (i * 1) [.int kd (v : Int)] = rowN kd (xs.set i v) ++ sp := by
  have h2 : i < (rowN kd xs ++ sp).length := by rw [List.length_append, rowN_length]; omega
  rw [Nat.mul_one, put_one _ _ _ h2, List.set_append_left _ _ (by rw [rowN_length]; exact h)]
  congr 1
  simp [rowN, List.map_set]
theorem cs_frontN {w : World} {A : Option Addr} {kd : IntKind} {xs ys : List Nat} (h : Cs w A (rowN kd (xs ++ ys))) : Cs w A (rowN kd xs) := fun i x hx => h i x (by
  have hlt := (List.getElem?_eq_some_iff.1 hx).1
  rw [rowN_append, List.getElem?_append_left hlt]; exact hx)
theorem cs_takeN {w : World} {A : Option Addr} {kd : IntKind} {ys : List Nat} (h : Cs w A (rowN kd ys)) (n : Nat) : Cs w A (rowN kd (ys.take n)) := by
  rw [← List.take_append_drop n ys] at h
  exact cs_frontN h
theorem cs_behindN {w : World} {A : Option Addr} {kd : IntKind} {xs ys : List Nat} (h : Cs w A (rowN kd (xs ++ ys))) : Cs w (A.map (·.add (xs.length * 1))) (rowN kd ys) := fun i x hx => by
  obtain ⟨ad, ha, hc⟩ := h (xs.length + i) x (by rw [rowN_append, List.getElem?_append_right (by rw [rowN_length]; omega), rowN_length, Nat.add_sub_cancel_left]; exact hx)
  refine ⟨ad.add (xs.length * 1), by rw [ha]; rfl, ?_⟩
  rw [Nat.mul_one, Addr.add_add]; exact hc
theorem Dg.setx {ys : List Nat} (h : Dg ys) (i a b : Nat) (ha : a < 256) (hb : b < 256) : Dg (ys.set i (a ^^^ b)) := h.set i (xor_lt8 a b ⟨ha, hb⟩)
end Go.Fw
