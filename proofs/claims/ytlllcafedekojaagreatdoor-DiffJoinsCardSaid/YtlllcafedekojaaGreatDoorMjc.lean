/-
  Texts that the statement stands on, one behind the other: plain lemmas and walks of functions.
  No condition.
-/
import Derived.Defers
import Derived.Test.YtlllcafedekojaaGreatDoorChecked
import Derived.Test.YtlllcafedekojaaGreatDoorMja
import Derived.Test.YtlllcafedekojaaGreatDoorMjb
set_option linter.unusedVariables false
namespace Go.Fw
open Go
theorem wcmp_cmpZ (a b : Nat) : wcmp a b = cmpZ (a % 2 ^ 256) (b % 2 ^ 256) := by unfold wcmp cmpZ; split <;> (try split) <;> (try split) <;> omega
theorem ord_sign (a b : Ch) : (ordZ a.was b.was < 0 ↔ spotZ a.v b.v < 0) ∧ (ordZ a.was b.was = 0 ↔ spotZ a.v b.v = 0) := by
  by_cases h1 : a.who % 256 ^ 20 = b.who % 256 ^ 20
  · by_cases h2 : a.kind = b.kind
    · rw [ordZ_key (a := a.was) (b := b.was) h1 h2, spotZ_key (a := a.v) (b := b.v) h1 h2]
      rw [show wcmp a.v.key b.v.key = cmpZ (a.key % 2 ^ 256) (b.key % 2 ^ 256) from (wcmp_mod a.key b.key).trans (wcmp_cmpZ _ _)]
      exact ⟨Iff.rfl, Iff.rfl⟩
    · rw [ordZ_kind (a := a.was) (b := b.was) h1 h2, spotZ_kind (a := a.v) (b := b.v) h1 h2]
      show (cmpI a.kind b.kind < 0 ↔ a.kind - b.kind < 0) ∧ (cmpI a.kind b.kind = 0 ↔ a.kind - b.kind = 0)
      unfold cmpI
      split <;> (try split) <;> omega
  · rw [ordZ_who (a := a.was) (b := b.was) h1, spotZ_who (a := a.v) (b := b.v) h1]
    exact ⟨Iff.rfl, Iff.rfl⟩
theorem ord_ge (a b : Ch) : ordZ a.was b.was ≥ 0 ↔ 0 ≤ spotZ a.v b.v := by
  have := (ord_sign a b).1
  omega
theorem spotZ_flip (a b : CV) : spotZ b a = - spotZ a b := by
  by_cases h1 : a.who = b.who
  · by_cases h2 : a.kind = b.kind
    · rw [spotZ_key h1 h2, spotZ_key h1.symm h2.symm, wcmp_flip]
    · rw [spotZ_kind h1 h2, spotZ_kind h1.symm (fun q => h2 q.symm)]; omega
  · rw [spotZ_who h1, spotZ_who (fun q => h1 q.symm)]
    unfold cmpZ
    split <;> split <;> (try split) <;> (try split) <;> omega
theorem dropv (ps : List Ch) {i : Nat} (h : i < ps.length) : (ps.map Ch.v).drop i = (ps.getD i default).v :: (ps.map Ch.v).drop (i + 1) := by
  rw [List.drop_eq_getElem_cons (by rw [List.length_map]; exact h), List.getElem_map]
  congr 2
  rw [List.getD_eq_getElem?_getD, List.getElem?_eq_getElem h]; rfl
/-- What is still to be joined. -/
def jn (ps bs : List Ch) (i k : Nat) : Option (List CV) := joinL ((ps.map Ch.v).drop i) ((bs.map Ch.v).drop k)
section
variable {ps bs : List Ch} {i k : Nat}
theorem ord_spot (a b : Ch) : (ordZ b.was a.was < 0 ↔ 0 < spotZ a.v b.v) ∧ (ordZ b.was a.was = 0 ↔ spotZ a.v b.v = 0) := by
  have h := ord_sign b a
  have h2 := spotZ_flip a.v b.v
  omega
theorem jn_b (hi : i < ps.length) (hk : k < bs.length) (h : ordZ (bs.getD k default).was (ps.getD i default).was < 0) : jn ps bs i k = (jn ps bs i (k + 1)).map ((bs.getD k default).v :: ·) := by
  unfold jn
  rw [dropv ps hi, dropv bs hk]
  exact join_b _ _ _ (.inr ⟨_, _, rfl, ((ord_spot _ _).1).1 h⟩)
theorem jn_b0 (hk : k < bs.length) : jn ps bs ps.length k = (jn ps bs ps.length (k + 1)).map ((bs.getD k default).v :: ·) := by
  unfold jn
  rw [dropv bs hk]
  exact join_b _ _ _ (.inl (List.drop_eq_nil_of_le (by rw [List.length_map]; exact Nat.le_refl _)))
theorem jn_a (hi : i < ps.length) (h : k < bs.length → 0 < ordZ (bs.getD k default).was (ps.getD i default).was) : jn ps bs i k = (jn ps bs (i + 1) k).map ((ps.getD i default).v :: ·) := by
  unfold jn
  rw [dropv ps hi]
  rcases Nat.lt_or_ge k bs.length with hk | hk
  · have h3 := ord_spot (ps.getD i default) (bs.getD k default)
    have h4 := h hk
    rw [dropv bs hk]
    exact join_a _ _ _ (.inr ⟨_, _, rfl, by omega⟩)
  · exact join_a _ _ _ (.inl (List.drop_eq_nil_of_le (by rw [List.length_map]; exact hk)))
theorem jn_no (hi : i < ps.length) (hk : k < bs.length) (h : ordZ (bs.getD k default).was (ps.getD i default).was = 0) (hm : ¬ (ps.getD i default).v.meets (bs.getD k default).v) : jn ps bs i k = none := by
  unfold jn
  rw [dropv ps hi, dropv bs hk]
  exact join_no (((ord_spot _ _).2).1 h) hm
theorem jn_idle (hi : i < ps.length) (hk : k < bs.length) (h : ordZ (bs.getD k default).was (ps.getD i default).was = 0) (hm : (ps.getD i default).v.meets (bs.getD k default).v) (hd : ((ps.getD i default).v.then (bs.getD k default).v).idle) : jn ps bs i k = jn ps bs (i + 1) (k + 1) := by
  unfold jn
  rw [dropv ps hi, dropv bs hk]
  exact join_idle (((ord_spot _ _).2).1 h) hm hd
theorem jn_both (hi : i < ps.length) (hk : k < bs.length) (h : ordZ (bs.getD k default).was (ps.getD i default).was = 0) (hm : (ps.getD i default).v.meets (bs.getD k default).v) (hd : ¬ ((ps.getD i default).v.then (bs.getD k default).v).idle) : jn ps bs i k = (jn ps bs (i + 1) (k + 1)).map ((ps.getD i default).v.then (bs.getD k default).v :: ·) := by
  unfold jn
  rw [dropv ps hi, dropv bs hk]
  exact join_both (((ord_spot _ _).2).1 h) hm hd
theorem jn_end (ps bs : List Ch) (zs : List CV) : (jn ps bs ps.length bs.length).map (zs ++ ·) = some zs := by
  unfold jn
  rw [List.drop_eq_nil_of_le (by rw [List.length_map]; exact Nat.le_refl _), List.drop_eq_nil_of_le (by rw [List.length_map]; exact Nat.le_refl _)]
  exact join_fin zs
theorem jn_start (ps bs : List Ch) : joinL (ps.map Ch.v) (bs.map Ch.v) = (jn ps bs 0 0).map (([] : List Ch).map Ch.v ++ ·) := by
  unfold jn
  rw [List.drop_zero, List.drop_zero]
  cases joinL (ps.map Ch.v) (bs.map Ch.v) <;> rfl
theorem may_get (h : AllMay ps) (hi : i < ps.length) : (ps.getD i default).v.may := h _ (by
  rw [List.getD_eq_getElem?_getD, List.getElem?_eq_getElem hi]; exact List.getElem_mem hi)
/-- The spot behind a merged pair. -/
theorem to_then {x y : Ch} (h : x.v.who = y.v.who) (h2 : x.v.kind = y.v.kind) (h3 : x.v.key = y.v.key) : x.was.to y.is = x.v.then y.v := rfl
end
end Go.Fw
set_option linter.unusedVariables false
namespace Go.Fw
open Go
structure Sl where
  key : Nat
  val : Nat
instance : Inhabited Sl := ⟨⟨0, 0⟩⟩
def Sl.cells (s : Sl) : List Value := wc s.key ++ wc s.val
theorem Sl.cells_length (s : Sl) : s.cells.length = 8 := rfl
theorem Sl.cells_one (s : Sl) : ∀ u ∈ s.cells, u.oneCell' = true := fun u hu => by
  simp only [Sl.cells, List.mem_append] at hu
  rcases hu with h | h
  · exact wc_one _ u h
  · exact wc_one _ u h
def Sl.v (s : Sl) : Nat × Nat := (s.key % 2 ^ 256, s.val % 2 ^ 256)
def rowS (cs : List Sl) : List Value := cs.flatMap Sl.cells
theorem rowS_length (cs : List Sl) : (rowS cs).length = cs.length * 8 := flat_length Sl.cells_length cs
theorem rowS_append (xs ys : List Sl) : rowS (xs ++ ys) = rowS xs ++ rowS ys := List.flatMap_append
theorem rowS_snoc (xs : List Sl) (c : Sl) : rowS (xs ++ [c]) = rowS xs ++ c.cells := by rw [rowS_append]; simp [rowS]
theorem rowS_seg (cs : List Sl) (i : Nat) (h : i < cs.length) : ((rowS cs).drop (i * 8)).take 8 = (cs.getD i default).cells := flat_seg Sl.cells_length cs i h
theorem rowS_one (cs : List Sl) : ∀ u ∈ rowS cs, u.oneCell' = true := flat_one Sl.cells_one cs
theorem rowS_sub (cs : List Sl) (i o k : Nat) (h : i < cs.length) (ho : o + k ≤ 8) : ((rowS cs).drop (i * 8 + o)).take k = ((cs.getD i default).cells.drop o).take k := by
  rw [← rowS_seg cs i h, ← List.drop_drop, List.drop_take, List.take_take, Nat.min_eq_left (by omega)]
structure Ac where
  who : Nat
  nonce : Nat
  bal : Nat
  code : List Nat
  sl : List Sl
  cA : Option Addr
  cC : Nat
  sA : Option Addr
  sC : Nat
instance : Inhabited Ac := ⟨⟨0, 0, 0, [], [], none, 0, none, 0⟩⟩
def Ac.cells (a : Ac) : List Value := ac a.who ++ (.int .u64 ((a.nonce : Nat) : Int) :: (wc a.bal ++ [.slice a.cA a.code.length a.cC, .slice a.sA a.sl.length a.sC]))
theorem Ac.cells_length (a : Ac) : a.cells.length = 27 := rfl
theorem Ac.cells_one (c : Ac) : ∀ u ∈ c.cells, u.oneCell' = true := fun u hu => by
  simp only [Ac.cells, List.mem_append, List.mem_cons, List.not_mem_nil, or_false] at hu
  rcases hu with h | rfl | h | rfl | rfl
  · exact ac_one _ u h
  · rfl
  · exact wc_one _ u h
  · rfl
  · rfl
structure Ac.Ok (W : World) (n : Nat) (B : List (Option Nat)) (a : Ac) : Prop where
  hn : a.nonce < 18446744073709551616
  dC : Dg a.code
  lc : a.code.length ≤ 1000000000000
  ls : a.sl.length ≤ 1000000000
  fc : Fit W n B a.cA (rowN .u8 a.code)
  fs : Fit W n B a.sA (rowS a.sl)
theorem Ac.Ok.keep {W w : World} {n : Nat} {B B' : List (Option Nat)} {c : Ac} (h : c.Ok W n B) (k : Keep W n B w B') : c.Ok w n B' := ⟨h.hn, h.dC, h.lc, h.ls, k _ _ h.fc, k _ _ h.fs⟩
def AllA (W : World) (n : Nat) (B : List (Option Nat)) (cs : List Ac) : Prop := ∀ c ∈ cs, c.Ok W n B
theorem AllA.keep {W w : World} {n : Nat} {B B' : List (Option Nat)} {cs : List Ac} (h : AllA W n B cs) (k : Keep W n B w B') : AllA w n B' cs := fun c hc => (h c hc).keep k
theorem AllA.nil {W : World} {n : Nat} {B : List (Option Nat)} : AllA W n B [] := fun c hc => by cases hc
theorem AllA.snoc {W : World} {n : Nat} {B : List (Option Nat)} {cs : List Ac} {c : Ac} (h : AllA W n B cs) (hc : c.Ok W n B) : AllA W n B (cs ++ [c]) := fun x hx => by
  rcases List.mem_append.1 hx with h1 | h1
  · exact h x h1
  · rw [List.mem_singleton.1 h1]; exact hc
theorem AllA.get {W : World} {n : Nat} {B : List (Option Nat)} {cs : List Ac} (h : AllA W n B cs) {i : Nat} (hi : i < cs.length) : (cs.getD i default).Ok W n B := h _ (by
  rw [List.getD_eq_getElem?_getD, List.getElem?_eq_getElem hi]; exact List.getElem_mem hi)
theorem AllA.head {W : World} {n : Nat} {B : List (Option Nat)} {x : Ac} {xs : List Ac} (h : AllA W n B (x :: xs)) : x.Ok W n B := h x List.mem_cons_self
theorem AllA.tail {W : World} {n : Nat} {B : List (Option Nat)} {x : Ac} {xs : List Ac} (h : AllA W n B (x :: xs)) : AllA W n B xs := fun c hc => h c (List.mem_cons_of_mem _ hc)
def rowA (cs : List Ac) : List Value := cs.flatMap Ac.cells
theorem rowA_length (cs : List Ac) : (rowA cs).length = cs.length * 27 := flat_length Ac.cells_length cs
theorem rowA_append (xs ys : List Ac) : rowA (xs ++ ys) = rowA xs ++ rowA ys := List.flatMap_append
theorem rowA_snoc (xs : List Ac) (c : Ac) : rowA (xs ++ [c]) = rowA xs ++ c.cells := by rw [rowA_append]; simp [rowA]
theorem rowA_seg (cs : List Ac) (i : Nat) (h : i < cs.length) : ((rowA cs).drop (i * 27)).take 27 = (cs.getD i default).cells := flat_seg Ac.cells_length cs i h
theorem rowA_one (cs : List Ac) : ∀ u ∈ rowA cs, u.oneCell' = true := flat_one Ac.cells_one cs
theorem rowA_sub (cs : List Ac) (i o k : Nat) (h : i < cs.length) (ho : o + k ≤ 27) : ((rowA cs).drop (i * 27 + o)).take k = ((cs.getD i default).cells.drop o).take k := by
  rw [← rowA_seg cs i h, ← List.drop_drop, List.drop_take, List.take_take, Nat.min_eq_left (by omega)]
theorem rowA_cell (cs : List Ac) (i o : Nat) (h : i < cs.length) (ho : o < 27) : (rowA cs)[i * 27 + o]? = (cs.getD i default).cells[o]? := flat_at Ac.cells_length cs i o h ho
/-- What an account says. -/
structure AV where
  who : Nat
  nonce : Nat
  bal : Nat
  code : List Nat
  sl : List (Nat × Nat)
instance : Inhabited AV := ⟨⟨0, 0, 0, [], []⟩⟩
def Ac.v (a : Ac) : AV := ⟨a.who % 256 ^ 20, a.nonce, a.bal % 2 ^ 256, a.code, a.sl.map Sl.v⟩
/-- What is wrong with an account without code. -/
def lookZ (a : Ac) : Int := if a.nonce = 0 ∧ a.bal % 2 ^ 256 = 0 then 111 else if 0 < a.sl.length then 112 else 0
/-- Nothing stands at any spot. -/
def Ac.void (a : Ac) : Prop := a.nonce = 0 ∧ a.bal % 2 ^ 256 = 0 ∧ a.code.length = 0 ∧ a.sl.length = 0
instance (a : Ac) : Decidable a.void := by unfold Ac.void; infer_instance
theorem sum0 (x : Nat) : sumN [0, x] < 2 ^ 256 := by
  have h := Nat.mod_lt x (show 2 ^ 256 > 0 by decide)
  simp only [sumN, List.map_cons, List.map_nil, List.sum_cons, List.sum_nil]
  omega
theorem X.ret3 {P : Program} {N : Nf} {σ : List (Nat × Value)} {w0 : World} {M : List Nat} {l : List (Nat × Ent)} {fn : Func} {R : Ending → World → Prop} {r s t : ResultVar} {v u y : Value} (hr : fn.results = #[r, s, t]) (hv : RV P w0 M σ l r v) (hu : RV P w0 M σ l s u) (hy : RV P w0 M σ l t y) (h : ∀ w, WS w0 M l w → R (.returned (.tuple #[v, u, y])) w) (hD : N.D = [] := by rfl) : X w0 M N (bodyPost P fn R) .ret σ l := fun a w ha hw =>
  ⟨ha.defers.trans hD, _, by simp [results_rv, hr, hv.run ha hw, hu.run ha hw, hy.run ha hw], h w hw⟩
def Ac.setN (a : Ac) (x : Nat) : Ac := ⟨a.who, if sizeN x > 8 then 0 else lim x 0, a.bal, a.code, a.sl, a.cA, a.cC, a.sA, a.sC⟩
def Ac.setB (a : Ac) (x : Nat) : Ac := ⟨a.who, a.nonce, x, a.code, a.sl, a.cA, a.cC, a.sA, a.sC⟩
end Go.Fw
set_option linter.unusedVariables false
namespace Go.Fw
open Go
section
variable {P : Program} {ops : Array Oper} {F : Act → World → Prop} {w0 w w' : World} {M : List Nat} {N : Nf} {L : List (Oper × K)} {σ : List (Nat × Value)} {l lS : List (Nat × Ent)} {d : Option Tmp} {ty : TypeId} {p : String} {af : Array Edge} {x y : Operand} {v z : Value} {t : TypeId} {kd : IntKind} {k : K}
theorem J.loadB1s {g o : Nat} {cs : List Value} (hc : Cs w0 (some ⟨g, 0, none⟩) cs) (ho : Off M (some ⟨g, 0, none⟩)) (hx : ev σ x = some (.pointer (some ⟨g, o, none⟩))) (ht : OneT P t) (hv : cs[o]? = some v) (hd : okd N d)
    (hJ : J P ops F w0 M N lS L (putd d v σ) l) : J P ops F w0 M N lS ((⟨d, .load t x, ty, p, af, none⟩, .s) :: L) σ l :=
  J.loadI1s hc ho (i := o) (by rw [hx]; simp [add_lit']) ht hv hd hJ
end
end Go.Fw
set_option linter.unusedVariables false
namespace Go.Fw
open Go
/-- The change of a kind between two accounts. -/
def kC (a b : Ac) : Nat → Ch
  | 1 => ⟨a.who, 1, 0, a.nonce, b.nonce, [], [], none, 0, none, 0⟩
  | 2 => ⟨a.who, 2, 0, a.bal, b.bal, [], [], none, 0, none, 0⟩
  | 3 => ⟨a.who, 3, 0, 0, 0, a.code, b.code, a.cA, a.cC, b.cA, b.cC⟩
  | _ => ⟨a.who, 0, 0, 0, 0, [], [], none, 0, none, 0⟩
def bt (a b : Ac) : Nat → List CV
  | 0 => []
  | i + 1 => bt a b i ++ (if (kC a b i).v.idle then [] else [(kC a b i).v])
theorem bt_no {a b : Ac} {i : Nat} (h : (kC a b i).v.idle) : bt a b (i + 1) = bt a b i := by rw [bt, if_pos h, List.append_nil]
theorem bt_yes {a b : Ac} {i : Nat} (h : ¬ (kC a b i).v.idle) : bt a b (i + 1) = bt a b i ++ [(kC a b i).v] := by rw [bt, if_neg h]
theorem bt_0 (a b : Ac) : bt a b (0 + 1) = bt a b 0 := bt_no ⟨rfl, rfl⟩
theorem dg_nil : Dg [] := fun _ h => (by cases h)
theorem kC_ok {W : World} {n : Nat} {B : List (Option Nat)} {a b : Ac} (ha : a.Ok W n B) (hb : b.Ok W n B) : ∀ i, (kC a b i).Ok W n B
  | 1 => ⟨⟨by show (-9223372036854775808 : Int) ≤ 1; decide, by show (1 : Int) ≤ 9223372036854775807; decide⟩, dg_nil, dg_nil, Nat.zero_le _, Nat.zero_le _, Fit.nil, Fit.nil⟩
  | 2 => ⟨⟨by show (-9223372036854775808 : Int) ≤ 2; decide, by show (2 : Int) ≤ 9223372036854775807; decide⟩, dg_nil, dg_nil, Nat.zero_le _, Nat.zero_le _, Fit.nil, Fit.nil⟩
  | 3 => ⟨⟨by show (-9223372036854775808 : Int) ≤ 3; decide, by show (3 : Int) ≤ 9223372036854775807; decide⟩, ha.dC, hb.dC, ha.lc, hb.lc, ha.fc, hb.fc⟩
  | 0 => ⟨⟨by show (-9223372036854775808 : Int) ≤ 0; decide, by show (0 : Int) ≤ 9223372036854775807; decide⟩, dg_nil, dg_nil, Nat.zero_le _, Nat.zero_le _, Fit.nil, Fit.nil⟩
  | _ + 4 => ⟨⟨by show (-9223372036854775808 : Int) ≤ 0; decide, by show (0 : Int) ≤ 9223372036854775807; decide⟩, dg_nil, dg_nil, Nat.zero_le _, Nat.zero_le _, Fit.nil, Fit.nil⟩
end Go.Fw
set_option linter.unusedVariables false
namespace Go.Fw
open Go
section
variable {P : Program} {ops : Array Oper} {F : Act → World → Prop} {w0 w w' : World} {M : List Nat} {N : Nf} {L : List (Oper × K)} {σ : List (Nat × Value)} {l lS : List (Nat × Ent)} {d : Option Tmp} {ty : TypeId} {p : String} {af : Array Edge} {x y : Operand} {v z : Value} {t : TypeId} {kd : IntKind} {k : K} {n : Int}
theorem J.indexN {len e s i m : Nat} {cs vs : List Value} (ht : ArrT P t len e s) (he : AggT P e m) (hx : ev σ x = some (.agg cs.toArray)) (hy : ev σ y = some (.int kd n)) (h0 : 0 ≤ n) (h1 : n < len) (hi : n.toNat = i) (hv : (cs.drop (i * s)).take m = vs) (hd : okd N d)
    (hJ : J P ops F w0 M N lS L (putd d (.agg vs.toArray) σ) l) : J P ops F w0 M N lS ((⟨d, .index t x y, ty, p, af, none⟩, k) :: L) σ l :=
  J.pure rfl hd _ (fun a ha w => by
    subst hi
    subst hv
    have := run_part_agg (P := P) he cs.toArray (n.toNat * s) w
    simp [execOp, ha.eval hx, ha.eval hy, Instr.index, asIntOf, run_underlying ht.1, h0, h1, run_sizeOf ht.2, this]) hJ
theorem run_equalIn_func_nil (w : World) (e : Nat) (t : TypeId) {ps rs : Array TypeId} {b : Bool} (f : Fn) (fs cs : Array Value) (h : P.underlying t = some (.func ps rs b)) : (Op.equalIn (e + 1) t (.func f fs cs) .nilFunc).run P w = .ok false w := by
  simp [Op.equalIn, run_underlying h]
theorem run_equalIn_nil_nilF (w : World) (e : Nat) (t : TypeId) {ps rs : Array TypeId} {b : Bool} (h : P.underlying t = some (.func ps rs b)) : (Op.equalIn (e + 1) t .nilFunc .nilFunc).run P w = .ok true w := by
  simp [Op.equalIn, run_underlying h]
/-- Is a function value nil? -/
theorem J.eqNilF {t' : TypeId} {ps rs : Array TypeId} {b : Bool} {f : Fn} {fs cs : Array Value} (ht : P.underlying t = some (.func ps rs b)) (hx : ev σ x = some (.func f fs cs)) (hy : ev σ y = some .nilFunc) (hd : okd N d) (h : J P ops F w0 M N lS L (putd d (.bool false) σ) l) :
    J P ops F w0 M N lS ((⟨d, .binOp .eql t x y t', ty, p, af, none⟩, k) :: L) σ l :=
  J.eqlR hx hy hd (fun w => by
    rw [eqGuard_at_func]
    have he : (Op.equal t (.func f fs cs) .nilFunc).run P w = .ok false w := run_equalIn_func_nil w 9999 t f fs cs ht
    simp only [Sem.run_bind, Sem.run_pure, Result.andThen_ok, binOp, he]) h
theorem J.eqNilN {t' : TypeId} {ps rs : Array TypeId} {b : Bool} (ht : P.underlying t = some (.func ps rs b)) (hx : ev σ x = some .nilFunc) (hy : ev σ y = some .nilFunc) (hd : okd N d) (h : J P ops F w0 M N lS L (putd d (.bool true) σ) l) :
    J P ops F w0 M N lS ((⟨d, .binOp .eql t x y t', ty, p, af, none⟩, k) :: L) σ l :=
  J.eqlR hx hy hd (fun w => by
    rw [eqGuard_at_nilFunc]
    have he : (Op.equal t .nilFunc .nilFunc).run P w = .ok true w := run_equalIn_nil_nilF w 9999 t ht
    simp only [Sem.run_bind, Sem.run_pure, Result.andThen_ok, binOp, he]) h
end
end Go.Fw
set_option linter.unusedVariables false
namespace Go.Fw
open Go
section
variable {P : Program} {ops : Array Oper} {F : Act → World → Prop} {w0 w w' : World} {M : List Nat} {N : Nf} {L : List (Oper × K)} {σ : List (Nat × Value)} {l lS : List (Nat × Ent)} {d : Option Tmp} {ty : TypeId} {p : String} {af : Array Edge} {x y : Operand} {v z : Value} {t : TypeId} {kd : IntKind} {k : K} {n : Int} {Q : Exit → Act → World → Prop}
theorem J.callVMut (h : Nat) {g : Nat} {cs cs' : List Value} {f : FuncId} {xs : Array Operand} {tys : Array TypeId} {args cap : List Value} (hl : lk l h = some ⟨some g, t, cs⟩) (hh : lk lS h = none) (hf : FnOk P f) (hy : ev σ y = some (.func (.func f) #[] cap.toArray)) (hx : evs σ xs.toList = some args) (hd : okd N d)
    (spec : ∀ w, WS w0 M l w → Calls P f (args ++ cap).toArray w fun e w' => e = .returned v ∧ WS w [g] [(0, ⟨some g, t, cs'⟩)] w')
    (hJ : J P ops F w0 M N lS L (putd d v σ) ((h, ⟨some g, t, cs'⟩) :: l)) :
    J P ops F w0 M N lS ((⟨d, .call ⟨.value y, xs, tys⟩, ty, p, af, none⟩, .l) :: L) σ l :=
  J.callV hf hy hx hd (ι := Unit) (fun _ => True) (fun _ => v) [g] (fun _ => [(h, ⟨some g, t, cs'⟩)]) (fun w hw => (spec w hw).mono fun e w' ⟨he, h2⟩ => ⟨(), trivial, he, h2.only 0 h rfl⟩)
    (fun _ _ q hq => by
      simp at hq; subst hq
      exact ⟨h, _, ⟨some q, t, cs'⟩, hl, rfl, by simp [lk]⟩)
    (fun i j e he => by
      rw [lk_cons] at he
      split at he
      · rename_i hk; subst hk; exact hh
      · simp [lk] at he) (fun _ _ => hJ)
/-- A list of operations, and what is behind it. -/
theorem wpList_app_of_JJ {L2 : List Oper} : ∀ (L : List (Oper × K)) (a : Act) (l : List (Nat × Ent)) (w : World), WS w0 M l w → Sub lS l → JJ P ops (fun a w => wpList P ops Q L2 a w) w0 M lS L a l → wpList P ops Q (L.map (·.1) ++ L2) a w
  | [], a, _, w, hw, _, h => h w hw
  | (o, k) :: L, a, l, w, hw, hS, h => by
    simp only [List.map_cons, List.cons_append, wpList]
    exact wp_of_stepW h hw hS fun a' l' w' h1 h2 h3 => wpList_app_of_JJ L a' l' w' h1 h2 h3
theorem T.textD {id : Nat} {ops : Array Oper} (m : Nat) (ks : List K) (L1 L2 : List Oper) (h1 : ops.toList.take m = L1) (h2 : ops.toList.drop m = L2) (hn : L1.length = ks.length) (h : J P ops (fun a w => wpList P ops Q L2 a w) w0 M N [] (L1.zip ks) σ l) : T P w0 M N Q (.region id ops false) σ l :=
  fun a w ha hw => wp_region_list (by
    have := wpList_app_of_JJ _ a l w hw (Sub.nil _) (h (Sub.nil _) a ha)
    rwa [List.map_fst_zip (by omega), ← h1, ← h2, List.take_append_drop] at this)
/-- A call put off. -/
theorem J.putOff {f : FuncId} {cap : List Value} {tys : Array TypeId} (hy : ev σ y = some (.func (.func f) #[] cap.toArray)) (h : X w0 M ⟨N.n, ⟨.fn (.func f) cap.toArray, #[]⟩ :: N.D⟩ Q .normal σ l) :
    J P ops (fun a w => wpList P ops Q [⟨none, .defer ⟨.value y, #[], tys⟩, ty, p, af, none⟩] a w) w0 M N lS [] σ l := fun hlS a ha w hw => by
  simp only [wpList]
  rw [if_pos (by simp [Region.wanted])]
  refine .inl ?_
  have hr : (execOp a.eval ⟨none, .defer ⟨.value y, #[], tys⟩, ty, p, af, none⟩).run P w = .ok (.defer ⟨.fn (.func f) cap.toArray, #[]⟩) w := by
    simp [execOp, resolve, ha.eval hy, Deferred.ofValue]
  simp only [Oper.wp, hr, Oper.upon]
  exact h _ w ⟨ha.size, by show _ :: a.defers = _; rw [ha.defers], ha.get⟩ hw
/-- A function that runs as what was put off. -/
theorem callsD_of_T {f : FuncId} {fn : Func} {c : Code} {args : List Value} {u : FrameMode} {R : Ending → World → Prop} (M : List Nat) (N : Nat) (l : List (Nat × Ent)) (hf : P.funcs[f]? = some fn) (hb : fn.body = some c) (hN : fn.ntmps = N)
    (hle : args.length ≤ N) (hw : WS w M l w) (h : T P w M ⟨N, []⟩ (bodyPost P fn R) c (argσ 0 args) l) : CallsD P f args.toArray u w fun e u' w' => u' = u ∧ R e w' := by
  refine callsD_of_wp hf hb (h _ _ ⟨by simp [hN]; omega, rfl, fun n v hn => ?_⟩ hw)
  obtain ⟨_, h2⟩ := lk_argσ args 0 n v hn
  have hlt : n < args.length := by
    have := (List.getElem?_eq_some_iff.1 h2).1
    simpa using this
  rw [Nat.sub_zero] at h2
  rw [Array.getElem?_append]
  simp only [List.size_toArray, hlt, if_true, List.getElem?_toArray]
  exact h2
theorem calls_of_TD {f : FuncId} {fn : Func} {c : Code} {args : List Value} {R : Ending → World → Prop} (M : List Nat) (N : Nat) (l : List (Nat × Ent)) (hf : P.funcs[f]? = some fn) (hb : fn.body = some c) (hN : fn.ntmps = N)
    (hle : args.length ≤ N) (hw : WS w M l w) (h : T P w M ⟨N, []⟩ (bodyPostD P fn R) c (argσ 0 args) l) : Calls P f args.toArray w R := by
  refine calls_of_wp_defers hf hb (h _ _ ⟨by simp [hN]; omega, rfl, fun n v hn => ?_⟩ hw)
  obtain ⟨_, h2⟩ := lk_argσ args 0 n v hn
  have hlt : n < args.length := by
    have := (List.getElem?_eq_some_iff.1 h2).1
    simpa using this
  rw [Nat.sub_zero] at h2
  rw [Array.getElem?_append]
  simp only [List.size_toArray, hlt, if_true, List.getElem?_toArray]
  exact h2
/-- The end of a function with one call put off: the call, then what is handed back. -/
theorem X.retD2 {fn : Func} {R : Ending → World → Prop} {r s : ResultVar} {v u : Value} {f : FuncId} {cap : List Value} {M' : List Nat} {l2 : List (Nat × Ent)} (hr : fn.results = #[r, s]) (hD : N.D = [⟨.fn (.func f) cap.toArray, #[]⟩]) (hf : FnOk P f)
    (spec : ∀ w, WS w0 M l w → CallsD P f cap.toArray .returning w fun e u' w' => u' = .returning ∧ (∃ z, e = .returned z) ∧ WS w M' l2 w')
    (hM : ∀ g ∈ M', ∃ k e e2, lk l k = some e ∧ e.id = some g ∧ lk l2 k = some e2)
    (hv : RV P w0 M σ (l2 ++ l) r v) (hu : RV P w0 M σ (l2 ++ l) s u) (h : ∀ w, WS w0 M (l2 ++ l) w → R (.returned (.tuple #[v, u])) w) : X w0 M N (bodyPostD P fn R) .ret σ l := fun a w ha hw => by
  show Leaves P fn a.tmps R a.defers .returning w
  rw [ha.defers.trans hD]
  refine leaves_cons (fun q => by cases q) (f := f) (args := cap.toArray) (by simp [invoke, run_callFunc_enter hf]) ((spec w hw).mono ?_)
  rintro e u' w' ⟨rfl, ⟨z, rfl⟩, h2⟩
  have hw2 := hw.join h2 hM
  exact ⟨_, by simp [results_rv, hr, hv.run ha hw2, hu.run ha hw2], h _ hw2⟩
end
def Ac.coded (a : Ac) (zs : List Nat) (r : RowIx) : Ac := ⟨a.who, a.nonce, a.bal, zs, a.sl, hdOf r.id, r.cap, a.sA, a.sC⟩
/-- The account behind a change of its balance; without code, without slots. -/
def Ac.moved (a : Ac) (x : Nat) (r : RowIx) : Ac := ⟨a.who, a.nonce, x, [], [], hdOf r.id, r.cap, none, 0⟩
theorem Ac.moved_ok {W : World} {n : Nat} {B : List (Option Nat)} {a : Ac} {x : Nat} {r : RowIx} (h : a.nonce < 18446744073709551616) : (a.moved x r).Ok W n B := ⟨h, dg_nil, Nat.zero_le _, Nat.zero_le _, fun i x hx => by simp [Ac.moved, rowN] at hx, fun i x hx => by simp [Ac.moved, rowS] at hx⟩
end Go.Fw
set_option linter.unusedVariables false
namespace Go.Fw
open Go
section
variable {P : Program} {w0 w : World} {M : List Nat} {l : List (Nat × Ent)} {A : Option Addr}
theorem Cs.pre {xs ys : List Value} (h : Cs w A (xs ++ ys)) : Cs w A xs := fun i x hx => h i x (by
  have : i < xs.length := (List.getElem?_eq_some_iff.1 hx).1
  rw [List.getElem?_append_left this]; exact hx)
theorem row_acA {a : Ac} {az : List Ac} (h : Cs w A (rowA (a :: az))) : Cs w A (rowN .u8 (adL a.who)) := Cs.pre (ys := _) (show Cs w A (ac a.who ++ _) from by
  have : rowA (a :: az) = ac a.who ++ ((.int .u64 ((a.nonce : Nat) : Int) :: (wc a.bal ++ [.slice a.cA a.code.length a.cC, .slice a.sA a.sl.length a.sC])) ++ rowA az) := by
    rw [← List.append_assoc]; rfl
  rw [this] at h
  exact h)
theorem row_acC {c : Ch} {cs : List Ch} (h : Cs w A (rowC (c :: cs))) : Cs w A (rowN .u8 (adL c.who)) := Cs.pre (ys := _) (show Cs w A (ac c.who ++ _) from by
  have : rowC (c :: cs) = ac c.who ++ ((.int .i64 c.kind :: (wc c.key ++ (wc c.old ++ (wc c.new ++ [.slice c.oA c.oc.length c.oC, .slice c.nA c.nc.length c.nC])))) ++ rowC cs) := by
    rw [← List.append_assoc]; rfl
  rw [this] at h
  exact h)
theorem off_two (hw : WS w0 M l w) {a b j ga gb : Nat} {ta tb t : TypeId} {ca cb cs : List Value} {r : RowIx} (h1 : lk l a = some ⟨some ga, ta, ca⟩) (h2 : lk l b = some ⟨some gb, tb, cb⟩) (hj : lk l j = some (r.ent t cs)) (hja : a ≠ j) (hjb : b ≠ j) : Off [ga, gb] (hdOf r.id) := fun ad had hm => by
  cases hid : r.id with
  | none => rw [hid] at had; cases had
  | some g =>
    rw [hid] at had
    cases had
    have k1 := hw.apart a j _ _ ga h1 hj hja rfl
    have k2 := hw.apart b j _ _ gb h2 hj hjb rfl
    simp only [RowIx.ent, hid] at k1 k2
    simp only [List.mem_cons, List.not_mem_nil, or_false] at hm
    rcases hm with q | q
    · exact k1 (by rw [q])
    · exact k2 (by rw [q])
theorem WS.two54 {a b : Nat} {ta tb : TypeId} {ca cb : List Value} (h1 : Ent.At w ⟨some a, ta, ca⟩) (h2 : Ent.At w ⟨some b, tb, cb⟩) (hne : a ≠ b) : WS w [a, b] [(5, ⟨some a, ta, ca⟩), (4, ⟨some b, tb, cb⟩)] w :=
  (WS.two h1 h2 hne).pairOf 0 1 rfl rfl (by decide) 5 4 (by decide)
theorem hM54 {a b : Nat} {e1 e2 f1 f2 : Ent} (h1 : lk l 5 = some e1) (h2 : lk l 4 = some e2) (i1 : e1.id = some a) (i2 : e2.id = some b) : ∀ g ∈ [a, b], ∃ k e e', lk l k = some e ∧ e.id = some g ∧ lk [(5, f1), (4, f2)] k = some e' := fun g hg => by
  simp only [List.mem_cons, List.not_mem_nil, or_false] at hg
  rcases hg with rfl | rfl
  · exact ⟨5, e1, f1, h1, i1, rfl⟩
  · exact ⟨4, e2, f2, h2, i2, rfl⟩
end
theorem moved_look {a : Ac} {x : Nat} {r : RowIx} (h : x % 2 ^ 256 ≠ 0) : lookZ (a.moved x r) = 0 := by
  unfold lookZ
  rw [if_neg (fun q => h q.2), if_neg (by simp [Ac.moved])]
theorem moved_void {a : Ac} {x : Nat} {r : RowIx} (h : x % 2 ^ 256 ≠ 0) : ¬ (a.moved x r).void := fun q => h q.2.1
theorem row1A {w : World} {A : Option Addr} {a : Ac} (h : Cs w A a.cells) : Cs w A (rowA [a]) := by rw [show rowA [a] = a.cells ++ [] from rfl, List.append_nil]; exact h
theorem row1C {w : World} {A : Option Addr} {c : Ch} (h : Cs w A c.cells) : Cs w A (rowC [c]) := by rw [show rowC [c] = c.cells ++ [] from rfl, List.append_nil]; exact h
/-- An account with a balance and nothing else. -/
def Ac.ofBal (x : Nat) : Ac := ⟨0, 0, x, [], [], none, 0, none, 0⟩
theorem ofBal_ok {W : World} {n : Nat} {B : List (Option Nat)} (x : Nat) : (Ac.ofBal x).Ok W n B := ⟨by show 0 < _; decide, dg_nil, Nat.zero_le _, Nat.zero_le _, fun i x hx => by simp [Ac.ofBal, rowN] at hx, fun i x hx => by simp [Ac.ofBal, rowS] at hx⟩
def CV.ofBal (x y : Nat) : CV := ⟨0, 2, 0, x, y, [], []⟩
def Ch.ofBal (x y : Nat) : Ch := ⟨0, 2, 0, x, y, [], [], none, 0, none, 0⟩
theorem chBal_ok {W : World} {n : Nat} {B : List (Option Nat)} (x y : Nat) : (Ch.ofBal x y).Ok W n B := ⟨⟨by show (-9223372036854775808 : Int) ≤ 2; decide, by show (2 : Int) ≤ 9223372036854775807; decide⟩, dg_nil, dg_nil, Nat.zero_le _, Nat.zero_le _, Fit.nil, Fit.nil⟩
theorem awake_bt : bt (Ac.ofBal 5) (Ac.ofBal 2) 4 = [CV.ofBal 5 2] := by
  have h1 : (kC (Ac.ofBal 5) (Ac.ofBal 2) 1).v.idle := ⟨rfl, rfl⟩
  have h2 : ¬ (kC (Ac.ofBal 5) (Ac.ofBal 2) 2).v.idle := fun q => by
    have : 5 % 2 ^ 256 = 2 % 2 ^ 256 := q.1
    revert this; decide
  have h3 : (kC (Ac.ofBal 5) (Ac.ofBal 2) 3).v.idle := ⟨rfl, rfl⟩
  rw [bt_no h3, bt_yes h2, bt_no h1, bt_0]
  rfl
theorem one_ch {xs : List Ch} {v : CV} (h : xs.map Ch.v = [v]) : ∃ c, xs = [c] ∧ c.v = v := by
  cases xs with
  | nil => cases h
  | cons c cs =>
    rw [List.map_cons, List.cons.injEq] at h
    exact ⟨c, by rw [List.map_eq_nil_iff.1 h.2], h.1⟩
theorem none_ch {xs : List Ch} (h : xs.map Ch.v = []) : xs = [] := List.map_eq_nil_iff.1 h
structure ChBal (c : Ch) (x y : Nat) : Prop where
  v : c.v = CV.ofBal x y
  kd : c.kind = 2
  oc : c.oc = []
  nc : c.nc = []
  old : x = c.old % 2 ^ 256
  new : c.new % 2 ^ 256 = y
  who : adL c.who = adL 0
theorem chBal {c : Ch} {x y : Nat} (h : c.v = CV.ofBal x y) : ChBal c x y :=
  ⟨h, congrArg CV.kind h, congrArg CV.oc h, congrArg CV.nc h, (congrArg CV.old h).symm, congrArg CV.new h, adL_inj.2 (congrArg CV.who h)⟩
theorem may_bal {x y : Nat} (h : x ≠ y) : (CV.ofBal x y).may := ⟨⟨by show (1 : Int) ≤ 2; decide, by show (2 : Int) ≤ 4; decide, fun q => absurd (show (2 : Int) = 1 from q) (by decide), fun q => absurd (show (2 : Int) = 3 from q) (by decide), fun _ => ⟨rfl, rfl⟩, .inl rfl⟩, fun q => h q.1⟩
theorem form_bal {x y : Nat} (h : x ≠ y) : formZ [CV.ofBal x y] = 0 := by
  show formF none [CV.ofBal x y] = 0
  unfold formF
  rw [if_neg (fun q => q (may_bal h))]
  rfl
theorem spot_bal (x y u v : Nat) : spotZ (CV.ofBal x y) (CV.ofBal u v) = 0 := (spotZ_key rfl rfl).trans rfl
theorem awake_join : joinZ [CV.ofBal 5 2] [CV.ofBal 2 5] = ([], 0) :=
  joinZ_ok (form_bal (by decide)) (form_bal (by decide)) (by rw [join_idle (spot_bal _ _ _ _) ⟨rfl, rfl⟩ ⟨rfl, rfl⟩, join_nil_l])
theorem awake_apart : ¬ apartL [CV.ofBal 5 2] [CV.ofBal 2 5] := fun h => h _ List.mem_cons_self ⟨_, List.mem_cons_self, rfl, rfl, rfl⟩
theorem apart_nil (ps : List CV) : apartL ps [] := fun b hb => by cases hb
theorem some_row {id : Option Nat} {cap : Nat} {sp : List Value} {s n : Nat} (h : (RowIx.mk id cap sp).Ok s n) (hn : 0 < n) : ∃ g, id = some g := Option.isSome_iff_exists.1 (h.some hn)
end Go.Fw
set_option linter.unusedVariables false
namespace Go.Fw
open Go
/-- Where a change is. -/
def CV.sp (c : CV) : Nat × Int × Nat := (c.who, c.kind, c.key)
def NfL (cs : List CV) : Prop := ∀ c ∈ cs, c.key < 2 ^ 256
theorem NfL.head {x : CV} {xs : List CV} (h : NfL (x :: xs)) : x.key < 2 ^ 256 := h x List.mem_cons_self
theorem NfL.tail {x : CV} {xs : List CV} (h : NfL (x :: xs)) : NfL xs := fun c hc => h c (List.mem_cons_of_mem _ hc)
theorem nf_v (ds : List Ch) : NfL (ds.map Ch.v) := fun c hc => by
  obtain ⟨x, _, rfl⟩ := List.mem_map.1 hc
  exact Nat.mod_lt _ (by decide)
theorem key_cmp {x y : Nat} (hx : x < 2 ^ 256) (hy : y < 2 ^ 256) : wcmp x y = cmpZ x y := by
  rw [wcmp_cmpZ, Nat.mod_eq_of_lt hx, Nat.mod_eq_of_lt hy]
theorem spot0 {a b : CV} (ha : a.key < 2 ^ 256) (hb : b.key < 2 ^ 256) : spotZ a b = 0 ↔ a.sp = b.sp := by
  unfold CV.sp
  rw [Prod.mk.injEq, Prod.mk.injEq]
  by_cases h1 : a.who = b.who
  · by_cases h2 : a.kind = b.kind
    · rw [spotZ_key h1 h2, key_cmp ha hb, cmpZ_zero]
      exact ⟨fun q => ⟨h1, h2, q⟩, fun q => q.2.2⟩
    · rw [spotZ_kind h1 h2]
      exact ⟨fun q => absurd (by omega) h2, fun q => absurd q.2.1 h2⟩
  · rw [spotZ_who h1, cmpZ_zero]
    exact ⟨fun q => absurd q h1, fun q => absurd q.1 h1⟩
theorem spot_lt {a b : CV} (ha : a.key < 2 ^ 256) (hb : b.key < 2 ^ 256) : spotZ a b < 0 ↔ a.who < b.who ∨ a.who = b.who ∧ (a.kind < b.kind ∨ a.kind = b.kind ∧ a.key < b.key) := by
  have hc : ∀ x y : Nat, cmpZ x y < 0 ↔ x < y := fun x y => by unfold cmpZ; split <;> (try split) <;> omega
  by_cases h1 : a.who = b.who
  · by_cases h2 : a.kind = b.kind
    · rw [spotZ_key h1 h2, key_cmp ha hb, hc]
      exact ⟨fun q => .inr ⟨h1, .inr ⟨h2, q⟩⟩, fun q => by omega⟩
    · rw [spotZ_kind h1 h2]
      exact ⟨fun q => .inr ⟨h1, .inl (by omega)⟩, fun q => by omega⟩
  · rw [spotZ_who h1, hc]
    exact ⟨fun q => .inl q, fun q => by omega⟩
theorem spot_trans {a b c : CV} (ha : a.key < 2 ^ 256) (hb : b.key < 2 ^ 256) (hc : c.key < 2 ^ 256) (h1 : spotZ a b < 0) (h2 : spotZ b c < 0) : spotZ a c < 0 := by
  rw [spot_lt ha hb] at h1
  rw [spot_lt hb hc] at h2
  rw [spot_lt ha hc]
  omega
theorem sp_fields {a b : CV} (h : a.sp = b.sp) : a.who = b.who ∧ a.kind = b.kind ∧ a.key = b.key := by
  unfold CV.sp at h
  rw [Prod.mk.injEq, Prod.mk.injEq] at h
  exact h
theorem spot_sp_l {a b c : CV} (h : a.sp = b.sp) : spotZ a c = spotZ b c := by
  obtain ⟨h1, h2, h3⟩ := sp_fields h
  unfold spotZ
  rw [h1, h2, h3]
theorem spot_sp_r {a b c : CV} (h : a.sp = b.sp) : spotZ c a = spotZ c b := by
  obtain ⟨h1, h2, h3⟩ := sp_fields h
  unfold spotZ
  rw [h1, h2, h3]
/-- In order. -/
def Ord (cs : List CV) : Prop := cs.Pairwise (fun a b => spotZ a b < 0)
def Above (a : CV) (cs : List CV) : Prop := ∀ c ∈ cs, spotZ a c < 0
theorem formF_iff : ∀ (cs : List CV) (p : Option CV) (hn : NfL cs) (hp : ∀ q, p = some q → q.key < 2 ^ 256), formF p cs = 0 ↔ (∀ c ∈ cs, c.may) ∧ Ord cs ∧ (∀ q, p = some q → Above q cs)
  | [], p, hn, hp => ⟨fun _ => ⟨fun c hc => (by cases hc), List.Pairwise.nil, fun q _ c hc => (by cases hc)⟩, fun _ => rfl⟩
  | x :: cs, p, hn, hp => by
    have ih := formF_iff cs (some x) hn.tail (fun q hq => by cases hq; exact hn.head)
    unfold formF
    constructor
    · intro h
      split at h
      · cases h
      · rename_i hm
        split at h
        · cases h
        · rename_i hb
          obtain ⟨h1, h2, h3⟩ := ih.1 h
          have hx := h3 x rfl
          refine ⟨fun c hc => ?_, List.pairwise_cons.2 ⟨hx, h2⟩, fun q hq c hc => ?_⟩
          · rcases List.mem_cons.1 hc with rfl | hc
            · exact Decidable.not_not.1 hm
            · exact h1 c hc
          · subst hq
            have hqx : spotZ q x < 0 := by
              simp only [badO, decide_eq_true_eq] at hb
              omega
            rcases List.mem_cons.1 hc with rfl | hc
            · exact hqx
            · exact spot_trans (hp q rfl) hn.head (hn.tail c hc) hqx (hx c hc)
    · rintro ⟨h1, h2, h3⟩
      obtain ⟨h4, h5⟩ := List.pairwise_cons.1 h2
      rw [if_neg (fun q => q (h1 x List.mem_cons_self)), if_neg]
      · exact ih.2 ⟨fun c hc => h1 c (List.mem_cons_of_mem _ hc), h5, fun q hq => by cases hq; exact h4⟩
      · cases p with
        | none => simp [badO]
        | some q =>
          have := h3 q rfl x List.mem_cons_self
          simp only [badO, decide_eq_true_eq]
          omega
theorem form_iff {cs : List CV} (hn : NfL cs) : formZ cs = 0 ↔ (∀ c ∈ cs, c.may) ∧ Ord cs := by
  unfold formZ
  rw [formF_iff cs none hn (fun q hq => by cases hq)]
  exact ⟨fun h => ⟨h.1, h.2.1⟩, fun h => ⟨h.1, h.2, fun q hq => by cases hq⟩⟩
/-! ### Turned -/
theorem turn_may {c : CV} (h : c.may) : c.turn.may := by
  unfold CV.may CV.mayL CV.idle CV.turn at *
  dsimp only
  obtain ⟨⟨h1, h2, h3, h4, h5, h6⟩, h7⟩ := h
  exact ⟨⟨h1, h2, fun q => (h3 q).symm, fun q => (h4 q).symm, fun q => (h5 q).symm, h6⟩, fun q => h7 ⟨q.1.symm, q.2.symm⟩⟩
theorem turn_form {cs : List CV} (hn : NfL cs) (h : formZ cs = 0) : formZ (cs.map CV.turn) = 0 := by
  have hn2 : NfL (cs.map CV.turn) := fun c hc => by
    obtain ⟨x, hx, rfl⟩ := List.mem_map.1 hc
    exact hn x hx
  obtain ⟨h1, h2⟩ := (form_iff hn).1 h
  refine (form_iff hn2).2 ⟨fun c hc => ?_, ?_⟩
  · obtain ⟨x, hx, rfl⟩ := List.mem_map.1 hc
    exact turn_may (h1 x hx)
  · exact List.pairwise_map.2 (h2.imp (fun {a b} q => q))
theorem join_turn : ∀ (az bs : List CV) (ha : NfL az) (hb : NfL bs), joinL (bs.map CV.turn) (az.map CV.turn) = (joinL az bs).map (List.map CV.turn)
  | [], bs, _, _ => by rw [List.map_nil, join_nil_r, join_nil_l]; rfl
  | a :: az, [], _, _ => by rw [List.map_nil, join_nil_l, join_nil_r]; rfl
  | a :: az, b :: bs, ha, hb => by
    have hf : spotZ b.turn a.turn = - spotZ a b := spotZ_flip a b
    rw [List.map_cons, List.map_cons]
    by_cases h1 : spotZ a b < 0
    · rw [join_a a az (b :: bs) (.inr ⟨b, bs, rfl, h1⟩), join_b _ _ _ (.inr ⟨b.turn, bs.map CV.turn, rfl, by omega⟩)]
      have ih := join_turn az (b :: bs) ha.tail hb
      rw [List.map_cons] at ih
      rw [ih]
      cases joinL az (b :: bs) <;> simp
    · by_cases h2 : 0 < spotZ a b
      · rw [join_b b (a :: az) bs (.inr ⟨a, az, rfl, h2⟩), join_a _ _ _ (.inr ⟨a.turn, az.map CV.turn, rfl, by omega⟩)]
        have ih := join_turn (a :: az) bs ha hb.tail
        rw [List.map_cons] at ih
        rw [ih]
        cases joinL (a :: az) bs <;> simp
      · have h3 : spotZ a b = 0 := by omega
        have ih := join_turn az bs ha.tail hb.tail
        have hm : b.turn.meets a.turn ↔ a.meets b := by
          unfold CV.meets CV.turn
          dsimp only
          exact ⟨fun q => ⟨q.1.symm, q.2.symm⟩, fun q => ⟨q.1.symm, q.2.symm⟩⟩
        have ht : b.turn.then a.turn = (a.then b).turn := by
          obtain ⟨e1, e2, e3⟩ := sp_fields ((spot0 ha.head hb.head).1 h3)
          unfold CV.then CV.turn
          dsimp only
          rw [e1, e2, e3]
        have hi : (a.then b).turn.idle ↔ (a.then b).idle := ⟨fun q => ⟨q.1.symm, q.2.symm⟩, fun q => ⟨q.1.symm, q.2.symm⟩⟩
        by_cases h4 : a.meets b
        · by_cases h5 : (a.then b).idle
          · rw [join_idle h3 h4 h5, join_idle (by omega) (hm.2 h4) (by rw [ht]; exact hi.2 h5), ih]
          · rw [join_both h3 h4 h5, join_both (by omega) (hm.2 h4) (by rw [ht]; exact fun q => h5 (hi.1 q)), ih, ht]
            cases joinL az bs <;> simp
        · rw [join_no h3 h4, join_no (by omega) (fun q => h4 (hm.1 q))]
          rfl
termination_by az bs => az.length + bs.length
theorem joinZ_some {az bs : List CV} (h : (joinZ az bs).2 = 0) : formZ az = 0 ∧ formZ bs = 0 ∧ joinL az bs = some (joinZ az bs).1 := by
  by_cases h1 : formZ az = 0
  · by_cases h2 : formZ bs = 0
    · cases hj : joinL az bs with
      | some l => rw [joinZ_ok h1 h2 hj]; exact ⟨h1, h2, rfl⟩
      | none => rw [joinZ_no h1 h2 hj] at h; cases h
    · rw [joinZ_b h1 h2] at h; exact absurd h h2
  · rw [joinZ_a h1] at h; exact absurd h h1
theorem joinZ_none {az bs : List CV} (h : (joinZ az bs).2 ≠ 0) : (joinZ az bs).1 = [] := by
  by_cases h1 : formZ az = 0
  · by_cases h2 : formZ bs = 0
    · cases hj : joinL az bs with
      | some l => rw [joinZ_ok h1 h2 hj] at h; exact absurd rfl h
      | none => rw [joinZ_no h1 h2 hj]
    · rw [joinZ_b h1 h2]
  · rw [joinZ_a h1]
theorem joinZ_turn {az bs : List CV} (ha : NfL az) (hb : NfL bs) (h : (joinZ az bs).2 = 0) : joinZ (bs.map CV.turn) (az.map CV.turn) = ((joinZ az bs).1.map CV.turn, 0) := by
  obtain ⟨h1, h2, h3⟩ := joinZ_some h
  have hj := join_turn az bs ha hb
  rw [h3] at hj
  exact joinZ_ok (turn_form hb h2) (turn_form ha h1) hj
/-! ### Whatever holds of the codes -/
theorem join_all {C : CV → Prop} : ∀ (az bs l : List CV) (ha : ∀ c ∈ az, C c) (hb : ∀ c ∈ bs, C c) (hC : ∀ a b, C a → C b → C (a.then b)) (h : joinL az bs = some l), ∀ c ∈ l, C c
  | [], bs, l, ha, hb, hC, h => by rw [join_nil_l] at h; cases h; exact hb
  | a :: az, [], l, ha, hb, hC, h => by rw [join_nil_r] at h; cases h; exact ha
  | a :: az, b :: bs, l, ha, hb, hC, h => by
    have ha2 : ∀ c ∈ az, C c := fun c hc => ha c (List.mem_cons_of_mem _ hc)
    have hb2 : ∀ c ∈ bs, C c := fun c hc => hb c (List.mem_cons_of_mem _ hc)
    have push : ∀ {x : CV} {o : Option (List CV)}, C x → o.map (x :: ·) = some l → (∀ m, o = some m → ∀ c ∈ m, C c) → ∀ c ∈ l, C c := fun {x o} hx ho hm c hc => by
      cases o with
      | none => cases ho
      | some m =>
        cases ho
        rcases List.mem_cons.1 hc with rfl | hc
        · exact hx
        · exact hm m rfl c hc
    by_cases h1 : spotZ a b < 0
    · rw [join_a a az (b :: bs) (.inr ⟨b, bs, rfl, h1⟩)] at h
      exact push (ha a List.mem_cons_self) h (fun m hm => join_all az (b :: bs) m ha2 hb hC hm)
    · by_cases h2 : 0 < spotZ a b
      · rw [join_b b (a :: az) bs (.inr ⟨a, az, rfl, h2⟩)] at h
        exact push (hb b List.mem_cons_self) h (fun m hm => join_all (a :: az) bs m ha hb2 hC hm)
      · have h3 : spotZ a b = 0 := by omega
        by_cases h4 : a.meets b
        · by_cases h5 : (a.then b).idle
          · rw [join_idle h3 h4 h5] at h
            exact join_all az bs l ha2 hb2 hC h
          · rw [join_both h3 h4 h5] at h
            exact push (hC a b (ha a List.mem_cons_self) (hb b List.mem_cons_self)) h (fun m hm => join_all az bs m ha2 hb2 hC hm)
        · rw [join_no h3 h4] at h
          cases h
termination_by az bs => az.length + bs.length
theorem join_len : ∀ (az bs l : List CV) (h : joinL az bs = some l), l.length ≤ az.length + bs.length
  | [], bs, l, h => by rw [join_nil_l] at h; cases h; simp
  | a :: az, [], l, h => by rw [join_nil_r] at h; cases h; simp
  | a :: az, b :: bs, l, h => by
    have push : ∀ {x : CV} {o : Option (List CV)} {n : Nat}, o.map (x :: ·) = some l → (∀ m, o = some m → m.length ≤ n) → l.length ≤ n + 1 := fun {x o n} ho hm => by
      cases o with
      | none => cases ho
      | some m => cases ho; have := hm m rfl; simp; omega
    by_cases h1 : spotZ a b < 0
    · rw [join_a a az (b :: bs) (.inr ⟨b, bs, rfl, h1⟩)] at h
      have := push h (fun m hm => join_len az (b :: bs) m hm)
      simp only [List.length_cons] at *; omega
    · by_cases h2 : 0 < spotZ a b
      · rw [join_b b (a :: az) bs (.inr ⟨a, az, rfl, h2⟩)] at h
        have := push h (fun m hm => join_len (a :: az) bs m hm)
        simp only [List.length_cons] at *; omega
      · have h3 : spotZ a b = 0 := by omega
        by_cases h4 : a.meets b
        · by_cases h5 : (a.then b).idle
          · rw [join_idle h3 h4 h5] at h
            have := join_len az bs l h
            simp only [List.length_cons]; omega
          · rw [join_both h3 h4 h5] at h
            have := push h (fun m hm => join_len az bs m hm)
            simp only [List.length_cons] at *; omega
        · rw [join_no h3 h4] at h
          cases h
termination_by az bs => az.length + bs.length
/-! ### What stands at a spot -/
def at_ (s : Nat × Int × Nat) : List CV → Option CV
  | [] => none
  | c :: cs => if c.sp = s then some c else at_ s cs
theorem at_no {s : Nat × Int × Nat} {c : CV} {cs : List CV} (h : ¬ c.sp = s) : at_ s (c :: cs) = at_ s cs := by rw [at_, if_neg h]
theorem at_yes {s : Nat × Int × Nat} {c : CV} {cs : List CV} (h : c.sp = s) : at_ s (c :: cs) = some c := by rw [at_, if_pos h]
theorem at_sp {s : Nat × Int × Nat} : ∀ {cs : List CV} {c : CV}, at_ s cs = some c → c.sp = s ∧ c ∈ cs
  | [], c, h => by cases h
  | x :: cs, c, h => by
    unfold at_ at h
    split at h
    · rename_i hx; cases h; exact ⟨hx, List.mem_cons_self⟩
    · obtain ⟨h1, h2⟩ := at_sp h
      exact ⟨h1, List.mem_cons_of_mem _ h2⟩
theorem at_above {a : CV} {cs : List CV} (ha : a.key < 2 ^ 256) (hn : NfL cs) (h : Above a cs) : at_ a.sp cs = none := by
  cases hc : at_ a.sp cs with
  | none => rfl
  | some c =>
    obtain ⟨h1, h2⟩ := at_sp hc
    have h3 := h c h2
    have h4 := (spot0 ha (hn c h2)).2 h1.symm
    omega
def J1 : Option CV → Option CV → Option CV
  | none, y => y
  | some a, none => some a
  | some a, some b => if (a.then b).idle then none else some (a.then b)
theorem J1_nr (x : Option CV) : J1 x none = x := by cases x <;> rfl
theorem Ord.head {x : CV} {xs : List CV} (h : Ord (x :: xs)) : Above x xs := (List.pairwise_cons.1 h).1
theorem Ord.tail {x : CV} {xs : List CV} (h : Ord (x :: xs)) : Ord xs := (List.pairwise_cons.1 h).2
theorem Above.trans {a b : CV} {cs : List CV} (ha : a.key < 2 ^ 256) (hb : b.key < 2 ^ 256) (hn : NfL cs) (h1 : spotZ a b < 0) (h2 : Above b cs) : Above a cs := fun c hc => spot_trans ha hb (hn c hc) h1 (h2 c hc)
theorem join_nf {az bs l : List CV} (ha : NfL az) (hb : NfL bs) (h : joinL az bs = some l) : NfL l := join_all az bs l ha hb (fun a b h1 _ => h1) h
theorem join_above {x : CV} {az bs l : List CV} (ha : Above x az) (hb : Above x bs) (h : joinL az bs = some l) : Above x l :=
  join_all (C := fun c => spotZ x c < 0) az bs l ha hb (fun a b h1 _ => by rw [spot_sp_r (show (a.then b).sp = a.sp from rfl)]; exact h1) h
theorem above_cons {x b : CV} {bs : List CV} (hx : x.key < 2 ^ 256) (hb : b.key < 2 ^ 256) (hn : NfL bs) (h : spotZ x b < 0) (ho : Above b bs) : Above x (b :: bs) := fun c hc => by
  rcases List.mem_cons.1 hc with rfl | hc
  · exact h
  · exact spot_trans hx hb (hn c hc) h (ho c hc)
theorem join_spec : ∀ (az bs l : List CV) (ha : NfL az) (hb : NfL bs) (oa : Ord az) (ob : Ord bs) (h : joinL az bs = some l),
    Ord l ∧ ∀ s, at_ s l = J1 (at_ s az) (at_ s bs) ∧ (∀ a b, at_ s az = some a → at_ s bs = some b → a.meets b)
  | [], bs, l, ha, hb, oa, ob, h => by
    rw [join_nil_l] at h
    cases h
    exact ⟨ob, fun s => ⟨rfl, fun a b q => by cases q⟩⟩
  | a :: az, [], l, ha, hb, oa, ob, h => by
    rw [join_nil_r] at h
    cases h
    exact ⟨oa, fun s => ⟨(J1_nr _).symm, fun a b _ q => by cases q⟩⟩
  | a :: az, b :: bs, l, ha, hb, oa, ob, h => by
    by_cases h1 : spotZ a b < 0
    · rw [join_a a az (b :: bs) (.inr ⟨b, bs, rfl, h1⟩)] at h
      cases hm : joinL az (b :: bs) with
      | none => rw [hm] at h; cases h
      | some m =>
        rw [hm] at h
        cases h
        obtain ⟨o1, s1⟩ := join_spec az (b :: bs) m ha.tail hb oa.tail ob hm
        have hab : Above a (b :: bs) := above_cons ha.head hb.head hb.tail h1 ob.head
        refine ⟨List.pairwise_cons.2 ⟨join_above oa.head hab hm, o1⟩, fun s => ?_⟩
        by_cases hs : a.sp = s
        · subst hs
          have hn := at_above ha.head hb hab
          rw [hn, J1_nr]
          exact ⟨by simp [at_], fun _ _ _ q => by cases q⟩
        · obtain ⟨s2, s3⟩ := s1 s
          exact ⟨by rw [at_no hs, s2, at_no hs], fun x y hx hy => by rw [at_no hs] at hx; exact s3 x y hx hy⟩
    · by_cases h2 : 0 < spotZ a b
      · rw [join_b b (a :: az) bs (.inr ⟨a, az, rfl, h2⟩)] at h
        have h1' : spotZ b a < 0 := by rw [spotZ_flip]; omega
        cases hm : joinL (a :: az) bs with
        | none => rw [hm] at h; cases h
        | some m =>
          rw [hm] at h
          cases h
          obtain ⟨o1, s1⟩ := join_spec (a :: az) bs m ha hb.tail oa ob.tail hm
          have hab : Above b (a :: az) := above_cons hb.head ha.head ha.tail h1' oa.head
          refine ⟨List.pairwise_cons.2 ⟨join_above hab ob.head hm, o1⟩, fun s => ?_⟩
          by_cases hs : b.sp = s
          · subst hs
            have hn := at_above hb.head ha hab
            rw [hn]
            exact ⟨by simp [at_, J1], fun _ _ q => by cases q⟩
          · obtain ⟨s2, s3⟩ := s1 s
            exact ⟨by rw [at_no hs, s2, at_no (cs := bs) hs], fun x y hx hy => by rw [at_no hs] at hy; exact s3 x y hx hy⟩
      · have h3 : spotZ a b = 0 := by omega
        have hsp := (spot0 ha.head hb.head).1 h3
        have hna : at_ a.sp az = none := at_above ha.head ha.tail oa.head
        have hnb : at_ a.sp bs = none := by rw [hsp]; exact at_above hb.head hb.tail ob.head
        have hba : Above a bs := fun c hc => by rw [spot_sp_l hsp]; exact ob.head c hc
        by_cases h4 : a.meets b
        · by_cases h5 : (a.then b).idle
          · rw [join_idle h3 h4 h5] at h
            obtain ⟨o1, s1⟩ := join_spec az bs l ha.tail hb.tail oa.tail ob.tail h
            refine ⟨o1, fun s => ?_⟩
            obtain ⟨s2, s3⟩ := s1 s
            by_cases hs : a.sp = s
            · subst hs
              refine ⟨?_, fun x y hx hy => ?_⟩
              · rw [s2, hna, hnb, at_yes rfl, at_yes hsp.symm]
                simp [J1, h5]
              · rw [at_yes rfl] at hx
                rw [at_yes hsp.symm] at hy
                cases hx; cases hy; exact h4
            · refine ⟨?_, fun x y hx hy => ?_⟩
              · rw [s2, at_no hs, at_no (c := b) (by rw [← hsp]; exact hs)]
              · rw [at_no hs] at hx
                rw [at_no (by rw [← hsp]; exact hs)] at hy
                exact s3 x y hx hy
          · rw [join_both h3 h4 h5] at h
            cases hm : joinL az bs with
            | none => rw [hm] at h; cases h
            | some m =>
              rw [hm] at h
              cases h
              obtain ⟨o1, s1⟩ := join_spec az bs m ha.tail hb.tail oa.tail ob.tail hm
              have hab : Above (a.then b) m := fun c hc => by
                rw [spot_sp_l (show (a.then b).sp = a.sp from rfl)]
                exact join_above oa.head hba hm c hc
              refine ⟨List.pairwise_cons.2 ⟨hab, o1⟩, fun s => ?_⟩
              obtain ⟨s2, s3⟩ := s1 s
              by_cases hs : a.sp = s
              · subst hs
                refine ⟨?_, fun x y hx hy => ?_⟩
                · rw [at_yes (show (a.then b).sp = a.sp from rfl), at_yes rfl, at_yes hsp.symm]
                  simp [J1, h5]
                · rw [at_yes rfl] at hx
                  rw [at_yes hsp.symm] at hy
                  cases hx; cases hy; exact h4
              · refine ⟨?_, fun x y hx hy => ?_⟩
                · rw [at_no (show ¬ (a.then b).sp = s from hs), s2, at_no (c := a) hs, at_no (c := b) (by rw [← hsp]; exact hs)]
                · rw [at_no hs] at hx
                  rw [at_no (by rw [← hsp]; exact hs)] at hy
                  exact s3 x y hx hy
        · rw [join_no h3 h4] at h
          cases h
termination_by az bs => az.length + bs.length
theorem at_ext : ∀ (ps qs : List CV) (hp : NfL ps) (hq : NfL qs) (op : Ord ps) (oq : Ord qs) (h : ∀ s, at_ s ps = at_ s qs), ps = qs
  | [], [], _, _, _, _, _ => rfl
  | [], q :: qs, _, _, _, _, h => by have := h q.sp; simp [at_] at this
  | p :: ps, [], _, _, _, _, h => by have := h p.sp; simp [at_] at this
  | p :: ps, q :: qs, hp, hq, op, oq, h => by
    have hpq : p.sp = q.sp := by
      rcases Int.lt_trichotomy (spotZ p q) 0 with h1 | h1 | h1
      · have h2 := h p.sp
        rw [at_yes rfl, at_above hp.head hq (above_cons hp.head hq.head hq.tail h1 oq.head)] at h2
        cases h2
      · exact (spot0 hp.head hq.head).1 h1
      · have h2 := h q.sp
        rw [at_above hq.head hp (above_cons hq.head hp.head hp.tail (by rw [spotZ_flip]; omega) op.head), at_yes rfl] at h2
        cases h2
    have he : p = q := by
      have h2 := h p.sp
      rw [at_yes rfl, at_yes hpq.symm] at h2
      exact Option.some.inj h2
    subst he
    congr 1
    refine at_ext ps qs hp.tail hq.tail op.tail oq.tail (fun s => ?_)
    by_cases hs : p.sp = s
    · subst hs
      rw [at_above hp.head hp.tail op.head, at_above hp.head hq.tail oq.head]
    · have h2 := h s
      rwa [at_no hs, at_no hs] at h2
/-- Either grouping. -/
theorem J1_assoc {s : Nat × Int × Nat} {A B C : Option CV} (hA : ∀ a, A = some a → a.sp = s ∧ ¬ a.idle) (hB : ∀ a, B = some a → a.sp = s ∧ ¬ a.idle) (hC : ∀ a, C = some a → a.sp = s ∧ ¬ a.idle)
    (h1 : ∀ a b, A = some a → B = some b → a.meets b) (h2 : ∀ b c, B = some b → C = some c → b.meets c)
    (h3 : ∀ x c, J1 A B = some x → C = some c → x.meets c) (h4 : ∀ a y, A = some a → J1 B C = some y → a.meets y) : J1 (J1 A B) C = J1 A (J1 B C) := by
  cases A with
  | none => simp [J1]
  | some a =>
    cases B with
    | none => cases C <;> rfl
    | some b =>
      cases C with
      | none => rw [J1_nr, J1_nr]
      | some c =>
        have m1 := h1 a b rfl rfl
        have m2 := h2 b c rfl rfl
        obtain ⟨sa, na⟩ := hA a rfl
        obtain ⟨sb, nb⟩ := hB b rfl
        obtain ⟨sc, nc⟩ := hC c rfl
        obtain ⟨x1, x2, x3⟩ := sp_fields (sa.trans sb.symm)
        obtain ⟨y1, y2, y3⟩ := sp_fields (sa.trans sc.symm)
        cases a; cases b; cases c
        simp only [CV.meets, CV.idle] at m1 m2 na nb nc
        dsimp only at x1 x2 x3 y1 y2 y3
        obtain ⟨m3, m4⟩ := m1
        obtain ⟨m5, m6⟩ := m2
        subst x1 x2 x3 y1 y2 y3 m3 m4 m5 m6
        have e1 : ∀ x y : CV, J1 (some x) (some y) = if x.old = y.new ∧ x.oc = y.nc then none else some (x.then y) := fun x y => rfl
        rw [e1, e1]
        split <;> split
        · rename_i q1 q2
          obtain ⟨q3, q4⟩ := q1
          obtain ⟨q5, q6⟩ := q2
          dsimp only at q3 q4 q5 q6
          subst q3 q4 q5 q6
          rfl
        · rename_i q1 q2
          obtain ⟨q3, q4⟩ := q1
          dsimp only at q3 q4 q2
          subst q3 q4
          rw [show ∀ y : CV, J1 none (some y) = some y from fun y => rfl, e1, if_neg]
          · rfl
          · exact nc
        · rename_i q1 q2
          obtain ⟨q5, q6⟩ := q2
          dsimp only at q5 q6 q1
          subst q5 q6
          rw [show ∀ y : CV, J1 (some y) none = some y from fun y => rfl, e1, if_neg]
          · rfl
          · exact na
        · rw [e1, e1]
          rfl
theorem join_assoc {az bs cs x y p q : List CV} (ha : NfL az) (hb : NfL bs) (hc : NfL cs) (fa : formZ az = 0) (fb : formZ bs = 0) (fc : formZ cs = 0)
    (hx : joinL az bs = some x) (hy : joinL bs cs = some y) (hp : joinL x cs = some p) (hq : joinL az y = some q) : p = q := by
  obtain ⟨ma, oa⟩ := (form_iff ha).1 fa
  obtain ⟨mb, ob⟩ := (form_iff hb).1 fb
  obtain ⟨mc, oc⟩ := (form_iff hc).1 fc
  obtain ⟨ox, sx⟩ := join_spec az bs x ha hb oa ob hx
  obtain ⟨oy, sy⟩ := join_spec bs cs y hb hc ob oc hy
  have nx := join_nf ha hb hx
  have ny := join_nf hb hc hy
  obtain ⟨op, sp⟩ := join_spec x cs p nx hc ox oc hp
  obtain ⟨oq, sq⟩ := join_spec az y q ha ny oa oy hq
  refine at_ext p q (join_nf nx hc hp) (join_nf ha ny hq) op oq (fun s => ?_)
  rw [(sp s).1, (sq s).1, (sx s).1, (sy s).1]
  refine J1_assoc (s := s) (fun a h => ⟨(at_sp h).1, (ma a (at_sp h).2).2⟩) (fun a h => ⟨(at_sp h).1, (mb a (at_sp h).2).2⟩) (fun a h => ⟨(at_sp h).1, (mc a (at_sp h).2).2⟩) (sx s).2 (sy s).2 (fun z c h1 h2 => ?_) (fun a z h1 h2 => ?_)
  · exact (sp s).2 z c ((sx s).1.trans h1) h2
  · exact (sq s).2 a z h1 ((sy s).1.trans h2)
/-! ### Apart -/
theorem meetsAt_sp {a b : CV} : a.meetsAt b ↔ a.sp = b.sp := by
  unfold CV.meetsAt CV.sp
  rw [Prod.mk.injEq, Prod.mk.injEq]
theorem apart_symm {az bs : List CV} (h : apartL az bs) : apartL bs az := fun b hb ⟨a, ha, hm⟩ => h a ha ⟨b, hb, meetsAt_sp.2 (meetsAt_sp.1 hm).symm⟩
theorem apart_iff (az bs : List CV) : apartL az bs ↔ apartL bs az := ⟨apart_symm, apart_symm⟩
theorem apart_join : ∀ (az bs : List CV) (ha : NfL az) (hb : NfL bs) (h : apartL az bs), ∃ l, joinL az bs = some l ∧ joinL bs az = some l ∧ l.length = az.length + bs.length
  | [], bs, _, _, _ => ⟨bs, join_nil_l _, join_nil_r _, by simp⟩
  | a :: az, [], _, _, _ => ⟨a :: az, join_nil_r _, join_nil_l _, by simp⟩
  | a :: az, b :: bs, ha, hb, h => by
    have h0 : spotZ a b ≠ 0 := fun q => h b List.mem_cons_self ⟨a, List.mem_cons_self, meetsAt_sp.2 ((spot0 ha.head hb.head).1 q)⟩
    have hf := spotZ_flip a b
    by_cases h1 : spotZ a b < 0
    · obtain ⟨l, l1, l2, l3⟩ := apart_join az (b :: bs) ha.tail hb (fun y hy ⟨x, hx, hm⟩ => h y hy ⟨x, List.mem_cons_of_mem _ hx, hm⟩)
      refine ⟨a :: l, ?_, ?_, by simp only [List.length_cons] at *; omega⟩
      · rw [join_a a az (b :: bs) (.inr ⟨b, bs, rfl, h1⟩), l1]; rfl
      · rw [join_b a (b :: bs) az (.inr ⟨b, bs, rfl, by omega⟩), l2]; rfl
    · obtain ⟨l, l1, l2, l3⟩ := apart_join (a :: az) bs ha hb.tail (fun y hy hx => h y (List.mem_cons_of_mem _ hy) hx)
      refine ⟨b :: l, ?_, ?_, by simp only [List.length_cons] at *; omega⟩
      · rw [join_b b (a :: az) bs (.inr ⟨a, az, rfl, by omega⟩), l1]; rfl
      · rw [join_a b bs (a :: az) (.inr ⟨a, az, rfl, by omega⟩), l2]; rfl
termination_by az bs => az.length + bs.length
theorem joinZ_nil_r (az : List CV) : joinZ az [] = if formZ az ≠ 0 then ([], formZ az) else (az, 0) := by
  by_cases h : formZ az = 0
  · rw [if_neg (fun q => q h)]; exact joinZ_ok h rfl (join_nil_r _)
  · rw [if_pos h]; exact joinZ_a h
theorem joinZ_nil_l (bs : List CV) : joinZ [] bs = if formZ bs ≠ 0 then ([], formZ bs) else (bs, 0) := by
  by_cases h : formZ bs = 0
  · rw [if_neg (fun q => q h)]; exact joinZ_ok rfl h (join_nil_l _)
  · rw [if_pos h]; exact joinZ_b rfl h
end Go.Fw
set_option linter.unusedVariables false
namespace Go.Fw
open Go Go.ChangeShapes Go.WideShapes Go.ChangeAt Go.RowKit
/-- A step. -/
structure OpD where
  k : Int
  b : Bool
  n : Int
  m : Int
  p : Int
  x : Nat
  y : Nat
  A : Option Addr
  c : Nat
  bs : List Nat
def OpD.zero : OpD := ⟨0, false, 0, 0, 0, 0, 0, none, 0, []⟩
abbrev OpD.cs (o : OpD) : List Value := opc o.k o.b o.n o.m o.p o.x o.y (.slice o.A o.bs.length o.c)
def i64r (n : Int) : Prop := -9223372036854775808 ≤ n ∧ n ≤ 9223372036854775807
structure OpD.Ok (W : World) (o : OpD) : Prop where
  k : i64r o.k
  n : i64r o.n
  m : i64r o.m
  p : i64r o.p
  x : o.x < 2 ^ 256
  y : o.y < 2 ^ 256
  cs : Cs W o.A (rowN .u8 o.bs)
  dg : Dg o.bs
  le : o.bs.length ≤ o.c
  max : o.c ≤ maxLen
def rowO (os : List OpD) : List Value := os.flatMap OpD.cs
theorem rowO_length (os : List OpD) : (rowO os).length = os.length * 14 := by
  induction os with
  | nil => rfl
  | cons x xs ih =>
    show (x.cs ++ rowO xs).length = _
    rw [List.length_append, ih, opc_length, List.length_cons]; omega
theorem rowO_drop (os : List OpD) (i : Nat) : (rowO os).drop (i * 14) = rowO (os.drop i) := by
  induction os generalizing i with
  | nil => simp [rowO]
  | cons x xs ih =>
    cases i with
    | zero => simp [rowO]
    | succ i =>
      have e : (i + 1) * 14 = x.cs.length + i * 14 := by rw [opc_length]; omega
      rw [e]
      simp only [rowO, List.flatMap_cons, List.drop_succ_cons] at ih ⊢
      rw [List.drop_length_add_append, ih]
theorem rowO_seg (os : List OpD) (i : Nat) (h : i < os.length) : ((rowO os).drop (i * 14)).take 14 = (os.getD i OpD.zero).cs := by
  rw [rowO_drop, List.drop_eq_getElem_cons h]
  simp only [rowO, List.flatMap_cons]
  rw [List.take_append_of_le_length (by rw [opc_length]; omega), List.take_of_length_le (by rw [opc_length]; omega)]
  simp [List.getD, h]
section
variable {P : Program} {W : World} {H : Type} {enc : TypeId × Value → H} {base : Nat} {sp : Nat → Bool} {held : Bool}
/-- The table's rows for a step. -/
structure OpT (P : Program) (t ti tb tw tx ts te : TypeId) : Prop where
  str : (match P.underlying t with | some (.struct fs) => fs.toList.map (fun f => (f.type, f.offset)) | _ => []) = [(ti, 0), (tb, 1), (ti, 2), (ti, 3), (ti, 4), (tw, 5), (tw, 9), (ts, 13)]
  size : P.cellsOf t = 14
  int : P.underlying ti = some (.int .i64)
  int1 : P.cellsOf ti = 1
  bool : P.underlying tb = some .bool
  bool1 : P.cellsOf tb = 1
  word : WordT P tw tx
  sl : P.underlying ts = some (.slice te)
  sl1 : P.cellsOf ts = 1
  byte : P.underlying te = some (.int .u8)
  byte1 : P.cellsOf te = 1

theorem trod_bool1 {t : TypeId} (ht : P.underlying t = some .bool) {fuel : Nat} {cs : List Value} {x : DataW H × List MemPlace} (h : DataW.trod enc P W base sp held fuel t cs = some x) : ∃ b, cs = [.bool b] := by
  cases fuel with
  | zero => simp [DataW.trod] at h
  | succ m =>
    unfold DataW.trod at h
    rw [ht] at h
    match cs, h with
    | [.bool b], _ => exact ⟨b, rfl⟩
/-- Bytes, from one cell. -/
theorem trod_bytes {t e : TypeId} (ht : P.underlying t = some (.slice e)) (he : P.underlying e = some (.int .u8)) (hc : P.cellsOf e = 1) {fuel : Nat} {cs : List Value} {x : DataW H × List MemPlace} (h : DataW.trod enc P W base sp held fuel t cs = some x) :
    ∃ (A : Option Addr) (c : Nat) (xs : List Nat), cs = [.slice A xs.length c] ∧ Cs W A (rowN .u8 xs) ∧ Dg xs ∧ xs.length ≤ c ∧ c ≤ maxLen := by
  rcases DataW.trod_slice ht h with ⟨h0, _⟩ | ⟨a, len, cap, elems, rest, n, _, h0, _, hb, hl, hm, hlen, hel, _, _⟩
  · exact ⟨none, 0, [], h0, Cs.nil _ _, Dg.nil, Nat.le_refl _, Nat.zero_le _⟩
  · subst h0
    rw [hc] at hel
    have each : ∀ i, i < len → ∃ n : Nat, n < 256 ∧ W.cell? (a.add i) = some (.int .u8 (n : Int)) := fun i hi => by
      have h1 := hel i hi
      rw [List.getElem?_eq_getElem (by omega)] at h1
      cases hc2 : W.cells? base (a.add (i * 1)) 1 with
      | none => rw [hc2] at h1; cases h1
      | some cs =>
        rw [hc2] at h1
        obtain ⟨n, e1, _, e2⟩ := DataW.trod_int he h1
        obtain ⟨_, e3⟩ := cells_at hc2
        have e4 := e3 0 (by omega)
        rw [e1, Addr.add_add] at e4
        have := wf_u8 e2
        refine ⟨n.toNat, by omega, ?_⟩
        rw [Int.toNat_of_nonneg this.1]
        simpa using e4
    let f : Nat → Nat := fun i => if h : i < len then (each i h).choose else 0
    have hf1 : ∀ i, i < len → f i < 256 ∧ W.cell? (a.add i) = some (.int .u8 (f i : Int)) := fun i hi => by
      have := (each i hi).choose_spec
      simp only [f, dif_pos hi]
      exact this
    refine ⟨some a, cap, (List.range len).map f, by simp, fun i x hx => ⟨a, rfl, ?_⟩, fun y hy => ?_, by simpa using hl, hm⟩
    · have hi : i < len := by
        have := (List.getElem?_eq_some_iff.1 hx).1
        simpa [rowN] using this
      rw [(hf1 i hi).2, ← hx]
      simp [rowN, hi]
    · simp only [List.mem_map, List.mem_range] at hy
      obtain ⟨i, hi, rfl⟩ := hy
      exact (hf1 i hi).1

theorem len1 {cs : List Value} {v : Value} (h : cs = [v]) : cs = [v] := h
/-- A step's cells. -/
theorem trod_op {t ti tb tw tx ts te : TypeId} (T : OpT P t ti tb tw tx ts te) {fuel : Nat} {cs : List Value} {x : DataW H × List MemPlace} (h : DataW.trod enc P W base sp held fuel t cs = some x) : ∃ o : OpD, o.Ok W ∧ cs = o.cs := by
  cases hu : P.underlying t with
  | none => have := T.str; rw [hu] at this; simp at this
  | some dd =>
    cases dd with
    | struct fs =>
      have hs := T.str
      rw [hu] at hs
      simp only at hs
      obtain ⟨xs, m, _, _, hl, hxl, hf⟩ := DataW.trod_struct hu h
      rw [T.size] at hl
      have get : ∀ (i : Nat) (ft off : Nat), [(ti, 0), (tb, 1), (ti, 2), (ti, 3), (ti, 4), (tw, 5), (tw, 9), (ts, 13)][i]? = some (ft, off) → ∃ y, DataW.trod enc P W base sp held m ft ((cs.drop off).take (P.cellsOf ft)) = some y := by
        intro i ft off hi
        rw [← hs, List.getElem?_map, Option.map_eq_some_iff] at hi
        obtain ⟨f, h1, h2⟩ := hi
        have h3 : fs[i]? = some f := by rw [← Array.getElem?_toList]; exact h1
        have h4 := hf i f h3
        simp only [Prod.mk.injEq] at h2
        rw [h2.1, h2.2] at h4
        have hlt : i < xs.length := by rw [hxl]; exact (Array.getElem?_eq_some_iff.1 h3).1
        rw [List.getElem?_eq_getElem hlt] at h4
        exact ⟨_, h4⟩
      obtain ⟨y0, h0⟩ := get 0 ti 0 rfl
      obtain ⟨y1, h1⟩ := get 1 tb 1 rfl
      obtain ⟨y2, h2⟩ := get 2 ti 2 rfl
      obtain ⟨y3, h3⟩ := get 3 ti 3 rfl
      obtain ⟨y4, h4⟩ := get 4 ti 4 rfl
      obtain ⟨y5, h5⟩ := get 5 tw 5 rfl
      obtain ⟨y6, h6⟩ := get 6 tw 9 rfl
      obtain ⟨y7, h7⟩ := get 7 ts 13 rfl
      rw [T.int1] at h0 h2 h3 h4
      rw [T.bool1] at h1
      rw [T.word.four] at h5 h6
      rw [T.sl1] at h7
      obtain ⟨k, e0, _, w0⟩ := DataW.trod_int T.int h0
      obtain ⟨b, e1⟩ := trod_bool1 T.bool h1
      obtain ⟨n, e2, _, w2⟩ := DataW.trod_int T.int h2
      obtain ⟨q, e3, _, w3⟩ := DataW.trod_int T.int h3
      obtain ⟨p, e4, _, w4⟩ := DataW.trod_int T.int h4
      obtain ⟨u, w5, e5⟩ := trod_word T.word h5
      obtain ⟨v, w6, e6⟩ := trod_word T.word h6
      obtain ⟨A, c, bs, e7, c1, c2, c3, c4⟩ := trod_bytes T.sl T.byte T.byte1 h7
      refine ⟨⟨k, b, n, q, p, u, v, A, c, bs⟩, ⟨wf_i64 w0, wf_i64 w2, wf_i64 w3, wf_i64 w4, w5, w6, c1, c2, c3, c4⟩, ?_⟩
      match cs, hl with
      | [a0, a1, a2, a3, a4, a5, a6, a7, a8, a9, a10, a11, a12, a13], _ =>
        simp only [List.drop_zero, List.take_succ_cons, List.take_zero, List.drop_succ_cons, List.cons.injEq, and_true] at e0 e1 e2 e3 e4 e5 e6 e7
        show _ = [.int .i64 k, .bool b, .int .i64 n, .int .i64 q, .int .i64 p] ++ (wc u ++ (wc v ++ [.slice A bs.length c]))
        rw [← e5, ← e6, e0, e1, e2, e3, e4, e7]
        rfl
    | _ => have := T.str; rw [hu] at this; simp at this

/-- Scripts. -/
theorem open_opsN {r : Reach} {b0 : Nat} {t e ti tb tw tx ts te : TypeId} (ht : P.underlying t = some (.slice e)) (T : OpT P e ti tb tw tx ts te) {v : Value} {d : DataW H} {ps : List MemPlace} (hv : Value.okWide P W r b0 t v)
    (h : DataW.Trod enc P W base sp held t v d ps) : ∃ (A : Option Addr) (c : Nat) (os : List OpD), v = .slice A os.length c ∧ Cs W A (rowO os) ∧ (∀ i, i < os.length → (os.getD i OpD.zero).Ok W) ∧ os.length ≤ c ∧ c ≤ maxLen := by
  obtain ⟨A, len, cap, rfl⟩ := okWide_slice ht hv
  obtain ⟨fuel, hf⟩ := h
  rcases DataW.trod_slice ht hf with ⟨h0, _⟩ | ⟨a, l, c, elems, rest, n, _, h0, _, hb, hl, hm, hlen, hel, _, _⟩
  · simp [Value.cells] at h0
    obtain ⟨rfl, rfl, rfl⟩ := h0
    exact ⟨none, 0, [], rfl, Cs.nil _ _, fun i hi => by simp at hi, Nat.le_refl _, Nat.zero_le _⟩
  · simp [Value.cells] at h0
    obtain ⟨rfl, rfl, rfl⟩ := h0
    rw [T.size] at hel
    have each : ∀ i, i < len → ∃ o : OpD, o.Ok W ∧ ∀ j, j < 14 → W.cell? (a.add (i * 14 + j)) = o.cs[j]? := fun i hi => by
      have h1 := hel i hi
      rw [List.getElem?_eq_getElem (by omega)] at h1
      cases hc2 : W.cells? base (a.add (i * 14)) 14 with
      | none => rw [hc2] at h1; cases h1
      | some cs =>
        rw [hc2] at h1
        obtain ⟨o, e1, e2⟩ := trod_op T h1
        obtain ⟨_, e3⟩ := cells_at hc2
        refine ⟨o, e1, fun j hj => ?_⟩
        rw [← Addr.add_add, e3 j hj, e2]
    let f : Nat → OpD := fun i => if h : i < len then (each i h).choose else OpD.zero
    have hf1 : ∀ i, i < len → (f i).Ok W ∧ ∀ j, j < 14 → W.cell? (a.add (i * 14 + j)) = (f i).cs[j]? := fun i hi => by
      have := (each i hi).choose_spec
      simp only [f, dif_pos hi]
      exact this
    have hget : ∀ i, i < len → ((List.range len).map f).getD i OpD.zero = f i := fun i hi => by simp [List.getD, hi]
    refine ⟨some a, cap, (List.range len).map f, by simp, fun i x hx => ⟨a, rfl, ?_⟩, fun i hi => ?_, by simpa using hl, hm⟩
    · have hi : i < len * 14 := by
        have := (List.getElem?_eq_some_iff.1 hx).1
        rw [rowO_length] at this
        simpa using this
      have hq : i / 14 < len := by omega
      have h2 := (hf1 (i / 14) hq).2 (i % 14) (Nat.mod_lt _ (by omega))
      have h3 := rowO_seg ((List.range len).map f) (i / 14) (by simpa using hq)
      rw [hget _ hq] at h3
      rw [show i / 14 * 14 + i % 14 = i by omega, ← h3, List.getElem?_take_of_lt (Nat.mod_lt _ (by omega)), List.getElem?_drop, show i / 14 * 14 + i % 14 = i by omega] at h2
      rw [h2, hx]
    · have hi' : i < len := by simpa using hi
      rw [hget _ hi']
      exact (hf1 i hi').1
end
theorem OpD.len (o : OpD) : o.cs.length = 14 := rfl
theorem rowO_get (os : List OpD) (i j : Nat) (h : i < os.length) (hj : j < 14) : (rowO os)[i * 14 + j]? = (os.getD i OpD.zero).cs[j]? := by
  rw [← rowO_seg os i h, List.getElem?_take_of_lt hj, List.getElem?_drop]
theorem rowO_b (os : List OpD) (i : Nat) (h : i < os.length) : (rowO os)[i * 14 + 1]? = some (.bool (os.getD i OpD.zero).b) := rowO_get os i 1 h (by omega)
end Go.Fw
set_option linter.unusedVariables false
namespace Go.Fw
open Go Go.ChangeShapes Go.WideShapes Go.ChangeAt Go.RowKit
section
variable {P : Program} {W : World} {H : Type} {enc : TypeId × Value → H} {base : Nat} {sp : Nat → Bool} {held : Bool}
theorem wAll_mem : ∀ {ds : List (DataW H)} {e : TypeId} {i : Nat} {d : DataW H}, ds[i]? = some d → ∀ n ∈ d.weights P e, n ∈ DataW.weightsAll P e ds
  | [], e, i, d, h => by simp at h
  | x :: ds, e, 0, d, h => fun n hn => by
    simp at h; subst h
    simp only [DataW.weightsAll]
    exact List.mem_append_left _ hn
  | x :: ds, e, i + 1, d, h => fun n hn => by
    simp only [DataW.weightsAll]
    exact List.mem_append_right _ (wAll_mem (by simpa using h) n hn)
theorem wEach_mem : ∀ {ts : List TypeId} {ds : List (DataW H)} {i : Nat} {t : TypeId} {d : DataW H}, ts[i]? = some t → ds[i]? = some d → ∀ n ∈ d.weights P t, n ∈ DataW.weightsEach P ts ds
  | [], _, i, t, d, h, _ => by simp at h
  | _ :: _, [], i, t, d, _, h => by simp at h
  | u :: ts, x :: ds, 0, t, d, ht, h => fun n hn => by
    simp at h ht; subst h; subst ht
    simp only [DataW.weightsEach]
    exact List.mem_append_left _ hn
  | u :: ts, x :: ds, i + 1, t, d, ht, h => fun n hn => by
    simp only [DataW.weightsEach]
    exact List.mem_append_right _ (wEach_mem (by simpa using ht) (by simpa using h) n hn)
/-- Nothing weighs more than a machine reaches. -/
def Light (P : Program) (t : TypeId) (d : DataW H) : Prop := ∀ n ∈ d.weights P t, n ≤ reachBytes
theorem Light.each {ts : List TypeId} {ds : List (DataW H)} (h : (DataW.weightsEach P ts ds).all (· ≤ reachBytes) = true) {i : Nat} {t : TypeId} {d : DataW H} (ht : ts[i]? = some t) (hd : ds[i]? = some d) : Light P t d := fun n hn =>
  of_decide_eq_true (List.all_eq_true.1 h n (wEach_mem ht hd n hn))
/-- Bytes, from one cell, that weigh little. -/
theorem trod_bytesL {t e : TypeId} (ht : P.underlying t = some (.slice e)) (he : P.underlying e = some (.int .u8)) (hc : P.cellsOf e = 1) (hb : P.bytesOf e = 1) {fuel : Nat} {cs : List Value} {x : DataW H × List MemPlace} (h : DataW.trod enc P W base sp held fuel t cs = some x) (hL : Light P t x.1) :
    ∃ (A : Option Addr) (c : Nat) (xs : List Nat), cs = [.slice A xs.length c] ∧ Cs W A (rowN .u8 xs) ∧ Dg xs ∧ xs.length ≤ 1000000000000000 := by
  obtain ⟨A, c, xs, h1, h2, h3, h4, h5⟩ := trod_bytes ht he hc h
  refine ⟨A, c, xs, h1, h2, h3, ?_⟩
  rcases DataW.trod_slice ht h with ⟨h0, _⟩ | ⟨a, len, cap, elems, rest, n, _, h0, hx, _, _, _, hlen, _, _, _⟩
  · rw [h1] at h0
    simp only [List.cons.injEq, Value.slice.injEq, and_true] at h0
    omega
  · rw [h1] at h0
    simp only [List.cons.injEq, Value.slice.injEq, and_true] at h0
    have h6 := hL ((elems.length + rest.length) * P.bytesOf e) (by rw [hx]; simp [DataW.weights, ht])
    rw [hb] at h6
    simp only [reachBytes] at h6
    omega
/-- The table's rows for a change. -/
structure ChT (P : Program) (t ta tb ti tw tx ts : TypeId) : Prop where
  str : (match P.underlying t with | some (.struct fs) => fs.toList.map (fun f => (f.type, f.offset)) | _ => []) = [(ta, 0), (ti, 20), (tw, 21), (tw, 25), (tw, 29), (ts, 33), (ts, 34)]
  size : P.cellsOf t = 35
  big : 176 ≤ P.bytesOf t
  arr : P.underlying ta = some (.array 20 tb)
  arr20 : P.cellsOf ta = 20
  byte : P.underlying tb = some (.int .u8)
  byte1 : P.cellsOf tb = 1
  byteB : P.bytesOf tb = 1
  int : P.underlying ti = some (.int .i64)
  int1 : P.cellsOf ti = 1
  word : WordT P tw tx
  sl : P.underlying ts = some (.slice tb)
  sl1 : P.cellsOf ts = 1
theorem trod_addr {ta tb : TypeId} (ht : P.underlying ta = some (.array 20 tb)) (h20 : P.cellsOf ta = 20) (he : P.underlying tb = some (.int .u8)) (hc : P.cellsOf tb = 1) {fuel : Nat} {cs : List Value} {x : DataW H × List MemPlace} (h : DataW.trod enc P W base sp held fuel ta cs = some x) : ∃ n, n < 256 ^ 20 ∧ cs = ac n := by
  obtain ⟨xs, m, _, _, hl, hxl, hx⟩ := DataW.trod_array ht h
  rw [h20] at hl
  rw [hc] at hx
  have each : ∀ i, i < 20 → ∃ q : Nat, q < 256 ∧ cs[i]? = some (.int .u8 (q : Int)) := fun i hi => by
    have h1 := hx i hi
    rw [List.getElem?_eq_getElem (by omega)] at h1
    obtain ⟨q, e1, _, e2⟩ := DataW.trod_int he h1
    have := wf_u8 e2
    refine ⟨q.toNat, by omega, ?_⟩
    rw [Int.toNat_of_nonneg this.1]
    have e3 := congrArg (fun l : List Value => l[0]?) e1
    simpa using e3
  let f : Nat → Nat := fun i => if h : i < 20 then (each i h).choose else 0
  have hf1 : ∀ i, i < 20 → f i < 256 ∧ cs[i]? = some (.int .u8 (f i : Int)) := fun i hi => by
    have := (each i hi).choose_spec
    simp only [f, dif_pos hi]
    exact this
  obtain ⟨a, ha, hb⟩ := ad_exists ((List.range 20).map f) (by simp) (fun y hy => by
    simp only [List.mem_map, List.mem_range] at hy
    obtain ⟨i, hi, rfl⟩ := hy
    exact (hf1 i hi).1)
  refine ⟨a, ha, ?_⟩
  unfold ac
  rw [hb]
  apply List.ext_getElem?
  intro i
  rcases Nat.lt_or_ge i 20 with hi | hi
  · rw [(hf1 i hi).2]; simp [rowN, hi]
  · rw [List.getElem?_eq_none (by omega), List.getElem?_eq_none (by simp [rowN]; omega)]
/-- What is known of a change that is handed in. -/
structure Ch.In (W : World) (c : Ch) : Prop where
  kd : -9223372036854775808 ≤ c.kind ∧ c.kind ≤ 9223372036854775807
  dO : Dg c.oc
  dN : Dg c.nc
  lo : c.oc.length ≤ 1000000000000000
  ln : c.nc.length ≤ 1000000000000000
  co : Cs W c.oA (rowN .u8 c.oc)
  cn : Cs W c.nA (rowN .u8 c.nc)
theorem fit_in {A : Option Addr} {cs : List Value} (h : Cs W A cs) : Fit W W.heap.size [] A cs := fun i x hx => by
  obtain ⟨ad, h1, h2⟩ := h i x hx
  refine ⟨ad, h1, h2, fun q => (by cases q), fun q => ?_⟩
  unfold World.cell? at h2
  simp only [Addr.add_block] at h2
  rw [Array.getElem?_eq_none (by omega)] at h2
  cases h2
theorem Ch.In.ok {c : Ch} (h : c.In W) (hl : c.oc.length ≤ 1000000000000 ∧ c.nc.length ≤ 1000000000000) : c.Ok W W.heap.size [] := ⟨h.kd, h.dO, h.dN, hl.1, hl.2, fit_in h.co, fit_in h.cn⟩
/-- A change's cells. -/
theorem trod_ch {t ta tb ti tw tx ts : TypeId} (T : ChT P t ta tb ti tw tx ts) {fuel : Nat} {cs : List Value} {x : DataW H × List MemPlace} (h : DataW.trod enc P W base sp held fuel t cs = some x) (hL : Light P t x.1) : ∃ c : Ch, c.In W ∧ cs = c.cells := by
  cases hu : P.underlying t with
  | none => have := T.str; rw [hu] at this; simp at this
  | some dd =>
    cases dd with
    | struct fs =>
      have hs := T.str
      rw [hu] at hs
      simp only at hs
      obtain ⟨xs, m, _, hx, hl, hxl, hf⟩ := DataW.trod_struct hu h
      rw [T.size] at hl
      have get : ∀ (i : Nat) (ft off : Nat), [(ta, 0), (ti, 20), (tw, 21), (tw, 25), (tw, 29), (ts, 33), (ts, 34)][i]? = some (ft, off) → ∃ y, DataW.trod enc P W base sp held m ft ((cs.drop off).take (P.cellsOf ft)) = some y ∧ Light P ft y.1 := by
        intro i ft off hi
        rw [← hs, List.getElem?_map, Option.map_eq_some_iff] at hi
        obtain ⟨f, h1, h2⟩ := hi
        have h3 : fs[i]? = some f := by rw [← Array.getElem?_toList]; exact h1
        have h4 := hf i f h3
        simp only [Prod.mk.injEq] at h2
        rw [h2.1, h2.2] at h4
        have hlt : i < xs.length := by rw [hxl]; exact (Array.getElem?_eq_some_iff.1 h3).1
        rw [List.getElem?_eq_getElem hlt] at h4
        refine ⟨_, h4, fun n hn => hL n ?_⟩
        rw [hx]
        simp only [DataW.weights, hu]
        exact wEach_mem (i := i) (t := ft) (d := xs[i].1) (by rw [List.getElem?_map, h1, ← h2.1]; rfl) (by rw [List.getElem?_map, List.getElem?_eq_getElem hlt]; rfl) n hn
      obtain ⟨y0, h0, _⟩ := get 0 ta 0 rfl
      obtain ⟨y1, h1, _⟩ := get 1 ti 20 rfl
      obtain ⟨y2, h2, _⟩ := get 2 tw 21 rfl
      obtain ⟨y3, h3, _⟩ := get 3 tw 25 rfl
      obtain ⟨y4, h4, _⟩ := get 4 tw 29 rfl
      obtain ⟨y5, h5, l5⟩ := get 5 ts 33 rfl
      obtain ⟨y6, h6, l6⟩ := get 6 ts 34 rfl
      rw [T.arr20] at h0
      rw [T.int1] at h1
      rw [T.word.four] at h2 h3 h4
      rw [T.sl1] at h5 h6
      obtain ⟨n, _, e0⟩ := trod_addr T.arr T.arr20 T.byte T.byte1 h0
      obtain ⟨k, e1, _, w1⟩ := DataW.trod_int T.int h1
      obtain ⟨u, _, e2⟩ := trod_word T.word h2
      obtain ⟨v, _, e3⟩ := trod_word T.word h3
      obtain ⟨z, _, e4⟩ := trod_word T.word h4
      obtain ⟨A5, c5, b5, e5, p5, q5, r5⟩ := trod_bytesL T.sl T.byte T.byte1 T.byteB h5 l5
      obtain ⟨A6, c6, b6, e6, p6, q6, r6⟩ := trod_bytesL T.sl T.byte T.byte1 T.byteB h6 l6
      refine ⟨⟨n, k, u, v, z, b5, b6, A5, c5, A6, c6⟩, ⟨wf_i64 w1, q5, q6, r5, r6, p5, p6⟩, ?_⟩
      show cs = ac n ++ ([.int .i64 k] ++ (wc u ++ (wc v ++ (wc z ++ ([.slice A5 b5.length c5] ++ [.slice A6 b6.length c6])))))
      rw [← e0, ← e1, ← e2, ← e3, ← e4, ← e5, ← e6, List.drop_zero]
      have j : ∀ o k : Nat, cs.drop o = (cs.drop o).take k ++ cs.drop (o + k) := fun o k => by
        have := (List.take_append_drop k (cs.drop o)).symm
        rwa [List.drop_drop] at this
      have hend : cs.drop 35 = [] := List.drop_eq_nil_of_le (by omega)
      have j6 := j 34 1
      rw [hend, List.append_nil] at j6
      rw [← j6, ← j 33 1, ← j 29 4, ← j 25 4, ← j 21 4, ← j 20 1, List.take_append_drop]
    | _ => have := T.str; rw [hu] at this; simp at this
/-- Rows of changes. -/
theorem open_chsN {r : Reach} {b0 : Nat} {t e ta tb ti tw tx ts : TypeId} (ht : P.underlying t = some (.slice e)) (T : ChT P e ta tb ti tw tx ts) {v : Value} {d : DataW H} {ps : List MemPlace} (hv : Value.okWide P W r b0 t v)
    (h : DataW.Trod enc P W base sp held t v d ps) (hL : Light P t d) : ∃ (A : Option Addr) (c : Nat) (os : List Ch), v = .slice A os.length c ∧ Cs W A (rowC os) ∧ (∀ x ∈ os, x.In W) ∧ os.length ≤ 1000000000000 := by
  obtain ⟨A, len, cap, rfl⟩ := okWide_slice ht hv
  obtain ⟨fuel, hf⟩ := h
  rcases DataW.trod_slice ht hf with ⟨h0, _⟩ | ⟨a, l, c, elems, rest, n, _, h0, hx, hb, hl, hm, hlen, hel, _, _⟩
  · simp [Value.cells] at h0
    obtain ⟨rfl, rfl, rfl⟩ := h0
    exact ⟨none, 0, [], rfl, Cs.nil _ _, fun i hi => (by cases hi), Nat.zero_le _⟩
  · simp [Value.cells] at h0
    obtain ⟨rfl, rfl, rfl⟩ := h0
    rw [T.size] at hel
    have hd : d = .slice (elems.map (·.1)) (rest.map (·.1)) := congrArg Prod.fst hx
    have each : ∀ i, i < len → ∃ o : Ch, o.In W ∧ ∀ j, j < 35 → W.cell? (a.add (i * 35 + j)) = o.cells[j]? := fun i hi => by
      have h1 := hel i hi
      have hlt : i < elems.length := by omega
      rw [List.getElem?_eq_getElem hlt] at h1
      cases hc2 : W.cells? base (a.add (i * 35)) 35 with
      | none => rw [hc2] at h1; cases h1
      | some cs =>
        rw [hc2] at h1
        obtain ⟨o, e1, e2⟩ := trod_ch T h1 (fun n hn => hL n (by
          rw [hd]
          simp only [DataW.weights, ht]
          exact List.mem_cons_of_mem _ (List.mem_append_left _ (wAll_mem (i := i) (d := elems[i].1) (by rw [List.getElem?_map, List.getElem?_eq_getElem hlt]; rfl) n hn))))
        obtain ⟨_, e3⟩ := cells_at hc2
        refine ⟨o, e1, fun j hj => ?_⟩
        rw [← Addr.add_add, e3 j hj, e2]
    let f : Nat → Ch := fun i => if h : i < len then (each i h).choose else default
    have hf1 : ∀ i, i < len → (f i).In W ∧ ∀ j, j < 35 → W.cell? (a.add (i * 35 + j)) = (f i).cells[j]? := fun i hi => by
      have := (each i hi).choose_spec
      simp only [f, dif_pos hi]
      exact this
    have hget : ∀ i, i < len → ((List.range len).map f).getD i default = f i := fun i hi => by simp [List.getD, hi]
    refine ⟨some a, cap, (List.range len).map f, by simp, fun i x hx => ⟨a, rfl, ?_⟩, fun y hy => ?_, ?_⟩
    · have hi : i < len * 35 := by
        have := (List.getElem?_eq_some_iff.1 hx).1
        rw [rowC_length] at this
        simpa using this
      have hq : i / 35 < len := by omega
      have h2 := (hf1 (i / 35) hq).2 (i % 35) (Nat.mod_lt _ (by omega))
      have h3 := rowC_seg ((List.range len).map f) (i / 35) (by simpa using hq)
      rw [hget _ hq] at h3
      rw [show i / 35 * 35 + i % 35 = i by omega, ← h3, List.getElem?_take_of_lt (Nat.mod_lt _ (by omega)), List.getElem?_drop, show i / 35 * 35 + i % 35 = i by omega] at h2
      rw [h2, hx]
    · simp only [List.mem_map, List.mem_range] at hy
      obtain ⟨i, hi, rfl⟩ := hy
      exact (hf1 i hi).1
    · have h6 := hL ((elems.length + rest.length) * P.bytesOf e) (by rw [hd]; simp [DataW.weights, ht])
      have h7 := Nat.mul_le_mul (Nat.le_add_right elems.length rest.length) T.big
      simp only [reachBytes] at h6
      simp only [List.length_map, List.length_range]
      omega
end
end Go.Fw
set_option linter.unusedVariables false
namespace Go.Fw
open Go
theorem lentRow {W : World} {n : Nat} {B : List (Option Nat)} {A : Option Addr} {xs : List Ch} (h : Fit W n B A (rowC (xs ++ [markC]))) : Fit W n B A (rowC xs) := by
  rw [rowC_append] at h
  exact h.pre
theorem map_turn {xs ys : List Ch} (h : xs.map Ch.v = ys.map Ch.v) : xs.map (fun c => c.v.turn) = ys.map (fun c => c.v.turn) := by
  have := congrArg (List.map CV.turn) h
  rw [List.map_map, List.map_map] at this
  exact this
theorem map_turn2 (xs : List Ch) : xs.map (fun c => c.v.turn) = (xs.map Ch.v).map CV.turn := by rw [List.map_map]; rfl
theorem in_load {w : World} {xs : List Ch} (h : ∀ x ∈ xs, x.In w) : ∀ c ∈ xs, c.oc.length ≤ 1000000000000000 ∧ c.nc.length ≤ 1000000000000000 := fun c hc => ⟨(h c hc).lo, (h c hc).ln⟩
theorem in_ok {w : World} {n : Nat} {xs : List Ch} (hn : n = w.heap.size) (h : ∀ x ∈ xs, x.In w) (hl : loadR xs.length xs ≤ 262144) : AllC w n [] xs := fun c hc => by
  rw [hn]
  exact (h c hc).ok (by have := loadR_small xs _ hl c hc; omega)
theorem len_v {xs ys : List Ch} (h : xs.map Ch.v = ys.map Ch.v) : xs.length = ys.length := by
  have := congrArg List.length h
  simpa using this
theorem len_turn {xs ys : List Ch} (h : xs.map Ch.v = ys.map (fun c => c.v.turn)) : xs.length = ys.length := by
  have := congrArg List.length h
  simpa using this
theorem joinZ_len (az bs : List CV) : (joinZ az bs).1.length ≤ az.length + bs.length := by
  by_cases h : (joinZ az bs).2 = 0
  · exact join_len az bs _ (joinZ_some h).2.2
  · rw [joinZ_none h]; exact Nat.zero_le _
theorem len_join {x : List Ch} {az bs : List CV} (h : x.map Ch.v = (joinZ az bs).1) : x.length ≤ az.length + bs.length := by
  have := joinZ_len az bs
  rw [← h, List.length_map] at this
  exact this
def SmallC (cs : List Ch) : Prop := ∀ c ∈ cs, c.oc.length ≤ 262144 ∧ c.nc.length ≤ 262144
theorem small_v {cs : List Ch} (h : SmallC cs) : ∀ v ∈ cs.map Ch.v, v.oc.length ≤ 262144 ∧ v.nc.length ≤ 262144 := fun v hv => by
  obtain ⟨c, hc, rfl⟩ := List.mem_map.1 hv
  exact h c hc
theorem join_small {x a b : List Ch} (h : x.map Ch.v = (joinZ (a.map Ch.v) (b.map Ch.v)).1) (ha : SmallC a) (hb : SmallC b) : SmallC x := fun c hc => by
  have hm : c.v ∈ (joinZ (a.map Ch.v) (b.map Ch.v)).1 := by rw [← h]; exact List.mem_map.2 ⟨c, hc, rfl⟩
  by_cases hz : (joinZ (a.map Ch.v) (b.map Ch.v)).2 = 0
  · exact join_all (C := fun v => v.oc.length ≤ 262144 ∧ v.nc.length ≤ 262144) _ _ _ (small_v ha) (small_v hb) (fun p q hp hq => ⟨hp.1, hq.2⟩) (joinZ_some hz).2.2 c.v hm
  · rw [joinZ_none hz] at hm; cases hm
theorem joinZ_bad {ps qs : List CV} (h : formZ ps ≠ 0 ∨ formZ qs ≠ 0) : (joinZ ps qs).2 ≠ 0 ∧ (joinZ ps qs).1 = [] := by
  have h2 : (joinZ ps qs).2 ≠ 0 := fun q => by
    obtain ⟨q1, q2, _⟩ := joinZ_some q
    rcases h with h | h
    · exact h q1
    · exact h q2
  exact ⟨h2, joinZ_none h2⟩
theorem joinZ_nr2 (az : List CV) : (joinZ az []).2 = formZ az := by
  rw [joinZ_nil_r]
  split
  · rfl
  · rename_i h; exact (Decidable.not_not.1 h).symm
theorem joinZ_nl2 (bs : List CV) : (joinZ [] bs).2 = formZ bs := by
  rw [joinZ_nil_l]
  split
  · rfl
  · rename_i h; exact (Decidable.not_not.1 h).symm
theorem joinZ_nr {az : List CV} (h : formZ az = 0) : (joinZ az []).1 = az := by rw [joinZ_nil_r, if_neg (fun q => q h)]
theorem joinZ_nl {bs : List CV} (h : formZ bs = 0) : (joinZ [] bs).1 = bs := by rw [joinZ_nil_l, if_neg (fun q => q h)]
theorem groups {a b c x y : List Ch} (hx : x.map Ch.v = (joinZ (a.map Ch.v) (b.map Ch.v)).1) (hy : y.map Ch.v = (joinZ (b.map Ch.v) (c.map Ch.v)).1) (h0 : (joinZ (a.map Ch.v) (b.map Ch.v)).2 = 0) (h1 : (joinZ (b.map Ch.v) (c.map Ch.v)).2 = 0)
    (hp : (joinZ (x.map Ch.v) (c.map Ch.v)).2 = 0) (hq : (joinZ (a.map Ch.v) (y.map Ch.v)).2 = 0) : (joinZ (x.map Ch.v) (c.map Ch.v)).1 = (joinZ (a.map Ch.v) (y.map Ch.v)).1 := by
  obtain ⟨fa, fb, j0⟩ := joinZ_some h0
  obtain ⟨_, fc, j1⟩ := joinZ_some h1
  obtain ⟨_, _, j2⟩ := joinZ_some hp
  obtain ⟨_, _, j3⟩ := joinZ_some hq
  rw [← hx] at j0
  rw [← hy] at j1
  exact join_assoc (nf_v a) (nf_v b) (nf_v c) fa fb fc j0 j1 j2 j3
theorem turn_v2 {x y : List Ch} {vs : List CV} (h : x.map Ch.v = y.map (fun c => c.v.turn)) (h2 : y.map Ch.v = vs) : x.map Ch.v = vs.map CV.turn := by
  rw [h, map_turn2, h2]
theorem neqb_same {a b : Bool} (h : a = b) : (!(a == b)) = false := by subst h; cases a <;> rfl
end Go.Fw
set_option linter.unusedVariables false
set_option maxRecDepth 20000
namespace Go.Proofs.YtlllcafedekojaaGreatDoor.Wa
open Go Go.Fw

theorem sz287 : SizeT Tryz.prog 287 32 := (by unfold SizeT; kernel_rfl)
theorem fok150 : FnOk Tryz.prog 150 := FnOk.mk' Tryz.func150 (by kernel_rfl) rfl
theorem zero50 : ZeroT Tryz.prog 50 (.agg ([.int .u64 0, .int .u64 0, .int .u64 0, .int .u64 0]).toArray) := (by unfold ZeroT; kernel_rfl)
theorem sz48 : SizeT Tryz.prog 48 1 := (by unfold SizeT; kernel_rfl)
theorem arr50 : ArrT Tryz.prog 50 4 48 1 := ⟨Tryz.underlying50, sz48⟩
theorem one48 : OneT Tryz.prog 48 := ⟨⟨_, Tryz.underlying48, rfl⟩, by kernel_rfl⟩
theorem agg50 : AggT Tryz.prog 50 4 := ⟨⟨_, Tryz.underlying50, rfl⟩, by kernel_rfl⟩
theorem sz50 : SizeT Tryz.prog 50 4 := (by unfold SizeT; kernel_rfl)
theorem fok108 : FnOk Tryz.prog 108 := FnOk.mk' Tryz.func108 (by kernel_rfl) rfl
theorem eqw50 : EqT Tryz.prog 50 := ⟨⟨48, arr50, one48, Tryz.underlying48⟩, by kernel_rfl⟩
theorem fok127 : FnOk Tryz.prog 127 := FnOk.mk' Tryz.func127 (by kernel_rfl) rfl
theorem fok107 : FnOk Tryz.prog 107 := FnOk.mk' Tryz.func107 (by kernel_rfl) rfl
theorem fok98 : FnOk Tryz.prog 98 := FnOk.mk' Tryz.func98 (by kernel_rfl) rfl
theorem sl128 : SlT Tryz.prog 128 50 4 := ⟨Tryz.underlying128, sz50⟩
theorem fok101 : FnOk Tryz.prog 101 := FnOk.mk' Tryz.func101 (by kernel_rfl) rfl

theorem Len64 (w : World) (x0 : Nat) (hx : x0 < 18446744073709551616) :
    Calls Tryz.prog 150 [.int .u64 (x0 : Int)].toArray w fun e w' => e = .returned (.int .i64 (bitLen x0 : Int)) ∧ WS w [] [] w' := by
  refine calls_of_T [] 25 [] Tryz.func150 rfl Tryz.ntmps150 (by simp) (WS.refl _ _) ?_
  refine T.seq ?_
  refine T.text [.l] rfl ?_
  refine J.assign rfl rfl ?_
  refine J.end ?_
  refine X.then ?_
  refine T.meet (ι := Nat × Nat) (fun ((n1, x1) : Nat × Nat) => bitLen x0 = n1 + bitLen x1 ∧ x1 < 4294967296 ∧ n1 ≤ 32) (fun ((n1, x1) : Nat × Nat) => [(2, .int .i64 (n1 : Int)), (0, .int .u64 (x1 : Int))]) (fun ((n1, x1) : Nat × Nat) => []) ?_ ?_
  · -- up to where the ways meet
    refine T.seq ?_
    refine T.text [.l, .l] rfl ?_
    refine J.move rfl rfl ?_
    refine J.geq rfl rfl rfl rfl ?_
    refine J.end ?_
    refine X.then ?_
    refine T.cond_dec rfl (fun h1 => ?_) (fun h1 => ?_)
    · skip
      refine T.seq ?_
      refine T.text [.l, .l, .l] rfl ?_
      refine J.move rfl rfl ?_
      refine J.shr rfl rfl rfl (by decide) (by exact shr_nat _ 32 (by omega)) ?_
      refine J.assign rfl rfl ?_
      refine J.end ?_
      refine X.then ?_
      refine T.text [.l] rfl ?_
      refine J.assign rfl rfl ?_
      refine J.end ?_
      exact X.at ⟨(0 + 32), (x0 / 2 ^ 32)⟩ ⟨by have := bitLen_shift x0 32; omega, by omega, by omega⟩ (by repeat (first | exact Sub.nil _ | refine Sub.cons (by first | rfl | (rw [dgs_zero]; rfl) | (rw [List.drop_length]; rfl) | (simp; done) | (congr 2; omega) | (congr 3; omega)) ?_)) (by repeat (first | exact Sub.nil _ | refine Sub.cons (by first | rfl | (rw [dgs_zero]; rfl) | (rw [List.drop_length]; rfl) | (simp; done) | (congr 2; omega) | (congr 3; omega)) ?_))
    · skip
      refine T.skip ?_
      exact X.at ⟨0, x0⟩ ⟨by have := bitLen_shift x0 32; omega, by omega, by omega⟩ (by repeat (first | exact Sub.nil _ | refine Sub.cons (by first | rfl | (rw [dgs_zero]; rfl) | (rw [List.drop_length]; rfl) | (simp; done) | (congr 2; omega) | (congr 3; omega)) ?_)) (by repeat (first | exact Sub.nil _ | refine Sub.cons (by first | rfl | (rw [dgs_zero]; rfl) | (rw [List.drop_length]; rfl) | (simp; done) | (congr 2; omega) | (congr 3; omega)) ?_))
  · rintro ⟨n1, x1⟩ ⟨hb1, hx1, hn1⟩
    try dsimp only at *
    refine T.meet (ι := Nat × Nat) (fun ((n2, x2) : Nat × Nat) => bitLen x0 = n2 + bitLen x2 ∧ x2 < 65536 ∧ n2 ≤ 48) (fun ((n2, x2) : Nat × Nat) => [(2, .int .i64 (n2 : Int)), (0, .int .u64 (x2 : Int))]) (fun ((n2, x2) : Nat × Nat) => []) ?_ ?_
    · -- up to where the ways meet
      refine T.seq ?_
      refine T.text [.l, .l] rfl ?_
      refine J.move rfl rfl ?_
      refine J.geq rfl rfl rfl rfl ?_
      refine J.end ?_
      refine X.then ?_
      refine T.cond_dec rfl (fun h2 => ?_) (fun h2 => ?_)
      · skip
        refine T.seq ?_
        refine T.text [.l, .l, .l] rfl ?_
        refine J.move rfl rfl ?_
        refine J.shr rfl rfl rfl (by decide) (by exact shr_nat _ 16 (by omega)) ?_
        refine J.assign rfl rfl ?_
        refine J.end ?_
        refine X.then ?_
        refine T.text [.l, .l, .l] rfl ?_
        refine J.move rfl rfl ?_
        refine J.add rfl rfl rfl (by first | exact add_nat _ 16 (by omega) | exact i64_ok _ (by omega) | exact rfl) ?_
        refine J.assign rfl rfl ?_
        refine J.end ?_
        exact X.at ⟨(n1 + 16), (x1 / 2 ^ 16)⟩ ⟨by have := bitLen_shift x1 16; omega, by omega, by omega⟩ (by repeat (first | exact Sub.nil _ | refine Sub.cons (by first | rfl | (rw [dgs_zero]; rfl) | (rw [List.drop_length]; rfl) | (simp; done) | (congr 2; omega) | (congr 3; omega)) ?_)) (by repeat (first | exact Sub.nil _ | refine Sub.cons (by first | rfl | (rw [dgs_zero]; rfl) | (rw [List.drop_length]; rfl) | (simp; done) | (congr 2; omega) | (congr 3; omega)) ?_))
      · skip
        refine T.skip ?_
        exact X.at ⟨n1, x1⟩ ⟨by have := bitLen_shift x1 16; omega, by omega, by omega⟩ (by repeat (first | exact Sub.nil _ | refine Sub.cons (by first | rfl | (rw [dgs_zero]; rfl) | (rw [List.drop_length]; rfl) | (simp; done) | (congr 2; omega) | (congr 3; omega)) ?_)) (by repeat (first | exact Sub.nil _ | refine Sub.cons (by first | rfl | (rw [dgs_zero]; rfl) | (rw [List.drop_length]; rfl) | (simp; done) | (congr 2; omega) | (congr 3; omega)) ?_))
    · rintro ⟨n2, x2⟩ ⟨hb2, hx2, hn2⟩
      try dsimp only at *
      refine T.meet (ι := Nat × Nat) (fun ((n3, x3) : Nat × Nat) => bitLen x0 = n3 + bitLen x3 ∧ x3 < 256 ∧ n3 ≤ 56) (fun ((n3, x3) : Nat × Nat) => [(2, .int .i64 (n3 : Int)), (0, .int .u64 (x3 : Int))]) (fun ((n3, x3) : Nat × Nat) => []) ?_ ?_
      · -- up to where the ways meet
        refine T.seq ?_
        refine T.text [.l, .l] rfl ?_
        refine J.move rfl rfl ?_
        refine J.geq rfl rfl rfl rfl ?_
        refine J.end ?_
        refine X.then ?_
        refine T.cond_dec rfl (fun h3 => ?_) (fun h3 => ?_)
        · skip
          refine T.seq ?_
          refine T.text [.l, .l, .l] rfl ?_
          refine J.move rfl rfl ?_
          refine J.shr rfl rfl rfl (by decide) (by exact shr_nat _ 8 (by omega)) ?_
          refine J.assign rfl rfl ?_
          refine J.end ?_
          refine X.then ?_
          refine T.text [.l, .l, .l] rfl ?_
          refine J.move rfl rfl ?_
          refine J.add rfl rfl rfl (by first | exact add_nat _ 8 (by omega) | exact i64_ok _ (by omega) | exact rfl) ?_
          refine J.assign rfl rfl ?_
          refine J.end ?_
          exact X.at ⟨(n2 + 8), (x2 / 2 ^ 8)⟩ ⟨by have := bitLen_shift x2 8; omega, by omega, by omega⟩ (by repeat (first | exact Sub.nil _ | refine Sub.cons (by first | rfl | (rw [dgs_zero]; rfl) | (rw [List.drop_length]; rfl) | (simp; done) | (congr 2; omega) | (congr 3; omega)) ?_)) (by repeat (first | exact Sub.nil _ | refine Sub.cons (by first | rfl | (rw [dgs_zero]; rfl) | (rw [List.drop_length]; rfl) | (simp; done) | (congr 2; omega) | (congr 3; omega)) ?_))
        · skip
          refine T.skip ?_
          exact X.at ⟨n2, x2⟩ ⟨by have := bitLen_shift x2 8; omega, by omega, by omega⟩ (by repeat (first | exact Sub.nil _ | refine Sub.cons (by first | rfl | (rw [dgs_zero]; rfl) | (rw [List.drop_length]; rfl) | (simp; done) | (congr 2; omega) | (congr 3; omega)) ?_)) (by repeat (first | exact Sub.nil _ | refine Sub.cons (by first | rfl | (rw [dgs_zero]; rfl) | (rw [List.drop_length]; rfl) | (simp; done) | (congr 2; omega) | (congr 3; omega)) ?_))
      · rintro ⟨n3, x3⟩ ⟨hb3, hx3, hn3⟩
        try dsimp only at *
        refine T.seq ?_
        refine T.text [.l, .l, .l, .l, .l, .l, .l] rfl ?_
        refine J.move rfl rfl ?_
        refine J.move rfl rfl ?_
        refine J.conv (by rw [Tryz.underlying48]; rfl) Tryz.underlying5 rfl rfl (by first | exact wrap8_nat' _ (by omega) | exact wrap8_nat _ | exact u8_ok _ (by omega) | exact u8_wrap _) ?_
        refine J.indexTab (f := bitLen) Tryz.underlying9 rfl (by decide +kernel) rfl (by omega) rfl ?_
        have hb8 := bitLen_le8 x3 hx3
        refine J.conv (by rw [Tryz.underlying5]; rfl) Tryz.underlying3 rfl rfl (by first | exact wrap_nat64 _ (by omega) | exact i64_ok _ (by omega) | exact rfl) ?_
        refine J.add rfl rfl rfl (by first | exact add_nat _ _ (by omega) | exact i64_ok _ (by omega) | exact rfl) ?_
        refine J.assign rfl rfl ?_
        refine J.end ?_
        refine X.then ?_
        refine T.ret ?_
        exact X.ret1 rfl (RV.tmp rfl) (fun w' hw' => ⟨by congr 2; omega, hw'.sub (Sub.nil _)⟩)

theorem LeadingZeros64 (w : World) (x0 : Nat) (hx : x0 < 18446744073709551616) :
    Calls Tryz.prog 127 [.int .u64 (x0 : Int)].toArray w fun e w' => e = .returned (.int .i64 ((64 - bitLen x0 : Nat) : Int)) ∧ WS w [] [] w' := by
  have hb := bitLen_le64 x0 hx
  refine calls_of_T [] 6 [] Tryz.func127 rfl Tryz.ntmps127 (by simp) (WS.refl _ _) ?_
  refine T.seq ?_
  refine T.text [.l] rfl ?_
  refine J.assign rfl rfl ?_
  refine J.end ?_
  refine X.then ?_
  refine T.seq ?_
  refine T.text [.l, .l, .l, .l] rfl ?_
  refine J.move rfl rfl ?_
  refine J.call0 (k := .l) trivial fok150 rfl rfl (fun w hw => Wa.Len64 w _ hx) ?_
  refine J.sub' rfl rfl rfl (by first | exact sub_nat 64 _ (by omega) | exact i64_ok _ (by omega) | exact rfl) ?_
  refine J.assign rfl rfl ?_
  refine J.end ?_
  refine X.then ?_
  refine T.ret ?_
  exact X.ret1 rfl (RV.tmp rfl) (fun w' hw' => ⟨rfl, hw'.sub (Sub.nil _)⟩)

theorem plus (w : World) (x0 : Nat) (x1 : Nat) :
    Calls Tryz.prog 101 [W x0, W x1].toArray w fun e w' => e = .returned (.tuple #[W (x0 + x1), .int .u64 (((x0 % 2 ^ 256 + x1 % 2 ^ 256) / 2 ^ 256 : Nat) : Int)]) ∧ WS w [] [] w' := by
  refine calls_of_T [] 28 [] Tryz.func101 rfl Tryz.ntmps101 (by simp) (WS.refl _ _) ?_
  refine T.seq ?_
  refine T.text [.l, .l, .l, .l] rfl ?_
  refine J.box 2 rfl rfl (wc x0) rfl rfl (fun g2 hg2 => ?_)
  refine J.box 3 rfl rfl (wc x1) rfl rfl (fun g3 hg3 => ?_)
  refine J.alloc 4 rfl zero50 [.int .u64 0, .int .u64 0, .int .u64 0, .int .u64 0] rfl rfl (fun g4 hg4 => ?_)
  refine J.assign rfl rfl ?_
  refine J.end ?_
  refine X.then ?_
  refine T.seq ?_
  refine T.text [.l] rfl ?_
  refine J.alloc 6 rfl zero50 [.int .u64 0, .int .u64 0, .int .u64 0, .int .u64 0] rfl rfl (fun g6 hg6 => ?_)
  refine J.end ?_
  refine X.then ?_
  refine T.seq ?_
  refine T.text [.l] rfl ?_
  refine J.assign rfl rfl ?_
  refine J.end ?_
  refine X.then ?_
  refine T.seq ?_
  refine T.seq ?_
  refine T.text [.l] rfl ?_
  refine J.move rfl rfl ?_
  refine J.end ?_
  refine X.then ?_
  refine T.block ?_
  refine T.loop (ι := Nat × Nat × List Nat) (fun ((i, c, ys) : Nat × Nat × List Nat) => i ≤ 4 ∧ c = (x0 % 18446744073709551616 ^ i + x1 % 18446744073709551616 ^ i) / 18446744073709551616 ^ i ∧ ys.length = 4 ∧ ∀ q, q < i → ys.getD q 0 = lim (x0 + x1) q) (fun ((i, c, ys) : Nat × Nat × List Nat) => [(0, W x0), (1, W x1), (2, .pointer (some ⟨g2, 0, none⟩)), (3, .pointer (some ⟨g3, 0, none⟩)), (4, .pointer (some ⟨g4, 0, none⟩)), (5, .int .u64 0), (6, .pointer (some ⟨g6, 0, none⟩)), (7, .int .u64 (c : Int)), (9, .int .i64 (i : Int))]) (fun ((i, c, ys) : Nat × Nat × List Nat) => [(2, ⟨some g2, 50, (wc x0)⟩), (3, ⟨some g3, 50, (wc x1)⟩), (4, ⟨some g4, 50, [.int .u64 0, .int .u64 0, .int .u64 0, .int .u64 0]⟩), (6, ⟨some g6, 50, rowN .u64 ys⟩)]) (fun ((i, c, ys) : Nat × Nat × List Nat) => 4 - i) ⟨0, 0, [0, 0, 0, 0]⟩ ⟨Nat.zero_le _, by simp [Nat.mod_one], rfl, fun q hq => by omega⟩ (by repeat (first | exact Sub.nil _ | refine Sub.cons (by first | rfl | (rw [dgs_zero]; rfl) | (rw [List.drop_length]; rfl) | (simp; done) | (congr 2; omega) | (congr 3; omega)) ?_)) (by repeat (first | exact Sub.nil _ | refine Sub.cons (by first | rfl | (rw [dgs_zero]; rfl) | (rw [List.drop_length]; rfl) | (simp; done) | (congr 2; omega) | (congr 3; omega)) ?_)) ?_
  rintro ⟨i, c, ys⟩ ⟨hi, hc, hl, hy⟩
  try dsimp only at *
  have hcl : c ≤ 1 := by rw [hc]; exact add_carry_le x0 x1 i
  have hl0 := lim_lt x0 i
  have hl1 := lim_lt x1 i
  refine T.seq ?_
  refine T.text [.l] rfl ?_
  refine J.lss rfl rfl rfl rfl ?_
  refine J.end ?_
  refine X.then ?_
  refine T.seq ?_
  refine T.cond_dec rfl (fun h1 => ?_) (fun h1 => ?_)
  · have hi4 : i < 4 := by omega
    have hst := add_step x0 x1 i hi4
    refine T.skip ?_
    refine X.then ?_
    refine T.seq ?_
    refine T.block ?_
    refine T.seq ?_
    refine T.text [.l, .l] rfl ?_
    refine J.move rfl rfl ?_
    refine J.assign rfl rfl ?_
    refine J.end ?_
    refine X.then ?_
    refine T.draw [] [(0, .g), (1, .g), (2, .g), (3, .q), (4, .g), (5, .g), (6, .q), (7, .g), (8, .g), (9, .g), (10, .g), (11, .g), (12, .g), (13, .l), (14, .g)] (by kernel_rfl) (by kernel_rfl) ?_ (by repeat (first | exact Sub.nil _ | refine Sub.cons (by first | rfl | (rw [dgs_zero]; rfl) | (rw [List.drop_length]; rfl) | (simp; done) | (congr 2; omega) | (congr 3; omega)) ?_))
    refine J.move rfl rfl ?_
    refine J.move rfl rfl ?_
    refine J.indexArr arr50 rfl rfl (by omega) (by omega) (by first | exact Int.toNat_natCast _ | rfl) rfl ?_
    refine J.load1 (k := .q) trivial 2 rfl rfl one48 (by exact rowN_get0 _ _ _ (by rw [wl_length]; omega)) rfl ?_
    refine J.as 16 (.int .u64 ((lim x0 i : Nat) : Int)) rfl (by rw [wl_get _ _ (by omega)]) ?_
    refine J.move rfl rfl ?_
    refine J.indexArr arr50 rfl rfl (by omega) (by omega) (by first | exact Int.toNat_natCast _ | rfl) rfl ?_
    refine J.load1 (k := .q) trivial 3 rfl rfl one48 (by exact rowN_get0 _ _ _ (by rw [wl_length]; omega)) rfl ?_
    refine J.as 19 (.int .u64 ((lim x1 i : Nat) : Int)) rfl (by rw [wl_get _ _ (by omega)]) ?_
    refine J.move rfl rfl ?_
    refine J.add64 Tryz.func112 (by kernel_rfl) (by kernel_rfl) (by kernel_rfl) (by kernel_rfl) rfl rfl rfl (by omega) rfl ?_
    refine J.move rfl rfl ?_
    refine J.extract rfl rfl rfl ?_
    refine J.extract rfl rfl rfl ?_
    refine J.indexArr arr50 rfl rfl (by omega) (by omega) (by first | exact Int.toNat_natCast _ | rfl) rfl ?_
    refine J.store 6 rfl rfl rfl rfl [.int .u64 ((((lim x0 i + lim x1 i + c) % 18446744073709551616 : Nat)) : Int)] rfl sz48 (by rw [rowN_length, hl]; show _ + 1 ≤ 4; omega) (by first | exact rowN_one _ _ | (simp; done) | (intro u hu; simp at hu; subst hu; rfl) | (intro u hu; simp at hu; rcases hu with rfl | rfl <;> rfl)) (by first | decide | exact Nat.zero_lt_succ _ | simp) trivial (rowN .u64 (ys.set i ((lim x0 i + lim x1 i + c) % 18446744073709551616))) (by rw [Nat.zero_add, Nat.mul_one]; exact putN' _ _ _ _ (by omega)) ?_
    refine J.assign rfl rfl ?_
    refine J.end ?_
    refine X.inBlock (X.then ?_)
    refine T.text [.l, .l] rfl ?_
    refine J.add rfl rfl rfl (by first | exact add_nat _ 1 (by omega) | exact i64_ok _ (by omega) | exact rfl) ?_
    refine J.move rfl rfl ?_
    refine J.end ?_
    exact X.round ⟨(i + 1), ((lim x0 i + lim x1 i + c) / 18446744073709551616), (ys.set i ((lim x0 i + lim x1 i + c) % 18446744073709551616))⟩ ⟨by omega, by rw [hc]; exact hst.2, by simp [hl], fun q hq => by
          rw [getD_set _ _ _ _ (by omega)]
          split
          · rename_i hiq; subst hiq; rw [hc]; exact hst.1
          · exact hy q (by omega)⟩ (by first | omega | (dsimp only; omega)) (by repeat (first | exact Sub.nil _ | refine Sub.cons (by first | rfl | (rw [dgs_zero]; rfl) | (rw [List.drop_length]; rfl) | (simp; done) | (congr 2; omega) | (congr 3; omega)) ?_)) (by repeat (first | exact Sub.nil _ | refine Sub.cons (by first | rfl | (rw [dgs_zero]; rfl) | (rw [List.drop_length]; rfl) | (simp; done) | (congr 2; omega) | (congr 3; omega)) ?_))
  · obtain rfl : i = 4 := by omega
    obtain rfl : ys = wl (x0 + x1) := wl_of hl _ hy
    refine T.exit ?_
    refine X.then_exit (X.then_exit (X.inBlock_eq (X.then ?_)))
    refine T.seq ?_
    refine T.text [.l, .l, .l, .l] rfl ?_
    refine J.loadN (k := .l) trivial 6 rfl rfl agg50 (wc (x0 + x1)) rfl rfl rfl ?_
    refine J.move rfl rfl ?_
    refine J.store 4 rfl rfl rfl rfl (wc (x0 + x1)) rfl sz50 (by first | decide | exact Nat.le_refl _ | exact Nat.le_of_ble_eq_true rfl | (simp [rowN]; done) | (simp [rowN]; omega)) (by first | exact rowN_one _ _ | (simp; done) | (intro u hu; simp at hu; subst hu; rfl) | (intro u hu; simp at hu; rcases hu with rfl | rfl <;> rfl)) (by first | decide | exact Nat.zero_lt_succ _ | simp) trivial (wc (x0 + x1)) rfl ?_
    refine J.assign rfl rfl ?_
    refine J.end ?_
    refine X.then ?_
    refine T.ret ?_
    exact X.ret2 rfl (RV.agg 4 rfl rfl agg50 (wc (x0 + x1)) (by rfl) (by rfl) rfl) (RV.tmp rfl) (fun w' hw' => ⟨by first | (rw [hc]; done) | (rw [hc]; rfl), hw'.sub (Sub.nil _)⟩)

theorem minus (w : World) (x0 : Nat) (x1 : Nat) :
    Calls Tryz.prog 108 [W x0, W x1].toArray w fun e w' => e = .returned (.tuple #[W (dif x0 x1), .int .u64 ((if x0 % 2 ^ 256 < x1 % 2 ^ 256 then 1 else 0 : Nat) : Int)]) ∧ WS w [] [] w' := by
  refine calls_of_T [] 28 [] Tryz.func108 rfl Tryz.ntmps108 (by simp) (WS.refl _ _) ?_
  refine T.seq ?_
  refine T.text [.l, .l, .l, .l] rfl ?_
  refine J.box 2 rfl rfl (wc x0) rfl rfl (fun g2 hg2 => ?_)
  refine J.box 3 rfl rfl (wc x1) rfl rfl (fun g3 hg3 => ?_)
  refine J.alloc 4 rfl zero50 [.int .u64 0, .int .u64 0, .int .u64 0, .int .u64 0] rfl rfl (fun g4 hg4 => ?_)
  refine J.assign rfl rfl ?_
  refine J.end ?_
  refine X.then ?_
  refine T.seq ?_
  refine T.text [.l] rfl ?_
  refine J.alloc 6 rfl zero50 [.int .u64 0, .int .u64 0, .int .u64 0, .int .u64 0] rfl rfl (fun g6 hg6 => ?_)
  refine J.end ?_
  refine X.then ?_
  refine T.seq ?_
  refine T.text [.l] rfl ?_
  refine J.assign rfl rfl ?_
  refine J.end ?_
  refine X.then ?_
  refine T.seq ?_
  refine T.seq ?_
  refine T.text [.l] rfl ?_
  refine J.move rfl rfl ?_
  refine J.end ?_
  refine X.then ?_
  refine T.block ?_
  refine T.loop (ι := Nat × Nat × List Nat) (fun ((i, c, ys) : Nat × Nat × List Nat) => i ≤ 4 ∧ c = bor x0 x1 i ∧ ys.length = 4 ∧ ∀ q, q < i → ys.getD q 0 = lim (dif x0 x1) q) (fun ((i, c, ys) : Nat × Nat × List Nat) => [(0, W x0), (1, W x1), (2, .pointer (some ⟨g2, 0, none⟩)), (3, .pointer (some ⟨g3, 0, none⟩)), (4, .pointer (some ⟨g4, 0, none⟩)), (5, .int .u64 0), (6, .pointer (some ⟨g6, 0, none⟩)), (7, .int .u64 (c : Int)), (9, .int .i64 (i : Int))]) (fun ((i, c, ys) : Nat × Nat × List Nat) => [(2, ⟨some g2, 50, (wc x0)⟩), (3, ⟨some g3, 50, (wc x1)⟩), (4, ⟨some g4, 50, [.int .u64 0, .int .u64 0, .int .u64 0, .int .u64 0]⟩), (6, ⟨some g6, 50, rowN .u64 ys⟩)]) (fun ((i, c, ys) : Nat × Nat × List Nat) => 4 - i) ⟨0, 0, [0, 0, 0, 0]⟩ ⟨Nat.zero_le _, (bor_zero x0 x1).symm, rfl, fun q hq => by omega⟩ (by repeat (first | exact Sub.nil _ | refine Sub.cons (by first | rfl | (rw [dgs_zero]; rfl) | (rw [List.drop_length]; rfl) | (simp; done) | (congr 2; omega) | (congr 3; omega)) ?_)) (by repeat (first | exact Sub.nil _ | refine Sub.cons (by first | rfl | (rw [dgs_zero]; rfl) | (rw [List.drop_length]; rfl) | (simp; done) | (congr 2; omega) | (congr 3; omega)) ?_)) ?_
  rintro ⟨i, c, ys⟩ ⟨hi, hc, hl, hy⟩
  try dsimp only at *
  have hcl : c ≤ 1 := by rw [hc]; exact bor_le x0 x1 i
  have hl0 := lim_lt x0 i
  have hl1 := lim_lt x1 i
  refine T.seq ?_
  refine T.text [.l] rfl ?_
  refine J.lss rfl rfl rfl rfl ?_
  refine J.end ?_
  refine X.then ?_
  refine T.seq ?_
  refine T.cond_dec rfl (fun h1 => ?_) (fun h1 => ?_)
  · have hi4 : i < 4 := by omega
    have hst := sub_step x0 x1 i hi4
    refine T.skip ?_
    refine X.then ?_
    refine T.seq ?_
    refine T.block ?_
    refine T.seq ?_
    refine T.text [.l, .l] rfl ?_
    refine J.move rfl rfl ?_
    refine J.assign rfl rfl ?_
    refine J.end ?_
    refine X.then ?_
    refine T.draw [] [(0, .g), (1, .g), (2, .g), (3, .q), (4, .g), (5, .g), (6, .q), (7, .g), (8, .g), (9, .g), (10, .g), (11, .g), (12, .g), (13, .l), (14, .g)] (by kernel_rfl) (by kernel_rfl) ?_ (by repeat (first | exact Sub.nil _ | refine Sub.cons (by first | rfl | (rw [dgs_zero]; rfl) | (rw [List.drop_length]; rfl) | (simp; done) | (congr 2; omega) | (congr 3; omega)) ?_))
    refine J.move rfl rfl ?_
    refine J.move rfl rfl ?_
    refine J.indexArr arr50 rfl rfl (by omega) (by omega) (by first | exact Int.toNat_natCast _ | rfl) rfl ?_
    refine J.load1 (k := .q) trivial 2 rfl rfl one48 (by exact rowN_get0 _ _ _ (by rw [wl_length]; omega)) rfl ?_
    refine J.as 16 (.int .u64 ((lim x0 i : Nat) : Int)) rfl (by rw [wl_get _ _ (by omega)]) ?_
    refine J.move rfl rfl ?_
    refine J.indexArr arr50 rfl rfl (by omega) (by omega) (by first | exact Int.toNat_natCast _ | rfl) rfl ?_
    refine J.load1 (k := .q) trivial 3 rfl rfl one48 (by exact rowN_get0 _ _ _ (by rw [wl_length]; omega)) rfl ?_
    refine J.as 19 (.int .u64 ((lim x1 i : Nat) : Int)) rfl (by rw [wl_get _ _ (by omega)]) ?_
    refine J.move rfl rfl ?_
    refine J.sub64 Tryz.func128 (by kernel_rfl) (by kernel_rfl) (by kernel_rfl) (by kernel_rfl) rfl rfl rfl (by omega) rfl ?_
    refine J.move rfl rfl ?_
    refine J.extract rfl rfl rfl ?_
    refine J.extract rfl rfl rfl ?_
    refine J.indexArr arr50 rfl rfl (by omega) (by omega) (by first | exact Int.toNat_natCast _ | rfl) rfl ?_
    refine J.store 6 rfl rfl rfl rfl [.int .u64 ((((lim x0 i + 18446744073709551616 - lim x1 i - c) % 18446744073709551616 : Nat)) : Int)] rfl sz48 (by rw [rowN_length, hl]; show _ + 1 ≤ 4; omega) (by first | exact rowN_one _ _ | (simp; done) | (intro u hu; simp at hu; subst hu; rfl) | (intro u hu; simp at hu; rcases hu with rfl | rfl <;> rfl)) (by first | decide | exact Nat.zero_lt_succ _ | simp) trivial (rowN .u64 (ys.set i ((lim x0 i + 18446744073709551616 - lim x1 i - c) % 18446744073709551616))) (by rw [Nat.zero_add, Nat.mul_one]; exact putN' _ _ _ _ (by omega)) ?_
    refine J.assign rfl rfl ?_
    refine J.end ?_
    refine X.inBlock (X.then ?_)
    refine T.text [.l, .l] rfl ?_
    refine J.add rfl rfl rfl (by first | exact add_nat _ 1 (by omega) | exact i64_ok _ (by omega) | exact rfl) ?_
    refine J.move rfl rfl ?_
    refine J.end ?_
    exact X.round ⟨(i + 1), (if lim x0 i < lim x1 i + c then 1 else 0), (ys.set i ((lim x0 i + 18446744073709551616 - lim x1 i - c) % 18446744073709551616))⟩ ⟨by omega, by rw [hc]; exact hst.2, by simp [hl], fun q hq => by
          rw [getD_set _ _ _ _ (by omega)]
          split
          · rename_i hiq; subst hiq; rw [hc]; exact hst.1
          · exact hy q (by omega)⟩ (by first | omega | (dsimp only; omega)) (by repeat (first | exact Sub.nil _ | refine Sub.cons (by first | rfl | (rw [dgs_zero]; rfl) | (rw [List.drop_length]; rfl) | (simp; done) | (congr 2; omega) | (congr 3; omega)) ?_)) (by repeat (first | exact Sub.nil _ | refine Sub.cons (by first | rfl | (rw [dgs_zero]; rfl) | (rw [List.drop_length]; rfl) | (simp; done) | (congr 2; omega) | (congr 3; omega)) ?_))
  · obtain rfl : i = 4 := by omega
    obtain rfl : ys = wl (dif x0 x1) := wl_of hl _ hy
    refine T.exit ?_
    refine X.then_exit (X.then_exit (X.inBlock_eq (X.then ?_)))
    refine T.seq ?_
    refine T.text [.l, .l, .l, .l] rfl ?_
    refine J.loadN (k := .l) trivial 6 rfl rfl agg50 (wc (dif x0 x1)) rfl rfl rfl ?_
    refine J.move rfl rfl ?_
    refine J.store 4 rfl rfl rfl rfl (wc (dif x0 x1)) rfl sz50 (by first | decide | exact Nat.le_refl _ | exact Nat.le_of_ble_eq_true rfl | (simp [rowN]; done) | (simp [rowN]; omega)) (by first | exact rowN_one _ _ | (simp; done) | (intro u hu; simp at hu; subst hu; rfl) | (intro u hu; simp at hu; rcases hu with rfl | rfl <;> rfl)) (by first | decide | exact Nat.zero_lt_succ _ | simp) trivial (wc (dif x0 x1)) rfl ?_
    refine J.assign rfl rfl ?_
    refine J.end ?_
    refine X.then ?_
    refine T.ret ?_
    exact X.ret2 rfl (RV.agg 4 rfl rfl agg50 (wc (dif x0 x1)) (by rfl) (by rfl) rfl) (RV.tmp rfl) (fun w' hw' => ⟨by first | (rw [hc]; done) | (rw [hc]; rfl), hw'.sub (Sub.nil _)⟩)

theorem Lt (w : World) (x0 : Nat) (x1 : Nat) :
    Calls Tryz.prog 99 [W x0, W x1].toArray w fun e w' => e = .returned (.bool (decide (x0 % 2 ^ 256 < x1 % 2 ^ 256))) ∧ WS w [] [] w' := by
  refine calls_of_T [] 15 [] Tryz.func99 rfl Tryz.ntmps99 (by simp) (WS.refl _ _) ?_
  refine T.seq ?_
  refine T.text [.l, .l, .l] rfl ?_
  refine J.box 2 rfl rfl (wc x0) rfl rfl (fun g2 hg2 => ?_)
  refine J.box 3 rfl rfl (wc x1) rfl rfl (fun g3 hg3 => ?_)
  refine J.assign rfl rfl ?_
  refine J.end ?_
  refine X.then ?_
  refine T.seq ?_
  refine T.text [.l, .l, .l, .l, .l, .l, .l, .l, .l] rfl ?_
  refine J.loadN (k := .l) trivial 2 rfl rfl agg50 (wc x0) rfl rfl rfl ?_
  refine J.loadN (k := .l) trivial 3 rfl rfl agg50 (wc x1) rfl rfl rfl ?_
  refine J.call0 (k := .l) trivial fok108 rfl rfl (fun w hw => Wa.minus w _ _) ?_
  refine J.move rfl rfl ?_
  refine J.extract rfl rfl rfl ?_
  refine J.extract rfl rfl rfl ?_
  refine J.alloc 5 rfl zero50 [.int .u64 0, .int .u64 0, .int .u64 0, .int .u64 0] rfl rfl (fun g5 hg5 => ?_)
  refine J.store 5 rfl rfl rfl rfl (wc (dif x0 x1)) rfl sz50 (by first | decide | exact Nat.le_refl _ | exact Nat.le_of_ble_eq_true rfl | (simp [rowN]; done) | (simp [rowN]; omega)) (by first | exact rowN_one _ _ | (simp; done) | (intro u hu; simp at hu; subst hu; rfl) | (intro u hu; simp at hu; rcases hu with rfl | rfl <;> rfl)) (by first | decide | exact Nat.zero_lt_succ _ | simp) trivial (wc (dif x0 x1)) rfl ?_
  refine J.assign rfl rfl ?_
  refine J.end ?_
  refine X.then ?_
  refine T.seq ?_
  refine T.text [.l, .l, .l] rfl ?_
  refine J.move rfl rfl ?_
  refine J.eql rfl rfl rfl rfl ?_
  refine J.assign rfl rfl ?_
  refine J.end ?_
  refine X.then ?_
  refine T.ret ?_
  exact X.ret1 rfl (RV.tmp rfl) (fun w' hw' => ⟨by congr 2; split <;> simp_all, hw'.sub (Sub.nil _)⟩)

theorem IsZero (w : World) (x0 : Nat) :
    Calls Tryz.prog 74 [W x0].toArray w fun e w' => e = .returned (.bool (decide (x0 % 2 ^ 256 = 0))) ∧ WS w [] [] w' := by
  refine calls_of_T [] 6 [] Tryz.func74 rfl Tryz.ntmps74 (by simp) (WS.refl _ _) ?_
  refine T.seq ?_
  refine T.text [.l, .l] rfl ?_
  refine J.box 1 rfl rfl (wc x0) rfl rfl (fun g1 hg1 => ?_)
  refine J.assign rfl rfl ?_
  refine J.end ?_
  refine X.then ?_
  refine T.seq ?_
  refine T.text [.l, .l, .l, .l] rfl ?_
  refine J.loadN (k := .l) trivial 1 rfl rfl agg50 (wc x0) rfl rfl rfl ?_
  refine J.build rfl rfl (W 0) (fun w => by kernel_rfl) ?_
  refine J.eqW eqw50 rfl rfl rfl ?_
  refine J.assign rfl rfl ?_
  refine J.end ?_
  refine X.then ?_
  refine T.ret ?_
  exact X.ret1 rfl (RV.tmp rfl) (fun w' hw' => ⟨rfl, hw'.sub (Sub.nil _)⟩)

theorem ahead (w : World) (x0 : Nat) :
    Calls Tryz.prog 107 [W x0].toArray w fun e w' => e = .returned (.int .i64 ((256 - bitLen (x0 % 2 ^ 256) : Nat) : Int)) ∧ WS w [] [] w' := by
  refine calls_of_T [] 20 [] Tryz.func107 rfl Tryz.ntmps107 (by simp) (WS.refl _ _) ?_
  refine T.seq ?_
  refine T.text [.l, .l] rfl ?_
  refine J.box 1 rfl rfl (wc x0) rfl rfl (fun g1 hg1 => ?_)
  refine J.assign rfl rfl ?_
  refine J.end ?_
  refine X.then ?_
  refine T.seq ?_
  refine T.text [.l] rfl ?_
  refine J.assign rfl rfl ?_
  refine J.end ?_
  refine X.then ?_
  refine T.seq ?_
  refine T.seq ?_
  refine T.text [.l] rfl ?_
  refine J.assign rfl rfl ?_
  refine J.end ?_
  refine X.then ?_
  refine T.block ?_
  refine T.loop (ι := Nat) (fun (j : Nat) => j ≤ 4 ∧ ∀ q, j ≤ q → q < 4 → lim x0 q = 0) (fun (j : Nat) => [(0, W x0), (1, .pointer (some ⟨g1, 0, none⟩)), (2, .int .i64 0), (3, .int .i64 ((256 - 64 * j : Nat) : Int)), (4, .int .i64 ((j : Int) - 1))]) (fun (j : Nat) => [(1, ⟨some g1, 50, (wc x0)⟩)]) (fun (j : Nat) => j) 4 ⟨Nat.le_refl _, fun q h1 h2 => by omega⟩ (by repeat (first | exact Sub.nil _ | refine Sub.cons (by first | rfl | (rw [dgs_zero]; rfl) | (rw [List.drop_length]; rfl) | (simp; done) | (congr 2; omega) | (congr 3; omega)) ?_)) (by repeat (first | exact Sub.nil _ | refine Sub.cons (by first | rfl | (rw [dgs_zero]; rfl) | (rw [List.drop_length]; rfl) | (simp; done) | (congr 2; omega) | (congr 3; omega)) ?_)) ?_
  rintro j ⟨hj, hz⟩
  refine T.seq ?_
  refine T.seq ?_
  refine T.text [.l, .l] rfl ?_
  refine J.move rfl rfl ?_
  refine J.geq rfl rfl rfl rfl ?_
  refine J.end ?_
  refine X.then ?_
  refine T.cond_dec rfl (fun h1 => ?_) (fun h1 => ?_)
  · obtain ⟨i, rfl⟩ : ∃ i, j = i + 1 := ⟨j - 1, by omega⟩
    refine T.as 4 (.int .i64 (i : Int)) rfl (by congr 1; omega) ?_
    have hll := lim_lt x0 i
    have hbl := bitLen_le64 (lim x0 i) hll
    refine T.skip ?_
    refine X.then ?_
    refine T.seq ?_
    refine T.block ?_
    refine T.seq ?_
    refine T.text [.l, .l, .l, .l, .l] rfl ?_
    refine J.move rfl rfl ?_
    refine J.indexArr arr50 rfl rfl (by omega) (by omega) (by first | exact Int.toNat_natCast _ | rfl) rfl ?_
    refine J.load1 (k := .l) trivial 1 rfl rfl one48 (by exact rowN_get0 _ _ _ (by rw [wl_length]; omega)) rfl ?_
    refine J.as 12 (.int .u64 ((lim x0 i : Nat) : Int)) rfl (by rw [wl_get _ _ (by omega)]) ?_
    refine J.call0 (k := .l) trivial fok127 rfl rfl (fun w hw => Wa.LeadingZeros64 w _ hll) ?_
    refine J.assign rfl rfl ?_
    refine J.end ?_
    refine X.then ?_
    refine T.seq ?_
    refine T.text [.l, .l, .l, .l] rfl ?_
    refine J.move rfl rfl ?_
    refine J.move rfl rfl ?_
    refine J.add rfl rfl rfl (by first | exact add_nat _ _ (by omega) | exact i64_ok _ (by omega) | exact rfl) ?_
    refine J.assign rfl rfl ?_
    refine J.end ?_
    refine X.then ?_
    refine T.seq ?_
    refine T.text [.l, .l] rfl ?_
    refine J.move rfl rfl ?_
    refine J.lss rfl rfl rfl rfl ?_
    refine J.end ?_
    refine X.then ?_
    refine T.cond_dec rfl (fun h2 => ?_) (fun h2 => ?_)
    · have hne : lim x0 i ≠ 0 := fun e => by rw [e, bitLen_zero] at h2; omega
      have hbe := bitLen_limb x0 i (by omega) (fun q h1 h2 => hz q (by omega) h2) hne
      refine T.exit ?_
      refine X.inBlock_ne rfl (X.then_exit (X.then_exit (X.inBlock_eq (X.then ?_))))
      refine T.seq ?_
      refine T.text [.l, .l] rfl ?_
      refine J.move rfl rfl ?_
      refine J.assign rfl rfl ?_
      refine J.end ?_
      refine X.then ?_
      refine T.ret ?_
      exact X.ret1 rfl (RV.tmp rfl) (fun w' hw' => ⟨by congr 2; omega, hw'.sub (Sub.nil _)⟩)
    · refine T.as 3 (.int .i64 ((256 - 64 * i : Nat) : Int)) rfl (by congr 2; omega) ?_
      refine T.skip ?_
      refine X.inBlock (X.then ?_)
      refine T.text [.l, .l, .l] rfl ?_
      refine J.move rfl rfl ?_
      refine J.sub' rfl rfl rfl (by first | exact sub_nat _ 1 (by omega) | exact i64_ok _ (by omega) | exact rfl) ?_
      refine J.assign rfl rfl ?_
      refine J.end ?_
      exact X.round i ⟨by omega, fun q h3 h4 => (Nat.lt_or_ge i q).elim (fun h => hz q h h4) (fun h => by obtain rfl : q = i := (by omega); exact Classical.byContradiction fun hne => by have := bitLen_pos _ hne; omega)⟩ (by first | omega | (dsimp only; omega)) (by repeat (first | exact Sub.nil _ | refine Sub.cons (by first | rfl | (rw [dgs_zero]; rfl) | (rw [List.drop_length]; rfl) | (simp; done) | (congr 2; omega) | (congr 3; omega)) ?_)) (by repeat (first | exact Sub.nil _ | refine Sub.cons (by first | rfl | (rw [dgs_zero]; rfl) | (rw [List.drop_length]; rfl) | (simp; done) | (congr 2; omega) | (congr 3; omega)) ?_))
  · obtain rfl : j = 0 := by omega
    have hbn := bitLen_none x0 (fun q hq => hz q (Nat.zero_le _) hq)
    refine T.exit ?_
    refine X.then_exit (X.then_exit (X.inBlock_eq (X.then ?_)))
    refine T.seq ?_
    refine T.text [.l, .l] rfl ?_
    refine J.move rfl rfl ?_
    refine J.assign rfl rfl ?_
    refine J.end ?_
    refine X.then ?_
    refine T.ret ?_
    exact X.ret1 rfl (RV.tmp rfl) (fun w' hw' => ⟨by congr 2; omega, hw'.sub (Sub.nil _)⟩)

theorem Size (w : World) (x0 : Nat) :
    Calls Tryz.prog 98 [W x0].toArray w fun e w' => e = .returned (.int .i64 (sizeN x0 : Int)) ∧ WS w [] [] w' := by
  have hb := bitLen_le256 x0
  have hs := sizeN_bitLen x0
  refine calls_of_T [] 7 [] Tryz.func98 rfl Tryz.ntmps98 (by simp) (WS.refl _ _) ?_
  refine T.seq ?_
  refine T.text [.l, .l] rfl ?_
  refine J.box 1 rfl rfl (wc x0) rfl rfl (fun g1 hg1 => ?_)
  refine J.assign rfl rfl ?_
  refine J.end ?_
  refine X.then ?_
  refine T.seq ?_
  refine T.text [.l, .l, .l, .l, .l] rfl ?_
  refine J.loadN (k := .l) trivial 1 rfl rfl agg50 (wc x0) rfl rfl rfl ?_
  refine J.call0 (k := .l) trivial fok107 rfl rfl (fun w hw => Wa.ahead w _) ?_
  refine J.sub' rfl rfl rfl (by first | exact sub_nat 263 _ (by omega) | exact i64_ok _ (by omega) | exact rfl) ?_
  refine J.quo rfl rfl rfl (by omega) (by first | exact quo_nat _ 8 (by omega) | exact i64_quo_ok _ _ (by omega) | exact rfl) ?_
  refine J.assign rfl rfl ?_
  refine J.end ?_
  refine X.then ?_
  refine T.ret ?_
  exact X.ret1 rfl (RV.tmp rfl) (fun w' hw' => ⟨by congr 2; omega, hw'.sub (Sub.nil _)⟩)

theorem Uint (w : World) (x0 : Nat) :
    Calls Tryz.prog 84 [W x0].toArray w fun e w' => e = .returned (.tuple #[.int .u64 ((if sizeN x0 > 8 then 0 else lim x0 0 : Nat) : Int), .bool (decide (¬ sizeN x0 > 8))]) ∧ WS w [] [] w' := by
  refine calls_of_T [] 9 [] Tryz.func84 rfl Tryz.ntmps84 (by simp) (WS.refl _ _) ?_
  refine T.seq ?_
  refine T.text [.l, .l, .l] rfl ?_
  refine J.box 1 rfl rfl (wc x0) rfl rfl (fun g1 hg1 => ?_)
  refine J.assign rfl rfl ?_
  refine J.assign rfl rfl ?_
  refine J.end ?_
  refine X.then ?_
  refine T.seq ?_
  refine T.seq ?_
  refine T.text [.l, .l, .l] rfl ?_
  refine J.loadN (k := .l) trivial 1 rfl rfl agg50 (wc x0) rfl rfl rfl ?_
  refine J.call0 (k := .l) trivial fok98 rfl rfl (fun w hw => Wa.Size w _) ?_
  refine J.gtr rfl rfl rfl rfl ?_
  refine J.end ?_
  refine X.then ?_
  refine T.cond_dec rfl (fun h1 => ?_) (fun h1 => ?_)
  · skip
    refine T.seq ?_
    refine T.text [.l, .l] rfl ?_
    refine J.assign rfl rfl ?_
    refine J.assign rfl rfl ?_
    refine J.end ?_
    refine X.then ?_
    refine T.ret ?_
    refine X.then_ret ?_
    exact X.ret2 rfl (RV.tmp rfl) (RV.tmp rfl) (fun w' hw' => ⟨by rw [if_pos (by omega), decide_eq_false (by omega)]; rfl, hw'.sub (Sub.nil _)⟩)
  · skip
    refine T.skip ?_
    refine X.then ?_
    refine T.seq ?_
    refine T.text [.l, .l, .l, .l] rfl ?_
    refine J.indexArr arr50 rfl rfl (by omega) (by omega) (by rfl) rfl ?_
    refine J.load1 (k := .l) trivial 1 rfl rfl one48 rfl rfl ?_
    refine J.assign rfl rfl ?_
    refine J.assign rfl rfl ?_
    refine J.end ?_
    refine X.then ?_
    refine T.ret ?_
    exact X.ret2 rfl (RV.tmp rfl) (RV.tmp rfl) (fun w' hw' => ⟨by rw [if_neg (by omega), decide_eq_true (by omega)], hw'.sub (Sub.nil _)⟩)

theorem Sum (w : World) (A0 : Option Addr) (c0 : Nat) (xs0 : List Nat) (hc0 : Cs w A0 (rowW xs0)) (hb0 : xs0.length ≤ 9223372036854775807) :
    Calls Tryz.prog 80 [.slice A0 xs0.length c0].toArray w fun e w' => e = .returned (.tuple #[W (if sumN xs0 < 2 ^ 256 then sumN xs0 else 0), .bool (decide (sumN xs0 < 2 ^ 256))]) ∧ WS w [] [] w' := by
  refine calls_of_T [] 25 [] Tryz.func80 rfl Tryz.ntmps80 (by simp) (WS.refl _ _) ?_
  refine T.seq ?_
  refine T.text [.l, .l] rfl ?_
  refine J.alloc 2 rfl zero50 [.int .u64 0, .int .u64 0, .int .u64 0, .int .u64 0] rfl rfl (fun g2 hg2 => ?_)
  refine J.assign rfl rfl ?_
  refine J.end ?_
  refine X.then ?_
  refine T.seq ?_
  refine T.text [.l] rfl ?_
  refine J.alloc 4 rfl zero50 [.int .u64 0, .int .u64 0, .int .u64 0, .int .u64 0] rfl rfl (fun g4 hg4 => ?_)
  refine J.end ?_
  refine X.then ?_
  refine T.seq ?_
  refine T.seq ?_
  refine T.text [.l, .l, .l] rfl ?_
  refine J.move rfl rfl ?_
  refine J.lenSl Tryz.underlying128 rfl rfl ?_
  refine J.move rfl rfl ?_
  refine J.end ?_
  refine X.then ?_
  refine T.block ?_
  refine T.asE 4 ⟨some g4, 50, wc (sumN (xs0.take 0))⟩ rfl (by rw [show sumN (xs0.take 0) = 0 by simp [sumN]]; rfl) ?_
  refine T.loop (ι := Nat) (fun (i : Nat) => i ≤ xs0.length ∧ sumN (xs0.take i) < 2 ^ 256) (fun (i : Nat) => [(0, .slice A0 xs0.length c0), (2, .pointer (some ⟨g2, 0, none⟩)), (4, .pointer (some ⟨g4, 0, none⟩)), (8, .slice A0 xs0.length c0), (9, .int .i64 ((xs0.length : Nat) : Int)), (10, .int .i64 (i : Int))]) (fun (i : Nat) => [(2, ⟨some g2, 50, [.int .u64 0, .int .u64 0, .int .u64 0, .int .u64 0]⟩), (4, ⟨some g4, 50, wc (sumN (xs0.take i))⟩)]) (fun (i : Nat) => xs0.length - i) 0 ⟨Nat.zero_le _, by simp [sumN]⟩ (by repeat (first | exact Sub.nil _ | refine Sub.cons (by first | rfl | (rw [dgs_zero]; rfl) | (rw [List.drop_length]; rfl) | (simp; done) | (congr 2; omega) | (congr 3; omega)) ?_)) (by repeat (first | exact Sub.nil _ | refine Sub.cons (by first | rfl | (rw [dgs_zero]; rfl) | (rw [List.drop_length]; rfl) | (simp; done) | (congr 2; omega) | (congr 3; omega)) ?_)) ?_
  rintro i ⟨hi, hs⟩
  refine T.seq ?_
  refine T.text [.l] rfl ?_
  refine J.lss rfl rfl rfl rfl ?_
  refine J.end ?_
  refine X.then ?_
  refine T.seq ?_
  refine T.cond_dec rfl (fun h1 => ?_) (fun h1 => ?_)
  · skip
    refine T.skip ?_
    refine X.then ?_
    refine T.seq ?_
    refine T.block ?_
    refine T.seq ?_
    refine T.text [.l, .l, .l, .l] rfl ?_
    refine J.indexSlI sl128 rfl (Cs.isSomeW hc0 (by omega)) rfl (by omega) (by omega) (by first | exact Int.toNat_natCast _ | rfl) rfl ?_
    refine J.loadIW (k := .l) trivial hc0 (off_nil _) rfl agg50 (by first | rfl | with_reducible exact rowW_seg0 _ _ _ (by omega) | with_reducible exact rowW_seg00 _ _ (by omega) | with_reducible exact rowW_segs _ _ _ (by omega) | with_reducible exact rowW_seg _ _ (by omega) | with_reducible exact rowW_segb _ _ _ (by omega) | exact rowW_seg _ _ (by omega) | exact rowW_segs _ _ _ (by omega)) rfl ?_
    have hts : sumN (xs0.take (i + 1)) = sumN (xs0.take i) + xs0.getD i 0 % 2 ^ 256 := by rw [take_succ_getD _ _ (by omega), sumN_snoc]
    have hml := Nat.mod_lt (xs0.getD i 0) (show 2 ^ 256 > 0 by decide)
    have hme := Nat.mod_eq_of_lt hs
    refine J.alloc 6 rfl zero50 [.int .u64 0, .int .u64 0, .int .u64 0, .int .u64 0] rfl rfl (fun g6 hg6 => ?_)
    refine J.store 6 rfl rfl rfl rfl (wc (xs0.getD i 0)) rfl sz50 (by first | decide | exact Nat.le_refl _ | exact Nat.le_of_ble_eq_true rfl | (simp [rowN]; done) | (simp [rowN]; omega)) (by first | exact rowN_one _ _ | (simp; done) | (intro u hu; simp at hu; subst hu; rfl) | (intro u hu; simp at hu; rcases hu with rfl | rfl <;> rfl)) (by first | decide | exact Nat.zero_lt_succ _ | simp) trivial (wc (xs0.getD i 0)) rfl ?_
    refine J.end ?_
    refine X.then ?_
    refine T.seq ?_
    refine T.text [.l] rfl ?_
    refine J.assign rfl rfl ?_
    refine J.end ?_
    refine X.then ?_
    refine T.seq ?_
    refine T.text [.l, .l, .l, .l, .l, .l, .l, .l] rfl ?_
    refine J.loadN (k := .l) trivial 4 rfl rfl agg50 (wc (sumN (xs0.take i))) rfl rfl rfl ?_
    refine J.loadN (k := .l) trivial 6 rfl rfl agg50 (wc (xs0.getD i 0)) rfl rfl rfl ?_
    refine J.call0 (k := .l) trivial fok101 rfl rfl (fun w hw => Wa.plus w _ _) ?_
    refine J.move rfl rfl ?_
    refine J.extract rfl rfl rfl ?_
    refine J.as 18 (W (sumN (xs0.take i) + xs0.getD i 0 % 2 ^ 256)) rfl (W_congr (by omega)) ?_
    refine J.extract rfl rfl rfl ?_
    refine J.store 4 rfl rfl rfl rfl (wc (sumN (xs0.take i) + xs0.getD i 0 % 2 ^ 256)) rfl sz50 (by first | decide | exact Nat.le_refl _ | exact Nat.le_of_ble_eq_true rfl | (simp [rowN]; done) | (simp [rowN]; omega)) (by first | exact rowN_one _ _ | (simp; done) | (intro u hu; simp at hu; subst hu; rfl) | (intro u hu; simp at hu; rcases hu with rfl | rfl <;> rfl)) (by first | decide | exact Nat.zero_lt_succ _ | simp) trivial (wc (sumN (xs0.take i) + xs0.getD i 0 % 2 ^ 256)) rfl ?_
    refine J.assign rfl rfl ?_
    refine J.end ?_
    refine X.then ?_
    refine T.seq ?_
    refine T.text [.l, .l] rfl ?_
    refine J.move rfl rfl ?_
    refine J.gtr rfl rfl rfl rfl ?_
    refine J.end ?_
    refine X.then ?_
    refine T.cond_dec rfl (fun h2 => ?_) (fun h2 => ?_)
    · have hle := sumN_take_le xs0 (i + 1)
      rw [hme] at h2
      refine T.seq ?_
      refine T.text [.l, .l, .l] rfl ?_
      refine J.build rfl rfl (W 0) (fun w => by kernel_rfl) ?_
      refine J.store 2 rfl rfl rfl rfl (wc 0) rfl sz50 (by first | decide | exact Nat.le_refl _ | exact Nat.le_of_ble_eq_true rfl | (simp [rowN]; done) | (simp [rowN]; omega)) (by first | exact rowN_one _ _ | (simp; done) | (intro u hu; simp at hu; subst hu; rfl) | (intro u hu; simp at hu; rcases hu with rfl | rfl <;> rfl)) (by first | decide | exact Nat.zero_lt_succ _ | simp) trivial (wc 0) rfl ?_
      refine J.assign rfl rfl ?_
      refine J.end ?_
      refine X.then ?_
      refine T.ret ?_
      refine X.inBlock_ret (X.then_ret (X.then_ret (X.inBlock_ret (X.then_ret ?_))))
      exact X.ret2 rfl (RV.agg 2 rfl rfl agg50 (wc 0) (by rfl) (by rfl) rfl) (RV.tmp rfl) (fun w' hw' => ⟨by rw [if_neg (by omega), decide_eq_false (by omega)], hw'.sub (Sub.nil _)⟩)
    · rw [hme] at h2
      refine T.skip ?_
      refine X.inBlock (X.then ?_)
      refine T.text [.l, .l] rfl ?_
      refine J.add rfl rfl rfl (by first | exact add_nat _ 1 (by omega) | exact i64_ok _ (by omega) | exact rfl) ?_
      refine J.move rfl rfl ?_
      refine J.end ?_
      exact X.round (i + 1) ⟨by omega, by rw [hts]; omega⟩ (by first | omega | (dsimp only; omega)) (by repeat (first | exact Sub.nil _ | refine Sub.cons (by first | rfl | (rw [dgs_zero]; rfl) | (rw [List.drop_length]; rfl) | (simp; done) | (congr 2; omega) | (congr 3; omega)) ?_)) (by repeat (first | exact Sub.nil _ | refine Sub.cons (by first | rfl | (rw [hts]; rfl)) ?_))
  · obtain rfl : i = xs0.length := by omega
    rw [List.take_length] at hs
    rw [List.take_length]
    refine T.exit ?_
    refine X.then_exit (X.then_exit (X.inBlock_eq (X.then ?_)))
    refine T.seq ?_
    refine T.text [.l, .l, .l] rfl ?_
    refine J.loadN (k := .l) trivial 4 rfl rfl agg50 (wc (sumN xs0)) rfl rfl rfl ?_
    refine J.store 2 rfl rfl rfl rfl (wc (sumN xs0)) rfl sz50 (by first | decide | exact Nat.le_refl _ | exact Nat.le_of_ble_eq_true rfl | (simp [rowN]; done) | (simp [rowN]; omega)) (by first | exact rowN_one _ _ | (simp; done) | (intro u hu; simp at hu; subst hu; rfl) | (intro u hu; simp at hu; rcases hu with rfl | rfl <;> rfl)) (by first | decide | exact Nat.zero_lt_succ _ | simp) trivial (wc (sumN xs0)) rfl ?_
    refine J.assign rfl rfl ?_
    refine J.end ?_
    refine X.then ?_
    refine T.ret ?_
    exact X.ret2 rfl (RV.agg 2 rfl rfl agg50 (wc (sumN xs0)) (by rfl) (by rfl) rfl) (RV.tmp rfl) (fun w' hw' => ⟨by rw [if_pos hs, decide_eq_true hs], hw'.sub (Sub.nil _)⟩)
end Go.Proofs.YtlllcafedekojaaGreatDoor.Wa
set_option linter.unusedVariables false
set_option maxRecDepth 20000
namespace Go.Proofs.YtlllcafedekojaaGreatDoor.Da
open Go Go.Fw

theorem sz287 : SizeT Tryz.prog 287 32 := (by unfold SizeT; kernel_rfl)
theorem el5 : ElT Tryz.prog 5 1 1 (.int .u8 0) := ⟨by kernel_rfl, rfl, by decide, by decide⟩
theorem agg50 : AggT Tryz.prog 50 4 := ⟨⟨_, Tryz.underlying50, rfl⟩, by kernel_rfl⟩
theorem sz48 : SizeT Tryz.prog 48 1 := (by unfold SizeT; kernel_rfl)
theorem arr50 : ArrT Tryz.prog 50 4 48 1 := ⟨Tryz.underlying50, sz48⟩
theorem one48 : OneT Tryz.prog 48 := ⟨⟨_, Tryz.underlying48, rfl⟩, by kernel_rfl⟩
theorem eqw50 : EqT Tryz.prog 50 := ⟨⟨48, arr50, one48, Tryz.underlying48⟩, by kernel_rfl⟩
theorem fok99 : FnOk Tryz.prog 99 := FnOk.mk' Tryz.func99 (by kernel_rfl) rfl
theorem sz47 : SizeT Tryz.prog 47 20 := (by unfold SizeT; kernel_rfl)
theorem fld53_0 : FldT Tryz.prog 53 0 47 0 19 := ⟨by kernel_rfl, sz47⟩
theorem sz5 : SizeT Tryz.prog 5 1 := (by unfold SizeT; kernel_rfl)
theorem arr47 : ArrT Tryz.prog 47 20 5 1 := ⟨Tryz.underlying47, sz5⟩
theorem fok40 : FnOk Tryz.prog 40 := FnOk.mk' Tryz.func40 (by kernel_rfl) rfl
theorem sz3 : SizeT Tryz.prog 3 1 := (by unfold SizeT; kernel_rfl)
theorem fld53_1 : FldT Tryz.prog 53 1 3 20 0 := ⟨by kernel_rfl, sz3⟩
theorem one3 : OneT Tryz.prog 3 := ⟨⟨_, Tryz.underlying3, rfl⟩, by kernel_rfl⟩
theorem sz50 : SizeT Tryz.prog 50 4 := (by unfold SizeT; kernel_rfl)
theorem fld53_2 : FldT Tryz.prog 53 2 50 21 3 := ⟨by kernel_rfl, sz50⟩
theorem fok77 : FnOk Tryz.prog 77 := FnOk.mk' Tryz.func77 (by kernel_rfl) rfl
theorem fld53_3 : FldT Tryz.prog 53 3 50 25 3 := ⟨by kernel_rfl, sz50⟩
theorem fld53_4 : FldT Tryz.prog 53 4 50 29 3 := ⟨by kernel_rfl, sz50⟩
theorem sz51 : SizeT Tryz.prog 51 1 := (by unfold SizeT; kernel_rfl)
theorem fld53_5 : FldT Tryz.prog 53 5 51 33 0 := ⟨by kernel_rfl, sz51⟩
theorem one51 : OneT Tryz.prog 51 := ⟨⟨_, Tryz.underlying51, rfl⟩, by kernel_rfl⟩
theorem fld53_6 : FldT Tryz.prog 53 6 51 34 0 := ⟨by kernel_rfl, sz51⟩
theorem fok60 : FnOk Tryz.prog 60 := FnOk.mk' Tryz.func60 (by kernel_rfl) rfl
theorem zero53 : ZeroT Tryz.prog 53 (.agg ([.int .u8 0, .int .u8 0, .int .u8 0, .int .u8 0, .int .u8 0, .int .u8 0, .int .u8 0, .int .u8 0, .int .u8 0, .int .u8 0, .int .u8 0, .int .u8 0, .int .u8 0, .int .u8 0, .int .u8 0, .int .u8 0, .int .u8 0, .int .u8 0, .int .u8 0, .int .u8 0, .int .i64 0, .int .u64 0, .int .u64 0, .int .u64 0, .int .u64 0, .int .u64 0, .int .u64 0, .int .u64 0, .int .u64 0, .int .u64 0, .int .u64 0, .int .u64 0, .int .u64 0, .slice none 0 0, .slice none 0 0]).toArray) := (by unfold ZeroT; kernel_rfl)
theorem fok72 : FnOk Tryz.prog 72 := FnOk.mk' Tryz.func72 (by kernel_rfl) rfl
theorem agg53 : AggT Tryz.prog 53 35 := ⟨⟨_, Tryz.underlying53, rfl⟩, by kernel_rfl⟩
theorem sz53 : SizeT Tryz.prog 53 35 := (by unfold SizeT; kernel_rfl)

theorem Compare (w : World) (A1 A2 : Option Addr) (c1 c2 : Nat) (xs ys : List Nat) (e1 : Cs w A1 (rowN .u8 xs)) (e2 : Cs w A2 (rowN .u8 ys)) (d1 : Dg xs) (d2 : Dg ys) :
    Calls Tryz.prog 40 [.slice A1 xs.length c1, .slice A2 ys.length c2].toArray w fun e w' => e = .returned (.int .i64 (cmpL xs ys)) ∧ WS w [] [] w' := by
  refine calls_of_T [] 8 [] Tryz.func40 rfl Tryz.ntmps40 (by simp) (WS.refl _ _) ?_
  refine T.seq ?_
  refine T.text [.l] rfl ?_
  refine J.assign rfl rfl ?_
  refine J.end ?_
  refine X.then ?_
  refine T.seq ?_
  refine T.text [.l, .l, .l, .l] rfl ?_
  refine J.move rfl rfl ?_
  refine J.move rfl rfl ?_
  refine J.cmpB Tryz.func63 (by kernel_rfl) (by kernel_rfl) (by kernel_rfl) (by kernel_rfl) (k := .l) trivial rfl rfl rfl rfl (fun w hw => e1.ws hw (off_nil _)) (fun w hw => e2.ws hw (off_nil _)) d1 d2 rfl ?_
  refine J.assign rfl rfl ?_
  refine J.end ?_
  refine X.then ?_
  refine T.ret ?_
  exact X.ret1 rfl (RV.tmp rfl) (fun w' hw' => ⟨rfl, hw'.sub (Sub.nil _)⟩)

theorem Equal (w : World) (A1 A2 : Option Addr) (c1 c2 : Nat) (xs ys : List Nat) (e1 : Cs w A1 (rowN .u8 xs)) (e2 : Cs w A2 (rowN .u8 ys)) (d1 : Dg xs) (d2 : Dg ys) :
    Calls Tryz.prog 60 [.slice A1 xs.length c1, .slice A2 ys.length c2].toArray w fun e w' => e = .returned (.bool (decide (xs = ys))) ∧ WS w [] [] w' := by
  refine calls_of_T [] 10 [] Tryz.func60 rfl Tryz.ntmps60 (by simp) (WS.refl _ _) ?_
  refine T.seq ?_
  refine T.text [.l] rfl ?_
  refine J.assign rfl rfl ?_
  refine J.end ?_
  refine X.then ?_
  refine T.seq ?_
  refine T.text [.l, .l, .l, .l, .l, .l] rfl ?_
  refine J.move rfl rfl ?_
  refine J.convBS (k := .l) trivial Tryz.underlying51 Tryz.underlying5 Tryz.underlying9 rfl (xs) rfl (fun w hw => (e1.ws hw (off_nil _))) rfl ?_
  refine J.move rfl rfl ?_
  refine J.convBS (k := .l) trivial Tryz.underlying51 Tryz.underlying5 Tryz.underlying9 rfl (ys) rfl (fun w hw => (e2.ws hw (off_nil _))) rfl ?_
  refine J.eqStr (xs := xs) (ys := ys) rfl rfl rfl (by assumption) (by assumption) ?_
  refine J.assign rfl rfl ?_
  refine J.end ?_
  refine X.then ?_
  refine T.ret ?_
  exact X.ret1 rfl (RV.tmp rfl) (fun w' hw' => ⟨rfl, hw'.sub (Sub.nil _)⟩)

theorem Clone (w : World) (A1 : Option Addr) (c1 : Nat) (xs : List Nat) (e1 : Cs w A1 (rowN .u8 xs)) (hl : xs.length ≤ 1000000000000) :
    Calls Tryz.prog 72 [.slice A1 xs.length c1].toArray w fun e w' => RowsPost w 5 .u8 (fun zs => zs = xs) e w' := by
  refine calls_of_T [] 8 [] Tryz.func72 rfl Tryz.ntmps72 (by simp) (WS.refl _ _) ?_
  refine T.seq ?_
  refine T.text [.l] rfl ?_
  refine J.assign rfl rfl ?_
  refine J.end ?_
  refine X.then ?_
  refine T.seq ?_
  refine T.seq ?_
  refine T.text [.l, .l] rfl ?_
  refine J.move rfl rfl ?_
  refine J.eqNilS Tryz.underlying51 rfl rfl rfl ?_
  refine J.end ?_
  refine X.then ?_
  refine T.cond_dec rfl (fun h1 => ?_) (fun h1 => ?_)
  · skip
    refine T.seq ?_
    refine T.text [.l] rfl ?_
    refine J.assign rfl rfl ?_
    refine J.end ?_
    refine X.then ?_
    refine T.ret ?_
    refine X.then_ret ?_
    exact X.ret1 rfl (RV.tmp rfl) (fun w' hw' => ⟨[], (nil_of_none (by assumption) e1).symm, RowIx.nil, RowIx.nil_ok 1, rfl, (hw'.addNil 0 5).sub (Sub.cons rfl (Sub.nil _))⟩)
  · skip
    refine T.skip ?_
    refine X.then ?_
    refine T.seq ?_
    refine T.text [.l, .l, .l, .l] rfl ?_
    refine J.buildSlice 5 rfl (e := 5) rfl rfl [] (fun w => by kernel_rfl) (fun g5 hg5 => ?_)
    refine J.move rfl rfl ?_
    refine J.append (i := ⟨some g5, 0, []⟩) (cs := []) 5 rfl Tryz.underlying51 el5 rfl (RowIx.blk_ok' g5 0 1 (Nat.zero_le _)) rfl rfl rfl (by rw [rowN_length, Nat.mul_one]) (fun w hw => e1.ws hw (off_nil _)) (by first | exact rowN_one _ _ | (intro u hu; simp at hu; subst hu; rfl)) (by omega) (by unfold maxLen; omega) rfl xs.length (Nat.zero_add _) (rowN .u8 xs) (List.nil_append _) (fun r7 hr7 => ?_)
    refine J.assign rfl rfl ?_
    refine J.end ?_
    refine X.then ?_
    refine T.ret ?_
    exact X.ret1 rfl (RV.tmp rfl) (fun w' hw' => RowsPost.mk' xs rfl r7 hr7 rfl hw' 5 rfl)

theorem Cmp (w : World) (x0 x1 : Nat) :
    Calls Tryz.prog 77 [W x0, W x1].toArray w fun e w' => e = .returned (.int .i64 (wcmp x0 x1)) ∧ WS w [] [] w' := by
  refine calls_of_T [] 13 [] Tryz.func77 rfl Tryz.ntmps77 (by simp) (WS.refl _ _) ?_
  refine T.seq ?_
  refine T.text [.l, .l, .l] rfl ?_
  refine J.box 2 rfl rfl (wc x0) rfl rfl (fun g2 hg2 => ?_)
  refine J.box 3 rfl rfl (wc x1) rfl rfl (fun g3 hg3 => ?_)
  refine J.assign rfl rfl ?_
  refine J.end ?_
  refine X.then ?_
  refine T.seq ?_
  refine T.block ?_
  refine T.seq ?_
  refine T.text [.l, .l, .l, .l] rfl ?_
  refine J.loadN (k := .l) trivial 2 rfl rfl agg50 (wc x0) rfl rfl rfl ?_
  refine J.loadN (k := .l) trivial 3 rfl rfl agg50 (wc x1) rfl rfl rfl ?_
  refine J.eqW eqw50 rfl rfl rfl ?_
  refine J.assign rfl rfl ?_
  refine J.end ?_
  refine X.then ?_
  refine T.cond_dec rfl (fun h1 => ?_) (fun h1 => ?_)
  · skip
    refine T.seq ?_
    refine T.text [.l] rfl ?_
    refine J.assign rfl rfl ?_
    refine J.end ?_
    refine X.then ?_
    refine T.ret ?_
    refine X.inBlock_ret (X.then_ret ?_)
    exact X.ret1 rfl (RV.tmp rfl) (fun w' hw' => ⟨by unfold wcmp; rw [if_pos (by assumption)], hw'.sub (Sub.nil _)⟩)
  · skip
    refine T.seq ?_
    refine T.text [.l, .l, .l, .l] rfl ?_
    refine J.loadN (k := .l) trivial 2 rfl rfl agg50 (wc x0) rfl rfl rfl ?_
    refine J.loadN (k := .l) trivial 3 rfl rfl agg50 (wc x1) rfl rfl rfl ?_
    refine J.call0 (k := .l) trivial fok99 rfl rfl (fun w hw => Wa.Lt w _ _) ?_
    refine J.assign rfl rfl ?_
    refine J.end ?_
    refine X.then ?_
    refine T.cond_dec rfl (fun h2 => ?_) (fun h2 => ?_)
    · skip
      refine T.seq ?_
      refine T.text [.l] rfl ?_
      refine J.assign rfl rfl ?_
      refine J.end ?_
      refine X.then ?_
      refine T.ret ?_
      refine X.inBlock_ret (X.then_ret ?_)
      exact X.ret1 rfl (RV.tmp rfl) (fun w' hw' => ⟨by unfold wcmp; rw [if_neg (by assumption), if_pos (by assumption)], hw'.sub (Sub.nil _)⟩)
    · skip
      refine T.skip ?_
      refine X.inBlock (X.then ?_)
      refine T.seq ?_
      refine T.text [.l] rfl ?_
      refine J.assign rfl rfl ?_
      refine J.end ?_
      refine X.then ?_
      refine T.ret ?_
      exact X.ret1 rfl (RV.tmp rfl) (fun w' hw' => ⟨by unfold wcmp; rw [if_neg (by assumption), if_neg (by assumption)], hw'.sub (Sub.nil _)⟩)

theorem spots (w : World) (a b : Ch) (ha : (-4611686018427387904 ≤ a.kind ∧ a.kind ≤ 4611686018427387903)) (hb : (-4611686018427387904 ≤ b.kind ∧ b.kind ≤ 4611686018427387903)) :
    Calls Tryz.prog 59 [.agg a.cells.toArray, .agg b.cells.toArray].toArray w fun e w' => e = .returned (.int .i64 (spotZ a.v b.v)) ∧ WS w [] [] w' := by
  refine calls_of_T [] 29 [] Tryz.func59 rfl Tryz.ntmps59 (by simp) (WS.refl _ _) ?_
  refine T.seq ?_
  refine T.text [.l, .l, .l] rfl ?_
  refine J.box 2 rfl rfl (a.cells) rfl rfl (fun g2 hg2 => ?_)
  refine J.box 3 rfl rfl (b.cells) rfl rfl (fun g3 hg3 => ?_)
  refine J.assign rfl rfl ?_
  refine J.end ?_
  refine X.then ?_
  refine T.seq ?_
  refine T.seq ?_
  refine T.draw [] [(0, .g), (1, .g), (2, .g), (3, .g), (4, .q), (5, .g)] (by kernel_rfl) (by kernel_rfl) ?_ (by repeat (first | exact Sub.nil _ | refine Sub.cons (by first | rfl | (rw [dgs_zero]; rfl) | (rw [List.drop_length]; rfl) | (simp; done) | (congr 2; omega) | (congr 3; omega)) ?_))
  refine J.fieldAddr fld53_0 rfl rfl ?_
  refine J.sliceArr arr47 rfl optInt.none optInt.none optInt.none (by simp) (by omega) (by omega) (by omega) rfl rfl ?_
  refine J.fieldAddr fld53_0 rfl rfl ?_
  refine J.sliceArr arr47 rfl optInt.none optInt.none optInt.none (by simp) (by omega) (by omega) (by omega) rfl rfl ?_
  refine J.call0 (k := .q) trivial fok40 rfl rfl (fun w hw => Da.Compare w _ _ _ _ (adL a.who) (adL b.who) (hw.pre (j := 2) (ac a.who) _ rfl) (hw.pre (j := 3) (ac b.who) _ rfl) (adL_dg _) (adL_dg _)) ?_
  refine J.as 10 (.int .i64 (cmpZ (a.who % 256 ^ 20) (b.who % 256 ^ 20))) rfl (by rw [cmp_ad]) ?_
  refine J.assign rfl rfl ?_
  refine J.end ?_
  refine X.then ?_
  refine T.seq ?_
  refine T.text [.l, .l] rfl ?_
  refine J.move rfl rfl ?_
  refine J.neq rfl rfl rfl rfl ?_
  refine J.end ?_
  refine X.then ?_
  refine T.cond_dec rfl (fun h1 => ?_) (fun h1 => ?_)
  · have hwh := (cmpZ_ne _ _).1 h1
    refine T.seq ?_
    refine T.text [.l, .l] rfl ?_
    refine J.move rfl rfl ?_
    refine J.assign rfl rfl ?_
    refine J.end ?_
    refine X.then ?_
    refine T.ret ?_
    refine X.then_ret ?_
    exact X.ret1 rfl (RV.tmp rfl) (fun w' hw' => ⟨by rw [spotZ_who hwh]; rfl, hw'.sub (Sub.nil _)⟩)
  · have hwh := Decidable.not_not.1 fun q => h1 ((cmpZ_ne _ _).2 q)
    refine T.skip ?_
    refine X.then ?_
    refine T.seq ?_
    refine T.seq ?_
    refine T.text [.l, .l, .l, .l, .l] rfl ?_
    refine J.fieldAddr fld53_1 rfl rfl ?_
    refine J.load1 (k := .l) trivial 2 rfl rfl one3 (by first | rfl | with_reducible exact rowN_get0 _ _ _ (by omega) | with_reducible exact rowN_get1 _ _ _ (by omega) | with_reducible exact rowN_get1s _ _ _ _ (by omega) | exact rowN_get1 _ _ _ (by omega) | exact rowN_get1s _ _ _ _ (by omega) | exact rowN_get0 _ _ _ (by omega)) rfl ?_
    refine J.fieldAddr fld53_1 rfl rfl ?_
    refine J.load1 (k := .l) trivial 3 rfl rfl one3 (by first | rfl | with_reducible exact rowN_get0 _ _ _ (by omega) | with_reducible exact rowN_get1 _ _ _ (by omega) | with_reducible exact rowN_get1s _ _ _ _ (by omega) | exact rowN_get1 _ _ _ (by omega) | exact rowN_get1s _ _ _ _ (by omega) | exact rowN_get0 _ _ _ (by omega)) rfl ?_
    refine J.neq rfl rfl rfl rfl ?_
    refine J.end ?_
    refine X.then ?_
    refine T.cond_dec rfl (fun h2 => ?_) (fun h2 => ?_)
    · skip
      refine T.seq ?_
      refine T.text [.l, .l, .l, .l, .l, .l] rfl ?_
      refine J.fieldAddr fld53_1 rfl rfl ?_
      refine J.load1 (k := .l) trivial 2 rfl rfl one3 (by first | rfl | with_reducible exact rowN_get0 _ _ _ (by omega) | with_reducible exact rowN_get1 _ _ _ (by omega) | with_reducible exact rowN_get1s _ _ _ _ (by omega) | exact rowN_get1 _ _ _ (by omega) | exact rowN_get1s _ _ _ _ (by omega) | exact rowN_get0 _ _ _ (by omega)) rfl ?_
      refine J.fieldAddr fld53_1 rfl rfl ?_
      refine J.load1 (k := .l) trivial 3 rfl rfl one3 (by first | rfl | with_reducible exact rowN_get0 _ _ _ (by omega) | with_reducible exact rowN_get1 _ _ _ (by omega) | with_reducible exact rowN_get1s _ _ _ _ (by omega) | exact rowN_get1 _ _ _ (by omega) | exact rowN_get1s _ _ _ _ (by omega) | exact rowN_get0 _ _ _ (by omega)) rfl ?_
      refine J.sub' rfl rfl rfl (by exact i64_ok _ (by omega)) ?_
      refine J.assign rfl rfl ?_
      refine J.end ?_
      refine X.then ?_
      refine T.ret ?_
      refine X.then_ret ?_
      exact X.ret1 rfl (RV.tmp rfl) (fun w' hw' => ⟨by rw [spotZ_kind hwh (by assumption)]; rfl, hw'.sub (Sub.nil _)⟩)
    · skip
      refine T.skip ?_
      refine X.then ?_
      refine T.seq ?_
      refine T.text [.l, .l, .l, .l, .l, .l] rfl ?_
      refine J.fieldAddr fld53_2 rfl rfl ?_
      refine J.loadN (k := .l) trivial 2 rfl rfl agg50 (wc a.key) rfl rfl rfl ?_
      refine J.fieldAddr fld53_2 rfl rfl ?_
      refine J.loadN (k := .l) trivial 3 rfl rfl agg50 (wc b.key) rfl rfl rfl ?_
      refine J.call0 (k := .l) trivial fok77 rfl rfl (fun w hw => Da.Cmp w _ _) ?_
      refine J.assign rfl rfl ?_
      refine J.end ?_
      refine X.then ?_
      refine T.ret ?_
      exact X.ret1 rfl (RV.tmp rfl) (fun w' hw' => ⟨by rw [spotZ_key hwh (Decidable.not_not.1 (by assumption))]; exact congrArg (fun z => Ending.returned (.int .i64 z)) (wcmp_mod _ _).symm, hw'.sub (Sub.nil _)⟩)

theorem idle (w : World) (c : Ch) (e1 : Cs w c.oA (rowN .u8 c.oc)) (e2 : Cs w c.nA (rowN .u8 c.nc)) (d1 : Dg c.oc) (d2 : Dg c.nc) :
    Calls Tryz.prog 61 [.agg c.cells.toArray].toArray w fun e w' => e = .returned (.bool (decide c.v.idle)) ∧ WS w [] [] w' := by
  refine calls_of_T [] 15 [] Tryz.func61 rfl Tryz.ntmps61 (by simp) (WS.refl _ _) ?_
  refine T.seq ?_
  refine T.text [.l, .l] rfl ?_
  refine J.box 1 rfl rfl (c.cells) rfl rfl (fun g1 hg1 => ?_)
  refine J.assign rfl rfl ?_
  refine J.end ?_
  refine X.then ?_
  refine T.seq ?_
  refine T.text [.l, .l, .l, .l, .l, .l, .l, .l, .l, .l, .l, .l, .l] rfl ?_
  refine J.fieldAddr fld53_3 rfl rfl ?_
  refine J.loadN (k := .l) trivial 1 rfl rfl agg50 (wc c.old) rfl rfl rfl ?_
  refine J.fieldAddr fld53_4 rfl rfl ?_
  refine J.loadN (k := .l) trivial 1 rfl rfl agg50 (wc c.new) rfl rfl rfl ?_
  refine J.eqW eqw50 rfl rfl rfl ?_
  refine J.move rfl rfl ?_
  refine J.split 8 rfl (fun h1 => ?_) (fun h1 => ?_)
  · skip
    refine J.yes rfl rfl ?_
    refine J.fieldAddr fld53_5 rfl rfl ?_
    refine J.yes rfl rfl ?_
    refine J.load1 (k := .l) trivial 1 rfl rfl one51 (by first | rfl | with_reducible exact rowN_get0 _ _ _ (by omega) | with_reducible exact rowN_get1 _ _ _ (by omega) | with_reducible exact rowN_get1s _ _ _ _ (by omega) | exact rowN_get1 _ _ _ (by omega) | exact rowN_get1s _ _ _ _ (by omega) | exact rowN_get0 _ _ _ (by omega)) rfl ?_
    refine J.yes rfl rfl ?_
    refine J.fieldAddr fld53_6 rfl rfl ?_
    refine J.yes rfl rfl ?_
    refine J.load1 (k := .l) trivial 1 rfl rfl one51 (by first | rfl | with_reducible exact rowN_get0 _ _ _ (by omega) | with_reducible exact rowN_get1 _ _ _ (by omega) | with_reducible exact rowN_get1s _ _ _ _ (by omega) | exact rowN_get1 _ _ _ (by omega) | exact rowN_get1s _ _ _ _ (by omega) | exact rowN_get0 _ _ _ (by omega)) rfl ?_
    refine J.yes rfl rfl ?_
    refine J.call0 (k := .l) trivial fok60 rfl rfl (fun w hw => Da.Equal w _ _ _ _ _ _ (e1.ws hw (off_nil _)) (e2.ws hw (off_nil _)) (by assumption) (by assumption)) ?_
    refine J.pick_t rfl rfl rfl ?_
    refine J.assign rfl rfl ?_
    refine J.end ?_
    refine X.then ?_
    refine T.ret ?_
    exact X.ret1 rfl (RV.tmp rfl) (fun w' hw' => by first | exact ⟨by congr 2; exact decide_eq_decide.2 ⟨fun q => ⟨by assumption, q⟩, fun q => q.2⟩, hw'.sub (Sub.nil _)⟩ | exact ⟨by congr 2; exact (decide_eq_false (fun q => by have := q.1; contradiction)).symm, hw'.sub (Sub.nil _)⟩)
  · skip
    refine J.no rfl rfl rfl rfl ?_
    refine J.no rfl rfl rfl rfl ?_
    refine J.no rfl rfl rfl rfl ?_
    refine J.no rfl rfl rfl rfl ?_
    refine J.no rfl rfl rfl rfl ?_
    refine J.pick_f rfl rfl rfl ?_
    refine J.assign rfl rfl ?_
    refine J.end ?_
    refine X.then ?_
    refine T.ret ?_
    exact X.ret1 rfl (RV.tmp rfl) (fun w' hw' => by first | exact ⟨by congr 2; exact decide_eq_decide.2 ⟨fun q => ⟨by assumption, q⟩, fun q => q.2⟩, hw'.sub (Sub.nil _)⟩ | exact ⟨by congr 2; exact (decide_eq_false (fun q => by have := q.1; contradiction)).symm, hw'.sub (Sub.nil _)⟩)

theorem own (w : World) (n : Nat) (B : List (Option Nat)) (c : Ch) (hB : ∀ g, some g ∈ B → g < w.heap.size) (hc : c.Ok w n B) :
    Calls Tryz.prog 58 [.agg c.cells.toArray].toArray w fun e w' => ∃ c' : Ch, (c'.v = c.v ∧ c'.Ok w' n B) ∧ e = .returned (.agg c'.cells.toArray) ∧ WS w [] [] w' := by
  have hlo := hc.lo
  have hln := hc.ln
  refine calls_of_T [] 12 [] Tryz.func58 rfl Tryz.ntmps58 (by simp) (WS.refl _ _) ?_
  refine T.seq ?_
  refine T.text [.l, .l] rfl ?_
  refine J.box 1 rfl rfl (c.cells) rfl rfl (fun g1 hg1 => ?_)
  refine J.alloc 2 rfl zero53 [.int .u8 0, .int .u8 0, .int .u8 0, .int .u8 0, .int .u8 0, .int .u8 0, .int .u8 0, .int .u8 0, .int .u8 0, .int .u8 0, .int .u8 0, .int .u8 0, .int .u8 0, .int .u8 0, .int .u8 0, .int .u8 0, .int .u8 0, .int .u8 0, .int .u8 0, .int .u8 0, .int .i64 0, .int .u64 0, .int .u64 0, .int .u64 0, .int .u64 0, .int .u64 0, .int .u64 0, .int .u64 0, .int .u64 0, .int .u64 0, .int .u64 0, .int .u64 0, .int .u64 0, .slice none 0 0, .slice none 0 0] rfl rfl (fun g2 hg2 => ?_)
  refine J.end ?_
  refine X.then ?_
  refine T.seq ?_
  refine T.draw2 [(1, ⟨some g1, 53, (c.cells)⟩)] [(0, .g), (1, .q), (3, .g), (4, .s), (2, .l), (6, .g), (5, .l)] [] [(7, .l), (8, .g), (9, .l)] (by kernel_rfl) (by kernel_rfl) (by kernel_rfl) ?_ (by repeat (first | exact Sub.nil _ | refine Sub.cons (by first | rfl | (rw [dgs_zero]; rfl) | (rw [List.drop_length]; rfl) | (simp; done) | (congr 2; omega) | (congr 3; omega)) ?_))
  refine J.fieldAddr fld53_5 rfl rfl ?_
  refine J.load1 (k := .q) trivial 1 rfl rfl one51 (by first | rfl | with_reducible exact rowN_get0 _ _ _ (by omega) | with_reducible exact rowN_get1 _ _ _ (by omega) | with_reducible exact rowN_get1s _ _ _ _ (by omega) | exact rowN_get1 _ _ _ (by omega) | exact rowN_get1s _ _ _ _ (by omega) | exact rowN_get0 _ _ _ (by omega)) rfl ?_
  refine J.fieldAddr fld53_6 rfl rfl ?_
  refine J.load1s 1 rfl rfl one51 (by first | rfl | with_reducible exact rowN_get0 _ _ _ (by omega) | with_reducible exact rowN_get1 _ _ _ (by omega) | with_reducible exact rowN_get1s _ _ _ _ (by omega) | exact rowN_get1 _ _ _ (by omega) | exact rowN_get1s _ _ _ _ (by omega) | exact rowN_get0 _ _ _ (by omega)) rfl ?_
  refine J.callRow 5 rfl (t := 5) (kd := .u8) fok72 rfl rfl (fun w hw => Da.Clone w _ _ _ (hc.fo.cs.ws hw (off_nil _)) hlo) (fun zs5 r5 hz5 hr5 => ?_)
  refine J.fieldAddr fld53_5 rfl rfl ?_
  refine J.callRow 8 rfl (t := 5) (kd := .u8) fok72 rfl rfl (fun w hw => Da.Clone w _ _ _ (hc.fn.cs.ws hw (off_nil _)) hln) (fun zs8 r8 hz8 hr8 => ?_)
  refine J.mid ?_ (Sub.nil _)
  refine J.store 1 rfl rfl rfl rfl [r5.val zs5.length] rfl sz51 (by first | decide | exact Nat.le_refl _ | exact Nat.le_of_ble_eq_true rfl | (simp [rowN]; done) | (simp [rowN]; omega)) (by intro u hu; rw [List.mem_singleton.1 hu]; rfl) (by first | decide | exact Nat.zero_lt_succ _ | simp) trivial _ rfl ?_
  refine J.fieldAddr fld53_6 rfl rfl ?_
  refine J.store 1 rfl rfl rfl rfl [r8.val zs8.length] rfl sz51 (by first | decide | exact Nat.le_refl _ | exact Nat.le_of_ble_eq_true rfl | (simp [rowN]; done) | (simp [rowN]; omega)) (by intro u hu; rw [List.mem_singleton.1 hu]; rfl) (by first | decide | exact Nat.zero_lt_succ _ | simp) trivial _ rfl ?_
  refine J.end ?_
  refine X.asE 1 ⟨some g1, 53, (Ch.mk c.who c.kind c.key c.old c.new zs5 zs8 (hdOf r5.id) r5.cap (hdOf r8.id) r8.cap).cells⟩ rfl (by rfl) ?_
  refine X.then ?_
  refine T.seq ?_
  refine T.text [.l, .l] rfl ?_
  refine J.loadN (k := .l) trivial 1 rfl rfl agg53 (Ch.mk c.who c.kind c.key c.old c.new zs5 zs8 (hdOf r5.id) r5.cap (hdOf r8.id) r8.cap).cells rfl rfl rfl ?_
  refine J.store 2 rfl rfl rfl rfl (Ch.mk c.who c.kind c.key c.old c.new zs5 zs8 (hdOf r5.id) r5.cap (hdOf r8.id) r8.cap).cells rfl sz53 (Nat.le_of_ble_eq_true rfl) (by first | exact Ch.cells_one _) (Nat.zero_lt_succ _) trivial (Ch.mk c.who c.kind c.key c.old c.new zs5 zs8 (hdOf r5.id) r5.cap (hdOf r8.id) r8.cap).cells rfl ?_
  refine J.end ?_
  refine X.then ?_
  refine T.ret ?_
  exact X.ret1 rfl (RV.agg 2 rfl rfl agg53 (Ch.mk c.who c.kind c.key c.old c.new zs5 zs8 (hdOf r5.id) r5.cap (hdOf r8.id) r8.cap).cells (by rfl) (by rfl) rfl) (fun w' hw' => ⟨(Ch.mk c.who c.kind c.key c.old c.new zs5 zs8 (hdOf r5.id) r5.cap (hdOf r8.id) r8.cap), ⟨by show CV.mk _ _ _ _ _ zs5 zs8 = _; rw [hz5, hz8]; rfl, ⟨hc.kd, by show Dg zs5; rw [hz5]; exact hc.dO, by show Dg zs8; rw [hz8]; exact hc.dN, by show zs5.length ≤ _; rw [hz5]; exact hc.lo, by show zs8.length ≤ _; rw [hz8]; exact hc.ln, fit_row hw' (j := 5) rfl (fun g h => ⟨hB g h, fun q => by cases q⟩), fit_row hw' (j := 8) rfl (fun g h => ⟨hB g h, fun q => by cases q⟩)⟩⟩, rfl, hw'.sub (Sub.nil _)⟩)
end Go.Proofs.YtlllcafedekojaaGreatDoor.Da
set_option linter.unusedVariables false
set_option maxRecDepth 20000
namespace Go.Proofs.YtlllcafedekojaaGreatDoor.Db
open Go Go.Fw

theorem sz287 : SizeT Tryz.prog 287 32 := (by unfold SizeT; kernel_rfl)
theorem zero50 : ZeroT Tryz.prog 50 (.agg ([.int .u64 0, .int .u64 0, .int .u64 0, .int .u64 0]).toArray) := (by unfold ZeroT; kernel_rfl)
theorem sz50 : SizeT Tryz.prog 50 4 := (by unfold SizeT; kernel_rfl)
theorem fld53_3 : FldT Tryz.prog 53 3 50 25 3 := ⟨by kernel_rfl, sz50⟩
theorem agg50 : AggT Tryz.prog 50 4 := ⟨⟨_, Tryz.underlying50, rfl⟩, by kernel_rfl⟩
theorem sz48 : SizeT Tryz.prog 48 1 := (by unfold SizeT; kernel_rfl)
theorem arr50 : ArrT Tryz.prog 50 4 48 1 := ⟨Tryz.underlying50, sz48⟩
theorem one48 : OneT Tryz.prog 48 := ⟨⟨_, Tryz.underlying48, rfl⟩, by kernel_rfl⟩
theorem eqw50 : EqT Tryz.prog 50 := ⟨⟨48, arr50, one48, Tryz.underlying48⟩, by kernel_rfl⟩
theorem sz51 : SizeT Tryz.prog 51 1 := (by unfold SizeT; kernel_rfl)
theorem fld53_5 : FldT Tryz.prog 53 5 51 33 0 := ⟨by kernel_rfl, sz51⟩
theorem one51 : OneT Tryz.prog 51 := ⟨⟨_, Tryz.underlying51, rfl⟩, by kernel_rfl⟩
theorem fld53_6 : FldT Tryz.prog 53 6 51 34 0 := ⟨by kernel_rfl, sz51⟩
theorem sz3 : SizeT Tryz.prog 3 1 := (by unfold SizeT; kernel_rfl)
theorem fld53_1 : FldT Tryz.prog 53 1 3 20 0 := ⟨by kernel_rfl, sz3⟩
theorem one3 : OneT Tryz.prog 3 := ⟨⟨_, Tryz.underlying3, rfl⟩, by kernel_rfl⟩
theorem fok98 : FnOk Tryz.prog 98 := FnOk.mk' Tryz.func98 (by kernel_rfl) rfl
theorem fld53_4 : FldT Tryz.prog 53 4 50 29 3 := ⟨by kernel_rfl, sz50⟩
theorem fld53_2 : FldT Tryz.prog 53 2 50 21 3 := ⟨by kernel_rfl, sz50⟩
theorem agg53 : AggT Tryz.prog 53 35 := ⟨⟨_, Tryz.underlying53, rfl⟩, by kernel_rfl⟩
theorem fok61 : FnOk Tryz.prog 61 := FnOk.mk' Tryz.func61 (by kernel_rfl) rfl
theorem sz53 : SizeT Tryz.prog 53 35 := (by unfold SizeT; kernel_rfl)
theorem sl25 : SlT Tryz.prog 25 53 35 := ⟨Tryz.underlying25, sz53⟩
theorem zero53 : ZeroT Tryz.prog 53 (.agg ([.int .u8 0, .int .u8 0, .int .u8 0, .int .u8 0, .int .u8 0, .int .u8 0, .int .u8 0, .int .u8 0, .int .u8 0, .int .u8 0, .int .u8 0, .int .u8 0, .int .u8 0, .int .u8 0, .int .u8 0, .int .u8 0, .int .u8 0, .int .u8 0, .int .u8 0, .int .u8 0, .int .i64 0, .int .u64 0, .int .u64 0, .int .u64 0, .int .u64 0, .int .u64 0, .int .u64 0, .int .u64 0, .int .u64 0, .int .u64 0, .int .u64 0, .int .u64 0, .int .u64 0, .slice none 0 0, .slice none 0 0]).toArray) := (by unfold ZeroT; kernel_rfl)
theorem fok71 : FnOk Tryz.prog 71 := FnOk.mk' Tryz.func71 (by kernel_rfl) rfl
theorem fok59 : FnOk Tryz.prog 59 := FnOk.mk' Tryz.func59 (by kernel_rfl) rfl
theorem fok58 : FnOk Tryz.prog 58 := FnOk.mk' Tryz.func58 (by kernel_rfl) rfl
theorem el53 : ElT Tryz.prog 53 35 176 (.agg ([.int .u8 0, .int .u8 0, .int .u8 0, .int .u8 0, .int .u8 0, .int .u8 0, .int .u8 0, .int .u8 0, .int .u8 0, .int .u8 0, .int .u8 0, .int .u8 0, .int .u8 0, .int .u8 0, .int .u8 0, .int .u8 0, .int .u8 0, .int .u8 0, .int .u8 0, .int .u8 0, .int .i64 0, .int .u64 0, .int .u64 0, .int .u64 0, .int .u64 0, .int .u64 0, .int .u64 0, .int .u64 0, .int .u64 0, .int .u64 0, .int .u64 0, .int .u64 0, .int .u64 0, .slice none 0 0, .slice none 0 0]).toArray) := ⟨by kernel_rfl, rfl, by decide, by decide⟩

theorem may (w : World) (c : Ch) (e1 : Cs w c.oA (rowN .u8 c.oc)) (e2 : Cs w c.nA (rowN .u8 c.nc)) (d1 : Dg c.oc) (d2 : Dg c.nc) (hlo : c.oc.length ≤ 1000000000000) (hln : c.nc.length ≤ 1000000000000) :
    Calls Tryz.prog 71 [.agg c.cells.toArray].toArray w fun e w' => e = .returned (.bool (decide c.v.may)) ∧ WS w [] [] w' := by
  refine calls_of_T [] 63 [] Tryz.func71 rfl Tryz.ntmps71 (by simp) (WS.refl _ _) ?_
  refine T.seq ?_
  refine T.text [.l, .l] rfl ?_
  refine J.box 1 rfl rfl (c.cells) rfl rfl (fun g1 hg1 => ?_)
  refine J.assign rfl rfl ?_
  refine J.end ?_
  refine X.then ?_
  refine T.seq ?_
  refine T.text [.l] rfl ?_
  refine J.alloc 3 rfl zero50 (wc 0) rfl rfl (fun g3 hg3 => ?_)
  refine J.end ?_
  refine X.then ?_
  refine T.seq ?_
  refine T.text [.l, .l, .l, .l, .l, .l, .l, .l, .l, .l, .l] rfl ?_
  refine J.fieldAddr fld53_3 rfl rfl ?_
  refine J.loadN (k := .l) trivial 1 rfl rfl agg50 (wc c.old) rfl rfl rfl ?_
  refine J.loadN (k := .l) trivial 3 rfl rfl agg50 (wc 0) rfl rfl rfl ?_
  refine J.neqW eqw50 rfl rfl rfl ?_
  refine J.move rfl rfl ?_
  refine J.split 10 rfl (fun h1 => ?_) (fun h1 => ?_)
  · skip
    refine J.no rfl rfl rfl rfl ?_
    refine J.no rfl rfl rfl rfl ?_
    refine J.no rfl rfl rfl rfl ?_
    refine J.no rfl rfl rfl rfl ?_
    refine J.pick_t rfl rfl rfl ?_
    refine J.assign rfl rfl ?_
    refine J.end ?_
    refine X.then ?_
    refine T.seq ?_
    refine T.text [.l, .l, .l, .l, .l, .l, .l, .l, .l] rfl ?_
    refine J.fieldAddr fld53_5 rfl rfl ?_
    refine J.load1 (k := .l) trivial 1 rfl rfl one51 (by first | rfl | with_reducible exact rowN_get0 _ _ _ (by omega) | with_reducible exact rowN_get1 _ _ _ (by omega) | with_reducible exact rowN_get1s _ _ _ _ (by omega) | exact rowN_get1 _ _ _ (by omega) | exact rowN_get1s _ _ _ _ (by omega) | exact rowN_get0 _ _ _ (by omega)) rfl ?_
    refine J.lenSl Tryz.underlying51 rfl rfl ?_
    refine J.fieldAddr fld53_6 rfl rfl ?_
    refine J.load1 (k := .l) trivial 1 rfl rfl one51 (by first | rfl | with_reducible exact rowN_get0 _ _ _ (by omega) | with_reducible exact rowN_get1 _ _ _ (by omega) | with_reducible exact rowN_get1s _ _ _ _ (by omega) | exact rowN_get1 _ _ _ (by omega) | exact rowN_get1s _ _ _ _ (by omega) | exact rowN_get0 _ _ _ (by omega)) rfl ?_
    refine J.lenSl Tryz.underlying51 rfl rfl ?_
    refine J.add rfl rfl rfl (by exact i64_ok _ (by omega)) ?_
    refine J.gtr rfl rfl rfl rfl ?_
    refine J.assign rfl rfl ?_
    refine J.end ?_
    refine X.then ?_
    refine T.seq ?_
    refine T.seq ?_
    refine T.text [.l, .l] rfl ?_
    refine J.fieldAddr fld53_1 rfl rfl ?_
    refine J.load1 (k := .l) trivial 1 rfl rfl one3 (by first | rfl | with_reducible exact rowN_get0 _ _ _ (by omega) | with_reducible exact rowN_get1 _ _ _ (by omega) | with_reducible exact rowN_get1s _ _ _ _ (by omega) | exact rowN_get1 _ _ _ (by omega) | exact rowN_get1s _ _ _ _ (by omega) | exact rowN_get0 _ _ _ (by omega)) rfl ?_
    refine J.end ?_
    refine X.then ?_
    refine T.block ?_
    refine T.seq ?_
    refine T.text [.l, .l] rfl ?_
    refine J.eql rfl rfl rfl rfl ?_
    refine J.assign rfl rfl ?_
    refine J.end ?_
    refine X.then ?_
    refine T.cond_dec rfl (fun h2 => ?_) (fun h2 => ?_)
    · skip
      refine T.seq ?_
      refine T.text [.l, .l, .l, .l, .l, .l, .l, .l, .l, .l] rfl ?_
      refine J.fieldAddr fld53_3 rfl rfl ?_
      refine J.loadN (k := .l) trivial 1 rfl rfl agg50 (wc c.old) rfl rfl rfl ?_
      refine J.call0 (k := .l) trivial fok98 rfl rfl (fun w hw => Wa.Size w _) ?_
      refine J.gtr rfl rfl rfl rfl ?_
      refine J.move rfl rfl ?_
      refine J.split 32 rfl (fun h3 => ?_) (fun h3 => ?_)
      · have hbig := sizeN_big c.old (by omega)
        refine J.no rfl rfl rfl rfl ?_
        refine J.no rfl rfl rfl rfl ?_
        refine J.no rfl rfl rfl rfl ?_
        refine J.no rfl rfl rfl rfl ?_
        refine J.pick_t rfl rfl rfl ?_
        refine J.end ?_
        refine X.then ?_
        refine T.cond_true rfl ?_
        refine T.seq ?_
        refine T.text [.l] rfl ?_
        refine J.assign rfl rfl ?_
        refine J.end ?_
        refine X.then ?_
        refine T.ret ?_
        refine X.inBlock_ret (X.then_ret ?_)
        exact X.ret1 rfl (RV.tmp rfl) (fun w' hw' => by first | exact ⟨by congr 2; exact (decide_eq_false (fun q => by have q1 := q.1; unfold CV.mayL Ch.v at *; dsimp only at *; omega)).symm, hw'.sub (Sub.nil _)⟩ | exact ⟨by congr 2; exact decide_eq_decide.2 ⟨fun q => ⟨by unfold CV.mayL Ch.v at *; dsimp only at *; omega, q⟩, fun q => q.2⟩, hw'.sub (Sub.nil _)⟩)
      · have hsm_old := (sizeN_small c.old).1 (by omega)
        refine J.yes rfl rfl ?_
        refine J.fieldAddr fld53_4 rfl rfl ?_
        refine J.yes rfl rfl ?_
        refine J.loadN (k := .l) trivial 1 rfl rfl agg50 (wc c.new) rfl rfl rfl ?_
        refine J.yes rfl rfl ?_
        refine J.call0 (k := .l) trivial fok98 rfl rfl (fun w hw => Wa.Size w _) ?_
        refine J.yes rfl rfl ?_
        refine J.gtr rfl rfl rfl rfl ?_
        refine J.pick_f rfl rfl rfl ?_
        refine J.end ?_
        refine X.then ?_
        refine T.cond_dec rfl (fun h4 => ?_) (fun h4 => ?_)
        · have hbig := sizeN_big c.new (by omega)
          refine T.seq ?_
          refine T.text [.l] rfl ?_
          refine J.assign rfl rfl ?_
          refine J.end ?_
          refine X.then ?_
          refine T.ret ?_
          refine X.inBlock_ret (X.then_ret ?_)
          exact X.ret1 rfl (RV.tmp rfl) (fun w' hw' => by first | exact ⟨by congr 2; exact (decide_eq_false (fun q => by have q1 := q.1; unfold CV.mayL Ch.v at *; dsimp only at *; omega)).symm, hw'.sub (Sub.nil _)⟩ | exact ⟨by congr 2; exact decide_eq_decide.2 ⟨fun q => ⟨by unfold CV.mayL Ch.v at *; dsimp only at *; omega, q⟩, fun q => q.2⟩, hw'.sub (Sub.nil _)⟩)
        · have hsm_new := (sizeN_small c.new).1 (by omega)
          refine T.skip ?_
          refine X.inBlock (X.then ?_)
          refine T.seq ?_
          refine T.text [.l, .l, .l, .l, .l, .l, .l, .l, .l, .l, .l, .l, .l, .l, .l, .l, .l, .l, .l] rfl ?_
          refine J.move rfl rfl ?_
          refine J.not rfl rfl (by rw [← decide_not]) ?_
          refine J.move rfl rfl ?_
          refine J.split 47 rfl (fun h5 => ?_) (fun h5 => ?_)
          · skip
            refine J.yes rfl rfl ?_
            refine J.fieldAddr fld53_2 rfl rfl ?_
            refine J.yes rfl rfl ?_
            refine J.loadN (k := .l) trivial 1 rfl rfl agg50 (wc c.key) rfl rfl rfl ?_
            refine J.yes rfl rfl ?_
            refine J.loadN (k := .l) trivial 3 rfl rfl agg50 (wc 0) rfl rfl rfl ?_
            refine J.yes rfl rfl ?_
            refine J.eqW eqw50 rfl rfl rfl ?_
            refine J.yes rfl rfl ?_
            refine J.move rfl rfl ?_
            refine J.split 52 rfl (fun h6 => ?_) (fun h6 => ?_)
            · skip
              refine J.no rfl rfl rfl rfl ?_
              refine J.no rfl rfl rfl rfl ?_
              refine J.no rfl rfl rfl rfl ?_
              refine J.yes rfl rfl ?_
              refine J.pick_t rfl rfl rfl ?_
              refine J.pick_t rfl rfl rfl ?_
              refine J.move rfl rfl ?_
              refine J.yes rfl rfl ?_
              refine J.loadN (k := .l) trivial 1 rfl rfl agg53 (c.cells) rfl rfl rfl ?_
              refine J.yes rfl rfl ?_
              refine J.call0 (k := .l) trivial fok61 rfl rfl (fun w hw => Da.idle w c (e1.ws hw (off_nil _)) (e2.ws hw (off_nil _)) d1 d2) ?_
              refine J.yes rfl rfl ?_
              refine J.not rfl rfl (by rw [← decide_not]) ?_
              refine J.pick_t rfl rfl rfl ?_
              refine J.assign rfl rfl ?_
              refine J.end ?_
              refine X.then ?_
              refine T.ret ?_
              exact X.ret1 rfl (RV.tmp rfl) (fun w' hw' => by first | exact ⟨by congr 2; exact (decide_eq_false (fun q => by have q1 := q.1; unfold CV.mayL Ch.v at *; dsimp only at *; omega)).symm, hw'.sub (Sub.nil _)⟩ | exact ⟨by congr 2; exact decide_eq_decide.2 ⟨fun q => ⟨by unfold CV.mayL Ch.v at *; dsimp only at *; omega, q⟩, fun q => q.2⟩, hw'.sub (Sub.nil _)⟩)
            · skip
              refine J.yes rfl rfl ?_
              refine J.fieldAddr fld53_1 rfl rfl ?_
              refine J.yes rfl rfl ?_
              refine J.load1 (k := .l) trivial 1 rfl rfl one3 (by first | rfl | with_reducible exact rowN_get0 _ _ _ (by omega) | with_reducible exact rowN_get1 _ _ _ (by omega) | with_reducible exact rowN_get1s _ _ _ _ (by omega) | exact rowN_get1 _ _ _ (by omega) | exact rowN_get1s _ _ _ _ (by omega) | exact rowN_get0 _ _ _ (by omega)) rfl ?_
              refine J.yes rfl rfl ?_
              refine J.eql rfl rfl rfl rfl ?_
              refine J.yes rfl rfl ?_
              refine J.pick_f rfl rfl rfl ?_
              refine J.pick_t rfl rfl rfl ?_
              refine J.move rfl rfl ?_
              refine J.split 58 rfl (fun h7 => ?_) (fun h7 => ?_)
              · skip
                refine J.yes rfl rfl ?_
                refine J.loadN (k := .l) trivial 1 rfl rfl agg53 (c.cells) rfl rfl rfl ?_
                refine J.yes rfl rfl ?_
                refine J.call0 (k := .l) trivial fok61 rfl rfl (fun w hw => Da.idle w c (e1.ws hw (off_nil _)) (e2.ws hw (off_nil _)) d1 d2) ?_
                refine J.yes rfl rfl ?_
                refine J.not rfl rfl (by rw [← decide_not]) ?_
                refine J.pick_t rfl rfl rfl ?_
                refine J.assign rfl rfl ?_
                refine J.end ?_
                refine X.then ?_
                refine T.ret ?_
                exact X.ret1 rfl (RV.tmp rfl) (fun w' hw' => by first | exact ⟨by congr 2; exact (decide_eq_false (fun q => by have q1 := q.1; unfold CV.mayL Ch.v at *; dsimp only at *; omega)).symm, hw'.sub (Sub.nil _)⟩ | exact ⟨by congr 2; exact decide_eq_decide.2 ⟨fun q => ⟨by unfold CV.mayL Ch.v at *; dsimp only at *; omega, q⟩, fun q => q.2⟩, hw'.sub (Sub.nil _)⟩)
              · skip
                refine J.no rfl rfl rfl rfl ?_
                refine J.no rfl rfl rfl rfl ?_
                refine J.no rfl rfl rfl rfl ?_
                refine J.pick_f rfl rfl rfl ?_
                refine J.assign rfl rfl ?_
                refine J.end ?_
                refine X.then ?_
                refine T.ret ?_
                exact X.ret1 rfl (RV.tmp rfl) (fun w' hw' => by first | exact ⟨by congr 2; exact (decide_eq_false (fun q => by have q1 := q.1; unfold CV.mayL Ch.v at *; dsimp only at *; omega)).symm, hw'.sub (Sub.nil _)⟩ | exact ⟨by congr 2; exact decide_eq_decide.2 ⟨fun q => ⟨by unfold CV.mayL Ch.v at *; dsimp only at *; omega, q⟩, fun q => q.2⟩, hw'.sub (Sub.nil _)⟩)
          · skip
            refine J.no rfl rfl rfl rfl ?_
            refine J.no rfl rfl rfl rfl ?_
            refine J.no rfl rfl rfl rfl ?_
            refine J.no rfl rfl rfl rfl ?_
            refine J.no rfl rfl rfl rfl ?_
            refine J.noU rfl rfl rfl ?_
            refine J.noU rfl rfl rfl ?_
            refine J.noU rfl rfl rfl ?_
            refine J.no rfl rfl rfl rfl ?_
            refine J.pick_f rfl rfl rfl ?_
            refine J.move rfl rfl ?_
            refine J.no rfl rfl rfl rfl ?_
            refine J.no rfl rfl rfl rfl ?_
            refine J.no rfl rfl rfl rfl ?_
            refine J.pick_f rfl rfl rfl ?_
            refine J.assign rfl rfl ?_
            refine J.end ?_
            refine X.then ?_
            refine T.ret ?_
            exact X.ret1 rfl (RV.tmp rfl) (fun w' hw' => by first | exact ⟨by congr 2; exact (decide_eq_false (fun q => by have q1 := q.1; unfold CV.mayL Ch.v at *; dsimp only at *; omega)).symm, hw'.sub (Sub.nil _)⟩ | exact ⟨by congr 2; exact decide_eq_decide.2 ⟨fun q => ⟨by unfold CV.mayL Ch.v at *; dsimp only at *; omega, q⟩, fun q => q.2⟩, hw'.sub (Sub.nil _)⟩)
    · skip
      refine T.seq ?_
      refine T.text [.l, .l] rfl ?_
      refine J.eql rfl rfl rfl rfl ?_
      refine J.assign rfl rfl ?_
      refine J.end ?_
      refine X.then ?_
      refine T.cond_dec rfl (fun h8 => ?_) (fun h8 => ?_)
      · skip
        refine T.text [.l, .l, .l, .l] rfl ?_
        refine J.move rfl rfl ?_
        refine J.move rfl rfl ?_
        refine J.assign rfl rfl ?_
        refine J.assign rfl rfl ?_
        refine J.end ?_
        refine X.inBlock (X.then ?_)
        refine T.seq ?_
        refine T.text [.l, .l, .l, .l, .l, .l, .l, .l, .l, .l, .l, .l, .l, .l, .l, .l, .l, .l, .l] rfl ?_
        refine J.move rfl rfl ?_
        refine J.not rfl rfl rfl ?_
        refine J.move rfl rfl ?_
        refine J.no rfl rfl rfl rfl ?_
        refine J.no rfl rfl rfl rfl ?_
        refine J.no rfl rfl rfl rfl ?_
        refine J.no rfl rfl rfl rfl ?_
        refine J.no rfl rfl rfl rfl ?_
        refine J.noU rfl rfl rfl ?_
        refine J.noU rfl rfl rfl ?_
        refine J.noU rfl rfl rfl ?_
        refine J.no rfl rfl rfl rfl ?_
        refine J.pick_f rfl rfl rfl ?_
        refine J.move rfl rfl ?_
        refine J.no rfl rfl rfl rfl ?_
        refine J.no rfl rfl rfl rfl ?_
        refine J.no rfl rfl rfl rfl ?_
        refine J.pick_f rfl rfl rfl ?_
        refine J.assign rfl rfl ?_
        refine J.end ?_
        refine X.then ?_
        refine T.ret ?_
        exact X.ret1 rfl (RV.tmp rfl) (fun w' hw' => by first | exact ⟨by congr 2; exact (decide_eq_false (fun q => by have q1 := q.1; unfold CV.mayL Ch.v at *; dsimp only at *; omega)).symm, hw'.sub (Sub.nil _)⟩ | exact ⟨by congr 2; exact decide_eq_decide.2 ⟨fun q => ⟨by unfold CV.mayL Ch.v at *; dsimp only at *; omega, q⟩, fun q => q.2⟩, hw'.sub (Sub.nil _)⟩)
      · skip
        refine T.seq ?_
        refine T.seq ?_
        refine T.text [.l, .l] rfl ?_
        refine J.eql rfl rfl rfl rfl ?_
        refine J.assign rfl rfl ?_
        refine J.end ?_
        refine X.then ?_
        refine T.cond_dec rfl (fun h9 => ?_) (fun h9 => ?_)
        · skip
          refine T.skip ?_
          refine X.then ?_
          refine T.cond_dec rfl (fun h10 => ?_) (fun h10 => ?_)
          · skip
            refine T.skip ?_
            refine X.inBlock (X.then ?_)
            refine T.seq ?_
            refine T.text [.l, .l, .l, .l, .l, .l, .l, .l, .l, .l, .l, .l, .l, .l, .l, .l, .l, .l, .l] rfl ?_
            refine J.move rfl rfl ?_
            refine J.not rfl rfl (by rw [← decide_not]) ?_
            refine J.move rfl rfl ?_
            refine J.split 47 rfl (fun h11 => ?_) (fun h11 => ?_)
            · skip
              refine J.yes rfl rfl ?_
              refine J.fieldAddr fld53_2 rfl rfl ?_
              refine J.yes rfl rfl ?_
              refine J.loadN (k := .l) trivial 1 rfl rfl agg50 (wc c.key) rfl rfl rfl ?_
              refine J.yes rfl rfl ?_
              refine J.loadN (k := .l) trivial 3 rfl rfl agg50 (wc 0) rfl rfl rfl ?_
              refine J.yes rfl rfl ?_
              refine J.eqW eqw50 rfl rfl rfl ?_
              refine J.yes rfl rfl ?_
              refine J.move rfl rfl ?_
              refine J.split 52 rfl (fun h12 => ?_) (fun h12 => ?_)
              · skip
                refine J.no rfl rfl rfl rfl ?_
                refine J.no rfl rfl rfl rfl ?_
                refine J.no rfl rfl rfl rfl ?_
                refine J.yes rfl rfl ?_
                refine J.pick_t rfl rfl rfl ?_
                refine J.pick_t rfl rfl rfl ?_
                refine J.move rfl rfl ?_
                refine J.yes rfl rfl ?_
                refine J.loadN (k := .l) trivial 1 rfl rfl agg53 (c.cells) rfl rfl rfl ?_
                refine J.yes rfl rfl ?_
                refine J.call0 (k := .l) trivial fok61 rfl rfl (fun w hw => Da.idle w c (e1.ws hw (off_nil _)) (e2.ws hw (off_nil _)) d1 d2) ?_
                refine J.yes rfl rfl ?_
                refine J.not rfl rfl (by rw [← decide_not]) ?_
                refine J.pick_t rfl rfl rfl ?_
                refine J.assign rfl rfl ?_
                refine J.end ?_
                refine X.then ?_
                refine T.ret ?_
                exact X.ret1 rfl (RV.tmp rfl) (fun w' hw' => by first | exact ⟨by congr 2; exact (decide_eq_false (fun q => by have q1 := q.1; unfold CV.mayL Ch.v at *; dsimp only at *; omega)).symm, hw'.sub (Sub.nil _)⟩ | exact ⟨by congr 2; exact decide_eq_decide.2 ⟨fun q => ⟨by unfold CV.mayL Ch.v at *; dsimp only at *; omega, q⟩, fun q => q.2⟩, hw'.sub (Sub.nil _)⟩)
              · skip
                refine J.yes rfl rfl ?_
                refine J.fieldAddr fld53_1 rfl rfl ?_
                refine J.yes rfl rfl ?_
                refine J.load1 (k := .l) trivial 1 rfl rfl one3 (by first | rfl | with_reducible exact rowN_get0 _ _ _ (by omega) | with_reducible exact rowN_get1 _ _ _ (by omega) | with_reducible exact rowN_get1s _ _ _ _ (by omega) | exact rowN_get1 _ _ _ (by omega) | exact rowN_get1s _ _ _ _ (by omega) | exact rowN_get0 _ _ _ (by omega)) rfl ?_
                refine J.yes rfl rfl ?_
                refine J.eql rfl rfl rfl rfl ?_
                refine J.yes rfl rfl ?_
                refine J.pick_f rfl rfl rfl ?_
                refine J.pick_t rfl rfl rfl ?_
                refine J.move rfl rfl ?_
                refine J.split 58 rfl (fun h13 => ?_) (fun h13 => ?_)
                · skip
                  refine J.yes rfl rfl ?_
                  refine J.loadN (k := .l) trivial 1 rfl rfl agg53 (c.cells) rfl rfl rfl ?_
                  refine J.yes rfl rfl ?_
                  refine J.call0 (k := .l) trivial fok61 rfl rfl (fun w hw => Da.idle w c (e1.ws hw (off_nil _)) (e2.ws hw (off_nil _)) d1 d2) ?_
                  refine J.yes rfl rfl ?_
                  refine J.not rfl rfl (by rw [← decide_not]) ?_
                  refine J.pick_t rfl rfl rfl ?_
                  refine J.assign rfl rfl ?_
                  refine J.end ?_
                  refine X.then ?_
                  refine T.ret ?_
                  exact X.ret1 rfl (RV.tmp rfl) (fun w' hw' => by first | exact ⟨by congr 2; exact (decide_eq_false (fun q => by have q1 := q.1; unfold CV.mayL Ch.v at *; dsimp only at *; omega)).symm, hw'.sub (Sub.nil _)⟩ | exact ⟨by congr 2; exact decide_eq_decide.2 ⟨fun q => ⟨by unfold CV.mayL Ch.v at *; dsimp only at *; omega, q⟩, fun q => q.2⟩, hw'.sub (Sub.nil _)⟩)
                · skip
                  refine J.no rfl rfl rfl rfl ?_
                  refine J.no rfl rfl rfl rfl ?_
                  refine J.no rfl rfl rfl rfl ?_
                  refine J.pick_f rfl rfl rfl ?_
                  refine J.assign rfl rfl ?_
                  refine J.end ?_
                  refine X.then ?_
                  refine T.ret ?_
                  exact X.ret1 rfl (RV.tmp rfl) (fun w' hw' => by first | exact ⟨by congr 2; exact (decide_eq_false (fun q => by have q1 := q.1; unfold CV.mayL Ch.v at *; dsimp only at *; omega)).symm, hw'.sub (Sub.nil _)⟩ | exact ⟨by congr 2; exact decide_eq_decide.2 ⟨fun q => ⟨by unfold CV.mayL Ch.v at *; dsimp only at *; omega, q⟩, fun q => q.2⟩, hw'.sub (Sub.nil _)⟩)
            · skip
              refine J.no rfl rfl rfl rfl ?_
              refine J.no rfl rfl rfl rfl ?_
              refine J.no rfl rfl rfl rfl ?_
              refine J.no rfl rfl rfl rfl ?_
              refine J.no rfl rfl rfl rfl ?_
              refine J.noU rfl rfl rfl ?_
              refine J.noU rfl rfl rfl ?_
              refine J.noU rfl rfl rfl ?_
              refine J.no rfl rfl rfl rfl ?_
              refine J.pick_f rfl rfl rfl ?_
              refine J.move rfl rfl ?_
              refine J.no rfl rfl rfl rfl ?_
              refine J.no rfl rfl rfl rfl ?_
              refine J.no rfl rfl rfl rfl ?_
              refine J.pick_f rfl rfl rfl ?_
              refine J.assign rfl rfl ?_
              refine J.end ?_
              refine X.then ?_
              refine T.ret ?_
              exact X.ret1 rfl (RV.tmp rfl) (fun w' hw' => by first | exact ⟨by congr 2; exact (decide_eq_false (fun q => by have q1 := q.1; unfold CV.mayL Ch.v at *; dsimp only at *; omega)).symm, hw'.sub (Sub.nil _)⟩ | exact ⟨by congr 2; exact decide_eq_decide.2 ⟨fun q => ⟨by unfold CV.mayL Ch.v at *; dsimp only at *; omega, q⟩, fun q => q.2⟩, hw'.sub (Sub.nil _)⟩)
          · skip
            refine T.seq ?_
            refine T.text [.l] rfl ?_
            refine J.assign rfl rfl ?_
            refine J.end ?_
            refine X.then ?_
            refine T.ret ?_
            refine X.inBlock_ret (X.then_ret ?_)
            exact X.ret1 rfl (RV.tmp rfl) (fun w' hw' => by first | exact ⟨by congr 2; exact (decide_eq_false (fun q => by have q1 := q.1; unfold CV.mayL Ch.v at *; dsimp only at *; omega)).symm, hw'.sub (Sub.nil _)⟩ | exact ⟨by congr 2; exact decide_eq_decide.2 ⟨fun q => ⟨by unfold CV.mayL Ch.v at *; dsimp only at *; omega, q⟩, fun q => q.2⟩, hw'.sub (Sub.nil _)⟩)
        · skip
          refine T.text [.l, .l] rfl ?_
          refine J.eql rfl rfl rfl rfl ?_
          refine J.assign rfl rfl ?_
          refine J.end ?_
          refine X.then ?_
          refine T.cond_dec rfl (fun h14 => ?_) (fun h14 => ?_)
          · skip
            refine T.skip ?_
            refine X.inBlock (X.then ?_)
            refine T.seq ?_
            refine T.text [.l, .l, .l, .l, .l, .l, .l, .l, .l, .l, .l, .l, .l, .l, .l, .l, .l, .l, .l] rfl ?_
            refine J.move rfl rfl ?_
            refine J.not rfl rfl (by rw [← decide_not]) ?_
            refine J.move rfl rfl ?_
            refine J.split 47 rfl (fun h15 => ?_) (fun h15 => ?_)
            · skip
              refine J.yes rfl rfl ?_
              refine J.fieldAddr fld53_2 rfl rfl ?_
              refine J.yes rfl rfl ?_
              refine J.loadN (k := .l) trivial 1 rfl rfl agg50 (wc c.key) rfl rfl rfl ?_
              refine J.yes rfl rfl ?_
              refine J.loadN (k := .l) trivial 3 rfl rfl agg50 (wc 0) rfl rfl rfl ?_
              refine J.yes rfl rfl ?_
              refine J.eqW eqw50 rfl rfl rfl ?_
              refine J.yes rfl rfl ?_
              refine J.move rfl rfl ?_
              refine J.split 52 rfl (fun h16 => ?_) (fun h16 => ?_)
              · skip
                refine J.no rfl rfl rfl rfl ?_
                refine J.no rfl rfl rfl rfl ?_
                refine J.no rfl rfl rfl rfl ?_
                refine J.yes rfl rfl ?_
                refine J.pick_t rfl rfl rfl ?_
                refine J.pick_t rfl rfl rfl ?_
                refine J.move rfl rfl ?_
                refine J.yes rfl rfl ?_
                refine J.loadN (k := .l) trivial 1 rfl rfl agg53 (c.cells) rfl rfl rfl ?_
                refine J.yes rfl rfl ?_
                refine J.call0 (k := .l) trivial fok61 rfl rfl (fun w hw => Da.idle w c (e1.ws hw (off_nil _)) (e2.ws hw (off_nil _)) d1 d2) ?_
                refine J.yes rfl rfl ?_
                refine J.not rfl rfl (by rw [← decide_not]) ?_
                refine J.pick_t rfl rfl rfl ?_
                refine J.assign rfl rfl ?_
                refine J.end ?_
                refine X.then ?_
                refine T.ret ?_
                exact X.ret1 rfl (RV.tmp rfl) (fun w' hw' => by first | exact ⟨by congr 2; exact (decide_eq_false (fun q => by have q1 := q.1; unfold CV.mayL Ch.v at *; dsimp only at *; omega)).symm, hw'.sub (Sub.nil _)⟩ | exact ⟨by congr 2; exact decide_eq_decide.2 ⟨fun q => ⟨by unfold CV.mayL Ch.v at *; dsimp only at *; omega, q⟩, fun q => q.2⟩, hw'.sub (Sub.nil _)⟩)
              · skip
                refine J.yes rfl rfl ?_
                refine J.fieldAddr fld53_1 rfl rfl ?_
                refine J.yes rfl rfl ?_
                refine J.load1 (k := .l) trivial 1 rfl rfl one3 (by first | rfl | with_reducible exact rowN_get0 _ _ _ (by omega) | with_reducible exact rowN_get1 _ _ _ (by omega) | with_reducible exact rowN_get1s _ _ _ _ (by omega) | exact rowN_get1 _ _ _ (by omega) | exact rowN_get1s _ _ _ _ (by omega) | exact rowN_get0 _ _ _ (by omega)) rfl ?_
                refine J.yes rfl rfl ?_
                refine J.eql rfl rfl rfl rfl ?_
                refine J.yes rfl rfl ?_
                refine J.pick_f rfl rfl rfl ?_
                refine J.pick_t rfl rfl rfl ?_
                refine J.move rfl rfl ?_
                refine J.split 58 rfl (fun h17 => ?_) (fun h17 => ?_)
                · skip
                  refine J.yes rfl rfl ?_
                  refine J.loadN (k := .l) trivial 1 rfl rfl agg53 (c.cells) rfl rfl rfl ?_
                  refine J.yes rfl rfl ?_
                  refine J.call0 (k := .l) trivial fok61 rfl rfl (fun w hw => Da.idle w c (e1.ws hw (off_nil _)) (e2.ws hw (off_nil _)) d1 d2) ?_
                  refine J.yes rfl rfl ?_
                  refine J.not rfl rfl (by rw [← decide_not]) ?_
                  refine J.pick_t rfl rfl rfl ?_
                  refine J.assign rfl rfl ?_
                  refine J.end ?_
                  refine X.then ?_
                  refine T.ret ?_
                  exact X.ret1 rfl (RV.tmp rfl) (fun w' hw' => by first | exact ⟨by congr 2; exact (decide_eq_false (fun q => by have q1 := q.1; unfold CV.mayL Ch.v at *; dsimp only at *; omega)).symm, hw'.sub (Sub.nil _)⟩ | exact ⟨by congr 2; exact decide_eq_decide.2 ⟨fun q => ⟨by unfold CV.mayL Ch.v at *; dsimp only at *; omega, q⟩, fun q => q.2⟩, hw'.sub (Sub.nil _)⟩)
                · skip
                  refine J.no rfl rfl rfl rfl ?_
                  refine J.no rfl rfl rfl rfl ?_
                  refine J.no rfl rfl rfl rfl ?_
                  refine J.pick_f rfl rfl rfl ?_
                  refine J.assign rfl rfl ?_
                  refine J.end ?_
                  refine X.then ?_
                  refine T.ret ?_
                  exact X.ret1 rfl (RV.tmp rfl) (fun w' hw' => by first | exact ⟨by congr 2; exact (decide_eq_false (fun q => by have q1 := q.1; unfold CV.mayL Ch.v at *; dsimp only at *; omega)).symm, hw'.sub (Sub.nil _)⟩ | exact ⟨by congr 2; exact decide_eq_decide.2 ⟨fun q => ⟨by unfold CV.mayL Ch.v at *; dsimp only at *; omega, q⟩, fun q => q.2⟩, hw'.sub (Sub.nil _)⟩)
            · skip
              refine J.no rfl rfl rfl rfl ?_
              refine J.no rfl rfl rfl rfl ?_
              refine J.no rfl rfl rfl rfl ?_
              refine J.no rfl rfl rfl rfl ?_
              refine J.no rfl rfl rfl rfl ?_
              refine J.noU rfl rfl rfl ?_
              refine J.noU rfl rfl rfl ?_
              refine J.noU rfl rfl rfl ?_
              refine J.no rfl rfl rfl rfl ?_
              refine J.pick_f rfl rfl rfl ?_
              refine J.move rfl rfl ?_
              refine J.no rfl rfl rfl rfl ?_
              refine J.no rfl rfl rfl rfl ?_
              refine J.no rfl rfl rfl rfl ?_
              refine J.pick_f rfl rfl rfl ?_
              refine J.assign rfl rfl ?_
              refine J.end ?_
              refine X.then ?_
              refine T.ret ?_
              exact X.ret1 rfl (RV.tmp rfl) (fun w' hw' => by first | exact ⟨by congr 2; exact (decide_eq_false (fun q => by have q1 := q.1; unfold CV.mayL Ch.v at *; dsimp only at *; omega)).symm, hw'.sub (Sub.nil _)⟩ | exact ⟨by congr 2; exact decide_eq_decide.2 ⟨fun q => ⟨by unfold CV.mayL Ch.v at *; dsimp only at *; omega, q⟩, fun q => q.2⟩, hw'.sub (Sub.nil _)⟩)
          · skip
            refine T.seq ?_
            refine T.text [.l] rfl ?_
            refine J.assign rfl rfl ?_
            refine J.end ?_
            refine X.then ?_
            refine T.ret ?_
            refine X.inBlock_ret (X.then_ret ?_)
            exact X.ret1 rfl (RV.tmp rfl) (fun w' hw' => by first | exact ⟨by congr 2; exact (decide_eq_false (fun q => by have q1 := q.1; unfold CV.mayL Ch.v at *; dsimp only at *; omega)).symm, hw'.sub (Sub.nil _)⟩ | exact ⟨by congr 2; exact decide_eq_decide.2 ⟨fun q => ⟨by unfold CV.mayL Ch.v at *; dsimp only at *; omega, q⟩, fun q => q.2⟩, hw'.sub (Sub.nil _)⟩)
  · skip
    refine J.yes rfl rfl ?_
    refine J.fieldAddr fld53_4 rfl rfl ?_
    refine J.yes rfl rfl ?_
    refine J.loadN (k := .l) trivial 1 rfl rfl agg50 (wc c.new) rfl rfl rfl ?_
    refine J.yes rfl rfl ?_
    refine J.loadN (k := .l) trivial 3 rfl rfl agg50 (wc 0) rfl rfl rfl ?_
    refine J.yes rfl rfl ?_
    refine J.neqW eqw50 rfl rfl rfl ?_
    refine J.pick_f rfl rfl rfl ?_
    refine J.assign rfl rfl ?_
    refine J.end ?_
    refine X.then ?_
    refine T.seq ?_
    refine T.text [.l, .l, .l, .l, .l, .l, .l, .l, .l] rfl ?_
    refine J.fieldAddr fld53_5 rfl rfl ?_
    refine J.load1 (k := .l) trivial 1 rfl rfl one51 (by first | rfl | with_reducible exact rowN_get0 _ _ _ (by omega) | with_reducible exact rowN_get1 _ _ _ (by omega) | with_reducible exact rowN_get1s _ _ _ _ (by omega) | exact rowN_get1 _ _ _ (by omega) | exact rowN_get1s _ _ _ _ (by omega) | exact rowN_get0 _ _ _ (by omega)) rfl ?_
    refine J.lenSl Tryz.underlying51 rfl rfl ?_
    refine J.fieldAddr fld53_6 rfl rfl ?_
    refine J.load1 (k := .l) trivial 1 rfl rfl one51 (by first | rfl | with_reducible exact rowN_get0 _ _ _ (by omega) | with_reducible exact rowN_get1 _ _ _ (by omega) | with_reducible exact rowN_get1s _ _ _ _ (by omega) | exact rowN_get1 _ _ _ (by omega) | exact rowN_get1s _ _ _ _ (by omega) | exact rowN_get0 _ _ _ (by omega)) rfl ?_
    refine J.lenSl Tryz.underlying51 rfl rfl ?_
    refine J.add rfl rfl rfl (by exact i64_ok _ (by omega)) ?_
    refine J.gtr rfl rfl rfl rfl ?_
    refine J.assign rfl rfl ?_
    refine J.end ?_
    refine X.then ?_
    refine T.seq ?_
    refine T.seq ?_
    refine T.text [.l, .l] rfl ?_
    refine J.fieldAddr fld53_1 rfl rfl ?_
    refine J.load1 (k := .l) trivial 1 rfl rfl one3 (by first | rfl | with_reducible exact rowN_get0 _ _ _ (by omega) | with_reducible exact rowN_get1 _ _ _ (by omega) | with_reducible exact rowN_get1s _ _ _ _ (by omega) | exact rowN_get1 _ _ _ (by omega) | exact rowN_get1s _ _ _ _ (by omega) | exact rowN_get0 _ _ _ (by omega)) rfl ?_
    refine J.end ?_
    refine X.then ?_
    refine T.block ?_
    refine T.seq ?_
    refine T.text [.l, .l] rfl ?_
    refine J.eql rfl rfl rfl rfl ?_
    refine J.assign rfl rfl ?_
    refine J.end ?_
    refine X.then ?_
    refine T.cond_dec rfl (fun h18 => ?_) (fun h18 => ?_)
    · skip
      refine T.seq ?_
      refine T.text [.l, .l, .l, .l, .l, .l, .l, .l, .l, .l] rfl ?_
      refine J.fieldAddr fld53_3 rfl rfl ?_
      refine J.loadN (k := .l) trivial 1 rfl rfl agg50 (wc c.old) rfl rfl rfl ?_
      refine J.call0 (k := .l) trivial fok98 rfl rfl (fun w hw => Wa.Size w _) ?_
      refine J.gtr rfl rfl rfl rfl ?_
      refine J.move rfl rfl ?_
      refine J.split 32 rfl (fun h19 => ?_) (fun h19 => ?_)
      · have hbig := sizeN_big c.old (by omega)
        refine J.no rfl rfl rfl rfl ?_
        refine J.no rfl rfl rfl rfl ?_
        refine J.no rfl rfl rfl rfl ?_
        refine J.no rfl rfl rfl rfl ?_
        refine J.pick_t rfl rfl rfl ?_
        refine J.end ?_
        refine X.then ?_
        refine T.cond_true rfl ?_
        refine T.seq ?_
        refine T.text [.l] rfl ?_
        refine J.assign rfl rfl ?_
        refine J.end ?_
        refine X.then ?_
        refine T.ret ?_
        refine X.inBlock_ret (X.then_ret ?_)
        exact X.ret1 rfl (RV.tmp rfl) (fun w' hw' => by first | exact ⟨by congr 2; exact (decide_eq_false (fun q => by have q1 := q.1; unfold CV.mayL Ch.v at *; dsimp only at *; omega)).symm, hw'.sub (Sub.nil _)⟩ | exact ⟨by congr 2; exact decide_eq_decide.2 ⟨fun q => ⟨by unfold CV.mayL Ch.v at *; dsimp only at *; omega, q⟩, fun q => q.2⟩, hw'.sub (Sub.nil _)⟩)
      · have hsm_old := (sizeN_small c.old).1 (by omega)
        refine J.yes rfl rfl ?_
        refine J.fieldAddr fld53_4 rfl rfl ?_
        refine J.yes rfl rfl ?_
        refine J.loadN (k := .l) trivial 1 rfl rfl agg50 (wc c.new) rfl rfl rfl ?_
        refine J.yes rfl rfl ?_
        refine J.call0 (k := .l) trivial fok98 rfl rfl (fun w hw => Wa.Size w _) ?_
        refine J.yes rfl rfl ?_
        refine J.gtr rfl rfl rfl rfl ?_
        refine J.pick_f rfl rfl rfl ?_
        refine J.end ?_
        refine X.then ?_
        refine T.cond_dec rfl (fun h20 => ?_) (fun h20 => ?_)
        · have hbig := sizeN_big c.new (by omega)
          refine T.seq ?_
          refine T.text [.l] rfl ?_
          refine J.assign rfl rfl ?_
          refine J.end ?_
          refine X.then ?_
          refine T.ret ?_
          refine X.inBlock_ret (X.then_ret ?_)
          exact X.ret1 rfl (RV.tmp rfl) (fun w' hw' => by first | exact ⟨by congr 2; exact (decide_eq_false (fun q => by have q1 := q.1; unfold CV.mayL Ch.v at *; dsimp only at *; omega)).symm, hw'.sub (Sub.nil _)⟩ | exact ⟨by congr 2; exact decide_eq_decide.2 ⟨fun q => ⟨by unfold CV.mayL Ch.v at *; dsimp only at *; omega, q⟩, fun q => q.2⟩, hw'.sub (Sub.nil _)⟩)
        · have hsm_new := (sizeN_small c.new).1 (by omega)
          refine T.skip ?_
          refine X.inBlock (X.then ?_)
          refine T.seq ?_
          refine T.text [.l, .l, .l, .l, .l, .l, .l, .l, .l, .l, .l, .l, .l, .l, .l, .l, .l, .l, .l] rfl ?_
          refine J.move rfl rfl ?_
          refine J.not rfl rfl (by rw [← decide_not]) ?_
          refine J.move rfl rfl ?_
          refine J.split 47 rfl (fun h21 => ?_) (fun h21 => ?_)
          · skip
            refine J.yes rfl rfl ?_
            refine J.fieldAddr fld53_2 rfl rfl ?_
            refine J.yes rfl rfl ?_
            refine J.loadN (k := .l) trivial 1 rfl rfl agg50 (wc c.key) rfl rfl rfl ?_
            refine J.yes rfl rfl ?_
            refine J.loadN (k := .l) trivial 3 rfl rfl agg50 (wc 0) rfl rfl rfl ?_
            refine J.yes rfl rfl ?_
            refine J.eqW eqw50 rfl rfl rfl ?_
            refine J.yes rfl rfl ?_
            refine J.move rfl rfl ?_
            refine J.split 52 rfl (fun h22 => ?_) (fun h22 => ?_)
            · skip
              refine J.no rfl rfl rfl rfl ?_
              refine J.no rfl rfl rfl rfl ?_
              refine J.no rfl rfl rfl rfl ?_
              refine J.yes rfl rfl ?_
              refine J.pick_t rfl rfl rfl ?_
              refine J.pick_t rfl rfl rfl ?_
              refine J.move rfl rfl ?_
              refine J.yes rfl rfl ?_
              refine J.loadN (k := .l) trivial 1 rfl rfl agg53 (c.cells) rfl rfl rfl ?_
              refine J.yes rfl rfl ?_
              refine J.call0 (k := .l) trivial fok61 rfl rfl (fun w hw => Da.idle w c (e1.ws hw (off_nil _)) (e2.ws hw (off_nil _)) d1 d2) ?_
              refine J.yes rfl rfl ?_
              refine J.not rfl rfl (by rw [← decide_not]) ?_
              refine J.pick_t rfl rfl rfl ?_
              refine J.assign rfl rfl ?_
              refine J.end ?_
              refine X.then ?_
              refine T.ret ?_
              exact X.ret1 rfl (RV.tmp rfl) (fun w' hw' => by first | exact ⟨by congr 2; exact (decide_eq_false (fun q => by have q1 := q.1; unfold CV.mayL Ch.v at *; dsimp only at *; omega)).symm, hw'.sub (Sub.nil _)⟩ | exact ⟨by congr 2; exact decide_eq_decide.2 ⟨fun q => ⟨by unfold CV.mayL Ch.v at *; dsimp only at *; omega, q⟩, fun q => q.2⟩, hw'.sub (Sub.nil _)⟩)
            · skip
              refine J.yes rfl rfl ?_
              refine J.fieldAddr fld53_1 rfl rfl ?_
              refine J.yes rfl rfl ?_
              refine J.load1 (k := .l) trivial 1 rfl rfl one3 (by first | rfl | with_reducible exact rowN_get0 _ _ _ (by omega) | with_reducible exact rowN_get1 _ _ _ (by omega) | with_reducible exact rowN_get1s _ _ _ _ (by omega) | exact rowN_get1 _ _ _ (by omega) | exact rowN_get1s _ _ _ _ (by omega) | exact rowN_get0 _ _ _ (by omega)) rfl ?_
              refine J.yes rfl rfl ?_
              refine J.eql rfl rfl rfl rfl ?_
              refine J.yes rfl rfl ?_
              refine J.pick_f rfl rfl rfl ?_
              refine J.pick_t rfl rfl rfl ?_
              refine J.move rfl rfl ?_
              refine J.split 58 rfl (fun h23 => ?_) (fun h23 => ?_)
              · skip
                refine J.yes rfl rfl ?_
                refine J.loadN (k := .l) trivial 1 rfl rfl agg53 (c.cells) rfl rfl rfl ?_
                refine J.yes rfl rfl ?_
                refine J.call0 (k := .l) trivial fok61 rfl rfl (fun w hw => Da.idle w c (e1.ws hw (off_nil _)) (e2.ws hw (off_nil _)) d1 d2) ?_
                refine J.yes rfl rfl ?_
                refine J.not rfl rfl (by rw [← decide_not]) ?_
                refine J.pick_t rfl rfl rfl ?_
                refine J.assign rfl rfl ?_
                refine J.end ?_
                refine X.then ?_
                refine T.ret ?_
                exact X.ret1 rfl (RV.tmp rfl) (fun w' hw' => by first | exact ⟨by congr 2; exact (decide_eq_false (fun q => by have q1 := q.1; unfold CV.mayL Ch.v at *; dsimp only at *; omega)).symm, hw'.sub (Sub.nil _)⟩ | exact ⟨by congr 2; exact decide_eq_decide.2 ⟨fun q => ⟨by unfold CV.mayL Ch.v at *; dsimp only at *; omega, q⟩, fun q => q.2⟩, hw'.sub (Sub.nil _)⟩)
              · skip
                refine J.no rfl rfl rfl rfl ?_
                refine J.no rfl rfl rfl rfl ?_
                refine J.no rfl rfl rfl rfl ?_
                refine J.pick_f rfl rfl rfl ?_
                refine J.assign rfl rfl ?_
                refine J.end ?_
                refine X.then ?_
                refine T.ret ?_
                exact X.ret1 rfl (RV.tmp rfl) (fun w' hw' => by first | exact ⟨by congr 2; exact (decide_eq_false (fun q => by have q1 := q.1; unfold CV.mayL Ch.v at *; dsimp only at *; omega)).symm, hw'.sub (Sub.nil _)⟩ | exact ⟨by congr 2; exact decide_eq_decide.2 ⟨fun q => ⟨by unfold CV.mayL Ch.v at *; dsimp only at *; omega, q⟩, fun q => q.2⟩, hw'.sub (Sub.nil _)⟩)
          · skip
            refine J.no rfl rfl rfl rfl ?_
            refine J.no rfl rfl rfl rfl ?_
            refine J.no rfl rfl rfl rfl ?_
            refine J.no rfl rfl rfl rfl ?_
            refine J.no rfl rfl rfl rfl ?_
            refine J.noU rfl rfl rfl ?_
            refine J.noU rfl rfl rfl ?_
            refine J.noU rfl rfl rfl ?_
            refine J.no rfl rfl rfl rfl ?_
            refine J.pick_f rfl rfl rfl ?_
            refine J.move rfl rfl ?_
            refine J.no rfl rfl rfl rfl ?_
            refine J.no rfl rfl rfl rfl ?_
            refine J.no rfl rfl rfl rfl ?_
            refine J.pick_f rfl rfl rfl ?_
            refine J.assign rfl rfl ?_
            refine J.end ?_
            refine X.then ?_
            refine T.ret ?_
            exact X.ret1 rfl (RV.tmp rfl) (fun w' hw' => by first | exact ⟨by congr 2; exact (decide_eq_false (fun q => by have q1 := q.1; unfold CV.mayL Ch.v at *; dsimp only at *; omega)).symm, hw'.sub (Sub.nil _)⟩ | exact ⟨by congr 2; exact decide_eq_decide.2 ⟨fun q => ⟨by unfold CV.mayL Ch.v at *; dsimp only at *; omega, q⟩, fun q => q.2⟩, hw'.sub (Sub.nil _)⟩)
    · skip
      refine T.seq ?_
      refine T.text [.l, .l] rfl ?_
      refine J.eql rfl rfl rfl rfl ?_
      refine J.assign rfl rfl ?_
      refine J.end ?_
      refine X.then ?_
      refine T.cond_dec rfl (fun h24 => ?_) (fun h24 => ?_)
      · skip
        refine T.text [.l, .l, .l, .l] rfl ?_
        refine J.move rfl rfl ?_
        refine J.move rfl rfl ?_
        refine J.assign rfl rfl ?_
        refine J.assign rfl rfl ?_
        refine J.end ?_
        refine X.inBlock (X.then ?_)
        refine T.seq ?_
        refine T.text [.l, .l, .l, .l, .l, .l, .l, .l, .l, .l, .l, .l, .l, .l, .l, .l, .l, .l, .l] rfl ?_
        refine J.move rfl rfl ?_
        refine J.not rfl rfl (by rw [← decide_not]) ?_
        refine J.move rfl rfl ?_
        refine J.split 47 rfl (fun h25 => ?_) (fun h25 => ?_)
        · skip
          refine J.yes rfl rfl ?_
          refine J.fieldAddr fld53_2 rfl rfl ?_
          refine J.yes rfl rfl ?_
          refine J.loadN (k := .l) trivial 1 rfl rfl agg50 (wc c.key) rfl rfl rfl ?_
          refine J.yes rfl rfl ?_
          refine J.loadN (k := .l) trivial 3 rfl rfl agg50 (wc 0) rfl rfl rfl ?_
          refine J.yes rfl rfl ?_
          refine J.eqW eqw50 rfl rfl rfl ?_
          refine J.yes rfl rfl ?_
          refine J.move rfl rfl ?_
          refine J.split 52 rfl (fun h26 => ?_) (fun h26 => ?_)
          · skip
            refine J.no rfl rfl rfl rfl ?_
            refine J.no rfl rfl rfl rfl ?_
            refine J.no rfl rfl rfl rfl ?_
            refine J.yes rfl rfl ?_
            refine J.pick_t rfl rfl rfl ?_
            refine J.pick_t rfl rfl rfl ?_
            refine J.move rfl rfl ?_
            refine J.yes rfl rfl ?_
            refine J.loadN (k := .l) trivial 1 rfl rfl agg53 (c.cells) rfl rfl rfl ?_
            refine J.yes rfl rfl ?_
            refine J.call0 (k := .l) trivial fok61 rfl rfl (fun w hw => Da.idle w c (e1.ws hw (off_nil _)) (e2.ws hw (off_nil _)) d1 d2) ?_
            refine J.yes rfl rfl ?_
            refine J.not rfl rfl (by rw [← decide_not]) ?_
            refine J.pick_t rfl rfl rfl ?_
            refine J.assign rfl rfl ?_
            refine J.end ?_
            refine X.then ?_
            refine T.ret ?_
            exact X.ret1 rfl (RV.tmp rfl) (fun w' hw' => by first | exact ⟨by congr 2; exact (decide_eq_false (fun q => by have q1 := q.1; unfold CV.mayL Ch.v at *; dsimp only at *; omega)).symm, hw'.sub (Sub.nil _)⟩ | exact ⟨by congr 2; exact decide_eq_decide.2 ⟨fun q => ⟨by unfold CV.mayL Ch.v at *; dsimp only at *; omega, q⟩, fun q => q.2⟩, hw'.sub (Sub.nil _)⟩)
          · skip
            refine J.yes rfl rfl ?_
            refine J.fieldAddr fld53_1 rfl rfl ?_
            refine J.yes rfl rfl ?_
            refine J.load1 (k := .l) trivial 1 rfl rfl one3 (by first | rfl | with_reducible exact rowN_get0 _ _ _ (by omega) | with_reducible exact rowN_get1 _ _ _ (by omega) | with_reducible exact rowN_get1s _ _ _ _ (by omega) | exact rowN_get1 _ _ _ (by omega) | exact rowN_get1s _ _ _ _ (by omega) | exact rowN_get0 _ _ _ (by omega)) rfl ?_
            refine J.yes rfl rfl ?_
            refine J.eql rfl rfl rfl rfl ?_
            refine J.yes rfl rfl ?_
            refine J.pick_f rfl rfl rfl ?_
            refine J.pick_t rfl rfl rfl ?_
            refine J.move rfl rfl ?_
            refine J.split 58 rfl (fun h27 => ?_) (fun h27 => ?_)
            · skip
              refine J.yes rfl rfl ?_
              refine J.loadN (k := .l) trivial 1 rfl rfl agg53 (c.cells) rfl rfl rfl ?_
              refine J.yes rfl rfl ?_
              refine J.call0 (k := .l) trivial fok61 rfl rfl (fun w hw => Da.idle w c (e1.ws hw (off_nil _)) (e2.ws hw (off_nil _)) d1 d2) ?_
              refine J.yes rfl rfl ?_
              refine J.not rfl rfl (by rw [← decide_not]) ?_
              refine J.pick_t rfl rfl rfl ?_
              refine J.assign rfl rfl ?_
              refine J.end ?_
              refine X.then ?_
              refine T.ret ?_
              exact X.ret1 rfl (RV.tmp rfl) (fun w' hw' => by first | exact ⟨by congr 2; exact (decide_eq_false (fun q => by have q1 := q.1; unfold CV.mayL Ch.v at *; dsimp only at *; omega)).symm, hw'.sub (Sub.nil _)⟩ | exact ⟨by congr 2; exact decide_eq_decide.2 ⟨fun q => ⟨by unfold CV.mayL Ch.v at *; dsimp only at *; omega, q⟩, fun q => q.2⟩, hw'.sub (Sub.nil _)⟩)
            · skip
              refine J.no rfl rfl rfl rfl ?_
              refine J.no rfl rfl rfl rfl ?_
              refine J.no rfl rfl rfl rfl ?_
              refine J.pick_f rfl rfl rfl ?_
              refine J.assign rfl rfl ?_
              refine J.end ?_
              refine X.then ?_
              refine T.ret ?_
              exact X.ret1 rfl (RV.tmp rfl) (fun w' hw' => by first | exact ⟨by congr 2; exact (decide_eq_false (fun q => by have q1 := q.1; unfold CV.mayL Ch.v at *; dsimp only at *; omega)).symm, hw'.sub (Sub.nil _)⟩ | exact ⟨by congr 2; exact decide_eq_decide.2 ⟨fun q => ⟨by unfold CV.mayL Ch.v at *; dsimp only at *; omega, q⟩, fun q => q.2⟩, hw'.sub (Sub.nil _)⟩)
        · skip
          refine J.no rfl rfl rfl rfl ?_
          refine J.no rfl rfl rfl rfl ?_
          refine J.no rfl rfl rfl rfl ?_
          refine J.no rfl rfl rfl rfl ?_
          refine J.no rfl rfl rfl rfl ?_
          refine J.noU rfl rfl rfl ?_
          refine J.noU rfl rfl rfl ?_
          refine J.noU rfl rfl rfl ?_
          refine J.no rfl rfl rfl rfl ?_
          refine J.pick_f rfl rfl rfl ?_
          refine J.move rfl rfl ?_
          refine J.no rfl rfl rfl rfl ?_
          refine J.no rfl rfl rfl rfl ?_
          refine J.no rfl rfl rfl rfl ?_
          refine J.pick_f rfl rfl rfl ?_
          refine J.assign rfl rfl ?_
          refine J.end ?_
          refine X.then ?_
          refine T.ret ?_
          exact X.ret1 rfl (RV.tmp rfl) (fun w' hw' => by first | exact ⟨by congr 2; exact (decide_eq_false (fun q => by have q1 := q.1; unfold CV.mayL Ch.v at *; dsimp only at *; omega)).symm, hw'.sub (Sub.nil _)⟩ | exact ⟨by congr 2; exact decide_eq_decide.2 ⟨fun q => ⟨by unfold CV.mayL Ch.v at *; dsimp only at *; omega, q⟩, fun q => q.2⟩, hw'.sub (Sub.nil _)⟩)
      · skip
        refine T.seq ?_
        refine T.seq ?_
        refine T.text [.l, .l] rfl ?_
        refine J.eql rfl rfl rfl rfl ?_
        refine J.assign rfl rfl ?_
        refine J.end ?_
        refine X.then ?_
        refine T.cond_dec rfl (fun h28 => ?_) (fun h28 => ?_)
        · skip
          refine T.skip ?_
          refine X.then ?_
          refine T.cond_dec rfl (fun h29 => ?_) (fun h29 => ?_)
          · skip
            refine T.skip ?_
            refine X.inBlock (X.then ?_)
            refine T.seq ?_
            refine T.text [.l, .l, .l, .l, .l, .l, .l, .l, .l, .l, .l, .l, .l, .l, .l, .l, .l, .l, .l] rfl ?_
            refine J.move rfl rfl ?_
            refine J.not rfl rfl (by rw [← decide_not]) ?_
            refine J.move rfl rfl ?_
            refine J.split 47 rfl (fun h30 => ?_) (fun h30 => ?_)
            · skip
              refine J.yes rfl rfl ?_
              refine J.fieldAddr fld53_2 rfl rfl ?_
              refine J.yes rfl rfl ?_
              refine J.loadN (k := .l) trivial 1 rfl rfl agg50 (wc c.key) rfl rfl rfl ?_
              refine J.yes rfl rfl ?_
              refine J.loadN (k := .l) trivial 3 rfl rfl agg50 (wc 0) rfl rfl rfl ?_
              refine J.yes rfl rfl ?_
              refine J.eqW eqw50 rfl rfl rfl ?_
              refine J.yes rfl rfl ?_
              refine J.move rfl rfl ?_
              refine J.split 52 rfl (fun h31 => ?_) (fun h31 => ?_)
              · skip
                refine J.no rfl rfl rfl rfl ?_
                refine J.no rfl rfl rfl rfl ?_
                refine J.no rfl rfl rfl rfl ?_
                refine J.yes rfl rfl ?_
                refine J.pick_t rfl rfl rfl ?_
                refine J.pick_t rfl rfl rfl ?_
                refine J.move rfl rfl ?_
                refine J.yes rfl rfl ?_
                refine J.loadN (k := .l) trivial 1 rfl rfl agg53 (c.cells) rfl rfl rfl ?_
                refine J.yes rfl rfl ?_
                refine J.call0 (k := .l) trivial fok61 rfl rfl (fun w hw => Da.idle w c (e1.ws hw (off_nil _)) (e2.ws hw (off_nil _)) d1 d2) ?_
                refine J.yes rfl rfl ?_
                refine J.not rfl rfl (by rw [← decide_not]) ?_
                refine J.pick_t rfl rfl rfl ?_
                refine J.assign rfl rfl ?_
                refine J.end ?_
                refine X.then ?_
                refine T.ret ?_
                exact X.ret1 rfl (RV.tmp rfl) (fun w' hw' => by first | exact ⟨by congr 2; exact (decide_eq_false (fun q => by have q1 := q.1; unfold CV.mayL Ch.v at *; dsimp only at *; omega)).symm, hw'.sub (Sub.nil _)⟩ | exact ⟨by congr 2; exact decide_eq_decide.2 ⟨fun q => ⟨by unfold CV.mayL Ch.v at *; dsimp only at *; omega, q⟩, fun q => q.2⟩, hw'.sub (Sub.nil _)⟩)
              · skip
                refine J.yes rfl rfl ?_
                refine J.fieldAddr fld53_1 rfl rfl ?_
                refine J.yes rfl rfl ?_
                refine J.load1 (k := .l) trivial 1 rfl rfl one3 (by first | rfl | with_reducible exact rowN_get0 _ _ _ (by omega) | with_reducible exact rowN_get1 _ _ _ (by omega) | with_reducible exact rowN_get1s _ _ _ _ (by omega) | exact rowN_get1 _ _ _ (by omega) | exact rowN_get1s _ _ _ _ (by omega) | exact rowN_get0 _ _ _ (by omega)) rfl ?_
                refine J.yes rfl rfl ?_
                refine J.eql rfl rfl rfl rfl ?_
                refine J.yes rfl rfl ?_
                refine J.pick_f rfl rfl rfl ?_
                refine J.pick_t rfl rfl rfl ?_
                refine J.move rfl rfl ?_
                refine J.split 58 rfl (fun h32 => ?_) (fun h32 => ?_)
                · skip
                  refine J.yes rfl rfl ?_
                  refine J.loadN (k := .l) trivial 1 rfl rfl agg53 (c.cells) rfl rfl rfl ?_
                  refine J.yes rfl rfl ?_
                  refine J.call0 (k := .l) trivial fok61 rfl rfl (fun w hw => Da.idle w c (e1.ws hw (off_nil _)) (e2.ws hw (off_nil _)) d1 d2) ?_
                  refine J.yes rfl rfl ?_
                  refine J.not rfl rfl (by rw [← decide_not]) ?_
                  refine J.pick_t rfl rfl rfl ?_
                  refine J.assign rfl rfl ?_
                  refine J.end ?_
                  refine X.then ?_
                  refine T.ret ?_
                  exact X.ret1 rfl (RV.tmp rfl) (fun w' hw' => by first | exact ⟨by congr 2; exact (decide_eq_false (fun q => by have q1 := q.1; unfold CV.mayL Ch.v at *; dsimp only at *; omega)).symm, hw'.sub (Sub.nil _)⟩ | exact ⟨by congr 2; exact decide_eq_decide.2 ⟨fun q => ⟨by unfold CV.mayL Ch.v at *; dsimp only at *; omega, q⟩, fun q => q.2⟩, hw'.sub (Sub.nil _)⟩)
                · skip
                  refine J.no rfl rfl rfl rfl ?_
                  refine J.no rfl rfl rfl rfl ?_
                  refine J.no rfl rfl rfl rfl ?_
                  refine J.pick_f rfl rfl rfl ?_
                  refine J.assign rfl rfl ?_
                  refine J.end ?_
                  refine X.then ?_
                  refine T.ret ?_
                  exact X.ret1 rfl (RV.tmp rfl) (fun w' hw' => by first | exact ⟨by congr 2; exact (decide_eq_false (fun q => by have q1 := q.1; unfold CV.mayL Ch.v at *; dsimp only at *; omega)).symm, hw'.sub (Sub.nil _)⟩ | exact ⟨by congr 2; exact decide_eq_decide.2 ⟨fun q => ⟨by unfold CV.mayL Ch.v at *; dsimp only at *; omega, q⟩, fun q => q.2⟩, hw'.sub (Sub.nil _)⟩)
            · skip
              refine J.no rfl rfl rfl rfl ?_
              refine J.no rfl rfl rfl rfl ?_
              refine J.no rfl rfl rfl rfl ?_
              refine J.no rfl rfl rfl rfl ?_
              refine J.no rfl rfl rfl rfl ?_
              refine J.noU rfl rfl rfl ?_
              refine J.noU rfl rfl rfl ?_
              refine J.noU rfl rfl rfl ?_
              refine J.no rfl rfl rfl rfl ?_
              refine J.pick_f rfl rfl rfl ?_
              refine J.move rfl rfl ?_
              refine J.no rfl rfl rfl rfl ?_
              refine J.no rfl rfl rfl rfl ?_
              refine J.no rfl rfl rfl rfl ?_
              refine J.pick_f rfl rfl rfl ?_
              refine J.assign rfl rfl ?_
              refine J.end ?_
              refine X.then ?_
              refine T.ret ?_
              exact X.ret1 rfl (RV.tmp rfl) (fun w' hw' => by first | exact ⟨by congr 2; exact (decide_eq_false (fun q => by have q1 := q.1; unfold CV.mayL Ch.v at *; dsimp only at *; omega)).symm, hw'.sub (Sub.nil _)⟩ | exact ⟨by congr 2; exact decide_eq_decide.2 ⟨fun q => ⟨by unfold CV.mayL Ch.v at *; dsimp only at *; omega, q⟩, fun q => q.2⟩, hw'.sub (Sub.nil _)⟩)
          · skip
            refine T.seq ?_
            refine T.text [.l] rfl ?_
            refine J.assign rfl rfl ?_
            refine J.end ?_
            refine X.then ?_
            refine T.ret ?_
            refine X.inBlock_ret (X.then_ret ?_)
            exact X.ret1 rfl (RV.tmp rfl) (fun w' hw' => by first | exact ⟨by congr 2; exact (decide_eq_false (fun q => by have q1 := q.1; unfold CV.mayL Ch.v at *; dsimp only at *; omega)).symm, hw'.sub (Sub.nil _)⟩ | exact ⟨by congr 2; exact decide_eq_decide.2 ⟨fun q => ⟨by unfold CV.mayL Ch.v at *; dsimp only at *; omega, q⟩, fun q => q.2⟩, hw'.sub (Sub.nil _)⟩)
        · skip
          refine T.text [.l, .l] rfl ?_
          refine J.eql rfl rfl rfl rfl ?_
          refine J.assign rfl rfl ?_
          refine J.end ?_
          refine X.then ?_
          refine T.cond_dec rfl (fun h33 => ?_) (fun h33 => ?_)
          · skip
            refine T.skip ?_
            refine X.inBlock (X.then ?_)
            refine T.seq ?_
            refine T.text [.l, .l, .l, .l, .l, .l, .l, .l, .l, .l, .l, .l, .l, .l, .l, .l, .l, .l, .l] rfl ?_
            refine J.move rfl rfl ?_
            refine J.not rfl rfl (by rw [← decide_not]) ?_
            refine J.move rfl rfl ?_
            refine J.split 47 rfl (fun h34 => ?_) (fun h34 => ?_)
            · skip
              refine J.yes rfl rfl ?_
              refine J.fieldAddr fld53_2 rfl rfl ?_
              refine J.yes rfl rfl ?_
              refine J.loadN (k := .l) trivial 1 rfl rfl agg50 (wc c.key) rfl rfl rfl ?_
              refine J.yes rfl rfl ?_
              refine J.loadN (k := .l) trivial 3 rfl rfl agg50 (wc 0) rfl rfl rfl ?_
              refine J.yes rfl rfl ?_
              refine J.eqW eqw50 rfl rfl rfl ?_
              refine J.yes rfl rfl ?_
              refine J.move rfl rfl ?_
              refine J.split 52 rfl (fun h35 => ?_) (fun h35 => ?_)
              · skip
                refine J.no rfl rfl rfl rfl ?_
                refine J.no rfl rfl rfl rfl ?_
                refine J.no rfl rfl rfl rfl ?_
                refine J.yes rfl rfl ?_
                refine J.pick_t rfl rfl rfl ?_
                refine J.pick_t rfl rfl rfl ?_
                refine J.move rfl rfl ?_
                refine J.yes rfl rfl ?_
                refine J.loadN (k := .l) trivial 1 rfl rfl agg53 (c.cells) rfl rfl rfl ?_
                refine J.yes rfl rfl ?_
                refine J.call0 (k := .l) trivial fok61 rfl rfl (fun w hw => Da.idle w c (e1.ws hw (off_nil _)) (e2.ws hw (off_nil _)) d1 d2) ?_
                refine J.yes rfl rfl ?_
                refine J.not rfl rfl (by rw [← decide_not]) ?_
                refine J.pick_t rfl rfl rfl ?_
                refine J.assign rfl rfl ?_
                refine J.end ?_
                refine X.then ?_
                refine T.ret ?_
                exact X.ret1 rfl (RV.tmp rfl) (fun w' hw' => by first | exact ⟨by congr 2; exact (decide_eq_false (fun q => by have q1 := q.1; unfold CV.mayL Ch.v at *; dsimp only at *; omega)).symm, hw'.sub (Sub.nil _)⟩ | exact ⟨by congr 2; exact decide_eq_decide.2 ⟨fun q => ⟨by unfold CV.mayL Ch.v at *; dsimp only at *; omega, q⟩, fun q => q.2⟩, hw'.sub (Sub.nil _)⟩)
              · skip
                refine J.yes rfl rfl ?_
                refine J.fieldAddr fld53_1 rfl rfl ?_
                refine J.yes rfl rfl ?_
                refine J.load1 (k := .l) trivial 1 rfl rfl one3 (by first | rfl | with_reducible exact rowN_get0 _ _ _ (by omega) | with_reducible exact rowN_get1 _ _ _ (by omega) | with_reducible exact rowN_get1s _ _ _ _ (by omega) | exact rowN_get1 _ _ _ (by omega) | exact rowN_get1s _ _ _ _ (by omega) | exact rowN_get0 _ _ _ (by omega)) rfl ?_
                refine J.yes rfl rfl ?_
                refine J.eql rfl rfl rfl rfl ?_
                refine J.yes rfl rfl ?_
                refine J.pick_f rfl rfl rfl ?_
                refine J.pick_t rfl rfl rfl ?_
                refine J.move rfl rfl ?_
                refine J.split 58 rfl (fun h36 => ?_) (fun h36 => ?_)
                · skip
                  refine J.yes rfl rfl ?_
                  refine J.loadN (k := .l) trivial 1 rfl rfl agg53 (c.cells) rfl rfl rfl ?_
                  refine J.yes rfl rfl ?_
                  refine J.call0 (k := .l) trivial fok61 rfl rfl (fun w hw => Da.idle w c (e1.ws hw (off_nil _)) (e2.ws hw (off_nil _)) d1 d2) ?_
                  refine J.yes rfl rfl ?_
                  refine J.not rfl rfl (by rw [← decide_not]) ?_
                  refine J.pick_t rfl rfl rfl ?_
                  refine J.assign rfl rfl ?_
                  refine J.end ?_
                  refine X.then ?_
                  refine T.ret ?_
                  exact X.ret1 rfl (RV.tmp rfl) (fun w' hw' => by first | exact ⟨by congr 2; exact (decide_eq_false (fun q => by have q1 := q.1; unfold CV.mayL Ch.v at *; dsimp only at *; omega)).symm, hw'.sub (Sub.nil _)⟩ | exact ⟨by congr 2; exact decide_eq_decide.2 ⟨fun q => ⟨by unfold CV.mayL Ch.v at *; dsimp only at *; omega, q⟩, fun q => q.2⟩, hw'.sub (Sub.nil _)⟩)
                · skip
                  refine J.no rfl rfl rfl rfl ?_
                  refine J.no rfl rfl rfl rfl ?_
                  refine J.no rfl rfl rfl rfl ?_
                  refine J.pick_f rfl rfl rfl ?_
                  refine J.assign rfl rfl ?_
                  refine J.end ?_
                  refine X.then ?_
                  refine T.ret ?_
                  exact X.ret1 rfl (RV.tmp rfl) (fun w' hw' => by first | exact ⟨by congr 2; exact (decide_eq_false (fun q => by have q1 := q.1; unfold CV.mayL Ch.v at *; dsimp only at *; omega)).symm, hw'.sub (Sub.nil _)⟩ | exact ⟨by congr 2; exact decide_eq_decide.2 ⟨fun q => ⟨by unfold CV.mayL Ch.v at *; dsimp only at *; omega, q⟩, fun q => q.2⟩, hw'.sub (Sub.nil _)⟩)
            · skip
              refine J.no rfl rfl rfl rfl ?_
              refine J.no rfl rfl rfl rfl ?_
              refine J.no rfl rfl rfl rfl ?_
              refine J.no rfl rfl rfl rfl ?_
              refine J.no rfl rfl rfl rfl ?_
              refine J.noU rfl rfl rfl ?_
              refine J.noU rfl rfl rfl ?_
              refine J.noU rfl rfl rfl ?_
              refine J.no rfl rfl rfl rfl ?_
              refine J.pick_f rfl rfl rfl ?_
              refine J.move rfl rfl ?_
              refine J.no rfl rfl rfl rfl ?_
              refine J.no rfl rfl rfl rfl ?_
              refine J.no rfl rfl rfl rfl ?_
              refine J.pick_f rfl rfl rfl ?_
              refine J.assign rfl rfl ?_
              refine J.end ?_
              refine X.then ?_
              refine T.ret ?_
              exact X.ret1 rfl (RV.tmp rfl) (fun w' hw' => by first | exact ⟨by congr 2; exact (decide_eq_false (fun q => by have q1 := q.1; unfold CV.mayL Ch.v at *; dsimp only at *; omega)).symm, hw'.sub (Sub.nil _)⟩ | exact ⟨by congr 2; exact decide_eq_decide.2 ⟨fun q => ⟨by unfold CV.mayL Ch.v at *; dsimp only at *; omega, q⟩, fun q => q.2⟩, hw'.sub (Sub.nil _)⟩)
          · skip
            refine T.seq ?_
            refine T.text [.l] rfl ?_
            refine J.assign rfl rfl ?_
            refine J.end ?_
            refine X.then ?_
            refine T.ret ?_
            refine X.inBlock_ret (X.then_ret ?_)
            exact X.ret1 rfl (RV.tmp rfl) (fun w' hw' => by first | exact ⟨by congr 2; exact (decide_eq_false (fun q => by have q1 := q.1; unfold CV.mayL Ch.v at *; dsimp only at *; omega)).symm, hw'.sub (Sub.nil _)⟩ | exact ⟨by congr 2; exact decide_eq_decide.2 ⟨fun q => ⟨by unfold CV.mayL Ch.v at *; dsimp only at *; omega, q⟩, fun q => q.2⟩, hw'.sub (Sub.nil _)⟩)

theorem form (w : World) (n : Nat) (B : List (Option Nat)) (A1 : Option Addr) (c1 : Nat) (ds : List Ch) (hA : Cs w A1 (rowC ds)) (hd : AllC w n B ds) (hl : ds.length ≤ 1000000000000) :
    Calls Tryz.prog 49 [.slice A1 ds.length c1].toArray w fun e w' => e = .returned (.int .i64 (formZ (ds.map Ch.v))) ∧ WS w [] [] w' := by
  refine calls_of_T [] 28 [] Tryz.func49 rfl Tryz.ntmps49 (by simp) (WS.refl _ _) ?_
  refine T.seq ?_
  refine T.text [.l] rfl ?_
  refine J.assign rfl rfl ?_
  refine J.end ?_
  refine X.then ?_
  refine T.seq ?_
  refine T.seq ?_
  refine T.text [.l, .l, .l] rfl ?_
  refine J.move rfl rfl ?_
  refine J.lenSl Tryz.underlying25 rfl rfl ?_
  refine J.move rfl rfl ?_
  refine J.end ?_
  refine X.then ?_
  refine T.block ?_
  refine T.loop (ι := Nat) (fun (i : Nat) => i ≤ ds.length ∧ formZ (ds.map Ch.v) = formF (prevC (ds.map Ch.v) i) ((ds.map Ch.v).drop i) ∧ (∀ j, j < i → (ds.getD j default).v.may)) (fun (i : Nat) => [(0, .slice A1 ds.length c1), (5, .slice A1 ds.length c1), (6, .int .i64 ((ds.length : Nat) : Int)), (7, .int .i64 (i : Int))]) (fun (i : Nat) => []) (fun (i : Nat) => ds.length - i) 0 ⟨Nat.zero_le _, rfl, fun j hj => by omega⟩ (by repeat (first | exact Sub.nil _ | refine Sub.cons (by first | rfl | (rw [dgs_zero]; rfl) | (rw [List.drop_length]; rfl) | (simp; done) | (congr 2; omega) | (congr 3; omega)) ?_)) (by repeat (first | exact Sub.nil _ | refine Sub.cons (by first | rfl | (rw [dgs_zero]; rfl) | (rw [List.drop_length]; rfl) | (simp; done) | (congr 2; omega) | (congr 3; omega)) ?_)) ?_
  rintro i ⟨hi, hz, hmy⟩
  refine T.seq ?_
  refine T.text [.l] rfl ?_
  refine J.lss rfl rfl rfl rfl ?_
  refine J.end ?_
  refine X.then ?_
  refine T.seq ?_
  refine T.cond_dec rfl (fun h1 => ?_) (fun h1 => ?_)
  · have hi2 : i < ds.length := by omega
    have hst := form_step (cs := ds.map Ch.v) (i := i) (by rw [List.length_map]; exact hi2)
    rw [getD_map_v ds i hi2, getD_map_v ds (i - 1) (by omega), ← hz] at hst
    refine T.skip ?_
    refine X.then ?_
    refine T.seq ?_
    refine T.block ?_
    refine T.seq ?_
    refine T.text [.l, .l, .l, .l, .l, .l] rfl ?_
    refine J.move rfl rfl ?_
    refine J.indexSlI sl25 rfl (hA.isSome (by rw [rowC_length]; omega)) rfl (by omega) (by omega) (by first | exact Int.toNat_natCast _ | rfl) rfl ?_
    refine J.loadIN (k := .l) trivial hA (off_nil _) rfl agg53 ((ds.getD i default).cells) rfl (rowC_seg ds i (by omega)) rfl ?_
    refine J.alloc 4 rfl zero53 [.int .u8 0, .int .u8 0, .int .u8 0, .int .u8 0, .int .u8 0, .int .u8 0, .int .u8 0, .int .u8 0, .int .u8 0, .int .u8 0, .int .u8 0, .int .u8 0, .int .u8 0, .int .u8 0, .int .u8 0, .int .u8 0, .int .u8 0, .int .u8 0, .int .u8 0, .int .u8 0, .int .i64 0, .int .u64 0, .int .u64 0, .int .u64 0, .int .u64 0, .int .u64 0, .int .u64 0, .int .u64 0, .int .u64 0, .int .u64 0, .int .u64 0, .int .u64 0, .int .u64 0, .slice none 0 0, .slice none 0 0] rfl rfl (fun g4 hg4 => ?_)
    refine J.assign rfl rfl ?_
    refine J.store 4 rfl rfl rfl rfl ((ds.getD i default).cells) rfl sz53 (Nat.le_of_ble_eq_true rfl) (by first | exact Ch.cells_one _) (Nat.zero_lt_succ _) trivial ((ds.getD i default).cells) rfl ?_
    refine J.end ?_
    refine X.then ?_
    refine T.seq ?_
    refine T.seq ?_
    refine T.text [.l, .l, .l] rfl ?_
    refine J.loadN (k := .l) trivial 4 rfl rfl agg53 ((ds.getD i default).cells) rfl rfl rfl ?_
    refine J.call0 (k := .l) trivial fok71 rfl rfl (fun w hw => Db.may w (ds.getD i default) ((hd.get (i := i) (by omega)).fo.cs.ws hw (off_nil _)) ((hd.get (i := i) (by omega)).fn.cs.ws hw (off_nil _)) (hd.get (i := i) (by omega)).dO (hd.get (i := i) (by omega)).dN (hd.get (i := i) (by omega)).lo (hd.get (i := i) (by omega)).ln) ?_
    refine J.not rfl rfl (by rw [← decide_not]) ?_
    refine J.end ?_
    refine X.then ?_
    refine T.cond_dec rfl (fun h2 => ?_) (fun h2 => ?_)
    · rw [if_pos h2] at hst
      refine T.seq ?_
      refine T.text [.l] rfl ?_
      refine J.assign rfl rfl ?_
      refine J.end ?_
      refine X.then ?_
      refine T.ret ?_
      refine X.then_ret (X.inBlock_ret (X.then_ret (X.then_ret (X.inBlock_ret (X.then_ret ?_)))))
      exact X.ret1 rfl (RV.tmp rfl) (fun w' hw' => by first | exact ⟨by rw [hst], hw'.sub (Sub.nil _)⟩ | exact ⟨by rw [hz4], hw'.sub (Sub.nil _)⟩)
    · have hmi := Decidable.not_not.1 h2
      rw [if_neg h2] at hst
      have hmy2 := lt_snoc hmy hmi
      refine T.skip ?_
      refine X.then ?_
      refine T.seq ?_
      refine T.draw [] [(0, .g), (1, .g), (2, .g), (3, .g), (4, .g), (5, .g), (6, .g), (7, .q), (8, .q), (9, .q), (10, .g), (11, .g)] (by kernel_rfl) (by kernel_rfl) ?_ (by repeat (first | exact Sub.nil _ | refine Sub.cons (by first | rfl | (rw [dgs_zero]; rfl) | (rw [List.drop_length]; rfl) | (simp; done) | (congr 2; omega) | (congr 3; omega)) ?_))
      refine J.move rfl rfl ?_
      refine J.gtr rfl rfl rfl rfl ?_
      refine J.move rfl rfl ?_
      refine J.split 17 rfl (fun h3 => ?_) (fun h3 => ?_)
      · skip
        refine J.yes rfl rfl ?_
        refine J.move rfl rfl ?_
        refine J.yes rfl rfl ?_
        refine J.move rfl rfl ?_
        refine J.yes rfl rfl ?_
        refine J.sub' rfl rfl rfl (by exact sub_nat _ 1 (by omega)) ?_
        refine J.yes rfl rfl ?_
        refine J.indexSlI sl25 rfl (hA.isSome (by rw [rowC_length]; omega)) rfl (by omega) (by omega) (by first | exact Int.toNat_natCast _ | rfl) rfl ?_
        refine J.yes rfl rfl ?_
        refine J.loadIN (k := .q) trivial hA (off_nil _) rfl agg53 ((ds.getD (i - 1) default).cells) rfl (rowC_seg ds (i - 1) (by omega)) rfl ?_
        refine J.yes rfl rfl ?_
        refine J.loadN (k := .q) trivial 4 rfl rfl agg53 ((ds.getD i default).cells) rfl rfl rfl ?_
        refine J.yes rfl rfl ?_
        refine J.call0 (k := .q) trivial fok59 rfl rfl (fun w hw => Da.spots w (ds.getD (i - 1) default) (ds.getD i default) (by have := (hmy (i - 1) (by omega)).kinds; unfold Ch.v at this; dsimp only at this; omega) (by have := (hmi).kinds; unfold Ch.v at this; dsimp only at this; omega)) ?_
        refine J.yes rfl rfl ?_
        refine J.geq rfl rfl rfl rfl ?_
        refine J.pick_t rfl rfl rfl ?_
        refine J.end ?_
        refine X.then ?_
        refine T.cond_dec rfl (fun h4 => ?_) (fun h4 => ?_)
        · rw [if_pos ⟨by omega, by assumption⟩] at hst
          refine T.seq ?_
          refine T.text [.l] rfl ?_
          refine J.assign rfl rfl ?_
          refine J.end ?_
          refine X.then ?_
          refine T.ret ?_
          refine X.inBlock_ret (X.then_ret (X.then_ret (X.inBlock_ret (X.then_ret ?_))))
          exact X.ret1 rfl (RV.tmp rfl) (fun w' hw' => by first | exact ⟨by rw [hst], hw'.sub (Sub.nil _)⟩ | exact ⟨by rw [hz4], hw'.sub (Sub.nil _)⟩)
        · have hz3 := hst
          rw [if_neg (fun q => by have := q.1; have := q.2; omega)] at hz3
          refine T.skip ?_
          refine X.inBlock (X.then ?_)
          refine T.text [.l, .l] rfl ?_
          refine J.add rfl rfl rfl (by first | exact add_nat _ 1 (by omega) | exact i64_ok _ (by omega) | exact rfl) ?_
          refine J.move rfl rfl ?_
          refine J.end ?_
          exact X.round (i + 1) ⟨by omega, hz3, hmy2⟩ (by first | omega | (dsimp only; omega)) (by repeat (first | exact Sub.nil _ | refine Sub.cons (by first | rfl | (rw [dgs_zero]; rfl) | (rw [List.drop_length]; rfl) | (simp; done) | (congr 2; omega) | (congr 3; omega)) ?_)) (by repeat (first | exact Sub.nil _ | refine Sub.cons (by first | rfl | (rw [dgs_zero]; rfl) | (rw [List.drop_length]; rfl) | (simp; done) | (congr 2; omega) | (congr 3; omega)) ?_))
      · have hz3 := hst
        rw [if_neg (fun q => by have := q.1; omega)] at hz3
        refine J.no rfl rfl rfl rfl ?_
        refine J.no rfl rfl rfl rfl ?_
        refine J.no rfl rfl rfl rfl ?_
        refine J.no rfl rfl rfl rfl ?_
        refine J.no rfl rfl rfl rfl ?_
        refine J.no rfl rfl rfl rfl ?_
        refine J.no rfl rfl rfl rfl ?_
        refine J.no rfl rfl rfl rfl ?_
        refine J.pick_f rfl rfl rfl ?_
        refine J.end ?_
        refine X.then ?_
        refine T.cond_false rfl ?_
        refine T.skip ?_
        refine X.inBlock (X.then ?_)
        refine T.text [.l, .l] rfl ?_
        refine J.add rfl rfl rfl (by first | exact add_nat _ 1 (by omega) | exact i64_ok _ (by omega) | exact rfl) ?_
        refine J.move rfl rfl ?_
        refine J.end ?_
        exact X.round (i + 1) ⟨by omega, hz3, hmy2⟩ (by first | omega | (dsimp only; omega)) (by repeat (first | exact Sub.nil _ | refine Sub.cons (by first | rfl | (rw [dgs_zero]; rfl) | (rw [List.drop_length]; rfl) | (simp; done) | (congr 2; omega) | (congr 3; omega)) ?_)) (by repeat (first | exact Sub.nil _ | refine Sub.cons (by first | rfl | (rw [dgs_zero]; rfl) | (rw [List.drop_length]; rfl) | (simp; done) | (congr 2; omega) | (congr 3; omega)) ?_))
  · obtain rfl : i = ds.length := by omega
    have hz4 := hz
    have hfe := form_end (ds.map Ch.v)
    rw [List.length_map] at hfe
    rw [hfe] at hz4
    refine T.exit ?_
    refine X.then_exit (X.then_exit (X.inBlock_eq (X.then ?_)))
    refine T.seq ?_
    refine T.text [.l] rfl ?_
    refine J.assign rfl rfl ?_
    refine J.end ?_
    refine X.then ?_
    refine T.ret ?_
    exact X.ret1 rfl (RV.tmp rfl) (fun w' hw' => by first | exact ⟨by rw [hst], hw'.sub (Sub.nil _)⟩ | exact ⟨by rw [hz4], hw'.sub (Sub.nil _)⟩)

theorem Turn (w : World) (n : Nat) (B : List (Option Nat)) (A1 : Option Addr) (c1 : Nat) (ds : List Ch) (hn : n ≤ w.heap.size) (hB : ∀ g, some g ∈ B → g < w.heap.size) (hA : Cs w A1 (rowC ds)) (hd : AllC w n B ds) (hl : ds.length ≤ 1000000000) :
    Calls Tryz.prog 28 [.slice A1 ds.length c1].toArray w fun e w' => ∃ q : List Ch × RowIx, (q.1.map Ch.v = ds.map (fun c => c.v.turn) ∧ q.2.Ok 35 q.1.length ∧ Fit w' n B (hdOf q.2.id) (rowC q.1) ∧ AllC w' n B q.1) ∧ e = .returned (q.2.val q.1.length) ∧ WS w [] [] w' := by
  refine calls_of_T [] 32 [] Tryz.func28 rfl Tryz.ntmps28 (by simp) (WS.refl _ _) ?_
  refine T.seq ?_
  refine T.text [.l] rfl ?_
  refine J.assign rfl rfl ?_
  refine J.end ?_
  refine X.then ?_
  refine T.seq ?_
  refine T.addNil 3 53 ?_
  refine T.text [.l] rfl ?_
  refine J.assign rfl rfl ?_
  refine J.end ?_
  refine X.then ?_
  refine T.seq ?_
  refine T.seq ?_
  refine T.text [.l, .l, .l] rfl ?_
  refine J.move rfl rfl ?_
  refine J.lenSl Tryz.underlying25 rfl rfl ?_
  refine J.move rfl rfl ?_
  refine J.end ?_
  refine X.then ?_
  refine T.block ?_
  refine T.snap [(3, ⟨none, 53, []⟩)] (by repeat (first | exact Sub.nil _ | refine Sub.cons (by first | rfl | (rw [dgs_zero]; rfl) | (rw [List.drop_length]; rfl) | (simp; done) | (congr 2; omega) | (congr 3; omega)) ?_ | exact Sub.refl _ | refine sub_snap ?_ rfl)) rfl (fun Wl1 hWWl1 => ?_)
  have kpWl1 := (keep_base (B0 := B) (l1 := [(3, ⟨none, 53, []⟩)]) hn (fun g hg => by cases hg) hWWl1 (by repeat (first | exact Sub.nil _ | refine Sub.cons (by first | rfl | (rw [dgs_zero]; rfl) | (rw [List.drop_length]; rfl) | (simp; done) | (congr 2; omega) | (congr 3; omega)) ?_ | exact Sub.refl _ | refine sub_snap ?_ rfl)) rfl)
  have hd := hd.keep kpWl1
  have hVWl1 := hWWl1.sub (Sub.nil _)
  refine T.loop (ι := World × Nat × List Ch × RowIx) (fun ((W, i, zs, r) : World × Nat × List Ch × RowIx) => i ≤ ds.length ∧ zs.map Ch.v = (ds.take i).map (fun c => c.v.turn) ∧ r.Ok 35 zs.length ∧ WS w [] [] W ∧ AllC W n (B ++ [r.id]) ds ∧ AllC W n (B ++ [r.id]) zs) (fun ((W, i, zs, r) : World × Nat × List Ch × RowIx) => [(0, .slice A1 ds.length c1), (2, .slice none 0 0), (6, .slice A1 ds.length c1), (7, .int .i64 ((ds.length : Nat) : Int)), (8, .int .i64 (i : Int)), (3, r.val zs.length)]) (fun ((W, i, zs, r) : World × Nat × List Ch × RowIx) => ((3, r.ent 53 (rowC zs)) :: snapL W w.heap.size [r.id])) (fun ((W, i, zs, r) : World × Nat × List Ch × RowIx) => ds.length - i) ⟨Wl1, 0, [], RowIx.nil⟩ ⟨Nat.zero_le _, rfl, RowIx.nil_ok 35, hVWl1, hd, AllC.nil⟩ (by repeat (first | exact Sub.nil _ | refine Sub.cons (by first | rfl | (rw [dgs_zero]; rfl) | (rw [List.drop_length]; rfl) | (simp; done) | (congr 2; omega) | (congr 3; omega)) ?_ | exact Sub.refl _ | refine sub_snap ?_ rfl)) (by repeat (first | exact Sub.nil _ | refine Sub.cons (by first | rfl | (rw [dgs_zero]; rfl) | (rw [List.drop_length]; rfl) | (simp; done) | (congr 2; omega) | (congr 3; omega)) ?_ | exact Sub.refl _ | refine sub_snap ?_ rfl)) ?_
  rintro ⟨W, i, zs, r⟩ ⟨hi, hm, hr, hV, hd, hz⟩
  try dsimp only at *
  refine T.seq ?_
  refine T.text [.l] rfl ?_
  refine J.lss rfl rfl rfl rfl ?_
  refine J.end ?_
  refine X.then ?_
  refine T.seq ?_
  refine T.cond_dec rfl (fun h2 => ?_) (fun h2 => ?_)
  · have hi2 : i < ds.length := by omega
    refine T.skip ?_
    refine X.then ?_
    refine T.seq ?_
    refine T.block ?_
    refine T.seq ?_
    refine T.text [.l, .l, .l, .l] rfl ?_
    refine J.indexSlI sl25 rfl (hA.isSome (by rw [rowC_length]; omega)) rfl (by omega) (by omega) (by first | exact Int.toNat_natCast _ | rfl) rfl ?_
    refine J.loadIN (k := .l) trivial hA (off_nil _) rfl agg53 ((ds.getD i default).cells) rfl (rowC_seg ds i (by omega)) rfl ?_
    refine J.alloc 5 rfl zero53 [.int .u8 0, .int .u8 0, .int .u8 0, .int .u8 0, .int .u8 0, .int .u8 0, .int .u8 0, .int .u8 0, .int .u8 0, .int .u8 0, .int .u8 0, .int .u8 0, .int .u8 0, .int .u8 0, .int .u8 0, .int .u8 0, .int .u8 0, .int .u8 0, .int .u8 0, .int .u8 0, .int .i64 0, .int .u64 0, .int .u64 0, .int .u64 0, .int .u64 0, .int .u64 0, .int .u64 0, .int .u64 0, .int .u64 0, .int .u64 0, .int .u64 0, .int .u64 0, .int .u64 0, .slice none 0 0, .slice none 0 0] rfl rfl (fun g5 hg5 => ?_)
    refine J.store 5 rfl rfl rfl rfl ((ds.getD i default).cells) rfl sz53 (Nat.le_of_ble_eq_true rfl) (by first | exact Ch.cells_one _) (Nat.zero_lt_succ _) trivial ((ds.getD i default).cells) rfl ?_
    refine J.end ?_
    refine X.then ?_
    refine T.seq ?_
    refine T.text [.l, .l, .l] rfl ?_
    refine J.loadN (k := .l) trivial 5 rfl rfl agg53 ((ds.getD i default).cells) rfl rfl rfl ?_
    refine J.callB fok58 rfl rfl _ _ [(3, r.ent 53 (rowC zs)), (5, ⟨some g5, 53, ((ds.getD i default).cells)⟩)] (by repeat (first | exact Sub.nil _ | refine Sub.cons (by first | rfl | (rw [dgs_zero]; rfl) | (rw [List.drop_length]; rfl) | (simp; done) | (congr 2; omega) | (congr 3; omega)) ?_ | exact Sub.refl _ | refine sub_snap ?_ rfl)) rfl (fun _ _ => Sub.nil _) (fun w hw => Da.own w n (B ++ ids [(3, r.ent 53 (rowC zs)), (5, ⟨some g5, 53, ((ds.getD i default).cells)⟩)]) _ (busy_lt (l1 := [(3, r.ent 53 (rowC zs)), (5, ⟨some g5, 53, ((ds.getD i default).cells)⟩)]) hB hw (by repeat (first | exact Sub.nil _ | refine Sub.cons (by first | rfl | (rw [dgs_zero]; rfl) | (rw [List.drop_length]; rfl) | (simp; done) | (congr 2; omega) | (congr 3; omega)) ?_ | exact Sub.refl _ | refine sub_snap ?_ rfl)) rfl) ((hd.keep (keep_snap (I := [r.id]) (B0 := B) (l1 := [(3, r.ent 53 (rowC zs)), (5, ⟨some g5, 53, ((ds.getD i default).cells)⟩)]) hV hn (fun g hg => by cases hg) hw (by repeat (first | exact Sub.refl _ | refine sub_snap ?_ rfl)) (by repeat (first | exact Sub.nil _ | refine Sub.cons (by first | rfl | (rw [dgs_zero]; rfl) | (rw [List.drop_length]; rfl) | (simp; done) | (congr 2; omega) | (congr 3; omega)) ?_ | exact Sub.refl _ | refine sub_snap ?_ rfl)) rfl)).get (i := i) (by omega))) (fun i13 W13 hP13 hW13 => ?_)
    obtain ⟨hv13, hc13⟩ := hP13
    have kpW13 := (keep_snap (I := [r.id]) (B0 := B) (l1 := [(3, r.ent 53 (rowC zs)), (5, ⟨some g5, 53, ((ds.getD i default).cells)⟩)]) hV hn (fun g hg => by cases hg) hW13 (by repeat (first | exact Sub.refl _ | refine sub_snap ?_ rfl)) (by repeat (first | exact Sub.nil _ | refine Sub.cons (by first | rfl | (rw [dgs_zero]; rfl) | (rw [List.drop_length]; rfl) | (simp; done) | (congr 2; omega) | (congr 3; omega)) ?_ | exact Sub.refl _ | refine sub_snap ?_ rfl)) rfl)
    have hd := hd.keep kpW13
    have hz := hz.keep kpW13
    have hVW13 := hW13.sub (Sub.nil _)
    refine J.store 5 rfl rfl rfl rfl (i13.cells) rfl sz53 (Nat.le_of_ble_eq_true rfl) (by first | exact Ch.cells_one _) (Nat.zero_lt_succ _) trivial (i13.cells) rfl ?_
    refine J.end ?_
    refine X.then ?_
    refine T.seq ?_
    refine T.text [.l, .l, .l, .l, .l, .l, .l, .l, .l, .l, .l, .l, .l, .l, .l, .l] rfl ?_
    refine J.fieldAddr fld53_4 rfl rfl ?_
    refine J.loadN (k := .l) trivial 5 rfl rfl agg50 (wc i13.new) rfl rfl rfl ?_
    refine J.fieldAddr fld53_3 rfl rfl ?_
    refine J.loadN (k := .l) trivial 5 rfl rfl agg50 (wc i13.old) rfl rfl rfl ?_
    refine J.fieldAddr fld53_6 rfl rfl ?_
    refine J.load1 (k := .l) trivial 5 rfl rfl one51 (by first | rfl | with_reducible exact rowN_get0 _ _ _ (by omega) | with_reducible exact rowN_get1 _ _ _ (by omega) | with_reducible exact rowN_get1s _ _ _ _ (by omega) | exact rowN_get1 _ _ _ (by omega) | exact rowN_get1s _ _ _ _ (by omega) | exact rowN_get0 _ _ _ (by omega)) rfl ?_
    refine J.fieldAddr fld53_5 rfl rfl ?_
    refine J.load1 (k := .l) trivial 5 rfl rfl one51 (by first | rfl | with_reducible exact rowN_get0 _ _ _ (by omega) | with_reducible exact rowN_get1 _ _ _ (by omega) | with_reducible exact rowN_get1s _ _ _ _ (by omega) | exact rowN_get1 _ _ _ (by omega) | exact rowN_get1s _ _ _ _ (by omega) | exact rowN_get0 _ _ _ (by omega)) rfl ?_
    refine J.fieldAddr fld53_3 rfl rfl ?_
    refine J.store 5 rfl rfl rfl rfl (wc i13.new) rfl sz50 (by first | decide | exact Nat.le_refl _ | exact Nat.le_of_ble_eq_true rfl | (simp [rowN]; done) | (simp [rowN]; omega)) (by first | exact rowN_one _ _ | (simp; done) | (intro u hu; simp at hu; subst hu; rfl) | (intro u hu; simp at hu; rcases hu with rfl | rfl <;> rfl)) (by first | decide | exact Nat.zero_lt_succ _ | simp) trivial _ rfl ?_
    refine J.fieldAddr fld53_4 rfl rfl ?_
    refine J.store 5 rfl rfl rfl rfl (wc i13.old) rfl sz50 (by first | decide | exact Nat.le_refl _ | exact Nat.le_of_ble_eq_true rfl | (simp [rowN]; done) | (simp [rowN]; omega)) (by first | exact rowN_one _ _ | (simp; done) | (intro u hu; simp at hu; subst hu; rfl) | (intro u hu; simp at hu; rcases hu with rfl | rfl <;> rfl)) (by first | decide | exact Nat.zero_lt_succ _ | simp) trivial _ rfl ?_
    refine J.fieldAddr fld53_5 rfl rfl ?_
    refine J.store 5 rfl rfl rfl rfl [_] rfl sz51 (by first | decide | exact Nat.le_refl _ | exact Nat.le_of_ble_eq_true rfl | (simp [rowN]; done) | (simp [rowN]; omega)) (by first | exact rowN_one _ _ | (simp; done) | (intro u hu; simp at hu; subst hu; rfl) | (intro u hu; simp at hu; rcases hu with rfl | rfl <;> rfl)) (by first | decide | exact Nat.zero_lt_succ _ | simp) trivial _ rfl ?_
    refine J.fieldAddr fld53_6 rfl rfl ?_
    refine J.store 5 rfl rfl rfl rfl [_] rfl sz51 (by first | decide | exact Nat.le_refl _ | exact Nat.le_of_ble_eq_true rfl | (simp [rowN]; done) | (simp [rowN]; omega)) (by first | exact rowN_one _ _ | (simp; done) | (intro u hu; simp at hu; subst hu; rfl) | (intro u hu; simp at hu; rcases hu with rfl | rfl <;> rfl)) (by first | decide | exact Nat.zero_lt_succ _ | simp) trivial _ rfl ?_
    refine J.end ?_
    refine X.asE 5 ⟨some g5, 53, i13.turn.cells⟩ rfl (by rfl) ?_
    refine X.then ?_
    refine T.text [.l, .l, .l, .l, .l] rfl ?_
    refine J.move rfl rfl ?_
    refine J.loadN (k := .l) trivial 5 rfl rfl agg53 (i13.turn.cells) rfl rfl rfl ?_
    refine J.lit1 28 rfl Tryz.underlying25 el53 (by decide) rfl (i13.turn.cells) rfl rfl rfl (fun g28 hg28 => ?_)
    refine J.append 3 rfl Tryz.underlying25 el53 rfl hr (rowC_length zs) rfl rfl rfl (fun w hw => (hw.blkCs (k := 28) rfl)) (Ch.cells_one _) (by have := congrArg List.length hm; simp at this; omega) (by have := congrArg List.length hm; simp at this; unfold maxLen; omega) rfl (zs ++ [i13.turn]).length (by rw [List.length_append]; rfl) (rowC (zs ++ [i13.turn])) (rowC_snoc _ _).symm (fun r29 hr29 => ?_)
    refine J.assign rfl rfl ?_
    refine J.end ?_
    refine X.inBlock (X.then ?_)
    refine T.text [.l, .l] rfl ?_
    refine J.add rfl rfl rfl (by first | exact add_nat _ 1 (by omega) | exact i64_ok _ (by omega) | exact rfl) ?_
    refine J.move rfl rfl ?_
    refine J.end ?_
    refine X.snap [(3, r29.ent 53 (rowC (zs ++ [i13.turn])))] (by repeat (first | exact Sub.nil _ | refine Sub.cons (by first | rfl | (rw [dgs_zero]; rfl) | (rw [List.drop_length]; rfl) | (simp; done) | (congr 2; omega) | (congr 3; omega)) ?_ | exact Sub.refl _ | refine sub_snap ?_ rfl)) rfl (fun Wx3 hWWx3 => ?_)
    have kpWx3 := (keep_snap (I := [r.id, some g5]) (B0 := B) (l1 := [(3, r29.ent 53 (rowC (zs ++ [i13.turn])))]) hVW13 hn (fun g hg => by cases hg) hWWx3 (by repeat (first | exact Sub.refl _ | refine sub_snap ?_ rfl)) (by repeat (first | exact Sub.nil _ | refine Sub.cons (by first | rfl | (rw [dgs_zero]; rfl) | (rw [List.drop_length]; rfl) | (simp; done) | (congr 2; omega) | (congr 3; omega)) ?_ | exact Sub.refl _ | refine sub_snap ?_ rfl)) rfl)
    have hd := hd.keep kpWx3
    have hz := hz.keep kpWx3
    have hc13 := hc13.keep kpWx3
    have hVWx3 := hWWx3.sub (Sub.nil _)
    exact X.round ⟨Wx3, (i + 1), (zs ++ [i13.turn]), r29⟩ ⟨by show i + 1 ≤ _; omega, map_snoc_v (f := CV.turn) hm hi2 (by rw [Ch.turn_v, hv13]), hr29, hVWx3, hd, hz.snoc hc13.turn⟩ (by first | omega | (dsimp only; omega)) (by repeat (first | exact Sub.nil _ | refine Sub.cons (by first | rfl | (rw [dgs_zero]; rfl) | (rw [List.drop_length]; rfl) | (simp; done) | (congr 2; omega) | (congr 3; omega)) ?_ | exact Sub.refl _ | refine sub_snap ?_ rfl)) (by repeat (first | exact Sub.nil _ | refine Sub.cons (by first | rfl | (rw [dgs_zero]; rfl) | (rw [List.drop_length]; rfl) | (simp; done) | (congr 2; omega) | (congr 3; omega)) ?_ | exact Sub.refl _ | refine sub_snap ?_ rfl))
  · obtain rfl : i = ds.length := by omega
    rw [List.take_length] at hm
    refine T.exit ?_
    refine X.then_exit (X.then_exit (X.inBlock_eq (X.then ?_)))
    refine T.seq ?_
    refine T.text [.l, .l] rfl ?_
    refine J.move rfl rfl ?_
    refine J.assign rfl rfl ?_
    refine J.end ?_
    refine X.then ?_
    refine T.ret ?_
    exact X.ret1 rfl (RV.tmp rfl) (fun w' hw' => ⟨(zs, r), ⟨hm, hr, fit_row hw' (j := 3) rfl (fun g h => ⟨hB g h, fun q => by cases q⟩), hz.keep (((keep_snap (I := [r.id]) (B0 := B) (l1 := []) hV hn (fun g hg => by cases hg) hw' (by repeat (first | exact Sub.refl _ | refine sub_snap ?_ rfl)) (Sub.nil _) rfl)).le (fun o h => List.mem_append_left _ h))⟩, rfl, hw'.sub (Sub.nil _)⟩)
end Go.Proofs.YtlllcafedekojaaGreatDoor.Db
