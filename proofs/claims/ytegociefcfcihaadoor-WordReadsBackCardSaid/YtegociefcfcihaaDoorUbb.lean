/-
  Texts that the statement stands on, one behind the other: plain lemmas and walks of functions.
  No condition.
-/
import Derived.Scope
import Derived.Laws.Concat
import Derived.ChangeSlices
import Derived.WideShapes
import Derived.ProofKit
import Derived.OpenShut
import Derived.Below
import Derived.Test.YtegociefcfcihaaDoorUba
set_option linter.unusedVariables false
namespace Go.Fw
open Go
section
variable {P : Program} {ops : Array Oper} {F : Act → World → Prop} {w0 w w' : World} {M : List Nat} {N : Nat} {L : List (Oper × K)} {σ : List (Nat × Value)} {l lS : List (Nat × Ent)} {d : Option Tmp} {ty : TypeId} {p : String} {af : Array Edge} {x y : Operand} {v z : Value} {t : TypeId} {kd : IntKind} {k : K}

theorem WS.one {g : Nat} {cs : List Value} (h : Ent.At w ⟨some g, t, cs⟩) : WS w [g] [(0, ⟨some g, t, cs⟩)] w := by
  refine ⟨rfl, rfl, rfl, Nat.le_refl _, fun _ _ _ => rfl, fun j e he => ?_, fun j j' e e' g' h1 h2 hne => ?_, fun j e g' he hg => ?_⟩
  · rw [lk_cons] at he
    split at he
    · simp at he; subst he; exact h
    · simp [lk] at he
  · rw [lk_cons] at h1 h2
    split at h1 <;> split at h2
    · omega
    · simp [lk] at h2
    · simp [lk] at h1
    · simp [lk] at h1
  · rw [lk_cons] at he
    split at he
    · simp at he; subst he; simp at hg; subst hg; exact .inr (by simp)
    · simp [lk] at he
/-- A call that turns one object. -/
theorem J.callMut (h : Nat) {g : Nat} {cs cs' : List Value} {f : FuncId} {xs : Array Operand} {tys : Array TypeId} {args : List Value} (hl : lk l h = some ⟨some g, t, cs⟩) (hh : lk lS h = none) (hf : FnOk P f) (hx : evs σ xs.toList = some args) (hd : okd N d)
    (spec : ∀ w, WS w0 M l w → Calls P f args.toArray w fun e w' => e = .returned v ∧ WS w [g] [(0, ⟨some g, t, cs'⟩)] w')
    (hJ : J P ops F w0 M N lS L (putd d v σ) ((h, ⟨some g, t, cs'⟩) :: l)) :
    J P ops F w0 M N lS ((⟨d, .call ⟨.value (.func f), xs, tys⟩, ty, p, af, none⟩, .l) :: L) σ l :=
  J.call hf hx hd (ι := Unit) (fun _ => True) (fun _ => v) [g] (fun _ => [(h, ⟨some g, t, cs'⟩)]) (fun w hw => (spec w hw).mono fun e w' ⟨he, h2⟩ => ⟨(), trivial, he, h2.only 0 h rfl⟩)
    (fun _ _ q hq => by
      simp at hq; subst hq
      exact ⟨h, _, ⟨some q, t, cs'⟩, hl, rfl, by simp [lk]⟩)
    (fun i j e he => by
      rw [lk_cons] at he
      split at he
      · rename_i hk; subst hk; exact hh
      · simp [lk] at he) (fun _ _ => hJ)

/-! ### Rows of words handed back -/
def RowsWPost (w : World) (t : TypeId) (φ : List Nat → Prop) (e : Ending) (w' : World) : Prop :=
  ∃ zs : List Nat, φ zs ∧ ∃ r : RowIx, r.Ok 4 zs.length ∧ e = .returned (r.val zs.length) ∧ WS w [] [(0, r.ent t (rowW zs))] w'
theorem RowsWPost.mk' {φ : List Nat → Prop} {e : Ending} (zs : List Nat) (hz : φ zs) (r : RowIx) (hr : r.Ok 4 zs.length) (he : e = .returned (r.val zs.length)) (hw : WS w [] l w') (k : Nat) (hk : lk l k = some (r.ent t (rowW zs))) :
    RowsWPost w t φ e w' := ⟨zs, hz, r, hr, he, hw.only k 0 hk⟩
theorem J.callRowW (h : Nat) (hh : lk lS h = none) {f : FuncId} (hf : FnOk P f) {xs : Array Operand} {tys : Array TypeId} {args : List Value} (hx : evs σ xs.toList = some args) (hd : okd N d) {φ : List Nat → Prop}
    (spec : ∀ w, WS w0 M l w → Calls P f args.toArray w (RowsWPost w t φ))
    (hJ : ∀ (zs : List Nat) (r : RowIx), φ zs → r.Ok 4 zs.length → J P ops F w0 M N lS L (putd d (r.val zs.length) σ) ((h, r.ent t (rowW zs)) :: l)) :
    J P ops F w0 M N lS ((⟨d, .call ⟨.value (.func f), xs, tys⟩, ty, p, af, none⟩, .l) :: L) σ l :=
  J.call hf hx hd (ι := List Nat × RowIx) (fun i => φ i.1 ∧ i.2.Ok 4 i.1.length) (fun i => i.2.val i.1.length) [] (fun i => [(h, i.2.ent t (rowW i.1))])
    (fun w hw => (spec w hw).mono fun e w' ⟨zs, hz, r, hr, he, h2⟩ => ⟨(zs, r), ⟨hz, hr⟩, he, h2.rename h⟩) (fun _ _ g hg => by simp at hg) (fun i k e he => by
      rw [lk_cons] at he
      split at he
      · rename_i hk; subst hk; exact hh
      · simp [lk] at he) (fun i hi => hJ i.1 i.2 hi.1 hi.2)

/-- A fresh object handed back. -/
def NewPost (w : World) (t : TypeId) (cs : List Value) (e : Ending) (w' : World) : Prop := ∃ g, w.heap.size ≤ g ∧ e = .returned (.pointer (some ⟨g, 0, none⟩)) ∧ WS w [] [(0, ⟨some g, t, cs⟩)] w'
theorem J.callNew (h : Nat) (hh : lk lS h = none) {cs : List Value} {f : FuncId} (hf : FnOk P f) {xs : Array Operand} {tys : Array TypeId} {args : List Value} (hx : evs σ xs.toList = some args) (hd : okd N d)
    (spec : ∀ w, WS w0 M l w → Calls P f args.toArray w (NewPost w t cs))
    (hJ : ∀ g, w0.heap.size ≤ g → J P ops F w0 M N lS L (putd d (.pointer (some ⟨g, 0, none⟩)) σ) ((h, ⟨some g, t, cs⟩) :: l)) :
    J P ops F w0 M N lS ((⟨d, .call ⟨.value (.func f), xs, tys⟩, ty, p, af, none⟩, .l) :: L) σ l :=
  J.call hf hx hd (ι := Nat) (fun g => w0.heap.size ≤ g) (fun g => .pointer (some ⟨g, 0, none⟩)) [] (fun g => [(h, ⟨some g, t, cs⟩)])
    (fun w hw => (spec w hw).mono fun e w' ⟨g, hg, he, h2⟩ => ⟨g, Nat.le_trans hw.size hg, he, h2.rename h⟩) (fun _ _ g hg => by simp at hg) (fun i k e he => by
      rw [lk_cons] at he
      split at he
      · rename_i hk; subst hk; exact hh
      · simp [lk] at he) (fun i hi => hJ i hi)

/-! ### Reading a block that lay there -/
theorem J.loadB1 (hk : nog k) {g o : Nat} {cs : List Value} (hc : Cs w0 (some ⟨g, 0, none⟩) cs) (ho : Off M (some ⟨g, 0, none⟩)) (hx : ev σ x = some (.pointer (some ⟨g, o, none⟩))) (ht : OneT P t) (hv : cs[o]? = some v) (hd : okd N d)
    (hJ : J P ops F w0 M N lS L (putd d v σ) l) : J P ops F w0 M N lS ((⟨d, .load t x, ty, p, af, none⟩, k) :: L) σ l :=
  J.loadI1 hk hc ho (i := o) (by rw [hx]; simp [add_lit']) ht hv hd hJ
theorem J.loadBW (hk : nog k) {g o : Nat} {cs : List Value} (hc : Cs w0 (some ⟨g, 0, none⟩) cs) (ho : Off M (some ⟨g, 0, none⟩)) (hx : ev σ x = some (.pointer (some ⟨g, o, none⟩))) (ht : AggT P t 4) {u : Nat} (hv : (cs.drop o).take 4 = wc u) (hd : okd N d)
    (hJ : J P ops F w0 M N lS L (putd d (W u) σ) l) : J P ops F w0 M N lS ((⟨d, .load t x, ty, p, af, none⟩, k) :: L) σ l :=
  J.loadIW hk hc ho (i := o) (by rw [hx]; simp [add_lit']) ht hv hd hJ
end

/-! ### Stacks -/
abbrev w64 (n : Int) : Int := IntKind.i64.wrap n
def ix (n : Int) : Nat := (n % 1024).toNat
theorem ix_lt (n : Int) : ix n < 1024 := by unfold ix; omega
theorem ix_cast (n : Int) : ((ix n : Nat) : Int) = n % 1024 := by unfold ix; omega
theorem w64_mod (n : Int) : w64 n % 1024 = n % 1024 := by unfold w64; rw [IntKind.wrap_i64]; omega
theorem ix_w64 (n : Int) : ix (w64 n) = ix n := by unfold ix; rw [w64_mod]
theorem w64_range (n : Int) : -9223372036854775808 ≤ w64 n ∧ w64 n ≤ 9223372036854775807 := by unfold w64; rw [IntKind.wrap_i64]; omega
theorem w64_id {n : Int} (h : -9223372036854775808 ≤ n ∧ n ≤ 9223372036854775807) : w64 n = n := i64_ok n h
theorem ix_eq {a b : Int} (h : a % 1024 = b % 1024) : ix a = ix b := by unfold ix; rw [h]
/-- The cells of a stack: its words, its number. -/
abbrev stkM (S : List Nat) (n : Int) : List Value := rowW S ++ [.int .i64 n]
abbrev stkR (S : List Nat) (n : Int) : List Value := [.int .i64 n] ++ rowW S
theorem stkM_n {S : List Nat} {n : Int} (h : S.length = 1024) : (stkM S n)[0 + 4096]? = some (.int .i64 n) := by
  have hl := rowW_length S
  rw [List.getElem?_append_right (by omega)]
  simp [hl, h]
theorem stkM_w {S : List Nat} {n : Int} (h : S.length = 1024) (i : Int) : ((stkM S n).drop (0 + 0 + (i % 1024).toNat * 4)).take 4 = wc (S.getD (ix i) 0) := by
  rw [Nat.add_zero, Nat.zero_add]
  exact rowW_segs S _ _ (by rw [h]; exact ix_lt i)
theorem stkM_put {S : List Nat} {n : Int} (h : S.length = 1024) (i : Int) (x : Nat) : put (stkM S n) (0 + 0 + (i % 1024).toNat * 4) (wc x) = stkM (S.set (ix i) x) n := by
  rw [Nat.add_zero, Nat.zero_add]
  exact putW S _ _ x (by rw [h]; exact ix_lt i)
theorem stkM_len {S : List Nat} {n : Int} (h : S.length = 1024) : (stkM S n).length = 4097 := by
  rw [List.length_append, rowW_length, h]; rfl
theorem stkM_putn {S : List Nat} {n m : Int} (h : S.length = 1024) : put (stkM S n) (0 + 4096) [.int .i64 m] = stkM S m := by
  have hl := rowW_length S
  rw [put_one _ _ _ (by rw [stkM_len h]; omega), List.set_append_right _ _ (by omega), hl, h]
  rfl
theorem stkR_w {S : List Nat} {n : Int} (h : S.length = 1024) (i : Int) : ((stkR S n).drop (0 + 1 + (i % 1024).toNat * 4)).take 4 = wc (S.getD (ix i) 0) := by
  rw [Nat.zero_add]
  exact rowW_segb [.int .i64 n] S _ (by rw [h]; exact ix_lt i)
theorem stkR_put {S : List Nat} {n : Int} (h : S.length = 1024) (i : Int) (x : Nat) : put (stkR S n) (0 + 1 + (i % 1024).toNat * 4) (wc x) = stkR (S.set (ix i) x) n := by
  rw [Nat.zero_add]
  exact putWb [.int .i64 n] S _ x (by rw [h]; exact ix_lt i)
theorem stkR_len {S : List Nat} {n : Int} (h : S.length = 1024) : (stkR S n).length = 4097 := by
  rw [List.length_append, rowW_length, h]; rfl
theorem stkR_putn {S : List Nat} {n m : Int} (h : S.length = 1024) : put (stkR S n) (0 + 0) [.int .i64 m] = stkR S m := by
  rw [put_one _ _ _ (by rw [stkR_len h]; omega)]; rfl
/-- The n-th and the m-th change places. -/
def swp (S : List Nat) (i j : Nat) : List Nat := (S.set i (S.getD j 0)).set j (S.getD i 0)
theorem swp_length (S : List Nat) (i j : Nat) : (swp S i j).length = S.length := by simp [swp]
theorem and1023' (n : Int) : bits .and .i64 (w64 n) 1023 = n % 1024 := by rw [and1023, w64_mod]
/-- What Words tells. -/
def wordsS (S : List Nat) (n : Int) : List Nat := (List.range (min (max n 0) 1024).toNat).map fun k => S.getD (ix ((if n > 1024 then n - 1024 else 0) + (k : Nat))) 0
theorem wordsS_length (S : List Nat) (n : Int) : (wordsS S n).length = (min (max n 0) 1024).toNat := by simp [wordsS]
theorem wordsS_get (S : List Nat) (n : Int) (k : Nat) (h : k < (min (max n 0) 1024).toNat) : (wordsS S n).getD k 0 = S.getD (ix ((if n > 1024 then n - 1024 else 0) + (k : Nat))) 0 := by simp [wordsS, List.getD, h]
theorem wordsS_of {S ys : List Nat} {n : Int} (hl : ys.length = (min (max n 0) 1024).toNat) (h : ∀ k, k < ys.length → ys.getD k 0 = S.getD (ix ((if n > 1024 then n - 1024 else 0) + (k : Nat))) 0) : ys = wordsS S n := by
  apply List.ext_getElem (by rw [wordsS_length, hl])
  intro i h1 h2
  have e1 : ys.getD i 0 = ys[i] := by simp [List.getD, h1]
  have e2 : (wordsS S n).getD i 0 = (wordsS S n)[i] := by simp [List.getD, h2]
  rw [← e1, ← e2, h i h1, wordsS_get _ _ _ (by omega)]
def pushS (S : List Nat) (n : Int) (x : Nat) : List Nat := if 1024 ≤ n then S else S.set (ix n) x
def pushN (n : Int) : Int := if 1024 ≤ n then n else n + 1
def pushE (n : Int) : Nat := if 1024 ≤ n then 91 else 0
theorem pushS_length {S : List Nat} (h : S.length = 1024) (n : Int) (x : Nat) : (pushS S n x).length = 1024 := by unfold pushS; split <;> simp [h]
def popN (n : Int) : Int := if n < 1 then n else n - 1
def popX (S : List Nat) (n : Int) : Nat := if n < 1 then 0 else S.getD (ix (n - 1)) 0
def popE (n : Int) : Nat := if n < 1 then 90 else 0
def atE (n m : Int) : Nat := if m < 1 then 1 else if m > n then 90 else 0
def atX (S : List Nat) (n m : Int) : Nat := if atE n m = 0 then S.getD (ix (n - m)) 0 else 0
def dupE (n m : Int) : Nat := if atE n m = 0 then pushE n else atE n m
def dupS (S : List Nat) (n m : Int) : List Nat := if atE n m = 0 then pushS S n (atX S n m) else S
def dupN (n m : Int) : Int := if atE n m = 0 then pushN n else n
def swapE (n m : Int) : Nat := if m < 1 then 1 else if m ≥ n then 90 else 0
def swapS (S : List Nat) (n m : Int) : List Nat := if swapE n m = 0 then swp S (ix (n - 1)) (ix (n - (m + 1))) else S
def exE (n m q : Int) : Nat := if m < 1 ∨ q < 1 then 1 else if m ≥ n ∨ q ≥ n - m then 90 else 0
def exS (S : List Nat) (n m q : Int) : List Nat := if exE n m q = 0 then swp S (ix (n - (m + 1))) (ix (n - (m + q + 1))) else S
theorem dupS_length {S : List Nat} (h : S.length = 1024) (n m : Int) : (dupS S n m).length = 1024 := by unfold dupS; split; exact pushS_length h _ _; exact h
theorem swapS_length {S : List Nat} (h : S.length = 1024) (n m : Int) : (swapS S n m).length = 1024 := by unfold swapS; split; rw [swp_length, h]; exact h
theorem exS_length {S : List Nat} (h : S.length = 1024) (n m q : Int) : (exS S n m q).length = 1024 := by unfold exS; split; rw [swp_length, h]; exact h
theorem zeros_word (q : Nat) : zeros (.agg ([.int .u64 0, .int .u64 0, .int .u64 0, .int .u64 0] : List Value).toArray) q = rowW (List.replicate q 0) := by
  apply List.ext_getElem
  · rw [rowW_length, List.length_replicate, zeros_length]; rfl
  · intro i h1 h2
    have hq : i / 4 < (List.replicate q 0).length := by rw [rowW_length] at h2; omega
    have h3 := rowW_seg (List.replicate q 0) (i / 4) hq
    have h4 : (List.replicate q 0).getD (i / 4) 0 = 0 := by rw [List.getD_eq_getElem?_getD, List.getElem?_replicate]; split <;> rfl
    rw [h4] at h3
    have h5 : (rowW (List.replicate q 0))[i]? = (wc 0)[i % 4]? := by
      rw [← h3, List.getElem?_take_of_lt (Nat.mod_lt _ (by omega)), List.getElem?_drop]
      congr 1; omega
    have h6 : ∀ j, j < 4 → (wc 0)[j]? = some (.int .u64 0) := by
      intro j hj
      match j, hj with
      | 0, _ => rfl
      | 1, _ => rfl
      | 2, _ => rfl
      | 3, _ => rfl
    rw [h6 _ (Nat.mod_lt _ (by omega)), List.getElem?_eq_getElem h2] at h5
    simp only [Option.some.injEq] at h5
    rw [h5]
    simp only [zeros, List.getElem_map, List.getElem_range, Value.cells, List.size_toArray, List.length_cons, List.length_nil]
    have h7 : ∀ j, j < 4 → (([.int .u64 0, .int .u64 0, .int .u64 0, .int .u64 0] : List Value).toArray)[j]! = .int .u64 0 := by
      intro j hj
      match j, hj with
      | 0, _ => rfl
      | 1, _ => rfl
      | 2, _ => rfl
      | 3, _ => rfl
    exact h7 _ (Nat.mod_lt _ (by omega))
theorem put_all (cs vs : List Value) (h : cs.length = vs.length) : put cs 0 vs = vs := by unfold put; rw [List.take_zero, Nat.zero_add, List.drop_of_length_le (by omega)]; simp
theorem put_front (xs ys : List Nat) (h : ys.length ≤ xs.length) : put (rowW xs) 0 (rowW ys) = rowW (ys ++ xs.drop ys.length) := by
  unfold put
  rw [List.take_zero, List.nil_append, Nat.zero_add, rowW_length, rowW_drop, rowW_append]
theorem put_back (xs ys : List Nat) (k : Nat) (h : k + ys.length = xs.length) : put (rowW xs) (k * 4) (rowW ys) = rowW (xs.take k ++ ys) := by
  unfold put
  rw [rowW_take, rowW_length, ← Nat.add_mul, rowW_drop, List.drop_of_length_le (by omega), rowW_append]
  simp [rowW]
theorem wordsA {S : List Nat} {n : Int} (hS : S.length = 1024) (m : Nat) (hm : (m : Int) = max n 0) (h : n ≤ 1024) : S.take m = wordsS S n := by
  refine wordsS_of (by rw [List.length_take]; omega) (fun k hk => ?_)
  rw [List.length_take] at hk
  rw [getD_take _ _ _ (by omega), if_neg (by omega)]
  congr 1
  unfold ix; omega
theorem wordsB {S : List Nat} {n : Int} (hS : S.length = 1024) (h : 1024 < n) : S.drop (ix n) ++ S.take (ix n) = wordsS S n := by
  have hl := ix_lt n
  refine wordsS_of (by rw [List.length_append, List.length_drop, List.length_take]; omega) (fun k hk => ?_)
  rw [List.length_append, List.length_drop, List.length_take] at hk
  rw [if_pos h]
  have hc := ix_cast n
  by_cases h1 : k < 1024 - ix n
  · rw [getD_append_left _ _ _ (by rw [List.length_drop]; omega)]
    have e : ix (n - 1024 + (k : Nat)) = ix n + k := by
      have := ix_cast (n - 1024 + (k : Nat)); omega
    rw [e]
    simp [List.getD, List.getElem?_drop]
  · have e : ix (n - 1024 + (k : Nat)) = k - (1024 - ix n) := by
      have := ix_cast (n - 1024 + (k : Nat)); omega
    rw [e]
    have e2 : k = (S.drop (ix n)).length + (k - (1024 - ix n)) := by rw [List.length_drop]; omega
    conv => lhs; rw [e2]
    rw [getD_append_right, getD_take _ _ _ (by omega)]
theorem at_lo {S : List Nat} {n m : Int} (h : m < 1) : atX S n m = 0 ∧ atE n m = 1 := by
  have e : atE n m = 1 := by unfold atE; rw [if_pos h]
  exact ⟨by unfold atX; rw [e]; rfl, e⟩
theorem at_hi {S : List Nat} {n m : Int} (h : ¬ m < 1) (h2 : m > n) : atX S n m = 0 ∧ atE n m = 90 := by
  have e : atE n m = 90 := by unfold atE; rw [if_neg h, if_pos h2]
  exact ⟨by unfold atX; rw [e]; rfl, e⟩
theorem at_ok {S : List Nat} {n m : Int} (h : ¬ m < 1) (h2 : ¬ m > n) : atX S n m = S.getD (ix (n - m)) 0 ∧ atE n m = 0 := by
  have e : atE n m = 0 := by unfold atE; rw [if_neg h, if_neg h2]
  exact ⟨by unfold atX; rw [e]; rfl, e⟩
theorem stk_fit (o : Nat) (i : Int) (ho : o ≤ 1) : 0 + o + (i % 1024).toNat * 4 + 4 ≤ 4097 := by
  have := ix_lt i
  unfold ix at this
  generalize (i % 1024).toNat = q at *
  omega
theorem sw_lo {S : List Nat} {n m : Int} (h : m < 1) : swapS S n m = S ∧ swapE n m = 1 := by
  have e : swapE n m = 1 := by unfold swapE; rw [if_pos h]
  exact ⟨by unfold swapS; rw [e]; rfl, e⟩
theorem sw_hi {S : List Nat} {n m : Int} (h : ¬ m < 1) (h2 : m ≥ n) : swapS S n m = S ∧ swapE n m = 90 := by
  have e : swapE n m = 90 := by unfold swapE; rw [if_neg h, if_pos h2]
  exact ⟨by unfold swapS; rw [e]; rfl, e⟩
theorem sw_ok {S : List Nat} {n m : Int} (h : ¬ m < 1) (h2 : ¬ m ≥ n) : swapS S n m = swp S (ix (n - 1)) (ix (n - (m + 1))) ∧ swapE n m = 0 := by
  have e : swapE n m = 0 := by unfold swapE; rw [if_neg h, if_neg h2]
  exact ⟨by unfold swapS; rw [e]; rfl, e⟩
theorem ex_lo {S : List Nat} {n m q : Int} (h : m < 1 ∨ q < 1) : exS S n m q = S ∧ exE n m q = 1 := by
  have e : exE n m q = 1 := by unfold exE; rw [if_pos h]
  exact ⟨by unfold exS; rw [e]; rfl, e⟩
theorem ex_hi {S : List Nat} {n m q : Int} (h : ¬ (m < 1 ∨ q < 1)) (h2 : m ≥ n ∨ q ≥ n - m) : exS S n m q = S ∧ exE n m q = 90 := by
  have e : exE n m q = 90 := by unfold exE; rw [if_neg h, if_pos h2]
  exact ⟨by unfold exS; rw [e]; rfl, e⟩
theorem ex_ok {S : List Nat} {n m q : Int} (h : ¬ (m < 1 ∨ q < 1)) (h2 : ¬ (m ≥ n ∨ q ≥ n - m)) : exS S n m q = swp S (ix (n - (m + 1))) (ix (n - (m + q + 1))) ∧ exE n m q = 0 := by
  have e : exE n m q = 0 := by unfold exE; rw [if_neg h, if_neg h2]
  exact ⟨by unfold exS; rw [e]; rfl, e⟩
theorem tmod_pos {i : Int} (h : ¬ i.tmod 1024 < 0) : i.tmod 1024 = i % 1024 := by
  rcases Int.le_total 0 i with h1 | h1
  · exact Int.tmod_eq_emod_of_nonneg h1
  · obtain ⟨j, rfl⟩ : ∃ j, i = -j := ⟨-i, by omega⟩
    rw [Int.neg_tmod, Int.tmod_eq_emod_of_nonneg (by omega)] at h ⊢
    omega
theorem tmod_neg {i : Int} (h : i.tmod 1024 < 0) : i.tmod 1024 + 1024 = i % 1024 := by
  rcases Int.le_total 0 i with h1 | h1
  · rw [Int.tmod_eq_emod_of_nonneg h1] at h; omega
  · obtain ⟨j, rfl⟩ : ∃ j, i = -j := ⟨-i, by omega⟩
    rw [Int.neg_tmod, Int.tmod_eq_emod_of_nonneg (by omega)] at h ⊢
    omega
theorem tmod_bound (i : Int) : -1024 < i.tmod 1024 ∧ i.tmod 1024 < 1024 := by
  rcases Int.le_total 0 i with h1 | h1
  · rw [Int.tmod_eq_emod_of_nonneg h1]; omega
  · obtain ⟨j, rfl⟩ : ∃ j, i = -j := ⟨-i, by omega⟩
    rw [Int.neg_tmod, Int.tmod_eq_emod_of_nonneg (by omega)]
    omega
/-- New. -/
def zstk : List Nat := List.replicate 1024 0
theorem zstk_length : zstk.length = 1024 := List.length_replicate
end Go.Fw
set_option linter.unusedVariables false
namespace Go.Fw
open Go
/-- A step's cells. -/
abbrev opc (k : Int) (b : Bool) (n m p : Int) (x y : Nat) (sl : Value) : List Value := [.int .i64 k, .bool b, .int .i64 n, .int .i64 m, .int .i64 p] ++ (wc x ++ (wc y ++ [sl]))
theorem opc_length (k : Int) (b : Bool) (n m p : Int) (x y : Nat) (sl : Value) : (opc k b n m p x y sl).length = 14 := rfl
def stepN (k m n : Int) : Int := if k = 1 then pushN n else if k = 2 then popN n else if k = 4 then dupN n m else if k = 7 ∨ k = 10 then n + 1 else if k = 8 then n - 1 else n
section
variable {P : Program} {ops : Array Oper} {F : Act → World → Prop} {w0 w w' : World} {M : List Nat} {N : Nat} {L : List (Oper × K)} {σ : List (Nat × Value)} {l lS : List (Nat × Ent)} {d : Option Tmp} {ty : TypeId} {p : String} {af : Array Edge} {x y : Operand} {v z : Value} {t : TypeId} {kd : IntKind} {k : K}

theorem WS.two {a b : Nat} {ta tb : TypeId} {ca cb : List Value} (h1 : Ent.At w ⟨some a, ta, ca⟩) (h2 : Ent.At w ⟨some b, tb, cb⟩) (hne : a ≠ b) : WS w [a, b] [(0, ⟨some a, ta, ca⟩), (1, ⟨some b, tb, cb⟩)] w := by
  have key : ∀ j e, lk [(0, (⟨some a, ta, ca⟩ : Ent)), (1, ⟨some b, tb, cb⟩)] j = some e → (j = 0 ∧ e = ⟨some a, ta, ca⟩) ∨ (j = 1 ∧ e = ⟨some b, tb, cb⟩) := by
    intro j e h
    rw [lk_cons, lk_cons] at h
    split at h
    · simp at h; exact .inl ⟨by omega, h.symm⟩
    · split at h
      · simp at h; exact .inr ⟨by omega, h.symm⟩
      · simp [lk] at h
  refine ⟨rfl, rfl, rfl, Nat.le_refl _, fun _ _ _ => rfl, fun j e he => ?_, fun j j' e e' g' h3 h4 hn hg => ?_, fun j e g' he hg => ?_⟩
  · rcases key j e he with ⟨_, rfl⟩ | ⟨_, rfl⟩
    · exact h1
    · exact h2
  · rcases key j e h3 with ⟨rfl, rfl⟩ | ⟨rfl, rfl⟩ <;> rcases key j' e' h4 with ⟨rfl, rfl⟩ | ⟨rfl, rfl⟩
    · exact absurd rfl hn
    · simp at hg ⊢; omega
    · simp at hg ⊢; omega
    · exact absurd rfl hn
  · rcases key j e he with ⟨_, rfl⟩ | ⟨_, rfl⟩
    · simp at hg; subst hg; exact .inr (by simp)
    · simp at hg; subst hg; exact .inr (by simp)

/-- Two entries alone, under other names. -/
theorem WS.pairOf (hw : WS w0 M l w) (i j : Nat) {e1 e2 : Ent} (h1 : lk l i = some e1) (h2 : lk l j = some e2) (hij : i ≠ j) (i' j' : Nat) (hij' : i' ≠ j') : WS w0 M [(i', e1), (j', e2)] w := by
  have key : ∀ q e, lk [(i', e1), (j', e2)] q = some e → (q = i' ∧ e = e1) ∨ (q = j' ∧ e = e2) := by
    intro q e h
    rw [lk_cons, lk_cons] at h
    split at h
    · simp at h; exact .inl ⟨by omega, h.symm⟩
    · split at h
      · simp at h; exact .inr ⟨by omega, h.symm⟩
      · simp [lk] at h
  refine ⟨hw.os, hw.tape, hw.output, hw.size, hw.keep, fun q e he => ?_, fun q q' e e' g' h3 h4 hn hg => ?_, fun q e g' he hg => ?_⟩
  · rcases key q e he with ⟨_, rfl⟩ | ⟨_, rfl⟩
    · exact hw.live i _ h1
    · exact hw.live j _ h2
  · rcases key q e h3 with ⟨rfl, rfl⟩ | ⟨rfl, rfl⟩ <;> rcases key q' e' h4 with ⟨rfl, rfl⟩ | ⟨rfl, rfl⟩
    · exact absurd rfl hn
    · exact hw.apart i j _ _ g' h1 h2 hij hg
    · exact hw.apart j i _ _ g' h2 h1 (Ne.symm hij) hg
    · exact absurd rfl hn
  · rcases key q e he with ⟨_, rfl⟩ | ⟨_, rfl⟩
    · exact hw.own i _ g' h1 hg
    · exact hw.own j _ g' h2 hg

/-- Behind a step both are as they must be. -/
def StkPost (w : World) (ta tb : TypeId) (a b : Nat) (n : Int) (e : Ending) (w' : World) : Prop :=
  ∃ S : List Nat, S.length = 1024 ∧ e = .returned (.bool true) ∧ WS w [a, b] [(0, ⟨some a, ta, stkM S n⟩), (1, ⟨some b, tb, stkR S n⟩)] w'
theorem StkPost.mk' {ta tb : TypeId} {a b : Nat} {n n' : Int} {e : Ending} (S : List Nat) (hS : S.length = 1024) (hn : n' = n) (he : e = .returned (.bool true)) (hw : WS w [a, b] l w') (h1 : lk l 0 = some ⟨some a, ta, stkM S n'⟩) (h2 : lk l 1 = some ⟨some b, tb, stkR S n'⟩) :
    StkPost w ta tb a b n e w' := by
  subst hn
  exact ⟨S, hS, he, hw.pairOf 0 1 h1 h2 (by omega) 0 1 (by omega)⟩
theorem J.callStk (i j : Nat) {ta tb : TypeId} {a b : Nat} {ca cb : List Value} {n : Int} (h1 : lk l i = some ⟨some a, ta, ca⟩) (h2 : lk l j = some ⟨some b, tb, cb⟩) (hij : i ≠ j) (hi : lk lS i = none) (hj : lk lS j = none) {f : FuncId} (hf : FnOk P f) {xs : Array Operand} {tys : Array TypeId} {args : List Value} (hx : evs σ xs.toList = some args) (hd : okd N d)
    (spec : ∀ w, WS w0 M l w → Calls P f args.toArray w (StkPost w ta tb a b n))
    (hJ : ∀ S, S.length = 1024 → J P ops F w0 M N lS L (putd d (.bool true) σ) ((i, ⟨some a, ta, stkM S n⟩) :: (j, ⟨some b, tb, stkR S n⟩) :: l)) :
    J P ops F w0 M N lS ((⟨d, .call ⟨.value (.func f), xs, tys⟩, ty, p, af, none⟩, .l) :: L) σ l :=
  J.call hf hx hd (ι := List Nat) (fun S => S.length = 1024) (fun _ => .bool true) [a, b] (fun S => [(i, ⟨some a, ta, stkM S n⟩), (j, ⟨some b, tb, stkR S n⟩)])
    (fun w hw => (spec w hw).mono fun e w' ⟨S, hS, he, hw'⟩ => ⟨S, hS, he, hw'.pairOf 0 1 rfl rfl (by omega) i j hij⟩)
    (fun S hS g hg => by
      simp at hg
      rcases hg with rfl | rfl
      · exact ⟨i, _, ⟨some g, ta, stkM S n⟩, h1, rfl, by rw [lk_cons, if_pos rfl]⟩
      · exact ⟨j, _, ⟨some g, tb, stkR S n⟩, h2, rfl, by rw [lk_cons, if_neg hij, lk_cons, if_pos rfl]⟩)
    (fun S q e he => by
      rw [lk_cons, lk_cons] at he
      split at he
      · rename_i hk; subst hk; exact hi
      · split at he
        · rename_i hk; subst hk; exact hj
        · simp [lk] at he) (fun S hS => hJ S hS)

/-- Both, new. -/
def PairPost (w : World) (ta tb : TypeId) (ca cb : List Value) (e : Ending) (w' : World) : Prop :=
  ∃ a b, w.heap.size ≤ a ∧ w.heap.size ≤ b ∧ e = .returned (.agg [.pointer (some ⟨a, 0, none⟩), .pointer (some ⟨b, 0, none⟩)].toArray) ∧ WS w [] [(0, ⟨some a, ta, ca⟩), (1, ⟨some b, tb, cb⟩)] w'
theorem J.callPair (i j : Nat) (hij : i ≠ j) {ta tb : TypeId} {ca cb : List Value} (hi : lk lS i = none) (hj : lk lS j = none) {f : FuncId} (hf : FnOk P f) {xs : Array Operand} {tys : Array TypeId} {args : List Value} (hx : evs σ xs.toList = some args) (hd : okd N d)
    (spec : ∀ w, WS w0 M l w → Calls P f args.toArray w (PairPost w ta tb ca cb))
    (hJ : ∀ a b, w0.heap.size ≤ a → w0.heap.size ≤ b → J P ops F w0 M N lS L (putd d (.agg [.pointer (some ⟨a, 0, none⟩), .pointer (some ⟨b, 0, none⟩)].toArray) σ) ((i, ⟨some a, ta, ca⟩) :: (j, ⟨some b, tb, cb⟩) :: l)) :
    J P ops F w0 M N lS ((⟨d, .call ⟨.value (.func f), xs, tys⟩, ty, p, af, none⟩, .l) :: L) σ l :=
  J.call hf hx hd (ι := Nat × Nat) (fun q => w0.heap.size ≤ q.1 ∧ w0.heap.size ≤ q.2) (fun q => .agg [.pointer (some ⟨q.1, 0, none⟩), .pointer (some ⟨q.2, 0, none⟩)].toArray) [] (fun q => [(i, ⟨some q.1, ta, ca⟩), (j, ⟨some q.2, tb, cb⟩)])
    (fun w hw => (spec w hw).mono fun e w' ⟨a, b, ha, hb, he, hw'⟩ => ⟨(a, b), ⟨Nat.le_trans hw.size ha, Nat.le_trans hw.size hb⟩, he, hw'.pairOf 0 1 rfl rfl (by omega) i j hij⟩)
    (fun _ _ g hg => by simp at hg)
    (fun q r e he => by
      rw [lk_cons, lk_cons] at he
      split at he
      · rename_i hk; subst hk; exact hi
      · split at he
        · rename_i hk; subst hk; exact hj
        · simp [lk] at he) (fun q hq => hJ q.1 q.2 hq.1 hq.2)
/-- Two entries lie in two blocks. -/
theorem WS.ne (hw : WS w0 M l w) (i j : Nat) {a b : Nat} {ta tb : TypeId} {ca cb : List Value} (h1 : lk l i = some ⟨some a, ta, ca⟩) (h2 : lk l j = some ⟨some b, tb, cb⟩) (hij : i ≠ j) : a ≠ b := fun e => hw.apart i j _ _ a h1 h2 hij rfl (by rw [e])
end

/-! ### 'awake' -/
def awk : List (Int × Int × Int × Nat) := [(1, 0, 0, 5), (7, 0, 0, 6), (5, 1, 0, 0), (4, 2, 0, 0), (10, 2, 0, 0), (11, 1, 3, 0), (12, 0, 0, 0), (2, 0, 0, 0), (8, 0, 0, 0)]
def awkc : List Value := awk.flatMap fun q => opc q.1 false q.2.1 q.2.2.1 0 q.2.2.2 0 (.slice none 0 0)
def awn (i : Nat) : Int := [(0 : Int), 1, 2, 2, 3, 4, 4, 4, 3, 2].getD i 0
def awq (i : Nat) : Int × Int × Int × Nat := awk.getD i (0, 0, 0, 0)
theorem awk_all : ∀ i : Fin 9, ((awq i.val).1 = 1 ∨ (awq i.val).1 = 2 ∨ (awq i.val).1 = 4 ∨ (awq i.val).1 = 5 ∨ (awq i.val).1 = 12 ∨ (awq i.val).1 = 7 ∨ (awq i.val).1 = 8 ∨ (awq i.val).1 = 10 ∨ (awq i.val).1 = 11) ∧
    (0 ≤ (awq i.val).2.1 ∧ (awq i.val).2.1 ≤ 4) ∧ (0 ≤ (awq i.val).2.2.1 ∧ (awq i.val).2.2.1 ≤ 4) ∧ stepN (awq i.val).1 (awq i.val).2.1 (awn i.val) = awn (i.val + 1) ∧ 0 ≤ awn i.val ∧ awn i.val ≤ 4 := by decide +kernel
theorem awk_seg (i : Nat) (h : i < 9) : (awkc.drop (i * 14)).take 14 = opc (awq i).1 false (awq i).2.1 (awq i).2.2.1 0 (awq i).2.2.2 0 (.slice none 0 0) := by
  match i, h with
  | 0, _ => rfl
  | 1, _ => rfl
  | 2, _ => rfl
  | 3, _ => rfl
  | 4, _ => rfl
  | 5, _ => rfl
  | 6, _ => rfl
  | 7, _ => rfl
  | 8, _ => rfl
end Go.Fw
set_option linter.unusedVariables false
namespace Go.Fw
open Go
section
variable {P : Program} {ops : Array Oper} {F : Act → World → Prop} {w0 w w' : World} {M : List Nat} {N : Nat} {L : List (Oper × K)} {σ : List (Nat × Value)} {l lS : List (Nat × Ent)} {d : Option Tmp} {ty : TypeId} {p : String} {af : Array Edge} {x y : Operand} {v z : Value} {t : TypeId} {kd : IntKind} {k : K} {Q : Exit → Act → World → Prop}
theorem X.asE {u : Exit} {e : Ent} (k : Nat) (e' : Ent) (h : lk l k = some e) (he : e = e') (hX : X w0 M N Q u σ ((k, e') :: l)) : X w0 M N Q u σ l := fun a w ha hw => hX a w ha (hw.asE h he)
theorem X.as {u : Exit} {v : Value} (t : Nat) (v' : Value) (h : lk σ t = some v) (e : v = v') (hX : X w0 M N Q u ((t, v') :: σ) l) : X w0 M N Q u σ l := fun a w ha hw => hX a w (ha.as h e) hw

def FilledPost (w : World) (tm tw : TypeId) (e : Ending) (w' : World) : Prop :=
  ∃ (g : Nat) (S zs : List Nat) (r : RowIx), (3 ≤ zs.length ∧ zs.length ≤ 1024 ∧ S.length = 1024 ∧ (∀ q, q < zs.length → S.getD q 0 = zs.getD q 0) ∧ r.Ok 4 zs.length ∧ w.heap.size ≤ g) ∧
    e = .returned (.tuple #[.pointer (some ⟨g, 0, none⟩), r.val zs.length]) ∧ WS w [] [(0, ⟨some g, tm, stkM S (zs.length : Nat)⟩), (1, r.ent tw (rowW zs))] w'
theorem J.callFilled (i j : Nat) (hij : i ≠ j) {tm tw : TypeId} (hi : lk lS i = none) (hj : lk lS j = none) {f : FuncId} (hf : FnOk P f) {xs : Array Operand} {tys : Array TypeId} {args : List Value} (hx : evs σ xs.toList = some args) (hd : okd N d)
    (spec : ∀ w, WS w0 M l w → Calls P f args.toArray w (FilledPost w tm tw))
    (hJ : ∀ (g : Nat) (S zs : List Nat) (r : RowIx), (3 ≤ zs.length ∧ zs.length ≤ 1024 ∧ S.length = 1024 ∧ (∀ q, q < zs.length → S.getD q 0 = zs.getD q 0) ∧ r.Ok 4 zs.length) →
      J P ops F w0 M N lS L (putd d (.tuple [.pointer (some ⟨g, 0, none⟩), r.val zs.length].toArray) σ) ((i, ⟨some g, tm, stkM S (zs.length : Nat)⟩) :: (j, r.ent tw (rowW zs)) :: l)) :
    J P ops F w0 M N lS ((⟨d, .call ⟨.value (.func f), xs, tys⟩, ty, p, af, none⟩, .l) :: L) σ l :=
  J.call hf hx hd (ι := (Nat × RowIx) × (List Nat × List Nat)) (fun q => 3 ≤ q.2.2.length ∧ q.2.2.length ≤ 1024 ∧ q.2.1.length = 1024 ∧ (∀ u, u < q.2.2.length → q.2.1.getD u 0 = q.2.2.getD u 0) ∧ q.1.2.Ok 4 q.2.2.length)
    (fun q => .tuple [.pointer (some ⟨q.1.1, 0, none⟩), q.1.2.val q.2.2.length].toArray) [] (fun q => [(i, ⟨some q.1.1, tm, stkM q.2.1 (q.2.2.length : Nat)⟩), (j, q.1.2.ent tw (rowW q.2.2))])
    (fun w hw => (spec w hw).mono fun e w' ⟨g, S, zs, r, ⟨h1, h2, h3, h4, h5, _⟩, he, hw'⟩ => ⟨((g, r), (S, zs)), ⟨h1, h2, h3, h4, h5⟩, he, hw'.pairOf 0 1 rfl rfl (by omega) i j hij⟩)
    (fun _ _ g hg => by simp at hg)
    (fun q r e he => by
      rw [lk_cons, lk_cons] at he
      split at he
      · rename_i hk; subst hk; exact hi
      · split at he
        · rename_i hk; subst hk; exact hj
        · simp [lk] at he) (fun q hq => hJ q.1.1 q.2.1 q.2.2 q.1.2 hq)
end

theorem neq_iff {p q : Prop} [Decidable p] [Decidable q] (h : p ↔ q) : (!(decide p == decide q)) = false := by
  by_cases hp : p
  · rw [decide_eq_true hp, decide_eq_true (h.1 hp)]; rfl
  · rw [decide_eq_false hp, decide_eq_false (fun hq => hp (h.2 hq))]; rfl
theorem neq_no {p : Prop} [Decidable p] (h : ¬ p) : (!(decide p == false)) = false := by rw [decide_eq_false h]; rfl
theorem neq_yes {p : Prop} [Decidable p] (h : p) : (!(decide p == true)) = false := by rw [decide_eq_true h]; rfl

/-! ### When a call answers OK -/
theorem atE_iff (n m : Int) : ((atE n m : Nat) : Int) = 0 ↔ (1 ≤ m ∧ m ≤ n) := by unfold atE; split; omega; split <;> omega
theorem swapE_iff (n m : Int) : ((swapE n m : Nat) : Int) = 0 ↔ (1 ≤ m ∧ m < n) := by unfold swapE; split; omega; split <;> omega
theorem exE_iff (n m q : Int) : ((exE n m q : Nat) : Int) = 0 ↔ (1 ≤ m ∧ 1 ≤ q ∧ m + q < n) := by unfold exE; split; omega; split <;> omega
theorem dupE_iff (n m : Int) : ((dupE n m : Nat) : Int) = 0 ↔ (1 ≤ m ∧ m ≤ n ∧ n < 1024) := by
  have h := atE_iff n m
  unfold dupE pushE
  split
  · split <;> omega
  · omega
theorem pushE_iff (n : Int) : ((pushE n : Nat) : Int) = 0 ↔ n < 1024 := by unfold pushE; split <;> omega
theorem popE_iff (n : Int) : ((popE n : Nat) : Int) = 0 ↔ 1 ≤ n := by unfold popE; split <;> omega
theorem swapS_no {S : List Nat} {n m : Int} (h : ¬ ((swapE n m : Nat) : Int) = 0) : swapS S n m = S := by unfold swapS; rw [if_neg (by omega)]
theorem swapS_yes {S : List Nat} {n m : Int} (h : ((swapE n m : Nat) : Int) = 0) : swapS S n m = swp S (ix (n - 1)) (ix (n - (m + 1))) := by unfold swapS; rw [if_pos (by omega)]
theorem exS_no {S : List Nat} {n m q : Int} (h : ¬ ((exE n m q : Nat) : Int) = 0) : exS S n m q = S := by unfold exS; rw [if_neg (by omega)]
theorem exS_yes {S : List Nat} {n m q : Int} (h : ((exE n m q : Nat) : Int) = 0) : exS S n m q = swp S (ix (n - (m + 1))) (ix (n - (m + q + 1))) := by unfold exS; rw [if_pos (by omega)]
theorem atX_yes {S : List Nat} {n m : Int} (h : ((atE n m : Nat) : Int) = 0) : atX S n m = S.getD (ix (n - m)) 0 := by unfold atX; rw [if_pos (by omega)]
theorem atX_no {S : List Nat} {n m : Int} (h : ¬ ((atE n m : Nat) : Int) = 0) : atX S n m = 0 := by unfold atX; rw [if_neg (by omega)]
theorem dup_no {S : List Nat} {n m : Int} (h : ¬ ((dupE n m : Nat) : Int) = 0) : dupS S n m = S ∧ dupN n m = n := by
  unfold dupE pushE at h
  unfold dupS dupN pushS pushN
  split at h
  · rename_i h1
    split at h
    · rename_i h2
      rw [if_pos h1, if_pos h1, if_pos h2, if_pos h2]; exact ⟨rfl, rfl⟩
    · exact absurd rfl h
  · rename_i h1
    rw [if_neg h1, if_neg h1]; exact ⟨rfl, rfl⟩
theorem dup_yes {S : List Nat} {n m : Int} (h : ((dupE n m : Nat) : Int) = 0) : dupS S n m = S.set (ix n) (S.getD (ix (n - m)) 0) ∧ dupN n m = n + 1 := by
  have hi := (dupE_iff n m).1 h
  have ha := (atE_iff n m).2 ⟨hi.1, hi.2.1⟩
  unfold dupS dupN pushS pushN
  have ha' : atE n m = 0 := by omega
  have hn : ¬ 1024 ≤ n := by omega
  rw [if_pos ha', if_pos ha', if_neg hn, if_neg hn, atX_yes ha]
  exact ⟨rfl, rfl⟩
theorem ix_nat (k : Nat) (h : k < 1024) : ix (k : Int) = k := by unfold ix; omega
theorem ix_of {z : Int} {k : Nat} (h : z = (k : Int)) (hk : k < 1024) : ix z = k := by subst h; exact ix_nat k hk

/-! ### Places that change -/
theorem swp_i {S : List Nat} {i j : Nat} (hi : i < S.length) (hj : j < S.length) : (swp S i j).getD i 0 = S.getD j 0 := by
  unfold swp
  rw [getD_set _ _ _ _ (by rw [List.length_set]; exact hj), getD_set _ _ _ _ hi]
  split
  · rename_i h; subst h; rfl
  · rw [if_pos rfl]
theorem swp_j {S : List Nat} {i j : Nat} (hj : j < S.length) : (swp S i j).getD j 0 = S.getD i 0 := by
  unfold swp
  rw [getD_set _ _ _ _ (by rw [List.length_set]; exact hj), if_pos rfl]
theorem swp_o {S : List Nat} {i j q : Nat} (hi : i < S.length) (hj : j < S.length) (h1 : i ≠ q) (h2 : j ≠ q) : (swp S i j).getD q 0 = S.getD q 0 := by
  unfold swp
  rw [getD_set _ _ _ _ (by rw [List.length_set]; exact hj), if_neg h2, getD_set _ _ _ _ hi, if_neg h1]
theorem ext_getD {xs ys : List Nat} (hl : xs.length = ys.length) (h : ∀ q, q < xs.length → xs.getD q 0 = ys.getD q 0) : xs = ys := by
  apply List.ext_getElem hl
  intro q h1 h2
  have := h q h1
  simpa [List.getD, h1, h2] using this
theorem swp_back {S : List Nat} {i j : Nat} (hi : i < S.length) (hj : j < S.length) : swp (swp S i j) j i = S := by
  have hl : (swp S i j).length = S.length := swp_length _ _ _
  refine ext_getD (by rw [swp_length, swp_length]) (fun q hq => ?_)
  by_cases h1 : i = q
  · subst h1; rw [swp_j (by rw [hl]; exact hi), swp_j hj]
  · by_cases h2 : j = q
    · subst h2; rw [swp_i (by rw [hl]; exact hj) (by rw [hl]; exact hi), swp_i hi hj]
    · rw [swp_o (by rw [hl]; exact hj) (by rw [hl]; exact hi) h2 h1, swp_o hi hj h1 h2]
theorem swp_again {S : List Nat} {i j : Nat} (hi : i < S.length) (hj : j < S.length) : swp (swp S i j) i j = S := by
  have hl : (swp S i j).length = S.length := swp_length _ _ _
  refine ext_getD (by rw [swp_length, swp_length]) (fun q hq => ?_)
  by_cases h2 : j = q
  · subst h2; rw [swp_j (by rw [hl]; exact hj), swp_i hi hj]
  · by_cases h1 : i = q
    · subst h1; rw [swp_i (by rw [hl]; exact hi) (by rw [hl]; exact hj), swp_j hj]
    · rw [swp_o (by rw [hl]; exact hi) (by rw [hl]; exact hj) h1 h2, swp_o hi hj h1 h2]
/-- What Words tells of a stack that was filled. -/
theorem words_full {S zs : List Nat} (hz : zs.length ≤ 1024) (h : ∀ q, q < zs.length → S.getD q 0 = zs.getD q 0) : wordsS S (zs.length : Nat) = zs := by
  refine (wordsS_of (by omega) (fun q hq => ?_)).symm
  rw [if_neg (by omega), ← h q hq, ix_of (z := 0 + (q : Nat)) (k := q) (by omega) (by omega)]
end Go.Fw
set_option linter.unusedVariables false
namespace Go.Fw
open Go
theorem push_yes {S : List Nat} {n : Int} {x : Nat} (h : ((pushE n : Nat) : Int) = 0) : pushS S n x = S.set (ix n) x ∧ pushN n = n + 1 := by
  have := (pushE_iff n).1 h
  unfold pushS pushN; rw [if_neg (by omega), if_neg (by omega)]; exact ⟨rfl, rfl⟩
theorem push_no {S : List Nat} {n : Int} {x : Nat} (h : ¬ ((pushE n : Nat) : Int) = 0) : pushS S n x = S ∧ pushN n = n := by
  have := pushE_iff n
  unfold pushS pushN; rw [if_pos (by omega), if_pos (by omega)]; exact ⟨rfl, rfl⟩
theorem pop_yes {S : List Nat} {n : Int} (h : ((popE n : Nat) : Int) = 0) : popX S n = S.getD (ix (n - 1)) 0 ∧ popN n = n - 1 := by
  have := (popE_iff n).1 h
  unfold popX popN; rw [if_neg (by omega), if_neg (by omega)]; exact ⟨rfl, rfl⟩
theorem pop_no {S : List Nat} {n : Int} (h : ¬ ((popE n : Nat) : Int) = 0) : popN n = n := by
  have := popE_iff n
  unfold popN; rw [if_pos (by omega)]
theorem swp_comm (S : List Nat) (i j : Nat) : swp S i j = swp S j i := by
  unfold swp
  by_cases h : i = j
  · subst h; rfl
  · rw [List.set_comm _ _ h]
end Go.Fw
set_option linter.unusedVariables false
namespace Go.Fw
open Go
theorem and2047 (n : Int) : bits .and .i64 n 2047 = n % 2048 := by
  have h127 : (BitVec.ofInt 64 2047).toNat = 2 ^ 11 - 1 := by decide
  have key : (BitVec.ofInt 64 n &&& BitVec.ofInt 64 2047).toNat = (n % ((2 ^ 64 : Nat) : Int)).toNat % 2 ^ 11 := by
    rw [BitVec.toNat_and, BitVec.toNat_ofInt, h127, Nat.and_two_pow_sub_one_eq_mod]
  show IntKind.i64.wrap ((BitVec.ofInt 64 n &&& BitVec.ofInt 64 2047).toNat : Nat) = n % 2048
  rw [key, IntKind.wrap_i64]
  omega
theorem zstk_get (q : Nat) : zstk.getD q 0 = 0 := by
  unfold zstk
  rw [List.getD_eq_getElem?_getD, List.getElem?_replicate]; split <;> rfl
theorem rowW_zstk : rowW zstk = List.replicate 4096 (.int .u64 0) := by
  have : ∀ n, rowW (List.replicate n 0) = List.replicate (n * 4) (.int .u64 0) := by
    intro n
    induction n with
    | zero => rfl
    | succ n ih =>
      rw [List.replicate_succ, show (n + 1) * 4 = 4 + n * 4 by omega, ← List.replicate_append_replicate]
      show wc 0 ++ rowW (List.replicate n 0) = _
      rw [ih]; rfl
  exact this 1024
theorem ring_words {S : List Nat} {n : Int} {i : Nat} (h : (i : Int) < min (max n 0) 1024) : (wordsS S n).getD ((min (max n 0) 1024).toNat - 1 - i) 0 = S.getD (ix (n - ((i : Int) + 1))) 0 := by
  rw [wordsS_get _ _ _ (by omega)]
  congr 1
  unfold ix
  split <;> omega
theorem pushE_or (n : Int) : pushE n = 0 ∨ pushE n = 91 := by unfold pushE; split <;> simp
end Go.Fw
set_option linter.unusedVariables false
namespace Go.Fw
open Go
variable {P : Program} {ops : Array Oper} {F : Act → World → Prop} {w0 : World} {M : List Nat} {N : Nat} {L : List (Oper × K)} {σ : List (Nat × Value)} {l lS : List (Nat × Ent)} {k : K}
  {d : Option Tmp} {ty : TypeId} {p : String} {af : Array Edge} {v v1 v2 z : Value} {x y c : Operand} {t tx : TypeId} {kd ki : IntKind} {n m r : Int} {b : Bool}

theorem zeroCells_zeros (z : Value) (q : Nat) : Builtin.zeroCells z.cells q = (zeros z q).toArray := by
  apply Array.ext'
  simp [Builtin.zeroCells, zeros]
theorem run_appendZ_room {w : World} {e : TypeId} {ti : TypeInfo} {q : Nat} (ht : P.underlying t = some (.slice e)) (hk : P.underlying tx = some (.int ki)) (hi : P.info? e = some ti) (hz : ti.zero = some z) (hq0 : 0 < q) (hsz : 0 < ti.size) (hb : q * ti.bytes ≤ 281474976710656) (h63 : q ≤ 9223372036854775807)
    {g sLen sCap : Nat} {en : Ent} (hid : en.id = some g) (hat : en.At w) (hroom : sLen + q ≤ sCap) (hfit : sLen * ti.size + (zeros z q).length ≤ en.cs.length) (h1 : ∀ u ∈ zeros z q, u.oneCell' = true) :
    (Builtin.append_ #[t, tx] ty #[.slice (some ⟨g, 0, none⟩) sLen sCap, .int kd (q : Int)]).run P w = .ok (.slice (some ⟨g, 0, none⟩) (sLen + q) sCap) (w.setRow g (put en.cs (sLen * ti.size) (zeros z q)).toArray) := by
  have hst := run_store_ent (P := P) hid hat (zeros z q) hfit h1
  have hw : IntKind.i64.wrap (q : Int) = (q : Int) := by rw [IntKind.wrap_i64]; omega
  have hn0 : ¬ (q * ti.size = 0) := by rw [Nat.mul_eq_zero]; omega
  have hbi : ¬ ((q : Int) * (ti.bytes : Int) > 2 ^ 48) := by
    have : ((q * ti.bytes : Nat) : Int) ≤ ((281474976710656 : Nat) : Int) := Int.ofNat_le.2 hb
    simp at this ⊢; omega
  have hadd : (⟨g, 0, none⟩ : Addr).add (sLen * ti.size) = ⟨g, sLen * ti.size, none⟩ := by rw [add_lit', Nat.zero_add]
  have hneg : ¬ ((q : Int) < 0) := by omega
  simp only [Builtin.append_, Sem.run_bind, run_underlying ht, run_underlying hk, sizeOf, typeInfo, run_program, hi, Sem.run_pure, Result.andThen, asInt, asIntOf, hw, hneg, hbi, if_true, if_false, Int.toNat_natCast, hn0, hroom, zeroValue, hz, zeroCells_zeros, hadd, hst, List.getElem?_toArray, List.getElem?_cons_zero, List.getElem?_cons_succ, Bool.not_true, Bool.false_eq_true]
theorem run_appendZ_grow {w : World} {e : TypeId} {ti : TypeInfo} {q : Nat} (ht : P.underlying t = some (.slice e)) (hk : P.underlying tx = some (.int ki)) (hi : P.info? e = some ti) (hz : ti.zero = some z) (hq0 : 0 < q) (hsz : 0 < ti.size) (hb : q * ti.bytes ≤ 281474976710656)
    {base : Option Addr} {sLen sCap : Nat} {olds : List Value} (h63 : sLen + q ≤ 9223372036854775807) (hold : (Builtin.firstCells ti.size sLen (.slice base sLen sCap)).run P w.drew = .ok olds.toArray w.drew) (hg : sCap < sLen + q) (hfit : Builtin.nextslicecap (sLen + q) sCap * ti.bytes ≤ 281474976710656) :
    (Builtin.append_ #[t, tx] ty #[.slice base sLen sCap, .int kd (q : Int)]).run P w = .ok (.slice (some ⟨w.heap.size, 0, none⟩) (sLen + q) (grownCap w (sLen + q) sCap e))
        (w.drew.alloc (.cells ((olds ++ zeros z q).toArray ++ Builtin.zeroCells z.cells (grownCap w (sLen + q) sCap e - (sLen + q))) e)) := by
  have hw : IntKind.i64.wrap (q : Int) = (q : Int) := by rw [IntKind.wrap_i64]; omega
  have hn0 : ¬ (q * ti.size = 0) := by rw [Nat.mul_eq_zero]; omega
  have hbi : ¬ ((q : Int) * (ti.bytes : Int) > 2 ^ 48) := by
    have : ((q * ti.bytes : Nat) : Int) ≤ ((281474976710656 : Nat) : Int) := Int.ofNat_le.2 hb
    simp at this ⊢; omega
  have hneg : ¬ ((q : Int) < 0) := by omega
  have hn : ¬ (sLen + q ≤ sCap) := by omega
  have h63' : ¬ (9223372036854775807 < ((sLen : Int) + (q : Int))) := by omega
  have h48' : ¬ (281474976710656 < Builtin.nextslicecap (sLen + q) sCap * ti.bytes) := by omega
  have hbi' : ¬ (281474976710656 < (q : Int) * (ti.bytes : Int)) := by simp at hbi ⊢; omega
  simp [Builtin.append_, run_underlying ht, run_underlying hk, sizeOf, typeInfo, zeroValue, asInt, asIntOf, hw, hneg, hbi', hi, hz, hn, h63', h48', Question.forced, hold, newRow, grownCap, zeroCells_zeros]
  exact fun h0 => absurd h0 hn0

theorem J.appendZ (h : Nat) (hh : lk lS h = none) {e size bytes q m' : Nat} {i : RowIx} {cs : List Value} (ht : P.underlying t = some (.slice e)) (hk : P.underlying tx = some (.int ki)) (he : ElT P e size bytes z) (hl : lk l h = some (i.ent e cs)) (hi : i.Ok size q) (hcs : cs.length = q * size)
    (hx : ev σ x = some (i.val q)) (hy : ev σ y = some (.int kd n)) (hn : n = (m' : Int)) (hm0 : 0 < m') (hb : (q + m') * bytes ≤ 140737488355328) (h63 : q + m' ≤ maxLen) (hd : okd N d) (q' : Nat) (hq' : q + m' = q') (cs' : List Value) (hcs' : cs ++ zeros z m' = cs')
    (hJ : ∀ i' : RowIx, i'.Ok size q' → J P ops F w0 M N lS L (putd d (i'.val q') σ) ((h, i'.ent e cs') :: l)) :
    J P ops F w0 M N lS ((⟨d, .call ⟨.builtin .append, #[x, y], #[t, tx]⟩, ty, p, af, none⟩, .l) :: L) σ l := by
  subst hq'; subst hcs'; subst hn
  refine J.loud rfl hd (ι := RowIx) (fun i' => i'.Ok size (q + m')) (fun i' => i'.val (q + m')) (fun i' => (h, i'.ent e (cs ++ zeros z m')) :: l) (fun _ _ hs => hs.fresh hh) (fun a ha w hw => ?_) hJ
  rw [run_builtin ha (args := [i.val q, .int kd (m' : Int)]) (by simp [evs, hx, hy]) w]
  have h1 := zeros_one he m'
  obtain ⟨ti, hti, htz, hts, htb⟩ := he.open
  have hzs := he.2.1
  have hsz := he.2.2.1
  subst hts; subst htb
  have hsmall : q + m' ≤ 9223372036854775807 := by simp only [maxLen] at h63; omega
  have hmb : m' * ti.bytes ≤ 281474976710656 := by
    have : m' * ti.bytes ≤ (q + m') * ti.bytes := Nat.mul_le_mul_right _ (by omega)
    omega
  have hzl : (zeros z m').length = m' * ti.size := by rw [zeros_length, hzs]
  have hat := hw.live h _ hl
  have fresh : ∀ (old : Nat) (w1 : World), w1 = w.drew.alloc (.cells ((cs ++ zeros z m').toArray ++ Builtin.zeroCells z.cells (grownCap w (q + m') old e - (q + m'))) e) →
      ∃ i' : RowIx, i'.Ok ti.size (q + m') ∧ Value.slice (some ⟨w.heap.size, 0, none⟩) (q + m') (grownCap w (q + m') old e) = i'.val (q + m') ∧ WS w0 M ((h, i'.ent e (cs ++ zeros z m')) :: l) w1 := by
    intro old w1 hw1
    have hge := grownCap_ge w (q + m') old e
    refine ⟨⟨some w.heap.size, grownCap w (q + m') old e, (Builtin.zeroCells z.cells (grownCap w (q + m') old e - (q + m'))).toList⟩, ⟨hge, grownCap_le_maxLen w (q + m') old e h63, ?_, fun h => by simp at h, zeroCells_one he _⟩, rfl, ?_⟩
    · rw [Array.length_toList, size_zeroCells, hzs, ← Nat.add_mul, Nat.add_sub_of_le hge]
    · rw [hw1]
      have := hw.drew.alloc h (cs ++ zeros z m' ++ (Builtin.zeroCells z.cells (grownCap w (q + m') old e - (q + m'))).toList) e
      simp only [RowIx.ent]
      have e1 : ((cs ++ zeros z m').toArray ++ Builtin.zeroCells z.cells (grownCap w (q + m') old e - (q + m'))) = (cs ++ zeros z m' ++ (Builtin.zeroCells z.cells (grownCap w (q + m') old e - (q + m'))).toList).toArray := by simp
      rw [e1]
      exact this
  cases hid : i.id with
  | none =>
    have hc0 := hi.none hid
    have hq0 : q = 0 := by have := hi.le; omega
    subst hq0
    have hcs0 : cs = [] := List.eq_nil_of_length_eq_zero (by simpa using hcs)
    subst hcs0
    have hval : i.val 0 = .slice none 0 0 := by simp [RowIx.val, hid, hdOf, hc0]
    have hr := run_appendZ_grow (P := P) (w := w) (ty := ty) (kd := kd) (base := none) (sLen := 0) (sCap := 0) (olds := []) ht hk hti htz hm0 hsz hmb (by omega) (by simpa using run_firstCells_none (P := P) w.drew ti.size 0 0 0) (by omega) (growslice_fits (by omega) hb)
    obtain ⟨i', hi', hv', hw'⟩ := fresh 0 _ rfl
    rw [hval]
    simp only [builtin, Sem.run_bind, hr, Result.andThen]
    exact ⟨i', hi', hv', hw'⟩
  | some g =>
    have hval : i.val q = .slice (some ⟨g, 0, none⟩) q i.cap := by simp [RowIx.val, hid, hdOf]
    rw [hval]
    by_cases hroom : q + m' ≤ i.cap
    · have hlen := hi.len
      have hfit : q * ti.size + (zeros z m').length ≤ (i.ent e cs).cs.length := by
        simp only [RowIx.ent, List.length_append, hcs, hzl, hlen, ← Nat.add_mul]
        exact Nat.mul_le_mul_right _ hroom
      have hr := run_appendZ_room (P := P) (w := w) (ty := ty) (kd := kd) (sCap := i.cap) ht hk hti htz hm0 hsz hmb (by omega) (g := g) (en := i.ent e cs) (by simp [RowIx.ent, hid]) hat hroom hfit h1
      simp only [builtin, Sem.run_bind, hr, Result.andThen]
      refine ⟨⟨some g, i.cap, i.sp.drop (zeros z m').length⟩, ⟨hroom, hi.max, ?_, fun h => by simp at h, fun u hu => hi.one u (List.mem_of_mem_drop hu)⟩, rfl, ?_⟩
      · simp only [List.length_drop, hzl, Nat.add_mul] at hfit ⊢
        simp only [RowIx.ent, List.length_append, hcs] at hfit
        omega
      · have hset := hw.set hl (g := g) (by simp [RowIx.ent, hid]) (cs ++ zeros z m' ++ i.sp.drop (zeros z m').length)
        have e1 : put (i.ent e cs).cs (q * ti.size) (zeros z m') = cs ++ zeros z m' ++ i.sp.drop (zeros z m').length := by
          rw [← hcs]
          simp [put, RowIx.ent, List.drop_append]
        rw [e1]
        simp only [RowIx.ent, hid] at hset ⊢
        exact hset
    · have holds : ∀ j u, cs[j]? = some u → w.drew.cell? ((⟨g, 0, none⟩ : Addr).add j) = some u := fun j u hj => by
        rw [add_lit', Nat.zero_add]
        have := hw.drew.cell hl (o := j) (v := u) (by simp only [RowIx.ent]; rw [List.getElem?_append_left (List.getElem?_eq_some_iff.1 hj).1]; exact hj)
        simpa [RowIx.ent, hid] using this
      have hr := run_appendZ_grow (P := P) (w := w) (ty := ty) (kd := kd) (base := some ⟨g, 0, none⟩) (sLen := q) (sCap := i.cap) (olds := cs) ht hk hti htz hm0 hsz hmb (by omega) (run_firstCells_some (P := P) w.drew ti.size q ⟨g, 0, none⟩ q i.cap cs hcs holds) (by omega) (growslice_fits (by omega) hb)
      simp only [builtin, Sem.run_bind, hr, Result.andThen]
      exact fresh i.cap _ rfl
end Go.Fw
set_option linter.unusedVariables false
namespace Go.Fw
open Go

/-! ### Bytes written over -/
def putB (bs : List Nat) (o : Nat) (xs : List Nat) : List Nat := bs.take o ++ xs ++ bs.drop (o + xs.length)
theorem putB_length {bs : List Nat} {o : Nat} {xs : List Nat} (h : o + xs.length ≤ bs.length) : (putB bs o xs).length = bs.length := by
  unfold putB; rw [List.length_append, List.length_append, List.length_take, List.length_drop]; omega
theorem putB_nil (bs : List Nat) (o : Nat) : putB bs o [] = bs := by unfold putB; simp
theorem putB_dg {bs xs : List Nat} (h : Dg bs) (hx : Dg xs) (o : Nat) : Dg (putB bs o xs) := ((h.take o).append hx).append (h.drop _)
theorem put_rowN (kd : IntKind) (bs : List Nat) (sp : List Value) (o : Nat) (xs : List Nat) (h : o + xs.length ≤ bs.length) : put (rowN kd bs ++ sp) o (rowN kd xs) = rowN kd (putB bs o xs) ++ sp := by
  have hl := rowN_length kd bs
  unfold put putB
  rw [rowN_length, List.take_append_of_le_length (by omega), List.drop_append_of_le_length (by omega), rowN_append, rowN_append]
  simp [rowN, List.map_take, List.map_drop]
theorem putB_get {bs : List Nat} {o : Nat} {xs : List Nat} (h : o + xs.length ≤ bs.length) (q : Nat) : (putB bs o xs).getD q 0 = if o ≤ q ∧ q < o + xs.length then xs.getD (q - o) 0 else bs.getD q 0 := by
  have hl : (bs.take o).length = o := by rw [List.length_take]; omega
  unfold putB
  rw [List.append_assoc]
  by_cases h1 : q < o
  · rw [getD_append_left _ _ _ (by omega), getD_take _ _ _ h1, if_neg (by omega)]
  · obtain ⟨k, rfl⟩ : ∃ k, q = (bs.take o).length + k := ⟨q - o, by omega⟩
    rw [getD_append_right]
    by_cases h2 : k < xs.length
    · rw [getD_append_left _ _ _ h2, if_pos (by omega)]
      congr 1; omega
    · obtain ⟨j, rfl⟩ : ∃ j, k = xs.length + j := ⟨k - xs.length, by omega⟩
      rw [getD_append_right, if_neg (by omega), List.getD_eq_getElem?_getD, List.getElem?_drop, List.getD_eq_getElem?_getD, hl]
      congr 2; omega

/-! ### Pieces -/
def pieceE (L : Nat) (a n : Int) : Nat := if a < 0 ∨ n < 0 then 1 else if n = 0 then 0 else if n > L ∨ a > L - n then 92 else 0
def cutB (bs : List Nat) (a n : Int) : List Nat := if pieceE bs.length a n = 0 then (bs.drop a.toNat).take n.toNat else []
def pieceA (i : RowIx) (bs : List Nat) (a n : Int) : Option Addr := if cutB bs a n = [] then none else some ⟨i.id.getD 0, a.toNat, none⟩
abbrev pieceV (i : RowIx) (bs : List Nat) (a n : Int) : Value := .slice (pieceA i bs a n) (cutB bs a n).length (cutB bs a n).length
theorem pieceE_bad {L : Nat} {a n : Int} (h : a < 0 ∨ n < 0) : pieceE L a n = 1 := by unfold pieceE; rw [if_pos h]
theorem pieceE_zero {L : Nat} {a n : Int} (h : ¬ (a < 0 ∨ n < 0)) (h0 : n = 0) : pieceE L a n = 0 := by unfold pieceE; rw [if_neg h, if_pos h0]
theorem pieceE_far {L : Nat} {a n : Int} (h : ¬ (a < 0 ∨ n < 0)) (h0 : ¬ n = 0) (h2 : n > L ∨ a > L - n) : pieceE L a n = 92 := by unfold pieceE; rw [if_neg h, if_neg h0, if_pos h2]
theorem pieceE_ok {L : Nat} {a n : Int} (h : ¬ (a < 0 ∨ n < 0)) (h0 : ¬ n = 0) (h2 : ¬ (n > L ∨ a > L - n)) : pieceE L a n = 0 := by unfold pieceE; rw [if_neg h, if_neg h0, if_neg h2]
theorem pieceE_iff {L : Nat} {a n : Int} : pieceE L a n = 0 ↔ 0 ≤ a ∧ 0 ≤ n ∧ (n = 0 ∨ a + n ≤ L) := by unfold pieceE; split; omega; split; omega; split <;> omega
theorem pieceE_le (L : Nat) (a n : Int) : pieceE L a n ≤ 92 := by unfold pieceE; split; omega; split; omega; split <;> omega
theorem cutB_no {bs : List Nat} {a n : Int} (h : pieceE bs.length a n ≠ 0) : cutB bs a n = [] := by unfold cutB; rw [if_neg h]
theorem cutB_zero (bs : List Nat) (a n : Int) (h : n = 0) : cutB bs a n = [] := by subst h; unfold cutB; split <;> simp
theorem cutB_ok {bs : List Nat} {a n : Int} (h : pieceE bs.length a n = 0) : cutB bs a n = (bs.drop a.toNat).take n.toNat := by unfold cutB; rw [if_pos h]
theorem cutB_len {bs : List Nat} {a n : Int} (h : pieceE bs.length a n = 0) : (cutB bs a n).length = n.toNat := by
  rw [cutB_ok h, List.length_take, List.length_drop]
  have := pieceE_iff.1 h
  omega
theorem cutB_dg {bs : List Nat} (h : Dg bs) (a n : Int) : Dg (cutB bs a n) := by
  unfold cutB; split
  · exact (h.drop _).take _
  · exact Dg.nil
theorem cutB_le (bs : List Nat) (a n : Int) : (cutB bs a n).length ≤ bs.length := by
  unfold cutB; split
  · rw [List.length_take, List.length_drop]; omega
  · simp
theorem cutB_get {bs : List Nat} {a n : Int} (h : pieceE bs.length a n = 0) (q : Nat) (hq : q < n.toNat) : (cutB bs a n).getD q 0 = bs.getD (a.toNat + q) 0 := by
  rw [cutB_ok h, getD_take _ _ _ hq, List.getD_eq_getElem?_getD, List.getElem?_drop, List.getD_eq_getElem?_getD]
theorem cutB_all (bs : List Nat) : cutB bs 0 (bs.length : Nat) = bs := by
  have : pieceE bs.length 0 (bs.length : Nat) = 0 := pieceE_iff.2 ⟨by omega, by omega, by omega⟩
  rw [cutB_ok this]; simp
theorem pieceV_nil {i : RowIx} {bs : List Nat} {a n : Int} (h : cutB bs a n = []) : pieceV i bs a n = .slice none 0 0 := by simp [pieceV, pieceA, h]
theorem pieceV_ok {i : RowIx} {bs : List Nat} {a n : Int} (h : pieceE bs.length a n = 0) (h0 : 0 < n) : pieceV i bs a n = .slice (some ⟨i.id.getD 0, a.toNat, none⟩) n.toNat n.toNat := by
  have hl := cutB_len h
  have : cutB bs a n ≠ [] := fun e => by rw [e] at hl; simp at hl; omega
  simp [pieceV, pieceA, this, hl]
theorem cut_cs {w : World} {i : RowIx} {bs : List Nat} (h : Cs w (hdOf i.id) (rowN .u8 bs)) (a n : Int) : Cs w (pieceA i bs a n) (rowN .u8 (cutB bs a n)) := by
  unfold pieceA
  split
  · rename_i e; rw [e]; exact Cs.nil _ _
  · rename_i hne
    have hz : pieceE bs.length a n = 0 := Classical.byContradiction fun e => hne (cutB_no e)
    have hb : bs ≠ [] := fun e => hne (by rw [cutB_ok hz, e]; simp)
    have hs := h.isSomeN (List.length_pos_iff.2 hb)
    have h2 := (h.drop a.toNat).take n.toNat
    rw [cutB_ok hz]
    have e1 : rowN .u8 ((bs.drop a.toNat).take n.toNat) = ((rowN .u8 bs).drop a.toNat).take n.toNat := by simp [rowN, List.map_take, List.map_drop]
    rw [e1]
    cases hid : i.id with
    | none => rw [hid] at hs; simp [hdOf] at hs
    | some g => rw [hid] at h2; simpa [hdOf, add_lit'] using h2
def writeB (bs : List Nat) (a : Int) (xs : List Nat) : List Nat := if pieceE bs.length a (xs.length : Nat) = 0 then putB bs a.toNat xs else bs
theorem piece_fit {bs xs : List Nat} {a : Int} (h : pieceE bs.length a (xs.length : Nat) = 0) (hx : xs ≠ []) : a.toNat + xs.length ≤ bs.length := by
  have h1 := pieceE_iff.1 h
  have := List.length_pos_iff.2 hx
  omega
theorem writeB_yes {bs xs : List Nat} {a : Int} (h : pieceE bs.length a (xs.length : Nat) = 0) : writeB bs a xs = putB bs a.toNat xs := by unfold writeB; rw [if_pos h]
theorem writeB_no {bs xs : List Nat} {a : Int} (h : pieceE bs.length a (xs.length : Nat) ≠ 0) : writeB bs a xs = bs := by unfold writeB; rw [if_neg h]
theorem writeB_nil (bs : List Nat) (a : Int) : writeB bs a [] = bs := by unfold writeB; split; exact putB_nil _ _; rfl
theorem writeB_length (bs : List Nat) (a : Int) (xs : List Nat) : (writeB bs a xs).length = bs.length := by
  by_cases hx : xs = []
  · subst hx; rw [writeB_nil]
  · unfold writeB; split
    · rename_i h; exact putB_length (piece_fit h hx)
    · rfl
theorem writeB_dg {bs xs : List Nat} (h : Dg bs) (hx : Dg xs) (a : Int) : Dg (writeB bs a xs) := by
  unfold writeB; split
  · exact putB_dg h hx _
  · exact h
def moveE (L : Nat) (t f n : Int) : Nat := if t < 0 ∨ f < 0 ∨ n < 0 then 1 else if pieceE L f n ≠ 0 ∨ pieceE L t n ≠ 0 then 92 else 0
def moveB (bs : List Nat) (t f n : Int) : List Nat := if moveE bs.length t f n = 0 then writeB bs t (cutB bs f n) else bs
theorem moveB_length (bs : List Nat) (t f n : Int) : (moveB bs t f n).length = bs.length := by unfold moveB; split; exact writeB_length _ _ _; rfl
theorem moveB_dg {bs : List Nat} (h : Dg bs) (t f n : Int) : Dg (moveB bs t f n) := by
  unfold moveB; split
  · exact writeB_dg h (cutB_dg h _ _) _
  · exact h
def loadX (bs : List Nat) (a : Int) : Nat := if pieceE bs.length a 32 = 0 then vl (cutB bs a 32).reverse else 0
def growL (L : Nat) (to : Int) : Nat := if to < 0 ∨ to > 4194304 then L else max L ((to.toNat + 31) / 32 * 32)
def growE (to : Int) : Nat := if to < 0 then 1 else if to > 4194304 then 92 else 0
def growB (bs : List Nat) (to : Int) : List Nat := bs ++ List.replicate (growL bs.length to - bs.length) 0
theorem growL_ge (L : Nat) (to : Int) : L ≤ growL L to := by unfold growL; split <;> omega
theorem growB_length (bs : List Nat) (to : Int) : (growB bs to).length = growL bs.length to := by
  have := growL_ge bs.length to
  unfold growB; rw [List.length_append, List.length_replicate]; omega
theorem dg_zeros (n : Nat) : Dg (List.replicate n 0) := fun x hx => by have := List.eq_of_mem_replicate hx; omega
theorem growB_dg {bs : List Nat} (h : Dg bs) (to : Int) : Dg (growB bs to) := h.append (dg_zeros _)
theorem growB_no {bs : List Nat} {to : Int} (h : growL bs.length to = bs.length) : growB bs to = bs := by unfold growB; rw [h]; simp
def reachN (L x y : Nat) : Nat := if y % 2 ^ 256 = 0 then L else if x % 2 ^ 256 + y % 2 ^ 256 > 4194304 then 0 else max L ((x % 2 ^ 256 + y % 2 ^ 256 + 31) / 32 * 32)
def reachB (x y : Nat) : Bool := decide (y % 2 ^ 256 = 0 ∨ x % 2 ^ 256 + y % 2 ^ 256 ≤ 4194304)

/-- A memory's row. -/
structure MOk (i : RowIx) (bs : List Nat) : Prop where
  ok : i.Ok 1 bs.length
  le : bs.length ≤ 4194304
  dg : Dg bs
  mul : bs.length % 32 = 0
theorem MOk.nil : MOk RowIx.nil [] := ⟨RowIx.nil_ok 1, by simp, Dg.nil, rfl⟩
theorem MOk.write {i : RowIx} {bs xs : List Nat} (h : MOk i bs) (hx : Dg xs) (a : Int) : MOk i (writeB bs a xs) := by
  have hl := writeB_length bs a xs
  exact ⟨by rw [hl]; exact h.ok, by rw [hl]; exact h.le, writeB_dg h.dg hx a, by rw [hl]; exact h.mul⟩
theorem MOk.move {i : RowIx} {bs : List Nat} (h : MOk i bs) (t f n : Int) : MOk i (moveB bs t f n) := by
  have hl := moveB_length bs t f n
  exact ⟨by rw [hl]; exact h.ok, by rw [hl]; exact h.le, moveB_dg h.dg _ _ _, by rw [hl]; exact h.mul⟩

abbrev memM (g : Nat) (i : RowIx) : List Nat := [g] ++ i.id.toList
abbrev memE (tm tb : TypeId) (g : Nat) (i : RowIx) (bs : List Nat) : List (Nat × Ent) := [(0, ⟨some g, tm, [i.val bs.length]⟩), (1, i.ent tb (rowN .u8 bs))]
/-- A memory lies in w. -/
structure MemAt (w : World) (tm tb : TypeId) (g : Nat) (i : RowIx) (bs : List Nat) : Prop where
  obj : Ent.At w ⟨some g, tm, [i.val bs.length]⟩
  row : Ent.At w (i.ent tb (rowN .u8 bs))
  ne : i.id ≠ some g
section
variable {P : Program} {ops : Array Oper} {F : Act → World → Prop} {w0 w w' : World} {M : List Nat} {N : Nat} {L : List (Oper × K)} {σ : List (Nat × Value)} {l lS : List (Nat × Ent)} {d : Option Tmp} {ty : TypeId} {p : String} {af : Array Edge} {x y : Operand} {v z : Value} {t : TypeId} {kd : IntKind} {k : K}
  {tm tb : TypeId} {g : Nat} {i : RowIx} {bs : List Nat}

/-- Two entries alone. -/
theorem WS.two' {e1 e2 : Ent} (h1 : e1.At w) (h2 : e2.At w) (hne : ∀ g, e1.id = some g → e2.id ≠ some g) : WS w (e1.id.toList ++ e2.id.toList) [(0, e1), (1, e2)] w := by
  have key : ∀ j e, lk [(0, e1), (1, e2)] j = some e → (j = 0 ∧ e = e1) ∨ (j = 1 ∧ e = e2) := by
    intro j e h
    rw [lk_cons, lk_cons] at h
    split at h
    · simp at h; exact .inl ⟨by omega, h.symm⟩
    · split at h
      · simp at h; exact .inr ⟨by omega, h.symm⟩
      · simp [lk] at h
  refine ⟨rfl, rfl, rfl, Nat.le_refl _, fun _ _ _ => rfl, fun j e he => ?_, fun j j' e e' g' h3 h4 hn hg => ?_, fun j e g' he hg => ?_⟩
  · rcases key j e he with ⟨_, rfl⟩ | ⟨_, rfl⟩
    · exact h1
    · exact h2
  · rcases key j e h3 with ⟨rfl, rfl⟩ | ⟨rfl, rfl⟩ <;> rcases key j' e' h4 with ⟨rfl, rfl⟩ | ⟨rfl, rfl⟩
    · exact absurd rfl hn
    · exact hne g' hg
    · exact fun h => hne g' h hg
    · exact absurd rfl hn
  · rcases key j e he with ⟨_, rfl⟩ | ⟨_, rfl⟩
    · exact .inr (by simp [hg])
    · exact .inr (by simp [hg])
theorem MemAt.start (h : MemAt w tm tb g i bs) : WS w (memM g i) (memE tm tb g i bs) w :=
  WS.two' (e1 := ⟨some g, tm, [i.val bs.length]⟩) (e2 := i.ent tb (rowN .u8 bs)) h.obj h.row (fun q hq => by simp at hq; subst hq; exact h.ne)
theorem MemAt.ws (h : MemAt w0 tm tb g i bs) (hw : WS w0 [] l w) : MemAt w tm tb g i bs :=
  ⟨h.obj.same fun q hq => hw.keep q (h.obj.lt hq) (by simp), h.row.same fun q hq => hw.keep q (h.row.lt hq) (by simp), h.ne⟩
theorem WS.memAt (hw : WS w0 M l w) (a b : Nat) (h1 : lk l a = some ⟨some g, tm, [i.val bs.length]⟩) (h2 : lk l b = some (i.ent tb (rowN .u8 bs))) (hab : a ≠ b) : MemAt w tm tb g i bs :=
  ⟨hw.live a _ h1, hw.live b _ h2, fun e => hw.apart a b _ _ g h1 h2 hab rfl e⟩
theorem MemAt.objCs (h : MemAt w tm tb g i bs) : Cs w (some ⟨g, 0, none⟩) [i.val bs.length] := h.start.blkCs (k := 0) rfl
theorem MemAt.rowCs (h : MemAt w tm tb g i bs) : Cs w (hdOf i.id) (rowN .u8 bs) := h.start.rowCs (k := 1) rfl
theorem Cs.wsN {A : Option Addr} {xs : List Nat} (h : Cs w0 A (rowN kd xs)) (hw : WS w0 M l w) (ho : xs ≠ [] → Off M A) : Cs w A (rowN kd xs) := by
  by_cases hx : xs = []
  · subst hx; exact Cs.nil _ _
  · exact h.ws hw (ho hx)
theorem WS.offMem (hw : WS w0 M l w) (a b : Nat) (h1 : lk l a = some ⟨some g, tm, [i.val bs.length]⟩) (h2 : lk l b = some (i.ent tb (rowN .u8 bs))) (j : Nat) {e : Ent} (hj : lk l j = some e) (hja : j ≠ a) (hjb : j ≠ b) : Off (memM g i) (hdOf e.id) := by
  intro ad had hin
  cases hid : e.id with
  | none => rw [hid] at had; cases had
  | some q =>
    rw [hid] at had
    simp [hdOf] at had
    subst had
    simp only [memM, List.mem_append, List.mem_singleton, Option.mem_toList] at hin
    rcases hin with rfl | hin
    · exact hw.apart j a _ _ q hj h1 hja hid rfl
    · exact hw.apart j b _ _ q hj h2 hjb hid hin
theorem WS.offIn (hw : WS w0 [] l w) (a b : Nat) (h1 : lk l a = some ⟨some g, tm, [i.val bs.length]⟩) (h2 : lk l b = some (i.ent tb (rowN .u8 bs))) {A : Option Addr} {xs : List Nat} (hc : Cs w0 A (rowN kd xs)) : xs ≠ [] → Off (memM g i) A := by
  intro hx ad had hin
  have hp : 0 < (rowN kd xs).length := by rw [rowN_length]; exact List.length_pos_iff.2 hx
  obtain ⟨ad', ha, hcell⟩ := hc 0 ((rowN kd xs)[0]) (List.getElem?_eq_getElem hp)
  rw [had] at ha
  simp at ha; subst ha
  have hlt := World.block_lt_of_cell? _ _ hcell
  rw [Addr.add_block] at hlt
  simp only [memM, List.mem_append, List.mem_singleton, Option.mem_toList] at hin
  rcases hin with h3 | h3
  · rcases hw.own a _ g h1 rfl with h4 | h4
    · omega
    · simp at h4
  · rcases hw.own b _ _ h2 h3 with h4 | h4
    · omega
    · simp at h4
theorem memOff {A : Option Addr} (h : ∀ ad, A = some ad → ad.block ∉ memM g i) : Off (memM g i) A := h
/-- Behind a call the memory is as it must be. -/
def MemPost (w : World) (tm tb : TypeId) (g : Nat) (i : RowIx) (v : Value) (bs' : List Nat) (e : Ending) (w' : World) : Prop :=
  ∃ i' : RowIx, MOk i' bs' ∧ e = .returned v ∧ WS w (memM g i) (memE tm tb g i' bs') w'
theorem MemPost.mk' {bs' : List Nat} {e : Ending} {v' : Value} (i' : RowIx) (hm : MOk i' bs') (he : e = .returned v') (hv : v' = v) (hw : WS w (memM g i) l w') (h1 : lk l 0 = some ⟨some g, tm, [i'.val bs'.length]⟩) (h2 : lk l 1 = some (i'.ent tb (rowN .u8 bs'))) : MemPost w tm tb g i v bs' e w' :=
  ⟨i', hm, by rw [he, hv], hw.pairOf 0 1 h1 h2 (by omega) 0 1 (by omega)⟩
theorem J.callMem (a b : Nat) (hab : a ≠ b) {bs' : List Nat} (h1 : lk l a = some ⟨some g, tm, [i.val bs.length]⟩) (h2 : lk l b = some (i.ent tb (rowN .u8 bs))) (ha : lk lS a = none) (hb : lk lS b = none) {f : FuncId} (hf : FnOk P f) {xs : Array Operand} {tys : Array TypeId} {args : List Value} (hx : evs σ xs.toList = some args) (hd : okd N d)
    (spec : ∀ w, WS w0 M l w → Calls P f args.toArray w (MemPost w tm tb g i v bs'))
    (hJ : ∀ i', MOk i' bs' → J P ops F w0 M N lS L (putd d v σ) ((a, ⟨some g, tm, [i'.val bs'.length]⟩) :: (b, i'.ent tb (rowN .u8 bs')) :: l)) :
    J P ops F w0 M N lS ((⟨d, .call ⟨.value (.func f), xs, tys⟩, ty, p, af, none⟩, .l) :: L) σ l :=
  J.call hf hx hd (ι := RowIx) (fun i' => MOk i' bs') (fun _ => v) (memM g i) (fun i' => [(a, ⟨some g, tm, [i'.val bs'.length]⟩), (b, i'.ent tb (rowN .u8 bs'))])
    (fun w hw => (spec w hw).mono fun e w' ⟨i', hi, he, hw'⟩ => ⟨i', hi, he, hw'.pairOf 0 1 rfl rfl (by omega) a b hab⟩)
    (fun i' hi q hq => by
      simp only [memM, List.mem_append, List.mem_singleton, Option.mem_toList] at hq
      rcases hq with rfl | hq
      · exact ⟨a, _, _, h1, rfl, by rw [lk_cons, if_pos rfl]⟩
      · exact ⟨b, _, _, h2, hq, by rw [lk_cons, if_neg hab, lk_cons, if_pos rfl]⟩)
    (fun i' q e he => by
      rw [lk_cons, lk_cons] at he
      split at he
      · rename_i hk; subst hk; exact ha
      · split at he
        · rename_i hk; subst hk; exact hb
        · simp [lk] at he) (fun i' hi => hJ i' hi)
end

/-! ### What the calls' walks need -/
theorem testBit_hi (j : Nat) : (18446744073709551584 : Nat).testBit j = (decide (5 ≤ j) && decide (j < 64)) := by
  have e : (18446744073709551584 : Nat) = (2 ^ 59 - 1) * 2 ^ 5 := by decide
  rw [e, Nat.testBit_mul_two_pow, Nat.testBit_two_pow_sub_one]
  by_cases h : 5 ≤ j
  · simp only [h, decide_true, Bool.true_and]
    exact decide_eq_decide.2 (by omega)
  · simp [h]
theorem andNot31 (m : Nat) (h : m < 9223372036854775808) : bits .andNot .i64 (m : Int) 31 = ((m / 32 * 32 : Nat) : Int) := by
  have h1 : (BitVec.ofInt 64 (m : Int)).toNat = m := by rw [BitVec.toNat_ofInt]; omega
  have h2 : (~~~ BitVec.ofInt 64 31).toNat = 18446744073709551584 := by decide
  have key : (BitVec.ofInt 64 (m : Int) &&& ~~~ BitVec.ofInt 64 31).toNat = m / 32 * 32 := by
    rw [BitVec.toNat_and, h1, h2]
    apply Nat.eq_of_testBit_eq
    intro j
    rw [Nat.testBit_and, testBit_hi, show m / 32 * 32 = m / 2 ^ 5 * 2 ^ 5 from rfl, Nat.testBit_mul_two_pow, Nat.testBit_div_two_pow]
    by_cases hj : 5 ≤ j
    · rw [Nat.sub_add_cancel hj]
      by_cases hj2 : j < 64
      · simp [hj, hj2]
      · have : m.testBit j = false := Nat.testBit_lt_two_pow (Nat.lt_of_lt_of_le (show m < 2 ^ 63 by omega) (Nat.pow_le_pow_right (by omega) (by omega)))
        simp [this]
    · simp [hj]
  show IntKind.i64.wrap ((BitVec.ofInt 64 (m : Int) &&& ~~~ BitVec.ofInt 64 31).toNat : Nat) = _
  rw [key]
  exact wrap_nat64 _ (by omega)
theorem piece_bad' {i : RowIx} {bs : List Nat} {a n : Int} (h : a < 0 ∨ n < 0) : pieceV i bs a n = .slice none 0 0 ∧ pieceE bs.length a n = 1 := ⟨pieceV_nil (cutB_no (by rw [pieceE_bad h]; omega)), pieceE_bad h⟩
theorem piece_zero' {i : RowIx} {bs : List Nat} {a n : Int} (h : ¬ (a < 0 ∨ n < 0)) (h0 : n = 0) : pieceV i bs a n = .slice none 0 0 ∧ pieceE bs.length a n = 0 := ⟨pieceV_nil (cutB_zero _ _ _ h0), pieceE_zero h h0⟩
theorem piece_far' {i : RowIx} {bs : List Nat} {a n : Int} (h : ¬ (a < 0 ∨ n < 0)) (h0 : ¬ n = 0) (h2 : n > bs.length ∨ a > bs.length - n) : pieceV i bs a n = .slice none 0 0 ∧ pieceE bs.length a n = 92 := ⟨pieceV_nil (cutB_no (by rw [pieceE_far h h0 h2]; omega)), pieceE_far h h0 h2⟩
theorem slice_piece {i : RowIx} {bs : List Nat} {p q : Nat} (hm : MOk i bs) (h : p + q ≤ bs.length) (hq : 0 < q) : Value.slice (if p + q = p then hdOf i.id else (hdOf i.id).map (·.add (p * 1))) (p + q - p) (p + q - p) = pieceV i bs (p : Int) (q : Int) ∧ pieceE bs.length (p : Int) (q : Int) = 0 := by
  have hE : pieceE bs.length (p : Int) (q : Int) = 0 := pieceE_iff.2 ⟨by omega, by omega, by omega⟩
  refine ⟨?_, hE⟩
  rw [pieceV_ok hE (by omega), if_neg (by omega)]
  have hs := hm.ok.some (by omega)
  cases hid : i.id with
  | none => rw [hid] at hs; simp at hs
  | some g => simp [hdOf, add_lit']
/-- What a write takes of its bytes, and where. -/
def wN (bs : List Nat) (a : Int) (xs : List Nat) : List Nat := if pieceE bs.length a (xs.length : Nat) = 0 then xs else []
def wO (bs : List Nat) (a : Int) (xs : List Nat) : Nat := if wN bs a xs = [] then 0 else a.toNat
theorem wN_dg {bs xs : List Nat} {a : Int} (h : Dg xs) : Dg (wN bs a xs) := by unfold wN; split; exact h; exact Dg.nil
theorem wN_min (bs xs : List Nat) (a : Int) : min xs.length (cutB bs a (xs.length : Nat)).length = (wN bs a xs).length := by
  unfold wN; split
  · rename_i h; rw [cutB_len h]; simp
  · rename_i h; rw [cutB_no h]; simp
theorem wN_fit (bs xs : List Nat) (a : Int) : wO bs a xs + (wN bs a xs).length ≤ bs.length := by
  unfold wO; split
  · rename_i h; rw [h]; simp
  · rename_i h
    unfold wN at h ⊢
    split at h
    · rename_i hE; rw [if_pos hE]; exact piece_fit hE h
    · exact absurd rfl h
theorem wN_addr {bs xs : List Nat} {a : Int} {i : RowIx} (h : rowN .u8 (wN bs a xs) ≠ []) : pieceA i bs a (xs.length : Nat) = some ⟨i.id.getD 0, wO bs a xs, none⟩ := by
  have h0 : wN bs a xs ≠ [] := fun e => h (by rw [e]; rfl)
  have hl := wN_min bs xs a
  have : cutB bs a (xs.length : Nat) ≠ [] := fun e => h0 (List.eq_nil_of_length_eq_zero (by rw [e] at hl; simpa using hl.symm))
  unfold pieceA wO; rw [if_neg this, if_neg h0]
theorem wN_cs {w : World} {A : Option Addr} {bs xs : List Nat} {a : Int} (h : Cs w A (rowN .u8 xs)) : Cs w A (rowN .u8 (wN bs a xs)) := by unfold wN; split; exact h; exact Cs.nil _ _
theorem wN_put (bs xs : List Nat) (a : Int) (sp : List Value) : put (rowN .u8 bs ++ sp) (wO bs a xs) (rowN .u8 (wN bs a xs)) = rowN .u8 (writeB bs a xs) ++ sp := by
  rw [put_rowN _ _ _ _ _ (wN_fit bs xs a)]
  congr 2
  unfold wO
  split
  · rename_i h
    rw [h, putB_nil]
    unfold wN at h
    split at h
    · subst h; rw [writeB_nil]
    · rename_i hE; rw [writeB_no hE]
  · rename_i h
    unfold wN at h ⊢
    split at h
    · rename_i hE; rw [if_pos hE, writeB_yes hE]
    · exact absurd rfl h
theorem MOk.grow {i i' : RowIx} {bs : List Nat} {u : Int} (h : MOk i bs) (h2 : i'.Ok 1 (growB bs u).length) : MOk i' (growB bs u) := by
  have hl := growB_length bs u
  have h1 := h.le
  have h3 := h.mul
  refine ⟨h2, ?_, growB_dg h.dg u, ?_⟩ <;> (rw [hl]; unfold growL; split <;> omega)
theorem grow_no {bs : List Nat} {u : Int} (h : u < 0 ∨ u > 4194304 ∨ (u.toNat + 31) / 32 * 32 ≤ bs.length) : growB bs u = bs := growB_no (by unfold growL; split <;> omega)
theorem grow_yes {bs : List Nat} {k q : Nat} (hk : k ≤ 4194304) (h : (k + 31) / 32 * 32 = bs.length + q) : growB bs (k : Int) = bs ++ List.replicate q 0 := by
  unfold growB growL
  rw [if_neg (by omega)]
  congr 2; simp; omega
theorem sumN_two (x y : Nat) : sumN [x, y] = x % 2 ^ 256 + y % 2 ^ 256 := by simp [sumN]
theorem putB_step {bs xs : List Nat} {p k : Nat} (hk : k < xs.length) (h : p + xs.length ≤ bs.length) : (putB bs p (xs.take k)).set (p + k) (xs.getD k 0) = putB bs p (xs.take (k + 1)) := by
  have hl1 : (xs.take k).length = k := by rw [List.length_take]; omega
  have hl2 : (xs.take (k + 1)).length = k + 1 := by rw [List.length_take]; omega
  have e1 : (putB bs p (xs.take k)).length = bs.length := putB_length (by omega)
  have e2 : (putB bs p (xs.take (k + 1))).length = bs.length := putB_length (by omega)
  refine ext_getD (by rw [List.length_set, e1, e2]) (fun q hq => ?_)
  rw [getD_set _ _ _ _ (by omega), putB_get (by omega), putB_get (by omega), hl1, hl2]
  by_cases h1 : p + k = q
  · subst h1
    rw [if_pos rfl, if_pos (by omega), show p + k - p = k by omega, getD_take _ _ _ (by omega)]
  · rw [if_neg h1]
    by_cases h2 : p ≤ q ∧ q < p + k
    · rw [if_pos h2, if_pos (by omega), getD_take _ _ _ (by omega), getD_take _ _ _ (by omega)]
    · rw [if_neg h2, if_neg (by omega)]
theorem moveE_bad {L : Nat} {t f n : Int} (h : t < 0 ∨ f < 0 ∨ n < 0) : moveE L t f n = 1 := by unfold moveE; rw [if_pos h]
theorem moveE_far {L : Nat} {t f n : Int} (h : ¬ (t < 0 ∨ f < 0 ∨ n < 0)) (h2 : pieceE L f n ≠ 0 ∨ pieceE L t n ≠ 0) : moveE L t f n = 92 := by unfold moveE; rw [if_neg h, if_pos h2]
theorem moveE_ok {L : Nat} {t f n : Int} (h : ¬ (t < 0 ∨ f < 0 ∨ n < 0)) (h1 : pieceE L f n = 0) (h2 : pieceE L t n = 0) : moveE L t f n = 0 := by unfold moveE; rw [if_neg h, if_neg (by omega)]
theorem moveB_no {bs : List Nat} {t f n : Int} (h : moveE bs.length t f n ≠ 0) : moveB bs t f n = bs := by unfold moveB; rw [if_neg h]
theorem moveB_yes {bs : List Nat} {t f n : Int} (h : moveE bs.length t f n = 0) : moveB bs t f n = writeB bs t (cutB bs f n) := by unfold moveB; rw [if_pos h]
theorem move_pos {L : Nat} {t f n : Int} (h : ¬ (t < 0 ∨ f < 0 ∨ n < 0)) (h2 : pieceE L f n ≠ 0) : pieceE L f n = 92 := by
  unfold pieceE at h2 ⊢
  rw [if_neg (by omega)] at h2 ⊢
  split
  · rename_i h3; rw [if_pos h3] at h2; exact absurd rfl h2
  · rename_i h3
    rw [if_neg h3] at h2
    split
    · rfl
    · rename_i h4; rw [if_neg h4] at h2; exact absurd rfl h2
theorem loadX_yes {bs : List Nat} {a : Int} (h : pieceE bs.length a 32 = 0) : (if (cutB bs a 32).length ≤ 32 then vl (cutB bs a 32).reverse else 0) = loadX bs a ∧ (if (cutB bs a 32).length ≤ 32 then 0 else 2) = 0 := by
  have := cutB_len h
  rw [if_pos (by simp at this; omega), if_pos (by simp at this; omega)]
  unfold loadX
  rw [if_pos h]
  exact ⟨rfl, rfl⟩
theorem loadX_no {bs : List Nat} {a : Int} (h : pieceE bs.length a 32 ≠ 0) : loadX bs a = 0 := by unfold loadX; rw [if_neg h]
theorem reach_none {L x y : Nat} (h : y % 2 ^ 256 = 0) : reachN L x y = L ∧ reachB x y = true := by
  unfold reachN reachB; rw [if_pos h, decide_eq_true (Or.inl h)]; exact ⟨rfl, rfl⟩
theorem reach_far {L x y : Nat} (h : ¬ y % 2 ^ 256 = 0) (h2 : x % 2 ^ 256 + y % 2 ^ 256 > 4194304) : reachN L x y = 0 ∧ reachB x y = false := by
  unfold reachN reachB; rw [if_neg h, if_pos h2, decide_eq_false (by omega)]; exact ⟨rfl, rfl⟩
theorem reach_ok {L x y : Nat} (h : ¬ y % 2 ^ 256 = 0) (h2 : ¬ x % 2 ^ 256 + y % 2 ^ 256 > 4194304) : reachN L x y = max L ((x % 2 ^ 256 + y % 2 ^ 256 + 31) / 32 * 32) ∧ reachB x y = true := by
  unfold reachN reachB; rw [if_neg h, if_neg h2, decide_eq_true (by omega)]; exact ⟨rfl, rfl⟩
section
variable {w0 : World} {M : List Nat} {N : Nat} {σ : List (Nat × Value)} {l : List (Nat × Ent)} {Q : Exit → Act → World → Prop}
theorem X.addNil {u : Exit} (k : Nat) (t : TypeId) (h : X w0 M N Q u σ ((k, ⟨none, t, []⟩) :: l)) : X w0 M N Q u σ l := fun a w ha hw => h a w ha (hw.addNil k t)
end

/-! ### A literal row of words -/
theorem put_cons (cs : List Value) (o : Nat) (v : Value) (vs : List Value) (h : o + vs.length < cs.length) : put (cs.set o v) (o + 1) vs = put cs o (v :: vs) := by
  unfold put
  rw [List.take_add_one, List.take_set_of_le (Nat.le_refl o), List.length_cons, Nat.add_assoc, Nat.add_comm 1, ← Nat.add_assoc o, List.drop_set_of_lt (by omega)]
  simp [show o < cs.length by omega]
theorem fold_put (o : Nat) : ∀ (vs : List Value) (k : Nat) (arr : Array Value), o + k + vs.length ≤ arr.size →
    (vs.zipIdx k).foldl (fun cs (q : Value × Nat) => cs.setIfInBounds (o + q.2) q.1) arr = (put arr.toList (o + k) vs).toArray
  | [], k, arr, h => by simp [put]
  | v :: vs, k, arr, h => by
    simp only [List.length_cons] at h
    rw [List.zipIdx_cons, List.foldl_cons, fold_put o vs (k + 1) _ (by simp; omega)]
    congr 1
    simp only [Array.toList_setIfInBounds]
    rw [← Nat.add_assoc]
    have ha : arr.toList.length = arr.size := Array.length_toList
    exact put_cons _ _ _ _ (by omega)
theorem put_put (cs : List Value) (o : Nat) (us vs : List Value) (h : o + us.length + vs.length ≤ cs.length) : put (put cs o us) (o + us.length) vs = put cs o (us ++ vs) := by
  have h1 : (cs.take o ++ us).length = o + us.length := by rw [List.length_append, List.length_take]; omega
  unfold put
  rw [List.take_append_of_le_length (by omega), List.take_of_length_le (by omega), List.length_append, List.drop_append, List.drop_drop, h1, List.drop_of_length_le (by rw [h1]; omega)]
  simp only [List.nil_append, List.append_assoc]
  congr 4
  omega
theorem put_length (cs : List Value) (o : Nat) (us : List Value) (h : o + us.length ≤ cs.length) : (put cs o us).length = cs.length := by
  unfold put; rw [List.length_append, List.length_append, List.length_take, List.length_drop]; omega
theorem fill_words : ∀ (xs : List Nat) (k : Nat) (arr : Array Value), (k + xs.length) * 4 ≤ arr.size →
    Instr.fill (fun i => some (i * 4, 4)) arr ((xs.zipIdx k).map fun q => (q.2, W q.1)) = some (put arr.toList (k * 4) (rowW xs)).toArray
  | [], k, arr, h => by unfold Instr.fill; simp [put, rowW]
  | x :: xs, k, arr, h => by
    simp only [List.length_cons] at h
    rw [List.zipIdx_cons, List.map_cons]
    unfold Instr.fill
    dsimp only
    have hf := fold_put (k * 4) (wc x) 0 arr (by rw [wc_length]; omega)
    rw [Nat.add_zero] at hf
    have hs : (W x).cells = (wc x).toArray := rfl
    have ha : arr.toList.length = arr.size := Array.length_toList
    split
    · rename_i h0; simp [hs, wc_length] at h0; omega
    · rw [hs, ← Array.foldl_toList, Array.toList_zipIdx, hf, fill_words xs (k + 1) _ (by rw [List.size_toArray, put_length _ _ _ (by rw [wc_length]; omega)]; omega)]
      congr 2
      have := put_put arr.toList (k * 4) (wc x) (rowW xs) (by rw [wc_length, rowW_length]; omega)
      rw [wc_length] at this
      rw [show (k + 1) * 4 = k * 4 + 4 by omega]
      exact this
section
variable {P : Program} {ops : Array Oper} {F : Act → World → Prop} {w0 : World} {M : List Nat} {N : Nat} {L : List (Oper × K)} {σ : List (Nat × Value)} {l lS : List (Nat × Ent)} {d : Option Tmp} {ty : TypeId} {p : String} {af : Array Edge} {t : TypeId} {z : Value}
theorem J.litWs (h : Nat) (hh : lk lS h = none) (xs : List Nat) {e bytes len : Nat} {parts : Array (Nat × Operand)} (ht : P.underlying t = some (.slice e)) (he : ElT P e 4 bytes z) (h0 : 0 < xs.length) (hl : xs.length = len) (hsz : len * 4 ≤ 16777216) (hx : evp σ parts.toList = some ((xs.zipIdx 0).map fun q => (q.2, W q.1))) (hd : okd N d)
    (hJ : ∀ g, w0.heap.size ≤ g → J P ops F w0 M N lS L (putd d (.slice (some ⟨g, 0, none⟩) len len) σ) ((h, ⟨some g, e, rowW xs⟩) :: l)) :
    J P ops F w0 M N lS ((⟨d, .buildSlice t len parts, ty, p, af, none⟩, .l) :: L) σ l :=
  J.buildSlice h hh hx hd (rowW xs) (fun w => by
    subst hl
    have h1 : ¬ (xs.length * 4 > 2 ^ 24) := by simp; omega
    have h2 : ¬ (xs.length * 4 = 0) := by omega
    obtain ⟨ti, hti, htz, hts, htb⟩ := he.open
    have hz : ZeroT P e z := by simp [ZeroT, hti, htz]
    have hf := fill_words xs 0 ((Array.range (xs.length * 4)).map (fun i => z.cells[i % z.cells.size]!)) (by simp)
    rw [Nat.zero_mul, put_all _ _ (by rw [rowW_length, Array.length_toList]; simp)] at hf
    simp only [Instr.buildSlice, Sem.run_bind, run_underlying ht, Result.andThen, run_sizeOf he.sizeT, h1, if_false, h2, run_zeroValue hz, Sem.run_pure, hf, newRow, run_newObj]
    rfl) hJ
end

section
variable {P : Program} {w0 : World} {M : List Nat} {N : Nat} {L : List (Oper × K)} {σ : List (Nat × Value)} {l lS : List (Nat × Ent)} {k : K}
/-- A guard that was not reckoned itself. -/
theorem J.noU {ops : Array Oper} {F : Act → World → Prop} {d : Option Tmp} {op : Op} {ty : TypeId} {p : String} {af : Array Edge} {j t : Nat} {b : Bool}
    (ht : (ops[j]?).bind (·.dst) = some t) (hb : lk σ t = some undef) (hd : okd N d)
    (h : J P ops F w0 M N lS L (putd d undef σ) l) : J P ops F w0 M N lS ((⟨d, op, ty, p, af, some (j, b)⟩, k) :: L) σ l := fun hlS a ha => by
  have hw : Region.wanted ⟨d, op, ty, p, af, some (j, b)⟩ (yielded ops a.tmps) = false := by
    have h1 := ha.get t _ hb
    simp only [Region.wanted, yielded, ht, Option.bind_some, h1]
    cases b <;> rfl
  simp only [JJ, stepW, hw]
  exact h hlS _ (ha.putd hd undef)
end
end Go.Fw
set_option linter.unusedVariables false
namespace Go.Fw
open Go

/-! ### Values in a base -/
def vq (b : Nat) : List Nat → Nat
  | [] => 0
  | x :: xs => x + b * vq b xs
theorem vq_vl (xs : List Nat) : vq 256 xs = vl xs := by
  induction xs with
  | nil => rfl
  | cons x xs ih => simp only [vq, vl, ih]
def Dq (b : Nat) (xs : List Nat) : Prop := ∀ x ∈ xs, x < b
theorem Dq.getD {b : Nat} {xs : List Nat} (h : Dq b xs) (hb : 0 < b) (i : Nat) : xs.getD i 0 < b := by
  rw [List.getD_eq_getElem?_getD]
  by_cases hi : i < xs.length
  · simp [hi]; exact h _ (List.getElem_mem hi)
  · simp [List.getElem?_eq_none (Nat.le_of_not_lt hi)]; exact hb
theorem Dq.set {b : Nat} {xs : List Nat} (h : Dq b xs) (i : Nat) {v : Nat} (hv : v < b) : Dq b (xs.set i v) := fun y hy => by
  rcases List.mem_or_eq_of_mem_set hy with h1 | h1
  · exact h y h1
  · omega
theorem vq_set (b : Nat) : ∀ (xs : List Nat) (i v : Nat), i < xs.length → vq b (xs.set i v) + xs.getD i 0 * b ^ i = vq b xs + v * b ^ i
  | [], i, v, h => by simp at h
  | x :: xs, 0, v, h => by simp [vq]; omega
  | x :: xs, i + 1, v, h => by
    have := vq_set b xs i v (by simpa using h)
    simp only [List.set_cons_succ, vq, List.getD_cons_succ, Nat.pow_succ]
    have h2 : b * (vq b (xs.set i v) + xs.getD i 0 * b ^ i) = b * (vq b xs + v * b ^ i) := by rw [this]
    rw [Nat.mul_add, Nat.mul_add] at h2
    rw [← Nat.mul_assoc, ← Nat.mul_assoc, Nat.mul_comm _ b, Nat.mul_comm (v * b ^ i) b]
    omega
theorem vq_append (b : Nat) (xs ys : List Nat) : vq b (xs ++ ys) = vq b xs + vq b ys * b ^ xs.length := by
  induction xs with
  | nil => simp [vq]
  | cons x xs ih =>
    simp only [List.cons_append, vq, ih, List.length_cons, Nat.pow_succ]
    rw [Nat.mul_add, ← Nat.mul_assoc, Nat.mul_comm b (vq b ys), Nat.mul_assoc (vq b ys), Nat.mul_comm b (b ^ _)]
    omega
theorem vq_lt {b : Nat} {xs : List Nat} (h : Dq b xs) (hb : 0 < b) : vq b xs < b ^ xs.length := by
  induction xs with
  | nil => simp [vq]
  | cons x xs ih =>
    have h1 := ih (fun y hy => h y (by simp [hy]))
    have h2 := h x (by simp)
    simp only [vq, List.length_cons, Nat.pow_succ]
    have h3 : b * (vq b xs + 1) ≤ b * b ^ xs.length := Nat.mul_le_mul_left _ h1
    rw [Nat.mul_add, Nat.mul_comm b (b ^ xs.length)] at h3
    omega
theorem vq_take_succ (b : Nat) (xs : List Nat) (i : Nat) : vq b (xs.take (i + 1)) = vq b (xs.take i) + xs.getD i 0 * b ^ i := by
  by_cases hi : i < xs.length
  · rw [List.take_succ_eq_append_getElem hi, vq_append, List.length_take, Nat.min_eq_left (Nat.le_of_lt hi)]
    simp [List.getD, hi, vq]
  · rw [List.take_of_length_le (by omega), List.take_of_length_le (by omega), List.getD_eq_getElem?_getD, List.getElem?_eq_none (by omega)]
    simp
theorem vq_zeros (b n : Nat) : vq b (List.replicate n 0) = 0 := by
  induction n with
  | zero => rfl
  | succ n ih => simp [List.replicate_succ, vq, ih]
/-- The limbs of a word. -/
theorem vq_wl (x : Nat) : vq 18446744073709551616 (wl x) = x % 2 ^ 256 := by
  unfold wl vq vq vq vq vq lim
  omega
theorem wl_dq (x : Nat) : Dq 18446744073709551616 (wl x) := by
  intro y hy
  unfold wl at hy
  simp at hy
  rcases hy with rfl | rfl | rfl | rfl <;> exact lim_lt _ _
theorem vq_get {b : Nat} (hb : 0 < b) : ∀ {xs : List Nat}, Dq b xs → ∀ i, xs.getD i 0 = vq b xs / b ^ i % b
  | [], _, i => by simp [vq]
  | x :: xs, h, 0 => by
    have h2 := h x (by simp)
    simp only [List.getD_cons_zero, vq, Nat.pow_zero, Nat.div_one, Nat.add_mul_mod_self_left]
    exact (Nat.mod_eq_of_lt h2).symm
  | x :: xs, h, i + 1 => by
    have ih := vq_get hb (xs := xs) (fun y hy => h y (by simp [hy])) i
    have h2 := h x (by simp)
    rw [List.getD_cons_succ, ih]
    simp only [vq]
    rw [Nat.pow_succ', ← Nat.div_div_eq_div_mul, Nat.add_mul_div_left _ _ hb, Nat.div_eq_of_lt h2, Nat.zero_add]
/-- One step of a product. -/
theorem mul_step {b : Nat} {ls : List Nat} {j x y c : Nat} (hb : 1 < b) (hl : Dq b ls) (hj : j < ls.length) (hx : x < b) (hy : y < b) (hc : c < b) :
    (ls.getD j 0 + x * y + c) / b < b ∧ Dq b (ls.set j ((ls.getD j 0 + x * y + c) % b)) ∧
    vq b (ls.set j ((ls.getD j 0 + x * y + c) % b)) + (ls.getD j 0 + x * y + c) / b * b ^ (j + 1) = vq b ls + c * b ^ j + x * y * b ^ j := by
  have h1 := hl.getD (by omega) j
  have h2 := vq_set b ls j ((ls.getD j 0 + x * y + c) % b) hj
  have hxy : x * y ≤ (b - 1) * (b - 1) := Nat.mul_le_mul (by omega) (by omega)
  have hbb : (b - 1) * (b - 1) + (b - 1) + (b - 1) + 1 = b * b := by
    obtain ⟨d, rfl⟩ : ∃ d, b = d + 1 := ⟨b - 1, by omega⟩
    simp only [Nat.add_sub_cancel]
    rw [Nat.add_mul, Nat.mul_add]
    omega
  refine ⟨(Nat.div_lt_iff_lt_mul (by omega)).2 (by omega), hl.set j (Nat.mod_lt _ (by omega)), ?_⟩
  generalize hn : ls.getD j 0 + x * y + c = n at *
  have e : n % b * b ^ j + n / b * b ^ (j + 1) = n * b ^ j := by
    rw [Nat.pow_succ, Nat.mul_comm (b ^ j) b, ← Nat.mul_assoc, ← Nat.add_mul]
    congr 1
    rw [Nat.mul_comm (n / b) b, Nat.add_comm]; exact Nat.div_add_mod n b
  have e2 : n * b ^ j = ls.getD j 0 * b ^ j + x * y * b ^ j + c * b ^ j := by rw [← hn, Nat.add_mul, Nat.add_mul]
  omega

/-! ### Bits -/
def bitsL (x n : Nat) : List Nat := (List.range n).map fun i => x / 2 ^ i % 2
theorem bitsL_length (x n : Nat) : (bitsL x n).length = n := by simp [bitsL]
theorem bitsL_get (x n i : Nat) (h : i < n) : (bitsL x n).getD i 0 = x / 2 ^ i % 2 := by simp [bitsL, List.getD, h]
theorem bitsL_far (x n i : Nat) (h : n ≤ i) : (bitsL x n).getD i 0 = 0 := getD_far _ _ (by rw [bitsL_length]; exact h)
theorem bitsL_of {xs : List Nat} {x n : Nat} (hl : xs.length = n) (h : ∀ i, i < n → xs.getD i 0 = x / 2 ^ i % 2) : xs = bitsL x n := by
  apply List.ext_getElem (by rw [bitsL_length, hl])
  intro i h1 h2
  have a := h i (by omega)
  have b := bitsL_get x n i (by omega)
  rw [← b] at a
  simpa [List.getD, h1, h2] using a
theorem bitsL_vq (x n : Nat) : vq 2 (bitsL x n) = x % 2 ^ n := by
  induction n with
  | zero => simp [bitsL, vq, Nat.mod_one]
  | succ n ih =>
    have e : bitsL x (n + 1) = bitsL x n ++ [x / 2 ^ n % 2] := by simp [bitsL, List.range_succ]
    rw [e, vq_append, ih, bitsL_length, Nat.pow_succ, Nat.mod_mul]
    simp [vq, Nat.mul_comm]
theorem bitsL_dq (x n : Nat) : Dq 2 (bitsL x n) := by
  intro y hy
  simp only [bitsL, List.mem_map] at hy
  obtain ⟨i, _, rfl⟩ := hy
  exact Nat.mod_lt _ (by omega)
theorem bit_testBit (x i : Nat) : x / 2 ^ i % 2 = if x.testBit i then 1 else 0 := by
  rw [Nat.testBit_eq_decide_div_mod_eq]
  have := Nat.mod_lt (x / 2 ^ i) (show 2 > 0 by omega)
  by_cases h : x / 2 ^ i % 2 = 1
  · simp [h]
  · simp [h]; omega
theorem bit_and (x y i : Nat) : (x &&& y) / 2 ^ i % 2 = x / 2 ^ i % 2 * (y / 2 ^ i % 2) := by
  rw [bit_testBit, bit_testBit, bit_testBit, Nat.testBit_and]
  cases x.testBit i <;> cases y.testBit i <;> rfl
theorem bit_or (x y i : Nat) : (x ||| y) / 2 ^ i % 2 = x / 2 ^ i % 2 + y / 2 ^ i % 2 - x / 2 ^ i % 2 * (y / 2 ^ i % 2) := by
  rw [bit_testBit, bit_testBit, bit_testBit, Nat.testBit_or]
  cases x.testBit i <;> cases y.testBit i <;> rfl
theorem bit_xor (x y i : Nat) : (x ^^^ y) / 2 ^ i % 2 = (x / 2 ^ i % 2 + y / 2 ^ i % 2) % 2 := by
  rw [bit_testBit, bit_testBit, bit_testBit, Nat.testBit_xor]
  cases x.testBit i <;> cases y.testBit i <;> rfl
theorem bit_not (x i n : Nat) (h : i < n) : (2 ^ n - 1 - x % 2 ^ n) / 2 ^ i % 2 = 1 - x / 2 ^ i % 2 := by
  have hlt := Nat.mod_lt x (Nat.pow_pos (n := n) (show 0 < 2 by omega))
  rw [bit_testBit, bit_testBit, show 2 ^ n - 1 - x % 2 ^ n = 2 ^ n - (x % 2 ^ n + 1) by omega, Nat.testBit_two_pow_sub_succ hlt, Nat.testBit_mod_two_pow]
  simp only [h, decide_true, Bool.true_and]
  cases x.testBit i <;> rfl
/-- The n-th digit as it is filled bit by bit. -/
def digF (V j q : Nat) : Nat := V / 2 ^ (max j (8 * q)) % 2 ^ (8 * q + 8 - max j (8 * q))
theorem digF_zero (V q : Nat) : digF V 0 q = V / 256 ^ q % 256 := by
  unfold digF
  rw [Nat.max_eq_right (by omega), show 8 * q + 8 - 8 * q = 8 by omega, Nat.pow_mul]
theorem digF_far (V j q : Nat) (h : 8 * q + 8 ≤ j) : digF V j q = 0 := by
  unfold digF
  rw [Nat.max_eq_left (by omega), show 8 * q + 8 - j = 0 by omega]
  simp [Nat.mod_one]
theorem digF_lt (V j q : Nat) (h : 8 * q < j) : digF V j q < 128 := by
  unfold digF
  have h1 : 2 ^ (8 * q + 8 - max j (8 * q)) ≤ 2 ^ 7 := Nat.pow_le_pow_right (by omega) (by omega)
  have h2 := Nat.mod_lt (V / 2 ^ (max j (8 * q))) (show 2 ^ (8 * q + 8 - max j (8 * q)) > 0 from Nat.pow_pos (by omega))
  omega
theorem digF_step (V j q : Nat) (h1 : 8 * q ≤ j) (h2 : j < 8 * q + 8) : digF V j q = digF V (j + 1) q * 2 + V / 2 ^ j % 2 := by
  unfold digF
  rw [Nat.max_eq_left h1, Nat.max_eq_left (by omega : 8 * q ≤ j + 1)]
  have e : 8 * q + 8 - j = (8 * q + 8 - (j + 1)) + 1 := by omega
  rw [e, Nat.pow_succ, Nat.mul_comm (2 ^ (8 * q + 8 - (j + 1))) 2, Nat.mod_mul, Nat.div_div_eq_div_mul, Nat.pow_succ 2 j, Nat.add_comm, Nat.mul_comm 2]
theorem digF_other (V j q : Nat) (h : j < 8 * q ∨ 8 * q + 8 ≤ j) : digF V j q = digF V (j + 1) q := by
  rcases h with h | h
  · unfold digF; rw [Nat.max_eq_right (by omega), Nat.max_eq_right (by omega)]
  · rw [digF_far _ _ _ h, digF_far _ _ _ (by omega)]

/-! ### Bits of a word's parts -/
theorem pow64 (k : Nat) : 2 ^ (64 * k) = 18446744073709551616 ^ k := by rw [Nat.pow_mul]
/-- The bits of Q from number j on, at their places. -/
def hb (Q j : Nat) : Nat := Q / 2 ^ j * 2 ^ j
theorem hb_zero (Q : Nat) : hb Q 0 = Q := by simp [hb]
theorem hb_big {Q j : Nat} (h : Q < 2 ^ j) : hb Q j = 0 := by unfold hb; rw [Nat.div_eq_of_lt h, Nat.zero_mul]
theorem hb_step (Q k : Nat) : hb Q k = hb Q (k + 1) + Q / 2 ^ k % 2 * 2 ^ k := by
  unfold hb
  have h := Nat.div_add_mod (Q / 2 ^ k) 2
  have h2 : Q / 2 ^ k / 2 = Q / 2 ^ (k + 1) := by rw [Nat.div_div_eq_div_mul, Nat.pow_succ]
  rw [h2] at h
  conv => lhs; rw [← h]
  rw [Nat.add_mul, Nat.pow_succ]
  congr 1
  rw [Nat.mul_comm 2, Nat.mul_assoc, Nat.mul_comm 2 (2 ^ k)]
theorem hb_lim_other (Q k q : Nat) (hk : k / 64 ≠ q) : lim (hb Q k) q = lim (hb Q (k + 1)) q := by
  rw [hb_step]
  unfold lim
  rcases Nat.lt_or_ge (k / 64) q with h | h
  · have e : hb Q (k + 1) = 2 ^ (k + 1) * (Q / 2 ^ (k + 1)) := by unfold hb; rw [Nat.mul_comm]
    have e2 : 18446744073709551616 ^ q = 2 ^ (k + 1) * 2 ^ (64 * q - (k + 1)) := by rw [← pow64, ← Nat.pow_add, show k + 1 + (64 * q - (k + 1)) = 64 * q by omega]
    have hlt : Q / 2 ^ k % 2 * 2 ^ k < 2 ^ (k + 1) := by
      rw [Nat.pow_succ, Nat.mul_comm (2 ^ k)]
      exact Nat.mul_lt_mul_of_pos_right (Nat.mod_lt _ (by omega)) (Nat.pow_pos (by omega))
    rw [e, e2, ← Nat.div_div_eq_div_mul, ← Nat.div_div_eq_div_mul, Nat.mul_add_div (Nat.pow_pos (by omega)), Nat.div_eq_of_lt hlt, Nat.add_zero, Nat.mul_div_cancel_left _ (Nat.pow_pos (by omega))]
  · have e2 : 2 ^ k = 18446744073709551616 ^ q * (18446744073709551616 * 2 ^ (k - 64 * q - 64)) := by
      rw [← Nat.mul_assoc, ← Nat.pow_succ, ← pow64, ← Nat.pow_add, show 64 * (q + 1) + (k - 64 * q - 64) = k by omega]
    have e3 : ∀ c, c * 2 ^ k = 18446744073709551616 ^ q * (18446744073709551616 * (c * 2 ^ (k - 64 * q - 64))) := by
      intro c; rw [e2]; simp only [Nat.mul_assoc, Nat.mul_comm]
    rw [e3, Nat.add_mul_div_left _ _ (Nat.pow_pos (by omega)), Nat.add_mul_mod_self_left]
theorem hb_lim (Q k : Nat) : lim (hb Q k) (k / 64) = lim (hb Q (k + 1)) (k / 64) ||| (Q / 2 ^ k % 2 * 2 ^ (k % 64)) := by
  have hr : k % 64 < 64 := Nat.mod_lt _ (by omega)
  have hk : k = 64 * (k / 64) + k % 64 := by omega
  generalize hq : k / 64 = q at *
  generalize hr' : k % 64 = r at *
  have e1 : hb Q (k + 1) / 18446744073709551616 ^ q = Q / 2 ^ (k + 1) * 2 ^ (r + 1) := by
    unfold hb
    rw [show 2 ^ (k + 1) = 2 ^ (r + 1) * 18446744073709551616 ^ q by rw [← pow64, ← Nat.pow_add, show r + 1 + 64 * q = k + 1 by omega]]
    rw [← Nat.mul_assoc, Nat.mul_div_cancel _ (Nat.pow_pos (by omega))]
  have e2 : hb Q k / 18446744073709551616 ^ q = Q / 2 ^ (k + 1) * 2 ^ (r + 1) + Q / 2 ^ k % 2 * 2 ^ r := by
    rw [hb_step, show 2 ^ k = 2 ^ r * 18446744073709551616 ^ q by rw [← pow64, ← Nat.pow_add, show r + 64 * q = k by omega], ← Nat.mul_assoc, Nat.add_mul_div_right _ _ (Nat.pow_pos (by omega)), e1]
  unfold lim
  rw [e1, e2]
  have hc : Q / 2 ^ k % 2 * 2 ^ r < 2 ^ (r + 1) := by
    rw [Nat.pow_succ, Nat.mul_comm (2 ^ r)]
    exact Nat.mul_lt_mul_of_pos_right (Nat.mod_lt _ (by omega)) (Nat.pow_pos (by omega))
  generalize Q / 2 ^ (k + 1) = A at *
  generalize Q / 2 ^ k % 2 * 2 ^ r = C at *
  have e3 : A * 2 ^ (r + 1) % 18446744073709551616 = A % 2 ^ (63 - r) * 2 ^ (r + 1) := by
    rw [show (18446744073709551616 : Nat) = 2 ^ (63 - r) * 2 ^ (r + 1) by rw [← Nat.pow_add, show 63 - r + (r + 1) = 64 by omega]]
    exact Nat.mul_mod_mul_right _ _ _
  have e4 : (A * 2 ^ (r + 1) + C) % 18446744073709551616 = A % 2 ^ (63 - r) * 2 ^ (r + 1) + C := by
    have h1 : A * 2 ^ (r + 1) + C = (A % 2 ^ (63 - r) * 2 ^ (r + 1) + C) + 18446744073709551616 * (A / 2 ^ (63 - r)) := by
      have h2 := Nat.div_add_mod A (2 ^ (63 - r))
      conv => lhs; rw [← h2]
      rw [show (18446744073709551616 : Nat) = 2 ^ (63 - r) * 2 ^ (r + 1) by rw [← Nat.pow_add, show 63 - r + (r + 1) = 64 by omega]]
      rw [Nat.add_mul, Nat.mul_assoc (2 ^ (63 - r)), Nat.mul_comm (A / 2 ^ (63 - r)), ← Nat.mul_assoc]
      omega
    rw [h1, Nat.add_mul_mod_self_left]
    apply Nat.mod_eq_of_lt
    have h3 : A % 2 ^ (63 - r) + 1 ≤ 2 ^ (63 - r) := Nat.mod_lt _ (Nat.pow_pos (by omega))
    have h4 : (A % 2 ^ (63 - r) + 1) * 2 ^ (r + 1) ≤ 2 ^ (63 - r) * 2 ^ (r + 1) := Nat.mul_le_mul_right _ h3
    rw [← Nat.pow_add, show 63 - r + (r + 1) = 64 by omega, Nat.add_mul] at h4
    omega
  rw [e3, e4]
  rw [nat_join (r + 1)]
  · exact Nat.mul_mod_left _ _
  · exact hc
theorem hb_lim0 {Q k : Nat} (h : Q / 2 ^ k % 2 = 0) : hb Q k = hb Q (k + 1) := by rw [hb_step, h]; omega
/-- Long division, a bit at a time. -/
theorem div_step (N d j : Nat) (hd : 0 < d) :
    (N / 2 ^ j) % d = (if 2 * ((N / 2 ^ (j + 1)) % d) + N / 2 ^ j % 2 < d then 2 * ((N / 2 ^ (j + 1)) % d) + N / 2 ^ j % 2 else 2 * ((N / 2 ^ (j + 1)) % d) + N / 2 ^ j % 2 - d) ∧
    (N / d) / 2 ^ j % 2 = (if 2 * ((N / 2 ^ (j + 1)) % d) + N / 2 ^ j % 2 < d then 0 else 1) := by
  have e1 : N / 2 ^ j = 2 * (N / 2 ^ (j + 1)) + N / 2 ^ j % 2 := by
    have h2 : N / 2 ^ j / 2 = N / 2 ^ (j + 1) := by rw [Nat.div_div_eq_div_mul, Nat.pow_succ]
    have := Nat.div_add_mod (N / 2 ^ j) 2
    rw [h2] at this
    exact this.symm
  have e2 : N / d / 2 ^ j = (N / 2 ^ j) / d := by rw [Nat.div_div_eq_div_mul, Nat.div_div_eq_div_mul, Nat.mul_comm]
  have hr := Nat.mod_lt (N / 2 ^ (j + 1)) hd
  have hm := Nat.div_add_mod (N / 2 ^ (j + 1)) d
  have hbit := Nat.mod_lt (N / 2 ^ j) (show 2 > 0 by omega)
  rw [e2]
  generalize hM : N / 2 ^ j % 2 = m at *
  rw [e1]
  generalize hR : N / 2 ^ (j + 1) % d = r at *
  generalize hQ : N / 2 ^ (j + 1) / d = q at *
  generalize N / 2 ^ (j + 1) = U at *
  have e3 : 2 * U + m = 2 * r + m + d * (2 * q) := by rw [← hm, Nat.mul_add, ← Nat.mul_assoc, Nat.mul_comm 2 d, Nat.mul_assoc]; omega
  rw [e3, Nat.add_mul_mod_self_left, Nat.add_mul_div_left _ _ hd]
  split
  · rename_i h; rw [Nat.mod_eq_of_lt h, Nat.div_eq_of_lt h]; exact ⟨rfl, by omega⟩
  · rename_i h
    have h2 : 2 * r + m = (2 * r + m - d) + d := by omega
    have h3 : 2 * r + m - d < d := by omega
    rw [h2, Nat.add_mod_right, Nat.mod_eq_of_lt h3, Nat.add_div_right _ hd, Nat.div_eq_of_lt h3]
    refine ⟨by omega, by omega⟩
end Go.Fw
set_option linter.unusedVariables false
namespace Go.Fw
open Go

theorem lim_testBit (x i j : Nat) : (lim x i).testBit j = (decide (j < 64) && x.testBit (64 * i + j)) := by
  unfold lim
  rw [← pow64, show (18446744073709551616 : Nat) = 2 ^ 64 by decide, Nat.testBit_mod_two_pow, Nat.testBit_div_two_pow, Nat.add_comm]
theorem lim_bits {x i v : Nat} (h : ∀ j, v.testBit j = (decide (j < 64) && x.testBit (64 * i + j))) : v = lim x i :=
  Nat.eq_of_testBit_eq fun j => by rw [h, lim_testBit]
theorem lim_and (x y i : Nat) : lim (x &&& y) i = lim x i &&& lim y i := Nat.eq_of_testBit_eq fun j => by
  rw [Nat.testBit_and, lim_testBit, lim_testBit, lim_testBit, Nat.testBit_and]
  cases decide (j < 64) <;> simp
theorem lim_or (x y i : Nat) : lim (x ||| y) i = lim x i ||| lim y i := Nat.eq_of_testBit_eq fun j => by
  rw [Nat.testBit_or, lim_testBit, lim_testBit, lim_testBit, Nat.testBit_or]
  cases decide (j < 64) <;> simp
theorem lim_xor (x y i : Nat) : lim (x ^^^ y) i = lim x i ^^^ lim y i := Nat.eq_of_testBit_eq fun j => by
  rw [Nat.testBit_xor, lim_testBit, lim_testBit, lim_testBit, Nat.testBit_xor]
  cases decide (j < 64) <;> simp
def notN (x : Nat) : Nat := 2 ^ 256 - 1 - x % 2 ^ 256
theorem notN_testBit (x j : Nat) : (notN x).testBit j = (decide (j < 256) && !x.testBit j) := by
  have hlt := Nat.mod_lt x (show 2 ^ 256 > 0 by decide)
  unfold notN
  rw [show 2 ^ 256 - 1 - x % 2 ^ 256 = 2 ^ 256 - (x % 2 ^ 256 + 1) by omega, Nat.testBit_two_pow_sub_succ hlt, Nat.testBit_mod_two_pow]
  cases h : decide (j < 256) <;> simp
theorem lim_not (x i : Nat) (h : i < 4) : lim (notN x) i = 18446744073709551615 - lim x i := by
  have hlt := lim_lt x i
  refine (lim_bits fun j => ?_).symm
  rw [show 18446744073709551615 - lim x i = 2 ^ 64 - (lim x i + 1) by omega, Nat.testBit_two_pow_sub_succ (by omega), lim_testBit, notN_testBit]
  by_cases hj : j < 64
  · have : 64 * i + j < 256 := by omega
    simp [hj, this]
  · simp [hj]
theorem notN_lt (x : Nat) : notN x < 2 ^ 256 := by unfold notN; omega
theorem mod_bits {x y : Nat} (h : ∀ j, j < 256 → x.testBit j = y.testBit j) : x % 2 ^ 256 = y % 2 ^ 256 := Nat.eq_of_testBit_eq fun j => by
  rw [Nat.testBit_mod_two_pow, Nat.testBit_mod_two_pow]
  by_cases hj : j < 256
  · simp [hj, h j hj]
  · simp [hj]
/-- A number by its bits. -/
def ofB (f : Nat → Nat) : Nat := vq 2 ((List.range 256).map f)
theorem ofB_eq {z : Nat} {f : Nat → Nat} (h : ∀ i, i < 256 → z / 2 ^ i % 2 = f i) : ofB f = z % 2 ^ 256 := by
  rw [← bitsL_vq]
  unfold ofB bitsL
  congr 1
  exact List.map_congr_left fun i hi => (h i (by simpa using hi)).symm
theorem ofB_list {xs : List Nat} {f : Nat → Nat} (hl : xs.length = 256) (h : ∀ i, i < 256 → xs.getD i 0 = f i) : vq 2 xs = ofB f := by
  unfold ofB
  congr 1
  apply List.ext_getElem (by simp [hl])
  intro i h1 h2
  have := h i (by omega)
  simpa [List.getD, h1] using this

/-! ### Shifts -/
def shlN (s x : Nat) : Nat := if s % 2 ^ 256 < 256 then x % 2 ^ 256 * 2 ^ (s % 2 ^ 256) else 0
def shrN (s x : Nat) : Nat := if s % 2 ^ 256 < 256 then x % 2 ^ 256 / 2 ^ (s % 2 ^ 256) else 0
theorem shlN_testBit (s x j : Nat) (hj : j < 256) : (shlN s x).testBit j = (decide (s % 2 ^ 256 < 256) && decide (s % 2 ^ 256 ≤ j) && x.testBit (j - s % 2 ^ 256)) := by
  unfold shlN
  split
  · rename_i h
    rw [Nat.testBit_mul_two_pow, Nat.testBit_mod_two_pow]
    have : j - s % 2 ^ 256 < 256 := by omega
    simp [h, this]
  · rename_i h; simp [h]
theorem shrN_testBit (s x j : Nat) : (shrN s x).testBit j = (decide (s % 2 ^ 256 < 256) && decide (j + s % 2 ^ 256 < 256) && x.testBit (j + s % 2 ^ 256)) := by
  unfold shrN
  split
  · rename_i h
    rw [Nat.testBit_div_two_pow, Nat.testBit_mod_two_pow]
    simp [h]
  · rename_i h; simp [h]
theorem shl_lim {s wh pt : Nat} (x i : Nat) (h : s % 2 ^ 256 = 64 * wh + pt) (hp : pt < 64) (hw : wh < 4) (hi : i < 4) :
    lim (shlN s x) i = if i < wh then 0 else (lim x (i - wh) * 2 ^ pt % 18446744073709551616) ||| (if wh < i then lim x (i - wh - 1) / 2 ^ (64 - pt) else 0) := by
  refine (lim_bits fun j => ?_).symm
  by_cases hj : j < 64
  · rw [shlN_testBit _ _ _ (by omega), h]
    simp only [hj, decide_true, Bool.true_and, show decide (64 * wh + pt < 256) = true from decide_eq_true (by omega)]
    split
    · rename_i h1
      rw [show decide (64 * wh + pt ≤ 64 * i + j) = false from decide_eq_false (by omega)]
      simp
    · rename_i h1
      rw [Nat.testBit_or, show (18446744073709551616 : Nat) = 2 ^ 64 by decide, Nat.testBit_mod_two_pow, Nat.testBit_mul_two_pow, lim_testBit]
      by_cases h2 : pt ≤ j
      · have e3 : 64 * (i - wh) + (j - pt) = 64 * i + j - (64 * wh + pt) := by omega
        have h4 : j - pt < 64 := by omega
        have h6 : 64 * wh + pt ≤ 64 * i + j := by omega
        have h5 : (if wh < i then lim x (i - wh - 1) / 2 ^ (64 - pt) else 0).testBit j = false := by
          split
          · rw [Nat.testBit_div_two_pow, lim_testBit, show decide (j + (64 - pt) < 64) = false from decide_eq_false (by omega)]; rfl
          · simp
        rw [h5, e3]
        simp [hj, h2, h4, h6]
      · have h5 : decide (pt ≤ j) = false := decide_eq_false h2
        rw [h5]
        by_cases h6 : wh < i
        · rw [if_pos h6, Nat.testBit_div_two_pow, lim_testBit]
          have e3 : 64 * (i - wh - 1) + (j + (64 - pt)) = 64 * i + j - (64 * wh + pt) := by omega
          have h7 : j + (64 - pt) < 64 := by omega
          have h8 : 64 * wh + pt ≤ 64 * i + j := by omega
          rw [e3]
          simp [h7, h8]
        · rw [if_neg h6, show decide (64 * wh + pt ≤ 64 * i + j) = false from decide_eq_false (by omega)]
          simp
  · rw [show decide (j < 64) = false from decide_eq_false hj]
    simp only [Bool.false_and]
    split
    · simp
    · rw [Nat.testBit_or, show (18446744073709551616 : Nat) = 2 ^ 64 by decide, Nat.testBit_mod_two_pow, show decide (j < 64) = false from decide_eq_false hj]
      split
      · rw [Nat.testBit_div_two_pow, lim_testBit, show decide (j + (64 - pt) < 64) = false from decide_eq_false (by omega)]; rfl
      · simp
theorem shr_lim {s wh pt : Nat} (x i : Nat) (h : s % 2 ^ 256 = 64 * wh + pt) (hp : pt < 64) (hw : wh < 4) (hi : i < 4) :
    lim (shrN s x) i = if i + wh < 4 then (lim x (i + wh) / 2 ^ pt) ||| (if i + wh < 3 then lim x (i + wh + 1) * 2 ^ (64 - pt) % 18446744073709551616 else 0) else 0 := by
  refine (lim_bits fun j => ?_).symm
  rw [shrN_testBit, h]
  by_cases hj : j < 64
  · simp only [hj, decide_true, Bool.true_and, show decide (64 * wh + pt < 256) = true from decide_eq_true (by omega)]
    split
    · rename_i h1
      rw [Nat.testBit_or, Nat.testBit_div_two_pow, lim_testBit]
      by_cases h2 : j + pt < 64
      · have h3 : (if i + wh < 3 then lim x (i + wh + 1) * 2 ^ (64 - pt) % 18446744073709551616 else 0).testBit j = false := by
          split
          · rw [show (18446744073709551616 : Nat) = 2 ^ 64 by decide, Nat.testBit_mod_two_pow, Nat.testBit_mul_two_pow, show decide (64 - pt ≤ j) = false from decide_eq_false (by omega)]; simp
          · simp
        have e3 : 64 * (i + wh) + (j + pt) = 64 * i + j + (64 * wh + pt) := by omega
        have h4 : 64 * i + j + (64 * wh + pt) < 256 := by omega
        rw [h3, e3]
        simp [h2, h4]
      · rw [show decide (j + pt < 64) = false from decide_eq_false h2]
        by_cases h6 : i + wh < 3
        · rw [if_pos h6, show (18446744073709551616 : Nat) = 2 ^ 64 by decide, Nat.testBit_mod_two_pow, Nat.testBit_mul_two_pow, lim_testBit]
          have e3 : 64 * (i + wh + 1) + (j - (64 - pt)) = 64 * i + j + (64 * wh + pt) := by omega
          have h7 : 64 - pt ≤ j := by omega
          have h8 : 64 * i + j + (64 * wh + pt) < 256 := by omega
          have h9 : j - (64 - pt) < 64 := by omega
          rw [e3]
          simp [hj, h7, h8, h9]
        · rw [if_neg h6, show decide (64 * i + j + (64 * wh + pt) < 256) = false from decide_eq_false (by omega)]
          simp
    · rename_i h1
      rw [show decide (64 * i + j + (64 * wh + pt) < 256) = false from decide_eq_false (by omega)]
      simp
  · rw [show decide (j < 64) = false from decide_eq_false hj]
    simp only [Bool.false_and]
    split
    · rw [Nat.testBit_or, Nat.testBit_div_two_pow, lim_testBit, show decide (j + pt < 64) = false from decide_eq_false (by omega)]
      split
      · rw [show (18446744073709551616 : Nat) = 2 ^ 64 by decide, Nat.testBit_mod_two_pow, show decide (j < 64) = false from decide_eq_false hj]; rfl
      · simp
    · simp
theorem shrN_zero (s x : Nat) (h : ¬ s % 2 ^ 256 < 256) : shrN s x = 0 := by unfold shrN; rw [if_neg h]
theorem shlN_zero (s x : Nat) (h : ¬ s % 2 ^ 256 < 256) : shlN s x = 0 := by unfold shlN; rw [if_neg h]

/-! ### Signs -/
def sgn (x : Nat) : Prop := 2 ^ 255 ≤ x % 2 ^ 256
instance (x : Nat) : Decidable (sgn x) := inferInstanceAs (Decidable (_ ≤ _))
theorem sgn_lim (x : Nat) : sgn x ↔ lim x 3 / 9223372036854775808 = 1 := by unfold sgn lim; omega
theorem sgn_testBit (x : Nat) : x.testBit 255 = decide (sgn x) := by
  rw [Nat.testBit_eq_decide_div_mod_eq]
  unfold sgn
  exact decide_eq_decide.2 (by omega)
def negN (x : Nat) : Nat := dif 0 x
theorem negN_mod (x : Nat) : negN x % 2 ^ 256 = if x % 2 ^ 256 = 0 then 0 else 2 ^ 256 - x % 2 ^ 256 := by unfold negN dif; split <;> omega
def absN (x : Nat) : Nat := if sgn x then 2 ^ 256 - x % 2 ^ 256 else x % 2 ^ 256
theorem absN_le (x : Nat) : absN x ≤ 2 ^ 255 := by unfold absN; split <;> (rename_i h; unfold sgn at h; omega)
theorem absN_zero (x : Nat) : absN x = 0 ↔ x % 2 ^ 256 = 0 := by unfold absN; split <;> (rename_i h; unfold sgn at h; omega)
def divN (x y : Nat) : Nat := if y % 2 ^ 256 = 0 then 0 else x % 2 ^ 256 / (y % 2 ^ 256)
def modN (x y : Nat) : Nat := if y % 2 ^ 256 = 0 then 0 else x % 2 ^ 256 % (y % 2 ^ 256)
def sdivN (a b : Nat) : Nat := if ¬ (decide (sgn a) = decide (sgn b)) then negN (divN (absN a) (absN b)) else divN (absN a) (absN b)
def smodN (a b : Nat) : Nat := if sgn a then negN (modN (absN a) (absN b)) else modN (absN a) (absN b)
def addmN (a b m : Nat) : Nat := if m % 2 ^ 256 = 0 then 0 else (a % 2 ^ 256 + b % 2 ^ 256) % (m % 2 ^ 256)
def mulmN (a b m : Nat) : Nat := if m % 2 ^ 256 = 0 then 0 else (a % 2 ^ 256 * (b % 2 ^ 256)) % (m % 2 ^ 256)
def sarN (s x : Nat) : Nat := if sgn x then notN (shrN s (notN x)) else shrN s x
def sltP (a b : Nat) : Prop := if ¬ (decide (sgn a) = decide (sgn b)) then sgn a else a % 2 ^ 256 < b % 2 ^ 256
instance (a b : Nat) : Decidable (sltP a b) := by unfold sltP; exact inferInstance
theorem sarN_testBit (s x j : Nat) (hj : j < 256) : (sarN s x).testBit j = if s % 2 ^ 256 < 256 ∧ j + s % 2 ^ 256 < 256 then x.testBit (j + s % 2 ^ 256) else decide (sgn x) := by
  unfold sarN
  split
  · rename_i h
    rw [notN_testBit, shrN_testBit, notN_testBit]
    split
    · rename_i h2; simp [hj, h2.1, h2.2]
    · rename_i h2
      rw [decide_eq_true h, decide_eq_true hj]
      by_cases c1 : s % 2 ^ 256 < 256 <;> by_cases c2 : j + s % 2 ^ 256 < 256
      · exact absurd ⟨c1, c2⟩ h2
      · simp [c2]
      · simp [c1]
      · simp [c1]
  · rename_i h
    rw [shrN_testBit]
    split
    · rename_i h2; simp [h2.1, h2.2]
    · rename_i h2
      rw [decide_eq_false h]
      by_cases c1 : s % 2 ^ 256 < 256 <;> by_cases c2 : j + s % 2 ^ 256 < 256
      · exact absurd ⟨c1, c2⟩ h2
      · simp [c2]
      · simp [c1]
      · simp [c1]

/-! ### Powers -/
def powN (x y : Nat) : Nat := x ^ (y % 2 ^ 256) % 2 ^ 256
/-- By squares, from the lowest bit. -/
theorem pow_low (a b : Nat) (X : Nat) : X * a ^ b % 2 ^ 256 = (if b % 2 = 1 then X * a % 2 ^ 256 else X) * (a * a % 2 ^ 256) ^ (b / 2) % 2 ^ 256 := by
  have e : a ^ b = a ^ (b % 2) * (a * a) ^ (b / 2) := by
    conv => lhs; rw [← Nat.div_add_mod b 2]
    rw [Nat.pow_add, Nat.pow_mul, Nat.pow_two, Nat.mul_comm]
  rw [e, ← Nat.mul_assoc]
  have h2 : ∀ Y, Y * (a * a % 2 ^ 256) ^ (b / 2) % 2 ^ 256 = Y * (a * a) ^ (b / 2) % 2 ^ 256 := fun Y => by
    rw [Nat.mul_mod, ← Nat.pow_mod, ← Nat.mul_mod]
  rw [h2]
  rcases Nat.mod_two_eq_zero_or_one b with h | h
  · rw [h, if_neg (by omega)]; simp
  · rw [h, if_pos rfl, Nat.pow_one, Nat.mul_mod (X * a % 2 ^ 256), Nat.mod_mod, ← Nat.mul_mod]
/-- From the highest bit. -/
theorem pow_high (a E i : Nat) : a ^ (E / 2 ^ i) % 2 ^ 256 = (if E / 2 ^ i % 2 = 1 then (a ^ (E / 2 ^ (i + 1)) % 2 ^ 256 * (a ^ (E / 2 ^ (i + 1)) % 2 ^ 256) % 2 ^ 256 * a) % 2 ^ 256 else a ^ (E / 2 ^ (i + 1)) % 2 ^ 256 * (a ^ (E / 2 ^ (i + 1)) % 2 ^ 256) % 2 ^ 256) := by
  have e1 : E / 2 ^ i / 2 = E / 2 ^ (i + 1) := by rw [Nat.div_div_eq_div_mul, Nat.pow_succ]
  have e : E / 2 ^ i = E / 2 ^ (i + 1) + E / 2 ^ (i + 1) + E / 2 ^ i % 2 := by
    have := Nat.div_add_mod (E / 2 ^ i) 2
    rw [e1] at this
    omega
  have h2 : a ^ (E / 2 ^ i) = a ^ (E / 2 ^ (i + 1)) * a ^ (E / 2 ^ (i + 1)) * a ^ (E / 2 ^ i % 2) := by
    conv => lhs; rw [e]
    rw [Nat.pow_add, Nat.pow_add]
  rw [h2]
  generalize a ^ (E / 2 ^ (i + 1)) = Y
  rw [← Nat.mul_mod Y Y]
  rcases Nat.mod_two_eq_zero_or_one (E / 2 ^ i) with h | h
  · rw [h, if_neg (by omega)]; simp
  · rw [h, if_pos rfl, Nat.pow_one, Nat.mod_mul_mod]
end Go.Fw
set_option linter.unusedVariables false
namespace Go.Fw
open Go
theorem bit_of {z i y j : Nat} (h : z.testBit i = y.testBit j) : z / 2 ^ i % 2 = y / 2 ^ j % 2 := by rw [bit_testBit, bit_testBit, h]
theorem bit_lt (x i : Nat) : x / 2 ^ i % 2 ≤ 1 := by have := Nat.mod_lt (x / 2 ^ i) (show 2 > 0 by omega); omega
theorem ofB_and (x y : Nat) : ofB (fun i => x / 2 ^ i % 2 * (y / 2 ^ i % 2)) = (x &&& y) % 2 ^ 256 := ofB_eq fun i _ => bit_and x y i
theorem ofB_or (x y : Nat) : ofB (fun i => x / 2 ^ i % 2 + y / 2 ^ i % 2 - x / 2 ^ i % 2 * (y / 2 ^ i % 2)) = (x ||| y) % 2 ^ 256 := ofB_eq fun i _ => bit_or x y i
theorem ofB_xor (x y : Nat) : ofB (fun i => (x / 2 ^ i % 2 + y / 2 ^ i % 2) % 2) = (x ^^^ y) % 2 ^ 256 := ofB_eq fun i _ => bit_xor x y i
theorem ofB_not (x : Nat) : ofB (fun i => 1 - x / 2 ^ i % 2) = notN x := by
  rw [ofB_eq (z := notN x) fun i hi => bit_not x i 256 hi]
  exact Nat.mod_eq_of_lt (notN_lt x)
theorem bit_zero (i : Nat) : 0 / 2 ^ i % 2 = 0 := by rw [Nat.zero_div]
theorem ofB_shl (s x k : Nat) (hk : k = min 256 (s % 2 ^ 256)) : ofB (fun i => if k ≤ i then x / 2 ^ (i - k) % 2 else 0) = shlN s x % 2 ^ 256 := ofB_eq fun i hi => by
  rw [bit_testBit, shlN_testBit s x i hi]
  by_cases h : s % 2 ^ 256 < 256
  · have hk2 : k = s % 2 ^ 256 := by omega
    rw [← hk2] at h ⊢
    by_cases h2 : k ≤ i
    · rw [if_pos h2, bit_testBit]; simp [h, h2]
    · rw [if_neg h2]; simp [h2]
  · rw [if_neg (show ¬ k ≤ i by omega)]; simp [h]
theorem ofB_low (s x k : Nat) (hk : k = min 256 (s % 2 ^ 256)) : ofB (fun i => if i + k < 256 then x / 2 ^ (i + k) % 2 else 0) = shrN s x % 2 ^ 256 := ofB_eq fun i hi => by
  rw [bit_testBit, shrN_testBit s x i]
  by_cases h : s % 2 ^ 256 < 256
  · have hk2 : k = s % 2 ^ 256 := by omega
    rw [← hk2] at h ⊢
    by_cases h2 : i + k < 256
    · rw [if_pos h2, bit_testBit]; simp [h, h2]
    · rw [if_neg h2]; simp [h2]
  · rw [if_neg (show ¬ i + k < 256 by omega)]; simp [h]
theorem ofB_sar (s x k : Nat) (hk : k = min 256 (s % 2 ^ 256)) : ofB (fun i => if i + k < 256 then x / 2 ^ (i + k) % 2 else x / 2 ^ 255 % 2) = sarN s x % 2 ^ 256 := ofB_eq fun i hi => by
  rw [bit_testBit, sarN_testBit s x i hi]
  by_cases h : s % 2 ^ 256 < 256 ∧ i + s % 2 ^ 256 < 256
  · rw [if_pos h, if_pos (show i + k < 256 by omega), bit_testBit, show i + k = i + s % 2 ^ 256 by omega]
  · rw [if_neg h, if_neg (show ¬ i + k < 256 by omega), bit_testBit, sgn_testBit]
def sxN (k x : Nat) : Nat := if k % 2 ^ 256 < 31 then sarN (248 - 8 * (k % 2 ^ 256)) (shlN (248 - 8 * (k % 2 ^ 256)) x) else x
theorem ofB_sx (k x n : Nat) (hn : n = k % 2 ^ 256) (h : n < 31) : ofB (fun i => if i < 8 * n + 8 then x / 2 ^ i % 2 else x / 2 ^ (8 * n + 7) % 2) = sxN k x % 2 ^ 256 := ofB_eq fun i hi => by
  unfold sxN
  rw [← hn, if_pos h, bit_testBit]
  have hs : (248 - 8 * n) % 2 ^ 256 = 248 - 8 * n := Nat.mod_eq_of_lt (by omega)
  rw [sarN_testBit _ _ i hi, hs]
  by_cases h2 : i < 8 * n + 8
  · rw [if_pos (show 248 - 8 * n < 256 ∧ i + (248 - 8 * n) < 256 by omega), if_pos h2, shlN_testBit _ _ _ (by omega), hs, bit_testBit, show i + (248 - 8 * n) - (248 - 8 * n) = i by omega]
    have h3 : 248 - 8 * n < 256 := by omega
    have h4 : 248 - 8 * n ≤ i + (248 - 8 * n) := by omega
    simp [h3]
  · rw [if_neg (show ¬ (248 - 8 * n < 256 ∧ i + (248 - 8 * n) < 256) by omega), if_neg h2, ← sgn_testBit, shlN_testBit _ _ _ (by omega), hs, bit_testBit, show 255 - (248 - 8 * n) = 8 * n + 7 by omega]
    have h3 : 248 - 8 * n < 256 := by omega
    have h4 : 248 ≤ 255 + 8 * n := by omega
    simp [h3, h4]
def byteN (i x : Nat) : Nat := if i % 2 ^ 256 < 32 then x / 256 ^ (31 - i % 2 ^ 256) % 256 else 0
/-- Zeros ahead: n of them, where the bit behind is 1. -/
theorem clz_of {x n : Nat} (hn : n ≤ 256) (hz : ∀ t, t < n → x / 2 ^ (255 - t) % 2 = 0) (h : n < 256 → x / 2 ^ (255 - n) % 2 ≠ 0) : n = 256 - bitLen (x % 2 ^ 256) := by
  have hle := bitLen_le256 x
  obtain ⟨h1, h2⟩ := bitLen_spec (x % 2 ^ 256)
  have top : ∀ j, j < 256 → x / 2 ^ j % 2 = x % 2 ^ 256 / 2 ^ j % 2 := fun j hj => by
    rw [bit_testBit, bit_testBit, Nat.testBit_mod_two_pow]; simp [hj]
  generalize hb : bitLen (x % 2 ^ 256) = b at *
  rcases Nat.lt_trichotomy n (256 - b) with h3 | h3 | h3
  · -- the bit at 255 - n is above all
    exfalso
    have := h (by omega)
    rw [top _ (by omega), Nat.div_eq_of_lt] at this
    · simp at this
    · exact Nat.lt_of_lt_of_le h1 (Nat.pow_le_pow_right (by omega) (by omega))
  · exact h3
  · exfalso
    have hb0 : b ≠ 0 := by omega
    have hx : x % 2 ^ 256 ≠ 0 := fun e => by rw [e] at hb; rw [bitLen_zero] at hb; omega
    have h4 := h2 hx
    have h5 := hz (256 - b) h3
    rw [top _ (by omega), show 255 - (256 - b) = b - 1 by omega] at h5
    have h6 : x % 2 ^ 256 / 2 ^ (b - 1) = 1 := by
      have hp : 0 < 2 ^ (b - 1) := Nat.pow_pos (by omega)
      have e : 2 ^ b = 2 ^ (b - 1) * 2 := by rw [← Nat.pow_succ]; congr 1; omega
      have l1 : x % 2 ^ 256 / 2 ^ (b - 1) < 2 := (Nat.div_lt_iff_lt_mul hp).2 (by rw [Nat.mul_comm, ← e]; exact h1)
      have l2 : 1 ≤ x % 2 ^ 256 / 2 ^ (b - 1) := (Nat.le_div_iff_mul_le hp).2 (by omega)
      omega
    rw [h6] at h5; omega
end Go.Fw
set_option linter.unusedVariables false
namespace Go.Fw
open Go
variable {P : Program} {ops : Array Oper} {F : Act → World → Prop} {w0 w w' : World} {M : List Nat} {N : Nat} {L : List (Oper × K)} {σ : List (Nat × Value)} {l lS : List (Nat × Ent)} {k : K} {Q : Exit → Act → World → Prop}
  {d : Option Tmp} {ty : TypeId} {p : String} {af : Array Edge} {v v1 v2 z : Value} {x y c : Operand} {t : TypeId} {kd : IntKind} {n m r : Int} {b : Bool}

/-! ### Scopes without jumps -/
theorem T.scope {c : Code} (h : T P w0 M N (Exit.noGoto Q) c σ l) : T P w0 M N Q (.scope c) σ l := fun a w ha hw => wp_scope_straight (h a w ha hw)
theorem X.scope (h : X w0 M N Q .normal σ l) : X w0 M N (Exit.noGoto Q) .normal σ l := h
theorem X.scope_ret (h : X w0 M N Q .ret σ l) : X w0 M N (Exit.noGoto Q) .ret σ l := h
theorem X.scope_exit {id : Nat} (h : X w0 M N Q (.exit id) σ l) : X w0 M N (Exit.noGoto Q) (.exit id) σ l := h

/-! ### An array out of a slice -/
theorem J.toArr {len e q cap : Nat} {A : Option Addr} (ht : P.underlying t = some (.array len e)) (hx : ev σ x = some (.slice A q cap)) (hq : len ≤ q) (hd : okd N d) (h : J P ops F w0 M N lS L (putd d (.pointer A) σ) l) :
    J P ops F w0 M N lS ((⟨d, .sliceToArrayPointer t x, ty, p, af, none⟩, k) :: L) σ l :=
  J.pure rfl hd _ (fun a ha w => by
    have : ¬ q < len := by omega
    simp [execOp, ha.eval hx, Instr.arrayAt, run_underlying ht, this]) h

/-! ### Function values -/
theorem run_callV {f : FuncId} (hf : FnOk P f) {xs : Array Operand} {tys : Array TypeId} {args cap : List Value} {a : Act} (ha : Has N σ a) (hy : ev σ y = some (.func (.func f) #[] cap.toArray)) (hx : evs σ xs.toList = some args) (w : World) :
    (execOp a.eval ⟨d, .call ⟨.value y, xs, tys⟩, ty, p, af, none⟩).run P w = .ok (.enter f (args ++ cap).toArray) w := by
  have h1 : xs.map a.eval = args.toArray := by rw [← ha.evals hx, ← Array.toList_map, Array.toArray_toList]
  simp [execOp, resolve, ha.eval hy, Deferred.ofValue, invoke, h1, run_callFunc_enter hf]
/-- A call of a function value. -/
theorem J.callV {f : FuncId} (hf : FnOk P f) {xs : Array Operand} {tys : Array TypeId} {args cap : List Value} (hy : ev σ y = some (.func (.func f) #[] cap.toArray)) (hx : evs σ xs.toList = some args) (hd : okd N d) {ι : Type} (φ : ι → Prop) (vf : ι → Value) (M' : List Nat) (lf : ι → List (Nat × Ent))
    (spec : ∀ w, WS w0 M l w → Calls P f (args ++ cap).toArray w fun e w' => ∃ i, φ i ∧ e = .returned (vf i) ∧ WS w M' (lf i) w')
    (hM : ∀ i, φ i → ∀ g ∈ M', ∃ k e e2, lk l k = some e ∧ e.id = some g ∧ lk (lf i) k = some e2)
    (hh : ∀ i k e, lk (lf i) k = some e → lk lS k = none)
    (hJ : ∀ i, φ i → J P ops F w0 M N lS L (putd d (vf i) σ) (lf i ++ l)) :
    J P ops F w0 M N lS ((⟨d, .call ⟨.value y, xs, tys⟩, ty, p, af, none⟩, .l) :: L) σ l :=
  J.loud rfl hd φ vf (fun i => lf i ++ l) (fun i _ hs => hs.freshs (hh i)) (fun a ha w hw => by
    rw [run_callV hf ha hy hx w]
    exact (spec w hw).mono fun e w' ⟨i, hi, he, h2⟩ => ⟨vf i, he, i, hi, rfl, hw.join h2 (hM i hi)⟩) hJ
theorem J.callV0 {f : FuncId} (hf : FnOk P f) {xs : Array Operand} {tys : Array TypeId} {args cap : List Value} (hy : ev σ y = some (.func (.func f) #[] cap.toArray)) (hx : evs σ xs.toList = some args) (hd : okd N d)
    (spec : ∀ w, WS w0 M l w → Calls P f (args ++ cap).toArray w fun e w' => e = .returned v ∧ WS w [] [] w') (hJ : J P ops F w0 M N lS L (putd d v σ) l) :
    J P ops F w0 M N lS ((⟨d, .call ⟨.value y, xs, tys⟩, ty, p, af, none⟩, .l) :: L) σ l :=
  J.callV hf hy hx hd (ι := Unit) (fun _ => True) (fun _ => v) [] (fun _ => []) (fun w hw => (spec w hw).mono fun e w' ⟨he, h2⟩ => ⟨(), trivial, he, h2⟩) (fun _ _ g hg => by simp at hg) (fun _ k e he => by simp [lk] at he) (fun _ _ => hJ)
/-- A function that keeps one cell: 'two', 'is'. -/
def ClosPost (w : World) (t : TypeId) (f : FuncId) (fv : Value) (e : Ending) (w' : World) : Prop := ∃ g, w.heap.size ≤ g ∧ e = .returned (.func (.func f) #[] [.pointer (some ⟨g, 0, none⟩)].toArray) ∧ WS w [] [(0, ⟨some g, t, [fv]⟩)] w'
theorem J.callClos (h : Nat) (hh : lk lS h = none) {fv : Value} {f f2 : FuncId} (hf : FnOk P f) {xs : Array Operand} {tys : Array TypeId} {args : List Value} (hy : ev σ y = some (.func (.func f) #[] ([] : List Value).toArray)) (hx : evs σ xs.toList = some args) (hd : okd N d)
    (spec : ∀ w, WS w0 M l w → Calls P f (args ++ []).toArray w (ClosPost w t f2 fv))
    (hJ : ∀ g, w0.heap.size ≤ g → J P ops F w0 M N lS L (putd d (.func (.func f2) #[] [.pointer (some ⟨g, 0, none⟩)].toArray) σ) ((h, ⟨some g, t, [fv]⟩) :: l)) :
    J P ops F w0 M N lS ((⟨d, .call ⟨.value y, xs, tys⟩, ty, p, af, none⟩, .l) :: L) σ l :=
  J.callV hf hy hx hd (ι := Nat) (fun g => w0.heap.size ≤ g) (fun g => .func (.func f2) #[] [.pointer (some ⟨g, 0, none⟩)].toArray) [] (fun g => [(h, ⟨some g, t, [fv]⟩)])
    (fun w hw => (spec w hw).mono fun e w' ⟨g, hg, he, h2⟩ => ⟨g, Nat.le_trans hw.size hg, he, h2.rename h⟩) (fun _ _ g hg => by simp at hg) (fun i k e he => by
      rw [lk_cons] at he
      split at he
      · rename_i hk; subst hk; exact hh
      · simp [lk] at he) (fun i hi => hJ i hi)
/-- A function value that reckons with three words. -/
def FnSpec (P : Program) (w : World) (fv : Value) (S : Nat → Nat → Nat → Nat) : Prop :=
  ∃ (f : FuncId) (cap : List Value), FnOk P f ∧ fv = .func (.func f) #[] cap.toArray ∧ ∀ w', WS w [] [] w' → ∀ a b c, Calls P f ([W a, W b, W c] ++ cap).toArray w' fun e w'' => e = .returned (W (S a b c)) ∧ WS w' [] [] w''
theorem FnSpec.ws {fv : Value} {S : Nat → Nat → Nat → Nat} (h : FnSpec P w0 fv S) (hw : WS w0 [] l w) : FnSpec P w fv S := by
  obtain ⟨f, cap, h1, h2, h3⟩ := h
  refine ⟨f, cap, h1, h2, fun w' hw' => h3 w' ?_⟩
  have := (hw.sub (Sub.nil _)).join hw' (fun g hg => by simp at hg)
  exact this.sub (Sub.nil _)

/-! ### Two rows handed back -/
def Rows2Post (w : World) (t : TypeId) (kd : IntKind) (φ : List Nat → List Nat → Prop) (e : Ending) (w' : World) : Prop :=
  ∃ zs ys : List Nat, φ zs ys ∧ ∃ r s : RowIx, r.Ok 1 zs.length ∧ s.Ok 1 ys.length ∧ e = .returned (.tuple #[r.val zs.length, s.val ys.length]) ∧ WS w [] [(0, r.ent t (rowN kd zs)), (1, s.ent t (rowN kd ys))] w'
theorem J.callRows2 (i j : Nat) (hij : i ≠ j) (hi : lk lS i = none) (hj : lk lS j = none) {f : FuncId} (hf : FnOk P f) {xs : Array Operand} {tys : Array TypeId} {args : List Value} (hx : evs σ xs.toList = some args) (hd : okd N d) {φ : List Nat → List Nat → Prop}
    (spec : ∀ w, WS w0 M l w → Calls P f args.toArray w (Rows2Post w t kd φ))
    (hJ : ∀ (zs ys : List Nat) (r s : RowIx), φ zs ys → r.Ok 1 zs.length → s.Ok 1 ys.length → J P ops F w0 M N lS L (putd d (.tuple [r.val zs.length, s.val ys.length].toArray) σ) ((i, r.ent t (rowN kd zs)) :: (j, s.ent t (rowN kd ys)) :: l)) :
    J P ops F w0 M N lS ((⟨d, .call ⟨.value (.func f), xs, tys⟩, ty, p, af, none⟩, .l) :: L) σ l :=
  J.call hf hx hd (ι := (List Nat × List Nat) × (RowIx × RowIx)) (fun q => φ q.1.1 q.1.2 ∧ q.2.1.Ok 1 q.1.1.length ∧ q.2.2.Ok 1 q.1.2.length) (fun q => .tuple [q.2.1.val q.1.1.length, q.2.2.val q.1.2.length].toArray) [] (fun q => [(i, q.2.1.ent t (rowN kd q.1.1)), (j, q.2.2.ent t (rowN kd q.1.2))])
    (fun w hw => (spec w hw).mono fun e w' ⟨zs, ys, hz, r, s, hr, hs, he, h2⟩ => ⟨((zs, ys), (r, s)), ⟨hz, hr, hs⟩, he, h2.pairOf 0 1 rfl rfl (by omega) i j hij⟩) (fun _ _ g hg => by simp at hg) (fun q k e he => by
      rw [lk_cons, lk_cons] at he
      split at he
      · rename_i hk; subst hk; exact hi
      · split at he
        · rename_i hk; subst hk; exact hj
        · simp [lk] at he) (fun q hq => hJ q.1.1 q.1.2 q.2.1 q.2.2 hq.1 hq.2.1 hq.2.2)

theorem W_small {a : Nat} (h : a < 18446744073709551616) : Value.agg ([.int .u64 (a : Int), .int .u64 0, .int .u64 0, .int .u64 0] : List Value).toArray = W a := by
  have e : wl a = [a, 0, 0, 0] := by
    have e0 : lim a 0 = a := by unfold lim; omega
    have e1 : lim a 1 = 0 := by unfold lim; omega
    have e2 : lim a 2 = 0 := by unfold lim; omega
    have e3 : lim a 3 = 0 := by unfold lim; omega
    unfold wl; rw [e0, e1, e2, e3]
  show _ = Value.agg (rowN .u64 (wl a)).toArray
  rw [e]; rfl

/-! ### Eight parts -/
def lg (V : Nat) : List Nat := [lim V 0, lim V 1, lim V 2, lim V 3, lim V 4, lim V 5, lim V 6, lim V 7]
abbrev lc (V : Nat) : List Value := rowN .u64 (lg V)
theorem lg_length (V : Nat) : (lg V).length = 8 := rfl
theorem lg_get (V i : Nat) (h : i < 8) : (lg V).getD i 0 = lim V i := by
  match i, h with
  | 0, _ => rfl
  | 1, _ => rfl
  | 2, _ => rfl
  | 3, _ => rfl
  | 4, _ => rfl
  | 5, _ => rfl
  | 6, _ => rfl
  | 7, _ => rfl
theorem list8 {ys : List Nat} (h : ys.length = 8) : ys = [ys.getD 0 0, ys.getD 1 0, ys.getD 2 0, ys.getD 3 0, ys.getD 4 0, ys.getD 5 0, ys.getD 6 0, ys.getD 7 0] := by
  match ys, h with
  | [_, _, _, _, _, _, _, _], _ => rfl
theorem lg_of {ps : List Nat} (h : ps.length = 8) (hd : Dq 18446744073709551616 ps) : ps = lg (vq 18446744073709551616 ps) := by
  have g : ∀ i, ps.getD i 0 = lim (vq 18446744073709551616 ps) i := fun i => vq_get (by omega) hd i
  conv => lhs; rw [list8 h]
  rw [g 0, g 1, g 2, g 3, g 4, g 5, g 6, g 7]; rfl
theorem lc_take (V : Nat) : (lc V).take 4 = wc V := rfl
theorem lim_hi {V i j : Nat} (h : V < 18446744073709551616 ^ i) (hj : i ≤ j) : lim V j = 0 := by
  unfold lim
  rw [Nat.div_eq_of_lt (Nat.lt_of_lt_of_le h (Nat.pow_le_pow_right (by omega) hj))]
theorem lg_wide {x c : Nat} (hc : c < 18446744073709551616) : [lim x 0, lim x 1, lim x 2, lim x 3, c, 0, 0, 0] = lg (x % 2 ^ 256 + c * 2 ^ 256) := by
  have e0 : lim (x % 2 ^ 256 + c * 2 ^ 256) 0 = lim x 0 := by unfold lim; omega
  have e1 : lim (x % 2 ^ 256 + c * 2 ^ 256) 1 = lim x 1 := by unfold lim; omega
  have e2 : lim (x % 2 ^ 256 + c * 2 ^ 256) 2 = lim x 2 := by unfold lim; omega
  have e3 : lim (x % 2 ^ 256 + c * 2 ^ 256) 3 = lim x 3 := by unfold lim; omega
  have e4 : lim (x % 2 ^ 256 + c * 2 ^ 256) 4 = c := by unfold lim; omega
  have hlt : x % 2 ^ 256 + c * 2 ^ 256 < 18446744073709551616 ^ 5 := by omega
  unfold lg
  rw [e0, e1, e2, e3, e4, lim_hi hlt (by omega), lim_hi hlt (by omega), lim_hi hlt (by omega)]
theorem lim_small_top {V t : Nat} (h : V < 18446744073709551616 ^ (t + 1)) (hz : lim V t = 0) : V < 18446744073709551616 ^ t := by
  have hp : 0 < 18446744073709551616 ^ t := Nat.pow_pos (by omega)
  have h2 : V / 18446744073709551616 ^ t < 18446744073709551616 := (Nat.div_lt_iff_lt_mul hp).2 (by rw [Nat.mul_comm, ← Nat.pow_succ]; exact h)
  unfold lim at hz
  rw [Nat.mod_eq_of_lt h2] at hz
  rcases Nat.lt_or_ge V (18446744073709551616 ^ t) with h3 | h3
  · exact h3
  · have := (Nat.le_div_iff_mul_le hp).2 (show 1 * 18446744073709551616 ^ t ≤ V by omega)
    omega
theorem lim_bit (V i k : Nat) (hk : k < 64) : lim V i / 2 ^ k % 2 = V / 2 ^ (64 * i + k) % 2 := by
  rw [bit_testBit, bit_testBit, lim_testBit]; simp [hk]

/-! ### 64 bits times 64 bits -/
theorem u64_and_mask (a m j : Nat) (ha : a < 18446744073709551616) (hm : m = 2 ^ j - 1) (hj : j ≤ 63) : bits .and .u64 (a : Int) (m : Int) = ((a % 2 ^ j : Nat) : Int) := by
  have hm2 : m < 18446744073709551616 := by
    have : (2 : Nat) ^ j ≤ 2 ^ 63 := Nat.pow_le_pow_right (by omega) hj
    have : 0 < (2 : Nat) ^ j := Nat.pow_pos (by omega)
    omega
  rw [u64_and_nat a m ha hm2, hm, Nat.and_two_pow_sub_one_eq_mod]
theorem u64_and32 (a : Nat) (ha : a < 18446744073709551616) : bits .and .u64 (a : Int) 4294967295 = ((a % 4294967296 : Nat) : Int) := u64_and_mask a 4294967295 32 ha (by decide) (by omega)
theorem u64_and1 (a : Nat) (ha : a < 18446744073709551616) : bits .and .u64 (a : Int) 1 = ((a % 2 : Nat) : Int) := u64_and_mask a 1 1 ha (by decide) (by omega)
theorem u64_and15 (a : Nat) (ha : a < 18446744073709551616) : bits .and .u64 (a : Int) 15 = ((a % 16 : Nat) : Int) := u64_and_mask a 15 4 ha (by decide) (by omega)
theorem mulw_nat (a b : Nat) : IntKind.u64.wrap ((a : Int) * (b : Int)) = ((a * b % 18446744073709551616 : Nat) : Int) := by rw [← Int.natCast_mul]; exact wrapu_nat _
theorem mul64 (x y : Nat) (hx : x < 18446744073709551616) (hy : y < 18446744073709551616) :
    (x % 4294967296) * (y % 4294967296) ≤ 18446744065119617025 ∧ (x / 4294967296) * (y % 4294967296) ≤ 18446744065119617025 ∧ (x % 4294967296) * (y / 4294967296) ≤ 18446744065119617025 ∧ (x / 4294967296) * (y / 4294967296) ≤ 18446744065119617025 ∧
    (x / 4294967296) * (y / 4294967296) + ((x / 4294967296) * (y % 4294967296) + (x % 4294967296) * (y % 4294967296) / 4294967296) / 4294967296 + (((x / 4294967296) * (y % 4294967296) + (x % 4294967296) * (y % 4294967296) / 4294967296) % 4294967296 + (x % 4294967296) * (y / 4294967296)) / 4294967296 = x * y / 18446744073709551616 ∧
    x * y ≤ 340282366920938463426481119284349108225 := by
  have a1 : x % 4294967296 ≤ 4294967295 := by omega
  have a2 : x / 4294967296 ≤ 4294967295 := by omega
  have b1 : y % 4294967296 ≤ 4294967295 := by omega
  have b2 : y / 4294967296 ≤ 4294967295 := by omega
  have m1 : (x % 4294967296) * (y % 4294967296) ≤ 4294967295 * 4294967295 := Nat.mul_le_mul a1 b1
  have m2 : (x / 4294967296) * (y % 4294967296) ≤ 4294967295 * 4294967295 := Nat.mul_le_mul a2 b1
  have m3 : (x % 4294967296) * (y / 4294967296) ≤ 4294967295 * 4294967295 := Nat.mul_le_mul a1 b2
  have m4 : (x / 4294967296) * (y / 4294967296) ≤ 4294967295 * 4294967295 := Nat.mul_le_mul a2 b2
  have m5 : x * y ≤ 18446744073709551615 * 18446744073709551615 := Nat.mul_le_mul (by omega) (by omega)
  have ex : x = x / 4294967296 * 4294967296 + x % 4294967296 := by omega
  have ey : y = y / 4294967296 * 4294967296 + y % 4294967296 := by omega
  have e : x * y = (x / 4294967296) * (y / 4294967296) * 18446744073709551616 + ((x / 4294967296) * (y % 4294967296) + (x % 4294967296) * (y / 4294967296)) * 4294967296 + (x % 4294967296) * (y % 4294967296) := by
    conv => lhs; rw [ex, ey]
    generalize x / 4294967296 = a
    generalize x % 4294967296 = b
    generalize y / 4294967296 = c
    generalize y % 4294967296 = d
    rw [Nat.add_mul, Nat.mul_add, Nat.mul_add, Nat.add_mul]
    have h1 : a * 4294967296 * (c * 4294967296) = a * c * 18446744073709551616 := by
      rw [Nat.mul_assoc, Nat.mul_left_comm 4294967296 c, ← Nat.mul_assoc a c]
    have h2 : a * 4294967296 * d = a * d * 4294967296 := by rw [Nat.mul_assoc, Nat.mul_comm 4294967296 d, ← Nat.mul_assoc]
    have h3 : b * (c * 4294967296) = b * c * 4294967296 := by rw [← Nat.mul_assoc]
    rw [h1, h2, h3]
    omega
  refine ⟨by omega, by omega, by omega, by omega, ?_, by omega⟩
  rw [e]
  generalize (x / 4294967296) * (y / 4294967296) = p at *
  generalize (x / 4294967296) * (y % 4294967296) = q at *
  generalize (x % 4294967296) * (y / 4294967296) = s at *
  generalize (x % 4294967296) * (y % 4294967296) = t at *
  omega
/-- A product added to what stands there. -/
theorem mac {p c P : Nat} (hp : p < 18446744073709551616) (hc : c < 18446744073709551616) (hP : P ≤ 340282366920938463426481119284349108225) :
    P / 18446744073709551616 + (P % 18446744073709551616 + p) / 18446744073709551616 ≤ 18446744073709551615 ∧
    P / 18446744073709551616 + (P % 18446744073709551616 + p) / 18446744073709551616 + ((P % 18446744073709551616 + p) % 18446744073709551616 + c) / 18446744073709551616 ≤ 18446744073709551615 ∧
    ((P % 18446744073709551616 + p) % 18446744073709551616 + c) % 18446744073709551616 = (p + P + c) % 18446744073709551616 ∧
    P / 18446744073709551616 + (P % 18446744073709551616 + p) / 18446744073709551616 + ((P % 18446744073709551616 + p) % 18446744073709551616 + c) / 18446744073709551616 = (p + P + c) / 18446744073709551616 := by omega
theorem mod_succ_lim (X i : Nat) : X % 18446744073709551616 ^ (i + 1) = X % 18446744073709551616 ^ i + lim X i * 18446744073709551616 ^ i := by
  unfold lim
  rw [Nat.pow_succ, Nat.mod_mul, Nat.mul_comm (18446744073709551616 ^ i)]
theorem lim_mod256 (x i : Nat) (h : i < 4) : lim (x % 2 ^ 256) i = lim x i := lim_mod x i h
/-- Twice a word and a bit. -/
def lw (x b i : Nat) : Nat := if i = 0 then b else lim x (i - 1) / 9223372036854775808
theorem lw_le (x b i : Nat) (hb : b ≤ 1) : lw x b i ≤ 1 := by
  unfold lw; split
  · exact hb
  · have := lim_lt x (i - 1); omega
theorem dbl_lim (x b i : Nat) (hb : b ≤ 1) (hi : i < 4) : (lim x i * 2 % 18446744073709551616) ||| lw x b i = lim (2 * x + b) i := by
  have hw := lw_le x b i hb
  have h1 : (lim x i * 2 % 18446744073709551616) % 2 ^ 1 = 0 := by omega
  rw [nat_join 1 _ _ h1 (by omega)]
  unfold lw lim
  match i, hi with
  | 0, _ => simp; omega
  | 1, _ => simp; omega
  | 2, _ => simp; omega
  | 3, _ => simp; omega
theorem neqB_dec (b1 b2 : Bool) : (!(b1 == b2)) = decide (¬ b1 = b2) := by cases b1 <;> cases b2 <;> rfl
theorem eqB_dec (b1 b2 : Bool) : (b1 == b2) = decide (b1 = b2) := by cases b1 <;> cases b2 <;> rfl
theorem pow_low' (a b X : Nat) : X * a ^ b % 2 ^ 256 = (if b % 2 = 1 then X * a else X) * (a * a) ^ (b / 2) % 2 ^ 256 := by
  have e : a ^ b = a ^ (b % 2) * (a * a) ^ (b / 2) := by
    conv => lhs; rw [← Nat.div_add_mod b 2]
    rw [Nat.pow_add, Nat.pow_mul, Nat.pow_two, Nat.mul_comm]
  rw [e, ← Nat.mul_assoc]
  rcases Nat.mod_two_eq_zero_or_one b with h | h
  · rw [h, if_neg (by omega)]; simp
  · rw [h, if_pos rfl, Nat.pow_one]
theorem shrN_one (b : Nat) (h : b < 2 ^ 256) : shrN 1 b = b / 2 := by
  unfold shrN
  rw [show 1 % 2 ^ 256 = 1 by decide, if_pos (by omega), Nat.pow_one, Nat.mod_eq_of_lt h]
theorem shr32_nat (a : Nat) : ((a : Int)).fdiv (2 ^ min ((32 : Int)).toNat IntKind.u64.bits) = ((a / 4294967296 : Nat) : Int) := shr_nat a 32 (by omega)
theorem shr63_nat (a : Nat) : ((a : Int)).fdiv (2 ^ min ((63 : Int)).toNat IntKind.u64.bits) = ((a / 9223372036854775808 : Nat) : Int) := shr_nat a 63 (by omega)
theorem shl1_nat (a : Nat) : IntKind.u64.wrap ((a : Int) * 2 ^ min ((1 : Int)).toNat IntKind.u64.bits) = ((a * 2 % 18446744073709551616 : Nat) : Int) := shl_nat' a 1 (by omega)
theorem lg_dq (V : Nat) : Dq 18446744073709551616 (lg V) := by
  intro y hy
  unfold lg at hy
  simp at hy
  rcases hy with rfl | rfl | rfl | rfl | rfl | rfl | rfl | rfl <;> exact lim_lt _ _
theorem lg_zero : vq 18446744073709551616 (lg 0) = 0 := by decide +kernel
theorem lg_zero_get (q : Nat) : (lg 0).getD q 0 = 0 := by
  rcases Nat.lt_or_ge q 8 with h | h
  · rw [lg_get 0 q h]; unfold lim; simp
  · exact getD_far _ _ (by rw [lg_length]; exact h)
theorem retW {a b : Nat} (h : a % 2 ^ 256 = b % 2 ^ 256) : Ending.returned (Value.agg (wc a).toArray) = .returned (W b) := congrArg Ending.returned (W_congr h)
theorem J.add64z {f : FuncId} {fn : Func} {x y : Operand} {tys : Array TypeId} (hf : P.funcs[f]? = some fn) (hname : (fn.name == "runtime.NumGoroutine") = false) (hb : fn.body.isNone = true) (hn : Extern.findNext fn = none) (he : Extern.find fn = some add64Entry) {a1 a2 : Nat}
    (hx : ev σ x = some (.int .u64 (a1 : Int))) (hy : ev σ y = some (.int .u64 (a2 : Int))) (hd : okd N d)
    (h : J P ops F w0 M N lS L (putd d (.tuple [.int .u64 (((a1 + a2) % 18446744073709551616 : Nat) : Int), .int .u64 (((a1 + a2) / 18446744073709551616 : Nat) : Int)].toArray) σ) l) :
    J P ops F w0 M N lS ((⟨d, .call ⟨.value (.func f), #[x, y, .const (.int .u64 0)], tys⟩, ty, p, af, none⟩, k) :: L) σ l :=
  J.add64 hf hname hb hn he (cc := 0) hx hy rfl (by omega) hd h
theorem wc_at (x i : Nat) (h : i < 4) : (wc x)[0 + i * 1]? = some (.int .u64 ((lim x i : Nat) : Int)) := by
  have := rowN_get0 .u64 (wl x) i (by rw [wl_length]; exact h)
  rw [wl_get x i h] at this
  exact this
theorem lc_at (x i : Nat) (h : i < 8) : (lc x)[0 + i * 1]? = some (.int .u64 ((lim x i : Nat) : Int)) := by
  have := rowN_get0 .u64 (lg x) i (by rw [lg_length]; exact h)
  rw [lg_get x i h] at this
  exact this
theorem hb_high {Q J : Nat} (h : 256 ≤ J) : hb Q J % 2 ^ 256 = 0 := by
  unfold hb
  rw [show J = 256 + (J - 256) by omega, Nat.pow_add 2 256, Nat.mul_left_comm]
  exact Nat.mul_mod_right _ _
theorem shl_one (k : Nat) (h : k < 64) : IntKind.u64.wrap ((1 : Int) * 2 ^ min ((k : Int)).toNat IntKind.u64.bits) = ((2 ^ k : Nat) : Int) := by
  have := shl_nat 1 k ⟨by omega, by rw [Nat.one_mul]; exact Nat.lt_of_lt_of_le (Nat.pow_lt_pow_right (by omega) h) (by decide)⟩
  rw [Nat.one_mul] at this
  exact this
theorem lim_congr {x y : Nat} (h : x % 2 ^ 256 = y % 2 ^ 256) {i : Nat} (hi : i < 4) : lim x i = lim y i := by rw [← lim_mod x i hi, h, lim_mod y i hi]
/-- One bit more of a quotient. -/
theorem hb_set {Q G i k : Nat} (hi : i < 4) (hk : k < 64) (hQ : Q % 2 ^ 256 = hb G (64 * i + (k + 1)) % 2 ^ 256) (hbit : G / 2 ^ (64 * i + k) % 2 = 1) : (wl Q).set i (lim Q i ||| 2 ^ k) = wl (hb G (64 * i + k)) := by
  have e1 : (64 * i + k) / 64 = i := by omega
  have e2 : (64 * i + k) % 64 = k := by omega
  refine wl_of (by rw [List.length_set, wl_length]) _ (fun q hq => ?_)
  rw [getD_set _ _ _ _ (by rw [wl_length]; exact hi)]
  split
  · rename_i h
    subst h
    have := hb_lim G (64 * i + k)
    rw [e1, e2, hbit, Nat.one_mul] at this
    rw [this, lim_congr hQ hi, Nat.add_assoc]
  · rename_i h
    rw [wl_get _ _ hq, hb_lim_other G (64 * i + k) q (by rw [e1]; exact h), lim_congr hQ hq, Nat.add_assoc]
theorem lim3_top (R : Nat) : lim R 3 / 9223372036854775808 = R % 2 ^ 256 / 2 ^ 255 := by unfold lim; omega
/-- A store of what lies there. -/
theorem J.storeSame (h : Nat) {e : Ent} {o : Nat} (he : lk l h = some e) (hx : ev σ x = some (.pointer (some ⟨e.id.getD 0, o, none⟩))) (hy : ev σ y = some v) (vs : List Value) (hv : v.cells = vs.toArray) (hs : (P.info? t).map (·.size) = some vs.length)
    (hfit : o + vs.length ≤ e.cs.length) (h1 : ∀ u ∈ vs, u.oneCell' = true) (hne : 0 < vs.length) (hd : okd N d) (hcs : put e.cs o vs = e.cs)
    (hJ : J P ops F w0 M N lS L (putd d undef σ) l) : J P ops F w0 M N lS ((⟨d, .store t x y, ty, p, af, none⟩, .l) :: L) σ l :=
  J.loud rfl hd (ι := Unit) (fun _ => True) (fun _ => undef) (fun _ => l) (fun _ _ hs => hs) (fun a ha w hw => by
    have hat := hw.live h e he
    cases hid : e.id with
    | none =>
      simp only [Ent.At, hid] at hat
      rw [hat] at hfit
      simp at hfit
      simp [hfit.2] at hne
    | some g =>
      rw [hid] at hx
      simp only [Option.getD_some] at hx
      have hst := run_store_ent (P := P) hid hat vs hfit h1
      have hsz : vs.length = v.cells.size := by simp [hv]
      have hset := hw.set he hid (put e.cs o vs)
      have hrun : (execOp a.eval ⟨d, .store t x y, ty, p, af, none⟩).run P w = .ok .skip (w.setRow g (put e.cs o vs).toArray) := by
        simp only [execOp, ha.eval hx, ha.eval hy, Instr.storeAt, Instr.sureAddr, storeVar, Sem.run_bind, Sem.run_pure, Result.andThen, run_sizeOf hs, hsz, ne_eq, not_true_eq_false, if_false, hv, hst]
      rw [hcs] at hset
      rw [hrun, hcs]
      refine ⟨(), trivial, rfl, hset.sub fun n u hn => ?_⟩
      rw [lk_cons]
      split
      · rename_i hk; subst hk; rw [he] at hn; rw [← hn]
      · exact hn) (fun _ _ => hJ)
end Go.Fw
namespace Go.Fw
open Go
theorem and64_nat (a b : Nat) (h : a < 18446744073709551616 ∧ b < 18446744073709551616) : bits .and .u64 (a : Int) (b : Int) = ((a &&& b : Nat) : Int) := u64_and_nat a b h.1 h.2
theorem xor64_nat (a b : Nat) (h : a < 18446744073709551616 ∧ b < 18446744073709551616) : bits .xor .u64 (a : Int) (b : Int) = ((a ^^^ b : Nat) : Int) := u64_xor_nat a b h.1 h.2
theorem xor_ones (a : Nat) (h : a < 18446744073709551616) : 18446744073709551615 ^^^ a = 18446744073709551615 - a := Nat.eq_of_testBit_eq fun j => by
  have := Nat.testBit_two_pow_sub_succ (n := 64) (x := a) h j
  rw [show 18446744073709551615 - a = 2 ^ 64 - (a + 1) by omega, this, Nat.testBit_xor, show (18446744073709551615 : Nat) = 2 ^ 64 - 1 by decide, Nat.testBit_two_pow_sub_one]
  by_cases hj : j < 64
  · simp [hj]
  · have : a.testBit j = false := Nat.testBit_lt_two_pow (Nat.lt_of_lt_of_le h (Nat.pow_le_pow_right (n := 2) (i := 64) (by omega) (by omega)))
    simp [hj, this]
theorem compl64_nat (a : Nat) (h : a < 18446744073709551616) : bits .xor .u64 (if IntKind.u64.signed then -1 else IntKind.u64.max) (a : Int) = ((18446744073709551615 - a : Nat) : Int) := by
  rw [← xor_ones a h]
  exact u64_xor_nat 18446744073709551615 a (by omega) h
theorem set_low {ys : List Nat} {x i v : Nat} (hl : ys.length = 4) (hi : i < 4) (hy : ∀ q, q < i → ys.getD q 0 = lim x q) (hv : v = lim x i) : ∀ q, q < i + 1 → (ys.set i v).getD q 0 = lim x q := fun q hq => by
  rw [getD_set _ _ _ _ (by omega)]
  split
  · rename_i h; subst h; exact hv
  · exact hy q (by omega)
theorem set_high {ys : List Nat} {x i v : Nat} (hl : ys.length = 4) (hi : i < 4) (hz : ∀ q, i ≤ q → q < 4 → ys.getD q 0 = lim x q) : ∀ q, i + 1 ≤ q → q < 4 → (ys.set i v).getD q 0 = lim x q := fun q h1 h2 => by
  rw [getD_set _ _ _ _ (by omega), if_neg (by omega)]; exact hz q (by omega) h2
set_option exponentiation.threshold 600 in
theorem mul_lt512 (x y : Nat) : x % 2 ^ 256 * (y % 2 ^ 256) < 2 ^ 512 := by
  have h1 := Nat.mod_lt x (show 2 ^ 256 > 0 by omega)
  have h2 := Nat.mod_lt y (show 2 ^ 256 > 0 by omega)
  have h3 := Nat.mul_lt_mul'' h1 h2
  rw [← Nat.pow_add] at h3
  exact h3
/-! ### Shifts, part by part -/
theorem shl_last {s wh pt x i : Nat} (h : s % 2 ^ 256 = 64 * wh + pt) (hp : pt < 64) (hw : wh ≤ i) (hi : i < 4) (h2 : ¬ (wh < i ∧ 0 < pt)) : lim x (i - wh) * 2 ^ pt % 18446744073709551616 = lim (shlN s x) i := by
  rw [shl_lim x i h hp (by omega) hi, if_neg (by omega)]
  by_cases hwi : wh < i
  · obtain rfl : pt = 0 := by omega
    rw [if_pos hwi, Nat.div_eq_of_lt (show lim x (i - wh - 1) < 2 ^ (64 - 0) from lim_lt _ _), Nat.or_zero]
  · rw [if_neg hwi, Nat.or_zero]
theorem shl_both {s wh pt x i : Nat} (h : s % 2 ^ 256 = 64 * wh + pt) (hp : pt < 64) (hw : wh < i) (hi : i < 4) : lim x (i - wh) * 2 ^ pt % 18446744073709551616 ||| lim x (i - wh - 1) / 2 ^ (64 - pt) = lim (shlN s x) i := by
  rw [shl_lim x i h hp (by omega) hi, if_neg (by omega), if_pos hw]
theorem shr_last {s wh pt x i : Nat} (h : s % 2 ^ 256 = 64 * wh + pt) (hp : pt < 64) (hi : i + wh < 4) (h2 : ¬ (i + wh < 3 ∧ 0 < pt)) : lim x (i + wh) / 2 ^ pt = lim (shrN s x) i := by
  rw [shr_lim x i h hp (by omega) (by omega), if_pos hi]
  by_cases hwi : i + wh < 3
  · obtain rfl : pt = 0 := by omega
    rw [if_pos hwi, show lim x (i + wh + 1) * 2 ^ (64 - 0) % 18446744073709551616 = 0 from Nat.mul_mod_left _ _, Nat.or_zero]
  · rw [if_neg hwi, Nat.or_zero]
theorem shr_both {s wh pt x i : Nat} (h : s % 2 ^ 256 = 64 * wh + pt) (hp : pt < 64) (hi : i + wh < 3) : lim x (i + wh) / 2 ^ pt ||| lim x (i + wh + 1) * 2 ^ (64 - pt) % 18446744073709551616 = lim (shrN s x) i := by
  rw [shr_lim x i h hp (by omega) (by omega), if_pos (by omega), if_pos hi]
theorem set_down {ys : List Nat} {x k v : Nat} (hl : ys.length = 4) (hk : k < 4) (hy : ∀ q, k + 1 ≤ q → q < 4 → ys.getD q 0 = lim x q) (hv : v = lim x k) : ∀ q, k ≤ q → q < 4 → (ys.set k v).getD q 0 = lim x q := fun q h1 h2 => by
  rw [getD_set _ _ _ _ (by omega)]
  split
  · rename_i h; subst h; exact hv
  · exact hy q (by omega) h2
theorem set_zlow {ys : List Nat} {k v : Nat} (hl : ys.length = 4) (hk : k < 4) (hz : ∀ q, q < k + 1 → ys.getD q 0 = 0) : ∀ q, q < k → (ys.set k v).getD q 0 = 0 := fun q h1 => by
  rw [getD_set _ _ _ _ (by omega), if_neg (by omega)]; exact hz q (by omega)
theorem set_zhigh {ys : List Nat} {i v : Nat} (hl : ys.length = 4) (hi : i < 4) (hz : ∀ q, i ≤ q → ys.getD q 0 = 0) : ∀ q, i + 1 ≤ q → (ys.set i v).getD q 0 = 0 := fun q h1 => by
  rw [getD_set _ _ _ _ (by omega), if_neg (by omega)]; exact hz q (by omega)
theorem shrN_one' (e : Nat) : shrN 1 e % 2 ^ 256 = e % 2 ^ 256 / 2 := by
  unfold shrN
  rw [if_pos (by decide), show 2 ^ (1 % 2 ^ 256) = 2 by decide]
  omega
theorem lim_low {x : Nat} (h : x % 2 ^ 256 < 18446744073709551616) : lim x 0 = x % 2 ^ 256 := by unfold lim; omega
end Go.Fw
set_option linter.unusedVariables false
namespace Go.Fw
open Go
variable {P : Program} {ops : Array Oper} {F : Act → World → Prop} {w0 w w' : World} {M : List Nat} {N : Nat} {L : List (Oper × K)} {σ : List (Nat × Value)} {l lS : List (Nat × Ent)} {k : K}
  {d : Option Tmp} {ty : TypeId} {p : String} {af : Array Edge} {v v1 v2 z : Value} {x y c : Operand} {t : TypeId} {b : Bool}

def FuncT (P : Program) (t : TypeId) : Prop := ∃ a b c, P.underlying t = some (.func a b c)
theorem run_equalIn_func (d : Nat) (h : FuncT P t) (f : Fn) (a c : Array Value) (w : World) : (Op.equalIn (d + 1) t (.func f a c) .nilFunc).run P w = .ok false w := by
  obtain ⟨a', b', c', h⟩ := h
  simp [Op.equalIn, run_underlying h]
theorem run_equalIn_nilFunc (d : Nat) (h : FuncT P t) (w : World) : (Op.equalIn (d + 1) t .nilFunc .nilFunc).run P w = .ok true w := by
  obtain ⟨a', b', c', h⟩ := h
  simp [Op.equalIn, run_underlying h]
theorem run_eql_func (h : FuncT P t) (f : Fn) (a c : Array Value) (w : World) : (binOp .eql t (.func f a c) .nilFunc).run P w = .ok (.bool false) w := by
  have : (Op.equal t (.func f a c) .nilFunc).run P w = .ok false w := run_equalIn_func 9999 h f a c w
  simp only [binOp]
  simp [this]
theorem run_eql_nilFunc (h : FuncT P t) (w : World) : (binOp .eql t .nilFunc .nilFunc).run P w = .ok (.bool true) w := by
  have : (Op.equal t .nilFunc .nilFunc).run P w = .ok true w := run_equalIn_nilFunc 9999 h w
  simp only [binOp]
  simp [this]
theorem J.eqFn {t' : TypeId} {f : Fn} {fs cs : Array Value} (ht : FuncT P t) (hx : ev σ x = some (.func f fs cs)) (hy : ev σ y = some .nilFunc) (hd : okd N d) (h : J P ops F w0 M N lS L (putd d (.bool false) σ) l) :
    J P ops F w0 M N lS ((⟨d, .binOp .eql t x y t', ty, p, af, none⟩, k) :: L) σ l :=
  J.eqlR hx hy hd (fun w => by rw [eqGuard_at_func]; exact run_eql_func ht f fs cs w) h
theorem J.eqFn0 {t' : TypeId} (ht : FuncT P t) (hx : ev σ x = some .nilFunc) (hy : ev σ y = some .nilFunc) (hd : okd N d) (h : J P ops F w0 M N lS L (putd d (.bool true) σ) l) :
    J P ops F w0 M N lS ((⟨d, .binOp .eql t x y t', ty, p, af, none⟩, k) :: L) σ l :=
  J.eqlR hx hy hd (fun w => by rw [eqGuard_at_nilFunc]; exact run_eql_nilFunc ht w) h

/-! ### Strings -/
theorem bstr_append (xs ys : List Nat) : bstr xs ++ bstr ys = bstr (xs ++ ys) := by
  unfold bstr
  rw [List.map_append]
  exact ByteArray.mk_append_mk _ _
theorem bstr_size (xs : List Nat) : (bstr xs).size = xs.length := by simp [bstr, ByteArray.size]
theorem J.addStr {t' : TypeId} {xs ys : List Nat} (hx : ev σ x = some (.string (bstr xs))) (hy : ev σ y = some (.string (bstr ys))) (hd : okd N d) (h63 : xs.length + ys.length ≤ 9223372036854775807) (h : J P ops F w0 M N lS L (putd d (.string (bstr (xs ++ ys))) σ) l) :
    J P ops F w0 M N lS ((⟨d, .binOp .add t x y t', ty, p, af, none⟩, k) :: L) σ l :=
  J.eqlR hx hy hd (fun w => by
    rw [eqGuard_at_string, ← bstr_append]
    exact run_string_add_sum w _ _ (by rw [bstr_size, bstr_size]; exact h63)) h

/-- What Do reckons, code by code. -/
def doS : List (Option (Nat → Nat → Nat → Nat)) := [
  none, some fun x y _ => x + y, some fun x y _ => x * y, some fun x y _ => dif x y, some fun x y _ => divN x y, some fun x y _ => sdivN x y, some fun x y _ => modN x y, some fun x y _ => smodN x y,
  some fun x y z => addmN x y z, some fun x y z => mulmN x y z, some fun x y _ => powN x y, some fun x y _ => sxN x y, none, none, none, none,
  some fun x y _ => if x % 2 ^ 256 < y % 2 ^ 256 then 1 else 0, some fun x y _ => if y % 2 ^ 256 < x % 2 ^ 256 then 1 else 0, some fun x y _ => if sltP x y then 1 else 0, some fun x y _ => if sltP y x then 1 else 0,
  some fun x y _ => if x % 2 ^ 256 = y % 2 ^ 256 then 1 else 0, some fun x _ _ => if x % 2 ^ 256 = 0 then 1 else 0, some fun x y _ => x &&& y, some fun x y _ => x ||| y, some fun x y _ => x ^^^ y, some fun x _ _ => notN x,
  some fun x y _ => byteN x y, some fun x y _ => shlN x y, some fun x y _ => shrN x y, some fun x y _ => sarN x y, some fun x _ _ => 256 - bitLen (x % 2 ^ 256)]

/-! ### Entries under other numbers -/
def sh (l : List (Nat × Ent)) : List (Nat × Ent) := l.map fun p => (1000 + p.1, p.2)
theorem lk_sh : ∀ (l : List (Nat × Ent)) (n : Nat), lk (sh l) n = if 1000 ≤ n then lk l (n - 1000) else none
  | [], n => by simp [sh, lk]
  | (k, e) :: l, n => by
    have ih := lk_sh l n
    unfold sh at ih ⊢
    rw [List.map_cons, lk_cons, ih, lk_cons]
    by_cases h : 1000 + k = n
    · subst h
      rw [if_pos rfl, if_pos (by omega), if_pos (by omega)]
    · rw [if_neg h]
      by_cases h2 : 1000 ≤ n
      · rw [if_pos h2, if_pos h2, if_neg (by omega)]
      · rw [if_neg h2, if_neg h2]
theorem WS.sh (hw : WS w0 M l w) : WS w0 M (Fw.sh l) w := by
  have key : ∀ n e, lk (Fw.sh l) n = some e → 1000 ≤ n ∧ lk l (n - 1000) = some e := fun n e h => by
    rw [lk_sh] at h
    split at h
    · exact ⟨by assumption, h⟩
    · cases h
  refine ⟨hw.os, hw.tape, hw.output, hw.size, hw.keep, fun j e h => hw.live _ e (key j e h).2, fun j j' e e' g h h' hne hg => ?_, fun j e g h hg => hw.own _ e g (key j e h).2 hg⟩
  have h1 := key j e h
  have h2 := key j' e' h'
  exact hw.apart _ _ e e' g h1.2 h2.2 (by omega) hg

/-- Cells of an entry, as cells that lay there when a call began. -/
theorem WS.csAt (hw : WS w0 M l w) {h g : Nat} {t : TypeId} {fv : Value} (he : lk l h = some ⟨some g, t, [fv]⟩) : Cs w (some ⟨g, 0, none⟩) [fv] := hw.csOf he 0 [fv] (fun i x hx => by rw [Nat.zero_add]; exact hx)
end Go.Fw
namespace Go.Fw
open Go
/-- A word as bits. -/
def bv (x : Nat) : BitVec 256 := BitVec.ofNat 256 x
theorem bv_eq {x y : Nat} : bv x = bv y ↔ x % 2 ^ 256 = y % 2 ^ 256 := by
  unfold bv
  constructor
  · intro h; have := congrArg BitVec.toNat h; simpa using this
  · intro h; apply BitVec.eq_of_toNat_eq; simpa using h
theorem bv_add (x y : Nat) : bv (x + y) = bv x + bv y := BitVec.ofNat_add x y
theorem bv_mul (x y : Nat) : bv (x * y) = bv x * bv y := BitVec.ofNat_mul x y
theorem bv_mod (x : Nat) : bv (x % 2 ^ 256) = bv x := bv_eq.2 (Nat.mod_mod _ _)
theorem bv_dif (x y : Nat) : bv (dif x y) = bv x - bv y := by
  have h : (dif x y + y) % 2 ^ 256 = x % 2 ^ 256 := by unfold dif; omega
  have h2 := bv_eq.2 h
  rw [bv_add] at h2
  grind
theorem bv_neg (x : Nat) : bv (negN x) = - bv x := by
  unfold negN; rw [bv_dif]; have : bv 0 = 0 := rfl; rw [this]; simp
theorem bv_zero : bv 0 = 0 := rfl
theorem bv_one : bv 1 = 1 := rfl
theorem bv_abs (x : Nat) : bv (absN x) = if sgn x then - bv x else bv x := by
  unfold absN
  split
  · rw [← bv_neg]; refine bv_eq.2 ?_; rw [negN_mod]; rename_i h; unfold sgn at h; split <;> omega
  · exact bv_mod x

theorem dif_add (x y : Nat) : dif (x + y) y % 2 ^ 256 = x % 2 ^ 256 := by unfold dif; omega
theorem dif_back (x y : Nat) : (dif x y + y) % 2 ^ 256 = x % 2 ^ 256 := by unfold dif; omega
theorem divN_nz {x y : Nat} (h : ¬ y % 2 ^ 256 = 0) : divN x y = x % 2 ^ 256 / (y % 2 ^ 256) := by unfold divN; rw [if_neg h]
theorem modN_nz {x y : Nat} (h : ¬ y % 2 ^ 256 = 0) : modN x y = x % 2 ^ 256 % (y % 2 ^ 256) := by unfold modN; rw [if_neg h]
theorem divN_le (x y : Nat) : divN x y ≤ x % 2 ^ 256 := by unfold divN; split; omega; exact Nat.div_le_self _ _
theorem modN_le (x y : Nat) : modN x y ≤ x % 2 ^ 256 := by unfold modN; split; omega; exact Nat.mod_le _ _
theorem modN_lt {x y : Nat} (h : ¬ y % 2 ^ 256 = 0) : modN x y < y % 2 ^ 256 := by rw [modN_nz h]; exact Nat.mod_lt _ (by omega)
theorem div_whole {x y : Nat} (h : ¬ y % 2 ^ 256 = 0) : divN x y * (y % 2 ^ 256) + modN x y = x % 2 ^ 256 := by
  rw [divN_nz h, modN_nz h, Nat.mul_comm]; exact Nat.div_add_mod _ _
theorem div_back {x y : Nat} (h : ¬ y % 2 ^ 256 = 0) : (divN x y * y + modN x y) % 2 ^ 256 = x % 2 ^ 256 := by
  refine bv_eq.1 ?_
  have := congrArg bv (div_whole (x := x) h)
  rw [bv_add, bv_mul, bv_mod, bv_mod] at this
  rw [bv_add, bv_mul, this]
theorem div_prod {x y : Nat} (h : ¬ y % 2 ^ 256 = 0) : divN x y * y % 2 ^ 256 = divN x y * (y % 2 ^ 256) := by
  have h1 := div_whole (x := x) h
  have h2 := Nat.mod_lt x (show 2 ^ 256 > 0 by omega)
  have h3 : divN x y * y % 2 ^ 256 = divN x y * (y % 2 ^ 256) % 2 ^ 256 := bv_eq.1 (by rw [bv_mul, bv_mul, bv_mod])
  rw [h3]; exact Nat.mod_eq_of_lt (by omega)
theorem div_again {x y : Nat} (h : ¬ y % 2 ^ 256 = 0) : divN (divN x y * y) y % 2 ^ 256 = divN x y % 2 ^ 256 := by
  rw [divN_nz (x := divN x y * y) h, div_prod h, Nat.mul_div_cancel _ (by omega)]
theorem div_below {x y : Nat} (h : ¬ y % 2 ^ 256 = 0) : ¬ x % 2 ^ 256 < divN x y * y % 2 ^ 256 := by
  have h1 := div_whole (x := x) h
  rw [div_prod h]; omega
theorem sdiv_back (x y : Nat) (h : ¬ y % 2 ^ 256 = 0) : (sdivN x y * y + smodN x y) % 2 ^ 256 = x % 2 ^ 256 := by
  refine bv_eq.1 ?_
  have hy := absN_le y
  have hb : ¬ absN y % 2 ^ 256 = 0 := by
    have := absN_zero y
    rw [Nat.mod_eq_of_lt (by omega)]
    intro h0; exact h (this.1 h0)
  have h1 := congrArg bv (div_whole (x := absN x) (y := absN y) hb)
  rw [bv_add, bv_mul, bv_mod, bv_mod, bv_abs, bv_abs] at h1
  rw [bv_add, bv_mul]
  unfold sdivN smodN
  by_cases hx : sgn x <;> by_cases hy2 : sgn y <;> simp only [hx, hy2, decide_true, decide_false, if_true, if_false, not_true_eq_false, not_false_eq_true, reduceCtorEq, bv_neg] at h1 ⊢ <;> grind
end Go.Fw
namespace Go.Fw
open Go
/-! ### Moduli -/
theorem addm_nz {a b m : Nat} (h : ¬ m % 2 ^ 256 = 0) : addmN a b m = (a % 2 ^ 256 + b % 2 ^ 256) % (m % 2 ^ 256) := by unfold addmN; rw [if_neg h]
theorem mulm_nz {a b m : Nat} (h : ¬ m % 2 ^ 256 = 0) : mulmN a b m = (a % 2 ^ 256 * (b % 2 ^ 256)) % (m % 2 ^ 256) := by unfold mulmN; rw [if_neg h]
theorem addm_lt {a b m : Nat} (h : ¬ m % 2 ^ 256 = 0) : addmN a b m % 2 ^ 256 < m % 2 ^ 256 := by
  rw [addm_nz h]
  have h1 := Nat.mod_lt (a % 2 ^ 256 + b % 2 ^ 256) (show m % 2 ^ 256 > 0 by omega)
  rw [Nat.mod_eq_of_lt (by omega)]; exact h1
theorem mulm_lt {a b m : Nat} (h : ¬ m % 2 ^ 256 = 0) : mulmN a b m % 2 ^ 256 < m % 2 ^ 256 := by
  rw [mulm_nz h]
  have h1 := Nat.mod_lt (a % 2 ^ 256 * (b % 2 ^ 256)) (show m % 2 ^ 256 > 0 by omega)
  rw [Nat.mod_eq_of_lt (by omega)]; exact h1
theorem small_mod {x m : Nat} (h : ¬ m % 2 ^ 256 = 0) : x % (m % 2 ^ 256) % 2 ^ 256 = x % (m % 2 ^ 256) := by
  have h1 := Nat.mod_lt x (show m % 2 ^ 256 > 0 by omega)
  exact Nat.mod_eq_of_lt (by omega)
theorem addm_comm (a b m : Nat) : addmN a b m = addmN b a m := by unfold addmN; rw [Nat.add_comm]
theorem mulm_comm (a b m : Nat) : mulmN a b m = mulmN b a m := by unfold mulmN; rw [Nat.mul_comm]
theorem addm_zero {a m : Nat} (h : ¬ m % 2 ^ 256 = 0) : addmN a 0 m = modN a m := by rw [addm_nz h, modN_nz h, Nat.zero_mod, Nat.add_zero]
theorem mulm_zero (a m : Nat) : mulmN a 0 m = 0 := by unfold mulmN; split; rfl; rw [Nat.zero_mod, Nat.mul_zero, Nat.zero_mod]
theorem addm_mod {a b m : Nat} (h : ¬ m % 2 ^ 256 = 0) : addmN a b m = addmN (modN a m) (modN b m) m := by
  rw [addm_nz h, addm_nz h, modN_nz h, modN_nz h, small_mod h, small_mod h, ← Nat.add_mod]
theorem succ_mod {b : Nat} (hb : ¬ b % 2 ^ 256 = 115792089237316195423570985008687907853269984665640564039457584007913129639935) : (b + 1) % 2 ^ 256 = b % 2 ^ 256 + 1 := by omega
theorem addm_succ {a b m : Nat} (h : ¬ m % 2 ^ 256 = 0) (hb : ¬ b % 2 ^ 256 = 115792089237316195423570985008687907853269984665640564039457584007913129639935) : addmN a (b + 1) m = addmN (addmN a b m) 1 m := by
  rw [addm_nz h, addm_nz h, addm_nz h, small_mod h, succ_mod hb, show 1 % 2 ^ 256 = 1 from rfl, Nat.mod_add_mod, Nat.add_assoc]
theorem mulm_succ {a b m : Nat} (h : ¬ m % 2 ^ 256 = 0) (hb : ¬ b % 2 ^ 256 = 115792089237316195423570985008687907853269984665640564039457584007913129639935) : mulmN a (b + 1) m = addmN (mulmN a b m) a m := by
  rw [mulm_nz h, mulm_nz h, addm_nz h, small_mod h, succ_mod hb, Nat.mod_add_mod, Nat.mul_add, Nat.mul_one]

/-! ### Powers -/
theorem pow_mod' (a n : Nat) : (a ^ n % 2 ^ 256) % 2 ^ 256 = a ^ n % 2 ^ 256 := Nat.mod_mod _ _
theorem powN_zero (a : Nat) : powN a 0 % 2 ^ 256 = 1 % 2 ^ 256 := by unfold powN; rw [Nat.zero_mod, Nat.pow_zero, Nat.mod_mod]
theorem powN_one (a : Nat) : powN a 1 % 2 ^ 256 = a % 2 ^ 256 := by unfold powN; rw [show 1 % 2 ^ 256 = 1 from rfl, Nat.pow_one, Nat.mod_mod]
theorem powN_two (a : Nat) : powN a 2 % 2 ^ 256 = a * a % 2 ^ 256 := by unfold powN; rw [show 2 % 2 ^ 256 = 2 from rfl, Nat.pow_two, Nat.mod_mod]
theorem powN_succ {a b : Nat} (hb : ¬ b % 2 ^ 256 = 115792089237316195423570985008687907853269984665640564039457584007913129639935) : powN a (b + 1) % 2 ^ 256 = powN a b * a % 2 ^ 256 := by
  unfold powN; rw [succ_mod hb, Nat.pow_succ, Nat.mod_mod, Nat.mod_mul_mod]
theorem powN_add {a b c : Nat} (h : ¬ (b + c) % 2 ^ 256 < b % 2 ^ 256) : powN a (b + c) % 2 ^ 256 = powN a b * powN a c % 2 ^ 256 := by
  unfold powN; rw [show (b + c) % 2 ^ 256 = b % 2 ^ 256 + c % 2 ^ 256 by omega, Nat.pow_add, Nat.mod_mod, ← Nat.mul_mod]

/-! ### Shifts -/
theorem pow2_small {s : Nat} (h : s % 2 ^ 256 < 256) : powN 2 s = 2 ^ (s % 2 ^ 256) := by
  unfold powN
  exact Nat.mod_eq_of_lt (Nat.pow_lt_pow_right (by omega) h)
theorem shl_pow {s x : Nat} (h : s % 2 ^ 256 < 256) : shlN s x % 2 ^ 256 = x * powN 2 s % 2 ^ 256 := by
  unfold shlN; rw [if_pos h, pow2_small h, Nat.mod_mul_mod]
theorem shr_pow {s x : Nat} (h : s % 2 ^ 256 < 256) : shrN s x = divN x (powN 2 s) := by
  have h1 : powN 2 s % 2 ^ 256 = 2 ^ (s % 2 ^ 256) := by rw [pow2_small h]; exact Nat.mod_eq_of_lt (Nat.pow_lt_pow_right (by omega) h)
  have h2 : 2 ^ (s % 2 ^ 256) > 0 := Nat.pow_pos (by omega)
  rw [divN_nz (by omega), h1]
  unfold shrN; rw [if_pos h]
theorem shlN_congr {s t x : Nat} (h : s % 2 ^ 256 = t % 2 ^ 256) : shlN s x = shlN t x := by unfold shlN; rw [h]
theorem shrN_congr {s t x : Nat} (h : s % 2 ^ 256 = t % 2 ^ 256) : shrN s x = shrN t x := by unfold shrN; rw [h]
theorem sarN_congr {s t x : Nat} (h : s % 2 ^ 256 = t % 2 ^ 256) : sarN s x = sarN t x := by unfold sarN; rw [shrN_congr h, shrN_congr h]
theorem ext_amount {k : Nat} (h : k % 2 ^ 256 < 31) : dif 248 (k * 8) % 2 ^ 256 = (248 - 8 * (k % 2 ^ 256)) % 2 ^ 256 := by unfold dif; omega
theorem sx_shift {k x : Nat} (h : k % 2 ^ 256 < 31) : sxN k x = sarN (dif 248 (k * 8)) (shlN (dif 248 (k * 8)) x) := by
  unfold sxN; rw [if_pos h, sarN_congr (ext_amount h), shlN_congr (ext_amount h)]
theorem sx_bit {k x : Nat} (h : k % 2 ^ 256 < 31) (i : Nat) (hi : i < 256) : (sxN k x).testBit i = if i < 8 * (k % 2 ^ 256) + 8 then x.testBit i else x.testBit (8 * (k % 2 ^ 256) + 7) := by
  unfold sxN
  generalize hn : k % 2 ^ 256 = n at h
  rw [if_pos h]
  have hs : (248 - 8 * n) % 2 ^ 256 = 248 - 8 * n := Nat.mod_eq_of_lt (by omega)
  rw [sarN_testBit _ _ i hi, hs]
  by_cases h2 : i < 8 * n + 8
  · rw [if_pos (show 248 - 8 * n < 256 ∧ i + (248 - 8 * n) < 256 by omega), if_pos h2, shlN_testBit _ _ _ (by omega), hs, show i + (248 - 8 * n) - (248 - 8 * n) = i by omega]
    have h3 : 248 - 8 * n < 256 := by omega
    have h4 : 248 - 8 * n ≤ i + (248 - 8 * n) := by omega
    simp [h3]
  · rw [if_neg (show ¬ (248 - 8 * n < 256 ∧ i + (248 - 8 * n) < 256) by omega), if_neg h2, ← sgn_testBit, shlN_testBit _ _ _ (by omega), hs, show 255 - (248 - 8 * n) = 8 * n + 7 by omega]
    have h3 : 248 - 8 * n < 256 := by omega
    have h4 : 248 ≤ 255 + 8 * n := by omega
    simp [h3, h4]
theorem sx_again {k x : Nat} (h : k % 2 ^ 256 < 31) : sxN k (sxN k x) % 2 ^ 256 = sxN k x % 2 ^ 256 := mod_bits fun i hi => by
  rw [sx_bit h i hi]
  split
  · rfl
  · rename_i h2
    rw [sx_bit h i hi, if_neg h2, sx_bit h _ (by omega), if_pos (by omega)]

/-! ### Orders -/
def wcmp (x y : Nat) : Int := if x % 2 ^ 256 = y % 2 ^ 256 then 0 else if x % 2 ^ 256 < y % 2 ^ 256 then -1 else 1
theorem wcmp_flip (x y : Nat) : wcmp y x = - wcmp x y := by unfold wcmp; split <;> split <;> (try split) <;> (try split) <;> omega
theorem wcmp_zero (x y : Nat) : wcmp x y = 0 ↔ x % 2 ^ 256 = y % 2 ^ 256 := by unfold wcmp; split <;> (try split) <;> omega
theorem wcmp_neg (x y : Nat) : wcmp x y < 0 ↔ x % 2 ^ 256 < y % 2 ^ 256 := by unfold wcmp; split <;> (try split) <;> omega
theorem wcmp_pos (x y : Nat) : wcmp x y > 0 ↔ y % 2 ^ 256 < x % 2 ^ 256 := by unfold wcmp; split <;> (try split) <;> omega
theorem wcmp_fit (x y : Nat) : -1 ≤ wcmp x y ∧ wcmp x y ≤ 1 := by unfold wcmp; split <;> (try split) <;> omega
theorem neqB_same {p q : Prop} [Decidable p] [Decidable q] (h : p ↔ q) : (!(decide p == decide q)) = false := by
  by_cases hp : p
  · have hq := h.1 hp; simp [hp, hq]
  · have hq : ¬ q := fun x => hp (h.2 x)
    simp [hp, hq]
theorem eqB_same {p q : Prop} [Decidable p] [Decidable q] (h : p ↔ q) : (decide p == decide q) = true := by
  by_cases hp : p
  · have hq := h.1 hp; simp [hp, hq]
  · have hq : ¬ q := fun x => hp (h.2 x)
    simp [hp, hq]
theorem xor_high {r : Nat} (h : r < 2 ^ 255) : r ^^^ 2 ^ 255 = r + 2 ^ 255 := by
  have e := Nat.two_pow_add_eq_or_of_lt h 1
  rw [Nat.mul_one] at e
  rw [Nat.add_comm, e]
  refine Nat.eq_of_testBit_eq fun i => ?_
  rw [Nat.testBit_xor, Nat.testBit_or, Nat.testBit_two_pow]
  by_cases hi : 255 = i
  · subst hi; rw [Nat.testBit_lt_two_pow h]; simp
  · simp [hi]
theorem xor_top (a : Nat) : (a ^^^ 2 ^ 255) % 2 ^ 256 = if sgn a then a % 2 ^ 256 - 2 ^ 255 else a % 2 ^ 256 + 2 ^ 255 := by
  rw [Nat.xor_mod_two_pow, show 2 ^ 255 % 2 ^ 256 = 2 ^ 255 from rfl]
  have hlt := Nat.mod_lt a (show 2 ^ 256 > 0 by omega)
  split
  · rename_i h
    unfold sgn at h
    have h1 := xor_high (r := a % 2 ^ 256 - 2 ^ 255) (by omega)
    rw [show a % 2 ^ 256 - 2 ^ 255 + 2 ^ 255 = a % 2 ^ 256 by omega] at h1
    rw [← h1, Nat.xor_assoc, Nat.xor_self, Nat.xor_zero]
    omega
  · rename_i h
    unfold sgn at h
    exact xor_high (by omega)
theorem slt_xor (a b : Nat) : sltP a b ↔ (a ^^^ 2 ^ 255) % 2 ^ 256 < (b ^^^ 2 ^ 255) % 2 ^ 256 := by
  rw [xor_top, xor_top]
  unfold sltP
  have hla := Nat.mod_lt a (show 2 ^ 256 > 0 by omega)
  have hlb := Nat.mod_lt b (show 2 ^ 256 > 0 by omega)
  by_cases ha : sgn a <;> by_cases hb : sgn b <;> simp only [ha, hb, decide_true, decide_false, if_true, if_false, not_true_eq_false, not_false_eq_true, reduceCtorEq, true_iff, false_iff] <;> (unfold sgn at ha hb; omega)
end Go.Fw
namespace Go.Fw
open Go
theorem wcmp_ref (x y : Nat) : wcmp x y = cmpN (x % 2 ^ 256) (y % 2 ^ 256) := by
  unfold wcmp cmpN
  split
  · rw [if_neg (by omega), if_neg (by omega)]
  · split
    · rfl
    · rw [if_pos (by omega)]
theorem cmpN_zero (a b : Nat) : cmpN a b = 0 ↔ a = b := by unfold cmpN; split <;> (try split) <;> omega
theorem minus_step {xs0 xs1 zs : List Nat} {i b d b' : Nat} (hl : zs.length = i) (hv : vl zs + vl (xs1.take i) = vl (xs0.take i) + b * 256 ^ i) (he : xs0.getD i 0 + 256 * b' = xs1.getD i 0 + b + d) :
    vl (zs ++ [d]) + vl (xs1.take (i + 1)) = vl (xs0.take (i + 1)) + b' * 256 ^ (i + 1) := by
  rw [vl_append, hl, vl_take_succ, vl_take_succ, Nat.pow_succ]
  have h1 : vl [d] = d := by simp [vl]
  have h2 := congrArg (· * 256 ^ i) he
  simp only [Nat.add_mul] at h2
  rw [h1]
  grind
theorem minus_end {xs0 xs1 zs : List Nat} {b : Nat} (hz : Dg zs) (hv : vl zs + vl xs1 = vl xs0 + b * 256 ^ zs.length) (hle : vl xs1 ≤ vl xs0) : vl zs = vl xs0 - vl xs1 := by
  have := vl_lt hz
  rcases Nat.eq_zero_or_pos b with h | h
  · subst h; omega
  · have : 256 ^ zs.length ≤ b * 256 ^ zs.length := Nat.le_mul_of_pos_left _ h
    omega
/-! ### A number's digits -/
theorem small_snoc (n k : Nat) : n % 256 ^ k + n / 256 ^ k % 256 * 256 ^ k = n % 256 ^ (k + 1) := by
  rw [Nat.pow_succ, Nat.mod_mul, Nat.mul_comm (256 ^ k)]
theorem small_len {n m k : Nat} (hn : n < 9223372036854775808) (hl : k ≤ 8) (hm : m = n / 256 ^ k) (h : 0 < m) : k < 8 := by
  rcases Nat.lt_or_ge k 8 with h8 | h8
  · exact h8
  · obtain rfl : k = 8 := by omega
    have : n / 256 ^ 8 = 0 := Nat.div_eq_of_lt (Nat.lt_trans hn (by decide))
    omega
/-! ### Times -/
theorem dq_zeros (b : Nat) (h : 0 < b := by decide) (n : Nat) : Dq b (List.replicate n 0) := fun x hx => by
  rw [List.eq_of_mem_replicate hx]; exact h
theorem getD_replicate0 (n q : Nat) : (List.replicate n 0).getD q 0 = 0 := by
  rw [List.getD_eq_getElem?_getD, List.getElem?_replicate]; split <;> rfl
theorem dg_of {xs : List Nat} (h : Dq 256 xs) : Dg xs := h
theorem times_round {xs0 xs1 ps ps' : List Nat} {i k c c' : Nat} (hs : vq 256 ps' + c' * 256 ^ (i + k + 1) = vq 256 ps + c * 256 ^ (i + k) + xs0.getD i 0 * xs1.getD k 0 * 256 ^ (i + k))
    (hv : vq 256 ps + c * 256 ^ (i + k) = vl (xs0.take i) * vl xs1 + xs0.getD i 0 * vl (xs1.take k) * 256 ^ i) :
    vq 256 ps' + c' * 256 ^ (i + (k + 1)) = vl (xs0.take i) * vl xs1 + xs0.getD i 0 * vl (xs1.take (k + 1)) * 256 ^ i := by
  rw [← Nat.add_assoc i k 1, hs, hv, vl_take_succ, Nat.pow_add]
  generalize 256 ^ i = a
  generalize 256 ^ k = b
  grind
theorem times_zero {ps : List Nat} {n0 n1 i k v : Nat} (hl : ps.length = n0 + n1 + 1) (hk : k ≤ n1 ∧ i < n0) (hz : ∀ q, i + n1 + (if k ≤ n1 then 0 else 1) ≤ q → ps.getD q 0 = 0) : ∀ q, i + n1 + (if k + 1 ≤ n1 then 0 else 1) ≤ q → (ps.set (i + k) v).getD q 0 = 0 := fun q hq => by
  rw [getD_set _ _ _ _ (by omega), if_neg (by split at hq <;> omega)]
  refine hz q ?_
  rw [if_pos hk.1]
  split at hq <;> omega
theorem times_val {xs0 xs1 ps : List Nat} {i c : Nat} (hv : vq 256 ps + c * 256 ^ (i + (xs1.length + 1)) = vl (xs0.take i) * vl xs1 + xs0.getD i 0 * vl (xs1.take (xs1.length + 1)) * 256 ^ i) :
    vq 256 ps + c * 256 ^ (i + (xs1.length + 1)) = vl (xs0.take (i + 1)) * vl xs1 := by
  rw [vl_take_all xs1 _ (by omega)] at hv
  rw [hv, vl_take_succ, Nat.add_mul]
  generalize 256 ^ i = a
  grind
theorem times_carry {xs0 xs1 ps : List Nat} {i c : Nat} (hx0 : Dg xs0) (hx1 : Dg xs1) (hv : vq 256 ps + c * 256 ^ (i + (xs1.length + 1)) = vl (xs0.take i) * vl xs1 + xs0.getD i 0 * vl (xs1.take (xs1.length + 1)) * 256 ^ i) : c = 0 := by
  have h := times_val hv
  have h0 := vl_take_lt hx0 (i + 1)
  have h1 := vl_lt hx1
  have h2 := Nat.mul_lt_mul'' h0 h1
  rw [← Nat.pow_add, show i + 1 + xs1.length = i + (xs1.length + 1) by omega] at h2
  rcases Nat.eq_zero_or_pos c with hc | hc
  · exact hc
  · have : 256 ^ (i + (xs1.length + 1)) ≤ c * 256 ^ (i + (xs1.length + 1)) := Nat.le_mul_of_pos_left _ hc
    omega
theorem times_done {xs0 xs1 ps : List Nat} {i c : Nat} (hv : vq 256 ps + c * 256 ^ (i + (xs1.length + 1)) = vl (xs0.take i) * vl xs1 + xs0.getD i 0 * vl (xs1.take (xs1.length + 1)) * 256 ^ i) (hc : c = 0) : vq 256 ps = vl (xs0.take (i + 1)) * vl xs1 := by
  have h := times_val hv
  rw [hc, Nat.zero_mul, Nat.add_zero] at h
  exact h
/-! ### Bits -/
theorem bit_digit (V i : Nat) : V / 256 ^ (i / 8) % 256 / 2 ^ (i % 8) % 2 = V / 2 ^ i % 2 := by
  have h8 : i % 8 < 8 := Nat.mod_lt _ (by omega)
  have e : (256 : Nat) ^ (i / 8) = 2 ^ (8 * (i / 8)) := by rw [Nat.pow_mul]
  rw [bit_testBit, bit_testBit, show (256 : Nat) = 2 ^ 8 by decide, Nat.testBit_mod_two_pow, ← show (256 : Nat) = 2 ^ 8 by decide, e, Nat.testBit_div_two_pow, show i % 8 + 8 * (i / 8) = i by omega]
  simp [h8]
/-! ### Dividing -/
theorem cut_facts {xs zs : List Nat} {n : Nat} (hz : zs = xs.take n) (hx : Dg xs) (hlt : vl xs < 256 ^ n) : Dg zs ∧ zs.length ≤ n ∧ vl zs = vl xs := by
  subst hz
  exact ⟨hx.take n, by rw [List.length_take]; omega, by rw [vl_take_mod hx, Nat.mod_eq_of_lt hlt]⟩
theorem div_room {R b : Nat} {ds : List Nat} (hd : Dg ds) (hR : R < vl ds) (hb : b ≤ 1) : 2 * R + b < 256 ^ (ds.length + 2) := by
  have := vl_lt hd
  rw [Nat.pow_add]
  omega
theorem div_lt {N D k R : Nat} (hD : 0 < D) (hR : R = N / 2 ^ (k + 1) % D) (h : 2 * R + N / 2 ^ k % 2 < D) : 2 * R + N / 2 ^ k % 2 = N / 2 ^ k % D ∧ hb (N / D) (k + 1) = hb (N / D) k := by
  have := div_step N D k hD
  rw [← hR, if_pos h, if_pos h] at this
  exact ⟨this.1.symm, (hb_lim0 this.2).symm⟩
theorem div_ge {N D k R : Nat} (hD : 0 < D) (hR : R = N / 2 ^ (k + 1) % D) (h : D ≤ 2 * R + N / 2 ^ k % 2) : 2 * R + N / 2 ^ k % 2 - D = N / 2 ^ k % D ∧ hb (N / D) (k + 1) + 2 ^ k = hb (N / D) k := by
  have := div_step N D k hD
  rw [← hR, if_neg (by omega), if_neg (by omega)] at this
  refine ⟨this.1.symm, ?_⟩
  rw [hb_step (N / D) k, this.2, Nat.one_mul]
theorem dig_room (Q k : Nat) : hb Q (k + 1) / 256 ^ (k / 8) % 256 + 2 ^ (k % 8) < 256 := by
  have hr : k % 8 < 8 := Nat.mod_lt _ (by omega)
  have hk : k = 8 * (k / 8) + k % 8 := by omega
  generalize hq : k / 8 = q at *
  generalize hr' : k % 8 = r at *
  have e0 : (256 : Nat) ^ q = 2 ^ (8 * q) := by rw [Nat.pow_mul]
  have e1 : hb Q (k + 1) / 256 ^ q = Q / 2 ^ (k + 1) * 2 ^ (r + 1) := by
    unfold hb
    rw [show 2 ^ (k + 1) = 2 ^ (r + 1) * 256 ^ q by rw [e0, ← Nat.pow_add, show r + 1 + 8 * q = k + 1 by omega]]
    rw [← Nat.mul_assoc, Nat.mul_div_cancel _ (Nat.pow_pos (by omega))]
  rw [e1]
  generalize Q / 2 ^ (k + 1) = A
  have e2 : (256 : Nat) = 2 ^ (7 - r) * 2 ^ (r + 1) := by rw [← Nat.pow_add, show 7 - r + (r + 1) = 8 by omega]
  have e3 : A * 2 ^ (r + 1) % 256 = A % 2 ^ (7 - r) * 2 ^ (r + 1) := by
    rw [e2]; exact Nat.mul_mod_mul_right _ _ _
  rw [e3]
  have h3 : A % 2 ^ (7 - r) + 1 ≤ 2 ^ (7 - r) := Nat.mod_lt _ (Nat.pow_pos (by omega))
  have h4 := Nat.mul_le_mul_right (2 ^ (r + 1)) h3
  rw [← e2, Nat.add_mul, Nat.one_mul, Nat.pow_succ] at h4
  have h5 : 0 < 2 ^ r := Nat.pow_pos (by omega)
  rw [Nat.pow_succ]
  omega
theorem div_set {qs : List Nat} {Q k : Nat} (hq : Dg qs) (hv : vl qs = hb Q (k + 1)) (hl : k / 8 < qs.length) : Dg (qs.set (k / 8) (qs.getD (k / 8) 0 + 2 ^ (k % 8))) ∧ vl (qs.set (k / 8) (qs.getD (k / 8) 0 + 2 ^ (k % 8))) = hb Q (k + 1) + 2 ^ k := by
  have h1 := dig_room Q k
  have h2 := vl_get hq (k / 8)
  rw [hv] at h2
  refine ⟨hq.set _ (by rw [h2]; exact h1), ?_⟩
  have h3 := vl_set qs (k / 8) (qs.getD (k / 8) 0 + 2 ^ (k % 8)) hl
  have h4 : 2 ^ (k % 8) * 256 ^ (k / 8) = 2 ^ k := by
    rw [show (256 : Nat) = 2 ^ 8 by decide, ← Nat.pow_mul, ← Nat.pow_add, show k % 8 + 8 * (k / 8) = k by omega]
  rw [Nat.add_mul, h4, hv] at h3
  omega
theorem bits_small {xs : List Nat} (h : Dg xs) : vl xs < 2 ^ (8 * xs.length) := by
  rw [Nat.pow_mul]; exact vl_lt h
theorem div_small {xs : List Nat} {d : Nat} (h : Dg xs) : vl xs / d < 2 ^ (8 * xs.length) := Nat.lt_of_le_of_lt (Nat.div_le_self _ _) (bits_small h)
theorem vl_zeros (n : Nat) : vl (List.replicate n 0) = 0 := by rw [← vq_vl]; exact vq_zeros 256 n
theorem cut_mod {xs zs : List Nat} (hz : zs = xs.take 32) (hx : Dg xs) : Dg zs ∧ zs.length ≤ 32 ∧ vl zs = vl xs % 2 ^ 256 := by
  subst hz
  exact ⟨hx.take _, by rw [List.length_take]; omega, by rw [vl_take_mod hx]⟩
theorem pow_bit1 (a E k : Nat) (h : E / 2 ^ k % 2 = 1) : (a ^ (E / 2 ^ (k + 1)) % 2 ^ 256 * (a ^ (E / 2 ^ (k + 1)) % 2 ^ 256) % 2 ^ 256) * (a % 2 ^ 256) % 2 ^ 256 = a ^ (E / 2 ^ k) % 2 ^ 256 := by
  have h1 := pow_high a E k
  rw [if_pos h] at h1
  rw [h1, Nat.mul_mod_mod]
theorem pow_bit0 (a E k : Nat) (h : ¬ E / 2 ^ k % 2 = 1) : a ^ (E / 2 ^ (k + 1)) % 2 ^ 256 * (a ^ (E / 2 ^ (k + 1)) % 2 ^ 256) % 2 ^ 256 = a ^ (E / 2 ^ k) % 2 ^ 256 := by
  have h1 := pow_high a E k
  rw [if_neg h] at h1
  exact h1.symm
end Go.Fw
namespace Go.Fw
open Go
theorem absN_small (x : Nat) : absN x % 2 ^ 256 = absN x := Nat.mod_eq_of_lt (by have := absN_le x; omega)
theorem sdivN_zero {a b : Nat} (h : absN b = 0) : 0 % 2 ^ 256 = sdivN a b % 2 ^ 256 := by
  have h1 : divN (absN a) (absN b) = 0 := by unfold divN; rw [if_pos (by rw [absN_small]; exact h)]
  unfold sdivN
  rw [h1]
  split
  · rw [negN_mod, if_pos (Nat.zero_mod _)]
  · rfl
theorem sdivN_nz {a b : Nat} (h : ¬ absN b = 0) : sdivN a b = if ¬ decide (sgn a) = decide (sgn b) then negN (absN a / absN b) else absN a / absN b := by
  unfold sdivN
  rw [divN_nz (by rw [absN_small]; exact h), absN_small, absN_small]
theorem smodN_zero {a b : Nat} (h : absN b = 0) : 0 % 2 ^ 256 = smodN a b % 2 ^ 256 := by
  have h1 : modN (absN a) (absN b) = 0 := by unfold modN; rw [if_pos (by rw [absN_small]; exact h)]
  unfold smodN
  rw [h1]
  split
  · rw [negN_mod, if_pos (Nat.zero_mod _)]
  · rfl
theorem smodN_nz {a b : Nat} (h : ¬ absN b = 0) : smodN a b = if sgn a then negN (absN a % absN b) else absN a % absN b := by
  unfold smodN
  rw [modN_nz (by rw [absN_small]; exact h), absN_small, absN_small]
theorem put_whole (cs vs : List Value) (h : cs.length = vs.length) : put cs 0 vs = vs := by
  unfold put
  rw [List.take_zero, List.nil_append, Nat.zero_add, List.drop_eq_nil_of_le (by omega), List.append_nil]
theorem set_bits {ys : List Nat} {f : Nat → Nat} {i v : Nat} (hl : ys.length = 256) (hi : i < 256) (hy : ∀ q, q < i → ys.getD q 0 = f q) (hv : v = f i) : ∀ q, q < i + 1 → (ys.set i v).getD q 0 = f q := fun q hq => by
  rw [getD_set _ _ _ _ (by omega)]
  split
  · rename_i h; subst h; exact hv
  · exact hy q (by omega)
theorem set_rest {ys : List Nat} {f : Nat → Nat} {i v : Nat} (hl : ys.length = 256) (hi : i < 256) (hz : ∀ q, i ≤ q → q < 256 → ys.getD q 0 = f q) : ∀ q, i + 1 ≤ q → q < 256 → (ys.set i v).getD q 0 = f q := fun q h1 h2 => by
  rw [getD_set _ _ _ _ (by omega), if_neg (by omega)]; exact hz q (by omega) h2
theorem dq_of {ys : List Nat} {f : Nat → Nat} (hl : ys.length = 256) (hy : ∀ q, q < 256 → ys.getD q 0 = f q) (hf : ∀ q, f q ≤ 1) : Dq 2 ys := fun x hx => by
  obtain ⟨i, hi, rfl⟩ := List.mem_iff_getElem.1 hx
  have h1 := hy i (by omega)
  have h2 := hf i
  rw [List.getD_eq_getElem?_getD, List.getElem?_eq_getElem hi, Option.getD_some] at h1
  omega
theorem bit_and_le {a b : Nat} (ha : a ≤ 1) (hb : b ≤ 1) : a * b ≤ 1 := Nat.mul_le_mul ha hb
theorem bit_or_le {a b : Nat} (ha : a ≤ 1) (hb : b ≤ 1) : a * b ≤ a ∧ a + b - a * b ≤ 1 := by
  have h1 : a = 0 ∨ a = 1 := by omega
  rcases h1 with rfl | rfl <;> simp <;> omega
theorem dig_step {V j : Nat} {ds bs : List Nat} (hl : ds.length = 32) (hj : j < 256) (hd : ∀ q, q < 32 → ds.getD q 0 = digF V (j + 1) q) (hb : bs.getD j 0 = V / 2 ^ j % 2) : ∀ q, q < 32 → (ds.set (j / 8) (2 * ds.getD (j / 8) 0 + bs.getD j 0)).getD q 0 = digF V j q := fun q hq => by
  rw [getD_set _ _ _ _ (by omega)]
  split
  · rename_i h; subst h; rw [digF_step V j _ (by omega) (by omega), hd _ hq, hb, Nat.mul_comm]
  · rw [digF_other V j q (by omega)]; exact hd q hq
theorem dgs_of {ds : List Nat} {V : Nat} (hl : ds.length = 32) (hd : ∀ q, q < 32 → ds.getD q 0 = digF V 0 q) : ds = dgs V 32 := by
  apply List.ext_getElem (by rw [dgs_length, hl])
  intro i h1 h2
  have a := hd i (by omega)
  have b := dgs_get V 32 i (by omega)
  rw [digF_zero] at a
  rw [List.getD_eq_getElem?_getD, List.getElem?_eq_getElem h1, Option.getD_some] at a
  rw [List.getD_eq_getElem?_getD, List.getElem?_eq_getElem h2, Option.getD_some] at b
  rw [a, b]
theorem top_step (X i : Nat) : X / 256 ^ (i + 1) * 256 + X / 256 ^ i % 256 = X / 256 ^ i := by
  rw [Nat.pow_succ, ← Nat.div_div_eq_div_mul, Nat.mul_comm]
  exact Nat.div_add_mod _ _
theorem dig_mod {x i : Nat} (hi : i < 32) : x / 256 ^ i % 256 = x % 2 ^ 256 / 256 ^ i % 256 := by
  rw [← dgs_get x 32 i hi, vl_get (dgs_dg x 32) i, dgs_vl32]
theorem bit_mod (x i : Nat) (hi : i < 256) : x % 2 ^ 256 / 2 ^ i % 2 = x / 2 ^ i % 2 := by
  rw [bit_testBit, bit_testBit, Nat.testBit_mod_two_pow]; simp [hi]
end Go.Fw
namespace Go.Fw
open Go
theorem drop_cells {kd : IntKind} {xs : List Nat} {z o : Nat} (hl : xs.length = 32) (hz : z ≤ 32) (ho : o = if 32 = z then 0 else z) : ∀ (i : Nat) (x : Value), (rowN kd (xs.drop z))[i]? = some x → (rowN kd xs)[o + i]? = some x := fun i x h => by
  by_cases h32 : z = 32
  · subst h32; rw [List.drop_eq_nil_of_le (by omega)] at h; simp [rowN] at h
  · rw [if_neg (by omega)] at ho
    subst ho
    unfold rowN at h ⊢
    rw [List.getElem?_map, List.getElem?_drop] at h
    rw [List.getElem?_map]
    exact h
theorem lead_zero {x z : Nat} (hz : ∀ q, q < z → (bytesN x).getD q 0 = 0) : vl ((bytesN x).drop z).reverse = x % 2 ^ 256 := by
  have h1 : (bytesN x).reverse = ((bytesN x).drop z).reverse ++ ((bytesN x).take z).reverse := by rw [← List.reverse_append, List.take_append_drop]
  have h2 := bytesN_vl x
  rw [h1, vl_append] at h2
  have h3 : vl ((bytesN x).take z).reverse = 0 := vl_zero fun t => by
    rcases Nat.lt_or_ge t ((bytesN x).take z).reverse.length with h | h
    · rw [List.length_reverse] at h
      rw [List.getD_eq_getElem?_getD, List.getElem?_reverse h]
      have h4 := hz (((bytesN x).take z).length - 1 - t) (by rw [List.length_take] at h ⊢; omega)
      rw [List.getElem?_take_of_lt (by rw [List.length_take] at h ⊢; omega), ← List.getD_eq_getElem?_getD]
      exact h4
    · rw [List.getD_eq_getElem?_getD, List.getElem?_eq_none h]; rfl
  rw [h3] at h2
  omega
theorem byte_acc {x i acc : Nat} (hi : i < 32) (ha : acc % 2 ^ 256 = x % 2 ^ 256 / 256 ^ (32 - i)) : (acc * 256 + byteN i x) % 2 ^ 256 = x % 2 ^ 256 / 256 ^ (32 - (i + 1)) := by
  have hb : byteN i x = x % 2 ^ 256 / 256 ^ (31 - i) % 256 := by
    unfold byteN
    rw [Nat.mod_eq_of_lt (show i < 2 ^ 256 by omega), if_pos hi, dig_mod (by omega)]
  have h1 := top_step (x % 2 ^ 256) (31 - i)
  rw [show 31 - i + 1 = 32 - i by omega, ← ha, ← hb] at h1
  rw [show 32 - (i + 1) = 31 - i by omega, ← h1]
  have h2 : x % 2 ^ 256 / 256 ^ (31 - i) ≤ x % 2 ^ 256 := Nat.div_le_self _ _
  omega
theorem byte_eq {x i : Nat} (hi : i < 32) : byteN i x = x / 256 ^ (31 - i) % 256 := by
  unfold byteN
  rw [Nat.mod_eq_of_lt (show i < 2 ^ 256 by omega), if_pos hi]
theorem size_lead {x z : Nat} (hz : z ≤ 32) (h0 : ∀ q, q < z → (bytesN x).getD q 0 = 0) (h1 : z < 32 → (bytesN x).getD z 0 ≠ 0) : sizeN x = 32 - z := sizeN_of (by omega) (fun t h2 h3 => by
    have := h0 (31 - t) (by omega)
    rwa [bytesN_get _ _ (by omega), show 31 - (31 - t) = t by omega] at this) (fun h => by
    have := h1 (by omega)
    rwa [bytesN_get _ _ (by omega), show 31 - z = 32 - z - 1 by omega] at this)
end Go.Fw
namespace Go.Fw
open Go
theorem sumN_reverse (xs : List Nat) : sumN xs.reverse = sumN xs := by
  unfold sumN
  rw [List.map_reverse]
  exact List.sum_reverse _
end Go.Fw
set_option linter.unusedVariables false
namespace Go.Fw
open Go
section
variable {P : Program} {ops : Array Oper} {F : Act → World → Prop} {w0 w w' : World} {M : List Nat} {N : Nat} {L : List (Oper × K)} {σ : List (Nat × Value)} {l lS : List (Nat × Ent)} {d : Option Tmp} {ty : TypeId} {p : String} {af : Array Edge} {x y : Operand} {v z : Value} {t : TypeId} {kd : IntKind} {k : K}
  {tm tr tb : TypeId} {a b : Nat} {i j : RowIx} {bs cs : List Nat}

/-- Entries under other names. -/
theorem WS.ren (hw : WS w0 M l w) (l' : List (Nat × Ent)) (f : Nat → Nat) (hl : ∀ k e, lk l' k = some e → lk l (f k) = some e) (hf : ∀ k k' e e', lk l' k = some e → lk l' k' = some e' → f k = f k' → k = k') : WS w0 M l' w :=
  ⟨hw.os, hw.tape, hw.output, hw.size, hw.keep, fun k e he => hw.live _ e (hl k e he), fun k k' e e' g he he' hne hg => hw.apart _ _ e e' g (hl k e he) (hl k' e' he') (fun h => hne (hf k k' e e' he he' h)) hg, fun k e g he hg => hw.own _ e g (hl k e he) hg⟩
theorem WS.init (l : List (Nat × Ent)) (h1 : ∀ k e, lk l k = some e → e.At w) (h2 : ∀ k k' e e' g, lk l k = some e → lk l k' = some e' → k ≠ k' → e.id = some g → e'.id ≠ some g) (h3 : ∀ k e g, lk l k = some e → e.id = some g → g ∈ M) : WS w M l w :=
  ⟨rfl, rfl, rfl, Nat.le_refl _, fun _ _ _ => rfl, h1, h2, fun k e g he hg => .inr (h3 k e g he hg)⟩

def four (e0 e1 e2 e3 : Ent) (h : Nat) : List (Nat × Ent) := [(h, e0), (h + 1, e1), (h + 2, e2), (h + 3, e3)]
theorem four_lk {e0 e1 e2 e3 : Ent} {h k : Nat} {e : Ent} (hk : lk (four e0 e1 e2 e3 h) k = some e) : (k = h ∧ e = e0) ∨ (k = h + 1 ∧ e = e1) ∨ (k = h + 2 ∧ e = e2) ∨ (k = h + 3 ∧ e = e3) := by
  unfold four at hk
  rw [lk_cons, lk_cons, lk_cons, lk_cons] at hk
  split at hk
  · simp at hk; exact .inl ⟨by omega, hk.symm⟩
  · split at hk
    · simp at hk; exact .inr (.inl ⟨by omega, hk.symm⟩)
    · split at hk
      · simp at hk; exact .inr (.inr (.inl ⟨by omega, hk.symm⟩))
      · split at hk
        · simp at hk; exact .inr (.inr (.inr ⟨by omega, hk.symm⟩))
        · simp [lk] at hk
theorem four_0 {e0 e1 e2 e3 : Ent} {h : Nat} : lk (four e0 e1 e2 e3 h) h = some e0 := by unfold four; rw [lk_cons, if_pos rfl]
theorem four_1 {e0 e1 e2 e3 : Ent} {h : Nat} : lk (four e0 e1 e2 e3 h) (h + 1) = some e1 := by unfold four; rw [lk_cons, if_neg (by omega), lk_cons, if_pos rfl]
theorem four_2 {e0 e1 e2 e3 : Ent} {h : Nat} : lk (four e0 e1 e2 e3 h) (h + 2) = some e2 := by unfold four; rw [lk_cons, if_neg (by omega), lk_cons, if_neg (by omega), lk_cons, if_pos rfl]
theorem four_3 {e0 e1 e2 e3 : Ent} {h : Nat} : lk (four e0 e1 e2 e3 h) (h + 3) = some e3 := by unfold four; rw [lk_cons, if_neg (by omega), lk_cons, if_neg (by omega), lk_cons, if_neg (by omega), lk_cons, if_pos rfl]
theorem WS.fourOf (hw : WS w0 M l w) (h h' : Nat) {e0 e1 e2 e3 : Ent} (h0 : lk l h = some e0) (h1 : lk l (h + 1) = some e1) (h2 : lk l (h + 2) = some e2) (h3 : lk l (h + 3) = some e3) : WS w0 M (four e0 e1 e2 e3 h') w :=
  hw.ren _ (fun k => k + h - h') (fun k e hk => by
    rcases four_lk hk with ⟨rfl, rfl⟩ | ⟨rfl, rfl⟩ | ⟨rfl, rfl⟩ | ⟨rfl, rfl⟩
    · rw [show k + h - k = h by omega]; exact h0
    · rw [show h' + 1 + h - h' = h + 1 by omega]; exact h1
    · rw [show h' + 2 + h - h' = h + 2 by omega]; exact h2
    · rw [show h' + 3 + h - h' = h + 3 by omega]; exact h3) (fun k k' e e' hk hk' hh => by
    have q1 : h' ≤ k := by rcases four_lk hk with ⟨rfl, _⟩ | ⟨rfl, _⟩ | ⟨rfl, _⟩ | ⟨rfl, _⟩ <;> omega
    have q2 : h' ≤ k' := by rcases four_lk hk' with ⟨rfl, _⟩ | ⟨rfl, _⟩ | ⟨rfl, _⟩ | ⟨rfl, _⟩ <;> omega
    omega)

abbrev pageM (a b : Nat) (i j : RowIx) : List Nat := memM a i ++ memM b j
abbrev pageE (tm tr tb : TypeId) (a b : Nat) (i j : RowIx) (bs : List Nat) (h : Nat) : List (Nat × Ent) := four ⟨some a, tm, [i.val bs.length]⟩ (i.ent tb (rowN .u8 bs)) ⟨some b, tr, [j.val bs.length]⟩ (j.ent tb (rowN .u8 bs)) h
/-- Both lie in w. -/
def PageAt (w : World) (tm tr tb : TypeId) (a b : Nat) (i j : RowIx) (bs : List Nat) : Prop := WS w (pageM a b i j) (pageE tm tr tb a b i j bs 0) w
theorem WS.pageAt (hw : WS w0 M l w) (h : Nat) (h0 : lk l h = some ⟨some a, tm, [i.val bs.length]⟩) (h1 : lk l (h + 1) = some (i.ent tb (rowN .u8 bs))) (h2 : lk l (h + 2) = some ⟨some b, tr, [j.val bs.length]⟩) (h3 : lk l (h + 3) = some (j.ent tb (rowN .u8 bs))) : PageAt w tm tr tb a b i j bs := by
  have hf := hw.fourOf h 0 h0 h1 h2 h3
  refine WS.init _ hf.live hf.apart (fun k e g hk hg => ?_)
  rcases four_lk hk with ⟨_, rfl⟩ | ⟨_, rfl⟩ | ⟨_, rfl⟩ | ⟨_, rfl⟩
  · simp at hg; subst hg; simp
  · simp only [RowIx.ent] at hg; simp [hg]
  · simp at hg; subst hg; simp
  · simp only [RowIx.ent] at hg; simp [hg]
theorem WS.offPage (hw : WS w0 [] l w) (h : Nat) (h0 : lk l h = some ⟨some a, tm, [i.val bs.length]⟩) (h1 : lk l (h + 1) = some (i.ent tb (rowN .u8 bs))) (h2 : lk l (h + 2) = some ⟨some b, tr, [j.val bs.length]⟩) (h3 : lk l (h + 3) = some (j.ent tb (rowN .u8 bs)))
    {A : Option Addr} {xs : List Nat} (hc : Cs w0 A (rowN kd xs)) : xs ≠ [] → Off (pageM a b i j) A := by
  intro hx ad had hin
  rcases List.mem_append.1 hin with hin | hin
  · exact hw.offIn h (h + 1) h0 h1 hc hx ad had hin
  · exact hw.offIn (h + 2) (h + 3) h2 h3 hc hx ad had hin
def pageL (k n : Int) (L : Nat) : Nat := if k = 3 then growL L n else L
def PagePost (w : World) (tm tr tb : TypeId) (a b : Nat) (i j : RowIx) (L : Nat) (e : Ending) (w' : World) : Prop :=
  ∃ (i' j' : RowIx) (bs' : List Nat), MOk i' bs' ∧ MOk j' bs' ∧ bs'.length = L ∧ e = .returned (.bool true) ∧ WS w (pageM a b i j) (pageE tm tr tb a b i' j' bs' 0) w'
theorem PagePost.mk' {e : Ending} {L : Nat} (h : Nat) (i' j' : RowIx) (bs' : List Nat) (h1 : MOk i' bs') (h2 : MOk j' bs') (hL : bs'.length = L) (he : e = .returned (.bool true)) (hw : WS w (pageM a b i j) l w')
    (e0 : lk l h = some ⟨some a, tm, [i'.val bs'.length]⟩) (e1 : lk l (h + 1) = some (i'.ent tb (rowN .u8 bs'))) (e2 : lk l (h + 2) = some ⟨some b, tr, [j'.val bs'.length]⟩) (e3 : lk l (h + 3) = some (j'.ent tb (rowN .u8 bs'))) : PagePost w tm tr tb a b i j L e w' :=
  ⟨i', j', bs', h1, h2, hL, he, hw.fourOf h 0 e0 e1 e2 e3⟩
theorem J.callPage (h : Nat) {K : Nat} (h0 : lk l h = some ⟨some a, tm, [i.val bs.length]⟩) (h1 : lk l (h + 1) = some (i.ent tb (rowN .u8 bs))) (h2 : lk l (h + 2) = some ⟨some b, tr, [j.val bs.length]⟩) (h3 : lk l (h + 3) = some (j.ent tb (rowN .u8 bs)))
    (s0 : lk lS h = none) (s1 : lk lS (h + 1) = none) (s2 : lk lS (h + 2) = none) (s3 : lk lS (h + 3) = none) {f : FuncId} (hf : FnOk P f) {xs : Array Operand} {tys : Array TypeId} {args : List Value} (hx : evs σ xs.toList = some args) (hd : okd N d)
    (spec : ∀ w, WS w0 M l w → Calls P f args.toArray w (PagePost w tm tr tb a b i j K))
    (hJ : ∀ (i' j' : RowIx) (bs' : List Nat), MOk i' bs' → MOk j' bs' → bs'.length = K → J P ops F w0 M N lS L (putd d (.bool true) σ) ((h, ⟨some a, tm, [i'.val bs'.length]⟩) :: (h + 1, i'.ent tb (rowN .u8 bs')) :: (h + 2, ⟨some b, tr, [j'.val bs'.length]⟩) :: (h + 3, j'.ent tb (rowN .u8 bs')) :: l)) :
    J P ops F w0 M N lS ((⟨d, .call ⟨.value (.func f), xs, tys⟩, ty, p, af, none⟩, .l) :: L) σ l :=
  J.call hf hx hd (ι := (RowIx × RowIx) × List Nat) (fun q => MOk q.1.1 q.2 ∧ MOk q.1.2 q.2 ∧ q.2.length = K) (fun _ => .bool true) (pageM a b i j) (fun q => pageE tm tr tb a b q.1.1 q.1.2 q.2 h)
    (fun w hw => (spec w hw).mono fun e w' ⟨i', j', bs', m1, m2, m3, he, hw'⟩ => ⟨((i', j'), bs'), ⟨m1, m2, m3⟩, he, hw'.fourOf 0 h four_0 four_1 four_2 four_3⟩)
    (fun q hq g hg => by
      simp only [pageM, memM, List.mem_append, List.mem_singleton, Option.mem_toList] at hg
      rcases hg with (rfl | hg) | (rfl | hg)
      · exact ⟨h, _, _, h0, rfl, four_0⟩
      · exact ⟨h + 1, _, _, h1, hg, four_1⟩
      · exact ⟨h + 2, _, _, h2, rfl, four_2⟩
      · exact ⟨h + 3, _, _, h3, hg, four_3⟩)
    (fun q k e he => by
      rcases four_lk he with ⟨rfl, _⟩ | ⟨rfl, _⟩ | ⟨rfl, _⟩ | ⟨rfl, _⟩
      · exact s0
      · exact s1
      · exact s2
      · exact s3) (fun q hq => hJ q.1.1 q.1.2 q.2 hq.1 hq.2.1 hq.2.2)
end

/-! ### 'wrote' -/
def wrk : List (Int × Int × Int × Int × Nat) := [(3, 1, 0, 0, 0), (5, 0, 0, 0, 258), (9, 1, 30, 2, 0), (4, 0, 0, 0, 0), (7, 1, 2, 0, 0), (1, 0, 0, 0, 0)]
abbrev opw (q : Int × Int × Int × Int × Nat) : List Value := [.int .i64 q.1, .bool false, .int .i64 q.2.1, .int .i64 q.2.2.1, .int .i64 q.2.2.2.1] ++ (rowN .u64 (wl q.2.2.2.2) ++ (rowN .u64 (wl 0) ++ [.slice none 0 0]))
def wrkc : List Value := wrk.flatMap opw
def wrq (i : Nat) : Int × Int × Int × Int × Nat := wrk.getD i (0, 0, 0, 0, 0)
def wrL (i : Nat) : Nat := if i = 0 then 0 else 32
theorem wrk_all : ∀ i : Fin 6, (0 ≤ (wrq i.val).2.1 ∧ (wrq i.val).2.1 ≤ 30) ∧ (0 ≤ (wrq i.val).2.2.1 ∧ (wrq i.val).2.2.1 ≤ 30) ∧ (0 ≤ (wrq i.val).2.2.2.1 ∧ (wrq i.val).2.2.2.1 ≤ 30) ∧ pageL (wrq i.val).1 (wrq i.val).2.1 (wrL i.val) = wrL (i.val + 1) := by decide +kernel
theorem wrk_seg (i : Nat) (h : i < 6) : (wrkc.drop (i * 14)).take 14 = opw (wrq i) := by
  match i, h with
  | 0, _ => rfl
  | 1, _ => rfl
  | 2, _ => rfl
  | 3, _ => rfl
  | 4, _ => rfl
  | 5, _ => rfl
end Go.Fw
set_option linter.unusedVariables false
namespace Go.Fw
open Go Go.ChangeShapes Go.WideShapes Go.ChangeAt Go.RowKit
section
variable {P : Program} {W : World} {H : Type} {enc : TypeId × Value → H} {base : Nat} {sp : Nat → Bool} {held : Bool}

theorem mapM_at {α β : Type} {f : α → Option β} : ∀ {xs : List α} {ys : List β}, xs.mapM f = some ys → xs.length = ys.length ∧ ∀ (i : Nat) (x : α), xs[i]? = some x → ∃ y, ys[i]? = some y ∧ f x = some y
  | [], ys, h => by simp at h; subst h; simp
  | x :: xs, ys, h => by
    rw [List.mapM_cons] at h
    cases h1 : f x with
    | none => simp [h1] at h
    | some y =>
      cases h2 : xs.mapM f with
      | none => simp [h1, h2] at h
      | some zs =>
        simp [h1, h2] at h
        subst h
        obtain ⟨e, k⟩ := mapM_at h2
        refine ⟨by simp [e], fun i u hu => ?_⟩
        cases i with
        | zero => simp at hu; subst hu; exact ⟨y, rfl, h1⟩
        | succ i => exact k i u (by simpa using hu)

theorem cells_at {a : Addr} {n : Nat} {cs : List Value} (h : W.cells? base a n = some cs) : cs.length = n ∧ ∀ i, i < n → W.cell? (a.add i) = cs[i]? := by
  unfold World.cells? at h
  split at h
  · obtain ⟨e, k⟩ := mapM_at h
    refine ⟨by rw [← e]; simp, fun i hi => ?_⟩
    obtain ⟨y, hy, h2⟩ := k i i (by simp [hi])
    rw [hy, h2]
  · cases h

theorem wf_u8 {n : Int} (h : (Lit.int .u8 n).wf = true) : 0 ≤ n ∧ n < 256 := by
  simp [Lit.wf, IntKind.min, IntKind.max, IntKind.signed, IntKind.bits] at h
  omega
theorem wf_u64 {n : Int} (h : (Lit.int .u64 n).wf = true) : 0 ≤ n ∧ n < 18446744073709551616 := by
  simp [Lit.wf, IntKind.min, IntKind.max, IntKind.signed, IntKind.bits] at h
  omega
theorem wf_i64 {n : Int} (h : (Lit.int .i64 n).wf = true) : -9223372036854775808 ≤ n ∧ n ≤ 9223372036854775807 := by
  simp [Lit.wf, IntKind.min, IntKind.max, IntKind.signed, IntKind.bits] at h
  omega

/-- The number of four parts. -/
def wval (a b c d : Nat) : Nat := a + 18446744073709551616 * (b + 18446744073709551616 * (c + 18446744073709551616 * d))
theorem wval_lt {a b c d : Nat} (h : a < 18446744073709551616 ∧ b < 18446744073709551616 ∧ c < 18446744073709551616 ∧ d < 18446744073709551616) : wval a b c d < 2 ^ 256 := by unfold wval; omega
theorem wl_wval {a b c d : Nat} (h : a < 18446744073709551616 ∧ b < 18446744073709551616 ∧ c < 18446744073709551616 ∧ d < 18446744073709551616) : wl (wval a b c d) = [a, b, c, d] := by
  have e0 : lim (wval a b c d) 0 = a := by unfold lim wval; omega
  have e1 : lim (wval a b c d) 1 = b := by unfold lim wval; omega
  have e2 : lim (wval a b c d) 2 = c := by unfold lim wval; omega
  have e3 : lim (wval a b c d) 3 = d := by unfold lim wval; omega
  unfold wl
  rw [e0, e1, e2, e3]

/-- The table's rows for a word. -/
structure WordT (P : Program) (t e : TypeId) : Prop where
  arr : P.underlying t = some (.array 4 e)
  int : P.underlying e = some (.int .u64)
  one : P.cellsOf e = 1
  four : P.cellsOf t = 4

theorem trod_word {t e : TypeId} (T : WordT P t e) {fuel : Nat} {cs : List Value} {x : DataW H × List MemPlace} (h : DataW.trod enc P W base sp held fuel t cs = some x) : ∃ n, n < 2 ^ 256 ∧ cs = wc n := by
  obtain ⟨xs, m, _, _, hl, hxl, hx⟩ := DataW.trod_array T.arr h
  rw [T.four] at hl
  rw [T.one] at hx
  match cs, hl with
  | [c0, c1, c2, c3], _ =>
    have get : ∀ i, i < 4 → ∃ n, (([c0, c1, c2, c3].drop (i * 1)).take 1) = [.int .u64 n] ∧ (Lit.int .u64 n).wf = true := fun i hi => by
      have h1 := hx i hi
      rw [List.getElem?_eq_getElem (by omega)] at h1
      obtain ⟨n, e1, _, e2⟩ := DataW.trod_int T.int h1
      exact ⟨n, e1, e2⟩
    obtain ⟨n0, e0, f0⟩ := get 0 (by omega)
    obtain ⟨n1, e1, f1⟩ := get 1 (by omega)
    obtain ⟨n2, e2, f2⟩ := get 2 (by omega)
    obtain ⟨n3, e3, f3⟩ := get 3 (by omega)
    simp at e0 e1 e2 e3
    subst e0; subst e1; subst e2; subst e3
    have g0 := wf_u64 f0
    have g1 := wf_u64 f1
    have g2 := wf_u64 f2
    have g3 := wf_u64 f3
    have hb : n0.toNat < 18446744073709551616 ∧ n1.toNat < 18446744073709551616 ∧ n2.toNat < 18446744073709551616 ∧ n3.toNat < 18446744073709551616 := by omega
    refine ⟨wval n0.toNat n1.toNat n2.toNat n3.toNat, wval_lt hb, ?_⟩
    rw [wc, wl_wval hb]
    simp only [rowN, List.map_cons, List.map_nil]
    rw [Int.toNat_of_nonneg g0.1, Int.toNat_of_nonneg g1.1, Int.toNat_of_nonneg g2.1, Int.toNat_of_nonneg g3.1]
theorem open_word {r : Reach} {b0 : Nat} {t e : TypeId} (T : WordT P t e) {v : Value} {d : DataW H} {ps : List MemPlace} (hv : Value.okWide P W r b0 t v) (h : DataW.Trod enc P W base sp held t v d ps) : ∃ n, n < 2 ^ 256 ∧ v = Go.Fw.W n := by
  obtain ⟨fuel, hf⟩ := h
  simp only [Value.okWide, T.arr] at hv
  obtain ⟨cs, rfl, _⟩ := hv
  obtain ⟨n, hn, hc⟩ := trod_word T hf
  refine ⟨n, hn, ?_⟩
  simp only [Value.cells] at hc
  rw [show cs = cs.toList.toArray by simp, hc]

/-- Bytes. -/
theorem open_bytesN {r : Reach} {b0 : Nat} {t e : TypeId} (ht : P.underlying t = some (.slice e)) (he : P.underlying e = some (.int .u8)) (hc : P.cellsOf e = 1) {v : Value} {d : DataW H} {ps : List MemPlace} (hv : Value.okWide P W r b0 t v)
    (h : DataW.Trod enc P W base sp held t v d ps) : ∃ (A : Option Addr) (c : Nat) (xs : List Nat), v = .slice A xs.length c ∧ Cs W A (rowN .u8 xs) ∧ Dg xs ∧ xs.length ≤ c ∧ c ≤ maxLen := by
  obtain ⟨A, len, cap, rfl⟩ := okWide_slice ht hv
  obtain ⟨fuel, hf⟩ := h
  rcases DataW.trod_slice ht hf with ⟨h0, _⟩ | ⟨a, l, c, elems, rest, n, _, h0, _, hb, hl, hm, hlen, hel, _, _⟩
  · simp [Value.cells] at h0
    obtain ⟨rfl, rfl, rfl⟩ := h0
    exact ⟨none, 0, [], rfl, Cs.nil _ _, Dg.nil, Nat.le_refl _, Nat.zero_le _⟩
  · simp [Value.cells] at h0
    obtain ⟨rfl, rfl, rfl⟩ := h0
    rw [hc] at hel
    have each : ∀ i, i < len → ∃ n : Nat, n < 256 ∧ W.cell? (a.add i) = some (.int .u8 (n : Int)) := fun i hi => by
      have h1 := hel i hi
      rw [List.getElem?_eq_getElem (by omega)] at h1
      cases hc2 : W.cells? base (a.add (i * 1)) 1 with
      | none => rw [hc2] at h1; cases h1
      | some cs =>
        rw [hc2] at h1
        obtain ⟨n, e1, _, e2⟩ := DataW.trod_int he h1
        obtain ⟨_, e3⟩ := cells_at hc2
        have e4 := e3 0 (by omega)
        rw [e1, Addr.add_add] at e4
        have := wf_u8 e2
        refine ⟨n.toNat, by omega, ?_⟩
        rw [Int.toNat_of_nonneg this.1]
        simpa using e4
    let f : Nat → Nat := fun i => if h : i < len then (each i h).choose else 0
    have hf1 : ∀ i, i < len → f i < 256 ∧ W.cell? (a.add i) = some (.int .u8 (f i : Int)) := fun i hi => by
      have := (each i hi).choose_spec
      simp only [f, dif_pos hi]
      exact this
    refine ⟨some a, cap, (List.range len).map f, by simp, fun i x hx => ⟨a, rfl, ?_⟩, fun y hy => ?_, by simpa using hl, hm⟩
    · have hi : i < len := by
        have := (List.getElem?_eq_some_iff.1 hx).1
        simpa [rowN] using this
      rw [(hf1 i hi).2, ← hx]
      simp [rowN, hi]
    · simp only [List.mem_map, List.mem_range] at hy
      obtain ⟨i, hi, rfl⟩ := hy
      exact (hf1 i hi).1

/-- Rows of words. -/
theorem open_wordsN {r : Reach} {b0 : Nat} {t e e1 : TypeId} (ht : P.underlying t = some (.slice e)) (T : WordT P e e1) {v : Value} {d : DataW H} {ps : List MemPlace} (hv : Value.okWide P W r b0 t v)
    (h : DataW.Trod enc P W base sp held t v d ps) : ∃ (A : Option Addr) (c : Nat) (xs : List Nat), v = .slice A xs.length c ∧ Cs W A (rowW xs) ∧ (∀ x ∈ xs, x < 2 ^ 256) ∧ xs.length ≤ c ∧ c ≤ maxLen := by
  obtain ⟨A, len, cap, rfl⟩ := okWide_slice ht hv
  obtain ⟨fuel, hf⟩ := h
  rcases DataW.trod_slice ht hf with ⟨h0, _⟩ | ⟨a, l, c, elems, rest, n, _, h0, _, hb, hl, hm, hlen, hel, _, _⟩
  · simp [Value.cells] at h0
    obtain ⟨rfl, rfl, rfl⟩ := h0
    exact ⟨none, 0, [], rfl, Cs.nil _ _, fun x hx => by simp at hx, Nat.le_refl _, Nat.zero_le _⟩
  · simp [Value.cells] at h0
    obtain ⟨rfl, rfl, rfl⟩ := h0
    rw [T.four] at hel
    have each : ∀ i, i < len → ∃ n : Nat, n < 2 ^ 256 ∧ ∀ j, j < 4 → W.cell? (a.add (i * 4 + j)) = (wc n)[j]? := fun i hi => by
      have h1 := hel i hi
      rw [List.getElem?_eq_getElem (by omega)] at h1
      cases hc2 : W.cells? base (a.add (i * 4)) 4 with
      | none => rw [hc2] at h1; cases h1
      | some cs =>
        rw [hc2] at h1
        obtain ⟨n, e1, e2⟩ := trod_word T h1
        obtain ⟨_, e3⟩ := cells_at hc2
        refine ⟨n, e1, fun j hj => ?_⟩
        rw [← Addr.add_add, e3 j hj, e2]
    let f : Nat → Nat := fun i => if h : i < len then (each i h).choose else 0
    have hf1 : ∀ i, i < len → f i < 2 ^ 256 ∧ ∀ j, j < 4 → W.cell? (a.add (i * 4 + j)) = (wc (f i))[j]? := fun i hi => by
      have := (each i hi).choose_spec
      simp only [f, dif_pos hi]
      exact this
    refine ⟨some a, cap, (List.range len).map f, by simp, fun i x hx => ⟨a, rfl, ?_⟩, fun y hy => ?_, by simpa using hl, hm⟩
    · have hi : i < len * 4 := by
        have := (List.getElem?_eq_some_iff.1 hx).1
        rw [rowW_length] at this
        simpa using this
      have hq : i / 4 < len := by omega
      have h2 := (hf1 (i / 4) hq).2 (i % 4) (Nat.mod_lt _ (by omega))
      have h3 := rowW_seg ((List.range len).map f) (i / 4) (by simpa using hq)
      have h4 : ((List.range len).map f).getD (i / 4) 0 = f (i / 4) := by simp [List.getD, hq]
      rw [h4] at h3
      rw [show i / 4 * 4 + i % 4 = i by omega, ← h3, List.getElem?_take_of_lt (Nat.mod_lt _ (by omega)), List.getElem?_drop, show i / 4 * 4 + i % 4 = i by omega] at h2
      rw [h2, hx]
    · simp only [List.mem_map, List.mem_range] at hy
      obtain ⟨i, hi, rfl⟩ := hy
      exact (hf1 i hi).1
end
end Go.Fw
set_option linter.unusedVariables false
namespace Go.Fw
open Go
theorem and_mask (n : Int) (j : Nat) (m : Int) (hm : (BitVec.ofInt 64 m).toNat = 2 ^ j - 1) (hj : j ≤ 62) : bits .and .i64 n m = n % ((2 ^ j : Nat) : Int) := by
  have hp : (2 : Nat) ^ j ≤ 2 ^ 62 := Nat.pow_le_pow_right (by omega) hj
  have hp0 : 0 < (2 : Nat) ^ j := Nat.pow_pos (by omega)
  have key : (BitVec.ofInt 64 n &&& BitVec.ofInt 64 m).toNat = (n % ((2 ^ 64 : Nat) : Int)).toNat % 2 ^ j := by
    rw [BitVec.toNat_and, BitVec.toNat_ofInt, hm, Nat.and_two_pow_sub_one_eq_mod]
  show IntKind.i64.wrap ((BitVec.ofInt 64 n &&& BitVec.ofInt 64 m).toNat : Nat) = _
  rw [key]
  have hlt := Nat.mod_lt (n % ((2 ^ 64 : Nat) : Int)).toNat hp0
  rw [wrap_nat64 _ (by omega)]
  have h2 : ((n % ((2 ^ 64 : Nat) : Int)).toNat : Int) = n % ((2 ^ 64 : Nat) : Int) := Int.toNat_of_nonneg (Int.emod_nonneg _ (by omega))
  rw [Int.natCast_emod, h2]
  exact Int.emod_emod_of_dvd _ (by
    have : (2 : Nat) ^ j ∣ 2 ^ 64 := Nat.pow_dvd_pow 2 (by omega)
    exact Int.natCast_dvd_natCast.2 this)
theorem and8191 (n : Int) : bits .and .i64 n 8191 = n % 8192 := and_mask n 13 8191 (by decide) (by omega)
theorem and65535 (n : Int) : bits .and .i64 n 65535 = n % 65536 := and_mask n 16 65535 (by decide) (by omega)
theorem and4095 (n : Int) : bits .and .i64 n 4095 = n % 4096 := and_mask n 12 4095 (by decide) (by omega)
theorem and255 (n : Int) : bits .and .i64 n 255 = n % 256 := and_mask n 8 255 (by decide) (by omega)

theorem growE_ok {u : Int} (h : 0 ≤ u ∧ u ≤ 4194304) : growE u = 0 := by unfold growE; rw [if_neg (by omega), if_neg (by omega)]
theorem growE_iff {u : Int} (h : u ≤ 4194304) : ((growE u : Nat) : Int) = 0 ↔ 0 ≤ u := by unfold growE; split; omega; rw [if_neg (by omega)]; omega
theorem growL_ok {L : Nat} {k : Nat} (h : k ≤ 4194304) : growL L (k : Int) = max L ((k + 31) / 32 * 32) := by unfold growL; rw [if_neg (by omega)]; simp
theorem grow_zero {z : Nat} (h : z ≤ 4194304) : growB [] (z : Int) = List.replicate ((z + 31) / 32 * 32) 0 := by
  unfold growB; rw [List.length_nil, growL_ok h]; simp
theorem rep_get (L q : Nat) : (List.replicate L 0).getD q 0 = 0 := by
  rw [List.getD_eq_getElem?_getD, List.getElem?_replicate]; split <;> rfl
theorem zero_ext {xs : List Nat} {L : Nat} (hl : xs.length = L) (h : ∀ q, q < L → xs.getD q 0 = 0) : xs = List.replicate L 0 :=
  ext_getD (by rw [hl, List.length_replicate]) (fun q hq => by rw [rep_get]; exact h q (by omega))
theorem zcut_get (L : Nat) (a n : Int) (q : Nat) : (cutB (List.replicate L 0) a n).getD q 0 = 0 := by
  by_cases h : pieceE (List.replicate L 0).length a n = 0
  · by_cases hq : q < n.toNat
    · rw [cutB_get h q hq, rep_get]
    · exact getD_far _ _ (by rw [cutB_len h]; omega)
  · rw [cutB_no h]; rfl
theorem zwrite {L : Nat} {a : Int} {xs : List Nat} (h : ∀ q, xs.getD q 0 = 0) : writeB (List.replicate L 0) a xs = List.replicate L 0 := by
  refine zero_ext (by rw [writeB_length, List.length_replicate]) (fun q hq => ?_)
  by_cases hx : xs = []
  · subst hx; rw [writeB_nil, rep_get]
  · by_cases hE : pieceE (List.replicate L 0).length a (xs.length : Nat) = 0
    · rw [writeB_yes hE, putB_get (piece_fit hE hx)]
      split
      · exact h _
      · exact rep_get _ _
    · rw [writeB_no hE, rep_get]
theorem zmove (L : Nat) (t f n : Int) : moveB (List.replicate L 0) t f n = List.replicate L 0 := by
  unfold moveB; split
  · exact zwrite (fun q => zcut_get L f n q)
  · rfl
theorem zload (L : Nat) (a : Int) : loadX (List.replicate L 0) a = 0 := by
  unfold loadX; split
  · refine vl_zero (fun t => ?_)
    by_cases ht : t < (cutB (List.replicate L 0) a 32).length
    · rw [List.getD_eq_getElem?_getD, List.getElem?_reverse ht, ← List.getD_eq_getElem?_getD]; exact zcut_get L a 32 _
    · exact getD_far _ _ (by rw [List.length_reverse]; omega)
  · rfl
theorem moveE_self (L : Nat) (a n : Int) : moveE L a a n = pieceE L a n := by
  by_cases h : a < 0 ∨ n < 0
  · rw [moveE_bad (by omega), pieceE_bad h]
  · by_cases h2 : pieceE L a n = 0
    · rw [h2]; exact moveE_ok (by omega) h2 h2
    · rw [moveE_far (by omega) (.inl h2)]; exact (move_pos (t := a) (by omega) h2).symm
theorem cut_write {bs xs : List Nat} {a : Int} (h : pieceE bs.length a (xs.length : Nat) = 0) : cutB (writeB bs a xs) a (xs.length : Nat) = xs := by
  have h2 : pieceE (writeB bs a xs).length a (xs.length : Nat) = 0 := by rw [writeB_length]; exact h
  refine ext_getD (by rw [cutB_len h2]; simp) (fun q hq => ?_)
  rw [cutB_len h2] at hq
  rw [cutB_get h2 q hq, writeB_yes h, putB_get (piece_fit h (fun e => by subst e; simp at hq)), if_pos (by simp at hq; omega)]
  congr 1; omega
theorem load_write {bs : List Nat} {a : Int} {x : Nat} (h : pieceE bs.length a 32 = 0) : loadX (writeB bs a (bytesN x)) a = x % 2 ^ 256 ∧ pieceE (writeB bs a (bytesN x)).length a 32 = 0 := by
  have hl := bytesN_length x
  have h1 : pieceE bs.length a ((bytesN x).length : Nat) = 0 := by rw [hl]; exact h
  have hc := cut_write h1
  rw [hl] at hc
  have h2 : pieceE (writeB bs a (bytesN x)).length a 32 = 0 := by rw [writeB_length]; exact h
  refine ⟨?_, h2⟩
  unfold loadX
  rw [if_pos h2]
  have e : cutB (writeB bs a (bytesN x)) a 32 = bytesN x := hc
  rw [e, bytesN_vl]
theorem W_wval {a b c d : Nat} (h : a < 18446744073709551616 ∧ b < 18446744073709551616 ∧ c < 18446744073709551616 ∧ d < 18446744073709551616) : Value.agg ([.int .u64 (a : Int), .int .u64 (b : Int), .int .u64 (c : Int), .int .u64 (d : Int)] : List Value).toArray = W (wval a b c d) := by
  show _ = Value.agg (rowN .u64 (wl (wval a b c d))).toArray
  rw [wl_wval h]
  rfl
theorem growL_cases {L : Nat} {u : Int} (h : u ≤ 100000) : (u < 0 ∧ growL L u = L) ∨ (0 ≤ u ∧ growL L u = max L ((u.toNat + 31) / 32 * 32)) := by
  unfold growL
  by_cases h1 : u < 0
  · exact .inl ⟨h1, by rw [if_pos (by omega)]⟩
  · exact .inr ⟨by omega, by rw [if_neg (by omega)]⟩
theorem growB_eq {bs : List Nat} {u : Int} {q : Nat} (h : growL bs.length u = bs.length + q) : bs ++ List.replicate q 0 = growB bs u := by
  unfold growB; rw [h]; simp
theorem moveE_iff {L : Nat} {t f n : Int} : moveE L t f n = 0 ↔ 0 ≤ t ∧ 0 ≤ f ∧ 0 ≤ n ∧ pieceE L f n = 0 ∧ pieceE L t n = 0 := by
  unfold moveE; split; omega; split <;> omega
theorem writeB_at {bs xs : List Nat} {a : Int} {p : Nat} (h : pieceE bs.length a (xs.length : Nat) = 0) (hp : a = (p : Int)) : putB bs p xs = writeB bs a xs := by
  rw [writeB_yes h, hp]; rfl
theorem set_putB {bs : List Nat} {p u : Nat} (h : p < bs.length) : bs.set p u = putB bs p [u] := by
  refine ext_getD (by rw [List.length_set, putB_length (by simp; omega)]) (fun q hq => ?_)
  rw [getD_set _ _ _ _ h, putB_get (by simp; omega)]
  by_cases h1 : p = q
  · subst h1; rw [if_pos rfl, if_pos (by simp)]; simp
  · rw [if_neg h1, if_neg (by simp; omega)]
end Go.Fw
namespace Go.Fw
open Go
def tailW (xs : List Nat) (i : Nat) : List Nat := xs ++ (List.range i).map (fun k => wval 77 0 0 k)
theorem tailW_zero (xs : List Nat) : tailW xs 0 = xs := by simp [tailW]
theorem tailW_succ (xs : List Nat) (i : Nat) : tailW xs (i + 1) = tailW xs i ++ [wval 77 0 0 i] := by simp [tailW, List.range_succ]
theorem tailW_length (xs : List Nat) (i : Nat) : (tailW xs i).length = xs.length + i := by simp [tailW]
theorem tailW_take (xs : List Nat) (i : Nat) : (tailW xs i).take xs.length = xs := by simp [tailW]
theorem tailW_low (xs : List Nat) (i k : Nat) (h : k < xs.length) : (tailW xs i).getD k 0 = xs.getD k 0 := by
  unfold tailW
  rw [List.getD_eq_getElem?_getD, List.getElem?_append_left h, ← List.getD_eq_getElem?_getD]
theorem tailW_high (xs : List Nat) (i k : Nat) (h : xs.length ≤ k) (h2 : k < xs.length + i) : (tailW xs i).getD k 0 = wval 77 0 0 (k - xs.length) := by
  unfold tailW
  rw [List.getD_eq_getElem?_getD, List.getElem?_append_right h, List.getElem?_map, List.getElem?_range (by omega)]
  rfl
theorem cs_takeW {w : World} {A : Option Addr} {ys : List Nat} (h : Cs w A (rowW ys)) (n : Nat) : Cs w A (rowW (ys.take n)) := fun i x hx => h i x (by
  rw [← rowW_take] at hx
  have hlt : i < n * 4 := by
    rcases Nat.lt_or_ge i (n * 4) with h | h
    · exact h
    · rw [List.getElem?_eq_none (by rw [List.length_take]; omega)] at hx; cases hx
  rwa [List.getElem?_take_of_lt hlt] at hx)
theorem slice_front (A : Option Addr) (q mx s : Nat) : Value.slice (if mx = 0 then A else A.map (·.add (0 * s))) (q - 0) (mx - 0) = .slice A q mx := by
  split
  · rfl
  · cases A
    · rfl
    · simp [Addr.add]
end Go.Fw
set_option linter.unusedVariables false
namespace Go.Fw
open Go
def chrN (d : Nat) : Nat := if d < 10 then 48 + d else 87 + d
theorem chrN_lt {d : Nat} (h : d < 16) : chrN d < 256 := by unfold chrN; split <;> omega
def tab16 : ByteArray := ⟨#[48, 49, 50, 51, 52, 53, 54, 55, 56, 57, 97, 98, 99, 100, 101, 102]⟩
theorem tab16_get : ∀ d, d < 16 → tab16.data.toList[d]? = some (UInt8.ofNat (chrN d)) := by decide
theorem chr_nat {d : Nat} (h : d < 16) : ((UInt8.ofNat (chrN d)).toNat : Int) = ((chrN d : Nat) : Int) := by
  have := chrN_lt h
  rw [UInt8.toNat_ofNat', Nat.mod_eq_of_lt (by omega)]
def worthZ (c : Nat) : Int := if 48 ≤ c ∧ c ≤ 57 then (c : Int) - 48 else if 97 ≤ c ∧ c ≤ 102 then (c : Int) - 87 else if 65 ≤ c ∧ c ≤ 70 then (c : Int) - 55 else -1
theorem chrs_snoc (xs : List Nat) (k : Nat) (h : k < xs.length) : (xs.drop k).reverse.map chrN = (xs.drop (k + 1)).reverse.map chrN ++ [chrN (xs.getD k 0)] := by
  rw [drop_getD xs k h, List.reverse_cons, List.map_append]; rfl
theorem small_dig {xs : List Nat} (h : ∀ x ∈ xs, x < 16) (k : Nat) : xs.getD k 0 < 16 := by
  rw [List.getD_eq_getElem?_getD]
  cases hk : xs[k]? with
  | none => simp
  | some x => exact h x (List.mem_of_getElem? hk)
/-- The digits of n in base b, least first, at least one; f: as many as there can be. -/
def dgf (b : Nat) : Nat → Nat → List Nat
  | 0, _ => []
  | f + 1, n => n % b :: if n / b = 0 then [] else dgf b f (n / b)
end Go.Fw
set_option linter.unusedVariables false
namespace Go.Fw
open Go
section
variable {P : Program} {ops : Array Oper} {F : Act → World → Prop} {w0 w w' : World} {M : List Nat} {N : Nat} {L : List (Oper × K)} {σ : List (Nat × Value)} {l lS : List (Nat × Ent)} {k : K}
  {d : Option Tmp} {ty t : TypeId} {p : String} {af : Array Edge} {x : Operand} {v : Value}
/-- The row xs lies at A: since the call began, or in an own row. -/
def Ei (w0 : World) (kd : IntKind) (A : Option Addr) (xs : List Nat) (r : RowIx) (zs : List Nat) : Prop := Cs w0 A (rowN kd xs) ∨ (A = hdOf r.id ∧ zs = xs ∧ r.Ok 1 zs.length)
theorem Ei.cs {kd : IntKind} {A : Option Addr} {xs zs : List Nat} {r : RowIx} (h : Ei w0 kd A xs r zs) (hw : WS w0 [] l w) {j : Nat} {e : TypeId} (he : lk l j = some (r.ent e (rowN kd zs))) : Cs w A (rowN kd xs) := by
  rcases h with h | ⟨rfl, rfl, _⟩
  · exact h.ws hw (off_nil _)
  · exact hw.rowCs he
theorem Ei.isSome {kd : IntKind} {A : Option Addr} {xs zs : List Nat} {r : RowIx} (h : Ei w0 kd A xs r zs) (h0 : 0 < xs.length) : A.isSome = true := by
  rcases h with h | ⟨rfl, rfl, hr⟩
  · exact Cs.isSomeN h h0
  · have := hr.some h0
    cases hid : r.id with
    | none => rw [hid] at this; cases this
    | some g => rfl
/-- A load out of cells that lie there now. -/
theorem J.loadAny (hk : nog k) {A : Option Addr} {cs : List Value} {i : Nat} (hc : ∀ w, WS w0 M l w → Cs w A cs) (hx : ev σ x = some (.pointer (some ((A.getD default).add i)))) (ht : OneT P t) (hv : cs[i]? = some v) (hd : okd N d)
    (hJ : J P ops F w0 M N lS L (putd d v σ) l) : J P ops F w0 M N lS ((⟨d, .load t x, ty, p, af, none⟩, k) :: L) σ l :=
  J.quiet rfl hk hd v (fun a ha w hw => by
    obtain ⟨ad, hA, hcell⟩ := hc w hw i v hv
    subst hA
    simp only [Option.getD_some] at hx
    simp [execOp, ha.eval hx, Instr.loadAt, Instr.sureAddr, run_loadVar_one ht _ _ hcell]) hJ
end
/-! ### Long division by a small number -/
theorem vl_drop (xs : List Nat) (k : Nat) (h : k < xs.length) : vl (xs.drop k) = xs.getD k 0 + 256 * vl (xs.drop (k + 1)) := by
  rw [drop_getD xs k h]; simp [vl]
theorem div_digit {b R d : Nat} (hb : 0 < b) (hR : R < b) (hd : d < 256) : (256 * R + d) / b < 256 ∧ (256 * R + d) % b < b := by
  refine ⟨?_, Nat.mod_lt _ hb⟩
  rw [Nat.div_lt_iff_lt_mul hb]
  have : (R + 1) * 256 ≤ b * 256 := Nat.mul_le_mul_right _ hR
  omega
theorem div_round {b H d Q R : Nat} (hb : 0 < b) (hQ : Q = H / b) (hR : R = H % b) : (d + 256 * H) / b = (256 * R + d) / b + 256 * Q ∧ (d + 256 * H) % b = (256 * R + d) % b := by
  have h := Nat.div_add_mod H b
  rw [← hQ, ← hR] at h
  have e : d + 256 * H = (256 * R + d) + b * (256 * Q) := by rw [← h]; grind
  rw [e, Nat.add_mul_div_left _ _ hb, Nat.add_mul_mod_self_left]
  exact ⟨rfl, rfl⟩
theorem drop_set {xs : List Nat} {k v : Nat} (h : k < xs.length) : (xs.set k v).drop (k + 1) = xs.drop (k + 1) := by
  rw [List.drop_set_of_lt (by omega)]
theorem quo_step {xs qs : List Nat} {b k R : Nat} (hb : 0 < b) (hl : qs.length = xs.length) (hk : k < xs.length) (hR : R = vl (xs.drop (k + 1)) % b) (hQ : vl (qs.drop (k + 1)) = vl (xs.drop (k + 1)) / b) :
    vl ((qs.set k ((256 * R + xs.getD k 0) / b)).drop k) = vl (xs.drop k) / b ∧ (256 * R + xs.getD k 0) % b = vl (xs.drop k) % b := by
  have h := div_round (d := xs.getD k 0) hb hQ hR
  rw [vl_drop _ k (by rw [List.length_set]; omega), drop_set (by omega), getD_set _ _ _ _ (by omega), if_pos rfl, vl_drop xs k hk, hQ]
  exact ⟨by rw [h.1, hQ], h.2.symm⟩
/-! ### Digits in base b -/
def digL (b n m : Nat) : List Nat := (List.range m).map fun i => n / b ^ i % b
/-- n has m digits in base b (0 has one). -/
def numd (b n m : Nat) : Prop := 1 ≤ m ∧ n / b ^ m = 0 ∧ (1 < m → n / b ^ (m - 1) ≠ 0)
theorem digL_length (b n m : Nat) : (digL b n m).length = m := by simp [digL]
theorem digL_succ (b n m : Nat) : digL b n (m + 1) = digL b n m ++ [n / b ^ m % b] := by simp [digL, List.range_succ]
theorem digL_lt {b n m x : Nat} (hb : 0 < b) (hx : x ∈ digL b n m) : x < b := by
  simp only [digL, List.mem_map] at hx
  obtain ⟨i, _, rfl⟩ := hx
  exact Nat.mod_lt _ hb
theorem numd_unique {b n m m' : Nat} (hb : 2 ≤ b) (h : numd b n m) (h' : numd b n m') : m = m' := by
  have key : ∀ a c, numd b n a → numd b n c → ¬ a < c := fun a c ha hc hlt => by
    have h1 := hc.2.2 (by have := ha.1; omega)
    apply h1
    have h2 : n < b ^ a := by
      have := ha.2.1
      rcases Nat.lt_or_ge n (b ^ a) with h | h
      · exact h
      · have h3 : 0 < n / b ^ a := Nat.div_pos h (Nat.pow_pos (by omega)); omega
    exact Nat.div_eq_of_lt (Nat.lt_of_lt_of_le h2 (Nat.pow_le_pow_right (by omega) (by omega)))
  have := key m m' h h'
  have := key m' m h' h
  omega
theorem digits_le {b n m k : Nat} (hb : 2 ≤ b) (h : n / b ^ m ≠ 0) (hn : n < 2 ^ k) : m < k := by
  rcases Nat.lt_or_ge m k with h1 | h1
  · exact h1
  · have h2 : 2 ^ k ≤ b ^ m := Nat.le_trans (Nat.pow_le_pow_right (by omega) h1) (Nat.pow_le_pow_left hb m)
    exact absurd (Nat.div_eq_of_lt (Nat.lt_of_lt_of_le hn h2)) h
end Go.Fw
namespace Go.Fw
open Go
theorem numd_le {b n m k : Nat} (hb : 2 ≤ b) (h : numd b n m) (hn : n < 2 ^ k) : m ≤ k + 1 := by
  rcases Nat.lt_or_ge 1 m with h1 | h1
  · have := digits_le hb (h.2.2 h1) hn; omega
  · omega
theorem numd_exists (b n : Nat) (hb : 2 ≤ b) : ∃ m, numd b n m := by
  have key : ∀ k, (∃ m, numd b n m) ∨ (n / b ^ k ≠ 0 ∨ k = 0) := fun k => by
    induction k with
    | zero => exact .inr (.inr rfl)
    | succ k ih =>
      rcases ih with h | h
      · exact .inl h
      · by_cases hz : n / b ^ (k + 1) = 0
        · refine .inl ⟨k + 1, by omega, hz, fun h1 => ?_⟩
          rcases h with h | h
          · exact h
          · omega
        · exact .inr (.inl hz)
  rcases key (n + 1) with h | h | h
  · exact h
  · exact absurd (Nat.div_eq_of_lt (Nat.lt_trans (Nat.lt_succ_self n) (Nat.lt_pow_self (by omega)))) h
  · omega
/-- The text of n in base b, m digits. -/
def txt (b n m : Nat) : List Nat := (digL b n m).reverse.map chrN
theorem txt_length (b n m : Nat) : (txt b n m).length = m := by simp [txt, digL_length]
theorem txt_dg {b n m : Nat} (hb : 0 < b) (hb2 : b ≤ 16) : Dg (txt b n m) := fun x hx => by
  simp only [txt, List.mem_map, List.mem_reverse] at hx
  obtain ⟨d, hd, rfl⟩ := hx
  exact chrN_lt (Nat.lt_of_lt_of_le (digL_lt hb hd) hb2)
end Go.Fw
namespace Go.Fw
open Go
theorem nib (x k : Nat) (hk : k < 64) : lim x (k / 16) / 2 ^ (k % 16 * 4) % 16 = x % 2 ^ 256 / 16 ^ k % 16 := by
  have e : (16 : Nat) ^ k = 2 ^ (4 * k) := by rw [Nat.pow_mul]
  rw [e, show (16 : Nat) = 2 ^ 4 by decide]
  refine Nat.eq_of_testBit_eq fun j => ?_
  rw [Nat.testBit_mod_two_pow, Nat.testBit_mod_two_pow, Nat.testBit_div_two_pow, Nat.testBit_div_two_pow, lim_testBit, Nat.testBit_mod_two_pow, ← show (16 : Nat) = 2 ^ 4 by decide]
  by_cases hj : j < 4
  · have h1 : j + k % 16 * 4 < 64 := by omega
    have h2 : j + 4 * k < 256 := by omega
    rw [show 64 * (k / 16) + (j + k % 16 * 4) = j + 4 * k by omega]
    simp [hj, h1, h2]
  · simp [hj]
theorem digL_getD {b n m k : Nat} (h : k < m) : (digL b n m).getD k 0 = n / b ^ k % b := by simp [digL, List.getD, h]
theorem hex_on {n m k : Nat} (hm : numd 16 n m) (h : k < m) : 0 < n / 16 ^ k % 16 ∨ k + 1 < m ∨ k = 0 := by
  by_cases h1 : k + 1 < m
  · exact .inr (.inl h1)
  · by_cases h0 : k = 0
    · exact .inr (.inr h0)
    · obtain rfl : m = k + 1 := by omega
      have h2 := hm.2.2 (by omega)
      rw [Nat.add_sub_cancel] at h2
      have h3 := hm.2.1
      rw [Nat.pow_succ, ← Nat.div_div_eq_div_mul] at h3
      left; omega
theorem hex_off {n m k : Nat} (hm : numd 16 n m) (h : m ≤ k) : n / 16 ^ k % 16 = 0 := by
  have h1 : n < 16 ^ m := by
    rcases Nat.lt_or_ge n (16 ^ m) with h2 | h2
    · exact h2
    · have h3 : 0 < n / 16 ^ m := Nat.div_pos h2 (Nat.pow_pos (by omega)); have := hm.2.1; omega
  rw [Nat.div_eq_of_lt (Nat.lt_of_lt_of_le h1 (Nat.pow_le_pow_right (by omega) h))]
theorem txt_off {b n m k : Nat} (h : m ≤ k) : ((digL b n m).drop k).reverse.map chrN = ((digL b n m).drop (k + 1)).reverse.map chrN := by
  rw [List.drop_eq_nil_of_le (by rw [digL_length]; exact h), List.drop_eq_nil_of_le (by rw [digL_length]; omega)]
def digU (c : Nat) : Nat := if 48 ≤ c ∧ c ≤ 57 then c - 48 else if 97 ≤ c ∧ c ≤ 102 then c - 87 else if 65 ≤ c ∧ c ≤ 70 then c - 55 else 16
theorem numd64 {n m : Nat} (h : numd 16 n m) (hn : n < 2 ^ 256) : m ≤ 64 := by
  rcases Nat.lt_or_ge 64 m with h1 | h1
  · have h2 := h.2.2 (by omega)
    exact absurd (Nat.div_eq_of_lt (Nat.lt_of_lt_of_le hn (show 2 ^ 256 ≤ 16 ^ (m - 1) from Nat.le_trans (by decide : 2 ^ 256 ≤ 16 ^ 64) (Nat.pow_le_pow_right (by omega) (by omega))))) h2
  · exact h1
end Go.Fw
namespace Go.Fw
open Go
def okD (b c : Nat) : Prop := 0 ≤ worthZ c ∧ worthZ c < (b : Int)
instance (b c : Nat) : Decidable (okD b c) := by unfold okD; infer_instance
def okS (b : Nat) (ss : List Nat) : Prop := ss ≠ [] ∧ ∀ c ∈ ss, okD b c
instance (b : Nat) (ss : List Nat) : Decidable (okS b ss) := by unfold okS; infer_instance
def numV (b : Nat) (ss : List Nat) : Nat := ss.foldl (fun a c => a * b + (worthZ c).toNat) 0
theorem numV_snoc (b : Nat) (ss : List Nat) (c : Nat) : numV b (ss ++ [c]) = numV b ss * b + (worthZ c).toNat := by simp [numV, List.foldl_append]
theorem numV_take (b : Nat) (ss : List Nat) (i : Nat) (h : i < ss.length) : numV b (ss.take (i + 1)) = numV b (ss.take i) * b + (worthZ (ss.getD i 0)).toNat := by
  rw [take_succ_getD _ _ h, numV_snoc]
theorem numV_lt {b : Nat} {ss : List Nat} (hb : 0 < b) : ∀ i, i ≤ ss.length → (∀ q, q < i → okD b (ss.getD q 0)) → numV b (ss.take i) < b ^ i
  | 0, _, _ => by simp [numV]
  | i + 1, hi, h => by
    rw [numV_take b ss i (by omega), Nat.pow_succ]
    have h1 := numV_lt hb i (by omega) (fun q hq => h q (by omega))
    have h2 := h i (by omega)
    unfold okD at h2
    have h3 : (numV b (ss.take i) + 1) * b ≤ b ^ i * b := Nat.mul_le_mul_right _ h1
    rw [Nat.add_mul] at h3
    omega
theorem pow_room {b i : Nat} (hb2 : b ≤ 16) (hi : i ≤ 78) : b ^ i < 256 ^ 42 := by
  have h1 : b ^ i ≤ 16 ^ 78 := Nat.le_trans (Nat.pow_le_pow_left hb2 i) (Nat.pow_le_pow_right (by omega) hi)
  exact Nat.lt_of_le_of_lt h1 (by decide)
theorem bstr_get (ss : List Nat) (i : Nat) (h : i < ss.length) : (bstr ss).data.toList[i]? = some (UInt8.ofNat (ss.getD i 0)) := by
  unfold bstr
  rw [List.getD_eq_getElem?_getD, List.getElem?_eq_getElem h]
  simp [h]
theorem chr_dg {ss : List Nat} (hs : Dg ss) (i : Nat) : ((UInt8.ofNat (ss.getD i 0)).toNat : Int) = ((ss.getD i 0 : Nat) : Int) := by
  have := hs.getD i
  rw [UInt8.toNat_ofNat', Nat.mod_eq_of_lt (by omega)]
theorem okS_no {b : Nat} {ss : List Nat} {i : Nat} (h : i < ss.length) (hn : ¬ okD b (ss.getD i 0)) : ¬ okS b ss := fun hh => hn (hh.2 _ (by
  rw [List.getD_eq_getElem?_getD, List.getElem?_eq_getElem h]; exact List.getElem_mem h))
theorem okS_yes {b : Nat} {ss : List Nat} (h0 : 0 < ss.length) (h : ∀ q, q < ss.length → okD b (ss.getD q 0)) : okS b ss := ⟨fun e => by simp [e] at h0, fun c hc => by
  obtain ⟨i, hi, rfl⟩ := List.mem_iff_getElem.1 hc
  have := h i hi
  rwa [List.getD_eq_getElem?_getD, List.getElem?_eq_getElem hi] at this⟩
/-- A fresh row and a truth handed back. -/
def RowBPost (w : World) (t : TypeId) (kd : IntKind) (φ : List Nat → Bool → Prop) (e : Ending) (w' : World) : Prop :=
  ∃ (zs : List Nat) (ok : Bool) (r : RowIx), φ zs ok ∧ r.Ok 1 zs.length ∧ e = .returned (.tuple #[r.val zs.length, .bool ok]) ∧ WS w [] [(0, r.ent t (rowN kd zs))] w'
theorem worthZ_fit (c : Nat) : -1 ≤ worthZ c ∧ worthZ c ≤ 15 := by
  unfold worthZ
  split
  · omega
  · split
    · omega
    · split <;> omega
end Go.Fw
set_option linter.unusedVariables false
namespace Go.Fw
open Go
section
variable {P : Program} {ops : Array Oper} {F : Act → World → Prop} {w0 w w' : World} {M : List Nat} {N : Nat} {L : List (Oper × K)} {σ : List (Nat × Value)} {l lS : List (Nat × Ent)} {k : K}
  {d : Option Tmp} {ty t : TypeId} {p : String} {af : Array Edge} {x : Operand} {v : Value} {kd : IntKind}
theorem J.callRowB (i : Nat) (hi : lk lS i = none) {f : FuncId} (hf : FnOk P f) {xs : Array Operand} {tys : Array TypeId} {args : List Value} (hx : evs σ xs.toList = some args) (hd : okd N d) {φ : List Nat → Bool → Prop}
    (spec : ∀ w, WS w0 M l w → Calls P f args.toArray w (RowBPost w t kd φ))
    (hJ : ∀ (zs : List Nat) (ok : Bool) (r : RowIx), φ zs ok → r.Ok 1 zs.length → J P ops F w0 M N lS L (putd d (.tuple [r.val zs.length, .bool ok].toArray) σ) ((i, r.ent t (rowN kd zs)) :: l)) :
    J P ops F w0 M N lS ((⟨d, .call ⟨.value (.func f), xs, tys⟩, ty, p, af, none⟩, .l) :: L) σ l :=
  J.call hf hx hd (ι := (List Nat × Bool) × RowIx) (fun q => φ q.1.1 q.1.2 ∧ q.2.Ok 1 q.1.1.length) (fun q => .tuple [q.2.val q.1.1.length, .bool q.1.2].toArray) [] (fun q => [(i, q.2.ent t (rowN kd q.1.1))])
    (fun w hw => (spec w hw).mono fun e w' ⟨zs, ok, r, hz, hr, he, h2⟩ => ⟨((zs, ok), r), ⟨hz, hr⟩, he, h2.rename i⟩) (fun _ _ g hg => by simp at hg) (fun q k e he => by
      rw [lk_cons] at he
      split at he
      · rename_i hk; subst hk; exact hi
      · simp [lk] at he) (fun q hq => hJ q.1.1 q.1.2 q.2 hq.1 hq.2)
end
def hexP (ss : List Nat) : Prop := 2 ≤ ss.length ∧ ss.getD 0 0 = 48 ∧ ss.getD 1 0 = 120
instance (ss : List Nat) : Decidable (hexP ss) := by unfold hexP; infer_instance
/-- A body in base b. -/
def bodyN (b : Nat) (ss : List Nat) : Nat × Nat := if okS b ss ∧ numV b ss < 2 ^ 256 then (numV b ss, 0) else (0, 10)
def parseN (ss : List Nat) : Nat × Nat := if 78 < ss.length then (0, 2) else if hexP ss then (if 64 < ss.length - 2 then (0, 10) else bodyN 16 (ss.drop 2)) else bodyN 10 ss
theorem bstr_drop (ss : List Nat) (k : Nat) (h : k ≤ ss.length) : (bstr ss).extract k (bstr ss).size = bstr (ss.drop k) := by
  apply ByteArray.ext
  rw [bstr_size, ByteArray.data_extract]
  apply Array.ext'
  simp [bstr, List.map_drop, List.take_of_length_le]
theorem parseN_long {ss : List Nat} (h : 78 < ss.length) : parseN ss = (0, 2) := if_pos h
theorem parseN_hexlong {ss : List Nat} (h : ¬ 78 < ss.length) (hx : hexP ss) (hl : 64 < ss.length - 2) : parseN ss = (0, 10) := by
  unfold parseN; rw [if_neg h, if_pos hx, if_pos hl]
theorem parseN_hex {ss : List Nat} (h : ¬ 78 < ss.length) (hx : hexP ss) (hl : ¬ 64 < ss.length - 2) : parseN ss = bodyN 16 (ss.drop 2) := by
  unfold parseN; rw [if_neg h, if_pos hx, if_neg hl]
theorem parseN_dec {ss : List Nat} (h : ¬ 78 < ss.length) (hx : ¬ hexP ss) : parseN ss = bodyN 10 ss := by
  unfold parseN; rw [if_neg h, if_neg hx]
theorem bodyN_bad {b : Nat} {ss : List Nat} (h : ¬ okS b ss) : bodyN b ss = (0, 10) := if_neg (fun q => h q.1)
theorem bodyN_big {b : Nat} {ss : List Nat} (h : ¬ numV b ss < 2 ^ 256) : bodyN b ss = (0, 10) := if_neg (fun q => h q.2)
theorem bodyN_ok {b : Nat} {ss : List Nat} (h : okS b ss) (hv : numV b ss < 2 ^ 256) : bodyN b ss = (numV b ss, 0) := if_pos ⟨h, hv⟩
theorem ret_parse {ss : List Nat} {a : Nat} {c : Nat} (h : parseN ss = (a, c)) : Ending.returned (.tuple #[W a, .int .i64 (c : Int)]) = .returned (.tuple #[W (parseN ss).1, .int .i64 ((parseN ss).2 : Int)]) := by rw [h]
end Go.Fw
