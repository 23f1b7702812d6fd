/-
  Objects that a call turns; rows of words handed back; blocks that a call reads; stacks as plain lists.
  No condition: plain lemmas.
-/
import Derived.Test.YtpkjbeebhdgleaaFh
set_option linter.unusedVariables false
namespace Go.Fw
open Go
section
variable {P : Program} {ops : Array Oper} {F : Act → World → Prop} {w0 w w' : World} {M : List Nat} {N : Nf} {L : List (Oper × K)} {σ : List (Nat × Value)} {l lS : List (Nat × Ent)} {d : Option Tmp} {ty : TypeId} {p : String} {af : Array Edge} {x y : Operand} {v z : Value} {t : TypeId} {kd : IntKind} {k : K}

theorem WS.one {g : Nat} {cs : List Value} (h : Ent.At w ⟨some g, t, cs⟩) : WS w [g] [(0, ⟨some g, t, cs⟩)] w := by
  refine ⟨rfl, rfl, rfl, Nat.le_refl _, fun _ _ _ => rfl, fun j e he => ?_, fun j j' e e' g' h1 h2 hne => ?_, fun j e g' he hg => ?_⟩
  · rw [lk_cons] at he
    split at he
    · simp at he; subst he; exact h
    · simp [lk] at he
  · rw [lk_cons] at h1 h2
    split at h1 <;> split at h2
    · omega
    · simp [lk] at h2
    · simp [lk] at h1
    · simp [lk] at h1
  · rw [lk_cons] at he
    split at he
    · simp at he; subst he; simp at hg; subst hg; exact .inr (by simp)
    · simp [lk] at he
/-- A call that turns one object. -/
theorem J.callMut (h : Nat) {g : Nat} {cs cs' : List Value} {f : FuncId} {xs : Array Operand} {tys : Array TypeId} {args : List Value} (hl : lk l h = some ⟨some g, t, cs⟩) (hh : lk lS h = none) (hf : FnOk P f) (hx : evs σ xs.toList = some args) (hd : okd N d)
    (spec : ∀ w, WS w0 M l w → Calls P f args.toArray w fun e w' => e = .returned v ∧ WS w [g] [(0, ⟨some g, t, cs'⟩)] w')
    (hJ : J P ops F w0 M N lS L (putd d v σ) ((h, ⟨some g, t, cs'⟩) :: l)) :
    J P ops F w0 M N lS ((⟨d, .call ⟨.value (.func f), xs, tys⟩, ty, p, af, none⟩, .l) :: L) σ l :=
  J.call hf hx hd (ι := Unit) (fun _ => True) (fun _ => v) [g] (fun _ => [(h, ⟨some g, t, cs'⟩)]) (fun w hw => (spec w hw).mono fun e w' ⟨he, h2⟩ => ⟨(), trivial, he, h2.only 0 h rfl⟩)
    (fun _ _ q hq => by
      simp at hq; subst hq
      exact ⟨h, _, ⟨some q, t, cs'⟩, hl, rfl, by simp [lk]⟩)
    (fun i j e he => by
      rw [lk_cons] at he
      split at he
      · rename_i hk; subst hk; exact hh
      · simp [lk] at he) (fun _ _ => hJ)

/-! ### Rows of words handed back -/
def RowsWPost (w : World) (t : TypeId) (φ : List Nat → Prop) (e : Ending) (w' : World) : Prop :=
  ∃ zs : List Nat, φ zs ∧ ∃ r : RowIx, r.Ok 4 zs.length ∧ e = .returned (r.val zs.length) ∧ WS w [] [(0, r.ent t (rowW zs))] w'
theorem RowsWPost.mk' {φ : List Nat → Prop} {e : Ending} (zs : List Nat) (hz : φ zs) (r : RowIx) (hr : r.Ok 4 zs.length) (he : e = .returned (r.val zs.length)) (hw : WS w [] l w') (k : Nat) (hk : lk l k = some (r.ent t (rowW zs))) :
    RowsWPost w t φ e w' := ⟨zs, hz, r, hr, he, hw.only k 0 hk⟩
theorem J.callRowW (h : Nat) (hh : lk lS h = none) {f : FuncId} (hf : FnOk P f) {xs : Array Operand} {tys : Array TypeId} {args : List Value} (hx : evs σ xs.toList = some args) (hd : okd N d) {φ : List Nat → Prop}
    (spec : ∀ w, WS w0 M l w → Calls P f args.toArray w (RowsWPost w t φ))
    (hJ : ∀ (zs : List Nat) (r : RowIx), φ zs → r.Ok 4 zs.length → J P ops F w0 M N lS L (putd d (r.val zs.length) σ) ((h, r.ent t (rowW zs)) :: l)) :
    J P ops F w0 M N lS ((⟨d, .call ⟨.value (.func f), xs, tys⟩, ty, p, af, none⟩, .l) :: L) σ l :=
  J.call hf hx hd (ι := List Nat × RowIx) (fun i => φ i.1 ∧ i.2.Ok 4 i.1.length) (fun i => i.2.val i.1.length) [] (fun i => [(h, i.2.ent t (rowW i.1))])
    (fun w hw => (spec w hw).mono fun e w' ⟨zs, hz, r, hr, he, h2⟩ => ⟨(zs, r), ⟨hz, hr⟩, he, h2.rename h⟩) (fun _ _ g hg => by simp at hg) (fun i k e he => by
      rw [lk_cons] at he
      split at he
      · rename_i hk; subst hk; exact hh
      · simp [lk] at he) (fun i hi => hJ i.1 i.2 hi.1 hi.2)

/-- A fresh object handed back. -/
def NewPost (w : World) (t : TypeId) (cs : List Value) (e : Ending) (w' : World) : Prop := ∃ g, w.heap.size ≤ g ∧ e = .returned (.pointer (some ⟨g, 0, none⟩)) ∧ WS w [] [(0, ⟨some g, t, cs⟩)] w'
theorem J.callNew (h : Nat) (hh : lk lS h = none) {cs : List Value} {f : FuncId} (hf : FnOk P f) {xs : Array Operand} {tys : Array TypeId} {args : List Value} (hx : evs σ xs.toList = some args) (hd : okd N d)
    (spec : ∀ w, WS w0 M l w → Calls P f args.toArray w (NewPost w t cs))
    (hJ : ∀ g, w0.heap.size ≤ g → J P ops F w0 M N lS L (putd d (.pointer (some ⟨g, 0, none⟩)) σ) ((h, ⟨some g, t, cs⟩) :: l)) :
    J P ops F w0 M N lS ((⟨d, .call ⟨.value (.func f), xs, tys⟩, ty, p, af, none⟩, .l) :: L) σ l :=
  J.call hf hx hd (ι := Nat) (fun g => w0.heap.size ≤ g) (fun g => .pointer (some ⟨g, 0, none⟩)) [] (fun g => [(h, ⟨some g, t, cs⟩)])
    (fun w hw => (spec w hw).mono fun e w' ⟨g, hg, he, h2⟩ => ⟨g, Nat.le_trans hw.size hg, he, h2.rename h⟩) (fun _ _ g hg => by simp at hg) (fun i k e he => by
      rw [lk_cons] at he
      split at he
      · rename_i hk; subst hk; exact hh
      · simp [lk] at he) (fun i hi => hJ i hi)

/-! ### Reading a block that lay there -/
theorem J.loadB1 (hk : nog k) {g o : Nat} {cs : List Value} (hc : Cs w0 (some ⟨g, 0, none⟩) cs) (ho : Off M (some ⟨g, 0, none⟩)) (hx : ev σ x = some (.pointer (some ⟨g, o, none⟩))) (ht : OneT P t) (hv : cs[o]? = some v) (hd : okd N d)
    (hJ : J P ops F w0 M N lS L (putd d v σ) l) : J P ops F w0 M N lS ((⟨d, .load t x, ty, p, af, none⟩, k) :: L) σ l :=
  J.loadI1 hk hc ho (i := o) (by rw [hx]; simp [add_lit']) ht hv hd hJ
theorem J.loadBW (hk : nog k) {g o : Nat} {cs : List Value} (hc : Cs w0 (some ⟨g, 0, none⟩) cs) (ho : Off M (some ⟨g, 0, none⟩)) (hx : ev σ x = some (.pointer (some ⟨g, o, none⟩))) (ht : AggT P t 4) {u : Nat} (hv : (cs.drop o).take 4 = wc u) (hd : okd N d)
    (hJ : J P ops F w0 M N lS L (putd d (W u) σ) l) : J P ops F w0 M N lS ((⟨d, .load t x, ty, p, af, none⟩, k) :: L) σ l :=
  J.loadIW hk hc ho (i := o) (by rw [hx]; simp [add_lit']) ht hv hd hJ
end

/-! ### Stacks -/
abbrev w64 (n : Int) : Int := IntKind.i64.wrap n
def ix (n : Int) : Nat := (n % 1024).toNat
theorem ix_lt (n : Int) : ix n < 1024 := by unfold ix; omega
theorem ix_cast (n : Int) : ((ix n : Nat) : Int) = n % 1024 := by unfold ix; omega
theorem w64_mod (n : Int) : w64 n % 1024 = n % 1024 := by unfold w64; rw [IntKind.wrap_i64]; omega
theorem ix_w64 (n : Int) : ix (w64 n) = ix n := by unfold ix; rw [w64_mod]
theorem w64_range (n : Int) : -9223372036854775808 ≤ w64 n ∧ w64 n ≤ 9223372036854775807 := by unfold w64; rw [IntKind.wrap_i64]; omega
theorem w64_id {n : Int} (h : -9223372036854775808 ≤ n ∧ n ≤ 9223372036854775807) : w64 n = n := i64_ok n h
theorem ix_eq {a b : Int} (h : a % 1024 = b % 1024) : ix a = ix b := by unfold ix; rw [h]
/-- The cells of a stack: its words, its number. -/
abbrev stkM (S : List Nat) (n : Int) : List Value := rowW S ++ [.int .i64 n]
abbrev stkR (S : List Nat) (n : Int) : List Value := [.int .i64 n] ++ rowW S
theorem stkM_n {S : List Nat} {n : Int} (h : S.length = 1024) : (stkM S n)[0 + 4096]? = some (.int .i64 n) := by
  have hl := rowW_length S
  rw [List.getElem?_append_right (by omega)]
  simp [hl, h]
theorem stkM_w {S : List Nat} {n : Int} (h : S.length = 1024) (i : Int) : ((stkM S n).drop (0 + 0 + (i % 1024).toNat * 4)).take 4 = wc (S.getD (ix i) 0) := by
  rw [Nat.add_zero, Nat.zero_add]
  exact rowW_segs S _ _ (by rw [h]; exact ix_lt i)
theorem stkM_put {S : List Nat} {n : Int} (h : S.length = 1024) (i : Int) (x : Nat) : put (stkM S n) (0 + 0 + (i % 1024).toNat * 4) (wc x) = stkM (S.set (ix i) x) n := by
  rw [Nat.add_zero, Nat.zero_add]
  exact putW S _ _ x (by rw [h]; exact ix_lt i)
theorem stkM_len {S : List Nat} {n : Int} (h : S.length = 1024) : (stkM S n).length = 4097 := by
  rw [List.length_append, rowW_length, h]; rfl
theorem stkM_putn {S : List Nat} {n m : Int} (h : S.length = 1024) : put (stkM S n) (0 + 4096) [.int .i64 m] = stkM S m := by
  have hl := rowW_length S
  rw [put_one _ _ _ (by rw [stkM_len h]; omega), List.set_append_right _ _ (by omega), hl, h]
  rfl
theorem stkR_w {S : List Nat} {n : Int} (h : S.length = 1024) (i : Int) : ((stkR S n).drop (0 + 1 + (i % 1024).toNat * 4)).take 4 = wc (S.getD (ix i) 0) := by
  rw [Nat.zero_add]
  exact rowW_segb [.int .i64 n] S _ (by rw [h]; exact ix_lt i)
theorem stkR_put {S : List Nat} {n : Int} (h : S.length = 1024) (i : Int) (x : Nat) : put (stkR S n) (0 + 1 + (i % 1024).toNat * 4) (wc x) = stkR (S.set (ix i) x) n := by
  rw [Nat.zero_add]
  exact putWb [.int .i64 n] S _ x (by rw [h]; exact ix_lt i)
theorem stkR_len {S : List Nat} {n : Int} (h : S.length = 1024) : (stkR S n).length = 4097 := by
  rw [List.length_append, rowW_length, h]; rfl
theorem stkR_putn {S : List Nat} {n m : Int} (h : S.length = 1024) : put (stkR S n) (0 + 0) [.int .i64 m] = stkR S m := by
  rw [put_one _ _ _ (by rw [stkR_len h]; omega)]; rfl
/-- The n-th and the m-th change places. -/
def swp (S : List Nat) (i j : Nat) : List Nat := (S.set i (S.getD j 0)).set j (S.getD i 0)
theorem swp_length (S : List Nat) (i j : Nat) : (swp S i j).length = S.length := by simp [swp]
theorem and1023' (n : Int) : bits .and .i64 (w64 n) 1023 = n % 1024 := by rw [and1023, w64_mod]
/-- What Words tells. -/
def wordsS (S : List Nat) (n : Int) : List Nat := (List.range (min (max n 0) 1024).toNat).map fun k => S.getD (ix ((if n > 1024 then n - 1024 else 0) + (k : Nat))) 0
theorem wordsS_length (S : List Nat) (n : Int) : (wordsS S n).length = (min (max n 0) 1024).toNat := by simp [wordsS]
theorem wordsS_get (S : List Nat) (n : Int) (k : Nat) (h : k < (min (max n 0) 1024).toNat) : (wordsS S n).getD k 0 = S.getD (ix ((if n > 1024 then n - 1024 else 0) + (k : Nat))) 0 := by simp [wordsS, List.getD, h]
theorem wordsS_of {S ys : List Nat} {n : Int} (hl : ys.length = (min (max n 0) 1024).toNat) (h : ∀ k, k < ys.length → ys.getD k 0 = S.getD (ix ((if n > 1024 then n - 1024 else 0) + (k : Nat))) 0) : ys = wordsS S n := by
  apply List.ext_getElem (by rw [wordsS_length, hl])
  intro i h1 h2
  have e1 : ys.getD i 0 = ys[i] := by simp [List.getD, h1]
  have e2 : (wordsS S n).getD i 0 = (wordsS S n)[i] := by simp [List.getD, h2]
  rw [← e1, ← e2, h i h1, wordsS_get _ _ _ (by omega)]
def pushS (S : List Nat) (n : Int) (x : Nat) : List Nat := if 1024 ≤ n then S else S.set (ix n) x
def pushN (n : Int) : Int := if 1024 ≤ n then n else n + 1
def pushE (n : Int) : Nat := if 1024 ≤ n then 91 else 0
theorem pushS_length {S : List Nat} (h : S.length = 1024) (n : Int) (x : Nat) : (pushS S n x).length = 1024 := by unfold pushS; split <;> simp [h]
def popN (n : Int) : Int := if n < 1 then n else n - 1
def popX (S : List Nat) (n : Int) : Nat := if n < 1 then 0 else S.getD (ix (n - 1)) 0
def popE (n : Int) : Nat := if n < 1 then 90 else 0
def atE (n m : Int) : Nat := if m < 1 then 1 else if m > n then 90 else 0
def atX (S : List Nat) (n m : Int) : Nat := if atE n m = 0 then S.getD (ix (n - m)) 0 else 0
def dupE (n m : Int) : Nat := if atE n m = 0 then pushE n else atE n m
def dupS (S : List Nat) (n m : Int) : List Nat := if atE n m = 0 then pushS S n (atX S n m) else S
def dupN (n m : Int) : Int := if atE n m = 0 then pushN n else n
def swapE (n m : Int) : Nat := if m < 1 then 1 else if m ≥ n then 90 else 0
def swapS (S : List Nat) (n m : Int) : List Nat := if swapE n m = 0 then swp S (ix (n - 1)) (ix (n - (m + 1))) else S
def exE (n m q : Int) : Nat := if m < 1 ∨ q < 1 then 1 else if m ≥ n ∨ q ≥ n - m then 90 else 0
def exS (S : List Nat) (n m q : Int) : List Nat := if exE n m q = 0 then swp S (ix (n - (m + 1))) (ix (n - (m + q + 1))) else S
theorem dupS_length {S : List Nat} (h : S.length = 1024) (n m : Int) : (dupS S n m).length = 1024 := by unfold dupS; split; exact pushS_length h _ _; exact h
theorem swapS_length {S : List Nat} (h : S.length = 1024) (n m : Int) : (swapS S n m).length = 1024 := by unfold swapS; split; rw [swp_length, h]; exact h
theorem exS_length {S : List Nat} (h : S.length = 1024) (n m q : Int) : (exS S n m q).length = 1024 := by unfold exS; split; rw [swp_length, h]; exact h
theorem zeros_word (q : Nat) : zeros (.agg ([.int .u64 0, .int .u64 0, .int .u64 0, .int .u64 0] : List Value).toArray) q = rowW (List.replicate q 0) := by
  apply List.ext_getElem
  · rw [rowW_length, List.length_replicate, zeros_length]; rfl
  · intro i h1 h2
    have hq : i / 4 < (List.replicate q 0).length := by rw [rowW_length] at h2; omega
    have h3 := rowW_seg (List.replicate q 0) (i / 4) hq
    have h4 : (List.replicate q 0).getD (i / 4) 0 = 0 := by rw [List.getD_eq_getElem?_getD, List.getElem?_replicate]; split <;> rfl
    rw [h4] at h3
    have h5 : (rowW (List.replicate q 0))[i]? = (wc 0)[i % 4]? := by
      rw [← h3, List.getElem?_take_of_lt (Nat.mod_lt _ (by omega)), List.getElem?_drop]
      congr 1; omega
    have h6 : ∀ j, j < 4 → (wc 0)[j]? = some (.int .u64 0) := by
      intro j hj
      match j, hj with
      | 0, _ => rfl
      | 1, _ => rfl
      | 2, _ => rfl
      | 3, _ => rfl
    rw [h6 _ (Nat.mod_lt _ (by omega)), List.getElem?_eq_getElem h2] at h5
    simp only [Option.some.injEq] at h5
    rw [h5]
    simp only [zeros, List.getElem_map, List.getElem_range, Value.cells, List.size_toArray, List.length_cons, List.length_nil]
    have h7 : ∀ j, j < 4 → (([.int .u64 0, .int .u64 0, .int .u64 0, .int .u64 0] : List Value).toArray)[j]! = .int .u64 0 := by
      intro j hj
      match j, hj with
      | 0, _ => rfl
      | 1, _ => rfl
      | 2, _ => rfl
      | 3, _ => rfl
    exact h7 _ (Nat.mod_lt _ (by omega))
theorem put_all (cs vs : List Value) (h : cs.length = vs.length) : put cs 0 vs = vs := by unfold put; rw [List.take_zero, Nat.zero_add, List.drop_of_length_le (by omega)]; simp
theorem put_front (xs ys : List Nat) (h : ys.length ≤ xs.length) : put (rowW xs) 0 (rowW ys) = rowW (ys ++ xs.drop ys.length) := by
  unfold put
  rw [List.take_zero, List.nil_append, Nat.zero_add, rowW_length, rowW_drop, rowW_append]
theorem put_back (xs ys : List Nat) (k : Nat) (h : k + ys.length = xs.length) : put (rowW xs) (k * 4) (rowW ys) = rowW (xs.take k ++ ys) := by
  unfold put
  rw [rowW_take, rowW_length, ← Nat.add_mul, rowW_drop, List.drop_of_length_le (by omega), rowW_append]
  simp [rowW]
theorem wordsA {S : List Nat} {n : Int} (hS : S.length = 1024) (m : Nat) (hm : (m : Int) = max n 0) (h : n ≤ 1024) : S.take m = wordsS S n := by
  refine wordsS_of (by rw [List.length_take]; omega) (fun k hk => ?_)
  rw [List.length_take] at hk
  rw [getD_take _ _ _ (by omega), if_neg (by omega)]
  congr 1
  unfold ix; omega
theorem wordsB {S : List Nat} {n : Int} (hS : S.length = 1024) (h : 1024 < n) : S.drop (ix n) ++ S.take (ix n) = wordsS S n := by
  have hl := ix_lt n
  refine wordsS_of (by rw [List.length_append, List.length_drop, List.length_take]; omega) (fun k hk => ?_)
  rw [List.length_append, List.length_drop, List.length_take] at hk
  rw [if_pos h]
  have hc := ix_cast n
  by_cases h1 : k < 1024 - ix n
  · rw [getD_append_left _ _ _ (by rw [List.length_drop]; omega)]
    have e : ix (n - 1024 + (k : Nat)) = ix n + k := by
      have := ix_cast (n - 1024 + (k : Nat)); omega
    rw [e]
    simp [List.getD, List.getElem?_drop]
  · have e : ix (n - 1024 + (k : Nat)) = k - (1024 - ix n) := by
      have := ix_cast (n - 1024 + (k : Nat)); omega
    rw [e]
    have e2 : k = (S.drop (ix n)).length + (k - (1024 - ix n)) := by rw [List.length_drop]; omega
    conv => lhs; rw [e2]
    rw [getD_append_right, getD_take _ _ _ (by omega)]
theorem at_lo {S : List Nat} {n m : Int} (h : m < 1) : atX S n m = 0 ∧ atE n m = 1 := by
  have e : atE n m = 1 := by unfold atE; rw [if_pos h]
  exact ⟨by unfold atX; rw [e]; rfl, e⟩
theorem at_hi {S : List Nat} {n m : Int} (h : ¬ m < 1) (h2 : m > n) : atX S n m = 0 ∧ atE n m = 90 := by
  have e : atE n m = 90 := by unfold atE; rw [if_neg h, if_pos h2]
  exact ⟨by unfold atX; rw [e]; rfl, e⟩
theorem at_ok {S : List Nat} {n m : Int} (h : ¬ m < 1) (h2 : ¬ m > n) : atX S n m = S.getD (ix (n - m)) 0 ∧ atE n m = 0 := by
  have e : atE n m = 0 := by unfold atE; rw [if_neg h, if_neg h2]
  exact ⟨by unfold atX; rw [e]; rfl, e⟩
theorem stk_fit (o : Nat) (i : Int) (ho : o ≤ 1) : 0 + o + (i % 1024).toNat * 4 + 4 ≤ 4097 := by
  have := ix_lt i
  unfold ix at this
  generalize (i % 1024).toNat = q at *
  omega
theorem sw_lo {S : List Nat} {n m : Int} (h : m < 1) : swapS S n m = S ∧ swapE n m = 1 := by
  have e : swapE n m = 1 := by unfold swapE; rw [if_pos h]
  exact ⟨by unfold swapS; rw [e]; rfl, e⟩
theorem sw_hi {S : List Nat} {n m : Int} (h : ¬ m < 1) (h2 : m ≥ n) : swapS S n m = S ∧ swapE n m = 90 := by
  have e : swapE n m = 90 := by unfold swapE; rw [if_neg h, if_pos h2]
  exact ⟨by unfold swapS; rw [e]; rfl, e⟩
theorem sw_ok {S : List Nat} {n m : Int} (h : ¬ m < 1) (h2 : ¬ m ≥ n) : swapS S n m = swp S (ix (n - 1)) (ix (n - (m + 1))) ∧ swapE n m = 0 := by
  have e : swapE n m = 0 := by unfold swapE; rw [if_neg h, if_neg h2]
  exact ⟨by unfold swapS; rw [e]; rfl, e⟩
theorem ex_lo {S : List Nat} {n m q : Int} (h : m < 1 ∨ q < 1) : exS S n m q = S ∧ exE n m q = 1 := by
  have e : exE n m q = 1 := by unfold exE; rw [if_pos h]
  exact ⟨by unfold exS; rw [e]; rfl, e⟩
theorem ex_hi {S : List Nat} {n m q : Int} (h : ¬ (m < 1 ∨ q < 1)) (h2 : m ≥ n ∨ q ≥ n - m) : exS S n m q = S ∧ exE n m q = 90 := by
  have e : exE n m q = 90 := by unfold exE; rw [if_neg h, if_pos h2]
  exact ⟨by unfold exS; rw [e]; rfl, e⟩
theorem ex_ok {S : List Nat} {n m q : Int} (h : ¬ (m < 1 ∨ q < 1)) (h2 : ¬ (m ≥ n ∨ q ≥ n - m)) : exS S n m q = swp S (ix (n - (m + 1))) (ix (n - (m + q + 1))) ∧ exE n m q = 0 := by
  have e : exE n m q = 0 := by unfold exE; rw [if_neg h, if_neg h2]
  exact ⟨by unfold exS; rw [e]; rfl, e⟩
theorem tmod_pos {i : Int} (h : ¬ i.tmod 1024 < 0) : i.tmod 1024 = i % 1024 := by
  rcases Int.le_total 0 i with h1 | h1
  · exact Int.tmod_eq_emod_of_nonneg h1
  · obtain ⟨j, rfl⟩ : ∃ j, i = -j := ⟨-i, by omega⟩
    rw [Int.neg_tmod, Int.tmod_eq_emod_of_nonneg (by omega)] at h ⊢
    omega
theorem tmod_neg {i : Int} (h : i.tmod 1024 < 0) : i.tmod 1024 + 1024 = i % 1024 := by
  rcases Int.le_total 0 i with h1 | h1
  · rw [Int.tmod_eq_emod_of_nonneg h1] at h; omega
  · obtain ⟨j, rfl⟩ : ∃ j, i = -j := ⟨-i, by omega⟩
    rw [Int.neg_tmod, Int.tmod_eq_emod_of_nonneg (by omega)] at h ⊢
    omega
theorem tmod_bound (i : Int) : -1024 < i.tmod 1024 ∧ i.tmod 1024 < 1024 := by
  rcases Int.le_total 0 i with h1 | h1
  · rw [Int.tmod_eq_emod_of_nonneg h1]; omega
  · obtain ⟨j, rfl⟩ : ∃ j, i = -j := ⟨-i, by omega⟩
    rw [Int.neg_tmod, Int.tmod_eq_emod_of_nonneg (by omega)]
    omega
/-- New. -/
def zstk : List Nat := List.replicate 1024 0
theorem zstk_length : zstk.length = 1024 := List.length_replicate
end Go.Fw
