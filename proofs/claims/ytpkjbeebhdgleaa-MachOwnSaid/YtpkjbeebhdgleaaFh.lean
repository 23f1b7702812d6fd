/-
  Rows handed back with an error code; pieces of slices; bytes laid with marks behind them.
  No condition: plain lemmas.
-/
import Derived.Test.YtpkjbeebhdgleaaPc
set_option linter.unusedVariables false
namespace Go.Fw
open Go
section
variable {P : Program} {ops : Array Oper} {F : Act → World → Prop} {w0 w w' : World} {M : List Nat} {N : Nf} {L : List (Oper × K)} {σ : List (Nat × Value)} {l lS : List (Nat × Ent)} {d : Option Tmp} {ty : TypeId} {p : String} {af : Array Edge} {x : Operand} {v z : Value} {t : TypeId} {kd : IntKind}

/-- What a contract says of a fresh row of numbers and a code, handed back. -/
def RowEPost (w : World) (t : TypeId) (kd : IntKind) (φ : List Nat → Nat → Prop) (e : Ending) (w' : World) : Prop :=
  ∃ (zs : List Nat) (n : Nat), φ zs n ∧ ∃ r : RowIx, r.Ok 1 zs.length ∧ e = .returned (.tuple #[r.val zs.length, .int .i64 (n : Int)]) ∧ WS w [] [(0, r.ent t (rowN kd zs))] w'
theorem RowEPost.mk' {φ : List Nat → Nat → Prop} {e : Ending} (zs : List Nat) (n : Nat) (hz : φ zs n) (r : RowIx) (hr : r.Ok 1 zs.length) (he : e = .returned (.tuple #[r.val zs.length, .int .i64 (n : Int)])) (hw : WS w [] l w') (k : Nat) (hk : lk l k = some (r.ent t (rowN kd zs))) :
    RowEPost w t kd φ e w' := ⟨zs, n, hz, r, hr, he, hw.only k 0 hk⟩
theorem RowEPost.nil {φ : List Nat → Nat → Prop} {e : Ending} (n : Nat) (hz : φ [] n) (he : e = .returned (.tuple #[.slice none 0 0, .int .i64 (n : Int)])) (hw : WS w [] l w') : RowEPost w t kd φ e w' :=
  ⟨[], n, hz, RowIx.nil, RowIx.nil_ok 1, he, ((hw.sub (Sub.nil _)).addNil 0 t)⟩
theorem J.callRowE (h : Nat) (hh : lk lS h = none) {f : FuncId} (hf : FnOk P f) {xs : Array Operand} {tys : Array TypeId} {args : List Value} (hx : evs σ xs.toList = some args) (hd : okd N d) {φ : List Nat → Nat → Prop}
    (spec : ∀ w, WS w0 M l w → Calls P f args.toArray w (RowEPost w t kd φ))
    (hJ : ∀ (zs : List Nat) (n : Nat) (r : RowIx), φ zs n → r.Ok 1 zs.length → J P ops F w0 M N lS L (putd d (.tuple [r.val zs.length, .int .i64 (n : Int)].toArray) σ) ((h, r.ent t (rowN kd zs)) :: l)) :
    J P ops F w0 M N lS ((⟨d, .call ⟨.value (.func f), xs, tys⟩, ty, p, af, none⟩, .l) :: L) σ l :=
  J.call hf hx hd (ι := (List Nat × Nat) × RowIx) (fun i => φ i.1.1 i.1.2 ∧ i.2.Ok 1 i.1.1.length) (fun i => .tuple [i.2.val i.1.1.length, .int .i64 (i.1.2 : Int)].toArray) [] (fun i => [(h, i.2.ent t (rowN kd i.1.1))])
    (fun w hw => (spec w hw).mono fun e w' ⟨zs, n, hz, r, hr, he, h2⟩ => ⟨((zs, n), r), ⟨hz, hr⟩, he, h2.rename h⟩) (fun _ _ g hg => by simp at hg) (fun i k e he => by
      rw [lk_cons] at he
      split at he
      · rename_i hk; subst hk; exact hh
      · simp [lk] at he) (fun i hi => hJ i.1.1 i.1.2 i.2 hi.1 hi.2)

/-! ### Pieces -/
theorem Cs.take {A : Option Addr} {cs : List Value} (h : Cs w A cs) (n : Nat) : Cs w A (cs.take n) := fun i x hx => h i x (by
  rcases Nat.lt_or_ge i n with h1 | h1
  · rwa [List.getElem?_take_of_lt h1] at hx
  · rw [List.getElem?_eq_none (by simp; omega)] at hx; cases hx)
theorem Cs.drop {A : Option Addr} {cs : List Value} (h : Cs w A cs) (n : Nat) : Cs w (A.map (·.add n)) (cs.drop n) := fun i x hx => by
  rw [List.getElem?_drop] at hx
  obtain ⟨ad, ha, hc⟩ := h (n + i) x hx
  subst ha
  exact ⟨_, rfl, by rw [Addr.add_add]; exact hc⟩
/-- What 's[lo:]' is. -/
theorem Cs.cut {A : Option Addr} {cs : List Value} (h : Cs w A cs) (lo s mx : Nat) (hm : mx = lo → cs.length ≤ lo * s) : Cs w (if mx = lo then A else A.map (·.add (lo * s))) (cs.drop (lo * s)) := by
  split
  · rename_i e
    rw [List.drop_eq_nil_of_le (hm e)]
    exact Cs.nil _ _
  · exact h.drop _
theorem Cs.left {A : Option Addr} {cs ds : List Value} (h : Cs w A (cs ++ ds)) : Cs w A cs := fun i x hx => h i x (by rw [List.getElem?_append_left (List.getElem?_eq_some_iff.1 hx).1]; exact hx)
theorem hdOf_add0 (id : Option Nat) : (hdOf id).map (·.add 0) = hdOf id := by cases id <;> simp [hdOf, Addr.add]
theorem add0 (A : Option Addr) : A.map (·.add 0) = A := by cases A <;> simp [Addr.add]
/-- The first cells of an entry. -/
theorem WS.entCs (hw : WS w0 M l w) {k : Nat} {id : Option Nat} {cs ds : List Value} (hl : lk l k = some ⟨id, t, cs ++ ds⟩) : Cs w (hdOf id) cs := by
  have : Cs w (hdOf id) (cs ++ ds) := fun i x hx => by
    cases id with
    | none =>
      have := hw.live k _ hl
      simp only [Ent.At] at this
      rw [this.1] at hx
      simp at hx
    | some g =>
      refine ⟨⟨g, 0, none⟩, rfl, ?_⟩
      rw [add_lit', Nat.zero_add]
      exact hw.cell hl (o := i) hx
  exact this.left
theorem put_zero (kd : IntKind) (n : Nat) (ys : List Nat) (h : ys.length ≤ n) : put (rowN kd (List.replicate n 0)) 0 (rowN kd ys) = rowN kd (ys ++ List.replicate (n - ys.length) 0) := by
  unfold put
  rw [List.take_zero, List.nil_append, rowN_length, Nat.zero_add, rowN_append]
  congr 1
  simp [rowN]
theorem RowIx.blk_ok (g n : Nat) (h : n ≤ maxLen) : RowIx.Ok ⟨some g, n, []⟩ 1 n := ⟨Nat.le_refl _, h, by simp, fun e => by simp at e, fun u hu => by simp at hu⟩
theorem RowIx.blk_ok' (g n s : Nat) (h : n ≤ maxLen) : RowIx.Ok ⟨some g, n, []⟩ s n := ⟨Nat.le_refl _, h, by simp, fun e => by simp at e, fun u hu => by simp at hu⟩
end

/-! ### Row -/
def rowB (xs : List Nat) (x n : Nat) : List Nat := (List.range n).map fun i => xs.getD (x % 2 ^ 256 + i) 0
theorem rowB_length (xs : List Nat) (x n : Nat) : (rowB xs x n).length = n := by simp [rowB]
theorem rowB_get (xs : List Nat) (x n i : Nat) (h : i < n) : (rowB xs x n).getD i 0 = xs.getD (x % 2 ^ 256 + i) 0 := by simp [rowB, List.getD, h]
theorem rowB_dg {xs : List Nat} (h : Dg xs) (x n : Nat) : Dg (rowB xs x n) := fun y hy => by
  simp only [rowB, List.mem_map] at hy
  obtain ⟨i, _, rfl⟩ := hy
  exact h.getD _
theorem getD_far (xs : List Nat) (i : Nat) (h : xs.length ≤ i) : xs.getD i 0 = 0 := by rw [List.getD_eq_getElem?_getD, List.getElem?_eq_none h]; rfl
theorem rowB_far (xs : List Nat) (x n : Nat) (h : xs.length ≤ x % 2 ^ 256) : rowB xs x n = List.replicate n 0 := by
  apply List.ext_getElem (by simp [rowB_length])
  intro i h1 h2
  have hin : i < n := by rw [rowB_length] at h1; exact h1
  have a := rowB_get xs x n i hin
  have e : (rowB xs x n).getD i 0 = (rowB xs x n)[i] := by simp [List.getD, h1]
  rw [← e, a, getD_far xs (x % 2 ^ 256 + i) (Nat.le_trans h (Nat.le_add_right _ _))]
  simp
theorem rowB_near (xs : List Nat) (x n : Nat) : (xs.drop (x % 2 ^ 256)).take n ++ List.replicate (n - ((xs.drop (x % 2 ^ 256)).take n).length) 0 = rowB xs x n := by
  generalize hk : x % 2 ^ 256 = k
  apply List.ext_getElem?
  intro i
  have hl : ((xs.drop k).take n).length = min n (xs.length - k) := by rw [List.length_take, List.length_drop]
  by_cases hi : i < n
  · have a := rowB_get xs x n i hi
    rw [hk] at a
    have hr : (rowB xs x n)[i]? = some (xs.getD (k + i) 0) := by
      have h3 : i < (rowB xs x n).length := by rw [rowB_length]; exact hi
      rw [← a]
      simp [List.getD, h3]
    rw [hr]
    by_cases h4 : k + i < xs.length
    · rw [List.getElem?_append_left (by rw [hl]; omega), List.getElem?_take_of_lt hi, List.getElem?_drop]
      simp [List.getD, h4]
    · rw [List.getElem?_append_right (by rw [hl]; omega), getD_far _ _ (by omega)]
      rw [List.getElem?_replicate, if_pos (by omega)]
  · rw [List.getElem?_eq_none (by rw [List.length_append, List.length_replicate, hl]; omega), List.getElem?_eq_none (by rw [rowB_length]; omega)]
theorem rowB_of {xs ys : List Nat} {x n : Nat} (hl : ys.length = n) (h : ∀ q, q < n → ys.getD q 0 = xs.getD (x % 2 ^ 256 + q) 0) : ys = rowB xs x n := by
  apply List.ext_getElem (by rw [rowB_length, hl])
  intro i h1 h2
  have e1 : ys.getD i 0 = ys[i] := by simp [List.getD, h1]
  have e2 : (rowB xs x n).getD i 0 = (rowB xs x n)[i] := by simp [List.getD, h2]
  rw [← e1, ← e2, h i (by omega), rowB_get _ _ _ _ (by omega)]
theorem sizeN_big (x : Nat) (h : sizeN x > 8) : 18446744073709551616 ≤ x % 2 ^ 256 := by
  rcases Nat.lt_or_ge (x % 2 ^ 256) 18446744073709551616 with h1 | h1
  · rw [sizeN_bitLen] at h
    have := bitLen_le64 _ h1
    omega
  · exact h1
/-- What Row answers. -/
def rowR (xs : List Nat) (x : Nat) (n : Int) : List Nat := if n < 0 ∨ n > 4194304 then [] else rowB xs x n.toNat
def rowRe (n : Int) : Nat := if n < 0 ∨ n > 4194304 then 1 else 0
theorem rowR_dg {xs : List Nat} (h : Dg xs) (x : Nat) (n : Int) : Dg (rowR xs x n) := by
  unfold rowR; split
  · exact Dg.nil
  · exact rowB_dg h _ _

/-! ### Marks -/
def marks (q : Nat) : List Nat := (List.range q).map fun i => 201 + i % 5
theorem marks_length (q : Nat) : (marks q).length = q := by simp [marks]
theorem marks_succ (q : Nat) : marks (q + 1) = marks q ++ [201 + q % 5] := by simp [marks, List.range_succ]
theorem marks_get (q i : Nat) (h : i < q) : (marks q).getD i 0 = 201 + i % 5 := by simp [marks, List.getD, h]
theorem marks_dg (q : Nat) : Dg (marks q) := fun y hy => by
  simp only [marks, List.mem_map] at hy
  obtain ⟨i, _, rfl⟩ := hy
  omega
theorem Dg.append {xs ys : List Nat} (h : Dg xs) (h2 : Dg ys) : Dg (xs ++ ys) := fun y hy => (List.mem_append.1 hy).elim (h y) (h2 y)
theorem getD_append_left (xs ys : List Nat) (i : Nat) (h : i < xs.length) : (xs ++ ys).getD i 0 = xs.getD i 0 := by simp [List.getD, List.getElem?_append_left h]
theorem getD_append_right (xs ys : List Nat) (i : Nat) : (xs ++ ys).getD (xs.length + i) 0 = ys.getD i 0 := by
  rw [List.getD_eq_getElem?_getD, List.getElem?_append_right (Nat.le_add_right _ _), Nat.add_sub_cancel_left, List.getD_eq_getElem?_getD]
theorem getD_take (xs : List Nat) (n i : Nat) (h : i < n) : (xs.take n).getD i 0 = xs.getD i 0 := by simp [List.getD, List.getElem?_take_of_lt h]
/-- What 'laid' hands back: the row, its marks behind it. -/
def LaidPost (w : World) (t : TypeId) (ys : List Nat) (e : Ending) (w' : World) : Prop :=
  ∃ r : RowIx, r.Ok 1 (ys.length + 75) ∧ e = .returned (.slice (hdOf r.id) ys.length r.cap) ∧ WS w [] [(0, r.ent t (rowN .u8 (ys ++ marks 75)))] w'
section
variable {P : Program} {ops : Array Oper} {F : Act → World → Prop} {w0 w w' : World} {M : List Nat} {N : Nf} {L : List (Oper × K)} {σ : List (Nat × Value)} {l lS : List (Nat × Ent)} {d : Option Tmp} {ty : TypeId} {p : String} {af : Array Edge} {x : Operand} {v z : Value} {t : TypeId} {kd : IntKind}
theorem J.callLaid (h : Nat) (hh : lk lS h = none) {f : FuncId} (hf : FnOk P f) {xs : Array Operand} {tys : Array TypeId} {args : List Value} (hx : evs σ xs.toList = some args) (hd : okd N d) {ys : List Nat}
    (spec : ∀ w, WS w0 M l w → Calls P f args.toArray w (LaidPost w t ys))
    (hJ : ∀ (r : RowIx), r.Ok 1 (ys.length + 75) → J P ops F w0 M N lS L (putd d (.slice (hdOf r.id) ys.length r.cap) σ) ((h, r.ent t (rowN .u8 (ys ++ marks 75))) :: l)) :
    J P ops F w0 M N lS ((⟨d, .call ⟨.value (.func f), xs, tys⟩, ty, p, af, none⟩, .l) :: L) σ l :=
  J.call hf hx hd (ι := RowIx) (fun i => i.Ok 1 (ys.length + 75)) (fun i => .slice (hdOf i.id) ys.length i.cap) [] (fun i => [(h, i.ent t (rowN .u8 (ys ++ marks 75)))])
    (fun w hw => (spec w hw).mono fun e w' ⟨r, hr, he, h2⟩ => ⟨r, hr, he, h2.rename h⟩) (fun _ _ g hg => by simp at hg) (fun i k e he => by
      rw [lk_cons] at he
      split at he
      · rename_i hk; subst hk; exact hh
      · simp [lk] at he) (fun i hi => hJ i hi)
theorem WS.laidCs (hw : WS w0 M l w) {k : Nat} {r : RowIx} {ys zs : List Nat} (hl : lk l k = some (r.ent t (rowN .u8 (ys ++ zs)))) : Cs w (hdOf r.id) (rowN .u8 ys) := by
  have := hw.rowCs hl
  rw [rowN_append] at this
  exact this.left
end
theorem xor_nat8 (a b : Nat) (h : a < 256 ∧ b < 256) : bits .xor .u8 (a : Int) (b : Int) = ((a ^^^ b : Nat) : Int) := u8_xor_nat a b h.1 h.2
theorem xor_lt8 (a b : Nat) (h : a < 256 ∧ b < 256) : a ^^^ b < 256 := Nat.xor_lt_two_pow (n := 8) h.1 h.2
end Go.Fw
