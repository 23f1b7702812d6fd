/-
  Plain numbers: rows of digits of base 256, words of four parts of 64 bits; no Go in it.
  No condition: plain lemmas.
-/
import Derived.Test.YtpkjbeebhdgleaaFf
set_option linter.unusedVariables false
namespace Go.Fw
open Go

def rowN (kd : IntKind) (xs : List Nat) : List Value := xs.map fun (n : Nat) => Value.int kd (n : Int)
theorem rowN_length (kd : IntKind) (xs : List Nat) : (rowN kd xs).length = xs.length := by simp [rowN]
theorem rowN_append (kd : IntKind) (xs ys : List Nat) : rowN kd (xs ++ ys) = rowN kd xs ++ rowN kd ys := by simp [rowN]
theorem rowN_get (kd : IntKind) (xs : List Nat) (i : Nat) (h : i < xs.length) : (rowN kd xs)[i]? = some (.int kd (xs.getD i 0 : Nat)) := by simp [rowN, h, List.getD]
theorem rowN_get1 (kd : IntKind) (xs : List Nat) (i : Nat) (h : i < xs.length) : (rowN kd xs)[i * 1]? = some (.int kd (xs.getD i 0 : Nat)) := by rw [Nat.mul_one]; exact rowN_get kd xs i h
theorem rowN_get0 (kd : IntKind) (xs : List Nat) (i : Nat) (h : i < xs.length) : (rowN kd xs)[0 + i * 1]? = some (.int kd (xs.getD i 0 : Nat)) := by rw [Nat.zero_add]; exact rowN_get1 kd xs i h
theorem rowN_get1s (kd : IntKind) (xs : List Nat) (sp : List Value) (i : Nat) (h : i < xs.length) : (rowN kd xs ++ sp)[i * 1]? = some (.int kd (xs.getD i 0 : Nat)) := by
  rw [Nat.mul_one, List.getElem?_append_left (by rw [rowN_length]; exact h)]; exact rowN_get kd xs i h
theorem rowN_set (kd : IntKind) (xs : List Nat) (i : Nat) (x : Nat) : (rowN kd xs).set i (.int kd (x : Int)) = rowN kd (xs.set i x) := by simp [rowN, List.map_set]
theorem rowN_one (kd : IntKind) (xs : List Nat) : ∀ u ∈ rowN kd xs, u.oneCell' = true := by
  intro u hu
  simp only [rowN, List.mem_map] at hu
  obtain ⟨x, _, rfl⟩ := hu
  rfl
theorem rowN_seg (kd : IntKind) (xs : List Nat) (o q : Nat) : ((rowN kd xs).drop o).take q = rowN kd ((xs.drop o).take q) := by simp [rowN, List.map_drop, List.map_take]
theorem zeros_nat (kd : IntKind) (q : Nat) : zeros (.int kd 0) q = rowN kd (List.replicate q 0) := by rw [zeros_int]; simp [rowI, rowN]
theorem Cs.isSomeN {w : World} {kd : IntKind} {A : Option Addr} {xs : List Nat} (h : Cs w A (rowN kd xs)) (hn : 0 < xs.length) : A.isSome = true := h.isSome (by rw [rowN_length]; exact hn)
/-- A store of one number into a row (with room behind it). -/
theorem putN (kd : IntKind) (xs : List Nat) (sp : List Value) (i x : Nat) (h : i < xs.length) : put (rowN kd xs ++ sp) i [.int kd (x : Int)] = rowN kd (xs.set i x) ++ sp := by
  rw [put_one _ _ _ (by simp [rowN]; omega), List.set_append_left _ _ (by rw [rowN_length]; exact h), rowN_set]
theorem putN' (kd : IntKind) (xs : List Nat) (i x : Nat) (h : i < xs.length) : put (rowN kd xs) i [.int kd (x : Int)] = rowN kd (xs.set i x) := by
  have := putN kd xs [] i x h; simpa using this

/-- What a contract says of a fresh row of numbers that is handed back. -/
def RowsPost (w : World) (t : TypeId) (kd : IntKind) (φ : List Nat → Prop) (e : Ending) (w' : World) : Prop :=
  ∃ zs : List Nat, φ zs ∧ ∃ r : RowIx, r.Ok 1 zs.length ∧ e = .returned (r.val zs.length) ∧ WS w [] [(0, r.ent t (rowN kd zs))] w'
theorem RowsPost.mk' {w w' : World} {l : List (Nat × Ent)} {t : TypeId} {kd : IntKind} {φ : List Nat → Prop} {e : Ending} (zs : List Nat) (hz : φ zs) (r : RowIx) (hr : r.Ok 1 zs.length) (he : e = .returned (r.val zs.length)) (hw : WS w [] l w') (k : Nat) (hk : lk l k = some (r.ent t (rowN kd zs))) :
    RowsPost w t kd φ e w' := ⟨zs, hz, r, hr, he, hw.only k 0 hk⟩
section
variable {P : Program} {ops : Array Oper} {F : Act → World → Prop} {w0 : World} {M : List Nat} {N : Nf} {L : List (Oper × K)} {σ : List (Nat × Value)} {l lS : List (Nat × Ent)} {d : Option Tmp} {ty : TypeId} {p : String} {af : Array Edge} {x : Operand} {v z : Value}
theorem J.callRow (h : Nat) (hh : lk lS h = none) {f : FuncId} (hf : FnOk P f) {xs : Array Operand} {tys : Array TypeId} {args : List Value} (hx : evs σ xs.toList = some args) (hd : okd N d) {t : TypeId} {kd : IntKind} {φ : List Nat → Prop}
    (spec : ∀ w, WS w0 M l w → Calls P f args.toArray w (RowsPost w t kd φ))
    (hJ : ∀ (zs : List Nat) (r : RowIx), φ zs → r.Ok 1 zs.length → J P ops F w0 M N lS L (putd d (r.val zs.length) σ) ((h, r.ent t (rowN kd zs)) :: l)) :
    J P ops F w0 M N lS ((⟨d, .call ⟨.value (.func f), xs, tys⟩, ty, p, af, none⟩, .l) :: L) σ l :=
  J.call hf hx hd (ι := List Nat × RowIx) (fun i => φ i.1 ∧ i.2.Ok 1 i.1.length) (fun i => i.2.val i.1.length) [] (fun i => [(h, i.2.ent t (rowN kd i.1))])
    (fun w hw => (spec w hw).mono fun e w' ⟨zs, hz, r, hr, he, h2⟩ => ⟨(zs, r), ⟨hz, hr⟩, he, h2.rename h⟩) (fun _ _ g hg => by simp at hg) (fun i k e he => by
      rw [lk_cons] at he
      split at he
      · rename_i hk; subst hk; exact hh
      · simp [lk] at he) (fun i hi => hJ i.1 i.2 hi.1 hi.2)

theorem fold_set : ∀ (vs : List Value) (k : Nat) (arr : Array Value), k + vs.length = arr.size →
    (vs.zipIdx k).foldl (fun cs (q : Value × Nat) => cs.setIfInBounds (0 + q.2) q.1) arr = (arr.toList.take k ++ vs).toArray
  | [], k, arr, h => by
    simp at h
    subst h
    simp
    rw [← Array.length_toList, List.take_length]
  | v :: vs, k, arr, h => by
    simp at h
    rw [List.zipIdx_cons, List.foldl_cons, fold_set vs (k + 1) _ (by simp; omega)]
    congr 1
    simp only [Nat.zero_add, Array.toList_setIfInBounds]
    rw [List.take_add_one, List.take_set_of_le (Nat.le_refl k)]
    simp [show k < arr.size by omega]

theorem fill_one (size : Nat) (arr : Array Value) (v : Value) (cs : List Value) (hv : v.cells = cs.toArray) (hc : cs.length = size) (ha : arr.size = size) :
    Instr.fill (fun i => some (i * size, size)) arr [(0, v)] = some cs.toArray := by
  have h1 : v.cells.size = size := by rw [hv]; simpa using hc
  have h2 := fold_set cs 0 arr (by omega)
  simp only [List.take_zero, List.nil_append] at h2
  unfold Instr.fill
  dsimp only
  split
  · rename_i h; simp [h1, ha] at h
  · unfold Instr.fill
    rw [hv, ← Array.foldl_toList, Array.toList_zipIdx, Nat.zero_mul]
    exact congrArg some h2

/-- '[]T{x}': what 'append(l, x)' appends. -/
theorem J.lit1 (h : Nat) (hh : lk lS h = none) {t e size bytes : Nat} (ht : P.underlying t = some (.slice e)) (he : ElT P e size bytes z) (hsz : size ≤ 16777216) (hx : ev σ x = some v) (cs : List Value) (hv : v.cells = cs.toArray) (hc : cs.length = size) (hd : okd N d)
    (hJ : ∀ g, w0.heap.size ≤ g → J P ops F w0 M N lS L (putd d (.slice (some ⟨g, 0, none⟩) 1 1) σ) ((h, ⟨some g, e, cs⟩) :: l)) :
    J P ops F w0 M N lS ((⟨d, .buildSlice t 1 #[(0, x)], ty, p, af, none⟩, .l) :: L) σ l :=
  J.buildSlice h hh (vs := [(0, v)]) (by simp [evp, hx]) hd cs (fun w => by
    have h0 := he.2.2.1
    have h1 : ¬ (1 * size > 2 ^ 24) := by simp; omega
    have h2 : ¬ (1 * size = 0) := by omega
    obtain ⟨ti, hti, htz, hts, htb⟩ := he.open
    have hz : ZeroT P e z := by simp [ZeroT, hti, htz]
    have hf := fill_one size ((Array.range (1 * size)).map (fun i => z.cells[i % z.cells.size]!)) v cs hv hc (by simp)
    simp only [Instr.buildSlice, Sem.run_bind, run_underlying ht, Result.andThen, run_sizeOf he.sizeT, h1, if_false, h2, Sem.run_bind, run_zeroValue hz, Sem.run_pure, hf, newRow, run_newObj]
    rfl) hJ
end

theorem add_nat (a b : Nat) (h : a + b ≤ 9223372036854775807) : IntKind.i64.wrap ((a : Int) + (b : Int)) = ((a + b : Nat) : Int) := by rw [i64_ok _ (by omega)]; omega
theorem sub_nat (a b : Nat) (h : b ≤ a ∧ a ≤ 9223372036854775807) : IntKind.i64.wrap ((a : Int) - (b : Int)) = ((a - b : Nat) : Int) := by rw [i64_ok _ (by omega)]; omega
theorem mul_nat (a b : Nat) (h : a * b ≤ 9223372036854775807) : IntKind.i64.wrap ((a : Int) * (b : Int)) = ((a * b : Nat) : Int) := by rw [← Int.natCast_mul, i64_ok _ (by omega)]
theorem quo_nat (a b : Nat) (h : a ≤ 9223372036854775807 ∧ 1 ≤ b) : IntKind.i64.wrap ((a : Int).tdiv (b : Int)) = ((a / b : Nat) : Int) := by
  rw [i64_quo_ok _ _ (by omega)]; rfl
theorem rem_nat (a b : Nat) : (a : Int).tmod (b : Int) = ((a % b : Nat) : Int) := rfl
theorem addu_nat (a b : Nat) (h : a + b ≤ 18446744073709551615) : IntKind.u64.wrap ((a : Int) + (b : Int)) = ((a + b : Nat) : Int) := by rw [u64_ok _ (by omega)]; omega
theorem subu_nat (a b : Nat) (h : b ≤ a ∧ a ≤ 18446744073709551615) : IntKind.u64.wrap ((a : Int) - (b : Int)) = ((a - b : Nat) : Int) := by rw [u64_ok _ (by omega)]; omega
theorem mulu_nat (a b : Nat) (h : a * b ≤ 18446744073709551615) : IntKind.u64.wrap ((a : Int) * (b : Int)) = ((a * b : Nat) : Int) := by rw [← Int.natCast_mul, u64_ok _ (by omega)]
theorem quou_nat (a b : Nat) (h : a ≤ 18446744073709551615 ∧ 1 ≤ b) : IntKind.u64.wrap ((a : Int).tdiv (b : Int)) = ((a / b : Nat) : Int) := by
  rw [u64_quo_ok _ _ (by omega)]; rfl
theorem wrap_nat64 (a : Nat) (h : a ≤ 9223372036854775807) : IntKind.i64.wrap (a : Int) = ((a : Nat) : Int) := i64_ok _ (by omega)
theorem wrapu_nat (a : Nat) : IntKind.u64.wrap (a : Int) = ((a % 18446744073709551616 : Nat) : Int) := by rw [u64_wrap]; rfl
theorem wrapu_nat' (a : Nat) (h : a ≤ 18446744073709551615) : IntKind.u64.wrap (a : Int) = (a : Int) := u64_ok _ (by omega)
theorem wrap8_nat (a : Nat) : IntKind.u8.wrap (a : Int) = ((a % 256 : Nat) : Int) := by rw [u8_wrap]; rfl
theorem wrap8_nat' (a : Nat) (h : a ≤ 255) : IntKind.u8.wrap (a : Int) = (a : Int) := u8_ok _ (by omega)

/-! ### Digits -/
/-- The number of a row of digits, the lowest first. -/
def vl : List Nat → Nat
  | [] => 0
  | x :: xs => x + 256 * vl xs
def Dg (xs : List Nat) : Prop := ∀ x ∈ xs, x < 256
theorem Dg.nil : Dg [] := fun x h => by simp at h
theorem Dg.snoc {xs : List Nat} {x : Nat} (h : Dg xs) (hx : x < 256) : Dg (xs ++ [x]) := fun y hy => by
  rcases List.mem_append.1 hy with h1 | h1
  · exact h y h1
  · simp at h1; omega
theorem Dg.getD {xs : List Nat} (h : Dg xs) (i : Nat) : xs.getD i 0 < 256 := by
  rw [List.getD_eq_getElem?_getD]
  by_cases hi : i < xs.length
  · simp [hi]; exact h _ (List.getElem_mem hi)
  · simp [List.getElem?_eq_none (Nat.le_of_not_lt hi)]
theorem Dg.take {xs : List Nat} (h : Dg xs) (i : Nat) : Dg (xs.take i) := fun x hx => h x (List.mem_of_mem_take hx)
theorem vl_append (xs ys : List Nat) : vl (xs ++ ys) = vl xs + vl ys * 256 ^ xs.length := by
  induction xs with
  | nil => simp [vl]
  | cons x xs ih =>
    simp only [List.cons_append, vl, ih, List.length_cons, Nat.pow_succ]
    rw [Nat.mul_add, ← Nat.mul_assoc, Nat.mul_comm 256 (vl ys), Nat.mul_assoc (vl ys), Nat.mul_comm 256 (256 ^ _)]
    omega
theorem vl_snoc (xs : List Nat) (x : Nat) : vl (xs ++ [x]) = vl xs + x * 256 ^ xs.length := by rw [vl_append]; simp [vl]
theorem vl_lt {xs : List Nat} (h : Dg xs) : vl xs < 256 ^ xs.length := by
  induction xs with
  | nil => simp [vl]
  | cons x xs ih =>
    have h1 := ih (fun y hy => h y (by simp [hy]))
    have h2 := h x (by simp)
    simp only [vl, List.length_cons, Nat.pow_succ]
    omega
theorem vl_take_succ (xs : List Nat) (i : Nat) : vl (xs.take (i + 1)) = vl (xs.take i) + xs.getD i 0 * 256 ^ i := by
  by_cases hi : i < xs.length
  · rw [List.take_succ_eq_append_getElem hi, vl_snoc, List.length_take, Nat.min_eq_left (Nat.le_of_lt hi)]
    simp [List.getD, hi]
  · rw [List.take_of_length_le (by omega), List.take_of_length_le (by omega), List.getD_eq_getElem?_getD, List.getElem?_eq_none (by omega)]
    simp
theorem vl_take_all (xs : List Nat) (i : Nat) (h : xs.length ≤ i) : vl (xs.take i) = vl xs := by rw [List.take_of_length_le h]
theorem vl_take_lt {xs : List Nat} (h : Dg xs) (i : Nat) : vl (xs.take i) < 256 ^ i := by
  have h1 := vl_lt (h.take i)
  have h2 : 256 ^ (xs.take i).length ≤ 256 ^ i := Nat.pow_le_pow_right (by omega) (by rw [List.length_take]; omega)
  omega

/-- q digits of a number. -/
def dgs (x : Nat) : Nat → List Nat
  | 0 => []
  | q + 1 => dgs x q ++ [x / 256 ^ q % 256]
theorem dgs_length (x q : Nat) : (dgs x q).length = q := by induction q with
  | zero => rfl
  | succ q ih => simp [dgs, ih]
theorem dgs_dg (x q : Nat) : Dg (dgs x q) := by induction q with
  | zero => exact Dg.nil
  | succ q ih => exact ih.snoc (Nat.mod_lt _ (by omega))
theorem dgs_vl (x q : Nat) : vl (dgs x q) = x % 256 ^ q := by
  induction q with
  | zero => simp [dgs, vl, Nat.mod_one]
  | succ q ih =>
    rw [dgs, vl_snoc, ih, dgs_length, Nat.pow_succ, Nat.mod_mul, Nat.mul_comm]
theorem dgs_get (x q i : Nat) (h : i < q) : (dgs x q).getD i 0 = x / 256 ^ i % 256 := by
  induction q with
  | zero => omega
  | succ q ih =>
    rw [dgs, List.getD_eq_getElem?_getD]
    by_cases hi : i < q
    · rw [List.getElem?_append_left (by rw [dgs_length]; exact hi), ← List.getD_eq_getElem?_getD, ih hi]
    · obtain rfl : i = q := by omega
      rw [List.getElem?_append_right (by rw [dgs_length]; omega), dgs_length]
      simp
theorem dgs_succ (x q : Nat) : dgs x (q + 1) = dgs x q ++ [x / 256 ^ q % 256] := rfl
theorem dgs_zero (x : Nat) : dgs x 0 = [] := rfl
attribute [irreducible] dgs

/-! ### Words -/
def lim (x i : Nat) : Nat := x / 18446744073709551616 ^ i % 18446744073709551616
def wl (x : Nat) : List Nat := [lim x 0, lim x 1, lim x 2, lim x 3]
abbrev wc (x : Nat) : List Value := rowN .u64 (wl x)
abbrev W (x : Nat) : Value := .agg (wc x).toArray
theorem lim_lt (x i : Nat) : lim x i < 18446744073709551616 := Nat.mod_lt _ (by omega)
theorem wl_length (x : Nat) : (wl x).length = 4 := rfl
theorem wl_get (x i : Nat) (h : i < 4) : (wl x).getD i 0 = lim x i := by
  match i, h with
  | 0, _ => rfl
  | 1, _ => rfl
  | 2, _ => rfl
  | 3, _ => rfl
end Go.Fw
