/-
  Stacks that were filled; the places of words that change and change back.
  No condition: plain lemmas.
-/
import Derived.Test.YtpkjbeebhdgleaaFj
set_option linter.unusedVariables false
namespace Go.Fw
open Go
section
variable {P : Program} {ops : Array Oper} {F : Act → World → Prop} {w0 w w' : World} {M : List Nat} {N : Nf} {L : List (Oper × K)} {σ : List (Nat × Value)} {l lS : List (Nat × Ent)} {d : Option Tmp} {ty : TypeId} {p : String} {af : Array Edge} {x y : Operand} {v z : Value} {t : TypeId} {kd : IntKind} {k : K} {Q : Exit → Act → World → Prop}
theorem X.asE {u : Exit} {e : Ent} (k : Nat) (e' : Ent) (h : lk l k = some e) (he : e = e') (hX : X w0 M N Q u σ ((k, e') :: l)) : X w0 M N Q u σ l := fun a w ha hw => hX a w ha (hw.asE h he)
theorem X.as {u : Exit} {v : Value} (t : Nat) (v' : Value) (h : lk σ t = some v) (e : v = v') (hX : X w0 M N Q u ((t, v') :: σ) l) : X w0 M N Q u σ l := fun a w ha hw => hX a w (ha.as h e) hw

def FilledPost (w : World) (tm tw : TypeId) (e : Ending) (w' : World) : Prop :=
  ∃ (g : Nat) (S zs : List Nat) (r : RowIx), (3 ≤ zs.length ∧ zs.length ≤ 1024 ∧ S.length = 1024 ∧ (∀ q, q < zs.length → S.getD q 0 = zs.getD q 0) ∧ r.Ok 4 zs.length ∧ w.heap.size ≤ g) ∧
    e = .returned (.tuple #[.pointer (some ⟨g, 0, none⟩), r.val zs.length]) ∧ WS w [] [(0, ⟨some g, tm, stkM S (zs.length : Nat)⟩), (1, r.ent tw (rowW zs))] w'
theorem J.callFilled (i j : Nat) (hij : i ≠ j) {tm tw : TypeId} (hi : lk lS i = none) (hj : lk lS j = none) {f : FuncId} (hf : FnOk P f) {xs : Array Operand} {tys : Array TypeId} {args : List Value} (hx : evs σ xs.toList = some args) (hd : okd N d)
    (spec : ∀ w, WS w0 M l w → Calls P f args.toArray w (FilledPost w tm tw))
    (hJ : ∀ (g : Nat) (S zs : List Nat) (r : RowIx), (3 ≤ zs.length ∧ zs.length ≤ 1024 ∧ S.length = 1024 ∧ (∀ q, q < zs.length → S.getD q 0 = zs.getD q 0) ∧ r.Ok 4 zs.length) →
      J P ops F w0 M N lS L (putd d (.tuple [.pointer (some ⟨g, 0, none⟩), r.val zs.length].toArray) σ) ((i, ⟨some g, tm, stkM S (zs.length : Nat)⟩) :: (j, r.ent tw (rowW zs)) :: l)) :
    J P ops F w0 M N lS ((⟨d, .call ⟨.value (.func f), xs, tys⟩, ty, p, af, none⟩, .l) :: L) σ l :=
  J.call hf hx hd (ι := (Nat × RowIx) × (List Nat × List Nat)) (fun q => 3 ≤ q.2.2.length ∧ q.2.2.length ≤ 1024 ∧ q.2.1.length = 1024 ∧ (∀ u, u < q.2.2.length → q.2.1.getD u 0 = q.2.2.getD u 0) ∧ q.1.2.Ok 4 q.2.2.length)
    (fun q => .tuple [.pointer (some ⟨q.1.1, 0, none⟩), q.1.2.val q.2.2.length].toArray) [] (fun q => [(i, ⟨some q.1.1, tm, stkM q.2.1 (q.2.2.length : Nat)⟩), (j, q.1.2.ent tw (rowW q.2.2))])
    (fun w hw => (spec w hw).mono fun e w' ⟨g, S, zs, r, ⟨h1, h2, h3, h4, h5, _⟩, he, hw'⟩ => ⟨((g, r), (S, zs)), ⟨h1, h2, h3, h4, h5⟩, he, hw'.pairOf 0 1 rfl rfl (by omega) i j hij⟩)
    (fun _ _ g hg => by simp at hg)
    (fun q r e he => by
      rw [lk_cons, lk_cons] at he
      split at he
      · rename_i hk; subst hk; exact hi
      · split at he
        · rename_i hk; subst hk; exact hj
        · simp [lk] at he) (fun q hq => hJ q.1.1 q.2.1 q.2.2 q.1.2 hq)
end

theorem neq_iff {p q : Prop} [Decidable p] [Decidable q] (h : p ↔ q) : (!(decide p == decide q)) = false := by
  by_cases hp : p
  · rw [decide_eq_true hp, decide_eq_true (h.1 hp)]; rfl
  · rw [decide_eq_false hp, decide_eq_false (fun hq => hp (h.2 hq))]; rfl
theorem neq_no {p : Prop} [Decidable p] (h : ¬ p) : (!(decide p == false)) = false := by rw [decide_eq_false h]; rfl
theorem neq_yes {p : Prop} [Decidable p] (h : p) : (!(decide p == true)) = false := by rw [decide_eq_true h]; rfl

/-! ### When a call answers OK -/
theorem atE_iff (n m : Int) : ((atE n m : Nat) : Int) = 0 ↔ (1 ≤ m ∧ m ≤ n) := by unfold atE; split; omega; split <;> omega
theorem swapE_iff (n m : Int) : ((swapE n m : Nat) : Int) = 0 ↔ (1 ≤ m ∧ m < n) := by unfold swapE; split; omega; split <;> omega
theorem exE_iff (n m q : Int) : ((exE n m q : Nat) : Int) = 0 ↔ (1 ≤ m ∧ 1 ≤ q ∧ m + q < n) := by unfold exE; split; omega; split <;> omega
theorem dupE_iff (n m : Int) : ((dupE n m : Nat) : Int) = 0 ↔ (1 ≤ m ∧ m ≤ n ∧ n < 1024) := by
  have h := atE_iff n m
  unfold dupE pushE
  split
  · split <;> omega
  · omega
theorem pushE_iff (n : Int) : ((pushE n : Nat) : Int) = 0 ↔ n < 1024 := by unfold pushE; split <;> omega
theorem popE_iff (n : Int) : ((popE n : Nat) : Int) = 0 ↔ 1 ≤ n := by unfold popE; split <;> omega
theorem swapS_no {S : List Nat} {n m : Int} (h : ¬ ((swapE n m : Nat) : Int) = 0) : swapS S n m = S := by unfold swapS; rw [if_neg (by omega)]
theorem swapS_yes {S : List Nat} {n m : Int} (h : ((swapE n m : Nat) : Int) = 0) : swapS S n m = swp S (ix (n - 1)) (ix (n - (m + 1))) := by unfold swapS; rw [if_pos (by omega)]
theorem exS_no {S : List Nat} {n m q : Int} (h : ¬ ((exE n m q : Nat) : Int) = 0) : exS S n m q = S := by unfold exS; rw [if_neg (by omega)]
theorem exS_yes {S : List Nat} {n m q : Int} (h : ((exE n m q : Nat) : Int) = 0) : exS S n m q = swp S (ix (n - (m + 1))) (ix (n - (m + q + 1))) := by unfold exS; rw [if_pos (by omega)]
theorem atX_yes {S : List Nat} {n m : Int} (h : ((atE n m : Nat) : Int) = 0) : atX S n m = S.getD (ix (n - m)) 0 := by unfold atX; rw [if_pos (by omega)]
theorem atX_no {S : List Nat} {n m : Int} (h : ¬ ((atE n m : Nat) : Int) = 0) : atX S n m = 0 := by unfold atX; rw [if_neg (by omega)]
theorem dup_no {S : List Nat} {n m : Int} (h : ¬ ((dupE n m : Nat) : Int) = 0) : dupS S n m = S ∧ dupN n m = n := by
  unfold dupE pushE at h
  unfold dupS dupN pushS pushN
  split at h
  · rename_i h1
    split at h
    · rename_i h2
      rw [if_pos h1, if_pos h1, if_pos h2, if_pos h2]; exact ⟨rfl, rfl⟩
    · exact absurd rfl h
  · rename_i h1
    rw [if_neg h1, if_neg h1]; exact ⟨rfl, rfl⟩
theorem dup_yes {S : List Nat} {n m : Int} (h : ((dupE n m : Nat) : Int) = 0) : dupS S n m = S.set (ix n) (S.getD (ix (n - m)) 0) ∧ dupN n m = n + 1 := by
  have hi := (dupE_iff n m).1 h
  have ha := (atE_iff n m).2 ⟨hi.1, hi.2.1⟩
  unfold dupS dupN pushS pushN
  have ha' : atE n m = 0 := by omega
  have hn : ¬ 1024 ≤ n := by omega
  rw [if_pos ha', if_pos ha', if_neg hn, if_neg hn, atX_yes ha]
  exact ⟨rfl, rfl⟩
theorem ix_nat (k : Nat) (h : k < 1024) : ix (k : Int) = k := by unfold ix; omega
theorem ix_of {z : Int} {k : Nat} (h : z = (k : Int)) (hk : k < 1024) : ix z = k := by subst h; exact ix_nat k hk

/-! ### Places that change -/
theorem swp_i {S : List Nat} {i j : Nat} (hi : i < S.length) (hj : j < S.length) : (swp S i j).getD i 0 = S.getD j 0 := by
  unfold swp
  rw [getD_set _ _ _ _ (by rw [List.length_set]; exact hj), getD_set _ _ _ _ hi]
  split
  · rename_i h; subst h; rfl
  · rw [if_pos rfl]
theorem swp_j {S : List Nat} {i j : Nat} (hj : j < S.length) : (swp S i j).getD j 0 = S.getD i 0 := by
  unfold swp
  rw [getD_set _ _ _ _ (by rw [List.length_set]; exact hj), if_pos rfl]
theorem swp_o {S : List Nat} {i j q : Nat} (hi : i < S.length) (hj : j < S.length) (h1 : i ≠ q) (h2 : j ≠ q) : (swp S i j).getD q 0 = S.getD q 0 := by
  unfold swp
  rw [getD_set _ _ _ _ (by rw [List.length_set]; exact hj), if_neg h2, getD_set _ _ _ _ hi, if_neg h1]
theorem ext_getD {xs ys : List Nat} (hl : xs.length = ys.length) (h : ∀ q, q < xs.length → xs.getD q 0 = ys.getD q 0) : xs = ys := by
  apply List.ext_getElem hl
  intro q h1 h2
  have := h q h1
  simpa [List.getD, h1, h2] using this
theorem swp_back {S : List Nat} {i j : Nat} (hi : i < S.length) (hj : j < S.length) : swp (swp S i j) j i = S := by
  have hl : (swp S i j).length = S.length := swp_length _ _ _
  refine ext_getD (by rw [swp_length, swp_length]) (fun q hq => ?_)
  by_cases h1 : i = q
  · subst h1; rw [swp_j (by rw [hl]; exact hi), swp_j hj]
  · by_cases h2 : j = q
    · subst h2; rw [swp_i (by rw [hl]; exact hj) (by rw [hl]; exact hi), swp_i hi hj]
    · rw [swp_o (by rw [hl]; exact hj) (by rw [hl]; exact hi) h2 h1, swp_o hi hj h1 h2]
theorem swp_again {S : List Nat} {i j : Nat} (hi : i < S.length) (hj : j < S.length) : swp (swp S i j) i j = S := by
  have hl : (swp S i j).length = S.length := swp_length _ _ _
  refine ext_getD (by rw [swp_length, swp_length]) (fun q hq => ?_)
  by_cases h2 : j = q
  · subst h2; rw [swp_j (by rw [hl]; exact hj), swp_i hi hj]
  · by_cases h1 : i = q
    · subst h1; rw [swp_i (by rw [hl]; exact hi) (by rw [hl]; exact hj), swp_j hj]
    · rw [swp_o (by rw [hl]; exact hi) (by rw [hl]; exact hj) h1 h2, swp_o hi hj h1 h2]
/-- What Words tells of a stack that was filled. -/
theorem words_full {S zs : List Nat} (hz : zs.length ≤ 1024) (h : ∀ q, q < zs.length → S.getD q 0 = zs.getD q 0) : wordsS S (zs.length : Nat) = zs := by
  refine (wordsS_of (by omega) (fun q hq => ?_)).symm
  rw [if_neg (by omega), ← h q hq, ix_of (z := 0 + (q : Nat)) (k := q) (by omega) (by omega)]
end Go.Fw
