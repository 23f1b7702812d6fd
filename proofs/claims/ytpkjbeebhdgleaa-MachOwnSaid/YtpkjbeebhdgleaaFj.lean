/-
  A stack and the document's beside it: what one step does to both.
  No condition: plain lemmas.
-/
import Derived.Test.YtpkjbeebhdgleaaFi
set_option linter.unusedVariables false
namespace Go.Fw
open Go
/-- A step's cells. -/
abbrev opc (k : Int) (b : Bool) (n m p : Int) (x y : Nat) (sl : Value) : List Value := [.int .i64 k, .bool b, .int .i64 n, .int .i64 m, .int .i64 p] ++ (wc x ++ (wc y ++ [sl]))
theorem opc_length (k : Int) (b : Bool) (n m p : Int) (x y : Nat) (sl : Value) : (opc k b n m p x y sl).length = 14 := rfl
def stepN (k m n : Int) : Int := if k = 1 then pushN n else if k = 2 then popN n else if k = 4 then dupN n m else if k = 7 ∨ k = 10 then n + 1 else if k = 8 then n - 1 else n
section
variable {P : Program} {ops : Array Oper} {F : Act → World → Prop} {w0 w w' : World} {M : List Nat} {N : Nf} {L : List (Oper × K)} {σ : List (Nat × Value)} {l lS : List (Nat × Ent)} {d : Option Tmp} {ty : TypeId} {p : String} {af : Array Edge} {x y : Operand} {v z : Value} {t : TypeId} {kd : IntKind} {k : K}

theorem WS.two {a b : Nat} {ta tb : TypeId} {ca cb : List Value} (h1 : Ent.At w ⟨some a, ta, ca⟩) (h2 : Ent.At w ⟨some b, tb, cb⟩) (hne : a ≠ b) : WS w [a, b] [(0, ⟨some a, ta, ca⟩), (1, ⟨some b, tb, cb⟩)] w := by
  have key : ∀ j e, lk [(0, (⟨some a, ta, ca⟩ : Ent)), (1, ⟨some b, tb, cb⟩)] j = some e → (j = 0 ∧ e = ⟨some a, ta, ca⟩) ∨ (j = 1 ∧ e = ⟨some b, tb, cb⟩) := by
    intro j e h
    rw [lk_cons, lk_cons] at h
    split at h
    · simp at h; exact .inl ⟨by omega, h.symm⟩
    · split at h
      · simp at h; exact .inr ⟨by omega, h.symm⟩
      · simp [lk] at h
  refine ⟨rfl, rfl, rfl, Nat.le_refl _, fun _ _ _ => rfl, fun j e he => ?_, fun j j' e e' g' h3 h4 hn hg => ?_, fun j e g' he hg => ?_⟩
  · rcases key j e he with ⟨_, rfl⟩ | ⟨_, rfl⟩
    · exact h1
    · exact h2
  · rcases key j e h3 with ⟨rfl, rfl⟩ | ⟨rfl, rfl⟩ <;> rcases key j' e' h4 with ⟨rfl, rfl⟩ | ⟨rfl, rfl⟩
    · exact absurd rfl hn
    · simp at hg ⊢; omega
    · simp at hg ⊢; omega
    · exact absurd rfl hn
  · rcases key j e he with ⟨_, rfl⟩ | ⟨_, rfl⟩
    · simp at hg; subst hg; exact .inr (by simp)
    · simp at hg; subst hg; exact .inr (by simp)

/-- Two entries alone, under other names. -/
theorem WS.pairOf (hw : WS w0 M l w) (i j : Nat) {e1 e2 : Ent} (h1 : lk l i = some e1) (h2 : lk l j = some e2) (hij : i ≠ j) (i' j' : Nat) (hij' : i' ≠ j') : WS w0 M [(i', e1), (j', e2)] w := by
  have key : ∀ q e, lk [(i', e1), (j', e2)] q = some e → (q = i' ∧ e = e1) ∨ (q = j' ∧ e = e2) := by
    intro q e h
    rw [lk_cons, lk_cons] at h
    split at h
    · simp at h; exact .inl ⟨by omega, h.symm⟩
    · split at h
      · simp at h; exact .inr ⟨by omega, h.symm⟩
      · simp [lk] at h
  refine ⟨hw.os, hw.tape, hw.output, hw.size, hw.keep, fun q e he => ?_, fun q q' e e' g' h3 h4 hn hg => ?_, fun q e g' he hg => ?_⟩
  · rcases key q e he with ⟨_, rfl⟩ | ⟨_, rfl⟩
    · exact hw.live i _ h1
    · exact hw.live j _ h2
  · rcases key q e h3 with ⟨rfl, rfl⟩ | ⟨rfl, rfl⟩ <;> rcases key q' e' h4 with ⟨rfl, rfl⟩ | ⟨rfl, rfl⟩
    · exact absurd rfl hn
    · exact hw.apart i j _ _ g' h1 h2 hij hg
    · exact hw.apart j i _ _ g' h2 h1 (Ne.symm hij) hg
    · exact absurd rfl hn
  · rcases key q e he with ⟨_, rfl⟩ | ⟨_, rfl⟩
    · exact hw.own i _ g' h1 hg
    · exact hw.own j _ g' h2 hg

/-- Behind a step both are as they must be. -/
def StkPost (w : World) (ta tb : TypeId) (a b : Nat) (n : Int) (e : Ending) (w' : World) : Prop :=
  ∃ S : List Nat, S.length = 1024 ∧ e = .returned (.bool true) ∧ WS w [a, b] [(0, ⟨some a, ta, stkM S n⟩), (1, ⟨some b, tb, stkR S n⟩)] w'
theorem StkPost.mk' {ta tb : TypeId} {a b : Nat} {n n' : Int} {e : Ending} (S : List Nat) (hS : S.length = 1024) (hn : n' = n) (he : e = .returned (.bool true)) (hw : WS w [a, b] l w') (h1 : lk l 0 = some ⟨some a, ta, stkM S n'⟩) (h2 : lk l 1 = some ⟨some b, tb, stkR S n'⟩) :
    StkPost w ta tb a b n e w' := by
  subst hn
  exact ⟨S, hS, he, hw.pairOf 0 1 h1 h2 (by omega) 0 1 (by omega)⟩
theorem J.callStk (i j : Nat) {ta tb : TypeId} {a b : Nat} {ca cb : List Value} {n : Int} (h1 : lk l i = some ⟨some a, ta, ca⟩) (h2 : lk l j = some ⟨some b, tb, cb⟩) (hij : i ≠ j) (hi : lk lS i = none) (hj : lk lS j = none) {f : FuncId} (hf : FnOk P f) {xs : Array Operand} {tys : Array TypeId} {args : List Value} (hx : evs σ xs.toList = some args) (hd : okd N d)
    (spec : ∀ w, WS w0 M l w → Calls P f args.toArray w (StkPost w ta tb a b n))
    (hJ : ∀ S, S.length = 1024 → J P ops F w0 M N lS L (putd d (.bool true) σ) ((i, ⟨some a, ta, stkM S n⟩) :: (j, ⟨some b, tb, stkR S n⟩) :: l)) :
    J P ops F w0 M N lS ((⟨d, .call ⟨.value (.func f), xs, tys⟩, ty, p, af, none⟩, .l) :: L) σ l :=
  J.call hf hx hd (ι := List Nat) (fun S => S.length = 1024) (fun _ => .bool true) [a, b] (fun S => [(i, ⟨some a, ta, stkM S n⟩), (j, ⟨some b, tb, stkR S n⟩)])
    (fun w hw => (spec w hw).mono fun e w' ⟨S, hS, he, hw'⟩ => ⟨S, hS, he, hw'.pairOf 0 1 rfl rfl (by omega) i j hij⟩)
    (fun S hS g hg => by
      simp at hg
      rcases hg with rfl | rfl
      · exact ⟨i, _, ⟨some g, ta, stkM S n⟩, h1, rfl, by rw [lk_cons, if_pos rfl]⟩
      · exact ⟨j, _, ⟨some g, tb, stkR S n⟩, h2, rfl, by rw [lk_cons, if_neg hij, lk_cons, if_pos rfl]⟩)
    (fun S q e he => by
      rw [lk_cons, lk_cons] at he
      split at he
      · rename_i hk; subst hk; exact hi
      · split at he
        · rename_i hk; subst hk; exact hj
        · simp [lk] at he) (fun S hS => hJ S hS)

/-- Both, new. -/
def PairPost (w : World) (ta tb : TypeId) (ca cb : List Value) (e : Ending) (w' : World) : Prop :=
  ∃ a b, w.heap.size ≤ a ∧ w.heap.size ≤ b ∧ e = .returned (.agg [.pointer (some ⟨a, 0, none⟩), .pointer (some ⟨b, 0, none⟩)].toArray) ∧ WS w [] [(0, ⟨some a, ta, ca⟩), (1, ⟨some b, tb, cb⟩)] w'
theorem J.callPair (i j : Nat) (hij : i ≠ j) {ta tb : TypeId} {ca cb : List Value} (hi : lk lS i = none) (hj : lk lS j = none) {f : FuncId} (hf : FnOk P f) {xs : Array Operand} {tys : Array TypeId} {args : List Value} (hx : evs σ xs.toList = some args) (hd : okd N d)
    (spec : ∀ w, WS w0 M l w → Calls P f args.toArray w (PairPost w ta tb ca cb))
    (hJ : ∀ a b, w0.heap.size ≤ a → w0.heap.size ≤ b → J P ops F w0 M N lS L (putd d (.agg [.pointer (some ⟨a, 0, none⟩), .pointer (some ⟨b, 0, none⟩)].toArray) σ) ((i, ⟨some a, ta, ca⟩) :: (j, ⟨some b, tb, cb⟩) :: l)) :
    J P ops F w0 M N lS ((⟨d, .call ⟨.value (.func f), xs, tys⟩, ty, p, af, none⟩, .l) :: L) σ l :=
  J.call hf hx hd (ι := Nat × Nat) (fun q => w0.heap.size ≤ q.1 ∧ w0.heap.size ≤ q.2) (fun q => .agg [.pointer (some ⟨q.1, 0, none⟩), .pointer (some ⟨q.2, 0, none⟩)].toArray) [] (fun q => [(i, ⟨some q.1, ta, ca⟩), (j, ⟨some q.2, tb, cb⟩)])
    (fun w hw => (spec w hw).mono fun e w' ⟨a, b, ha, hb, he, hw'⟩ => ⟨(a, b), ⟨Nat.le_trans hw.size ha, Nat.le_trans hw.size hb⟩, he, hw'.pairOf 0 1 rfl rfl (by omega) i j hij⟩)
    (fun _ _ g hg => by simp at hg)
    (fun q r e he => by
      rw [lk_cons, lk_cons] at he
      split at he
      · rename_i hk; subst hk; exact hi
      · split at he
        · rename_i hk; subst hk; exact hj
        · simp [lk] at he) (fun q hq => hJ q.1 q.2 hq.1 hq.2)
/-- Two entries lie in two blocks. -/
theorem WS.ne (hw : WS w0 M l w) (i j : Nat) {a b : Nat} {ta tb : TypeId} {ca cb : List Value} (h1 : lk l i = some ⟨some a, ta, ca⟩) (h2 : lk l j = some ⟨some b, tb, cb⟩) (hij : i ≠ j) : a ≠ b := fun e => hw.apart i j _ _ a h1 h2 hij rfl (by rw [e])
end

/-! ### 'awake' -/
def awk : List (Int × Int × Int × Nat) := [(1, 0, 0, 5), (7, 0, 0, 6), (5, 1, 0, 0), (4, 2, 0, 0), (10, 2, 0, 0), (11, 1, 3, 0), (12, 0, 0, 0), (2, 0, 0, 0), (8, 0, 0, 0)]
def awkc : List Value := awk.flatMap fun q => opc q.1 false q.2.1 q.2.2.1 0 q.2.2.2 0 (.slice none 0 0)
def awn (i : Nat) : Int := [(0 : Int), 1, 2, 2, 3, 4, 4, 4, 3, 2].getD i 0
def awq (i : Nat) : Int × Int × Int × Nat := awk.getD i (0, 0, 0, 0)
theorem awk_all : ∀ i : Fin 9, ((awq i.val).1 = 1 ∨ (awq i.val).1 = 2 ∨ (awq i.val).1 = 4 ∨ (awq i.val).1 = 5 ∨ (awq i.val).1 = 12 ∨ (awq i.val).1 = 7 ∨ (awq i.val).1 = 8 ∨ (awq i.val).1 = 10 ∨ (awq i.val).1 = 11) ∧
    (0 ≤ (awq i.val).2.1 ∧ (awq i.val).2.1 ≤ 4) ∧ (0 ≤ (awq i.val).2.2.1 ∧ (awq i.val).2.2.1 ≤ 4) ∧ stepN (awq i.val).1 (awq i.val).2.1 (awn i.val) = awn (i.val + 1) ∧ 0 ≤ awn i.val ∧ awn i.val ≤ 4 := by decide +kernel
theorem awk_seg (i : Nat) (h : i < 9) : (awkc.drop (i * 14)).take 14 = opc (awq i).1 false (awq i).2.1 (awq i).2.2.1 0 (awq i).2.2.2 0 (.slice none 0 0) := by
  match i, h with
  | 0, _ => rfl
  | 1, _ => rfl
  | 2, _ => rfl
  | 3, _ => rfl
  | 4, _ => rfl
  | 5, _ => rfl
  | 6, _ => rfl
  | 7, _ => rfl
  | 8, _ => rfl
end Go.Fw
