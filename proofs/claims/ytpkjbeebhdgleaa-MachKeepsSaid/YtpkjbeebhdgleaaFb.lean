/-
  A frame known in part ('Has'), a heap known in part ('WS'), and the rules for code over them.
  No condition: plain lemmas over the kit's 'Code.wp'.
-/
import Derived.Test.YtpkjbeebhdgleaaFa
import Derived.Laws.CopyRow
import Derived.Laws.AppendOwn
import Derived.Laws.NewBlocks
import Derived.Below
import Derived.KernelRfl
set_option linter.unusedVariables false
namespace Go.Fw
open Go

/-! ### Lists with names -/
def lk {α : Type} : List (Nat × α) → Nat → Option α
  | [], _ => none
  | (k, v) :: r, n => match Nat.beq k n with | true => some v | false => lk r n

theorem lk_cons {α : Type} (k : Nat) (v : α) (r : List (Nat × α)) (n : Nat) : lk ((k, v) :: r) n = if k = n then some v else lk r n := by
  simp only [lk]
  by_cases h : k = n
  · subst h; simp
  · have : Nat.beq k n = false := by
      cases hb : Nat.beq k n with
      | true => exact absurd (Nat.eq_of_beq_eq_true hb) h
      | false => rfl
    simp [this, h]

theorem lk_append {α : Type} (l r : List (Nat × α)) (n : Nat) : lk (l ++ r) n = (lk l n).or (lk r n) := by
  induction l with
  | nil => simp [lk]
  | cons p l ih =>
    obtain ⟨k, v⟩ := p
    simp only [List.cons_append, lk_cons, ih]
    split <;> simp

def Sub {α : Type} (l' l : List (Nat × α)) : Prop := ∀ n v, lk l' n = some v → lk l n = some v
theorem Sub.nil {α : Type} (l : List (Nat × α)) : Sub [] l := fun n v h => by simp [lk] at h
theorem Sub.cons {α : Type} {l' l : List (Nat × α)} {k : Nat} {v : α} (h : lk l k = some v) (hs : Sub l' l) : Sub ((k, v) :: l') l := fun n u hn => by
  rw [lk_cons] at hn
  split at hn
  · rename_i hk; subst hk; simp at hn; subst hn; exact h
  · exact hs n u hn
theorem Sub.refl {α : Type} (l : List (Nat × α)) : Sub l l := fun _ _ h => h

/-! ### The frame -/
structure Has (N : Nat) (σ : List (Nat × Value)) (a : Act) : Prop where
  size : a.tmps.size = N
  defers : a.defers = []
  get : ∀ n v, lk σ n = some v → a.tmps[n]? = some v

def ev (σ : List (Nat × Value)) : Operand → Option Value
  | .tmp t => lk σ t
  | .const v => some v
  | .global g => some (.pointer (some ⟨g, 0, none⟩))
  | .func f => some (.func (.func f) #[] #[])

def evs (σ : List (Nat × Value)) : List Operand → Option (List Value)
  | [] => some []
  | x :: xs => match ev σ x with
    | some v => match evs σ xs with
      | some vs => some (v :: vs)
      | none => none
    | none => none

variable {N : Nat} {σ : List (Nat × Value)} {a : Act}

theorem Has.eval (h : Has N σ a) {x : Operand} {v : Value} (hx : ev σ x = some v) : a.eval x = v := by
  cases x with
  | tmp t =>
    have := h.get t v hx
    simp [Act.eval, this]
  | const u => simpa [ev, Act.eval] using hx
  | global g => simpa [ev, Act.eval] using hx
  | func f => simpa [ev, Act.eval] using hx

theorem Has.evals (h : Has N σ a) : ∀ {xs : List Operand} {vs : List Value}, evs σ xs = some vs → xs.map a.eval = vs
  | [], vs, hx => by simpa [evs] using hx
  | x :: xs, vs, hx => by
    simp only [evs] at hx
    cases h1 : ev σ x with
    | none => simp [h1] at hx
    | some v =>
      cases h2 : evs σ xs with
      | none => simp [h1, h2] at hx
      | some us =>
        simp only [h1, h2, Option.some.injEq] at hx
        subst hx
        simp [h.eval h1, h.evals h2]

theorem Has.put (h : Has N σ a) {d : Nat} (hd : d < N) (v : Value) : Has N ((d, v) :: σ) (a.put (some d) v) := by
  refine ⟨by simpa [Act.put] using h.size, h.defers, fun n u hn => ?_⟩
  rw [lk_cons] at hn
  have hlt : d < a.tmps.size := by rw [h.size]; exact hd
  simp only [Act.put]
  split at hn
  · rename_i hk; subst hk; simp at hn; subst hn; simp [hlt]
  · rename_i hk; rw [Array.getElem?_setIfInBounds_ne hk]; exact h.get n u hn

theorem Has.sub (h : Has N σ a) {σ' : List (Nat × Value)} (hs : Sub σ' σ) : Has N σ' a := ⟨h.size, h.defers, fun n v hn => h.get n v (hs n v hn)⟩

def putd (d : Option Nat) (v : Value) (σ : List (Nat × Value)) : List (Nat × Value) := match d with | some k => (k, v) :: σ | none => σ
def okd (N : Nat) (d : Option Nat) : Prop := match d with | some k => Nat.blt k N = true | none => True

theorem Has.putd (h : Has N σ a) {d : Option Nat} (hd : okd N d) (v : Value) : Has N (putd d v σ) (a.put d v) := by
  cases d with
  | none => exact h
  | some k => exact h.put (by have : Nat.blt k N = true := hd; simpa using this) v

/-! ### The heap -/
structure Ent where
  id : Option Nat
  t : TypeId
  cs : List Value

def Ent.At (w : World) (e : Ent) : Prop :=
  match e.id with
  | none => e.cs = []
  | some g => w.heap[g]? = some (.cells e.cs.toArray e.t (0, 0))

theorem Ent.At.lt {w : World} {e : Ent} (h : e.At w) {g : Nat} (hg : e.id = some g) : g < w.heap.size := by
  simp only [Ent.At, hg] at h
  exact (Array.getElem?_eq_some_iff.1 h).1

theorem Ent.At.same {w w' : World} {e : Ent} (h : e.At w) (hk : ∀ g, e.id = some g → w'.heap[g]? = w.heap[g]?) : e.At w' := by
  cases hid : e.id with
  | none => simp only [Ent.At, hid] at *; exact h
  | some g => simp only [Ent.At, hid] at *; rw [hk g rfl]; exact h

/-- The world w, begun in w0: of old blocks at most those of M have turned; the entries of l lie there, each in a block of its own. -/
structure WS (w0 : World) (M : List Nat) (l : List (Nat × Ent)) (w : World) : Prop where
  os : w.os = w0.os
  tape : w.tape = w0.tape
  output : w.output = w0.output
  size : w0.heap.size ≤ w.heap.size
  keep : ∀ i, i < w0.heap.size → i ∉ M → w.heap[i]? = w0.heap[i]?
  live : ∀ h e, lk l h = some e → e.At w
  apart : ∀ h h' e e' g, lk l h = some e → lk l h' = some e' → h ≠ h' → e.id = some g → e'.id ≠ some g
  own : ∀ h e g, lk l h = some e → e.id = some g → w0.heap.size ≤ g ∨ g ∈ M

variable {w0 w w' : World} {M : List Nat} {l : List (Nat × Ent)}

theorem WS.refl (w : World) (M : List Nat) : WS w M [] w :=
  ⟨rfl, rfl, rfl, Nat.le_refl _, fun _ _ _ => rfl, fun h e he => by simp [lk] at he, fun h h' e e' g he => by simp [lk] at he, fun h e g he => by simp [lk] at he⟩

theorem WS.below (h : WS w0 [] l w) : RowKit.Below w0.heap.size w0 w := ⟨h.os, h.tape, h.output, h.size, fun k hk => h.keep k hk (by simp)⟩

theorem WS.drew (h : WS w0 M l w) : WS w0 M l w.drew := ⟨h.os, h.tape, h.output, h.size, h.keep, h.live, h.apart, h.own⟩

theorem WS.sub (h : WS w0 M l w) {l' : List (Nat × Ent)} (hs : Sub l' l) : WS w0 M l' w :=
  ⟨h.os, h.tape, h.output, h.size, h.keep, fun k e he => h.live k e (hs _ _ he), fun k k' e e' g he he' => h.apart k k' e e' g (hs _ _ he) (hs _ _ he'), fun k e g he => h.own k e g (hs _ _ he)⟩

theorem heap_alloc_at (w : World) (o : Obj) (i : Nat) : (w.alloc o).heap[i]? = if i = w.heap.size then some o else w.heap[i]? := by
  unfold World.alloc; exact Array.getElem?_push

theorem WS.alloc (h : WS w0 M l w) (k : Nat) (cs : List Value) (t : TypeId) : WS w0 M ((k, ⟨some w.heap.size, t, cs⟩) :: l) (w.alloc (.cells cs.toArray t)) := by
  refine ⟨h.os, h.tape, h.output, by have := h.size; simp; omega, fun i hi hM => ?_, fun j e he => ?_, fun j j' e e' g he he' hne hg => ?_, fun j e g he hg => ?_⟩
  · rw [heap_alloc_at, if_neg (by have := h.size; omega)]; exact h.keep i hi hM
  · rw [lk_cons] at he
    split at he
    · simp at he; subst he; simp only [Ent.At, heap_alloc_at, if_true]
    · refine (h.live j e he).same fun g hg => ?_
      rw [heap_alloc_at, if_neg (by have := (h.live j e he).lt hg; omega)]
  · rw [lk_cons] at he he'
    split at he <;> split at he'
    · omega
    · simp at he; subst he; simp at hg; subst hg
      intro hg'; have := (h.live j' e' he').lt hg'; omega
    · simp at he'; subst he'
      intro hg'; simp at hg'; subst hg'; have := (h.live j e he).lt hg; omega
    · exact h.apart j j' e e' g he he' hne hg
  · rw [lk_cons] at he
    split at he
    · simp at he; subst he; simp at hg; subst hg; exact .inl h.size
    · exact h.own j e g he hg

theorem WS.set (h : WS w0 M l w) {k g : Nat} {e : Ent} (he : lk l k = some e) (hg : e.id = some g) (cs' : List Value) : WS w0 M ((k, ⟨e.id, e.t, cs'⟩) :: l) (w.setRow g cs'.toArray) := by
  have hl := h.live k e he
  have hlt := hl.lt hg
  have hat : w.heap[g]? = some (.cells e.cs.toArray e.t (0, 0)) := by simpa only [Ent.At, hg] using hl
  refine ⟨h.os, h.tape, h.output, by simpa using h.size, fun i hi hM => ?_, fun j e' he' => ?_, fun j j' e1 e2 g' h1 h2 hne hg' => ?_, fun j e' g' he' hg' => ?_⟩
  · rw [setRow_other _ _ _ _ (by
      rintro rfl
      rcases h.own k e _ he hg with h1 | h1
      · omega
      · exact hM h1)]
    exact h.keep i hi hM
  · rw [lk_cons] at he'
    split at he'
    · simp at he'; subst he'
      simp only [Ent.At, hg]
      exact setRow_heap _ _ _ _ _ _ hat
    · rename_i hne
      refine (h.live j e' he').same fun g' hg' => ?_
      exact setRow_other _ _ _ _ (by rintro rfl; exact h.apart k j e e' _ he he' hne hg hg')
  · rw [lk_cons] at h1 h2
    split at h1 <;> split at h2
    · omega
    · rename_i hk _; subst hk; simp at h1; subst h1; exact h.apart k j' e e2 g' he h2 hne hg'
    · rename_i _ hk; subst hk; simp at h2; subst h2; exact h.apart j k e1 e g' h1 he hne hg'
    · exact h.apart j j' e1 e2 g' h1 h2 hne hg'
  · rw [lk_cons] at he'
    split at he'
    · simp at he'; subst he'; exact h.own k e g' he hg'
    · exact h.own j e' g' he' hg'

/-- Behind a call that began in w. -/
theorem WS.join (h : WS w0 M l w) {M' : List Nat} {l2 : List (Nat × Ent)} (h2 : WS w M' l2 w')
    (hM : ∀ g ∈ M', ∃ k e e2, lk l k = some e ∧ e.id = some g ∧ lk l2 k = some e2) : WS w0 M (l2 ++ l) w' := by
  have key : ∀ j e g, lk l j = some e → lk l2 j = none → e.id = some g → g ∉ M' := by
    intro j e g he hn hg hgM
    obtain ⟨k, e1, e2, h1, hg1, hk2⟩ := hM g hgM
    by_cases hjk : j = k
    · subst hjk; rw [hn] at hk2; cases hk2
    · exact h.apart j k e e1 g he h1 hjk hg hg1
  refine ⟨h2.os.trans h.os, h2.tape.trans h.tape, h2.output.trans h.output, Nat.le_trans h.size h2.size, fun i hi hiM => ?_, fun j e he => ?_, fun j j' e e' g he he' hne hg => ?_, fun j e g he hg => ?_⟩
  · rw [h2.keep i (Nat.lt_of_lt_of_le hi h.size) (fun hin => by
      obtain ⟨k, e1, _, h1, hg1, _⟩ := hM i hin
      rcases h.own k e1 i h1 hg1 with h3 | h3
      · omega
      · exact hiM h3)]
    exact h.keep i hi hiM
  · rw [lk_append] at he
    cases hj : lk l2 j with
    | some e2 => rw [hj] at he; simp at he; subst he; exact h2.live j _ hj
    | none =>
      rw [hj] at he; simp at he
      exact (h.live j e he).same fun g hg => h2.keep g ((h.live j e he).lt hg) (key j e g he hj hg)
  · rw [lk_append] at he he'
    cases hj : lk l2 j with
    | some e2 =>
      rw [hj] at he; simp at he; subst he
      cases hj' : lk l2 j' with
      | some e3 => rw [hj'] at he'; simp at he'; subst he'; exact h2.apart j j' _ _ g hj hj' hne hg
      | none =>
        rw [hj'] at he'; simp at he'
        intro hg'
        rcases h2.own j _ g hj hg with h3 | h3
        · have := (h.live j' e' he').lt hg'; omega
        · exact key j' e' g he' hj' hg' h3
    | none =>
      rw [hj] at he; simp at he
      cases hj' : lk l2 j' with
      | some e3 =>
        rw [hj'] at he'; simp at he'; subst he'
        intro hg'
        rcases h2.own j' _ g hj' hg' with h3 | h3
        · have := (h.live j e he).lt hg; omega
        · exact key j e g he hj hg h3
      | none => rw [hj'] at he'; simp at he'; exact h.apart j j' e e' g he he' hne hg
  · rw [lk_append] at he
    cases hj : lk l2 j with
    | some e2 =>
      rw [hj] at he; simp at he; subst he
      rcases h2.own j _ g hj hg with h3 | h3
      · exact .inl (Nat.le_trans h.size h3)
      · obtain ⟨k, e1, _, h1, hg1, _⟩ := hM g h3
        exact h.own k e1 g h1 hg1
    | none => rw [hj] at he; simp at he; exact h.own j e g he hg

theorem WS.join0 (h : WS w0 M l w) (h2 : WS w [] [] w') : WS w0 M l w' := h.join h2 (by simp)

/-! ### Cells that lay there when the call began -/
/-- The cells cs lie from the address on. -/
def Cs (w : World) (a : Option Addr) (cs : List Value) : Prop := ∀ i x, cs[i]? = some x → ∃ ad, a = some ad ∧ w.cell? (ad.add i) = some x

theorem Addr.add_add (a : Addr) (i j : Nat) : (a.add i).add j = a.add (i + j) := by
  unfold Addr.add
  by_cases hi : i = 0 <;> by_cases hj : j = 0 <;> simp [hi, hj, Nat.add_assoc]

theorem Addr.add_block (a : Addr) (i : Nat) : (a.add i).block = a.block := by unfold Addr.add; split <;> rfl

theorem Cs.nil (w : World) (a : Option Addr) : Cs w a [] := fun i x h => by simp at h

/-- None of the cells lies in a block of M. -/
def Off (M : List Nat) (a : Option Addr) : Prop := ∀ ad, a = some ad → ad.block ∉ M

theorem Cs.ws {A : Option Addr} {cs : List Value} (h : Cs w0 A cs) (hw : WS w0 M l w) (ho : Off M A) : Cs w A cs := fun i x hx => by
  obtain ⟨ad, ha, hc⟩ := h i x hx
  refine ⟨ad, ha, ?_⟩
  have hlt := World.block_lt_of_cell? _ _ hc
  rw [Addr.add_block] at hlt
  rw [← hc]
  exact World.cell?_of_block (by rw [Addr.add_block]; exact hw.keep _ hlt (ho ad ha))

/-! ### Entries as cells -/
theorem WS.cell (h : WS w0 M l w) {k : Nat} {e : Ent} (he : lk l k = some e) {o : Nat} {v : Value} (ho : e.cs[o]? = some v) : w.cell? ⟨e.id.getD 0, o, none⟩ = some v := by
  have hl := h.live k e he
  cases hid : e.id with
  | none => simp only [Ent.At, hid] at hl; simp [hl] at ho
  | some g =>
    simp only [Ent.At, hid] at hl
    simp [World.cell?, hl, ho]

theorem WS.csOf (h : WS w0 M l w) {k : Nat} {e : Ent} (he : lk l k = some e) (o : Nat) (cs : List Value) (hc : ∀ i x, cs[i]? = some x → e.cs[o + i]? = some x) : Cs w (some ⟨e.id.getD 0, o, none⟩) cs := fun i x hx => by
  refine ⟨_, rfl, ?_⟩
  have : (⟨e.id.getD 0, o, none⟩ : Addr).add i = ⟨e.id.getD 0, o + i, none⟩ := by unfold Addr.add; split <;> simp_all
  rw [this]
  exact h.cell he (hc i x hx)

/-! ### Code -/
variable {P : Program} {Q : Exit → Act → World → Prop} {lS : List (Nat × Ent)}

def T (P : Program) (w0 : World) (M : List Nat) (N : Nat) (Q : Exit → Act → World → Prop) (c : Code) (σ : List (Nat × Value)) (l : List (Nat × Ent)) : Prop :=
  ∀ a w, Has N σ a → WS w0 M l w → c.wp P Q a w
/-- The exit e is met in the state. -/
def X (w0 : World) (M : List Nat) (N : Nat) (Q : Exit → Act → World → Prop) (e : Exit) (σ : List (Nat × Value)) (l : List (Nat × Ent)) : Prop :=
  ∀ a w, Has N σ a → WS w0 M l w → Q e a w
/-- A list of operations: lS are entries that no loud operation of the region turns. -/
def J (P : Program) (ops : Array Oper) (F : Act → World → Prop) (w0 : World) (M : List Nat) (N : Nat) (lS : List (Nat × Ent)) (L : List (Oper × K)) (σ : List (Nat × Value)) (l : List (Nat × Ent)) : Prop :=
  Sub lS l → ∀ a, Has N σ a → Seq P ops (WS w0 M lS) F L a (WS w0 M l)

theorem T.seq {x y : Code} (h : T P w0 M N (Exit.then (y.wp P Q) Q) x σ l) : T P w0 M N Q (.seq x y) σ l := fun a w ha hw => wp_seq (h a w ha hw)
theorem T.skip (h : X w0 M N Q .normal σ l) : T P w0 M N Q .skip σ l := fun a w ha hw => wp_skip (h a w ha hw)
theorem T.label {n : Nat} (h : X w0 M N Q .normal σ l) : T P w0 M N Q (.label n) σ l := fun a w ha hw => wp_label (h a w ha hw)
theorem T.exit {id : Nat} (h : X w0 M N Q (.exit id) σ l) : T P w0 M N Q (.exit id) σ l := fun a w ha hw => wp_exit (h a w ha hw)
theorem T.ret (h : X w0 M N Q .ret σ l) : T P w0 M N Q .ret σ l := fun a w ha hw => wp_ret (h a w ha hw)
theorem T.block {id : Nat} {c : Code} (h : T P w0 M N (Exit.inBlock id Q) c σ l) : T P w0 M N Q (.block id c) σ l := fun a w ha hw => wp_block (h a w ha hw)
theorem T.cond {c : Operand} {x y : Code} {b : Bool} (hc : ev σ c = some (.bool b)) (ht : b = true → T P w0 M N Q x σ l) (hf : b = false → T P w0 M N Q y σ l) : T P w0 M N Q (.cond c x y) σ l :=
  fun a w ha hw => wp_cond_split (ha.eval hc) (fun h => ht h a w ha hw) (fun h => hf h a w ha hw)
theorem T.cond_true {c : Operand} {x y : Code} (hc : ev σ c = some (.bool true)) (ht : T P w0 M N Q x σ l) : T P w0 M N Q (.cond c x y) σ l := fun a w ha hw => wp_cond_true (ha.eval hc) (ht a w ha hw)
theorem T.cond_false {c : Operand} {x y : Code} (hc : ev σ c = some (.bool false)) (hf : T P w0 M N Q y σ l) : T P w0 M N Q (.cond c x y) σ l := fun a w ha hw => wp_cond_false (ha.eval hc) (hf a w ha hw)
theorem T.cond_dec {c : Operand} {x y : Code} {p : Prop} [Decidable p] (hc : ev σ c = some (.bool (decide p))) (ht : p → T P w0 M N Q x σ l) (hf : ¬ p → T P w0 M N Q y σ l) : T P w0 M N Q (.cond c x y) σ l :=
  T.cond hc (fun h => ht (of_decide_eq_true h)) (fun h => hf (of_decide_eq_false h))
theorem T.sub {c : Code} {σ' : List (Nat × Value)} {l' : List (Nat × Ent)} (hσ : Sub σ' σ) (hl : Sub l' l) (h : T P w0 M N Q c σ' l') : T P w0 M N Q c σ l := fun a w ha hw => h a w (ha.sub hσ) (hw.sub hl)

theorem T.text {id : Nat} {ops : Array Oper} (ks : List K) (hn : ops.toList.length = ks.length) (h : J P ops (fun a w => Q .normal a w) w0 M N [] (ops.toList.zip ks) σ l) : T P w0 M N Q (.region id ops false) σ l :=
  fun a w ha hw => region_text (S := WS w0 M []) (WS w0 M l) hw (fun w hw => hw.sub (Sub.nil _)) (ops.toList.zip ks) (by rw [List.map_fst_zip (by omega)]) (h (Sub.nil _) a ha)

theorem T.draw {id : Nat} {ops : Array Oper} (lS : List (Nat × Ent)) (π : List (Nat × K)) (hm : P.follows .mixedOrders = true)
    (hB : (Region.noSelect ops && decide (π.length = ops.size) && chk .any ops (fun i => ((π.find? (fun p => p.1 == i)).map (·.2)).getD .l) (π.map (·.1)) (Array.replicate ops.size false)) = true)
    (h : J P ops (fun a w => Q .normal a w) w0 M N lS (π.map fun p => (ops.getD p.1 default, p.2)) σ l) (hp : (π.map (·.1)).map (fun i => (ops.getD i default, ((π.find? (fun p => p.1 == i)).map (·.2)).getD .l)) = π.map fun p => (ops.getD p.1 default, p.2)) (hlS : Sub lS l) :
    T P w0 M N Q (.region id ops true) σ l :=
  fun a w ha hw => region_draw (S := WS w0 M lS) (WS w0 M l) π hm hB hw.drew (fun w hw => hw.sub hlS) _ hp (h hlS a ha)

/-- An operation whose value is known, and which leaves the world alone. -/
theorem J.pure {ops : Array Oper} {F : Act → World → Prop} {o : Oper} {k : K} {L : List (Oper × K)} (hg : o.guard = none) (hd : okd N o.dst) (v : Value)
    (hr : ∀ a, Has N σ a → ∀ w, (execOp a.eval o).run P w = .ok (.value v) w) (h : J P ops F w0 M N lS L (putd o.dst v σ) l) : J P ops F w0 M N lS ((o, k) :: L) σ l := fun hlS a ha => by
  simp only [Seq, stepC]
  rw [if_pos (by simp [Region.wanted, hg])]
  cases k
  · exact ⟨v, hr a ha, h hlS _ (ha.putd hd v)⟩
  · exact ⟨v, fun w _ => (by unfold Oper.quietAt; rw [hr a ha w]; exact ⟨rfl, rfl⟩), h hlS _ (ha.putd hd v)⟩
  · exact fun w hw => (by rw [hr a ha w]; exact ⟨_, ⟨hw, fun w hw => hw.sub hlS⟩, h hlS _ (ha.putd hd v)⟩)
  · exact ⟨v, fun w _ => hr a ha w, h hlS _ (ha.putd hd v)⟩

def nog : K → Prop
  | .g | .s => False
  | _ => True
/-- Likewise, of the worlds of the class alone. -/
theorem J.quiet {ops : Array Oper} {F : Act → World → Prop} {o : Oper} {k : K} {L : List (Oper × K)} (hg : o.guard = none) (hk : nog k) (hd : okd N o.dst) (v : Value)
    (hr : ∀ a, Has N σ a → ∀ w, WS w0 M l w → (execOp a.eval o).run P w = .ok (.value v) w) (h : J P ops F w0 M N lS L (putd o.dst v σ) l) : J P ops F w0 M N lS ((o, k) :: L) σ l := fun hlS a ha => by
  simp only [Seq, stepC]
  rw [if_pos (by simp [Region.wanted, hg])]
  cases k
  · exact hk.elim
  · exact ⟨v, fun w hw => (by unfold Oper.quietAt; rw [hr a ha w hw]; exact ⟨rfl, rfl⟩), h hlS _ (ha.putd hd v)⟩
  · exact fun w hw => (by rw [hr a ha w hw]; exact ⟨_, ⟨hw, fun w hw => hw.sub hlS⟩, h hlS _ (ha.putd hd v)⟩)
  · exact hk.elim
/-- Likewise, out of what no operation of the region turns. -/
theorem J.stable {ops : Array Oper} {F : Act → World → Prop} {o : Oper} {L : List (Oper × K)} (hg : o.guard = none) (hd : okd N o.dst) (v : Value)
    (hr : ∀ a, Has N σ a → ∀ w, WS w0 M lS w → (execOp a.eval o).run P w = .ok (.value v) w) (h : J P ops F w0 M N lS L (putd o.dst v σ) l) : J P ops F w0 M N lS ((o, .s) :: L) σ l := fun hlS a ha => by
  simp only [Seq, stepC]
  rw [if_pos (by simp [Region.wanted, hg])]
  exact ⟨v, fun w hw => hr a ha w hw, h hlS _ (ha.putd hd v)⟩

/-- A loud one. -/
theorem J.loud {ops : Array Oper} {F : Act → World → Prop} {o : Oper} {L : List (Oper × K)} (hg : o.guard = none) (hd : okd N o.dst) {ι : Type} (φ : ι → Prop) (v : ι → Value) (lf : ι → List (Nat × Ent))
    (hS : ∀ i, φ i → Sub lS l → Sub lS (lf i))
    (hr : ∀ a, Has N σ a → ∀ w, WS w0 M l w → loudUpon P (fun u w' => ∃ i, φ i ∧ u = v i ∧ WS w0 M (lf i) w') ((execOp a.eval o).run P w))
    (h : ∀ i, φ i → J P ops F w0 M N lS L (putd o.dst (v i) σ) (lf i)) : J P ops F w0 M N lS ((o, .l) :: L) σ l := fun hlS a ha => by
  simp only [Seq, stepC]
  rw [if_pos (by simp [Region.wanted, hg])]
  exact fun w hw => loudUpon_mono (fun u w' ⟨i, hi, hu, hw'⟩ => ⟨_, ⟨hw', fun w hw => hw.sub (hS i hi hlS)⟩, by subst hu; exact h i hi (hS i hi hlS) _ (ha.putd hd _)⟩) (hr a ha w hw)

theorem Sub.fresh {α : Type} {s l : List (Nat × α)} (h : Sub s l) {k : Nat} {e : α} (hk : lk s k = none) : Sub s ((k, e) :: l) := fun n v hn => by
  rw [lk_cons]
  split
  · rename_i hkn; subst hkn; rw [hk] at hn; cases hn
  · exact h n v hn
theorem Sub.freshs {α : Type} {s l l2 : List (Nat × α)} (h : Sub s l) (hk : ∀ k e, lk l2 k = some e → lk s k = none) : Sub s (l2 ++ l) := fun n v hn => by
  rw [lk_append]
  cases h2 : lk l2 n with
  | none => simpa using h n v hn
  | some e => rw [hk n e h2] at hn; cases hn

theorem Has.wanted {ops : Array Oper} (ha : Has N σ a) {o : Oper} {j t : Nat} {b b' : Bool} (hg : o.guard = some (j, b)) (ht : (ops[j]?).bind (·.dst) = some t) (hb : lk σ t = some (.bool b')) :
    Region.wanted o (yielded ops a.tmps) = (b' == b) := by
  have h1 := ha.get t _ hb
  simp only [Region.wanted, hg, yielded, ht, Option.bind_some, h1]
  cases b <;> cases b' <;> rfl

/-- A guard that says yes: the operation as if it had none. -/
theorem J.yes {ops : Array Oper} {F : Act → World → Prop} {d : Option Tmp} {op : Op} {ty : TypeId} {p : String} {af : Array Edge} {j t : Nat} {b : Bool} {k : K} {L : List (Oper × K)}
    (ht : (ops[j]?).bind (·.dst) = some t) (hb : lk σ t = some (.bool b))
    (h : J P ops F w0 M N lS ((⟨d, op, ty, p, af, none⟩, k) :: L) σ l) : J P ops F w0 M N lS ((⟨d, op, ty, p, af, some (j, b)⟩, k) :: L) σ l := fun hlS a ha => by
  have h1 := h hlS a ha
  simp only [Seq, stepC] at h1 ⊢
  rw [if_pos (by rw [ha.wanted rfl ht hb]; simp)]
  rw [if_pos (by simp [Region.wanted])] at h1
  exact h1

/-- A guard that says no. -/
theorem J.no {ops : Array Oper} {F : Act → World → Prop} {d : Option Tmp} {op : Op} {ty : TypeId} {p : String} {af : Array Edge} {j t : Nat} {b b' : Bool} {k : K} {L : List (Oper × K)}
    (ht : (ops[j]?).bind (·.dst) = some t) (hb : lk σ t = some (.bool b')) (hne : (b' == b) = false) (hd : okd N d)
    (h : J P ops F w0 M N lS L (putd d undef σ) l) : J P ops F w0 M N lS ((⟨d, op, ty, p, af, some (j, b)⟩, k) :: L) σ l := fun hlS a ha => by
  simp only [Seq, stepC]
  rw [if_neg (by rw [ha.wanted rfl ht hb, hne]; simp)]
  exact h hlS _ (ha.putd hd undef)

theorem J.sub {ops : Array Oper} {F : Act → World → Prop} {L : List (Oper × K)} {σ' : List (Nat × Value)} (hσ : Sub σ' σ) (h : J P ops F w0 M N lS L σ' l) : J P ops F w0 M N lS L σ l := fun hlS a ha => h hlS a (ha.sub hσ)

/-- A truth that is not decided yet. -/
theorem J.split {ops : Array Oper} {F : Act → World → Prop} {L : List (Oper × K)} {p : Prop} [Decidable p] (t : Nat) (hb : lk σ t = some (.bool (decide p)))
    (ht : p → J P ops F w0 M N lS L ((t, .bool true) :: σ) l) (hf : ¬ p → J P ops F w0 M N lS L ((t, .bool false) :: σ) l) : J P ops F w0 M N lS L σ l := by
  have put : ∀ b, (decide p) = b → ∀ n v, lk ((t, Value.bool b) :: σ) n = some v → lk σ n = some v := fun b hb' n v hn => by
    rw [lk_cons] at hn
    split at hn
    · rename_i hk; subst hk; rw [hb, hb']; exact hn
    · exact hn
  by_cases hp : p
  · exact fun hlS a ha => ht hp hlS a (ha.sub (put true (by simp [hp])))
  · exact fun hlS a ha => hf hp hlS a (ha.sub (put false (by simp [hp])))

theorem J.nil {ops : Array Oper} {F : Act → World → Prop} (h : ∀ a w, Has N σ a → WS w0 M l w → F a w) : J P ops F w0 M N lS [] σ l := fun _ a ha w hw => h a w ha hw
/-- At a region's end: the exit 'normal'. -/
theorem J.end {ops : Array Oper} (h : X w0 M N Q .normal σ l) : J P ops (fun a w => Q .normal a w) w0 M N lS [] σ l := fun _ a ha w hw => h a w ha hw

/-! ### Exits -/
theorem X.then {y : Code} (h : T P w0 M N Q y σ l) : X w0 M N (Exit.then (y.wp P Q) Q) .normal σ l := h
theorem X.then_ret {K' : Act → World → Prop} (h : X w0 M N Q .ret σ l) : X w0 M N (Exit.then K' Q) .ret σ l := h
theorem X.then_exit {K' : Act → World → Prop} {id : Nat} (h : X w0 M N Q (.exit id) σ l) : X w0 M N (Exit.then K' Q) (.exit id) σ l := h
theorem X.inBlock {id : Nat} (h : X w0 M N Q .normal σ l) : X w0 M N (Exit.inBlock id Q) .normal σ l := h
theorem X.inBlock_ret {id : Nat} (h : X w0 M N Q .ret σ l) : X w0 M N (Exit.inBlock id Q) .ret σ l := h
theorem X.inBlock_eq {id : Nat} (h : X w0 M N Q .normal σ l) : X w0 M N (Exit.inBlock id Q) (.exit id) σ l := fun a w ha hw => by
  simp only [Exit.inBlock, if_true]; exact h a w ha hw
theorem X.inBlock_ne {id id' : Nat} (hne : Nat.beq id' id = false) (h : X w0 M N Q (.exit id') σ l) : X w0 M N (Exit.inBlock id Q) (.exit id') σ l := fun a w ha hw => by
  simp only [Exit.inBlock, if_neg (fun e => by subst e; simp at hne : ¬ id' = id)]; exact h a w ha hw

/-- A piece of state of which a loop, or a place where ways meet, speaks. -/
def At (w0 : World) (M : List Nat) (N : Nat) {ι : Type} (φ : ι → Prop) (σf : ι → List (Nat × Value)) (lf : ι → List (Nat × Ent)) (a : Act) (w : World) : Prop :=
  ∃ i, φ i ∧ Has N (σf i) a ∧ WS w0 M (lf i) w

theorem X.at {ι : Type} {φ : ι → Prop} {σf : ι → List (Nat × Value)} {lf : ι → List (Nat × Ent)} {Q' : Exit → Act → World → Prop} (i : ι) (hφ : φ i) (hσ : Sub (σf i) σ) (hl : Sub (lf i) l) :
    X w0 M N (Exit.then (At w0 M N φ σf lf) Q') .normal σ l := fun _ _ ha hw => ⟨i, hφ, ha.sub hσ, hw.sub hl⟩

theorem T.meet {x y : Code} {ι : Type} (φ : ι → Prop) (σf : ι → List (Nat × Value)) (lf : ι → List (Nat × Ent)) (h : T P w0 M N (Exit.then (At w0 M N φ σf lf) Q) x σ l)
    (hy : ∀ i, φ i → T P w0 M N Q y (σf i) (lf i)) : T P w0 M N Q (.seq x y) σ l := fun a w ha hw =>
  wp_seq (wp_mono (h a w ha hw) fun e a' w' q => by
    cases e with
    | normal => obtain ⟨i, hi, h1, h2⟩ := q; exact hy i hi _ _ h1 h2
    | _ => exact q)

/-- A loop: the state at its head, and a number that each round lowers. -/
theorem T.loop {c : Code} {ι : Type} (φ : ι → Prop) (σf : ι → List (Nat × Value)) (lf : ι → List (Nat × Ent)) (μ : ι → Nat) (i0 : ι) (h0 : φ i0) (hσ : Sub (σf i0) σ) (hl : Sub (lf i0) l)
    (round : ∀ i, φ i → T P w0 M N (Exit.then (At w0 M N (fun j => φ j ∧ μ j < μ i) σf lf) Q) c (σf i) (lf i)) : T P w0 M N Q (.loop c) σ l := by
  have key : ∀ n i, μ i = n → φ i → ∀ a w, Has N (σf i) a → WS w0 M (lf i) w → ∀ (b : Frame) (k : List Item) (cs : List Frame),
      ∃ e a' w', Q e a' w' ∧ Arrives P (lone (b.at a (.code c :: .inLoop c :: k)) cs w) b k cs e a' w' := by
    intro n
    induction n using Nat.strongRecOn with
    | _ n ih =>
      intro i hn hi a w ha hw b k cs
      obtain ⟨e, a₁, w₁, hq, harr⟩ := round i hi a w ha hw b (.inLoop c :: k) cs
      cases e with
      | normal =>
        obtain ⟨j, ⟨hj, hlt⟩, ha1, hw1⟩ := hq
        obtain ⟨e₂, a₂, w₂, hq₂, harr₂⟩ := ih (μ j) (hn ▸ hlt) j rfl hj a₁ w₁ ha1 hw1 b k cs
        exact ⟨e₂, a₂, w₂, hq₂, .of_steps (Steps.trans harr (.one step_inLoop)) harr₂⟩
      | exit id => exact ⟨_, a₁, w₁, hq, .pass (x := .inLoop c) rfl (fun _ _ => .inl (by simp)) harr⟩
      | goto l => exact ⟨_, a₁, w₁, hq, .pass (x := .inLoop c) rfl (fun _ _ => .inl (by simp)) harr⟩
      | ret => exact ⟨_, a₁, w₁, hq, .pass (x := .inLoop c) rfl (fun _ _ => .inl (by simp)) harr⟩
      | panic ch => exact ⟨_, a₁, w₁, hq, .pass (x := .inLoop c) rfl (fun _ _ => .inl (by simp)) harr⟩
      | outgrown => exact ⟨_, a₁, w₁, hq, .pass (x := .inLoop c) rfl (fun _ _ => .inl (by simp)) harr⟩
  intro a w ha hw b k cs
  obtain ⟨e, a', w', hq, harr⟩ := key _ i0 rfl h0 a w (ha.sub hσ) (hw.sub hl) b k cs
  exact ⟨e, a', w', hq, .of_steps (.one step_loop) harr⟩

theorem X.round {ι : Type} {φ : ι → Prop} {σf : ι → List (Nat × Value)} {lf : ι → List (Nat × Ent)} {μ : ι → Nat} {n : Nat} {Q' : Exit → Act → World → Prop} (i : ι) (hφ : φ i) (hμ : μ i < n) (hσ : Sub (σf i) σ) (hl : Sub (lf i) l) :
    X w0 M N (Exit.then (At w0 M N (fun j => φ j ∧ μ j < n) σf lf) Q') .normal σ l := fun _ _ ha hw => ⟨i, ⟨hφ, hμ⟩, ha.sub hσ, hw.sub hl⟩

/-! ### A function -/
def argσ : Nat → List Value → List (Nat × Value)
  | _, [] => []
  | n, v :: vs => (n, v) :: argσ (n + 1) vs

theorem lk_argσ : ∀ (vs : List Value) (k n : Nat) (v : Value), lk (argσ k vs) n = some v → k ≤ n ∧ vs[n - k]? = some v
  | [], k, n, v, h => by simp [argσ, lk] at h
  | u :: vs, k, n, v, h => by
    simp only [argσ, lk_cons] at h
    split at h
    · rename_i hk; subst hk; simpa using h
    · obtain ⟨h1, h2⟩ := lk_argσ vs (k + 1) n v h
      refine ⟨by omega, ?_⟩
      rw [show n - k = (n - (k + 1)) + 1 by omega]
      simpa using h2

theorem calls_of_T {f : FuncId} {fn : Func} {c : Code} {args : List Value} {R : Ending → World → Prop} (M : List Nat) (N : Nat) (l : List (Nat × Ent)) (hf : P.funcs[f]? = some fn) (hb : fn.body = some c) (hN : fn.ntmps = N)
    (hle : args.length ≤ N) (hw : WS w M l w) (h : T P w M N (bodyPost P fn R) c (argσ 0 args) l) : Calls P f args.toArray w R := by
  refine calls_of_wp hf hb (h _ _ ⟨by simp [hN]; omega, rfl, fun n v hn => ?_⟩ hw)
  obtain ⟨_, h2⟩ := lk_argσ args 0 n v hn
  have hlt : n < args.length := by
    have := (List.getElem?_eq_some_iff.1 h2).1
    simpa using this
  rw [Nat.sub_zero] at h2
  rw [Array.getElem?_append]
  simp only [List.size_toArray, hlt, if_true, List.getElem?_toArray]
  exact h2

/-- What a type's row says of its size. -/
def aggD (d : TypeDesc) : Bool := match d with
  | .struct _ | .array _ _ => true
  | _ => false
def AggT (P : Program) (t : TypeId) (n : Nat) : Prop := (∃ d, P.underlying t = some d ∧ aggD d = true) ∧ (P.info? t).map (·.size) = some n
def OneT (P : Program) (t : TypeId) : Prop := (∃ d, P.underlying t = some d ∧ aggD d = false) ∧ (P.info? t).map (·.size) = some 1

theorem run_isAgg {t : TypeId} {d : TypeDesc} (h : P.underlying t = some d) (w : World) : (isAgg t).run P w = .ok (aggD d) w := by
  simp only [isAgg, Sem.run_bind, run_underlying h, Result.andThen]
  cases d <;> rfl

theorem run_sizeOf {t : TypeId} {n : Nat} (h : (P.info? t).map (·.size) = some n) (w : World) : (sizeOf t).run P w = .ok n w := by
  cases hi : P.info? t with
  | none => simp [hi] at h
  | some i => simp [hi] at h; subst h; simp [sizeOf, typeInfo, hi]

theorem run_loadVar_agg {t : TypeId} {n : Nat} (ht : AggT P t n) (ad : Addr) (cs : List Value) (hn : cs.length = n) (hc : ∀ j v, cs[j]? = some v → w.cell? (ad.add j) = some v) : (loadVar t ad).run P w = .ok (.agg cs.toArray) w := by
  obtain ⟨⟨d, hd, hdd⟩, hs⟩ := ht
  subst hn
  simp [loadVar, run_isAgg hd, hdd, run_sizeOf hs, run_loadCells_list (P := P) w ad cs hc]

theorem run_loadVar_one {t : TypeId} (ht : OneT P t) (ad : Addr) (v : Value) (hc : w.cell? ad = some v) : (loadVar t ad).run P w = .ok v w := by
  obtain ⟨⟨d, hd, hdd⟩, hs⟩ := ht
  simp [loadVar, run_isAgg hd, hdd, hc]

/-- What a result's variable holds. -/
def RV (P : Program) (w0 : World) (M : List Nat) (σ : List (Nat × Value)) (l : List (Nat × Ent)) (r : ResultVar) (v : Value) : Prop :=
  match r with
  | .tmp t => lk σ t = some v
  | .cell a t => ∃ ad, lk σ a = some (.pointer (some ad)) ∧ ∀ w, WS w0 M l w → (loadVar t ad).run P w = .ok v w

theorem RV.tmp {t : Nat} {v : Value} (h : lk σ t = some v) : RV P w0 M σ l (.tmp t) v := h
theorem RV.agg {p t n : Nat} {v : Value} (k : Nat) {e : Ent} {o : Nat} (he : lk l k = some e) (hp : lk σ p = some (.pointer (some ⟨e.id.getD 0, o, none⟩))) (ht : AggT P t n)
    (cs : List Value) (hn : cs.length = n) (hc : (e.cs.drop o).take n = cs) (hv : v = .agg cs.toArray) : RV P w0 M σ l (.cell p t) v := by
  refine ⟨_, hp, fun w hw => ?_⟩
  rw [hv]
  refine run_loadVar_agg ht _ cs hn fun j v hj => ?_
  have : (⟨e.id.getD 0, o, none⟩ : Addr).add j = ⟨e.id.getD 0, o + j, none⟩ := by unfold Addr.add; split <;> simp_all
  rw [this]
  refine hw.cell he ?_
  rw [← hc] at hj
  have hlt : j < n := by
    rcases Nat.lt_or_ge j n with h | h
    · exact h
    · rw [List.getElem?_eq_none (by simp; omega)] at hj; cases hj
  rw [List.getElem?_take_of_lt hlt, List.getElem?_drop] at hj
  exact hj
theorem RV.one {p t : Nat} {v : Value} (k : Nat) {e : Ent} {o : Nat} (he : lk l k = some e) (hp : lk σ p = some (.pointer (some ⟨e.id.getD 0, o, none⟩))) (ht : OneT P t) (hv : e.cs[o]? = some v) : RV P w0 M σ l (.cell p t) v :=
  ⟨_, hp, fun _ hw => run_loadVar_one ht _ _ (hw.cell he hv)⟩

def rvSem (tmps : Array Value) (r : ResultVar) : Sem Value := match r with
  | .tmp t => Pure.pure (tmps.getD t undef)
  | .cell p t => do loadVar t (← asAddr (tmps.getD p undef))

theorem RV.run {r : ResultVar} {v : Value} (h : RV P w0 M σ l r v) (ha : Has N σ a) (hw : WS w0 M l w) : (rvSem a.tmps r).run P w = .ok v w := by
  cases r with
  | tmp t => have := ha.get t v h; simp [rvSem, this]
  | cell p t =>
    obtain ⟨ad, hp, hl⟩ := h
    have := ha.get p _ hp
    simp [rvSem, this, asAddr, hl w hw]

theorem results_rv (fn : Func) (tmps : Array Value) : results fn tmps = (do
    let vs ← fn.results.mapM (rvSem tmps)
    Pure.pure (if h : vs.size = 1 then vs[0] else .tuple vs)) := by
  unfold results
  congr 2

theorem X.ret0 {fn : Func} {R : Ending → World → Prop} (hr : fn.results = #[]) (h : ∀ w, WS w0 M l w → R (.returned (.tuple #[])) w) : X w0 M N (bodyPost P fn R) .ret σ l := fun a w ha hw =>
  ⟨ha.defers, _, by simp [results, hr], h w hw⟩
theorem X.end0 {fn : Func} {R : Ending → World → Prop} (hr : fn.results = #[]) (h : ∀ w, WS w0 M l w → R (.returned (.tuple #[])) w) : X w0 M N (bodyPost P fn R) .normal σ l := fun a w ha hw =>
  ⟨ha.defers, _, by simp [results, hr], h w hw⟩
theorem X.ret1 {fn : Func} {R : Ending → World → Prop} {r : ResultVar} {v : Value} (hr : fn.results = #[r]) (hv : RV P w0 M σ l r v) (h : ∀ w, WS w0 M l w → R (.returned v) w) : X w0 M N (bodyPost P fn R) .ret σ l := fun a w ha hw =>
  ⟨ha.defers, v, by simp [results_rv, hr, hv.run ha hw], h w hw⟩
theorem X.ret2 {fn : Func} {R : Ending → World → Prop} {r s : ResultVar} {v u : Value} (hr : fn.results = #[r, s]) (hv : RV P w0 M σ l r v) (hu : RV P w0 M σ l s u) (h : ∀ w, WS w0 M l w → R (.returned (.tuple #[v, u])) w) : X w0 M N (bodyPost P fn R) .ret σ l := fun a w ha hw =>
  ⟨ha.defers, _, by simp [results_rv, hr, hv.run ha hw, hu.run ha hw], h w hw⟩
end Go.Fw
