/-
  A frame known in part ('Has'), a heap known in part ('WS'), and the rules for code over them.
  No condition: plain lemmas over the kit's 'Code.wp'.
-/
import Derived.Test.YtpkjbeebhdgleaaFa
import Derived.Laws.CopyRow
import Derived.Laws.AppendOwn
import Derived.Laws.NewBlocks
import Derived.Below
import Derived.KernelRfl
set_option linter.unusedVariables false
namespace Go.Fw
open Go

/-! ### Lists with names -/
def lk {α : Type} : List (Nat × α) → Nat → Option α
  | [], _ => none
  | (k, v) :: r, n => match Nat.beq k n with | true => some v | false => lk r n

theorem lk_cons {α : Type} (k : Nat) (v : α) (r : List (Nat × α)) (n : Nat) : lk ((k, v) :: r) n = if k = n then some v else lk r n := by
  simp only [lk]
  by_cases h : k = n
  · subst h; simp
  · have : Nat.beq k n = false := by
      cases hb : Nat.beq k n with
      | true => exact absurd (Nat.eq_of_beq_eq_true hb) h
      | false => rfl
    simp [this, h]

theorem lk_append {α : Type} (l r : List (Nat × α)) (n : Nat) : lk (l ++ r) n = (lk l n).or (lk r n) := by
  induction l with
  | nil => simp [lk]
  | cons p l ih =>
    obtain ⟨k, v⟩ := p
    simp only [List.cons_append, lk_cons, ih]
    split <;> simp

def Sub {α : Type} (l' l : List (Nat × α)) : Prop := ∀ n v, lk l' n = some v → lk l n = some v
theorem Sub.nil {α : Type} (l : List (Nat × α)) : Sub [] l := fun n v h => by simp [lk] at h
theorem Sub.cons {α : Type} {l' l : List (Nat × α)} {k : Nat} {v : α} (h : lk l k = some v) (hs : Sub l' l) : Sub ((k, v) :: l') l := fun n u hn => by
  rw [lk_cons] at hn
  split at hn
  · rename_i hk; subst hk; simp at hn; subst hn; exact h
  · exact hs n u hn
theorem Sub.refl {α : Type} (l : List (Nat × α)) : Sub l l := fun _ _ h => h

/-! ### The frame -/
/-- How many slots; what is put off to the function's end. -/
structure Nf where
  n : Nat
  D : List Deferred
instance (k : Nat) : OfNat Nf k := ⟨⟨k, []⟩⟩
structure Has (N : Nf) (σ : List (Nat × Value)) (a : Act) : Prop where
  size : a.tmps.size = N.n
  defers : a.defers = N.D
  get : ∀ n v, lk σ n = some v → a.tmps[n]? = some v

def ev (σ : List (Nat × Value)) : Operand → Option Value
  | .tmp t => lk σ t
  | .const v => some v
  | .global g => some (.pointer (some ⟨g, 0, none⟩))
  | .func f => some (.func (.func f) #[] #[])

def evs (σ : List (Nat × Value)) : List Operand → Option (List Value)
  | [] => some []
  | x :: xs => match ev σ x with
    | some v => match evs σ xs with
      | some vs => some (v :: vs)
      | none => none
    | none => none

variable {N : Nf} {σ : List (Nat × Value)} {a : Act}

theorem Has.eval (h : Has N σ a) {x : Operand} {v : Value} (hx : ev σ x = some v) : a.eval x = v := by
  cases x with
  | tmp t =>
    have := h.get t v hx
    simp [Act.eval, this]
  | const u => simpa [ev, Act.eval] using hx
  | global g => simpa [ev, Act.eval] using hx
  | func f => simpa [ev, Act.eval] using hx

theorem Has.evals (h : Has N σ a) : ∀ {xs : List Operand} {vs : List Value}, evs σ xs = some vs → xs.map a.eval = vs
  | [], vs, hx => by simpa [evs] using hx
  | x :: xs, vs, hx => by
    simp only [evs] at hx
    cases h1 : ev σ x with
    | none => simp [h1] at hx
    | some v =>
      cases h2 : evs σ xs with
      | none => simp [h1, h2] at hx
      | some us =>
        simp only [h1, h2, Option.some.injEq] at hx
        subst hx
        simp [h.eval h1, h.evals h2]

theorem Has.put (h : Has N σ a) {d : Nat} (hd : d < N.n) (v : Value) : Has N ((d, v) :: σ) (a.put (some d) v) := by
  refine ⟨by simpa [Act.put] using h.size, h.defers, fun n u hn => ?_⟩
  rw [lk_cons] at hn
  have hlt : d < a.tmps.size := by rw [h.size]; exact hd
  simp only [Act.put]
  split at hn
  · rename_i hk; subst hk; simp at hn; subst hn; simp [hlt]
  · rename_i hk; rw [Array.getElem?_setIfInBounds_ne hk]; exact h.get n u hn

theorem Has.sub (h : Has N σ a) {σ' : List (Nat × Value)} (hs : Sub σ' σ) : Has N σ' a := ⟨h.size, h.defers, fun n v hn => h.get n v (hs n v hn)⟩

def putd (d : Option Nat) (v : Value) (σ : List (Nat × Value)) : List (Nat × Value) := match d with | some k => (k, v) :: σ | none => σ
def okd (N : Nf) (d : Option Nat) : Prop := match d with | some k => Nat.blt k N.n = true | none => True

theorem Has.putd (h : Has N σ a) {d : Option Nat} (hd : okd N d) (v : Value) : Has N (putd d v σ) (a.put d v) := by
  cases d with
  | none => exact h
  | some k => exact h.put (by have : Nat.blt k N.n = true := hd; simpa using this) v

/-! ### The heap -/
/-- What kind of thing an entry is: cells of a type, or a map in block g with its entries. -/
inductive Tk where
  | ty (t : TypeId)
  | mp (g : Nat) (C : List MapEntry → Prop)
instance (n : Nat) : OfNat Tk n := ⟨.ty n⟩
instance : Coe Nat Tk := ⟨.ty⟩
structure Ent where
  id : Option Nat
  t : Tk
  cs : List Value

/-- The map in block g has entries of which C holds; each has a number of its own. -/
def MapAt (w : World) (g : Nat) (C : List MapEntry → Prop) : Prop := ∃ es clk, w.heap[g]? = some (.map es clk) ∧ C es.toList ∧ (es.toList.map (·.born)).Nodup ∧ ∀ e ∈ es.toList, e.born < clk
def Ent.At (w : World) (e : Ent) : Prop :=
  match e.id with
  | none => e.cs = [] ∧ match e.t with
    | .ty _ => True
    | .mp g r => MapAt w g r
  | some g => ∃ t, e.t = .ty t ∧ w.heap[g]? = some (.cells e.cs.toArray t (0, 0))

theorem Ent.At.lt {w : World} {e : Ent} (h : e.At w) {g : Nat} (hg : e.id = some g) : g < w.heap.size := by
  simp only [Ent.At, hg] at h
  obtain ⟨t, _, h⟩ := h
  exact (Array.getElem?_eq_some_iff.1 h).1
theorem Ent.At.cells {w : World} {g : Nat} {t : TypeId} {cs : List Value} (h : Ent.At w ⟨some g, t, cs⟩) : w.heap[g]? = some (.cells cs.toArray t (0, 0)) := by
  obtain ⟨t', h1, h2⟩ := h
  cases h1; exact h2
theorem Ent.at_cells {w : World} {g : Nat} {t : TypeId} {cs : List Value} (h : w.heap[g]? = some (.cells cs.toArray t (0, 0))) : Ent.At w ⟨some g, t, cs⟩ := ⟨t, rfl, h⟩
theorem Ent.At.ne_map {w : World} {e : Ent} (h : e.At w) {g : Nat} (hg : e.id = some g) {es : Array MapEntry} {clk : Nat} (hm : w.heap[g]? = some (Obj.map es clk)) : False := by
  simp only [Ent.At, hg] at h
  obtain ⟨t, _, h⟩ := h
  rw [h] at hm; cases hm

theorem Ent.At.same {w w' : World} {e : Ent} (h : e.At w) (hk : ∀ g, e.id = some g → w'.heap[g]? = w.heap[g]?) (hm : ∀ (g : Nat) (es : Array MapEntry) (clk : Nat), w.heap[g]? = some (Obj.map es clk) → w'.heap[g]? = w.heap[g]?) : e.At w' := by
  cases hid : e.id with
  | none =>
    simp only [Ent.At, hid] at *
    refine ⟨h.1, ?_⟩
    have h2 := h.2
    cases ht : e.t with
    | ty t => trivial
    | mp g r =>
      simp only [ht] at h2
      obtain ⟨es, clk, h3, h4⟩ := h2
      exact ⟨es, clk, by rw [hm g es clk h3, h3], h4⟩
  | some g =>
    simp only [Ent.At, hid] at *
    rw [hk g rfl]; exact h

/-- The world w, begun in w0: of old blocks at most those of M have turned; the entries of l lie there, each in a block of its own. -/
structure WS (w0 : World) (M : List Nat) (l : List (Nat × Ent)) (w : World) : Prop where
  os : w.os = w0.os
  tape : w.tape = w0.tape
  output : w.output = w0.output
  size : w0.heap.size ≤ w.heap.size
  keep : ∀ i, i < w0.heap.size → i ∉ M → w.heap[i]? = w0.heap[i]?
  live : ∀ h e, lk l h = some e → e.At w
  apart : ∀ h h' e e' g, lk l h = some e → lk l h' = some e' → h ≠ h' → e.id = some g → e'.id ≠ some g
  own : ∀ h e g, lk l h = some e → e.id = some g → w0.heap.size ≤ g ∨ g ∈ M

variable {w0 w w' : World} {M : List Nat} {l : List (Nat × Ent)}

theorem WS.refl (w : World) (M : List Nat) : WS w M [] w :=
  ⟨rfl, rfl, rfl, Nat.le_refl _, fun _ _ _ => rfl, fun h e he => by simp [lk] at he, fun h h' e e' g he => by simp [lk] at he, fun h e g he => by simp [lk] at he⟩

theorem WS.below (h : WS w0 [] l w) : RowKit.Below w0.heap.size w0 w := ⟨h.os, h.tape, h.output, h.size, fun k hk => h.keep k hk (by simp)⟩

theorem WS.drew (h : WS w0 M l w) : WS w0 M l w.drew := ⟨h.os, h.tape, h.output, h.size, h.keep, h.live, h.apart, h.own⟩

theorem WS.sub (h : WS w0 M l w) {l' : List (Nat × Ent)} (hs : Sub l' l) : WS w0 M l' w :=
  ⟨h.os, h.tape, h.output, h.size, h.keep, fun k e he => h.live k e (hs _ _ he), fun k k' e e' g he he' => h.apart k k' e e' g (hs _ _ he) (hs _ _ he'), fun k e g he => h.own k e g (hs _ _ he)⟩

theorem heap_alloc_at (w : World) (o : Obj) (i : Nat) : (w.alloc o).heap[i]? = if i = w.heap.size then some o else w.heap[i]? := by
  unfold World.alloc; exact Array.getElem?_push

theorem WS.alloc (h : WS w0 M l w) (k : Nat) (cs : List Value) (t : TypeId) : WS w0 M ((k, ⟨some w.heap.size, t, cs⟩) :: l) (w.alloc (.cells cs.toArray t)) := by
  refine ⟨h.os, h.tape, h.output, by have := h.size; simp; omega, fun i hi hM => ?_, fun j e he => ?_, fun j j' e e' g he he' hne hg => ?_, fun j e g he hg => ?_⟩
  · rw [heap_alloc_at, if_neg (by have := h.size; omega)]; exact h.keep i hi hM
  · rw [lk_cons] at he
    split at he
    · simp at he; subst he; exact Ent.at_cells (by rw [heap_alloc_at, if_pos rfl])
    · refine (h.live j e he).same (fun g hg => ?_) (fun g es clk hm => ?_)
      · rw [heap_alloc_at, if_neg (by have := (h.live j e he).lt hg; omega)]
      · rw [heap_alloc_at, if_neg (by have := (Array.getElem?_eq_some_iff.1 hm).1; omega)]
  · rw [lk_cons] at he he'
    split at he <;> split at he'
    · omega
    · simp at he; subst he; simp at hg; subst hg
      intro hg'; have := (h.live j' e' he').lt hg'; omega
    · simp at he'; subst he'
      intro hg'; simp at hg'; subst hg'; have := (h.live j e he).lt hg; omega
    · exact h.apart j j' e e' g he he' hne hg
  · rw [lk_cons] at he
    split at he
    · simp at he; subst he; simp at hg; subst hg; exact .inl h.size
    · exact h.own j e g he hg

theorem WS.set (h : WS w0 M l w) {k g : Nat} {e : Ent} (he : lk l k = some e) (hg : e.id = some g) (cs' : List Value) : WS w0 M ((k, ⟨e.id, e.t, cs'⟩) :: l) (w.setRow g cs'.toArray) := by
  have hl := h.live k e he
  have hlt := hl.lt hg
  obtain ⟨t, het, hat⟩ : ∃ t, e.t = .ty t ∧ w.heap[g]? = some (.cells e.cs.toArray t (0, 0)) := by simpa only [Ent.At, hg] using hl
  refine ⟨h.os, h.tape, h.output, by simpa using h.size, fun i hi hM => ?_, fun j e' he' => ?_, fun j j' e1 e2 g' h1 h2 hne hg' => ?_, fun j e' g' he' hg' => ?_⟩
  · rw [setRow_other _ _ _ _ (by
      rintro rfl
      rcases h.own k e _ he hg with h1 | h1
      · omega
      · exact hM h1)]
    exact h.keep i hi hM
  · rw [lk_cons] at he'
    split at he'
    · simp at he'; subst he'
      simp only [Ent.At, hg]
      exact ⟨t, het, setRow_heap _ _ _ _ _ _ hat⟩
    · rename_i hne
      refine (h.live j e' he').same (fun g' hg' => ?_) (fun g' es clk hm => ?_)
      · exact setRow_other _ _ _ _ (by rintro rfl; exact h.apart k j e e' _ he he' hne hg hg')
      · exact setRow_other _ _ _ _ (by rintro rfl; rw [hat] at hm; cases hm)
  · rw [lk_cons] at h1 h2
    split at h1 <;> split at h2
    · omega
    · rename_i hk _; subst hk; simp at h1; subst h1; exact h.apart k j' e e2 g' he h2 hne hg'
    · rename_i _ hk; subst hk; simp at h2; subst h2; exact h.apart j k e1 e g' h1 he hne hg'
    · exact h.apart j j' e1 e2 g' h1 h2 hne hg'
  · rw [lk_cons] at he'
    split at he'
    · simp at he'; subst he'; exact h.own k e g' he hg'
    · exact h.own j e' g' he' hg'

/-- Behind a call that began in w. -/
theorem WS.join (h : WS w0 M l w) {M' : List Nat} {l2 : List (Nat × Ent)} (h2 : WS w M' l2 w')
    (hM : ∀ g ∈ M', ∃ k e e2, lk l k = some e ∧ e.id = some g ∧ lk l2 k = some e2) : WS w0 M (l2 ++ l) w' := by
  have key : ∀ j e g, lk l j = some e → lk l2 j = none → e.id = some g → g ∉ M' := by
    intro j e g he hn hg hgM
    obtain ⟨k, e1, e2, h1, hg1, hk2⟩ := hM g hgM
    by_cases hjk : j = k
    · subst hjk; rw [hn] at hk2; cases hk2
    · exact h.apart j k e e1 g he h1 hjk hg hg1
  refine ⟨h2.os.trans h.os, h2.tape.trans h.tape, h2.output.trans h.output, Nat.le_trans h.size h2.size, fun i hi hiM => ?_, fun j e he => ?_, fun j j' e e' g he he' hne hg => ?_, fun j e g he hg => ?_⟩
  · rw [h2.keep i (Nat.lt_of_lt_of_le hi h.size) (fun hin => by
      obtain ⟨k, e1, _, h1, hg1, _⟩ := hM i hin
      rcases h.own k e1 i h1 hg1 with h3 | h3
      · omega
      · exact hiM h3)]
    exact h.keep i hi hiM
  · rw [lk_append] at he
    cases hj : lk l2 j with
    | some e2 => rw [hj] at he; simp at he; subst he; exact h2.live j _ hj
    | none =>
      rw [hj] at he; simp at he
      exact (h.live j e he).same (fun g hg => h2.keep g ((h.live j e he).lt hg) (key j e g he hj hg)) (fun g es clk hm => h2.keep _ (Array.getElem?_eq_some_iff.1 hm).1 fun q => by
        obtain ⟨k, e1, _, h1, hg1, _⟩ := hM _ q
        exact (h.live k e1 h1).ne_map hg1 hm)
  · rw [lk_append] at he he'
    cases hj : lk l2 j with
    | some e2 =>
      rw [hj] at he; simp at he; subst he
      cases hj' : lk l2 j' with
      | some e3 => rw [hj'] at he'; simp at he'; subst he'; exact h2.apart j j' _ _ g hj hj' hne hg
      | none =>
        rw [hj'] at he'; simp at he'
        intro hg'
        rcases h2.own j _ g hj hg with h3 | h3
        · have := (h.live j' e' he').lt hg'; omega
        · exact key j' e' g he' hj' hg' h3
    | none =>
      rw [hj] at he; simp at he
      cases hj' : lk l2 j' with
      | some e3 =>
        rw [hj'] at he'; simp at he'; subst he'
        intro hg'
        rcases h2.own j' _ g hj' hg' with h3 | h3
        · have := (h.live j e he).lt hg; omega
        · exact key j e g he hj hg h3
      | none => rw [hj'] at he'; simp at he'; exact h.apart j j' e e' g he he' hne hg
  · rw [lk_append] at he
    cases hj : lk l2 j with
    | some e2 =>
      rw [hj] at he; simp at he; subst he
      rcases h2.own j _ g hj hg with h3 | h3
      · exact .inl (Nat.le_trans h.size h3)
      · obtain ⟨k, e1, _, h1, hg1, _⟩ := hM g h3
        exact h.own k e1 g h1 hg1
    | none => rw [hj] at he; simp at he; exact h.own j e g he hg

theorem WS.join0 (h : WS w0 M l w) (h2 : WS w [] [] w') : WS w0 M l w' := h.join h2 (by simp)

/-! ### Cells that lay there when the call began -/
/-- The cells cs lie from the address on. -/
def Cs (w : World) (a : Option Addr) (cs : List Value) : Prop := ∀ i x, cs[i]? = some x → ∃ ad, a = some ad ∧ w.cell? (ad.add i) = some x

theorem Addr.add_add (a : Addr) (i j : Nat) : (a.add i).add j = a.add (i + j) := by
  unfold Addr.add
  by_cases hi : i = 0 <;> by_cases hj : j = 0 <;> simp [hi, hj, Nat.add_assoc]

theorem Addr.add_block (a : Addr) (i : Nat) : (a.add i).block = a.block := by unfold Addr.add; split <;> rfl

theorem Cs.nil (w : World) (a : Option Addr) : Cs w a [] := fun i x h => by simp at h

/-- None of the cells lies in a block of M. -/
def Off (M : List Nat) (a : Option Addr) : Prop := ∀ ad, a = some ad → ad.block ∉ M

theorem Cs.ws {A : Option Addr} {cs : List Value} (h : Cs w0 A cs) (hw : WS w0 M l w) (ho : Off M A) : Cs w A cs := fun i x hx => by
  obtain ⟨ad, ha, hc⟩ := h i x hx
  refine ⟨ad, ha, ?_⟩
  have hlt := World.block_lt_of_cell? _ _ hc
  rw [Addr.add_block] at hlt
  rw [← hc]
  exact World.cell?_of_block (by rw [Addr.add_block]; exact hw.keep _ hlt (ho ad ha))

/-! ### Entries as cells -/
theorem WS.cell (h : WS w0 M l w) {k : Nat} {e : Ent} (he : lk l k = some e) {o : Nat} {v : Value} (ho : e.cs[o]? = some v) : w.cell? ⟨e.id.getD 0, o, none⟩ = some v := by
  have hl := h.live k e he
  cases hid : e.id with
  | none => simp only [Ent.At, hid] at hl; simp [hl.1] at ho
  | some g =>
    simp only [Ent.At, hid] at hl
    obtain ⟨t, _, hl⟩ := hl
    simp [World.cell?, hl, ho]

theorem WS.csOf (h : WS w0 M l w) {k : Nat} {e : Ent} (he : lk l k = some e) (o : Nat) (cs : List Value) (hc : ∀ i x, cs[i]? = some x → e.cs[o + i]? = some x) : Cs w (some ⟨e.id.getD 0, o, none⟩) cs := fun i x hx => by
  refine ⟨_, rfl, ?_⟩
  have : (⟨e.id.getD 0, o, none⟩ : Addr).add i = ⟨e.id.getD 0, o + i, none⟩ := by unfold Addr.add; split <;> simp_all
  rw [this]
  exact h.cell he (hc i x hx)

/-! ### Operations in a row, and regions that draw their order -/
section
variable {P : Program} {ops : Array Oper} {lS : List (Nat × Ent)} {F : Act → World → Prop}

/-- What one operation, of kind k, makes of the entries l: 'm' is what follows. -/
def tr (P : Program) (w0 : World) (M : List Nat) (lS : List (Nat × Ent)) (k : K) (b : Bool) (r : World → Result Next) (l : List (Nat × Ent)) (m : Value → List (Nat × Ent) → Prop) : Prop :=
  if b then match k with
    | .g | .s => ∃ v, (∀ w, WS w0 M lS w → r w = .ok (.value v) w) ∧ m v l
    | .c => ∃ v, (∀ w, WS w0 M lS w → Oper.quietUpon P (fun w' => WS w [] [] w') w v (r w)) ∧ m v l
    | .q => ∃ v, (∀ w, WS w0 M l w → Oper.quietUpon P (fun w' => WS w [] [] w') w v (r w)) ∧ m v l
    | .a h => (∃ v, (∀ w, WS w0 M lS w → r w = .ok (.value v) w) ∧ m v l) ∨
        ∃ t cs, lk lS h = none ∧ lk l h = none ∧ (∀ w, WS w0 M lS w → r w = .ok (.value (.pointer (some ⟨w.heap.size, 0, none⟩))) (w.alloc (.cells cs t))) ∧
          ∀ g, w0.heap.size ≤ g → m (.pointer (some ⟨g, 0, none⟩)) ((h, ⟨some g, t, cs.toList⟩) :: l)
    | .l => ∀ w, WS w0 M l w → loudUpon P (fun v w' => ∃ l', WS w0 M l' w' ∧ Sub lS l' ∧ m v l') (r w)
  else m undef l

theorem tr_mono {k : K} {b : Bool} {r : World → Result Next} {m m' : Value → List (Nat × Ent) → Prop} (hm : ∀ v l, m v l → m' v l) (h : tr P w0 M lS k b r l m) : tr P w0 M lS k b r l m' := by
  unfold tr at *
  split at h
  · rename_i hb
    rw [if_pos hb]
    cases k with
    | g => obtain ⟨v, h1, h2⟩ := h; exact ⟨v, h1, hm _ _ h2⟩
    | s => obtain ⟨v, h1, h2⟩ := h; exact ⟨v, h1, hm _ _ h2⟩
    | c => obtain ⟨v, h1, h2⟩ := h; exact ⟨v, h1, hm _ _ h2⟩
    | q => obtain ⟨v, h1, h2⟩ := h; exact ⟨v, h1, hm _ _ h2⟩
    | a j =>
      rcases h with ⟨v, h1, h2⟩ | ⟨t, cs, h1, h2, h3, h4⟩
      · exact .inl ⟨v, h1, hm _ _ h2⟩
      · exact .inr ⟨t, cs, h1, h2, h3, fun g hg => hm _ _ (h4 g hg)⟩
    | l => exact fun w hw => loudUpon_mono (fun v w' ⟨l', h1, h2, h3⟩ => ⟨l', h1, h2, hm _ _ h3⟩) (h w hw)
  · rename_i hb
    rw [if_neg hb]
    exact hm _ _ h

def EqL (l l' : List (Nat × Ent)) : Prop := ∀ n, lk l n = lk l' n
theorem EqL.sub {l l' : List (Nat × Ent)} (h : EqL l l') : Sub l l' := fun n v hn => by rw [← h n]; exact hn
theorem EqL.symm {l l' : List (Nat × Ent)} (h : EqL l l') : EqL l' l := fun n => (h n).symm
theorem EqL.cons {l l' : List (Nat × Ent)} (h : EqL l l') (p : Nat × Ent) : EqL (p :: l) (p :: l') := fun n => by
  obtain ⟨k, e⟩ := p
  rw [lk_cons, lk_cons, h n]

theorem tr_eq {k : K} {b : Bool} {r : World → Result Next} {l l' : List (Nat × Ent)} (he : EqL l l') {m : Value → List (Nat × Ent) → Prop} (hm : ∀ v l l', EqL l l' → m v l → m v l') (h : tr P w0 M lS k b r l m) : tr P w0 M lS k b r l' m := by
  unfold tr at *
  split at h
  · rename_i hb
    rw [if_pos hb]
    cases k with
    | g => obtain ⟨v, h1, h2⟩ := h; exact ⟨v, h1, hm _ _ _ he h2⟩
    | s => obtain ⟨v, h1, h2⟩ := h; exact ⟨v, h1, hm _ _ _ he h2⟩
    | c => obtain ⟨v, h1, h2⟩ := h; exact ⟨v, h1, hm _ _ _ he h2⟩
    | q => obtain ⟨v, h1, h2⟩ := h; exact ⟨v, fun w hw => h1 w (hw.sub he.sub), hm _ _ _ he h2⟩
    | a j =>
      rcases h with ⟨v, h1, h2⟩ | ⟨t, cs, h1, h2, h3, h4⟩
      · exact .inl ⟨v, h1, hm _ _ _ he h2⟩
      · exact .inr ⟨t, cs, h1, by rw [← he j]; exact h2, h3, fun g hg => hm _ _ _ (he.cons _) (h4 g hg)⟩
    | l => exact fun w hw => h w (hw.sub he.sub)
  · rename_i hb
    rw [if_neg hb]
    exact hm _ _ _ he h

theorem Sub.fresh {α : Type} {s l : List (Nat × α)} (h : Sub s l) {k : Nat} {e : α} (hk : lk s k = none) : Sub s ((k, e) :: l) := fun n v hn => by
  rw [lk_cons]
  split
  · rename_i hkn; subst hkn; rw [hk] at hn; cases hn
  · exact h n v hn
theorem Sub.freshs {α : Type} {s l l2 : List (Nat × α)} (h : Sub s l) (hk : ∀ k e, lk l2 k = some e → lk s k = none) : Sub s (l2 ++ l) := fun n v hn => by
  rw [lk_append]
  cases h2 : lk l2 n with
  | none => simpa using h n v hn
  | some e => rw [hk n e h2] at hn; cases hn

/-- Of two operations side by side, the second may come up ahead of the first. -/
theorem tr_swap (hE : ∃ w, WS w0 M lS w) {ki kj : K} (hk : okPair kj ki = true) {bi bj : Bool} {ri rj : World → Result Next} {m : Value → Value → List (Nat × Ent) → Prop} (hm : ∀ v u l l', EqL l l' → m v u l → m v u l')
    (h : tr P w0 M lS kj bj rj l fun v l1 => tr P w0 M lS ki bi ri l1 (m v)) : tr P w0 M lS ki bi ri l fun u l1 => tr P w0 M lS kj bj rj l1 fun v => m v u := by
  obtain ⟨we, hwe⟩ := hE
  cases bj with
  | false => exact tr_mono (fun v l h => h) h
  | true =>
  cases bi with
  | false => exact h
  | true =>
  have pure : ∀ v, tr P w0 M lS ki true ri l (m v) → (∀ u l1, m v u l1 → tr P w0 M lS kj true rj l1 fun v => m v u) → tr P w0 M lS ki true ri l fun u l1 => tr P w0 M lS kj true rj l1 fun v => m v u := fun v h1 h2 => tr_mono (fun u l1 h => h2 u l1 h) h1
  cases kj with
  | g => obtain ⟨v, h1, h2⟩ := h; exact pure v h2 fun u l1 h => ⟨v, h1, h⟩
  | s => obtain ⟨v, h1, h2⟩ := h; exact pure v h2 fun u l1 h => ⟨v, h1, h⟩
  | c => obtain ⟨v, h1, h2⟩ := h; exact pure v h2 fun u l1 h => ⟨v, h1, h⟩
  | l => simp [okPair] at hk
  | q =>
    obtain ⟨v, h1, h2⟩ := h
    cases ki with
    | l => simp [okPair] at hk
    | g => obtain ⟨u, h3, h4⟩ := h2; exact ⟨u, h3, v, h1, h4⟩
    | s => obtain ⟨u, h3, h4⟩ := h2; exact ⟨u, h3, v, h1, h4⟩
    | c => obtain ⟨u, h3, h4⟩ := h2; exact ⟨u, h3, v, h1, h4⟩
    | q => obtain ⟨u, h3, h4⟩ := h2; exact ⟨u, h3, v, h1, h4⟩
    | a j =>
      rcases h2 with ⟨u, h3, h4⟩ | ⟨t, cs, h3, h4, h5, h6⟩
      · exact .inl ⟨u, h3, v, h1, h4⟩
      · exact .inr ⟨t, cs, h3, h4, h5, fun g hg => ⟨v, fun w hw => h1 w (hw.sub ((Sub.refl l).fresh h4)), h6 g hg⟩⟩
  | a j =>
    rcases h with ⟨v, h1, h2⟩ | ⟨t, cs, h1, h2, h3, H⟩
    · exact pure v h2 fun u l1 h => .inl ⟨v, h1, h⟩
    · have purei : (∀ g, w0.heap.size ≤ g → ∃ u, (∀ w, WS w0 M lS w → ri w = .ok (.value u) w) ∧ m (.pointer (some ⟨g, 0, none⟩)) u ((j, ⟨some g, t, cs.toList⟩) :: l)) →
          ∃ u, (∀ w, WS w0 M lS w → ri w = .ok (.value u) w) ∧ tr P w0 M lS (.a j) true rj l fun v => m v u := fun H => by
        obtain ⟨u, h4, _⟩ := H _ (Nat.le_refl _)
        refine ⟨u, h4, .inr ⟨t, cs, h1, h2, h3, fun g hg => ?_⟩⟩
        obtain ⟨u', h5, h6⟩ := H g hg
        have e1 := h4 we hwe
        rw [h5 we hwe] at e1
        have : u' = u := by injection e1 with e1; injection e1
        rw [← this]; exact h6
      cases ki with
      | g => exact purei H
      | s => exact purei H
      | c => simp [okPair] at hk
      | q => simp [okPair] at hk
      | l => simp [okPair] at hk
      | a i =>
        have H0 := H _ (Nat.le_refl _)
        rcases H0 with ⟨u, h4, _⟩ | ⟨t', cs', h4, h5, h6, _⟩
        · refine .inl (purei fun g hg => ?_)
          rcases H g hg with h7 | ⟨t', cs', _, _, h7, _⟩
          · exact h7
          · have e1 := h4 we hwe
            rw [h7 we hwe] at e1
            injection e1 with _ e1
            have := congrArg (fun w : World => w.heap.size) e1
            simp at this
        · rw [lk_cons] at h5
          split at h5
          · cases h5
          rename_i hji
          refine .inr ⟨t', cs', h4, h5, h6, fun g' hg' => .inr ⟨t, cs, h1, by rw [lk_cons, if_neg (Ne.symm hji)]; exact h2, h3, fun g hg => ?_⟩⟩
          rcases H g hg with ⟨u, h7, _⟩ | ⟨t2, cs2, _, _, h7, h8⟩
          · have e1 := h6 we hwe
            rw [h7 we hwe] at e1
            injection e1 with _ e1
            have := congrArg (fun w : World => w.heap.size) e1
            simp at this
          · have e1 := h6 we hwe
            rw [h7 we hwe] at e1
            injection e1 with _ e1
            have e2 := congrArg (fun w : World => w.heap[we.heap.size]?) e1
            simp only [heap_alloc_at, if_true, Option.some.injEq, Obj.cells.injEq] at e2
            obtain ⟨e3, e4, _⟩ := e2
            subst e3 e4
            refine hm _ _ _ _ (fun n => ?_) (h8 g' hg')
            simp only [lk_cons]
            split
            · rename_i h9; subst h9; rw [if_neg hji]
            · rfl

def stepW (P : Program) (ops : Array Oper) (w0 : World) (M : List Nat) (lS : List (Nat × Ent)) (k : K) (o : Oper) (a : Act) (l : List (Nat × Ent)) (next : Act → List (Nat × Ent) → Prop) : Prop :=
  tr P w0 M lS k (Region.wanted o (yielded ops a.tmps)) (fun w => (execOp a.eval o).run P w) l fun v => next (a.put o.dst v)

/-- A list of operations with their kinds, one behind the other. -/
def JJ (P : Program) (ops : Array Oper) (F : Act → World → Prop) (w0 : World) (M : List Nat) (lS : List (Nat × Ent)) : List (Oper × K) → Act → List (Nat × Ent) → Prop
  | [], a, l => ∀ w, WS w0 M l w → F a w
  | (o, k) :: L, a, l => stepW P ops w0 M lS k o a l (JJ P ops F w0 M lS L)

theorem JJ_eq : ∀ (L : List (Oper × K)) (a : Act) (l l' : List (Nat × Ent)), EqL l l' → JJ P ops F w0 M lS L a l → JJ P ops F w0 M lS L a l'
  | [], _, _, _, he, h => fun w hw => h w (hw.sub he.sub)
  | (o, k) :: L, a, l, l', he, h => by
    simp only [JJ, stepW] at h ⊢
    exact tr_eq he (fun v l l' h1 h2 => JJ_eq L _ l l' h1 h2) h

theorem JJ_swap (hE : ∃ w, WS w0 M lS w) {oi oj : Oper} {ki kj : K} (hk : okPair kj ki = true) (hap : oj.apart ops oi = true) (hsi : ∀ cs b, oi.op ≠ .select cs b) (hsj : ∀ cs b, oj.op ≠ .select cs b) {L : List (Oper × K)} {a : Act} {l : List (Nat × Ent)}
    (h : JJ P ops F w0 M lS ((oj, kj) :: (oi, ki) :: L) a l) : JJ P ops F w0 M lS ((oi, ki) :: (oj, kj) :: L) a l := by
  obtain ⟨p1, p2, p3⟩ := Oper.apart_spec hap
  simp only [JJ, stepW] at h ⊢
  have e1 : ∀ v, (fun w => (execOp (a.put oj.dst v).eval oi).run P w) = fun w => (execOp a.eval oi).run P w := fun v => by rw [execOp_put oi hsi a oj.dst v p1]
  have e2 : ∀ v, (fun w => (execOp (a.put oi.dst v).eval oj).run P w) = fun w => (execOp a.eval oj).run P w := fun v => by rw [execOp_put oj hsj a oi.dst v p3]
  simp only [e1, wanted_put oi a oj.dst _ p1] at h
  simp only [e2, wanted_put oj a oi.dst _ p3]
  have h2 := tr_swap (m := fun v u l => JJ P ops F w0 M lS L ((a.put oj.dst v).put oi.dst u) l) hE hk (fun v u l l' he hl => JJ_eq L _ l l' he hl) h
  refine tr_mono (fun u l1 h3 => tr_mono (fun v l2 h4 => ?_) h3) h2
  rw [← Act.put_comm a v u p2]
  exact h4

theorem JJ_mono1 {o : Oper} {k : K} {L L' : List (Oper × K)} (hL : ∀ a l, JJ P ops F w0 M lS L a l → JJ P ops F w0 M lS L' a l) {a : Act} {l : List (Nat × Ent)} (h : JJ P ops F w0 M lS ((o, k) :: L) a l) : JJ P ops F w0 M lS ((o, k) :: L') a l := by
  simp only [JJ, stepW] at h ⊢
  exact tr_mono (fun _ _ h => hL _ _ h) h

theorem JJ_bubble (hE : ∃ w, WS w0 M lS w) (hsel : ∀ (o : Oper) cs b, o ∈ ops.toList → o.op ≠ .select cs b) (x : Oper × K) (hx : x.1 ∈ ops.toList) (L2 : List (Oper × K)) : ∀ (L1 : List (Oper × K)), (∀ y ∈ L1, y.1 ∈ ops.toList ∧ okPair y.2 x.2 = true ∧ y.1.apart ops x.1 = true) → ∀ a l,
    JJ P ops F w0 M lS (L1 ++ x :: L2) a l → JJ P ops F w0 M lS (x :: (L1 ++ L2)) a l
  | [], _, _, _, h => h
  | y :: L1, hy, a, l, h => by
    obtain ⟨h1, h2, h3⟩ := hy y List.mem_cons_self
    have ih := JJ_bubble hE hsel x hx L2 L1 (fun z hz => hy z (List.mem_cons_of_mem _ hz))
    exact JJ_swap hE h2 h3 (fun cs b => hsel _ cs b hx) (fun cs b => hsel _ cs b h1) (JJ_mono1 ih h)

theorem quiet_run' {o : Oper} {a : Act} {w : World} {v : Value} {l : List (Nat × Ent)} {K' : Act → World → Prop} {Q : Exit → Act → World → Prop} (hw : WS w0 M l w)
    (h : Oper.quietUpon P (fun w' => WS w [] [] w') w v ((execOp a.eval o).run P w)) (hk : ∀ w', WS w0 M l w' → K' (a.put o.dst v) w') : o.wp P a w K' Q := by
  unfold Oper.wp
  generalize (execOp a.eval o).run P w = r at *
  cases r with
  | ok n w' =>
    cases n <;> simp only [Oper.quietUpon] at h <;> simp only [Oper.upon]
    case value u => obtain ⟨e1, e2⟩ := h; rw [e1, e2]; exact hk _ hw
    case skip => obtain ⟨e1, e2⟩ := h; rw [e1, ← e2]; exact hk _ hw
    case enter f args => obtain ⟨e1, hc⟩ := h; rw [e1]; exact hc.mono fun e w'' ⟨he, hw''⟩ => by subst he; exact hk _ (hw.join0 hw'')
  | halt x w' => simp only [Oper.quietUpon] at h

theorem wp_of_stepW {k : K} {o : Oper} {a : Act} {l : List (Nat × Ent)} {n : Act → List (Nat × Ent) → Prop} {K' : Act → World → Prop} {Q : Exit → Act → World → Prop} {w : World} (hs : stepW P ops w0 M lS k o a l n) (hw : WS w0 M l w) (hS : Sub lS l)
    (h : ∀ a' l' w', WS w0 M l' w' → Sub lS l' → n a' l' → K' a' w') : if Region.wanted o (yielded ops a.tmps) then o.wp P a w K' Q ∨ (o.asks P a w ∧ LetsOut Q) else K' (a.put o.dst undef) w := by
  unfold stepW tr at hs
  split
  · rename_i hwt
    rw [if_pos hwt] at hs
    refine .inl ?_
    have pure : ∀ v, (∀ w, WS w0 M lS w → (execOp a.eval o).run P w = .ok (.value v) w) → n (a.put o.dst v) l → o.wp P a w K' Q := fun v h1 h2 => by
      simp only [Oper.wp, h1 w (hw.sub hS), Oper.upon]
      exact h _ _ _ hw hS h2
    cases k with
    | g => obtain ⟨v, h1, h2⟩ := hs; exact pure v h1 h2
    | s => obtain ⟨v, h1, h2⟩ := hs; exact pure v h1 h2
    | c => obtain ⟨v, h1, h2⟩ := hs; exact quiet_run' hw (h1 w (hw.sub hS)) fun w' hw' => h _ _ _ hw' hS h2
    | q => obtain ⟨v, h1, h2⟩ := hs; exact quiet_run' hw (h1 w hw) fun w' hw' => h _ _ _ hw' hS h2
    | a j =>
      rcases hs with ⟨v, h1, h2⟩ | ⟨t, cs, h1, h2, h3, h4⟩
      · exact pure v h1 h2
      · simp only [Oper.wp, h3 w (hw.sub hS), Oper.upon]
        have := hw.alloc j cs.toList t
        rw [Array.toArray_toList] at this
        exact h _ _ _ this (hS.fresh h1) (h4 _ hw.size)
    | l => exact loud_run (hs w hw) fun v w' ⟨l', h1, h2, h3⟩ => h _ _ _ h1 h2 h3
  · rename_i hwt
    rw [if_neg hwt] at hs
    exact h _ _ _ hw hS hs

theorem wpList_of_JJ {Q : Exit → Act → World → Prop} : ∀ (L : List (Oper × K)) (a : Act) (l : List (Nat × Ent)) (w : World), WS w0 M l w → Sub lS l → JJ P ops (fun a w => Q .normal a w) w0 M lS L a l → wpList P ops Q (L.map (·.1)) a w
  | [], _, _, w, hw, _, h => h w hw
  | (o, k) :: L, a, l, w, hw, hS, h => by
    simp only [List.map_cons, wpList]
    exact wp_of_stepW h hw hS fun a' l' w' h1 h2 h3 => wpList_of_JJ L a' l' w' h1 h2 h3

structure Inv (md : Region.Mode) (ops : Array Oper) (π : List (Nat × K)) (listed : Array Bool) : Prop where
  down : Down md ops listed
  size : listed.size = ops.size
  iff : ∀ j, j < ops.size → (listed.getD j false = false ↔ j ∈ π.map (·.1))
  lt : ∀ x ∈ π, x.1 < ops.size ∧ edgeB md ops x.1 x.1 = false
  on : ∀ (j : Nat) (o : Oper), ops[j]? = some o → ∀ e ∈ o.after.toList, Region.binds md e = true → e.on < ops.size
  pair : π.Pairwise (PairR md ops)

theorem getD_either {listed : Array Bool} {j : Nat} (h : j < listed.size) (d d' : Bool) : listed.getD j d = listed.getD j d' := by simp [h]

theorem Inv.head {md : Region.Mode} {x : Nat × K} {π : List (Nat × K)} {listed : Array Bool} (h : Inv md ops (x :: π) listed) : x.1 ∈ Region.ready md ops listed := by
  obtain ⟨hlt, hself⟩ := h.lt x List.mem_cons_self
  have ho : ops[x.1]? = some ops[x.1] := Array.getElem?_eq_getElem hlt
  refine mem_ready.2 ⟨?_, _, ho, fun e he hb => ?_⟩
  · rw [getD_either (by rw [h.size]; exact hlt) true false]
    exact (h.iff _ hlt).2 (by simp)
  · have he' : e ∈ (ops[x.1]).after.toList := by simpa using he
    have hon := h.on _ _ ho e he' hb
    cases hl : listed.getD e.on false with
    | true => rfl
    | false =>
      have hm := (h.iff _ hon).1 hl
      simp only [List.map_cons, List.mem_cons, List.mem_map] at hm
      rcases hm with hm | ⟨y, hy, hm⟩
      · exact absurd hm (edgeB_no hself ho he' hb)
      · have := List.rel_of_pairwise_cons h.pair hy
        exact absurd hm.symm (edgeB_no this.free ho he' hb)

theorem Inv.next {md : Region.Mode} {x : Nat × K} {π1 π2 : List (Nat × K)} {listed : Array Bool} (h : Inv md ops (π1 ++ x :: π2) listed) (hr : x.1 ∈ Region.ready md ops listed) : Inv md ops (π1 ++ π2) (listed.setIfInBounds x.1 true) := by
  have hp := h.pair
  rw [List.pairwise_append, List.pairwise_cons] at hp
  obtain ⟨hp1, ⟨hp2, hp3⟩, hp4⟩ := hp
  refine ⟨h.down.set hr, by simpa using h.size, fun j hj => ?_, fun y hy => h.lt y ?_, h.on, ?_⟩
  · by_cases hjx : x.1 = j
    · subst hjx
      have : (listed.setIfInBounds x.1 true).getD x.1 false = true := by simp [h.size, hj]
      rw [this]
      refine ⟨fun h => (by cases h), fun hm => ?_⟩
      simp only [List.map_append, List.mem_append, List.mem_map] at hm
      rcases hm with ⟨y, hy, hm⟩ | ⟨y, hy, hm⟩
      · exact absurd hm (hp4 y hy x List.mem_cons_self).ne
      · exact absurd hm.symm (hp2 y hy).ne
    · rw [getD_set_ne false hjx, h.iff j hj]
      simp only [List.map_append, List.map_cons, List.mem_append, List.mem_cons, Ne.symm hjx, false_or]
  · rcases List.mem_append.1 hy with h | h
    · exact List.mem_append_left _ h
    · exact List.mem_append_right _ (List.mem_cons_of_mem _ h)
  · exact List.pairwise_append.2 ⟨hp1, hp3, fun a ha b hb => hp4 a ha b (List.mem_cons_of_mem _ hb)⟩

abbrev opK (ops : Array Oper) (x : Nat × K) : Oper × K := (ops.getD x.1 default, x.2)

theorem wpAny_of_JJ {md : Region.Mode} {Q : Exit → Act → World → Prop} (hsel : ∀ (j : Nat) (o : Oper) cs b, ops[j]? = some o → o.op ≠ .select cs b) (hE : ∃ w, WS w0 M lS w) : ∀ (n : Nat) (π : List (Nat × K)) (listed : Array Bool) (a : Act) (l : List (Nat × Ent)) (w : World), π.length = n → Inv md ops π listed →
    JJ P ops (fun a w => Q .normal a w) w0 M lS (π.map (opK ops)) a l → WS w0 M l w → Sub lS l → wpAny P md ops Q n listed a w
  | 0, π, listed, a, l, w, hn, hi, h, hw, hS => by
    obtain rfl := List.length_eq_zero_iff.1 hn
    refine ⟨List.eq_nil_iff_forall_not_mem.2 fun j hj => ?_, h w hw⟩
    obtain ⟨hun, o, ho, _⟩ := mem_ready.1 hj
    have hlt : j < ops.size := (Array.getElem?_eq_some_iff.1 ho).1
    have := (hi.iff j hlt).1 (by rw [getD_either (by rw [hi.size]; exact hlt) false true]; exact hun)
    simp at this
  | n + 1, π, listed, a, l, w, hn, hi, h, hw, hS => by
    refine ⟨fun h0 => ?_, fun i hri => ?_⟩
    · cases π with
      | nil => simp at hn
      | cons x π => have := hi.head; rw [h0] at this; cases this
    · obtain ⟨hun, o, ho, hall⟩ := mem_ready.1 hri
      have hlt : i < ops.size := (Array.getElem?_eq_some_iff.1 ho).1
      have hm := (hi.iff i hlt).1 (by rw [getD_either (by rw [hi.size]; exact hlt) false true]; exact hun)
      obtain ⟨x, hx, rfl⟩ := List.mem_map.1 hm
      obtain ⟨π1, π2, rfl⟩ := List.append_of_mem hx
      have hod : ∀ j, j < ops.size → ops.getD j default ∈ ops.toList := fun j hj => by
        rw [show ops.getD j default = ops[j] by simp [hj]]
        simp
      have hox : ops.getD x.1 default = o := by
        simp only [Array.getD, hlt, dif_pos]
        exact (Array.getElem?_eq_some_iff.1 ho).2
      have hsel' : ∀ (o : Oper) cs b, o ∈ ops.toList → o.op ≠ .select cs b := fun o cs b ho => by
        obtain ⟨j, hj⟩ := List.getElem?_of_mem ho
        exact hsel j o cs b (by simpa using hj)
      have hp := hi.pair
      rw [List.pairwise_append] at hp
      rw [List.map_append, List.map_cons] at h
      have hb := JJ_bubble hE hsel' (opK ops x) (hod _ hlt) (π2.map (opK ops)) (π1.map (opK ops)) (fun y hy => by
        obtain ⟨y, hy', rfl⟩ := List.mem_map.1 hy
        have hy := hy'
        have hylt := (hi.lt y (List.mem_append_left _ hy)).1
        refine ⟨hod _ hylt, ?_⟩
        rcases (hp.2.2 y hy x List.mem_cons_self).ok with hanc | hok
        · have h1 := hanc.listed hi.down fun o' ho' e he hb => hall e (by
            rw [ho] at ho'; cases ho'; simpa using he) hb
          have h2 := (hi.iff y.1 hylt).2 (List.mem_map.2 ⟨y, List.mem_append_left _ hy, rfl⟩)
          rw [h1] at h2; cases h2
        · exact hok) a l h
      rw [← List.map_append] at hb
      unfold wpOp
      simp only [ho]
      simp only [JJ, hox] at hb
      exact wp_of_stepW hb hw hS fun a' l' w' h1 h2 h3 =>
        wpAny_of_JJ hsel hE n (π1 ++ π2) _ a' l' w' (by simp at hn ⊢; omega) (hi.next hri) h3 h1 h2

theorem walk_inv {md : Region.Mode} {π : List (Nat × K)} (h : WalkR md ops π) : Inv md ops π (Array.replicate ops.size false) :=
  ⟨fun k o hk => by
      rcases Nat.lt_or_ge k ops.size with h | h
      · simp [h] at hk
      · simp [Nat.not_lt.2 h] at hk, by simp, fun j hj => ⟨fun _ => h.all j hj, fun _ => by simp [hj]⟩, h.lt, h.on, h.pair⟩
end

/-! ### Code -/
variable {P : Program} {Q : Exit → Act → World → Prop} {lS : List (Nat × Ent)}

def T (P : Program) (w0 : World) (M : List Nat) (N : Nf) (Q : Exit → Act → World → Prop) (c : Code) (σ : List (Nat × Value)) (l : List (Nat × Ent)) : Prop :=
  ∀ a w, Has N σ a → WS w0 M l w → c.wp P Q a w
/-- The exit e is met in the state. -/
def X (w0 : World) (M : List Nat) (N : Nf) (Q : Exit → Act → World → Prop) (e : Exit) (σ : List (Nat × Value)) (l : List (Nat × Ent)) : Prop :=
  ∀ a w, Has N σ a → WS w0 M l w → Q e a w
/-- A list of operations: lS are entries that no loud operation of the region turns. -/
def J (P : Program) (ops : Array Oper) (F : Act → World → Prop) (w0 : World) (M : List Nat) (N : Nf) (lS : List (Nat × Ent)) (L : List (Oper × K)) (σ : List (Nat × Value)) (l : List (Nat × Ent)) : Prop :=
  Sub lS l → ∀ a, Has N σ a → JJ P ops F w0 M lS L a l

theorem T.seq {x y : Code} (h : T P w0 M N (Exit.then (y.wp P Q) Q) x σ l) : T P w0 M N Q (.seq x y) σ l := fun a w ha hw => wp_seq (h a w ha hw)
theorem T.skip (h : X w0 M N Q .normal σ l) : T P w0 M N Q .skip σ l := fun a w ha hw => wp_skip (h a w ha hw)
theorem T.label {n : Nat} (h : X w0 M N Q .normal σ l) : T P w0 M N Q (.label n) σ l := fun a w ha hw => wp_label (h a w ha hw)
theorem T.exit {id : Nat} (h : X w0 M N Q (.exit id) σ l) : T P w0 M N Q (.exit id) σ l := fun a w ha hw => wp_exit (h a w ha hw)
theorem T.ret (h : X w0 M N Q .ret σ l) : T P w0 M N Q .ret σ l := fun a w ha hw => wp_ret (h a w ha hw)
theorem T.block {id : Nat} {c : Code} (h : T P w0 M N (Exit.inBlock id Q) c σ l) : T P w0 M N Q (.block id c) σ l := fun a w ha hw => wp_block (h a w ha hw)
theorem T.cond {c : Operand} {x y : Code} {b : Bool} (hc : ev σ c = some (.bool b)) (ht : b = true → T P w0 M N Q x σ l) (hf : b = false → T P w0 M N Q y σ l) : T P w0 M N Q (.cond c x y) σ l :=
  fun a w ha hw => wp_cond_split (ha.eval hc) (fun h => ht h a w ha hw) (fun h => hf h a w ha hw)
theorem T.cond_true {c : Operand} {x y : Code} (hc : ev σ c = some (.bool true)) (ht : T P w0 M N Q x σ l) : T P w0 M N Q (.cond c x y) σ l := fun a w ha hw => wp_cond_true (ha.eval hc) (ht a w ha hw)
theorem T.cond_false {c : Operand} {x y : Code} (hc : ev σ c = some (.bool false)) (hf : T P w0 M N Q y σ l) : T P w0 M N Q (.cond c x y) σ l := fun a w ha hw => wp_cond_false (ha.eval hc) (hf a w ha hw)
theorem T.cond_dec {c : Operand} {x y : Code} {p : Prop} [Decidable p] (hc : ev σ c = some (.bool (decide p))) (ht : p → T P w0 M N Q x σ l) (hf : ¬ p → T P w0 M N Q y σ l) : T P w0 M N Q (.cond c x y) σ l :=
  T.cond hc (fun h => ht (of_decide_eq_true h)) (fun h => hf (of_decide_eq_false h))
theorem T.sub {c : Code} {σ' : List (Nat × Value)} {l' : List (Nat × Ent)} (hσ : Sub σ' σ) (hl : Sub l' l) (h : T P w0 M N Q c σ' l') : T P w0 M N Q c σ l := fun a w ha hw => h a w (ha.sub hσ) (hw.sub hl)

theorem T.text {id : Nat} {ops : Array Oper} (ks : List K) (hn : ops.toList.length = ks.length) (h : J P ops (fun a w => Q .normal a w) w0 M N [] (ops.toList.zip ks) σ l) : T P w0 M N Q (.region id ops false) σ l :=
  fun a w ha hw => wp_region_list (by
    have := wpList_of_JJ _ a l w hw (Sub.nil _) (h (Sub.nil _) a ha)
    rwa [List.map_fst_zip (by omega)] at this)

theorem T.draw {id : Nat} {ops : Array Oper} (lS : List (Nat × Ent)) (π : List (Nat × K)) (hm : P.follows .mixedOrders = true)
    (hB : walkB .any ops π = true)
    (h : J P ops (fun a w => Q .normal a w) w0 M N lS (π.map fun p => (ops.getD p.1 default, p.2)) σ l) (hlS : Sub lS l) :
    T P w0 M N Q (.region id ops true) σ l :=
  fun a w ha hw => wp_region_any hm (by
    have hW := walkB_spec hB
    have := wpAny_of_JJ hW.sel ⟨w, hw.sub hlS⟩ π.length π _ a l _ rfl (walk_inv hW) (h hlS a ha) hw.drew hlS
    rwa [hW.len] at this)

theorem stepW.yes {ops : Array Oper} {o : Oper} {k : K} {next : Act → List (Nat × Ent) → Prop} (hg : o.guard = none) (h : tr P w0 M lS k true (fun w => (execOp a.eval o).run P w) l fun v => next (a.put o.dst v)) : stepW P ops w0 M lS k o a l next := by
  unfold stepW
  rw [show Region.wanted o (yielded ops a.tmps) = true by simp [Region.wanted, hg]]
  exact h

/-- An operation whose value is known, and which leaves the world alone. -/
theorem J.pure {ops : Array Oper} {F : Act → World → Prop} {o : Oper} {k : K} {L : List (Oper × K)} (hg : o.guard = none) (hd : okd N o.dst) (v : Value)
    (hr : ∀ a, Has N σ a → ∀ w, (execOp a.eval o).run P w = .ok (.value v) w) (h : J P ops F w0 M N lS L (putd o.dst v σ) l) : J P ops F w0 M N lS ((o, k) :: L) σ l := fun hlS a ha => stepW.yes hg (by
  have h2 := h hlS _ (ha.putd hd v)
  cases k with
  | g => exact ⟨v, fun w _ => hr a ha w, h2⟩
  | s => exact ⟨v, fun w _ => hr a ha w, h2⟩
  | c => exact ⟨v, fun w _ => by show Oper.quietUpon P _ w v ((execOp a.eval o).run P w); rw [hr a ha w]; exact ⟨rfl, rfl⟩, h2⟩
  | q => exact ⟨v, fun w _ => by show Oper.quietUpon P _ w v ((execOp a.eval o).run P w); rw [hr a ha w]; exact ⟨rfl, rfl⟩, h2⟩
  | a j => exact .inl ⟨v, fun w _ => hr a ha w, h2⟩
  | l => exact fun w hw => by show loudUpon P _ ((execOp a.eval o).run P w); rw [hr a ha w]; exact ⟨l, hw, hlS, h2⟩)

def nog : K → Prop
  | .l | .q => True
  | _ => False
/-- Likewise, of the worlds of the class alone. -/
theorem J.quiet {ops : Array Oper} {F : Act → World → Prop} {o : Oper} {k : K} {L : List (Oper × K)} (hg : o.guard = none) (hk : nog k) (hd : okd N o.dst) (v : Value)
    (hr : ∀ a, Has N σ a → ∀ w, WS w0 M l w → (execOp a.eval o).run P w = .ok (.value v) w) (h : J P ops F w0 M N lS L (putd o.dst v σ) l) : J P ops F w0 M N lS ((o, k) :: L) σ l := fun hlS a ha => stepW.yes hg (by
  have h2 := h hlS _ (ha.putd hd v)
  cases k with
  | q => exact ⟨v, fun w hw => by show Oper.quietUpon P _ w v ((execOp a.eval o).run P w); rw [hr a ha w hw]; exact ⟨rfl, rfl⟩, h2⟩
  | l => exact fun w hw => by show loudUpon P _ ((execOp a.eval o).run P w); rw [hr a ha w hw]; exact ⟨l, hw, hlS, h2⟩
  | _ => exact hk.elim)
/-- Likewise, out of what no operation of the region turns. -/
theorem J.stable {ops : Array Oper} {F : Act → World → Prop} {o : Oper} {L : List (Oper × K)} (hg : o.guard = none) (hd : okd N o.dst) (v : Value)
    (hr : ∀ a, Has N σ a → ∀ w, WS w0 M lS w → (execOp a.eval o).run P w = .ok (.value v) w) (h : J P ops F w0 M N lS L (putd o.dst v σ) l) : J P ops F w0 M N lS ((o, .s) :: L) σ l := fun hlS a ha =>
  stepW.yes hg ⟨v, hr a ha, h hlS _ (ha.putd hd v)⟩

/-- A loud one. -/
theorem J.loud {ops : Array Oper} {F : Act → World → Prop} {o : Oper} {L : List (Oper × K)} (hg : o.guard = none) (hd : okd N o.dst) {ι : Type} (φ : ι → Prop) (v : ι → Value) (lf : ι → List (Nat × Ent))
    (hS : ∀ i, φ i → Sub lS l → Sub lS (lf i))
    (hr : ∀ a, Has N σ a → ∀ w, WS w0 M l w → loudUpon P (fun u w' => ∃ i, φ i ∧ u = v i ∧ WS w0 M (lf i) w') ((execOp a.eval o).run P w))
    (h : ∀ i, φ i → J P ops F w0 M N lS L (putd o.dst (v i) σ) (lf i)) : J P ops F w0 M N lS ((o, .l) :: L) σ l := fun hlS a ha => stepW.yes hg (show ∀ w, _ from
  fun w hw => loudUpon_mono (fun u w' ⟨i, hi, hu, hw'⟩ => ⟨lf i, hw', hS i hi hlS, by subst hu; exact h i hi (hS i hi hlS) _ (ha.putd hd _)⟩) (hr a ha w hw))

/-- A new variable, anywhere in the region. -/
theorem J.newA {ops : Array Oper} {F : Act → World → Prop} {L : List (Oper × K)} {op : Op} {d : Option Tmp} {ty : TypeId} {p : String} {af : Array Edge} {t : TypeId} (h : Nat) (hd : okd N d) (hh : lk lS h = none) (hl : lk l h = none) (cs : List Value) (hr : ∀ a, Has N σ a → ∀ w, (execOp a.eval ⟨d, op, ty, p, af, none⟩).run P w = .ok (.value (.pointer (some ⟨w.heap.size, 0, none⟩))) (w.alloc (.cells cs.toArray t)))
    (hJ : ∀ g, w0.heap.size ≤ g → J P ops F w0 M N lS L (putd d (.pointer (some ⟨g, 0, none⟩)) σ) ((h, ⟨some g, t, cs⟩) :: l)) : J P ops F w0 M N lS ((⟨d, op, ty, p, af, none⟩, .a h) :: L) σ l := fun hlS a ha =>
  stepW.yes rfl (.inr ⟨t, cs.toArray, hh, hl, fun w _ => hr a ha w, fun g hg => hJ g hg (hlS.fresh hh) _ (ha.putd hd _)⟩)

theorem Has.wanted {ops : Array Oper} (ha : Has N σ a) {o : Oper} {j t : Nat} {b b' : Bool} (hg : o.guard = some (j, b)) (ht : (ops[j]?).bind (·.dst) = some t) (hb : lk σ t = some (.bool b')) :
    Region.wanted o (yielded ops a.tmps) = (b' == b) := by
  have h1 := ha.get t _ hb
  simp only [Region.wanted, hg, yielded, ht, Option.bind_some, h1]
  cases b <;> cases b' <;> rfl

/-- A guard that says yes: the operation as if it had none. -/
theorem J.yes {ops : Array Oper} {F : Act → World → Prop} {d : Option Tmp} {op : Op} {ty : TypeId} {p : String} {af : Array Edge} {j t : Nat} {b : Bool} {k : K} {L : List (Oper × K)}
    (ht : (ops[j]?).bind (·.dst) = some t) (hb : lk σ t = some (.bool b))
    (h : J P ops F w0 M N lS ((⟨d, op, ty, p, af, none⟩, k) :: L) σ l) : J P ops F w0 M N lS ((⟨d, op, ty, p, af, some (j, b)⟩, k) :: L) σ l := fun hlS a ha => by
  have h1 := h hlS a ha
  have e1 : Region.wanted ⟨d, op, ty, p, af, some (j, b)⟩ (yielded ops a.tmps) = true := by rw [ha.wanted rfl ht hb]; simp
  have e2 : Region.wanted ⟨d, op, ty, p, af, none⟩ (yielded ops a.tmps) = true := by simp [Region.wanted]
  simp only [JJ, stepW, e1] at h1 ⊢
  rw [e2] at h1
  exact h1

/-- A guard that says no. -/
theorem J.no {ops : Array Oper} {F : Act → World → Prop} {d : Option Tmp} {op : Op} {ty : TypeId} {p : String} {af : Array Edge} {j t : Nat} {b b' : Bool} {k : K} {L : List (Oper × K)}
    (ht : (ops[j]?).bind (·.dst) = some t) (hb : lk σ t = some (.bool b')) (hne : (b' == b) = false) (hd : okd N d)
    (h : J P ops F w0 M N lS L (putd d undef σ) l) : J P ops F w0 M N lS ((⟨d, op, ty, p, af, some (j, b)⟩, k) :: L) σ l := fun hlS a ha => by
  have e1 : Region.wanted ⟨d, op, ty, p, af, some (j, b)⟩ (yielded ops a.tmps) = false := by rw [ha.wanted rfl ht hb, hne]
  simp only [JJ, stepW, e1]
  exact h hlS _ (ha.putd hd undef)

theorem J.sub {ops : Array Oper} {F : Act → World → Prop} {L : List (Oper × K)} {σ' : List (Nat × Value)} (hσ : Sub σ' σ) (h : J P ops F w0 M N lS L σ' l) : J P ops F w0 M N lS L σ l := fun hlS a ha => h hlS a (ha.sub hσ)

/-- A truth that is not decided yet. -/
theorem J.split {ops : Array Oper} {F : Act → World → Prop} {L : List (Oper × K)} {p : Prop} [Decidable p] (t : Nat) (hb : lk σ t = some (.bool (decide p)))
    (ht : p → J P ops F w0 M N lS L ((t, .bool true) :: σ) l) (hf : ¬ p → J P ops F w0 M N lS L ((t, .bool false) :: σ) l) : J P ops F w0 M N lS L σ l := by
  have put : ∀ b, (decide p) = b → ∀ n v, lk ((t, Value.bool b) :: σ) n = some v → lk σ n = some v := fun b hb' n v hn => by
    rw [lk_cons] at hn
    split at hn
    · rename_i hk; subst hk; rw [hb, hb']; exact hn
    · exact hn
  by_cases hp : p
  · exact fun hlS a ha => ht hp hlS a (ha.sub (put true (by simp [hp])))
  · exact fun hlS a ha => hf hp hlS a (ha.sub (put false (by simp [hp])))

theorem J.nil {ops : Array Oper} {F : Act → World → Prop} (h : ∀ a w, Has N σ a → WS w0 M l w → F a w) : J P ops F w0 M N lS [] σ l := fun _ a ha w hw => h a w ha hw
/-- At a region's end: the exit 'normal'. -/
theorem J.end {ops : Array Oper} (h : X w0 M N Q .normal σ l) : J P ops (fun a w => Q .normal a w) w0 M N lS [] σ l := fun _ a ha w hw => h a w ha hw

/-! ### Exits -/
theorem X.then {y : Code} (h : T P w0 M N Q y σ l) : X w0 M N (Exit.then (y.wp P Q) Q) .normal σ l := h
theorem X.then_ret {K' : Act → World → Prop} (h : X w0 M N Q .ret σ l) : X w0 M N (Exit.then K' Q) .ret σ l := h
theorem X.then_exit {K' : Act → World → Prop} {id : Nat} (h : X w0 M N Q (.exit id) σ l) : X w0 M N (Exit.then K' Q) (.exit id) σ l := h
theorem X.inBlock {id : Nat} (h : X w0 M N Q .normal σ l) : X w0 M N (Exit.inBlock id Q) .normal σ l := h
theorem X.inBlock_ret {id : Nat} (h : X w0 M N Q .ret σ l) : X w0 M N (Exit.inBlock id Q) .ret σ l := h
theorem X.inBlock_eq {id : Nat} (h : X w0 M N Q .normal σ l) : X w0 M N (Exit.inBlock id Q) (.exit id) σ l := fun a w ha hw => by
  simp only [Exit.inBlock, if_true]; exact h a w ha hw
theorem X.inBlock_ne {id id' : Nat} (hne : Nat.beq id' id = false) (h : X w0 M N Q (.exit id') σ l) : X w0 M N (Exit.inBlock id Q) (.exit id') σ l := fun a w ha hw => by
  simp only [Exit.inBlock, if_neg (fun e => by subst e; simp at hne : ¬ id' = id)]; exact h a w ha hw

/-- A piece of state of which a loop, or a place where ways meet, speaks. -/
def At (w0 : World) (M : List Nat) (N : Nf) {ι : Type} (φ : ι → Prop) (σf : ι → List (Nat × Value)) (lf : ι → List (Nat × Ent)) (a : Act) (w : World) : Prop :=
  ∃ i, φ i ∧ Has N (σf i) a ∧ WS w0 M (lf i) w

theorem X.at {ι : Type} {φ : ι → Prop} {σf : ι → List (Nat × Value)} {lf : ι → List (Nat × Ent)} {Q' : Exit → Act → World → Prop} (i : ι) (hφ : φ i) (hσ : Sub (σf i) σ) (hl : Sub (lf i) l) :
    X w0 M N (Exit.then (At w0 M N φ σf lf) Q') .normal σ l := fun _ _ ha hw => ⟨i, hφ, ha.sub hσ, hw.sub hl⟩

theorem T.meet {x y : Code} {ι : Type} (φ : ι → Prop) (σf : ι → List (Nat × Value)) (lf : ι → List (Nat × Ent)) (h : T P w0 M N (Exit.then (At w0 M N φ σf lf) Q) x σ l)
    (hy : ∀ i, φ i → T P w0 M N Q y (σf i) (lf i)) : T P w0 M N Q (.seq x y) σ l := fun a w ha hw =>
  wp_seq (wp_mono (h a w ha hw) fun e a' w' q => by
    cases e with
    | normal => obtain ⟨i, hi, h1, h2⟩ := q; exact hy i hi _ _ h1 h2
    | _ => exact q)

/-- A loop: the state at its head, and a number that each round lowers. -/
theorem T.loop {c : Code} {ι : Type} (φ : ι → Prop) (σf : ι → List (Nat × Value)) (lf : ι → List (Nat × Ent)) (μ : ι → Nat) (i0 : ι) (h0 : φ i0) (hσ : Sub (σf i0) σ) (hl : Sub (lf i0) l)
    (round : ∀ i, φ i → T P w0 M N (Exit.then (At w0 M N (fun j => φ j ∧ μ j < μ i) σf lf) Q) c (σf i) (lf i)) : T P w0 M N Q (.loop c) σ l := by
  have key : ∀ n i, μ i = n → φ i → ∀ a w, Has N (σf i) a → WS w0 M (lf i) w → ∀ (b : Frame) (k : List Item) (cs : List Frame),
      ∃ e a' w', Q e a' w' ∧ Arrives P (lone (b.at a (.code c :: .inLoop c :: k)) cs w) b k cs e a' w' := by
    intro n
    induction n using Nat.strongRecOn with
    | _ n ih =>
      intro i hn hi a w ha hw b k cs
      obtain ⟨e, a₁, w₁, hq, harr⟩ := round i hi a w ha hw b (.inLoop c :: k) cs
      cases e with
      | normal =>
        obtain ⟨j, ⟨hj, hlt⟩, ha1, hw1⟩ := hq
        obtain ⟨e₂, a₂, w₂, hq₂, harr₂⟩ := ih (μ j) (hn ▸ hlt) j rfl hj a₁ w₁ ha1 hw1 b k cs
        exact ⟨e₂, a₂, w₂, hq₂, .of_steps (Steps.trans harr (.one step_inLoop)) harr₂⟩
      | exit id => exact ⟨_, a₁, w₁, hq, .pass (x := .inLoop c) rfl (fun _ _ => .inl (by simp)) harr⟩
      | goto l => exact ⟨_, a₁, w₁, hq, .pass (x := .inLoop c) rfl (fun _ _ => .inl (by simp)) harr⟩
      | ret => exact ⟨_, a₁, w₁, hq, .pass (x := .inLoop c) rfl (fun _ _ => .inl (by simp)) harr⟩
      | panic ch => exact ⟨_, a₁, w₁, hq, .pass (x := .inLoop c) rfl (fun _ _ => .inl (by simp)) harr⟩
      | outgrown => exact ⟨_, a₁, w₁, hq, .pass (x := .inLoop c) rfl (fun _ _ => .inl (by simp)) harr⟩
  intro a w ha hw b k cs
  obtain ⟨e, a', w', hq, harr⟩ := key _ i0 rfl h0 a w (ha.sub hσ) (hw.sub hl) b k cs
  exact ⟨e, a', w', hq, .of_steps (.one step_loop) harr⟩

theorem X.round {ι : Type} {φ : ι → Prop} {σf : ι → List (Nat × Value)} {lf : ι → List (Nat × Ent)} {μ : ι → Nat} {n : Nat} {Q' : Exit → Act → World → Prop} (i : ι) (hφ : φ i) (hμ : μ i < n) (hσ : Sub (σf i) σ) (hl : Sub (lf i) l) :
    X w0 M N (Exit.then (At w0 M N (fun j => φ j ∧ μ j < n) σf lf) Q') .normal σ l := fun _ _ ha hw => ⟨i, ⟨hφ, hμ⟩, ha.sub hσ, hw.sub hl⟩

/-! ### A function -/
def argσ : Nat → List Value → List (Nat × Value)
  | _, [] => []
  | n, v :: vs => (n, v) :: argσ (n + 1) vs

theorem lk_argσ : ∀ (vs : List Value) (k n : Nat) (v : Value), lk (argσ k vs) n = some v → k ≤ n ∧ vs[n - k]? = some v
  | [], k, n, v, h => by simp [argσ, lk] at h
  | u :: vs, k, n, v, h => by
    simp only [argσ, lk_cons] at h
    split at h
    · rename_i hk; subst hk; simpa using h
    · obtain ⟨h1, h2⟩ := lk_argσ vs (k + 1) n v h
      refine ⟨by omega, ?_⟩
      rw [show n - k = (n - (k + 1)) + 1 by omega]
      simpa using h2

theorem calls_of_T {f : FuncId} {fn : Func} {c : Code} {args : List Value} {R : Ending → World → Prop} (M : List Nat) (N : Nat) (l : List (Nat × Ent)) (hf : P.funcs[f]? = some fn) (hb : fn.body = some c) (hN : fn.ntmps = N)
    (hle : args.length ≤ N) (hw : WS w M l w) (h : T P w M ⟨N, []⟩ (bodyPost P fn R) c (argσ 0 args) l) : Calls P f args.toArray w R := by
  refine calls_of_wp hf hb (h _ _ ⟨by simp [hN]; omega, rfl, fun n v hn => ?_⟩ hw)
  obtain ⟨_, h2⟩ := lk_argσ args 0 n v hn
  have hlt : n < args.length := by
    have := (List.getElem?_eq_some_iff.1 h2).1
    simpa using this
  rw [Nat.sub_zero] at h2
  rw [Array.getElem?_append]
  simp only [List.size_toArray, hlt, if_true, List.getElem?_toArray]
  exact h2

/-- What a type's row says of its size. -/
def aggD (d : TypeDesc) : Bool := match d with
  | .struct _ | .array _ _ => true
  | _ => false
def AggT (P : Program) (t : TypeId) (n : Nat) : Prop := (∃ d, P.underlying t = some d ∧ aggD d = true) ∧ (P.info? t).map (·.size) = some n
def OneT (P : Program) (t : TypeId) : Prop := (∃ d, P.underlying t = some d ∧ aggD d = false) ∧ (P.info? t).map (·.size) = some 1

theorem run_isAgg {t : TypeId} {d : TypeDesc} (h : P.underlying t = some d) (w : World) : (isAgg t).run P w = .ok (aggD d) w := by
  simp only [isAgg, Sem.run_bind, run_underlying h, Result.andThen]
  cases d <;> rfl

theorem run_sizeOf {t : TypeId} {n : Nat} (h : (P.info? t).map (·.size) = some n) (w : World) : (sizeOf t).run P w = .ok n w := by
  cases hi : P.info? t with
  | none => simp [hi] at h
  | some i => simp [hi] at h; subst h; simp [sizeOf, typeInfo, hi]

theorem run_loadVar_agg {t : TypeId} {n : Nat} (ht : AggT P t n) (ad : Addr) (cs : List Value) (hn : cs.length = n) (hc : ∀ j v, cs[j]? = some v → w.cell? (ad.add j) = some v) : (loadVar t ad).run P w = .ok (.agg cs.toArray) w := by
  obtain ⟨⟨d, hd, hdd⟩, hs⟩ := ht
  subst hn
  simp [loadVar, run_isAgg hd, hdd, run_sizeOf hs, run_loadCells_list (P := P) w ad cs hc]

theorem run_loadVar_one {t : TypeId} (ht : OneT P t) (ad : Addr) (v : Value) (hc : w.cell? ad = some v) : (loadVar t ad).run P w = .ok v w := by
  obtain ⟨⟨d, hd, hdd⟩, hs⟩ := ht
  simp [loadVar, run_isAgg hd, hdd, hc]

/-- What a result's variable holds. -/
def RV (P : Program) (w0 : World) (M : List Nat) (σ : List (Nat × Value)) (l : List (Nat × Ent)) (r : ResultVar) (v : Value) : Prop :=
  match r with
  | .tmp t => lk σ t = some v
  | .cell a t => ∃ ad, lk σ a = some (.pointer (some ad)) ∧ ∀ w, WS w0 M l w → (loadVar t ad).run P w = .ok v w

theorem RV.tmp {t : Nat} {v : Value} (h : lk σ t = some v) : RV P w0 M σ l (.tmp t) v := h
theorem RV.agg {p t n : Nat} {v : Value} (k : Nat) {e : Ent} {o : Nat} (he : lk l k = some e) (hp : lk σ p = some (.pointer (some ⟨e.id.getD 0, o, none⟩))) (ht : AggT P t n)
    (cs : List Value) (hn : cs.length = n) (hc : (e.cs.drop o).take n = cs) (hv : v = .agg cs.toArray) : RV P w0 M σ l (.cell p t) v := by
  refine ⟨_, hp, fun w hw => ?_⟩
  rw [hv]
  refine run_loadVar_agg ht _ cs hn fun j v hj => ?_
  have : (⟨e.id.getD 0, o, none⟩ : Addr).add j = ⟨e.id.getD 0, o + j, none⟩ := by unfold Addr.add; split <;> simp_all
  rw [this]
  refine hw.cell he ?_
  rw [← hc] at hj
  have hlt : j < n := by
    rcases Nat.lt_or_ge j n with h | h
    · exact h
    · rw [List.getElem?_eq_none (by simp; omega)] at hj; cases hj
  rw [List.getElem?_take_of_lt hlt, List.getElem?_drop] at hj
  exact hj
theorem RV.one {p t : Nat} {v : Value} (k : Nat) {e : Ent} {o : Nat} (he : lk l k = some e) (hp : lk σ p = some (.pointer (some ⟨e.id.getD 0, o, none⟩))) (ht : OneT P t) (hv : e.cs[o]? = some v) : RV P w0 M σ l (.cell p t) v :=
  ⟨_, hp, fun _ hw => run_loadVar_one ht _ _ (hw.cell he hv)⟩

def rvSem (tmps : Array Value) (r : ResultVar) : Sem Value := match r with
  | .tmp t => Pure.pure (tmps.getD t undef)
  | .cell p t => do loadVar t (← asAddr (tmps.getD p undef))

theorem RV.run {r : ResultVar} {v : Value} (h : RV P w0 M σ l r v) (ha : Has N σ a) (hw : WS w0 M l w) : (rvSem a.tmps r).run P w = .ok v w := by
  cases r with
  | tmp t => have := ha.get t v h; simp [rvSem, this]
  | cell p t =>
    obtain ⟨ad, hp, hl⟩ := h
    have := ha.get p _ hp
    simp [rvSem, this, asAddr, hl w hw]

theorem results_rv (fn : Func) (tmps : Array Value) : results fn tmps = (do
    let vs ← fn.results.mapM (rvSem tmps)
    Pure.pure (if h : vs.size = 1 then vs[0] else .tuple vs)) := by
  unfold results
  congr 2

theorem X.ret0 {fn : Func} {R : Ending → World → Prop} (hr : fn.results = #[]) (h : ∀ w, WS w0 M l w → R (.returned (.tuple #[])) w) (hD : N.D = [] := by rfl) : X w0 M N (bodyPost P fn R) .ret σ l := fun a w ha hw =>
  ⟨ha.defers.trans hD, _, by simp [results, hr], h w hw⟩
theorem X.end0 {fn : Func} {R : Ending → World → Prop} (hr : fn.results = #[]) (h : ∀ w, WS w0 M l w → R (.returned (.tuple #[])) w) (hD : N.D = [] := by rfl) : X w0 M N (bodyPost P fn R) .normal σ l := fun a w ha hw =>
  ⟨ha.defers.trans hD, _, by simp [results, hr], h w hw⟩
theorem X.ret1 {fn : Func} {R : Ending → World → Prop} {r : ResultVar} {v : Value} (hr : fn.results = #[r]) (hv : RV P w0 M σ l r v) (h : ∀ w, WS w0 M l w → R (.returned v) w) (hD : N.D = [] := by rfl) : X w0 M N (bodyPost P fn R) .ret σ l := fun a w ha hw =>
  ⟨ha.defers.trans hD, v, by simp [results_rv, hr, hv.run ha hw], h w hw⟩
theorem X.ret2 {fn : Func} {R : Ending → World → Prop} {r s : ResultVar} {v u : Value} (hr : fn.results = #[r, s]) (hv : RV P w0 M σ l r v) (hu : RV P w0 M σ l s u) (h : ∀ w, WS w0 M l w → R (.returned (.tuple #[v, u])) w) (hD : N.D = [] := by rfl) : X w0 M N (bodyPost P fn R) .ret σ l := fun a w ha hw =>
  ⟨ha.defers.trans hD, _, by simp [results_rv, hr, hv.run ha hw, hu.run ha hw], h w hw⟩
end Go.Fw
