/-
  Texts that the statement stands on, one behind the other: plain lemmas and walks of functions.
  No condition.
-/
import Derived.Deep.Quiet
import Derived.Below
import Derived.Laws.Entries
import Derived.Tactics
import Derived.Laws.CopyRow
import Derived.Laws.AppendOwn
import Derived.Laws.NewBlocks
import Derived.KernelRfl
import Derived.Laws.StructEq
import Derived.Laws.Externs
import Derived.Laws.Append
import Derived.Laws.MakeOwn
import Derived.IntWalk
import Derived.Laws.BytesString
import Derived.Laws.IdiomCopy
import Derived.Laws.Pointers
import Derived.Laws.MathBits
import Derived.Laws.BitsAllLaws
import Derived.Laws.Bits128
namespace Go.Fw
open Go

/-- g, s: pure in every world that still has the stable entries; c: a call that is quiet there; q: quiet in the present class; a h: a new variable, entry h; l: loud. -/
inductive K where
  | g | q | l | s | c | a (h : Nat)

/-- May an operation of the first kind, walked ahead of one of the second, come up behind it? -/
def okPair : K → K → Bool
  | .g, _ | .s, _ | .c, _ => true
  | .q, .l => false
  | .q, _ => true
  | .a _, .g | .a _, .s | .a _, .a _ => true
  | .a _, _ => false
  | .l, _ => false

/-- What a loud operation must come to: a value and a world of which R holds. -/
def loudUpon (P : Program) (R : Value → World → Prop) : Result Next → Prop
  | .ok (.value v) w' => R v w'
  | .ok .skip w' => R undef w'
  | .ok (.enter f args) w' => Calls P f args w' (fun e w'' => ∃ v, e = .returned v ∧ R v w'')
  | _ => False

theorem loudUpon_mono {P : Program} {R R' : Value → World → Prop} (h : ∀ v w, R v w → R' v w) {r : Result Next} (hr : loudUpon P R r) : loudUpon P R' r := by
  unfold loudUpon at *
  split at hr
  · exact h _ _ hr
  · exact h _ _ hr
  · exact hr.mono fun e w'' ⟨v, he, hv⟩ => ⟨v, he, h _ _ hv⟩
  · exact hr.elim

section
variable {P : Program} {ops : Array Oper} {md : Region.Mode}

theorem loud_run {o : Oper} {a : Act} {w : World} {R : Value → World → Prop} {K' : Act → World → Prop} {Q : Exit → Act → World → Prop}
    (h : loudUpon P R ((execOp a.eval o).run P w)) (hk : ∀ v w', R v w' → K' (a.put o.dst v) w') : o.wp P a w K' Q := by
  unfold Oper.wp
  generalize (execOp a.eval o).run P w = r at *
  cases r with
  | ok n w' =>
    cases n <;> simp only [loudUpon] at h <;> simp only [Oper.upon]
    case value u => exact hk _ _ h
    case skip => exact hk _ _ h
    case enter f args => exact h.mono fun e w'' ⟨v, he, hv⟩ => by subst he; exact hk _ _ hv
  | halt x w' => simp only [loudUpon] at h

/-- Operation i must come ahead of j. -/
inductive Anc (md : Region.Mode) (ops : Array Oper) (i : Nat) : Nat → Prop
  | edge {j : Nat} {o : Oper} {e : Edge} : ops[j]? = some o → e ∈ o.after.toList → Region.binds md e = true → e.on = i → Anc md ops i j
  | step {j : Nat} {o : Oper} {e : Edge} : ops[j]? = some o → e ∈ o.after.toList → Region.binds md e = true → Anc md ops i e.on → Anc md ops i j

/-- What has come up is closed downwards. -/
def Down (md : Region.Mode) (ops : Array Oper) (listed : Array Bool) : Prop :=
  ∀ k o, listed.getD k false = true → ops[k]? = some o → ∀ e ∈ o.after.toList, Region.binds md e = true → listed.getD e.on false = true

theorem Anc.listed {i j : Nat} {listed : Array Bool} (h : Anc md ops i j) (hd : Down md ops listed) (hj : ∀ o, ops[j]? = some o → ∀ e ∈ o.after.toList, Region.binds md e = true → listed.getD e.on false = true) : listed.getD i false = true := by
  induction h with
  | edge ho he hb hon => rw [← hon]; exact hj _ ho _ he hb
  | step ho he hb _ ih => exact ih fun o' ho' e' he' hb' => hd _ _ (hj _ ho _ he hb) ho' _ he' hb'

theorem Down.set {j : Nat} {listed : Array Bool} (hd : Down md ops listed) (hj : j ∈ Region.ready md ops listed) : Down md ops (listed.setIfInBounds j true) := fun k o hk ho e he hb => by
  by_cases hjk : j = k
  · subst hjk
    obtain ⟨_, o', ho', hall⟩ := mem_ready.1 hj
    rw [ho] at ho'; cases ho'
    exact getD_set_true (hall e (by simpa using he) hb)
  · rw [getD_set_ne false hjk] at hk
    exact getD_set_true (hd k o hk ho e he hb)

def tbl : List (Nat × Nat) → Nat → Nat
  | [], _ => 0
  | (k, m) :: t, i => match Nat.beq k i with | true => m | false => tbl t i

def maskOf (md : Region.Mode) (t : List (Nat × Nat)) : List Edge → Nat
  | [] => 0
  | e :: es => match Region.binds md e with
    | true => (2 ^ e.on ||| tbl t e.on) ||| maskOf md t es
    | false => maskOf md t es

def ancs (md : Region.Mode) (ops : Array Oper) : List Nat → List (Nat × Nat) → List (Nat × Nat)
  | [], t => t
  | i :: π, t => ancs md ops π ((i, match ops[i]? with | some o => maskOf md t o.after.toList | none => 0) :: t)

def TblOk (md : Region.Mode) (ops : Array Oper) (t : List (Nat × Nat)) : Prop := ∀ i j, (tbl t j).testBit i = true → Anc md ops i j

theorem maskOf_spec {t : List (Nat × Nat)} (ht : TblOk md ops t) {j : Nat} {o : Oper} (ho : ops[j]? = some o) : ∀ (es : List Edge), (∀ e ∈ es, e ∈ o.after.toList) → ∀ i, (maskOf md t es).testBit i = true → Anc md ops i j
  | [], _, i, h => by simp [maskOf] at h
  | e :: es, hes, i, h => by
    simp only [maskOf] at h
    split at h
    · rename_i hb
      simp only [Nat.testBit_or, Bool.or_eq_true] at h
      rcases h with (h | h) | h
      · rw [Nat.testBit_two_pow] at h
        exact .edge ho (hes e List.mem_cons_self) hb (of_decide_eq_true h)
      · exact .step ho (hes e List.mem_cons_self) hb (ht _ _ h)
      · exact maskOf_spec ht ho es (fun e he => hes e (List.mem_cons_of_mem _ he)) i h
    · exact maskOf_spec ht ho es (fun e he => hes e (List.mem_cons_of_mem _ he)) i h

theorem ancs_ok : ∀ (π : List Nat) (t : List (Nat × Nat)), TblOk md ops t → TblOk md ops (ancs md ops π t)
  | [], _, ht => ht
  | i :: π, t, ht => ancs_ok π _ fun a j h => by
    simp only [tbl] at h
    split at h
    · rename_i hb
      have hij := Nat.eq_of_beq_eq_true hb
      subst hij
      cases ho : ops[i]? with
      | none => simp [ho] at h
      | some o => simp only [ho] at h; exact maskOf_spec ht ho _ (fun _ h => h) a h
    · exact ht _ _ h

theorem tblOk_nil : TblOk md ops [] := fun i j h => by simp [tbl] at h

/-- Operation i needs j. -/
def edgeB (md : Region.Mode) (ops : Array Oper) (i j : Nat) : Bool := match ops[i]? with
  | some o => o.after.toList.any fun e => Region.binds md e && Nat.beq e.on j
  | none => false
theorem edgeB_no {i j : Nat} (h : edgeB md ops i j = false) {o : Oper} (ho : ops[i]? = some o) {e : Edge} (he : e ∈ o.after.toList) (hb : Region.binds md e = true) : e.on ≠ j := by
  rintro rfl
  simp only [edgeB, ho, List.any_eq_false] at h
  exact h e he (by simp [hb])

def pairB (md : Region.Mode) (ops : Array Oper) (t : List (Nat × Nat)) (x y : Nat × K) : Bool :=
  !Nat.beq x.1 y.1 && !edgeB md ops x.1 y.1 && ((tbl t y.1).testBit x.1 || (okPair x.2 y.2 && (ops.getD x.1 default).apart ops (ops.getD y.1 default)))
/-- x stands ahead of y in the walk. -/
structure PairR (md : Region.Mode) (ops : Array Oper) (x y : Nat × K) : Prop where
  ne : x.1 ≠ y.1
  free : edgeB md ops x.1 y.1 = false
  ok : Anc md ops x.1 y.1 ∨ (okPair x.2 y.2 = true ∧ (ops.getD x.1 default).apart ops (ops.getD y.1 default) = true)

def pairsB (md : Region.Mode) (ops : Array Oper) (t : List (Nat × Nat)) : List (Nat × K) → Bool
  | [] => true
  | x :: π => π.all (fun y => pairB md ops t x y) && pairsB md ops t π
theorem pairsB_spec {t : List (Nat × Nat)} (ht : TblOk md ops t) : ∀ (π : List (Nat × K)), pairsB md ops t π = true → π.Pairwise (PairR md ops)
  | [], _ => .nil
  | x :: π, h => by
    simp only [pairsB, Bool.and_eq_true] at h
    refine .cons (fun y hy => ?_) (pairsB_spec ht π h.2)
    have := List.all_eq_true.1 h.1 y hy
    simp only [pairB, Bool.and_eq_true, Bool.not_eq_true', Bool.or_eq_true] at this
    obtain ⟨⟨h1, h2⟩, h3⟩ := this
    refine ⟨fun he => (by rw [he] at h1; simp at h1), h2, h3.imp (ht _ _) id⟩

/-- The whole test of a walk. -/
def walkB (md : Region.Mode) (ops : Array Oper) (π : List (Nat × K)) : Bool :=
  Region.noSelect ops && Nat.beq π.length ops.size && (List.range ops.size).all (fun j => (π.map (·.1)).contains j) &&
  π.all (fun x => Nat.blt x.1 ops.size && !edgeB md ops x.1 x.1) && ops.toList.all (fun o => o.after.toList.all fun e => !Region.binds md e || Nat.blt e.on ops.size) &&
  pairsB md ops (ancs md ops (π.map (·.1)) []) π

structure WalkR (md : Region.Mode) (ops : Array Oper) (π : List (Nat × K)) : Prop where
  sel : ∀ (j : Nat) (o : Oper) cs b, ops[j]? = some o → o.op ≠ .select cs b
  len : π.length = ops.size
  all : ∀ j, j < ops.size → j ∈ π.map (·.1)
  lt : ∀ x ∈ π, x.1 < ops.size ∧ edgeB md ops x.1 x.1 = false
  on : ∀ (j : Nat) (o : Oper), ops[j]? = some o → ∀ e ∈ o.after.toList, Region.binds md e = true → e.on < ops.size
  pair : π.Pairwise (PairR md ops)

theorem walkB_spec {π : List (Nat × K)} (h : walkB md ops π = true) : WalkR md ops π := by
  simp only [walkB, Bool.and_eq_true] at h
  obtain ⟨⟨⟨⟨⟨h1, h2⟩, h3⟩, h4⟩, h5⟩, h6⟩ := h
  refine ⟨Region.noSelect_spec h1, Nat.eq_of_beq_eq_true h2, fun j hj => ?_, fun x hx => ?_, fun j o ho e he hb => ?_, pairsB_spec (ancs_ok _ _ tblOk_nil) _ h6⟩
  · have := List.all_eq_true.1 h3 j (List.mem_range.2 hj)
    simpa using this
  · have := List.all_eq_true.1 h4 x hx
    simp only [Bool.and_eq_true, Bool.not_eq_true'] at this
    exact ⟨by simpa [Nat.blt_eq] using this.1, this.2⟩
  · have hm : o ∈ ops.toList := Array.mem_toList_iff.2 (Array.mem_of_getElem? ho)
    have := List.all_eq_true.1 (List.all_eq_true.1 h5 o hm) e he
    simp only [hb, Bool.not_true, Bool.false_or] at this
    simpa [Nat.blt_eq] using this
end
end Go.Fw
set_option linter.unusedVariables false
namespace Go.Fw
open Go

/-! ### Lists with names -/
def lk {α : Type} : List (Nat × α) → Nat → Option α
  | [], _ => none
  | (k, v) :: r, n => match Nat.beq k n with | true => some v | false => lk r n

theorem lk_cons {α : Type} (k : Nat) (v : α) (r : List (Nat × α)) (n : Nat) : lk ((k, v) :: r) n = if k = n then some v else lk r n := by
  simp only [lk]
  by_cases h : k = n
  · subst h; simp
  · have : Nat.beq k n = false := by
      cases hb : Nat.beq k n with
      | true => exact absurd (Nat.eq_of_beq_eq_true hb) h
      | false => rfl
    simp [this, h]

theorem lk_append {α : Type} (l r : List (Nat × α)) (n : Nat) : lk (l ++ r) n = (lk l n).or (lk r n) := by
  induction l with
  | nil => simp [lk]
  | cons p l ih =>
    obtain ⟨k, v⟩ := p
    simp only [List.cons_append, lk_cons, ih]
    split <;> simp

def Sub {α : Type} (l' l : List (Nat × α)) : Prop := ∀ n v, lk l' n = some v → lk l n = some v
theorem Sub.nil {α : Type} (l : List (Nat × α)) : Sub [] l := fun n v h => by simp [lk] at h
theorem Sub.cons {α : Type} {l' l : List (Nat × α)} {k : Nat} {v : α} (h : lk l k = some v) (hs : Sub l' l) : Sub ((k, v) :: l') l := fun n u hn => by
  rw [lk_cons] at hn
  split at hn
  · rename_i hk; subst hk; simp at hn; subst hn; exact h
  · exact hs n u hn
theorem Sub.refl {α : Type} (l : List (Nat × α)) : Sub l l := fun _ _ h => h

/-! ### The frame -/
/-- How many slots; what is put off to the function's end. -/
structure Nf where
  n : Nat
  D : List Deferred
instance (k : Nat) : OfNat Nf k := ⟨⟨k, []⟩⟩
structure Has (N : Nf) (σ : List (Nat × Value)) (a : Act) : Prop where
  size : a.tmps.size = N.n
  defers : a.defers = N.D
  get : ∀ n v, lk σ n = some v → a.tmps[n]? = some v

def ev (σ : List (Nat × Value)) : Operand → Option Value
  | .tmp t => lk σ t
  | .const v => some v
  | .global g => some (.pointer (some ⟨g, 0, none⟩))
  | .func f => some (.func (.func f) #[] #[])

def evs (σ : List (Nat × Value)) : List Operand → Option (List Value)
  | [] => some []
  | x :: xs => match ev σ x with
    | some v => match evs σ xs with
      | some vs => some (v :: vs)
      | none => none
    | none => none

variable {N : Nf} {σ : List (Nat × Value)} {a : Act}

theorem Has.eval (h : Has N σ a) {x : Operand} {v : Value} (hx : ev σ x = some v) : a.eval x = v := by
  cases x with
  | tmp t =>
    have := h.get t v hx
    simp [Act.eval, this]
  | const u => simpa [ev, Act.eval] using hx
  | global g => simpa [ev, Act.eval] using hx
  | func f => simpa [ev, Act.eval] using hx

theorem Has.evals (h : Has N σ a) : ∀ {xs : List Operand} {vs : List Value}, evs σ xs = some vs → xs.map a.eval = vs
  | [], vs, hx => by simpa [evs] using hx
  | x :: xs, vs, hx => by
    simp only [evs] at hx
    cases h1 : ev σ x with
    | none => simp [h1] at hx
    | some v =>
      cases h2 : evs σ xs with
      | none => simp [h1, h2] at hx
      | some us =>
        simp only [h1, h2, Option.some.injEq] at hx
        subst hx
        simp [h.eval h1, h.evals h2]

theorem Has.put (h : Has N σ a) {d : Nat} (hd : d < N.n) (v : Value) : Has N ((d, v) :: σ) (a.put (some d) v) := by
  refine ⟨by simpa [Act.put] using h.size, h.defers, fun n u hn => ?_⟩
  rw [lk_cons] at hn
  have hlt : d < a.tmps.size := by rw [h.size]; exact hd
  simp only [Act.put]
  split at hn
  · rename_i hk; subst hk; simp at hn; subst hn; simp [hlt]
  · rename_i hk; rw [Array.getElem?_setIfInBounds_ne hk]; exact h.get n u hn

theorem Has.sub (h : Has N σ a) {σ' : List (Nat × Value)} (hs : Sub σ' σ) : Has N σ' a := ⟨h.size, h.defers, fun n v hn => h.get n v (hs n v hn)⟩

def putd (d : Option Nat) (v : Value) (σ : List (Nat × Value)) : List (Nat × Value) := match d with | some k => (k, v) :: σ | none => σ
def okd (N : Nf) (d : Option Nat) : Prop := match d with | some k => Nat.blt k N.n = true | none => True

theorem Has.putd (h : Has N σ a) {d : Option Nat} (hd : okd N d) (v : Value) : Has N (putd d v σ) (a.put d v) := by
  cases d with
  | none => exact h
  | some k => exact h.put (by have : Nat.blt k N.n = true := hd; simpa using this) v

/-! ### The heap -/
/-- What kind of thing an entry is: cells of a type, or a map in block g with its entries. -/
inductive Tk where
  | ty (t : TypeId)
  | mp (g : Nat) (C : List MapEntry → Prop)
instance (n : Nat) : OfNat Tk n := ⟨.ty n⟩
instance : Coe Nat Tk := ⟨.ty⟩
structure Ent where
  id : Option Nat
  t : Tk
  cs : List Value

/-- The map in block g has entries of which C holds; each has a number of its own. -/
def MapAt (w : World) (g : Nat) (C : List MapEntry → Prop) : Prop := ∃ es clk, w.heap[g]? = some (.map es clk) ∧ C es.toList ∧ (es.toList.map (·.born)).Nodup ∧ ∀ e ∈ es.toList, e.born < clk
def Ent.At (w : World) (e : Ent) : Prop :=
  match e.id with
  | none => e.cs = [] ∧ match e.t with
    | .ty _ => True
    | .mp g r => MapAt w g r
  | some g => ∃ t, e.t = .ty t ∧ w.heap[g]? = some (.cells e.cs.toArray t (0, 0))

theorem Ent.At.lt {w : World} {e : Ent} (h : e.At w) {g : Nat} (hg : e.id = some g) : g < w.heap.size := by
  simp only [Ent.At, hg] at h
  obtain ⟨t, _, h⟩ := h
  exact (Array.getElem?_eq_some_iff.1 h).1
theorem Ent.At.cells {w : World} {g : Nat} {t : TypeId} {cs : List Value} (h : Ent.At w ⟨some g, t, cs⟩) : w.heap[g]? = some (.cells cs.toArray t (0, 0)) := by
  obtain ⟨t', h1, h2⟩ := h
  cases h1; exact h2
theorem Ent.at_cells {w : World} {g : Nat} {t : TypeId} {cs : List Value} (h : w.heap[g]? = some (.cells cs.toArray t (0, 0))) : Ent.At w ⟨some g, t, cs⟩ := ⟨t, rfl, h⟩
theorem Ent.At.ne_map {w : World} {e : Ent} (h : e.At w) {g : Nat} (hg : e.id = some g) {es : Array MapEntry} {clk : Nat} (hm : w.heap[g]? = some (Obj.map es clk)) : False := by
  simp only [Ent.At, hg] at h
  obtain ⟨t, _, h⟩ := h
  rw [h] at hm; cases hm

theorem Ent.At.same {w w' : World} {e : Ent} (h : e.At w) (hk : ∀ g, e.id = some g → w'.heap[g]? = w.heap[g]?) (hm : ∀ (g : Nat) (es : Array MapEntry) (clk : Nat), w.heap[g]? = some (Obj.map es clk) → w'.heap[g]? = w.heap[g]?) : e.At w' := by
  cases hid : e.id with
  | none =>
    simp only [Ent.At, hid] at *
    refine ⟨h.1, ?_⟩
    have h2 := h.2
    cases ht : e.t with
    | ty t => trivial
    | mp g r =>
      simp only [ht] at h2
      obtain ⟨es, clk, h3, h4⟩ := h2
      exact ⟨es, clk, by rw [hm g es clk h3, h3], h4⟩
  | some g =>
    simp only [Ent.At, hid] at *
    rw [hk g rfl]; exact h

/-- The world w, begun in w0: of old blocks at most those of M have turned; the entries of l lie there, each in a block of its own. -/
structure WS (w0 : World) (M : List Nat) (l : List (Nat × Ent)) (w : World) : Prop where
  os : w.os = w0.os
  tape : w.tape = w0.tape
  output : w.output = w0.output
  size : w0.heap.size ≤ w.heap.size
  keep : ∀ i, i < w0.heap.size → i ∉ M → w.heap[i]? = w0.heap[i]?
  live : ∀ h e, lk l h = some e → e.At w
  apart : ∀ h h' e e' g, lk l h = some e → lk l h' = some e' → h ≠ h' → e.id = some g → e'.id ≠ some g
  own : ∀ h e g, lk l h = some e → e.id = some g → w0.heap.size ≤ g ∨ g ∈ M

variable {w0 w w' : World} {M : List Nat} {l : List (Nat × Ent)}

theorem WS.refl (w : World) (M : List Nat) : WS w M [] w :=
  ⟨rfl, rfl, rfl, Nat.le_refl _, fun _ _ _ => rfl, fun h e he => by simp [lk] at he, fun h h' e e' g he => by simp [lk] at he, fun h e g he => by simp [lk] at he⟩

theorem WS.below (h : WS w0 [] l w) : RowKit.Below w0.heap.size w0 w := ⟨h.os, h.tape, h.output, h.size, fun k hk => h.keep k hk (by simp)⟩

theorem WS.drew (h : WS w0 M l w) : WS w0 M l w.drew := ⟨h.os, h.tape, h.output, h.size, h.keep, h.live, h.apart, h.own⟩

theorem WS.sub (h : WS w0 M l w) {l' : List (Nat × Ent)} (hs : Sub l' l) : WS w0 M l' w :=
  ⟨h.os, h.tape, h.output, h.size, h.keep, fun k e he => h.live k e (hs _ _ he), fun k k' e e' g he he' => h.apart k k' e e' g (hs _ _ he) (hs _ _ he'), fun k e g he => h.own k e g (hs _ _ he)⟩

theorem heap_alloc_at (w : World) (o : Obj) (i : Nat) : (w.alloc o).heap[i]? = if i = w.heap.size then some o else w.heap[i]? := by
  unfold World.alloc; exact Array.getElem?_push

theorem WS.alloc (h : WS w0 M l w) (k : Nat) (cs : List Value) (t : TypeId) : WS w0 M ((k, ⟨some w.heap.size, t, cs⟩) :: l) (w.alloc (.cells cs.toArray t)) := by
  refine ⟨h.os, h.tape, h.output, by have := h.size; simp; omega, fun i hi hM => ?_, fun j e he => ?_, fun j j' e e' g he he' hne hg => ?_, fun j e g he hg => ?_⟩
  · rw [heap_alloc_at, if_neg (by have := h.size; omega)]; exact h.keep i hi hM
  · rw [lk_cons] at he
    split at he
    · simp at he; subst he; exact Ent.at_cells (by rw [heap_alloc_at, if_pos rfl])
    · refine (h.live j e he).same (fun g hg => ?_) (fun g es clk hm => ?_)
      · rw [heap_alloc_at, if_neg (by have := (h.live j e he).lt hg; omega)]
      · rw [heap_alloc_at, if_neg (by have := (Array.getElem?_eq_some_iff.1 hm).1; omega)]
  · rw [lk_cons] at he he'
    split at he <;> split at he'
    · omega
    · simp at he; subst he; simp at hg; subst hg
      intro hg'; have := (h.live j' e' he').lt hg'; omega
    · simp at he'; subst he'
      intro hg'; simp at hg'; subst hg'; have := (h.live j e he).lt hg; omega
    · exact h.apart j j' e e' g he he' hne hg
  · rw [lk_cons] at he
    split at he
    · simp at he; subst he; simp at hg; subst hg; exact .inl h.size
    · exact h.own j e g he hg

theorem WS.set (h : WS w0 M l w) {k g : Nat} {e : Ent} (he : lk l k = some e) (hg : e.id = some g) (cs' : List Value) : WS w0 M ((k, ⟨e.id, e.t, cs'⟩) :: l) (w.setRow g cs'.toArray) := by
  have hl := h.live k e he
  have hlt := hl.lt hg
  obtain ⟨t, het, hat⟩ : ∃ t, e.t = .ty t ∧ w.heap[g]? = some (.cells e.cs.toArray t (0, 0)) := by simpa only [Ent.At, hg] using hl
  refine ⟨h.os, h.tape, h.output, by simpa using h.size, fun i hi hM => ?_, fun j e' he' => ?_, fun j j' e1 e2 g' h1 h2 hne hg' => ?_, fun j e' g' he' hg' => ?_⟩
  · rw [setRow_other _ _ _ _ (by
      rintro rfl
      rcases h.own k e _ he hg with h1 | h1
      · omega
      · exact hM h1)]
    exact h.keep i hi hM
  · rw [lk_cons] at he'
    split at he'
    · simp at he'; subst he'
      simp only [Ent.At, hg]
      exact ⟨t, het, setRow_heap _ _ _ _ _ _ hat⟩
    · rename_i hne
      refine (h.live j e' he').same (fun g' hg' => ?_) (fun g' es clk hm => ?_)
      · exact setRow_other _ _ _ _ (by rintro rfl; exact h.apart k j e e' _ he he' hne hg hg')
      · exact setRow_other _ _ _ _ (by rintro rfl; rw [hat] at hm; cases hm)
  · rw [lk_cons] at h1 h2
    split at h1 <;> split at h2
    · omega
    · rename_i hk _; subst hk; simp at h1; subst h1; exact h.apart k j' e e2 g' he h2 hne hg'
    · rename_i _ hk; subst hk; simp at h2; subst h2; exact h.apart j k e1 e g' h1 he hne hg'
    · exact h.apart j j' e1 e2 g' h1 h2 hne hg'
  · rw [lk_cons] at he'
    split at he'
    · simp at he'; subst he'; exact h.own k e g' he hg'
    · exact h.own j e' g' he' hg'

/-- Behind a call that began in w. -/
theorem WS.join (h : WS w0 M l w) {M' : List Nat} {l2 : List (Nat × Ent)} (h2 : WS w M' l2 w')
    (hM : ∀ g ∈ M', ∃ k e e2, lk l k = some e ∧ e.id = some g ∧ lk l2 k = some e2) : WS w0 M (l2 ++ l) w' := by
  have key : ∀ j e g, lk l j = some e → lk l2 j = none → e.id = some g → g ∉ M' := by
    intro j e g he hn hg hgM
    obtain ⟨k, e1, e2, h1, hg1, hk2⟩ := hM g hgM
    by_cases hjk : j = k
    · subst hjk; rw [hn] at hk2; cases hk2
    · exact h.apart j k e e1 g he h1 hjk hg hg1
  refine ⟨h2.os.trans h.os, h2.tape.trans h.tape, h2.output.trans h.output, Nat.le_trans h.size h2.size, fun i hi hiM => ?_, fun j e he => ?_, fun j j' e e' g he he' hne hg => ?_, fun j e g he hg => ?_⟩
  · rw [h2.keep i (Nat.lt_of_lt_of_le hi h.size) (fun hin => by
      obtain ⟨k, e1, _, h1, hg1, _⟩ := hM i hin
      rcases h.own k e1 i h1 hg1 with h3 | h3
      · omega
      · exact hiM h3)]
    exact h.keep i hi hiM
  · rw [lk_append] at he
    cases hj : lk l2 j with
    | some e2 => rw [hj] at he; simp at he; subst he; exact h2.live j _ hj
    | none =>
      rw [hj] at he; simp at he
      exact (h.live j e he).same (fun g hg => h2.keep g ((h.live j e he).lt hg) (key j e g he hj hg)) (fun g es clk hm => h2.keep _ (Array.getElem?_eq_some_iff.1 hm).1 fun q => by
        obtain ⟨k, e1, _, h1, hg1, _⟩ := hM _ q
        exact (h.live k e1 h1).ne_map hg1 hm)
  · rw [lk_append] at he he'
    cases hj : lk l2 j with
    | some e2 =>
      rw [hj] at he; simp at he; subst he
      cases hj' : lk l2 j' with
      | some e3 => rw [hj'] at he'; simp at he'; subst he'; exact h2.apart j j' _ _ g hj hj' hne hg
      | none =>
        rw [hj'] at he'; simp at he'
        intro hg'
        rcases h2.own j _ g hj hg with h3 | h3
        · have := (h.live j' e' he').lt hg'; omega
        · exact key j' e' g he' hj' hg' h3
    | none =>
      rw [hj] at he; simp at he
      cases hj' : lk l2 j' with
      | some e3 =>
        rw [hj'] at he'; simp at he'; subst he'
        intro hg'
        rcases h2.own j' _ g hj' hg' with h3 | h3
        · have := (h.live j e he).lt hg; omega
        · exact key j e g he hj hg h3
      | none => rw [hj'] at he'; simp at he'; exact h.apart j j' e e' g he he' hne hg
  · rw [lk_append] at he
    cases hj : lk l2 j with
    | some e2 =>
      rw [hj] at he; simp at he; subst he
      rcases h2.own j _ g hj hg with h3 | h3
      · exact .inl (Nat.le_trans h.size h3)
      · obtain ⟨k, e1, _, h1, hg1, _⟩ := hM g h3
        exact h.own k e1 g h1 hg1
    | none => rw [hj] at he; simp at he; exact h.own j e g he hg

theorem WS.join0 (h : WS w0 M l w) (h2 : WS w [] [] w') : WS w0 M l w' := h.join h2 (by simp)

/-! ### Cells that lay there when the call began -/
/-- The cells cs lie from the address on. -/
def Cs (w : World) (a : Option Addr) (cs : List Value) : Prop := ∀ i x, cs[i]? = some x → ∃ ad, a = some ad ∧ w.cell? (ad.add i) = some x

theorem Addr.add_add (a : Addr) (i j : Nat) : (a.add i).add j = a.add (i + j) := by
  unfold Addr.add
  by_cases hi : i = 0 <;> by_cases hj : j = 0 <;> simp [hi, hj, Nat.add_assoc]

theorem Addr.add_block (a : Addr) (i : Nat) : (a.add i).block = a.block := by unfold Addr.add; split <;> rfl

theorem Cs.nil (w : World) (a : Option Addr) : Cs w a [] := fun i x h => by simp at h

/-- None of the cells lies in a block of M. -/
def Off (M : List Nat) (a : Option Addr) : Prop := ∀ ad, a = some ad → ad.block ∉ M

theorem Cs.ws {A : Option Addr} {cs : List Value} (h : Cs w0 A cs) (hw : WS w0 M l w) (ho : Off M A) : Cs w A cs := fun i x hx => by
  obtain ⟨ad, ha, hc⟩ := h i x hx
  refine ⟨ad, ha, ?_⟩
  have hlt := World.block_lt_of_cell? _ _ hc
  rw [Addr.add_block] at hlt
  rw [← hc]
  exact World.cell?_of_block (by rw [Addr.add_block]; exact hw.keep _ hlt (ho ad ha))

/-! ### Entries as cells -/
theorem WS.cell (h : WS w0 M l w) {k : Nat} {e : Ent} (he : lk l k = some e) {o : Nat} {v : Value} (ho : e.cs[o]? = some v) : w.cell? ⟨e.id.getD 0, o, none⟩ = some v := by
  have hl := h.live k e he
  cases hid : e.id with
  | none => simp only [Ent.At, hid] at hl; simp [hl.1] at ho
  | some g =>
    simp only [Ent.At, hid] at hl
    obtain ⟨t, _, hl⟩ := hl
    simp [World.cell?, hl, ho]

theorem WS.csOf (h : WS w0 M l w) {k : Nat} {e : Ent} (he : lk l k = some e) (o : Nat) (cs : List Value) (hc : ∀ i x, cs[i]? = some x → e.cs[o + i]? = some x) : Cs w (some ⟨e.id.getD 0, o, none⟩) cs := fun i x hx => by
  refine ⟨_, rfl, ?_⟩
  have : (⟨e.id.getD 0, o, none⟩ : Addr).add i = ⟨e.id.getD 0, o + i, none⟩ := by unfold Addr.add; split <;> simp_all
  rw [this]
  exact h.cell he (hc i x hx)

/-! ### Operations in a row, and regions that draw their order -/
section
variable {P : Program} {ops : Array Oper} {lS : List (Nat × Ent)} {F : Act → World → Prop}

/-- What one operation, of kind k, makes of the entries l: 'm' is what follows. -/
def tr (P : Program) (w0 : World) (M : List Nat) (lS : List (Nat × Ent)) (k : K) (b : Bool) (r : World → Result Next) (l : List (Nat × Ent)) (m : Value → List (Nat × Ent) → Prop) : Prop :=
  if b then match k with
    | .g | .s => ∃ v, (∀ w, WS w0 M lS w → r w = .ok (.value v) w) ∧ m v l
    | .c => ∃ v, (∀ w, WS w0 M lS w → Oper.quietUpon P (fun w' => WS w [] [] w') w v (r w)) ∧ m v l
    | .q => ∃ v, (∀ w, WS w0 M l w → Oper.quietUpon P (fun w' => WS w [] [] w') w v (r w)) ∧ m v l
    | .a h => (∃ v, (∀ w, WS w0 M lS w → r w = .ok (.value v) w) ∧ m v l) ∨
        ∃ t cs, lk lS h = none ∧ lk l h = none ∧ (∀ w, WS w0 M lS w → r w = .ok (.value (.pointer (some ⟨w.heap.size, 0, none⟩))) (w.alloc (.cells cs t))) ∧
          ∀ g, w0.heap.size ≤ g → m (.pointer (some ⟨g, 0, none⟩)) ((h, ⟨some g, t, cs.toList⟩) :: l)
    | .l => ∀ w, WS w0 M l w → loudUpon P (fun v w' => ∃ l', WS w0 M l' w' ∧ Sub lS l' ∧ m v l') (r w)
  else m undef l

theorem tr_mono {k : K} {b : Bool} {r : World → Result Next} {m m' : Value → List (Nat × Ent) → Prop} (hm : ∀ v l, m v l → m' v l) (h : tr P w0 M lS k b r l m) : tr P w0 M lS k b r l m' := by
  unfold tr at *
  split at h
  · rename_i hb
    rw [if_pos hb]
    cases k with
    | g => obtain ⟨v, h1, h2⟩ := h; exact ⟨v, h1, hm _ _ h2⟩
    | s => obtain ⟨v, h1, h2⟩ := h; exact ⟨v, h1, hm _ _ h2⟩
    | c => obtain ⟨v, h1, h2⟩ := h; exact ⟨v, h1, hm _ _ h2⟩
    | q => obtain ⟨v, h1, h2⟩ := h; exact ⟨v, h1, hm _ _ h2⟩
    | a j =>
      rcases h with ⟨v, h1, h2⟩ | ⟨t, cs, h1, h2, h3, h4⟩
      · exact .inl ⟨v, h1, hm _ _ h2⟩
      · exact .inr ⟨t, cs, h1, h2, h3, fun g hg => hm _ _ (h4 g hg)⟩
    | l => exact fun w hw => loudUpon_mono (fun v w' ⟨l', h1, h2, h3⟩ => ⟨l', h1, h2, hm _ _ h3⟩) (h w hw)
  · rename_i hb
    rw [if_neg hb]
    exact hm _ _ h

def EqL (l l' : List (Nat × Ent)) : Prop := ∀ n, lk l n = lk l' n
theorem EqL.sub {l l' : List (Nat × Ent)} (h : EqL l l') : Sub l l' := fun n v hn => by rw [← h n]; exact hn
theorem EqL.symm {l l' : List (Nat × Ent)} (h : EqL l l') : EqL l' l := fun n => (h n).symm
theorem EqL.cons {l l' : List (Nat × Ent)} (h : EqL l l') (p : Nat × Ent) : EqL (p :: l) (p :: l') := fun n => by
  obtain ⟨k, e⟩ := p
  rw [lk_cons, lk_cons, h n]

theorem tr_eq {k : K} {b : Bool} {r : World → Result Next} {l l' : List (Nat × Ent)} (he : EqL l l') {m : Value → List (Nat × Ent) → Prop} (hm : ∀ v l l', EqL l l' → m v l → m v l') (h : tr P w0 M lS k b r l m) : tr P w0 M lS k b r l' m := by
  unfold tr at *
  split at h
  · rename_i hb
    rw [if_pos hb]
    cases k with
    | g => obtain ⟨v, h1, h2⟩ := h; exact ⟨v, h1, hm _ _ _ he h2⟩
    | s => obtain ⟨v, h1, h2⟩ := h; exact ⟨v, h1, hm _ _ _ he h2⟩
    | c => obtain ⟨v, h1, h2⟩ := h; exact ⟨v, h1, hm _ _ _ he h2⟩
    | q => obtain ⟨v, h1, h2⟩ := h; exact ⟨v, fun w hw => h1 w (hw.sub he.sub), hm _ _ _ he h2⟩
    | a j =>
      rcases h with ⟨v, h1, h2⟩ | ⟨t, cs, h1, h2, h3, h4⟩
      · exact .inl ⟨v, h1, hm _ _ _ he h2⟩
      · exact .inr ⟨t, cs, h1, by rw [← he j]; exact h2, h3, fun g hg => hm _ _ _ (he.cons _) (h4 g hg)⟩
    | l => exact fun w hw => h w (hw.sub he.sub)
  · rename_i hb
    rw [if_neg hb]
    exact hm _ _ _ he h

theorem Sub.fresh {α : Type} {s l : List (Nat × α)} (h : Sub s l) {k : Nat} {e : α} (hk : lk s k = none) : Sub s ((k, e) :: l) := fun n v hn => by
  rw [lk_cons]
  split
  · rename_i hkn; subst hkn; rw [hk] at hn; cases hn
  · exact h n v hn
theorem Sub.freshs {α : Type} {s l l2 : List (Nat × α)} (h : Sub s l) (hk : ∀ k e, lk l2 k = some e → lk s k = none) : Sub s (l2 ++ l) := fun n v hn => by
  rw [lk_append]
  cases h2 : lk l2 n with
  | none => simpa using h n v hn
  | some e => rw [hk n e h2] at hn; cases hn

/-- Of two operations side by side, the second may come up ahead of the first. -/
theorem tr_swap (hE : ∃ w, WS w0 M lS w) {ki kj : K} (hk : okPair kj ki = true) {bi bj : Bool} {ri rj : World → Result Next} {m : Value → Value → List (Nat × Ent) → Prop} (hm : ∀ v u l l', EqL l l' → m v u l → m v u l')
    (h : tr P w0 M lS kj bj rj l fun v l1 => tr P w0 M lS ki bi ri l1 (m v)) : tr P w0 M lS ki bi ri l fun u l1 => tr P w0 M lS kj bj rj l1 fun v => m v u := by
  obtain ⟨we, hwe⟩ := hE
  cases bj with
  | false => exact tr_mono (fun v l h => h) h
  | true =>
  cases bi with
  | false => exact h
  | true =>
  have pure : ∀ v, tr P w0 M lS ki true ri l (m v) → (∀ u l1, m v u l1 → tr P w0 M lS kj true rj l1 fun v => m v u) → tr P w0 M lS ki true ri l fun u l1 => tr P w0 M lS kj true rj l1 fun v => m v u := fun v h1 h2 => tr_mono (fun u l1 h => h2 u l1 h) h1
  cases kj with
  | g => obtain ⟨v, h1, h2⟩ := h; exact pure v h2 fun u l1 h => ⟨v, h1, h⟩
  | s => obtain ⟨v, h1, h2⟩ := h; exact pure v h2 fun u l1 h => ⟨v, h1, h⟩
  | c => obtain ⟨v, h1, h2⟩ := h; exact pure v h2 fun u l1 h => ⟨v, h1, h⟩
  | l => simp [okPair] at hk
  | q =>
    obtain ⟨v, h1, h2⟩ := h
    cases ki with
    | l => simp [okPair] at hk
    | g => obtain ⟨u, h3, h4⟩ := h2; exact ⟨u, h3, v, h1, h4⟩
    | s => obtain ⟨u, h3, h4⟩ := h2; exact ⟨u, h3, v, h1, h4⟩
    | c => obtain ⟨u, h3, h4⟩ := h2; exact ⟨u, h3, v, h1, h4⟩
    | q => obtain ⟨u, h3, h4⟩ := h2; exact ⟨u, h3, v, h1, h4⟩
    | a j =>
      rcases h2 with ⟨u, h3, h4⟩ | ⟨t, cs, h3, h4, h5, h6⟩
      · exact .inl ⟨u, h3, v, h1, h4⟩
      · exact .inr ⟨t, cs, h3, h4, h5, fun g hg => ⟨v, fun w hw => h1 w (hw.sub ((Sub.refl l).fresh h4)), h6 g hg⟩⟩
  | a j =>
    rcases h with ⟨v, h1, h2⟩ | ⟨t, cs, h1, h2, h3, H⟩
    · exact pure v h2 fun u l1 h => .inl ⟨v, h1, h⟩
    · have purei : (∀ g, w0.heap.size ≤ g → ∃ u, (∀ w, WS w0 M lS w → ri w = .ok (.value u) w) ∧ m (.pointer (some ⟨g, 0, none⟩)) u ((j, ⟨some g, t, cs.toList⟩) :: l)) →
          ∃ u, (∀ w, WS w0 M lS w → ri w = .ok (.value u) w) ∧ tr P w0 M lS (.a j) true rj l fun v => m v u := fun H => by
        obtain ⟨u, h4, _⟩ := H _ (Nat.le_refl _)
        refine ⟨u, h4, .inr ⟨t, cs, h1, h2, h3, fun g hg => ?_⟩⟩
        obtain ⟨u', h5, h6⟩ := H g hg
        have e1 := h4 we hwe
        rw [h5 we hwe] at e1
        have : u' = u := by injection e1 with e1; injection e1
        rw [← this]; exact h6
      cases ki with
      | g => exact purei H
      | s => exact purei H
      | c => simp [okPair] at hk
      | q => simp [okPair] at hk
      | l => simp [okPair] at hk
      | a i =>
        have H0 := H _ (Nat.le_refl _)
        rcases H0 with ⟨u, h4, _⟩ | ⟨t', cs', h4, h5, h6, _⟩
        · refine .inl (purei fun g hg => ?_)
          rcases H g hg with h7 | ⟨t', cs', _, _, h7, _⟩
          · exact h7
          · have e1 := h4 we hwe
            rw [h7 we hwe] at e1
            injection e1 with _ e1
            have := congrArg (fun w : World => w.heap.size) e1
            simp at this
        · rw [lk_cons] at h5
          split at h5
          · cases h5
          rename_i hji
          refine .inr ⟨t', cs', h4, h5, h6, fun g' hg' => .inr ⟨t, cs, h1, by rw [lk_cons, if_neg (Ne.symm hji)]; exact h2, h3, fun g hg => ?_⟩⟩
          rcases H g hg with ⟨u, h7, _⟩ | ⟨t2, cs2, _, _, h7, h8⟩
          · have e1 := h6 we hwe
            rw [h7 we hwe] at e1
            injection e1 with _ e1
            have := congrArg (fun w : World => w.heap.size) e1
            simp at this
          · have e1 := h6 we hwe
            rw [h7 we hwe] at e1
            injection e1 with _ e1
            have e2 := congrArg (fun w : World => w.heap[we.heap.size]?) e1
            simp only [heap_alloc_at, if_true, Option.some.injEq, Obj.cells.injEq] at e2
            obtain ⟨e3, e4, _⟩ := e2
            subst e3 e4
            refine hm _ _ _ _ (fun n => ?_) (h8 g' hg')
            simp only [lk_cons]
            split
            · rename_i h9; subst h9; rw [if_neg hji]
            · rfl

def stepW (P : Program) (ops : Array Oper) (w0 : World) (M : List Nat) (lS : List (Nat × Ent)) (k : K) (o : Oper) (a : Act) (l : List (Nat × Ent)) (next : Act → List (Nat × Ent) → Prop) : Prop :=
  tr P w0 M lS k (Region.wanted o (yielded ops a.tmps)) (fun w => (execOp a.eval o).run P w) l fun v => next (a.put o.dst v)

/-- A list of operations with their kinds, one behind the other. -/
def JJ (P : Program) (ops : Array Oper) (F : Act → World → Prop) (w0 : World) (M : List Nat) (lS : List (Nat × Ent)) : List (Oper × K) → Act → List (Nat × Ent) → Prop
  | [], a, l => ∀ w, WS w0 M l w → F a w
  | (o, k) :: L, a, l => stepW P ops w0 M lS k o a l (JJ P ops F w0 M lS L)

theorem JJ_eq : ∀ (L : List (Oper × K)) (a : Act) (l l' : List (Nat × Ent)), EqL l l' → JJ P ops F w0 M lS L a l → JJ P ops F w0 M lS L a l'
  | [], _, _, _, he, h => fun w hw => h w (hw.sub he.sub)
  | (o, k) :: L, a, l, l', he, h => by
    simp only [JJ, stepW] at h ⊢
    exact tr_eq he (fun v l l' h1 h2 => JJ_eq L _ l l' h1 h2) h

theorem JJ_swap (hE : ∃ w, WS w0 M lS w) {oi oj : Oper} {ki kj : K} (hk : okPair kj ki = true) (hap : oj.apart ops oi = true) (hsi : ∀ cs b, oi.op ≠ .select cs b) (hsj : ∀ cs b, oj.op ≠ .select cs b) {L : List (Oper × K)} {a : Act} {l : List (Nat × Ent)}
    (h : JJ P ops F w0 M lS ((oj, kj) :: (oi, ki) :: L) a l) : JJ P ops F w0 M lS ((oi, ki) :: (oj, kj) :: L) a l := by
  obtain ⟨p1, p2, p3⟩ := Oper.apart_spec hap
  simp only [JJ, stepW] at h ⊢
  have e1 : ∀ v, (fun w => (execOp (a.put oj.dst v).eval oi).run P w) = fun w => (execOp a.eval oi).run P w := fun v => by rw [execOp_put oi hsi a oj.dst v p1]
  have e2 : ∀ v, (fun w => (execOp (a.put oi.dst v).eval oj).run P w) = fun w => (execOp a.eval oj).run P w := fun v => by rw [execOp_put oj hsj a oi.dst v p3]
  simp only [e1, wanted_put oi a oj.dst _ p1] at h
  simp only [e2, wanted_put oj a oi.dst _ p3]
  have h2 := tr_swap (m := fun v u l => JJ P ops F w0 M lS L ((a.put oj.dst v).put oi.dst u) l) hE hk (fun v u l l' he hl => JJ_eq L _ l l' he hl) h
  refine tr_mono (fun u l1 h3 => tr_mono (fun v l2 h4 => ?_) h3) h2
  rw [← Act.put_comm a v u p2]
  exact h4

theorem JJ_mono1 {o : Oper} {k : K} {L L' : List (Oper × K)} (hL : ∀ a l, JJ P ops F w0 M lS L a l → JJ P ops F w0 M lS L' a l) {a : Act} {l : List (Nat × Ent)} (h : JJ P ops F w0 M lS ((o, k) :: L) a l) : JJ P ops F w0 M lS ((o, k) :: L') a l := by
  simp only [JJ, stepW] at h ⊢
  exact tr_mono (fun _ _ h => hL _ _ h) h

theorem JJ_bubble (hE : ∃ w, WS w0 M lS w) (hsel : ∀ (o : Oper) cs b, o ∈ ops.toList → o.op ≠ .select cs b) (x : Oper × K) (hx : x.1 ∈ ops.toList) (L2 : List (Oper × K)) : ∀ (L1 : List (Oper × K)), (∀ y ∈ L1, y.1 ∈ ops.toList ∧ okPair y.2 x.2 = true ∧ y.1.apart ops x.1 = true) → ∀ a l,
    JJ P ops F w0 M lS (L1 ++ x :: L2) a l → JJ P ops F w0 M lS (x :: (L1 ++ L2)) a l
  | [], _, _, _, h => h
  | y :: L1, hy, a, l, h => by
    obtain ⟨h1, h2, h3⟩ := hy y List.mem_cons_self
    have ih := JJ_bubble hE hsel x hx L2 L1 (fun z hz => hy z (List.mem_cons_of_mem _ hz))
    exact JJ_swap hE h2 h3 (fun cs b => hsel _ cs b hx) (fun cs b => hsel _ cs b h1) (JJ_mono1 ih h)

theorem quiet_run' {o : Oper} {a : Act} {w : World} {v : Value} {l : List (Nat × Ent)} {K' : Act → World → Prop} {Q : Exit → Act → World → Prop} (hw : WS w0 M l w)
    (h : Oper.quietUpon P (fun w' => WS w [] [] w') w v ((execOp a.eval o).run P w)) (hk : ∀ w', WS w0 M l w' → K' (a.put o.dst v) w') : o.wp P a w K' Q := by
  unfold Oper.wp
  generalize (execOp a.eval o).run P w = r at *
  cases r with
  | ok n w' =>
    cases n <;> simp only [Oper.quietUpon] at h <;> simp only [Oper.upon]
    case value u => obtain ⟨e1, e2⟩ := h; rw [e1, e2]; exact hk _ hw
    case skip => obtain ⟨e1, e2⟩ := h; rw [e1, ← e2]; exact hk _ hw
    case enter f args => obtain ⟨e1, hc⟩ := h; rw [e1]; exact hc.mono fun e w'' ⟨he, hw''⟩ => by subst he; exact hk _ (hw.join0 hw'')
  | halt x w' => simp only [Oper.quietUpon] at h

theorem wp_of_stepW {k : K} {o : Oper} {a : Act} {l : List (Nat × Ent)} {n : Act → List (Nat × Ent) → Prop} {K' : Act → World → Prop} {Q : Exit → Act → World → Prop} {w : World} (hs : stepW P ops w0 M lS k o a l n) (hw : WS w0 M l w) (hS : Sub lS l)
    (h : ∀ a' l' w', WS w0 M l' w' → Sub lS l' → n a' l' → K' a' w') : if Region.wanted o (yielded ops a.tmps) then o.wp P a w K' Q ∨ (o.asks P a w ∧ LetsOut Q) else K' (a.put o.dst undef) w := by
  unfold stepW tr at hs
  split
  · rename_i hwt
    rw [if_pos hwt] at hs
    refine .inl ?_
    have pure : ∀ v, (∀ w, WS w0 M lS w → (execOp a.eval o).run P w = .ok (.value v) w) → n (a.put o.dst v) l → o.wp P a w K' Q := fun v h1 h2 => by
      simp only [Oper.wp, h1 w (hw.sub hS), Oper.upon]
      exact h _ _ _ hw hS h2
    cases k with
    | g => obtain ⟨v, h1, h2⟩ := hs; exact pure v h1 h2
    | s => obtain ⟨v, h1, h2⟩ := hs; exact pure v h1 h2
    | c => obtain ⟨v, h1, h2⟩ := hs; exact quiet_run' hw (h1 w (hw.sub hS)) fun w' hw' => h _ _ _ hw' hS h2
    | q => obtain ⟨v, h1, h2⟩ := hs; exact quiet_run' hw (h1 w hw) fun w' hw' => h _ _ _ hw' hS h2
    | a j =>
      rcases hs with ⟨v, h1, h2⟩ | ⟨t, cs, h1, h2, h3, h4⟩
      · exact pure v h1 h2
      · simp only [Oper.wp, h3 w (hw.sub hS), Oper.upon]
        have := hw.alloc j cs.toList t
        rw [Array.toArray_toList] at this
        exact h _ _ _ this (hS.fresh h1) (h4 _ hw.size)
    | l => exact loud_run (hs w hw) fun v w' ⟨l', h1, h2, h3⟩ => h _ _ _ h1 h2 h3
  · rename_i hwt
    rw [if_neg hwt] at hs
    exact h _ _ _ hw hS hs

theorem wpList_of_JJ {Q : Exit → Act → World → Prop} : ∀ (L : List (Oper × K)) (a : Act) (l : List (Nat × Ent)) (w : World), WS w0 M l w → Sub lS l → JJ P ops (fun a w => Q .normal a w) w0 M lS L a l → wpList P ops Q (L.map (·.1)) a w
  | [], _, _, w, hw, _, h => h w hw
  | (o, k) :: L, a, l, w, hw, hS, h => by
    simp only [List.map_cons, wpList]
    exact wp_of_stepW h hw hS fun a' l' w' h1 h2 h3 => wpList_of_JJ L a' l' w' h1 h2 h3

structure Inv (md : Region.Mode) (ops : Array Oper) (π : List (Nat × K)) (listed : Array Bool) : Prop where
  down : Down md ops listed
  size : listed.size = ops.size
  iff : ∀ j, j < ops.size → (listed.getD j false = false ↔ j ∈ π.map (·.1))
  lt : ∀ x ∈ π, x.1 < ops.size ∧ edgeB md ops x.1 x.1 = false
  on : ∀ (j : Nat) (o : Oper), ops[j]? = some o → ∀ e ∈ o.after.toList, Region.binds md e = true → e.on < ops.size
  pair : π.Pairwise (PairR md ops)

theorem getD_either {listed : Array Bool} {j : Nat} (h : j < listed.size) (d d' : Bool) : listed.getD j d = listed.getD j d' := by simp [h]

theorem Inv.head {md : Region.Mode} {x : Nat × K} {π : List (Nat × K)} {listed : Array Bool} (h : Inv md ops (x :: π) listed) : x.1 ∈ Region.ready md ops listed := by
  obtain ⟨hlt, hself⟩ := h.lt x List.mem_cons_self
  have ho : ops[x.1]? = some ops[x.1] := Array.getElem?_eq_getElem hlt
  refine mem_ready.2 ⟨?_, _, ho, fun e he hb => ?_⟩
  · rw [getD_either (by rw [h.size]; exact hlt) true false]
    exact (h.iff _ hlt).2 (by simp)
  · have he' : e ∈ (ops[x.1]).after.toList := by simpa using he
    have hon := h.on _ _ ho e he' hb
    cases hl : listed.getD e.on false with
    | true => rfl
    | false =>
      have hm := (h.iff _ hon).1 hl
      simp only [List.map_cons, List.mem_cons, List.mem_map] at hm
      rcases hm with hm | ⟨y, hy, hm⟩
      · exact absurd hm (edgeB_no hself ho he' hb)
      · have := List.rel_of_pairwise_cons h.pair hy
        exact absurd hm.symm (edgeB_no this.free ho he' hb)

theorem Inv.next {md : Region.Mode} {x : Nat × K} {π1 π2 : List (Nat × K)} {listed : Array Bool} (h : Inv md ops (π1 ++ x :: π2) listed) (hr : x.1 ∈ Region.ready md ops listed) : Inv md ops (π1 ++ π2) (listed.setIfInBounds x.1 true) := by
  have hp := h.pair
  rw [List.pairwise_append, List.pairwise_cons] at hp
  obtain ⟨hp1, ⟨hp2, hp3⟩, hp4⟩ := hp
  refine ⟨h.down.set hr, by simpa using h.size, fun j hj => ?_, fun y hy => h.lt y ?_, h.on, ?_⟩
  · by_cases hjx : x.1 = j
    · subst hjx
      have : (listed.setIfInBounds x.1 true).getD x.1 false = true := by simp [h.size, hj]
      rw [this]
      refine ⟨fun h => (by cases h), fun hm => ?_⟩
      simp only [List.map_append, List.mem_append, List.mem_map] at hm
      rcases hm with ⟨y, hy, hm⟩ | ⟨y, hy, hm⟩
      · exact absurd hm (hp4 y hy x List.mem_cons_self).ne
      · exact absurd hm.symm (hp2 y hy).ne
    · rw [getD_set_ne false hjx, h.iff j hj]
      simp only [List.map_append, List.map_cons, List.mem_append, List.mem_cons, Ne.symm hjx, false_or]
  · rcases List.mem_append.1 hy with h | h
    · exact List.mem_append_left _ h
    · exact List.mem_append_right _ (List.mem_cons_of_mem _ h)
  · exact List.pairwise_append.2 ⟨hp1, hp3, fun a ha b hb => hp4 a ha b (List.mem_cons_of_mem _ hb)⟩

abbrev opK (ops : Array Oper) (x : Nat × K) : Oper × K := (ops.getD x.1 default, x.2)

theorem wpAny_of_JJ {md : Region.Mode} {Q : Exit → Act → World → Prop} (hsel : ∀ (j : Nat) (o : Oper) cs b, ops[j]? = some o → o.op ≠ .select cs b) (hE : ∃ w, WS w0 M lS w) : ∀ (n : Nat) (π : List (Nat × K)) (listed : Array Bool) (a : Act) (l : List (Nat × Ent)) (w : World), π.length = n → Inv md ops π listed →
    JJ P ops (fun a w => Q .normal a w) w0 M lS (π.map (opK ops)) a l → WS w0 M l w → Sub lS l → wpAny P md ops Q n listed a w
  | 0, π, listed, a, l, w, hn, hi, h, hw, hS => by
    obtain rfl := List.length_eq_zero_iff.1 hn
    refine ⟨List.eq_nil_iff_forall_not_mem.2 fun j hj => ?_, h w hw⟩
    obtain ⟨hun, o, ho, _⟩ := mem_ready.1 hj
    have hlt : j < ops.size := (Array.getElem?_eq_some_iff.1 ho).1
    have := (hi.iff j hlt).1 (by rw [getD_either (by rw [hi.size]; exact hlt) false true]; exact hun)
    simp at this
  | n + 1, π, listed, a, l, w, hn, hi, h, hw, hS => by
    refine ⟨fun h0 => ?_, fun i hri => ?_⟩
    · cases π with
      | nil => simp at hn
      | cons x π => have := hi.head; rw [h0] at this; cases this
    · obtain ⟨hun, o, ho, hall⟩ := mem_ready.1 hri
      have hlt : i < ops.size := (Array.getElem?_eq_some_iff.1 ho).1
      have hm := (hi.iff i hlt).1 (by rw [getD_either (by rw [hi.size]; exact hlt) false true]; exact hun)
      obtain ⟨x, hx, rfl⟩ := List.mem_map.1 hm
      obtain ⟨π1, π2, rfl⟩ := List.append_of_mem hx
      have hod : ∀ j, j < ops.size → ops.getD j default ∈ ops.toList := fun j hj => by
        rw [show ops.getD j default = ops[j] by simp [hj]]
        simp
      have hox : ops.getD x.1 default = o := by
        simp only [Array.getD, hlt, dif_pos]
        exact (Array.getElem?_eq_some_iff.1 ho).2
      have hsel' : ∀ (o : Oper) cs b, o ∈ ops.toList → o.op ≠ .select cs b := fun o cs b ho => by
        obtain ⟨j, hj⟩ := List.getElem?_of_mem ho
        exact hsel j o cs b (by simpa using hj)
      have hp := hi.pair
      rw [List.pairwise_append] at hp
      rw [List.map_append, List.map_cons] at h
      have hb := JJ_bubble hE hsel' (opK ops x) (hod _ hlt) (π2.map (opK ops)) (π1.map (opK ops)) (fun y hy => by
        obtain ⟨y, hy', rfl⟩ := List.mem_map.1 hy
        have hy := hy'
        have hylt := (hi.lt y (List.mem_append_left _ hy)).1
        refine ⟨hod _ hylt, ?_⟩
        rcases (hp.2.2 y hy x List.mem_cons_self).ok with hanc | hok
        · have h1 := hanc.listed hi.down fun o' ho' e he hb => hall e (by
            rw [ho] at ho'; cases ho'; simpa using he) hb
          have h2 := (hi.iff y.1 hylt).2 (List.mem_map.2 ⟨y, List.mem_append_left _ hy, rfl⟩)
          rw [h1] at h2; cases h2
        · exact hok) a l h
      rw [← List.map_append] at hb
      unfold wpOp
      simp only [ho]
      simp only [JJ, hox] at hb
      exact wp_of_stepW hb hw hS fun a' l' w' h1 h2 h3 =>
        wpAny_of_JJ hsel hE n (π1 ++ π2) _ a' l' w' (by simp at hn ⊢; omega) (hi.next hri) h3 h1 h2

theorem walk_inv {md : Region.Mode} {π : List (Nat × K)} (h : WalkR md ops π) : Inv md ops π (Array.replicate ops.size false) :=
  ⟨fun k o hk => by
      rcases Nat.lt_or_ge k ops.size with h | h
      · simp [h] at hk
      · simp [Nat.not_lt.2 h] at hk, by simp, fun j hj => ⟨fun _ => h.all j hj, fun _ => by simp [hj]⟩, h.lt, h.on, h.pair⟩
end

/-! ### Code -/
variable {P : Program} {Q : Exit → Act → World → Prop} {lS : List (Nat × Ent)}

def T (P : Program) (w0 : World) (M : List Nat) (N : Nf) (Q : Exit → Act → World → Prop) (c : Code) (σ : List (Nat × Value)) (l : List (Nat × Ent)) : Prop :=
  ∀ a w, Has N σ a → WS w0 M l w → c.wp P Q a w
/-- The exit e is met in the state. -/
def X (w0 : World) (M : List Nat) (N : Nf) (Q : Exit → Act → World → Prop) (e : Exit) (σ : List (Nat × Value)) (l : List (Nat × Ent)) : Prop :=
  ∀ a w, Has N σ a → WS w0 M l w → Q e a w
/-- A list of operations: lS are entries that no loud operation of the region turns. -/
def J (P : Program) (ops : Array Oper) (F : Act → World → Prop) (w0 : World) (M : List Nat) (N : Nf) (lS : List (Nat × Ent)) (L : List (Oper × K)) (σ : List (Nat × Value)) (l : List (Nat × Ent)) : Prop :=
  Sub lS l → ∀ a, Has N σ a → JJ P ops F w0 M lS L a l

theorem T.seq {x y : Code} (h : T P w0 M N (Exit.then (y.wp P Q) Q) x σ l) : T P w0 M N Q (.seq x y) σ l := fun a w ha hw => wp_seq (h a w ha hw)
theorem T.skip (h : X w0 M N Q .normal σ l) : T P w0 M N Q .skip σ l := fun a w ha hw => wp_skip (h a w ha hw)
theorem T.label {n : Nat} (h : X w0 M N Q .normal σ l) : T P w0 M N Q (.label n) σ l := fun a w ha hw => wp_label (h a w ha hw)
theorem T.exit {id : Nat} (h : X w0 M N Q (.exit id) σ l) : T P w0 M N Q (.exit id) σ l := fun a w ha hw => wp_exit (h a w ha hw)
theorem T.ret (h : X w0 M N Q .ret σ l) : T P w0 M N Q .ret σ l := fun a w ha hw => wp_ret (h a w ha hw)
theorem T.block {id : Nat} {c : Code} (h : T P w0 M N (Exit.inBlock id Q) c σ l) : T P w0 M N Q (.block id c) σ l := fun a w ha hw => wp_block (h a w ha hw)
theorem T.cond {c : Operand} {x y : Code} {b : Bool} (hc : ev σ c = some (.bool b)) (ht : b = true → T P w0 M N Q x σ l) (hf : b = false → T P w0 M N Q y σ l) : T P w0 M N Q (.cond c x y) σ l :=
  fun a w ha hw => wp_cond_split (ha.eval hc) (fun h => ht h a w ha hw) (fun h => hf h a w ha hw)
theorem T.cond_true {c : Operand} {x y : Code} (hc : ev σ c = some (.bool true)) (ht : T P w0 M N Q x σ l) : T P w0 M N Q (.cond c x y) σ l := fun a w ha hw => wp_cond_true (ha.eval hc) (ht a w ha hw)
theorem T.cond_false {c : Operand} {x y : Code} (hc : ev σ c = some (.bool false)) (hf : T P w0 M N Q y σ l) : T P w0 M N Q (.cond c x y) σ l := fun a w ha hw => wp_cond_false (ha.eval hc) (hf a w ha hw)
theorem T.cond_dec {c : Operand} {x y : Code} {p : Prop} [Decidable p] (hc : ev σ c = some (.bool (decide p))) (ht : p → T P w0 M N Q x σ l) (hf : ¬ p → T P w0 M N Q y σ l) : T P w0 M N Q (.cond c x y) σ l :=
  T.cond hc (fun h => ht (of_decide_eq_true h)) (fun h => hf (of_decide_eq_false h))
theorem T.sub {c : Code} {σ' : List (Nat × Value)} {l' : List (Nat × Ent)} (hσ : Sub σ' σ) (hl : Sub l' l) (h : T P w0 M N Q c σ' l') : T P w0 M N Q c σ l := fun a w ha hw => h a w (ha.sub hσ) (hw.sub hl)

theorem T.text {id : Nat} {ops : Array Oper} (ks : List K) (hn : ops.toList.length = ks.length) (h : J P ops (fun a w => Q .normal a w) w0 M N [] (ops.toList.zip ks) σ l) : T P w0 M N Q (.region id ops false) σ l :=
  fun a w ha hw => wp_region_list (by
    have := wpList_of_JJ _ a l w hw (Sub.nil _) (h (Sub.nil _) a ha)
    rwa [List.map_fst_zip (by omega)] at this)

theorem T.draw {id : Nat} {ops : Array Oper} (lS : List (Nat × Ent)) (π : List (Nat × K)) (hm : P.follows .mixedOrders = true)
    (hB : walkB .any ops π = true)
    (h : J P ops (fun a w => Q .normal a w) w0 M N lS (π.map fun p => (ops.getD p.1 default, p.2)) σ l) (hlS : Sub lS l) :
    T P w0 M N Q (.region id ops true) σ l :=
  fun a w ha hw => wp_region_any hm (by
    have hW := walkB_spec hB
    have := wpAny_of_JJ hW.sel ⟨w, hw.sub hlS⟩ π.length π _ a l _ rfl (walk_inv hW) (h hlS a ha) hw.drew hlS
    rwa [hW.len] at this)

theorem stepW.yes {ops : Array Oper} {o : Oper} {k : K} {next : Act → List (Nat × Ent) → Prop} (hg : o.guard = none) (h : tr P w0 M lS k true (fun w => (execOp a.eval o).run P w) l fun v => next (a.put o.dst v)) : stepW P ops w0 M lS k o a l next := by
  unfold stepW
  rw [show Region.wanted o (yielded ops a.tmps) = true by simp [Region.wanted, hg]]
  exact h

/-- An operation whose value is known, and which leaves the world alone. -/
theorem J.pure {ops : Array Oper} {F : Act → World → Prop} {o : Oper} {k : K} {L : List (Oper × K)} (hg : o.guard = none) (hd : okd N o.dst) (v : Value)
    (hr : ∀ a, Has N σ a → ∀ w, (execOp a.eval o).run P w = .ok (.value v) w) (h : J P ops F w0 M N lS L (putd o.dst v σ) l) : J P ops F w0 M N lS ((o, k) :: L) σ l := fun hlS a ha => stepW.yes hg (by
  have h2 := h hlS _ (ha.putd hd v)
  cases k with
  | g => exact ⟨v, fun w _ => hr a ha w, h2⟩
  | s => exact ⟨v, fun w _ => hr a ha w, h2⟩
  | c => exact ⟨v, fun w _ => by show Oper.quietUpon P _ w v ((execOp a.eval o).run P w); rw [hr a ha w]; exact ⟨rfl, rfl⟩, h2⟩
  | q => exact ⟨v, fun w _ => by show Oper.quietUpon P _ w v ((execOp a.eval o).run P w); rw [hr a ha w]; exact ⟨rfl, rfl⟩, h2⟩
  | a j => exact .inl ⟨v, fun w _ => hr a ha w, h2⟩
  | l => exact fun w hw => by show loudUpon P _ ((execOp a.eval o).run P w); rw [hr a ha w]; exact ⟨l, hw, hlS, h2⟩)

def nog : K → Prop
  | .l | .q => True
  | _ => False
/-- Likewise, of the worlds of the class alone. -/
theorem J.quiet {ops : Array Oper} {F : Act → World → Prop} {o : Oper} {k : K} {L : List (Oper × K)} (hg : o.guard = none) (hk : nog k) (hd : okd N o.dst) (v : Value)
    (hr : ∀ a, Has N σ a → ∀ w, WS w0 M l w → (execOp a.eval o).run P w = .ok (.value v) w) (h : J P ops F w0 M N lS L (putd o.dst v σ) l) : J P ops F w0 M N lS ((o, k) :: L) σ l := fun hlS a ha => stepW.yes hg (by
  have h2 := h hlS _ (ha.putd hd v)
  cases k with
  | q => exact ⟨v, fun w hw => by show Oper.quietUpon P _ w v ((execOp a.eval o).run P w); rw [hr a ha w hw]; exact ⟨rfl, rfl⟩, h2⟩
  | l => exact fun w hw => by show loudUpon P _ ((execOp a.eval o).run P w); rw [hr a ha w hw]; exact ⟨l, hw, hlS, h2⟩
  | _ => exact hk.elim)
/-- Likewise, out of what no operation of the region turns. -/
theorem J.stable {ops : Array Oper} {F : Act → World → Prop} {o : Oper} {L : List (Oper × K)} (hg : o.guard = none) (hd : okd N o.dst) (v : Value)
    (hr : ∀ a, Has N σ a → ∀ w, WS w0 M lS w → (execOp a.eval o).run P w = .ok (.value v) w) (h : J P ops F w0 M N lS L (putd o.dst v σ) l) : J P ops F w0 M N lS ((o, .s) :: L) σ l := fun hlS a ha =>
  stepW.yes hg ⟨v, hr a ha, h hlS _ (ha.putd hd v)⟩

/-- A loud one. -/
theorem J.loud {ops : Array Oper} {F : Act → World → Prop} {o : Oper} {L : List (Oper × K)} (hg : o.guard = none) (hd : okd N o.dst) {ι : Type} (φ : ι → Prop) (v : ι → Value) (lf : ι → List (Nat × Ent))
    (hS : ∀ i, φ i → Sub lS l → Sub lS (lf i))
    (hr : ∀ a, Has N σ a → ∀ w, WS w0 M l w → loudUpon P (fun u w' => ∃ i, φ i ∧ u = v i ∧ WS w0 M (lf i) w') ((execOp a.eval o).run P w))
    (h : ∀ i, φ i → J P ops F w0 M N lS L (putd o.dst (v i) σ) (lf i)) : J P ops F w0 M N lS ((o, .l) :: L) σ l := fun hlS a ha => stepW.yes hg (show ∀ w, _ from
  fun w hw => loudUpon_mono (fun u w' ⟨i, hi, hu, hw'⟩ => ⟨lf i, hw', hS i hi hlS, by subst hu; exact h i hi (hS i hi hlS) _ (ha.putd hd _)⟩) (hr a ha w hw))

/-- A new variable, anywhere in the region. -/
theorem J.newA {ops : Array Oper} {F : Act → World → Prop} {L : List (Oper × K)} {op : Op} {d : Option Tmp} {ty : TypeId} {p : String} {af : Array Edge} {t : TypeId} (h : Nat) (hd : okd N d) (hh : lk lS h = none) (hl : lk l h = none) (cs : List Value) (hr : ∀ a, Has N σ a → ∀ w, (execOp a.eval ⟨d, op, ty, p, af, none⟩).run P w = .ok (.value (.pointer (some ⟨w.heap.size, 0, none⟩))) (w.alloc (.cells cs.toArray t)))
    (hJ : ∀ g, w0.heap.size ≤ g → J P ops F w0 M N lS L (putd d (.pointer (some ⟨g, 0, none⟩)) σ) ((h, ⟨some g, t, cs⟩) :: l)) : J P ops F w0 M N lS ((⟨d, op, ty, p, af, none⟩, .a h) :: L) σ l := fun hlS a ha =>
  stepW.yes rfl (.inr ⟨t, cs.toArray, hh, hl, fun w _ => hr a ha w, fun g hg => hJ g hg (hlS.fresh hh) _ (ha.putd hd _)⟩)

theorem Has.wanted {ops : Array Oper} (ha : Has N σ a) {o : Oper} {j t : Nat} {b b' : Bool} (hg : o.guard = some (j, b)) (ht : (ops[j]?).bind (·.dst) = some t) (hb : lk σ t = some (.bool b')) :
    Region.wanted o (yielded ops a.tmps) = (b' == b) := by
  have h1 := ha.get t _ hb
  simp only [Region.wanted, hg, yielded, ht, Option.bind_some, h1]
  cases b <;> cases b' <;> rfl

/-- A guard that says yes: the operation as if it had none. -/
theorem J.yes {ops : Array Oper} {F : Act → World → Prop} {d : Option Tmp} {op : Op} {ty : TypeId} {p : String} {af : Array Edge} {j t : Nat} {b : Bool} {k : K} {L : List (Oper × K)}
    (ht : (ops[j]?).bind (·.dst) = some t) (hb : lk σ t = some (.bool b))
    (h : J P ops F w0 M N lS ((⟨d, op, ty, p, af, none⟩, k) :: L) σ l) : J P ops F w0 M N lS ((⟨d, op, ty, p, af, some (j, b)⟩, k) :: L) σ l := fun hlS a ha => by
  have h1 := h hlS a ha
  have e1 : Region.wanted ⟨d, op, ty, p, af, some (j, b)⟩ (yielded ops a.tmps) = true := by rw [ha.wanted rfl ht hb]; simp
  have e2 : Region.wanted ⟨d, op, ty, p, af, none⟩ (yielded ops a.tmps) = true := by simp [Region.wanted]
  simp only [JJ, stepW, e1] at h1 ⊢
  rw [e2] at h1
  exact h1

/-- A guard that says no. -/
theorem J.no {ops : Array Oper} {F : Act → World → Prop} {d : Option Tmp} {op : Op} {ty : TypeId} {p : String} {af : Array Edge} {j t : Nat} {b b' : Bool} {k : K} {L : List (Oper × K)}
    (ht : (ops[j]?).bind (·.dst) = some t) (hb : lk σ t = some (.bool b')) (hne : (b' == b) = false) (hd : okd N d)
    (h : J P ops F w0 M N lS L (putd d undef σ) l) : J P ops F w0 M N lS ((⟨d, op, ty, p, af, some (j, b)⟩, k) :: L) σ l := fun hlS a ha => by
  have e1 : Region.wanted ⟨d, op, ty, p, af, some (j, b)⟩ (yielded ops a.tmps) = false := by rw [ha.wanted rfl ht hb, hne]
  simp only [JJ, stepW, e1]
  exact h hlS _ (ha.putd hd undef)

theorem J.sub {ops : Array Oper} {F : Act → World → Prop} {L : List (Oper × K)} {σ' : List (Nat × Value)} (hσ : Sub σ' σ) (h : J P ops F w0 M N lS L σ' l) : J P ops F w0 M N lS L σ l := fun hlS a ha => h hlS a (ha.sub hσ)

/-- A truth that is not decided yet. -/
theorem J.split {ops : Array Oper} {F : Act → World → Prop} {L : List (Oper × K)} {p : Prop} [Decidable p] (t : Nat) (hb : lk σ t = some (.bool (decide p)))
    (ht : p → J P ops F w0 M N lS L ((t, .bool true) :: σ) l) (hf : ¬ p → J P ops F w0 M N lS L ((t, .bool false) :: σ) l) : J P ops F w0 M N lS L σ l := by
  have put : ∀ b, (decide p) = b → ∀ n v, lk ((t, Value.bool b) :: σ) n = some v → lk σ n = some v := fun b hb' n v hn => by
    rw [lk_cons] at hn
    split at hn
    · rename_i hk; subst hk; rw [hb, hb']; exact hn
    · exact hn
  by_cases hp : p
  · exact fun hlS a ha => ht hp hlS a (ha.sub (put true (by simp [hp])))
  · exact fun hlS a ha => hf hp hlS a (ha.sub (put false (by simp [hp])))

theorem J.nil {ops : Array Oper} {F : Act → World → Prop} (h : ∀ a w, Has N σ a → WS w0 M l w → F a w) : J P ops F w0 M N lS [] σ l := fun _ a ha w hw => h a w ha hw
/-- At a region's end: the exit 'normal'. -/
theorem J.end {ops : Array Oper} (h : X w0 M N Q .normal σ l) : J P ops (fun a w => Q .normal a w) w0 M N lS [] σ l := fun _ a ha w hw => h a w ha hw

/-! ### Exits -/
theorem X.then {y : Code} (h : T P w0 M N Q y σ l) : X w0 M N (Exit.then (y.wp P Q) Q) .normal σ l := h
theorem X.then_ret {K' : Act → World → Prop} (h : X w0 M N Q .ret σ l) : X w0 M N (Exit.then K' Q) .ret σ l := h
theorem X.then_exit {K' : Act → World → Prop} {id : Nat} (h : X w0 M N Q (.exit id) σ l) : X w0 M N (Exit.then K' Q) (.exit id) σ l := h
theorem X.inBlock {id : Nat} (h : X w0 M N Q .normal σ l) : X w0 M N (Exit.inBlock id Q) .normal σ l := h
theorem X.inBlock_ret {id : Nat} (h : X w0 M N Q .ret σ l) : X w0 M N (Exit.inBlock id Q) .ret σ l := h
theorem X.inBlock_eq {id : Nat} (h : X w0 M N Q .normal σ l) : X w0 M N (Exit.inBlock id Q) (.exit id) σ l := fun a w ha hw => by
  simp only [Exit.inBlock, if_true]; exact h a w ha hw
theorem X.inBlock_ne {id id' : Nat} (hne : Nat.beq id' id = false) (h : X w0 M N Q (.exit id') σ l) : X w0 M N (Exit.inBlock id Q) (.exit id') σ l := fun a w ha hw => by
  simp only [Exit.inBlock, if_neg (fun e => by subst e; simp at hne : ¬ id' = id)]; exact h a w ha hw

/-- A piece of state of which a loop, or a place where ways meet, speaks. -/
def At (w0 : World) (M : List Nat) (N : Nf) {ι : Type} (φ : ι → Prop) (σf : ι → List (Nat × Value)) (lf : ι → List (Nat × Ent)) (a : Act) (w : World) : Prop :=
  ∃ i, φ i ∧ Has N (σf i) a ∧ WS w0 M (lf i) w

theorem X.at {ι : Type} {φ : ι → Prop} {σf : ι → List (Nat × Value)} {lf : ι → List (Nat × Ent)} {Q' : Exit → Act → World → Prop} (i : ι) (hφ : φ i) (hσ : Sub (σf i) σ) (hl : Sub (lf i) l) :
    X w0 M N (Exit.then (At w0 M N φ σf lf) Q') .normal σ l := fun _ _ ha hw => ⟨i, hφ, ha.sub hσ, hw.sub hl⟩

theorem T.meet {x y : Code} {ι : Type} (φ : ι → Prop) (σf : ι → List (Nat × Value)) (lf : ι → List (Nat × Ent)) (h : T P w0 M N (Exit.then (At w0 M N φ σf lf) Q) x σ l)
    (hy : ∀ i, φ i → T P w0 M N Q y (σf i) (lf i)) : T P w0 M N Q (.seq x y) σ l := fun a w ha hw =>
  wp_seq (wp_mono (h a w ha hw) fun e a' w' q => by
    cases e with
    | normal => obtain ⟨i, hi, h1, h2⟩ := q; exact hy i hi _ _ h1 h2
    | _ => exact q)

/-- A loop: the state at its head, and a number that each round lowers. -/
theorem T.loop {c : Code} {ι : Type} (φ : ι → Prop) (σf : ι → List (Nat × Value)) (lf : ι → List (Nat × Ent)) (μ : ι → Nat) (i0 : ι) (h0 : φ i0) (hσ : Sub (σf i0) σ) (hl : Sub (lf i0) l)
    (round : ∀ i, φ i → T P w0 M N (Exit.then (At w0 M N (fun j => φ j ∧ μ j < μ i) σf lf) Q) c (σf i) (lf i)) : T P w0 M N Q (.loop c) σ l := by
  have key : ∀ n i, μ i = n → φ i → ∀ a w, Has N (σf i) a → WS w0 M (lf i) w → ∀ (b : Frame) (k : List Item) (cs : List Frame),
      ∃ e a' w', Q e a' w' ∧ Arrives P (lone (b.at a (.code c :: .inLoop c :: k)) cs w) b k cs e a' w' := by
    intro n
    induction n using Nat.strongRecOn with
    | _ n ih =>
      intro i hn hi a w ha hw b k cs
      obtain ⟨e, a₁, w₁, hq, harr⟩ := round i hi a w ha hw b (.inLoop c :: k) cs
      cases e with
      | normal =>
        obtain ⟨j, ⟨hj, hlt⟩, ha1, hw1⟩ := hq
        obtain ⟨e₂, a₂, w₂, hq₂, harr₂⟩ := ih (μ j) (hn ▸ hlt) j rfl hj a₁ w₁ ha1 hw1 b k cs
        exact ⟨e₂, a₂, w₂, hq₂, .of_steps (Steps.trans harr (.one step_inLoop)) harr₂⟩
      | exit id => exact ⟨_, a₁, w₁, hq, .pass (x := .inLoop c) rfl (fun _ _ => .inl (by simp)) harr⟩
      | goto l => exact ⟨_, a₁, w₁, hq, .pass (x := .inLoop c) rfl (fun _ _ => .inl (by simp)) harr⟩
      | ret => exact ⟨_, a₁, w₁, hq, .pass (x := .inLoop c) rfl (fun _ _ => .inl (by simp)) harr⟩
      | panic ch => exact ⟨_, a₁, w₁, hq, .pass (x := .inLoop c) rfl (fun _ _ => .inl (by simp)) harr⟩
      | outgrown => exact ⟨_, a₁, w₁, hq, .pass (x := .inLoop c) rfl (fun _ _ => .inl (by simp)) harr⟩
  intro a w ha hw b k cs
  obtain ⟨e, a', w', hq, harr⟩ := key _ i0 rfl h0 a w (ha.sub hσ) (hw.sub hl) b k cs
  exact ⟨e, a', w', hq, .of_steps (.one step_loop) harr⟩

theorem X.round {ι : Type} {φ : ι → Prop} {σf : ι → List (Nat × Value)} {lf : ι → List (Nat × Ent)} {μ : ι → Nat} {n : Nat} {Q' : Exit → Act → World → Prop} (i : ι) (hφ : φ i) (hμ : μ i < n) (hσ : Sub (σf i) σ) (hl : Sub (lf i) l) :
    X w0 M N (Exit.then (At w0 M N (fun j => φ j ∧ μ j < n) σf lf) Q') .normal σ l := fun _ _ ha hw => ⟨i, ⟨hφ, hμ⟩, ha.sub hσ, hw.sub hl⟩

/-! ### A function -/
def argσ : Nat → List Value → List (Nat × Value)
  | _, [] => []
  | n, v :: vs => (n, v) :: argσ (n + 1) vs

theorem lk_argσ : ∀ (vs : List Value) (k n : Nat) (v : Value), lk (argσ k vs) n = some v → k ≤ n ∧ vs[n - k]? = some v
  | [], k, n, v, h => by simp [argσ, lk] at h
  | u :: vs, k, n, v, h => by
    simp only [argσ, lk_cons] at h
    split at h
    · rename_i hk; subst hk; simpa using h
    · obtain ⟨h1, h2⟩ := lk_argσ vs (k + 1) n v h
      refine ⟨by omega, ?_⟩
      rw [show n - k = (n - (k + 1)) + 1 by omega]
      simpa using h2

theorem calls_of_T {f : FuncId} {fn : Func} {c : Code} {args : List Value} {R : Ending → World → Prop} (M : List Nat) (N : Nat) (l : List (Nat × Ent)) (hf : P.funcs[f]? = some fn) (hb : fn.body = some c) (hN : fn.ntmps = N)
    (hle : args.length ≤ N) (hw : WS w M l w) (h : T P w M ⟨N, []⟩ (bodyPost P fn R) c (argσ 0 args) l) : Calls P f args.toArray w R := by
  refine calls_of_wp hf hb (h _ _ ⟨by simp [hN]; omega, rfl, fun n v hn => ?_⟩ hw)
  obtain ⟨_, h2⟩ := lk_argσ args 0 n v hn
  have hlt : n < args.length := by
    have := (List.getElem?_eq_some_iff.1 h2).1
    simpa using this
  rw [Nat.sub_zero] at h2
  rw [Array.getElem?_append]
  simp only [List.size_toArray, hlt, if_true, List.getElem?_toArray]
  exact h2

/-- What a type's row says of its size. -/
def aggD (d : TypeDesc) : Bool := match d with
  | .struct _ | .array _ _ => true
  | _ => false
def AggT (P : Program) (t : TypeId) (n : Nat) : Prop := (∃ d, P.underlying t = some d ∧ aggD d = true) ∧ (P.info? t).map (·.size) = some n
def OneT (P : Program) (t : TypeId) : Prop := (∃ d, P.underlying t = some d ∧ aggD d = false) ∧ (P.info? t).map (·.size) = some 1

theorem run_isAgg {t : TypeId} {d : TypeDesc} (h : P.underlying t = some d) (w : World) : (isAgg t).run P w = .ok (aggD d) w := by
  simp only [isAgg, Sem.run_bind, run_underlying h, Result.andThen]
  cases d <;> rfl

theorem run_sizeOf {t : TypeId} {n : Nat} (h : (P.info? t).map (·.size) = some n) (w : World) : (sizeOf t).run P w = .ok n w := by
  cases hi : P.info? t with
  | none => simp [hi] at h
  | some i => simp [hi] at h; subst h; simp [sizeOf, typeInfo, hi]

theorem run_loadVar_agg {t : TypeId} {n : Nat} (ht : AggT P t n) (ad : Addr) (cs : List Value) (hn : cs.length = n) (hc : ∀ j v, cs[j]? = some v → w.cell? (ad.add j) = some v) : (loadVar t ad).run P w = .ok (.agg cs.toArray) w := by
  obtain ⟨⟨d, hd, hdd⟩, hs⟩ := ht
  subst hn
  simp [loadVar, run_isAgg hd, hdd, run_sizeOf hs, run_loadCells_list (P := P) w ad cs hc]

theorem run_loadVar_one {t : TypeId} (ht : OneT P t) (ad : Addr) (v : Value) (hc : w.cell? ad = some v) : (loadVar t ad).run P w = .ok v w := by
  obtain ⟨⟨d, hd, hdd⟩, hs⟩ := ht
  simp [loadVar, run_isAgg hd, hdd, hc]

/-- What a result's variable holds. -/
def RV (P : Program) (w0 : World) (M : List Nat) (σ : List (Nat × Value)) (l : List (Nat × Ent)) (r : ResultVar) (v : Value) : Prop :=
  match r with
  | .tmp t => lk σ t = some v
  | .cell a t => ∃ ad, lk σ a = some (.pointer (some ad)) ∧ ∀ w, WS w0 M l w → (loadVar t ad).run P w = .ok v w

theorem RV.tmp {t : Nat} {v : Value} (h : lk σ t = some v) : RV P w0 M σ l (.tmp t) v := h
theorem RV.agg {p t n : Nat} {v : Value} (k : Nat) {e : Ent} {o : Nat} (he : lk l k = some e) (hp : lk σ p = some (.pointer (some ⟨e.id.getD 0, o, none⟩))) (ht : AggT P t n)
    (cs : List Value) (hn : cs.length = n) (hc : (e.cs.drop o).take n = cs) (hv : v = .agg cs.toArray) : RV P w0 M σ l (.cell p t) v := by
  refine ⟨_, hp, fun w hw => ?_⟩
  rw [hv]
  refine run_loadVar_agg ht _ cs hn fun j v hj => ?_
  have : (⟨e.id.getD 0, o, none⟩ : Addr).add j = ⟨e.id.getD 0, o + j, none⟩ := by unfold Addr.add; split <;> simp_all
  rw [this]
  refine hw.cell he ?_
  rw [← hc] at hj
  have hlt : j < n := by
    rcases Nat.lt_or_ge j n with h | h
    · exact h
    · rw [List.getElem?_eq_none (by simp; omega)] at hj; cases hj
  rw [List.getElem?_take_of_lt hlt, List.getElem?_drop] at hj
  exact hj
theorem RV.one {p t : Nat} {v : Value} (k : Nat) {e : Ent} {o : Nat} (he : lk l k = some e) (hp : lk σ p = some (.pointer (some ⟨e.id.getD 0, o, none⟩))) (ht : OneT P t) (hv : e.cs[o]? = some v) : RV P w0 M σ l (.cell p t) v :=
  ⟨_, hp, fun _ hw => run_loadVar_one ht _ _ (hw.cell he hv)⟩

def rvSem (tmps : Array Value) (r : ResultVar) : Sem Value := match r with
  | .tmp t => Pure.pure (tmps.getD t undef)
  | .cell p t => do loadVar t (← asAddr (tmps.getD p undef))

theorem RV.run {r : ResultVar} {v : Value} (h : RV P w0 M σ l r v) (ha : Has N σ a) (hw : WS w0 M l w) : (rvSem a.tmps r).run P w = .ok v w := by
  cases r with
  | tmp t => have := ha.get t v h; simp [rvSem, this]
  | cell p t =>
    obtain ⟨ad, hp, hl⟩ := h
    have := ha.get p _ hp
    simp [rvSem, this, asAddr, hl w hw]

theorem results_rv (fn : Func) (tmps : Array Value) : results fn tmps = (do
    let vs ← fn.results.mapM (rvSem tmps)
    Pure.pure (if h : vs.size = 1 then vs[0] else .tuple vs)) := by
  unfold results
  congr 2

theorem X.ret0 {fn : Func} {R : Ending → World → Prop} (hr : fn.results = #[]) (h : ∀ w, WS w0 M l w → R (.returned (.tuple #[])) w) (hD : N.D = [] := by rfl) : X w0 M N (bodyPost P fn R) .ret σ l := fun a w ha hw =>
  ⟨ha.defers.trans hD, _, by simp [results, hr], h w hw⟩
theorem X.end0 {fn : Func} {R : Ending → World → Prop} (hr : fn.results = #[]) (h : ∀ w, WS w0 M l w → R (.returned (.tuple #[])) w) (hD : N.D = [] := by rfl) : X w0 M N (bodyPost P fn R) .normal σ l := fun a w ha hw =>
  ⟨ha.defers.trans hD, _, by simp [results, hr], h w hw⟩
theorem X.ret1 {fn : Func} {R : Ending → World → Prop} {r : ResultVar} {v : Value} (hr : fn.results = #[r]) (hv : RV P w0 M σ l r v) (h : ∀ w, WS w0 M l w → R (.returned v) w) (hD : N.D = [] := by rfl) : X w0 M N (bodyPost P fn R) .ret σ l := fun a w ha hw =>
  ⟨ha.defers.trans hD, v, by simp [results_rv, hr, hv.run ha hw], h w hw⟩
theorem X.ret2 {fn : Func} {R : Ending → World → Prop} {r s : ResultVar} {v u : Value} (hr : fn.results = #[r, s]) (hv : RV P w0 M σ l r v) (hu : RV P w0 M σ l s u) (h : ∀ w, WS w0 M l w → R (.returned (.tuple #[v, u])) w) (hD : N.D = [] := by rfl) : X w0 M N (bodyPost P fn R) .ret σ l := fun a w ha hw =>
  ⟨ha.defers.trans hD, _, by simp [results_rv, hr, hv.run ha hw, hu.run ha hw], h w hw⟩
end Go.Fw
set_option linter.unusedVariables false
namespace Go.Fw
open Go
variable {P : Program} {ops : Array Oper} {F : Act → World → Prop} {w0 : World} {M : List Nat} {N : Nf} {L : List (Oper × K)} {σ : List (Nat × Value)} {l lS : List (Nat × Ent)} {k : K}
  {d : Option Tmp} {ty : TypeId} {p : String} {af : Array Edge} {v v1 v2 z : Value} {x y c : Operand} {t : TypeId} {kd : IntKind} {n m r : Int} {b : Bool}

/-! ### Values -/
theorem J.move (hx : ev σ x = some v) (hd : okd N d) (h : J P ops F w0 M N lS L (putd d v σ) l) : J P ops F w0 M N lS ((⟨d, .move x, ty, p, af, none⟩, k) :: L) σ l :=
  J.pure rfl hd v (fun a ha w => by simp [execOp, ha.eval hx]) h
theorem J.assign (hx : ev σ x = some v) (hd : okd N d) (h : J P ops F w0 M N lS L (putd d v σ) l) : J P ops F w0 M N lS ((⟨d, .assign x, ty, p, af, none⟩, k) :: L) σ l :=
  J.pure rfl hd v (fun a ha w => by simp [execOp, ha.eval hx]) h
theorem J.pick_t (hc : ev σ c = some (.bool true)) (hx : ev σ x = some v) (hd : okd N d) (h : J P ops F w0 M N lS L (putd d v σ) l) : J P ops F w0 M N lS ((⟨d, .pick c x y, ty, p, af, none⟩, k) :: L) σ l :=
  J.pure rfl hd v (fun a ha w => by simp [execOp, ha.eval hc, ha.eval hx, asBool]) h
theorem J.pick_f (hc : ev σ c = some (.bool false)) (hy : ev σ y = some v) (hd : okd N d) (h : J P ops F w0 M N lS L (putd d v σ) l) : J P ops F w0 M N lS ((⟨d, .pick c x y, ty, p, af, none⟩, k) :: L) σ l :=
  J.pure rfl hd v (fun a ha w => by simp [execOp, ha.eval hc, ha.eval hy, asBool]) h

theorem J.add {t' : TypeId} (hx : ev σ x = some (.int kd n)) (hy : ev σ y = some (.int kd m)) (hd : okd N d) (hz : kd.wrap (n + m) = r) (h : J P ops F w0 M N lS L (putd d (.int kd r) σ) l) : J P ops F w0 M N lS ((⟨d, .binOp .add t x y t', ty, p, af, none⟩, k) :: L) σ l :=
  J.pure rfl hd _ (fun a ha w => by subst hz; simp [execOp, ha.eval hx, ha.eval hy, eqGuard_add, binOp_add, Op.intArith]) h
theorem J.sub' {t' : TypeId} (hx : ev σ x = some (.int kd n)) (hy : ev σ y = some (.int kd m)) (hd : okd N d) (hz : kd.wrap (n - m) = r) (h : J P ops F w0 M N lS L (putd d (.int kd r) σ) l) : J P ops F w0 M N lS ((⟨d, .binOp .sub t x y t', ty, p, af, none⟩, k) :: L) σ l :=
  J.pure rfl hd _ (fun a ha w => by subst hz; simp [execOp, ha.eval hx, ha.eval hy, eqGuard_sub, binOp_sub, Op.intArith]) h
theorem J.mul {t' : TypeId} (hx : ev σ x = some (.int kd n)) (hy : ev σ y = some (.int kd m)) (hd : okd N d) (hz : kd.wrap (n * m) = r) (h : J P ops F w0 M N lS L (putd d (.int kd r) σ) l) : J P ops F w0 M N lS ((⟨d, .binOp .mul t x y t', ty, p, af, none⟩, k) :: L) σ l :=
  J.pure rfl hd _ (fun a ha w => by subst hz; simp [execOp, ha.eval hx, ha.eval hy, eqGuard_mul, binOp_mul, Op.intArith]) h
theorem J.quo {t' : TypeId} (hx : ev σ x = some (.int kd n)) (hy : ev σ y = some (.int kd m)) (hd : okd N d) (hm : m ≠ 0) (hz : kd.wrap (n.tdiv m) = r) (h : J P ops F w0 M N lS L (putd d (.int kd r) σ) l) : J P ops F w0 M N lS ((⟨d, .binOp .quo t x y t', ty, p, af, none⟩, k) :: L) σ l :=
  J.pure rfl hd _ (fun a ha w => by subst hz; simp [execOp, ha.eval hx, ha.eval hy, eqGuard_quo, binOp_quo, Op.intDiv, hm]) h
theorem J.rem {t' : TypeId} (hx : ev σ x = some (.int kd n)) (hy : ev σ y = some (.int kd m)) (hd : okd N d) (hm : m ≠ 0) (hz : n.tmod m = r) (h : J P ops F w0 M N lS L (putd d (.int kd r) σ) l) : J P ops F w0 M N lS ((⟨d, .binOp .rem t x y t', ty, p, af, none⟩, k) :: L) σ l :=
  J.pure rfl hd _ (fun a ha w => by subst hz; simp [execOp, ha.eval hx, ha.eval hy, eqGuard_rem, binOp_rem, Op.intDiv, hm]) h
theorem J.band {t' : TypeId} (hx : ev σ x = some (.int kd n)) (hy : ev σ y = some (.int kd m)) (hd : okd N d) (hz : bits .and kd n m = r) (h : J P ops F w0 M N lS L (putd d (.int kd r) σ) l) : J P ops F w0 M N lS ((⟨d, .binOp .and t x y t', ty, p, af, none⟩, k) :: L) σ l :=
  J.pure rfl hd _ (fun a ha w => by subst hz; simp [execOp, ha.eval hx, ha.eval hy, eqGuard_and, binOp_and, intBits_and]) h
theorem J.bor {t' : TypeId} (hx : ev σ x = some (.int kd n)) (hy : ev σ y = some (.int kd m)) (hd : okd N d) (hz : bits .or kd n m = r) (h : J P ops F w0 M N lS L (putd d (.int kd r) σ) l) : J P ops F w0 M N lS ((⟨d, .binOp .or t x y t', ty, p, af, none⟩, k) :: L) σ l :=
  J.pure rfl hd _ (fun a ha w => by subst hz; simp [execOp, ha.eval hx, ha.eval hy, eqGuard_or, binOp_or, intBits_or]) h
theorem J.bxor {t' : TypeId} (hx : ev σ x = some (.int kd n)) (hy : ev σ y = some (.int kd m)) (hd : okd N d) (hz : bits .xor kd n m = r) (h : J P ops F w0 M N lS L (putd d (.int kd r) σ) l) : J P ops F w0 M N lS ((⟨d, .binOp .xor t x y t', ty, p, af, none⟩, k) :: L) σ l :=
  J.pure rfl hd _ (fun a ha w => by subst hz; simp [execOp, ha.eval hx, ha.eval hy, eqGuard_xor, binOp_xor, intBits_xor]) h
theorem J.bandnot {t' : TypeId} (hx : ev σ x = some (.int kd n)) (hy : ev σ y = some (.int kd m)) (hd : okd N d) (hz : bits .andNot kd n m = r) (h : J P ops F w0 M N lS L (putd d (.int kd r) σ) l) : J P ops F w0 M N lS ((⟨d, .binOp .andNot t x y t', ty, p, af, none⟩, k) :: L) σ l :=
  J.pure rfl hd _ (fun a ha w => by subst hz; simp [execOp, ha.eval hx, ha.eval hy, eqGuard_andNot, binOp_andNot, intBits_andNot]) h
theorem J.shl {t' : TypeId} {yk : IntKind} (hx : ev σ x = some (.int kd n)) (hy : ev σ y = some (.int yk m)) (hd : okd N d) (hm : 0 ≤ m) (hz : kd.wrap (n * 2 ^ min m.toNat kd.bits) = r) (h : J P ops F w0 M N lS L (putd d (.int kd r) σ) l) : J P ops F w0 M N lS ((⟨d, .binOp .shl t x y t', ty, p, af, none⟩, k) :: L) σ l :=
  J.pure rfl hd _ (fun a ha w => by subst hz; simp [execOp, ha.eval hx, ha.eval hy, eqGuard_shl, binOp_shl, Op.shift, Int.not_lt.2 hm]) h
theorem J.shr {t' : TypeId} {yk : IntKind} (hx : ev σ x = some (.int kd n)) (hy : ev σ y = some (.int yk m)) (hd : okd N d) (hm : 0 ≤ m) (hz : n.fdiv (2 ^ min m.toNat kd.bits) = r) (h : J P ops F w0 M N lS L (putd d (.int kd r) σ) l) : J P ops F w0 M N lS ((⟨d, .binOp .shr t x y t', ty, p, af, none⟩, k) :: L) σ l :=
  J.pure rfl hd _ (fun a ha w => by subst hz; simp [execOp, ha.eval hx, ha.eval hy, eqGuard_shr, binOp_shr, Op.shift, Int.not_lt.2 hm]) h
theorem J.lss {t' : TypeId} (hx : ev σ x = some (.int kd n)) (hy : ev σ y = some (.int kd m)) (hd : okd N d) (hz : decide (n < m) = b) (h : J P ops F w0 M N lS L (putd d (.bool b) σ) l) : J P ops F w0 M N lS ((⟨d, .binOp .lss t x y t', ty, p, af, none⟩, k) :: L) σ l :=
  J.pure rfl hd _ (fun a ha w => by subst hz; simp [execOp, ha.eval hx, ha.eval hy, eqGuard_lss, binOp_lss]) h
theorem J.leq {t' : TypeId} (hx : ev σ x = some (.int kd n)) (hy : ev σ y = some (.int kd m)) (hd : okd N d) (hz : decide (n ≤ m) = b) (h : J P ops F w0 M N lS L (putd d (.bool b) σ) l) : J P ops F w0 M N lS ((⟨d, .binOp .leq t x y t', ty, p, af, none⟩, k) :: L) σ l :=
  J.pure rfl hd _ (fun a ha w => by subst hz; simp [execOp, ha.eval hx, ha.eval hy, eqGuard_leq, binOp_leq]) h
theorem J.gtr {t' : TypeId} (hx : ev σ x = some (.int kd n)) (hy : ev σ y = some (.int kd m)) (hd : okd N d) (hz : decide (m < n) = b) (h : J P ops F w0 M N lS L (putd d (.bool b) σ) l) : J P ops F w0 M N lS ((⟨d, .binOp .gtr t x y t', ty, p, af, none⟩, k) :: L) σ l :=
  J.pure rfl hd _ (fun a ha w => by subst hz; simp [execOp, ha.eval hx, ha.eval hy, eqGuard_gtr, binOp_gtr]) h
theorem J.geq {t' : TypeId} (hx : ev σ x = some (.int kd n)) (hy : ev σ y = some (.int kd m)) (hd : okd N d) (hz : decide (m ≤ n) = b) (h : J P ops F w0 M N lS L (putd d (.bool b) σ) l) : J P ops F w0 M N lS ((⟨d, .binOp .geq t x y t', ty, p, af, none⟩, k) :: L) σ l :=
  J.pure rfl hd _ (fun a ha w => by subst hz; simp [execOp, ha.eval hx, ha.eval hy, eqGuard_geq, binOp_geq]) h
theorem J.eql {t' : TypeId} (hx : ev σ x = some (.int kd n)) (hy : ev σ y = some (.int kd m)) (hd : okd N d) (hz : decide (n = m) = b) (h : J P ops F w0 M N lS L (putd d (.bool b) σ) l) : J P ops F w0 M N lS ((⟨d, .binOp .eql t x y t', ty, p, af, none⟩, k) :: L) σ l :=
  J.pure rfl hd _ (fun a ha w => by subst hz; simp [execOp, ha.eval hx, ha.eval hy, eqGuard_at_int, binOp_eql]; rfl) h
theorem J.neq {t' : TypeId} (hx : ev σ x = some (.int kd n)) (hy : ev σ y = some (.int kd m)) (hd : okd N d) (hz : decide (n ≠ m) = b) (h : J P ops F w0 M N lS L (putd d (.bool b) σ) l) : J P ops F w0 M N lS ((⟨d, .binOp .neq t x y t', ty, p, af, none⟩, k) :: L) σ l :=
  J.pure rfl hd _ (fun a ha w => by
    subst hz
    simp only [execOp, ha.eval hx, ha.eval hy, eqGuard_at_int, binOp_neq, Sem.run_bind, Sem.run_pure, Result.andThen]
    have : (n != m) = decide (n ≠ m) := by by_cases h : n = m <;> simp [h]
    rw [this]) h
/-- Comparing what is no pair of integers: the run of '==' is the caller's to show. -/
theorem J.eqlR {op : BinOp} {t' : TypeId} (hx : ev σ x = some v1) (hy : ev σ y = some v2) (hd : okd N d) (hz : ∀ w, (do eqGuard op t x y v1 v2; binOp op t v1 v2 : Sem Value).run P w = .ok z w) (h : J P ops F w0 M N lS L (putd d z σ) l) :
    J P ops F w0 M N lS ((⟨d, .binOp op t x y t', ty, p, af, none⟩, k) :: L) σ l :=
  J.pure rfl hd _ (fun a ha w => by
    have := hz w
    simp only [execOp, ha.eval hx, ha.eval hy, Sem.run_bind] at this ⊢
    rw [this]; rfl) h
theorem J.not {b' : Bool} (hx : ev σ x = some (.bool b')) (hd : okd N d) (hz : (!b') = b) (h : J P ops F w0 M N lS L (putd d (.bool b) σ) l) : J P ops F w0 M N lS ((⟨d, .unOp .not t x, ty, p, af, none⟩, k) :: L) σ l :=
  J.pure rfl hd _ (fun a ha w => by subst hz; simp [execOp, ha.eval hx, Op.unary]) h
theorem J.neg (hx : ev σ x = some (.int kd n)) (hd : okd N d) (hz : kd.wrap (0 - n) = r) (h : J P ops F w0 M N lS L (putd d (.int kd r) σ) l) : J P ops F w0 M N lS ((⟨d, .unOp .neg t x, ty, p, af, none⟩, k) :: L) σ l :=
  J.pure rfl hd _ (fun a ha w => by subst hz; simp [execOp, ha.eval hx, Op.unary, Op.intArith]) h
theorem J.compl (hx : ev σ x = some (.int kd n)) (hd : okd N d) (hz : bits .xor kd (if kd.signed then -1 else kd.max) n = r) (h : J P ops F w0 M N lS L (putd d (.int kd r) σ) l) : J P ops F w0 M N lS ((⟨d, .unOp .xor t x, ty, p, af, none⟩, k) :: L) σ l :=
  J.pure rfl hd _ (fun a ha w => by subst hz; simp [execOp, ha.eval hx, Op.unary, intBits_xor]) h
theorem J.conv {src dst : TypeId} {ks : IntKind} (hs : (P.underlying src).isSome = true) (ht : P.underlying dst = some (.int kd)) (hx : ev σ x = some (.int ks n)) (hd : okd N d) (hz : kd.wrap n = r) (h : J P ops F w0 M N lS L (putd d (.int kd r) σ) l) :
    J P ops F w0 M N lS ((⟨d, .convert src dst x, ty, p, af, none⟩, k) :: L) σ l :=
  J.pure rfl hd _ (fun a ha w => by
    subst hz
    cases hu : P.underlying src with
    | none => simp [hu] at hs
    | some ud => cases ud <;> simp [execOp, ha.eval hx, convert, run_underlying hu, run_underlying ht, Conv.intToInt]) h
theorem J.extract {i : Nat} {vs : List Value} (hx : ev σ x = some (.tuple vs.toArray)) (hi : vs[i]? = some v) (hd : okd N d) (h : J P ops F w0 M N lS L (putd d v σ) l) : J P ops F w0 M N lS ((⟨d, .extract x i, ty, p, af, none⟩, k) :: L) σ l :=
  J.pure rfl hd v (fun a ha w => by simp [execOp, ha.eval hx, Instr.extract, hi]) h
theorem J.nilCheck {ad : Addr} (hx : ev σ x = some (.pointer (some ad))) (hd : okd N d) (h : J P ops F w0 M N lS L (putd d (.pointer (some ad)) σ) l) : J P ops F w0 M N lS ((⟨d, .nilCheck x, ty, p, af, none⟩, k) :: L) σ l :=
  J.pure rfl hd _ (fun a ha w => by simp [execOp, ha.eval hx]) h
theorem J.makeFunc {fn : Fn} {fs cs : Array Operand} {vf vc : List Value} (hf : evs σ fs.toList = some vf) (hc : evs σ cs.toList = some vc) (hd : okd N d) (h : J P ops F w0 M N lS L (putd d (.func fn vf.toArray vc.toArray) σ) l) :
    J P ops F w0 M N lS ((⟨d, .makeFunc fn fs cs, ty, p, af, none⟩, k) :: L) σ l :=
  J.pure rfl hd _ (fun a ha w => by
    have h1 : fs.map a.eval = vf.toArray := by rw [← ha.evals hf, ← Array.toList_map, Array.toArray_toList]
    have h2 : cs.map a.eval = vc.toArray := by rw [← ha.evals hc, ← Array.toList_map, Array.toArray_toList]
    simp [execOp, Instr.makeFunc, h1, h2]) h

/-! ### Variables in memory -/
def ZeroT (P : Program) (t : TypeId) (z : Value) : Prop := (P.info? t).map (·.zero) = some (some z)
theorem run_zeroValue (h : ZeroT P t z) (w : World) : (zeroValue t).run P w = .ok z w := by
  unfold ZeroT at h
  cases hi : P.info? t with
  | none => simp [hi] at h
  | some i => simp [hi] at h; simp [zeroValue, typeInfo, hi, h]

theorem J.new {op : Op} (hd : okd N d) (h : Nat) (hh : lk lS h = none) (cs : List Value) (hr : ∀ a, Has N σ a → ∀ w, (execOp a.eval ⟨d, op, ty, p, af, none⟩).run P w = .ok (.value (.pointer (some ⟨w.heap.size, 0, none⟩))) (w.alloc (.cells cs.toArray t)))
    (hJ : ∀ g, w0.heap.size ≤ g → J P ops F w0 M N lS L (putd d (.pointer (some ⟨g, 0, none⟩)) σ) ((h, ⟨some g, t, cs⟩) :: l)) : J P ops F w0 M N lS ((⟨d, op, ty, p, af, none⟩, .l) :: L) σ l :=
  J.loud rfl hd (ι := Nat) (fun g => w0.heap.size ≤ g) (fun g => .pointer (some ⟨g, 0, none⟩)) (fun g => (h, ⟨some g, t, cs⟩) :: l) (fun _ _ hs => hs.fresh hh)
    (fun a ha w hw => by rw [hr a ha w]; exact ⟨_, hw.size, rfl, hw.alloc h cs t⟩) hJ
theorem J.alloc (h : Nat) (hh : lk lS h = none) (hz : ZeroT P t z) (cs : List Value) (hc : z.cells = cs.toArray) (hd : okd N d)
    (hJ : ∀ g, w0.heap.size ≤ g → J P ops F w0 M N lS L (putd d (.pointer (some ⟨g, 0, none⟩)) σ) ((h, ⟨some g, t, cs⟩) :: l)) : J P ops F w0 M N lS ((⟨d, .alloc t, ty, p, af, none⟩, .l) :: L) σ l :=
  J.new hd h hh cs (fun a ha w => by
    simp only [execOp, Instr.alloc, Sem.run_bind, run_zeroValue hz, Result.andThen, newVar, newRow, run_newObj, hc]
    rfl) hJ
theorem J.allocA (h : Nat) (hh : lk lS h = none) (hl : lk l h = none) (hz : ZeroT P t z) (cs : List Value) (hc : z.cells = cs.toArray) (hd : okd N d)
    (hJ : ∀ g, w0.heap.size ≤ g → J P ops F w0 M N lS L (putd d (.pointer (some ⟨g, 0, none⟩)) σ) ((h, ⟨some g, t, cs⟩) :: l)) : J P ops F w0 M N lS ((⟨d, .alloc t, ty, p, af, none⟩, .a h) :: L) σ l :=
  J.newA h hd hh hl cs (fun a ha w => by
    simp only [execOp, Instr.alloc, Sem.run_bind, run_zeroValue hz, Result.andThen, newVar, newRow, run_newObj, hc]
    rfl) hJ
theorem J.box (h : Nat) (hh : lk lS h = none) (hx : ev σ x = some v) (cs : List Value) (hc : v.cells = cs.toArray) (hd : okd N d)
    (hJ : ∀ g, w0.heap.size ≤ g → J P ops F w0 M N lS L (putd d (.pointer (some ⟨g, 0, none⟩)) σ) ((h, ⟨some g, t, cs⟩) :: l)) : J P ops F w0 M N lS ((⟨d, .box t x, ty, p, af, none⟩, .l) :: L) σ l :=
  J.new hd h hh cs (fun a ha w => by
    simp only [execOp, Instr.box, ha.eval hx, Sem.run_bind, newVar, newRow, run_newObj, hc, Result.andThen]
    rfl) hJ

theorem J.load1 (hk : nog k) (h : Nat) {e : Ent} {o : Nat} (he : lk l h = some e) (hx : ev σ x = some (.pointer (some ⟨e.id.getD 0, o, none⟩))) (ht : OneT P t) (hv : e.cs[o]? = some v) (hd : okd N d)
    (hJ : J P ops F w0 M N lS L (putd d v σ) l) : J P ops F w0 M N lS ((⟨d, .load t x, ty, p, af, none⟩, k) :: L) σ l :=
  J.quiet rfl hk hd v (fun a ha w hw => by
    simp [execOp, ha.eval hx, Instr.loadAt, Instr.sureAddr, run_loadVar_one ht _ _ (hw.cell he hv)]) hJ

theorem seg_get {cs vs : List Value} {o n : Nat} (hc : (cs.drop o).take n = vs) {j : Nat} {u : Value} (hj : vs[j]? = some u) : cs[o + j]? = some u := by
  rw [← hc] at hj
  rcases Nat.lt_or_ge j n with h | h
  · rw [List.getElem?_take_of_lt h, List.getElem?_drop] at hj; exact hj
  · rw [List.getElem?_eq_none (by simp; omega)] at hj; cases hj

theorem J.loadN (hk : nog k) (h : Nat) {e : Ent} {o n : Nat} (he : lk l h = some e) (hx : ev σ x = some (.pointer (some ⟨e.id.getD 0, o, none⟩))) (ht : AggT P t n) (vs : List Value) (hn : vs.length = n) (hv : (e.cs.drop o).take n = vs) (hd : okd N d)
    (hJ : J P ops F w0 M N lS L (putd d (.agg vs.toArray) σ) l) : J P ops F w0 M N lS ((⟨d, .load t x, ty, p, af, none⟩, k) :: L) σ l :=
  J.quiet rfl hk hd _ (fun a ha w hw => by
    have hl := run_loadVar_agg (P := P) (w := w) ht ⟨e.id.getD 0, o, none⟩ vs hn (fun j u hj => by
      rw [show (⟨e.id.getD 0, o, none⟩ : Addr).add j = ⟨e.id.getD 0, o + j, none⟩ by unfold Addr.add; split <;> simp_all]
      exact hw.cell he (seg_get hv hj))
    simp [execOp, ha.eval hx, Instr.loadAt, Instr.sureAddr, hl]) hJ

theorem J.load1s (h : Nat) {e : Ent} {o : Nat} (he : lk lS h = some e) (hx : ev σ x = some (.pointer (some ⟨e.id.getD 0, o, none⟩))) (ht : OneT P t) (hv : e.cs[o]? = some v) (hd : okd N d)
    (hJ : J P ops F w0 M N lS L (putd d v σ) l) : J P ops F w0 M N lS ((⟨d, .load t x, ty, p, af, none⟩, .s) :: L) σ l :=
  J.stable rfl hd v (fun a ha w hw => by
    simp [execOp, ha.eval hx, Instr.loadAt, Instr.sureAddr, run_loadVar_one ht _ _ (hw.cell he hv)]) hJ
theorem J.loadNs (h : Nat) {e : Ent} {o n : Nat} (he : lk lS h = some e) (hx : ev σ x = some (.pointer (some ⟨e.id.getD 0, o, none⟩))) (ht : AggT P t n) (vs : List Value) (hn : vs.length = n) (hv : (e.cs.drop o).take n = vs) (hd : okd N d)
    (hJ : J P ops F w0 M N lS L (putd d (.agg vs.toArray) σ) l) : J P ops F w0 M N lS ((⟨d, .load t x, ty, p, af, none⟩, .s) :: L) σ l :=
  J.stable rfl hd _ (fun a ha w hw => by
    have hl := run_loadVar_agg (P := P) (w := w) ht ⟨e.id.getD 0, o, none⟩ vs hn (fun j u hj => by
      rw [show (⟨e.id.getD 0, o, none⟩ : Addr).add j = ⟨e.id.getD 0, o + j, none⟩ by unfold Addr.add; split <;> simp_all]
      exact hw.cell he (seg_get hv hj))
    simp [execOp, ha.eval hx, Instr.loadAt, Instr.sureAddr, hl]) hJ

/-- A load out of what lay there when the call began. -/
theorem J.loadI1 (hk : nog k) {A : Option Addr} {cs : List Value} {i : Nat} (hc : Cs w0 A cs) (ho : Off M A) (hx : ev σ x = some (.pointer (some ((A.getD default).add i)))) (ht : OneT P t) (hv : cs[i]? = some v) (hd : okd N d)
    (hJ : J P ops F w0 M N lS L (putd d v σ) l) : J P ops F w0 M N lS ((⟨d, .load t x, ty, p, af, none⟩, k) :: L) σ l :=
  J.quiet rfl hk hd v (fun a ha w hw => by
    obtain ⟨ad, hA, hcell⟩ := (hc.ws hw ho) i v hv
    subst hA
    simp only [Option.getD_some] at hx
    simp [execOp, ha.eval hx, Instr.loadAt, Instr.sureAddr, run_loadVar_one ht _ _ hcell]) hJ

theorem J.loadIN (hk : nog k) {A : Option Addr} {cs : List Value} {i n : Nat} (hc : Cs w0 A cs) (ho : Off M A) (hx : ev σ x = some (.pointer (some ((A.getD default).add i)))) (ht : AggT P t n) (vs : List Value) (hn : vs.length = n) (hv : (cs.drop i).take n = vs) (hd : okd N d)
    (hJ : J P ops F w0 M N lS L (putd d (.agg vs.toArray) σ) l) : J P ops F w0 M N lS ((⟨d, .load t x, ty, p, af, none⟩, k) :: L) σ l :=
  J.quiet rfl hk hd _ (fun a ha w hw => by
    have hl := run_loadVar_agg (P := P) (w := w) ht ((A.getD default).add i) vs hn (fun j u hj => by
      obtain ⟨ad, hA, hcell⟩ := (hc.ws hw ho) (i + j) u (seg_get hv hj)
      subst hA
      rw [Addr.add_add]; exact hcell)
    simp [execOp, ha.eval hx, Instr.loadAt, Instr.sureAddr, hl]) hJ

theorem J.loadI1s {A : Option Addr} {cs : List Value} {i : Nat} (hc : Cs w0 A cs) (ho : Off M A) (hx : ev σ x = some (.pointer (some ((A.getD default).add i)))) (ht : OneT P t) (hv : cs[i]? = some v) (hd : okd N d)
    (hJ : J P ops F w0 M N lS L (putd d v σ) l) : J P ops F w0 M N lS ((⟨d, .load t x, ty, p, af, none⟩, .s) :: L) σ l :=
  J.stable rfl hd v (fun a ha w hw => by
    obtain ⟨ad, hA, hcell⟩ := (hc.ws hw ho) i v hv
    subst hA
    simp only [Option.getD_some] at hx
    simp [execOp, ha.eval hx, Instr.loadAt, Instr.sureAddr, run_loadVar_one ht _ _ hcell]) hJ
theorem J.loadINs {A : Option Addr} {cs : List Value} {i n : Nat} (hc : Cs w0 A cs) (ho : Off M A) (hx : ev σ x = some (.pointer (some ((A.getD default).add i)))) (ht : AggT P t n) (vs : List Value) (hn : vs.length = n) (hv : (cs.drop i).take n = vs) (hd : okd N d)
    (hJ : J P ops F w0 M N lS L (putd d (.agg vs.toArray) σ) l) : J P ops F w0 M N lS ((⟨d, .load t x, ty, p, af, none⟩, .s) :: L) σ l :=
  J.stable rfl hd _ (fun a ha w hw => by
    have hl := run_loadVar_agg (P := P) (w := w) ht ((A.getD default).add i) vs hn (fun j u hj => by
      obtain ⟨ad, hA, hcell⟩ := (hc.ws hw ho) (i + j) u (seg_get hv hj)
      subst hA
      rw [Addr.add_add]; exact hcell)
    simp [execOp, ha.eval hx, Instr.loadAt, Instr.sureAddr, hl]) hJ

/-- The cells from o on, written over. -/
def put (cs : List Value) (o : Nat) (vs : List Value) : List Value := cs.take o ++ vs ++ cs.drop (o + vs.length)
theorem put_one (cs : List Value) (o : Nat) (v : Value) (ho : o < cs.length) : put cs o [v] = cs.set o v := by
  apply List.ext_getElem?
  intro j
  simp only [put, List.getElem?_append, List.length_append, List.length_take, List.length_singleton, List.getElem?_set, Nat.min_eq_left (Nat.le_of_lt ho)]
  by_cases h1 : j < o
  · simp [h1, Nat.ne_of_gt h1, show j < o + 1 by omega]
  · by_cases h2 : j = o
    · subst h2; simp [ho]
    · have h3 : ¬ j < o + 1 := by omega
      simp only [h3, if_false, List.getElem?_drop]
      rw [if_neg (by omega)]
      congr 1; omega

theorem run_store_ent {w : World} {g o : Nat} {e : Ent} (hg : e.id = some g) (hat : e.At w) (vs : List Value) (hfit : o + vs.length ≤ e.cs.length) (h1 : ∀ u ∈ vs, u.oneCell' = true) :
    (storeCells ⟨g, o, none⟩ vs).run P w = .ok () (w.setRow g (put e.cs o vs).toArray) := by
  obtain ⟨t, _, hat'⟩ : ∃ t, e.t = .ty t ∧ w.heap[g]? = some (.cells e.cs.toArray t (0, 0)) := by simpa only [Ent.At, hg] using hat
  have := run_storeCells_at P g o t vs 0 e.cs.toArray w hat' (by simpa using hfit) h1
  simpa [put] using this

/-- A store into an entry. -/
theorem J.store (h : Nat) (hh : lk lS h = none) {e : Ent} {o : Nat} (he : lk l h = some e) (hx : ev σ x = some (.pointer (some ⟨e.id.getD 0, o, none⟩))) (hy : ev σ y = some v) (vs : List Value) (hv : v.cells = vs.toArray) (hs : (P.info? t).map (·.size) = some vs.length)
    (hfit : o + vs.length ≤ e.cs.length) (h1 : ∀ u ∈ vs, u.oneCell' = true) (hne : 0 < vs.length) (hd : okd N d) (cs' : List Value) (hcs : put e.cs o vs = cs')
    (hJ : J P ops F w0 M N lS L (putd d undef σ) ((h, ⟨e.id, e.t, cs'⟩) :: l)) : J P ops F w0 M N lS ((⟨d, .store t x y, ty, p, af, none⟩, .l) :: L) σ l :=
  J.loud rfl hd (ι := Unit) (fun _ => True) (fun _ => undef) (fun _ => (h, ⟨e.id, e.t, cs'⟩) :: l) (fun _ _ hs => hs.fresh hh) (fun a ha w hw => by
    have hat := hw.live h e he
    cases hid : e.id with
    | none =>
      simp only [Ent.At, hid] at hat
      rw [hat.1] at hfit
      simp at hfit
      simp [hfit.2] at hne
    | some g =>
      rw [hid] at hx
      simp only [Option.getD_some] at hx
      have hst := run_store_ent (P := P) hid hat vs hfit h1
      have hsz : vs.length = v.cells.size := by simp [hv]
      have hset := hw.set he hid (put e.cs o vs)
      rw [hcs, hid] at hset
      have hrun : (execOp a.eval ⟨d, .store t x y, ty, p, af, none⟩).run P w = .ok .skip (w.setRow g (put e.cs o vs).toArray) := by
        simp only [execOp, ha.eval hx, ha.eval hy, Instr.storeAt, Instr.sureAddr, storeVar, Sem.run_bind, Sem.run_pure, Result.andThen, run_sizeOf hs, hsz, ne_eq, not_true_eq_false, if_false, hv, hst]
      rw [hrun, hcs]
      exact ⟨(), trivial, rfl, hset⟩) (fun _ _ => hJ)
end Go.Fw
set_option linter.unusedVariables false
namespace Go.Fw
open Go
variable {P : Program} {ops : Array Oper} {F : Act → World → Prop} {w0 : World} {M : List Nat} {N : Nf} {L : List (Oper × K)} {σ : List (Nat × Value)} {l lS : List (Nat × Ent)} {k : K}
  {d : Option Tmp} {ty : TypeId} {p : String} {af : Array Edge} {v v1 v2 z : Value} {x y c : Operand} {t : TypeId} {kd : IntKind} {n m r : Int} {b : Bool}

theorem add_lit' (g o i : Nat) : (⟨g, o, none⟩ : Addr).add i = ⟨g, o + i, none⟩ := by unfold Addr.add; split <;> simp_all

/-! ### Fields -/
def SizeT (P : Program) (t : TypeId) (n : Nat) : Prop := (P.info? t).map (·.size) = some n
/-- Field number i of the struct type s: its type, its place, its cells. -/
def FldT (P : Program) (s : TypeId) (i : Nat) (ft : TypeId) (off sz : Nat) : Prop :=
  (match P.underlying s with | some (.struct fs) => (fs[i]?).map (fun f => (f.type, f.offset)) | _ => none) = some (ft, off) ∧ SizeT P ft (sz + 1)

theorem FldT.open {s i ft off sz : Nat} (h : FldT P s i ft off sz) : ∃ fs f, P.underlying s = some (.struct fs) ∧ fs[i]? = some f ∧ f.type = ft ∧ f.offset = off := by
  obtain ⟨h1, _⟩ := h
  cases hu : P.underlying s with
  | none => simp [hu] at h1
  | some dd =>
    cases dd with
    | struct fs =>
      simp only [hu] at h1
      cases hf : fs[i]? with
      | none => simp [hf] at h1
      | some f => simp [hf] at h1; exact ⟨fs, f, rfl, hf, h1.1, h1.2⟩
    | _ => simp [hu] at h1

theorem run_fieldAt {s i ft off sz : Nat} (hf : FldT P s i ft off sz) (ad : Addr) (w : World) : (Instr.fieldAt s (.pointer (some ad)) i).run P w = .ok (.pointer (some (ad.add off))) w := by
  obtain ⟨fs, f, h1, h2, h3, h4⟩ := hf.open
  subst h3; subst h4
  simp [Instr.fieldAt, run_underlying h1, h2, Instr.sureAddr, fieldPlace, run_sizeOf hf.2]

theorem J.fieldAddr {s i ft off sz g o : Nat} (hf : FldT P s i ft off sz) (hx : ev σ x = some (.pointer (some ⟨g, o, none⟩))) (hd : okd N d) (hJ : J P ops F w0 M N lS L (putd d (.pointer (some ⟨g, o + off, none⟩)) σ) l) :
    J P ops F w0 M N lS ((⟨d, .fieldAddr s x i, ty, p, af, none⟩, k) :: L) σ l :=
  J.pure rfl hd _ (fun a ha w => by simp [execOp, ha.eval hx, run_fieldAt hf, add_lit']) hJ
/-- Of what lay there when the call began. -/
theorem J.fieldAddrI {s i ft off sz j : Nat} {ad : Addr} (hf : FldT P s i ft off sz) (hx : ev σ x = some (.pointer (some (ad.add j)))) (hd : okd N d) (hJ : J P ops F w0 M N lS L (putd d (.pointer (some (ad.add (j + off)))) σ) l) :
    J P ops F w0 M N lS ((⟨d, .fieldAddr s x i, ty, p, af, none⟩, k) :: L) σ l :=
  J.pure rfl hd _ (fun a ha w => by simp [execOp, ha.eval hx, run_fieldAt hf, Addr.add_add]) hJ

theorem run_part_agg {n : Nat} (ht : AggT P t n) (cs : Array Value) (o : Nat) (w : World) : (part t cs o).run P w = .ok (.agg (cs.extract o (o + n))) w := by
  obtain ⟨⟨dd, hd, hdd⟩, hs⟩ := ht
  simp [part, run_isAgg hd, hdd, run_sizeOf hs]
theorem run_part_one (ht : OneT P t) (cs : Array Value) (o : Nat) (h : cs[o]? = some v) (w : World) : (part t cs o).run P w = .ok v w := by
  obtain ⟨⟨dd, hd, hdd⟩, hs⟩ := ht
  simp [part, run_isAgg hd, hdd, h]

theorem J.field1 {s i ft off sz : Nat} {cs : List Value} (hf : FldT P s i ft off sz) (ht : OneT P ft) (hx : ev σ x = some (.agg cs.toArray)) (hv : cs[off]? = some v) (hd : okd N d) (hJ : J P ops F w0 M N lS L (putd d v σ) l) :
    J P ops F w0 M N lS ((⟨d, .field s x i, ty, p, af, none⟩, k) :: L) σ l :=
  J.pure rfl hd _ (fun a ha w => by
    obtain ⟨fs, f, h1, h2, h3, h4⟩ := hf.open
    subst h3; subst h4
    have := run_part_one (P := P) ht cs.toArray f.offset (by simpa using hv) w
    simp [execOp, ha.eval hx, Instr.field, run_underlying h1, h2, asAgg, this]) hJ
theorem J.fieldN {s i ft off sz : Nat} {cs : List Value} (hf : FldT P s i ft off sz) (ht : AggT P ft (sz + 1)) (hx : ev σ x = some (.agg cs.toArray)) (vs : List Value) (hv : (cs.drop off).take (sz + 1) = vs) (hd : okd N d) (hJ : J P ops F w0 M N lS L (putd d (.agg vs.toArray) σ) l) :
    J P ops F w0 M N lS ((⟨d, .field s x i, ty, p, af, none⟩, k) :: L) σ l :=
  J.pure rfl hd _ (fun a ha w => by
    obtain ⟨fs, f, h1, h2, h3, h4⟩ := hf.open
    subst h3; subst h4
    have := run_part_agg (P := P) ht cs.toArray f.offset w
    have e : cs.toArray.extract f.offset (f.offset + (sz + 1)) = vs.toArray := by
      rw [← hv, List.extract_toArray]
      congr 1
      simp [List.extract_eq_take_drop]
    simp [execOp, ha.eval hx, Instr.field, run_underlying h1, h2, asAgg, this, e]) hJ

/-! ### Indexes -/
def ArrT (P : Program) (t : TypeId) (len : Nat) (e : TypeId) (s : Nat) : Prop := P.underlying t = some (.array len e) ∧ SizeT P e s
def SlT (P : Program) (t : TypeId) (e : TypeId) (s : Nat) : Prop := P.underlying t = some (.slice e) ∧ SizeT P e s

theorem J.indexArr {len e s g o i : Nat} (ht : ArrT P t len e s) (hx : ev σ x = some (.pointer (some ⟨g, o, none⟩))) (hy : ev σ y = some (.int kd n)) (h0 : 0 ≤ n) (h1 : n < len) (hi : n.toNat = i) (hd : okd N d)
    (hJ : J P ops F w0 M N lS L (putd d (.pointer (some ⟨g, o + i * s, none⟩)) σ) l) : J P ops F w0 M N lS ((⟨d, .indexAddr t x y, ty, p, af, none⟩, k) :: L) σ l :=
  J.pure rfl hd _ (fun a ha w => by
    subst hi
    simp [execOp, ha.eval hx, ha.eval hy, Instr.indexAt, asIntOf, run_underlying ht.1, Instr.sureAddr, h0, h1, run_sizeOf ht.2, add_lit']) hJ
theorem J.indexSlI {e s q cap i : Nat} {A : Option Addr} (ht : SlT P t e s) (hx : ev σ x = some (.slice A q cap)) (hA : A.isSome = true) (hy : ev σ y = some (.int kd n)) (h0 : 0 ≤ n) (h1 : n < q) (hi : n.toNat = i) (hd : okd N d)
    (hJ : J P ops F w0 M N lS L (putd d (.pointer (some ((A.getD default).add (i * s)))) σ) l) : J P ops F w0 M N lS ((⟨d, .indexAddr t x y, ty, p, af, none⟩, k) :: L) σ l :=
  J.pure rfl hd _ (fun a ha w => by
    subst hi
    cases A with
    | none => simp at hA
    | some ad => simp [execOp, ha.eval hx, ha.eval hy, Instr.indexAt, asIntOf, run_underlying ht.1, h0, h1, run_sizeOf ht.2]) hJ
/-- The head of a row of one's own. -/
def hdOf (id : Option Nat) : Option Addr := id.map fun g => ⟨g, 0, none⟩
theorem J.indexRow {e s q cap i : Nat} {id : Option Nat} (ht : SlT P t e s) (hx : ev σ x = some (.slice (hdOf id) q cap)) (hid : id.isSome = true) (hy : ev σ y = some (.int kd n)) (h0 : 0 ≤ n) (h1 : n < q) (hi : n.toNat = i) (hd : okd N d)
    (hJ : J P ops F w0 M N lS L (putd d (.pointer (some ⟨id.getD 0, i * s, none⟩)) σ) l) : J P ops F w0 M N lS ((⟨d, .indexAddr t x y, ty, p, af, none⟩, k) :: L) σ l :=
  J.pure rfl hd _ (fun a ha w => by
    subst hi
    cases id with
    | none => simp at hid
    | some g => simp [execOp, ha.eval hx, ha.eval hy, hdOf, Instr.indexAt, asIntOf, run_underlying ht.1, h0, h1, run_sizeOf ht.2, add_lit']) hJ
/-- A slice of a block. -/
theorem J.indexSlB {e s q cap i g o : Nat} (ht : SlT P t e s) (hx : ev σ x = some (.slice (some ⟨g, o, none⟩) q cap)) (hy : ev σ y = some (.int kd n)) (h0 : 0 ≤ n) (h1 : n < q) (hi : n.toNat = i) (hd : okd N d)
    (hJ : J P ops F w0 M N lS L (putd d (.pointer (some ⟨g, o + i * s, none⟩)) σ) l) : J P ops F w0 M N lS ((⟨d, .indexAddr t x y, ty, p, af, none⟩, k) :: L) σ l :=
  J.pure rfl hd _ (fun a ha w => by
    subst hi
    simp [execOp, ha.eval hx, ha.eval hy, Instr.indexAt, asIntOf, run_underlying ht.1, h0, h1, run_sizeOf ht.2, add_lit']) hJ
theorem J.index1 {len e s i : Nat} {cs : List Value} (ht : ArrT P t len e s) (he : OneT P e) (hx : ev σ x = some (.agg cs.toArray)) (hy : ev σ y = some (.int kd n)) (h0 : 0 ≤ n) (h1 : n < len) (hi : n.toNat = i) (hv : cs[i * s]? = some v) (hd : okd N d)
    (hJ : J P ops F w0 M N lS L (putd d v σ) l) : J P ops F w0 M N lS ((⟨d, .index t x y, ty, p, af, none⟩, k) :: L) σ l :=
  J.pure rfl hd _ (fun a ha w => by
    subst hi
    have := run_part_one (P := P) he cs.toArray (n.toNat * s) (by simpa using hv) w
    simp [execOp, ha.eval hx, ha.eval hy, Instr.index, asIntOf, run_underlying ht.1, h0, h1, run_sizeOf ht.2, this]) hJ
theorem J.indexStr {s : ByteArray} {i : Nat} {u : UInt8} (ht : P.underlying t = some .string) (hx : ev σ x = some (.string s)) (hy : ev σ y = some (.int kd n)) (h0 : 0 ≤ n) (hi : n.toNat = i) (hv : s.data.toList[i]? = some u) (hd : okd N d)
    (hJ : J P ops F w0 M N lS L (putd d (.int .u8 u.toNat) σ) l) : J P ops F w0 M N lS ((⟨d, .index t x y, ty, p, af, none⟩, k) :: L) σ l :=
  J.pure rfl hd _ (fun a ha w => by
    subst hi
    have : s[n.toNat]? = some u := by
      rw [Array.getElem?_toList] at hv
      have h2 := (Array.getElem?_eq_some_iff.1 hv)
      have hlt : n.toNat < s.size := h2.1
      rw [getElem?_pos s n.toNat hlt]
      exact congrArg some h2.2
    simp [execOp, ha.eval hx, ha.eval hy, Instr.index, asIntOf, run_underlying ht, h0, this]) hJ

/-! ### Pieces -/
def optInt (σ : List (Nat × Value)) (x : Option Operand) (dflt : Nat) (i : Nat) : Prop := match x with
  | none => i = dflt
  | some y => ∃ kd n, ev σ y = some (.int kd n) ∧ 0 ≤ n ∧ n.toNat = i
theorem optInt.none {dflt : Nat} : optInt σ none dflt dflt := rfl
theorem optInt.some {dflt i : Nat} (hy : ev σ y = some (.int kd n)) (h0 : 0 ≤ n) (hi : n.toNat = i) : optInt σ (some y) dflt i := ⟨kd, n, hy, h0, hi⟩

theorem run_sliceBound {i q : Nat} {code : BoundsCode} (h0 : 0 ≤ n) (hi : n.toNat = i) (hq : i ≤ q) (w : World) : (Instr.sliceBound (.int kd n) q code).run P w = .ok i w := by
  subst hi
  simp [Instr.sliceBound, asIntOf, h0, show n ≤ (q : Int) by omega]

theorem run_sliceBounds {a : Act} (ha : Has N σ a) {isS : Bool} {len cap lo hi mx : Nat} {xl xh xm : Option Operand} (hl : optInt σ xl 0 lo) (hh : optInt σ xh len hi) (hm : optInt σ xm cap mx) (hmh : xm.isSome = true → xh.isSome = true)
    (h1 : lo ≤ hi) (h2 : hi ≤ mx) (h3 : mx ≤ cap) (w : World) : (Instr.sliceBounds isS len cap (xl.map a.eval) (xh.map a.eval) (xm.map a.eval)).run P w = .ok (lo, hi, mx) w := by
  have hL : ∀ q code w, lo ≤ q → (match xl.map a.eval with | some v => Instr.sliceBound v q code | none => Pure.pure 0 : Sem Nat).run P w = .ok lo w := by
    intro q code w hq
    cases xl with
    | none => simp only [optInt] at hl; subst hl; rfl
    | some y => obtain ⟨kd, n, hy, h0, hi'⟩ := hl; simp only [Option.map_some, ha.eval hy]; exact run_sliceBound h0 hi' hq w
  cases xm with
  | none =>
    simp only [optInt] at hm
    subst hm
    cases xh with
    | none =>
      simp only [optInt] at hh
      subst hh
      have := hL hi .sliceB w h1
      simp only [Instr.sliceBounds, Option.map_none, Option.isSome_none, Bool.false_eq_true, if_false, Sem.run_bind, Sem.run_pure, Result.andThen] at this ⊢
      cases hx : xl.map a.eval <;> simp_all
    | some y =>
      obtain ⟨kd, n, hy, h0, hi'⟩ := hh
      have := hL hi .sliceB w h1
      have h4 := run_sliceBound (P := P) (kd := kd) (code := if isS then .sliceAcap else .sliceAlen) h0 hi' h2 w
      simp only [Instr.sliceBounds, Option.map_none, Option.map_some, ha.eval hy, Option.isSome_none, Bool.false_eq_true, if_false, Sem.run_bind, Sem.run_pure, Result.andThen, h4] at this ⊢
      cases hx : xl.map a.eval <;> simp_all
  | some z =>
    obtain ⟨km, q, hz, hq0, hqi⟩ := hm
    cases xh with
    | none => simp at hmh
    | some y =>
      obtain ⟨kd, n, hy, h0, hi'⟩ := hh
      have := hL hi .slice3C w h1
      have h4 := run_sliceBound (P := P) (kd := kd) (code := .slice3B) h0 hi' h2 w
      have h5 := run_sliceBound (P := P) (kd := km) (code := if isS then .slice3Acap else .slice3Alen) hq0 hqi h3 w
      simp only [Instr.sliceBounds, Option.map_some, ha.eval hy, ha.eval hz, Option.isSome_some, if_true, Sem.run_bind, Result.andThen, h4, h5] at this ⊢
      cases hx : xl.map a.eval <;> simp_all

/-- A piece of an array: of a block. -/
theorem J.sliceArr {len e s g o lo hi mx : Nat} {xl xh xm : Option Operand} (ht : ArrT P t len e s) (hx : ev σ x = some (.pointer (some ⟨g, o, none⟩))) (hl : optInt σ xl 0 lo) (hh : optInt σ xh len hi) (hm : optInt σ xm len mx) (hmh : xm.isSome = true → xh.isSome = true)
    (h1 : lo ≤ hi) (h2 : hi ≤ mx) (h3 : mx ≤ len) (hd : okd N d) (hv : Value.slice (some (if mx = lo then ⟨g, o, none⟩ else ⟨g, o + lo * s, none⟩)) (hi - lo) (mx - lo) = v)
    (hJ : J P ops F w0 M N lS L (putd d v σ) l) : J P ops F w0 M N lS ((⟨d, .slice t x xl xh xm, ty, p, af, none⟩, k) :: L) σ l :=
  J.pure rfl hd _ (fun a ha w => by
    subst hv
    simp [execOp, ha.eval hx, Instr.sliceAt, run_underlying ht.1, Instr.sureAddr, run_sliceBounds ha hl hh hm hmh h1 h2 h3, run_sizeOf ht.2, add_lit']) hJ
/-- A piece of a slice. -/
theorem J.sliceSl {e s q cap lo hi mx : Nat} {A : Option Addr} {xl xh xm : Option Operand} (ht : SlT P t e s) (hx : ev σ x = some (.slice A q cap)) (hl : optInt σ xl 0 lo) (hh : optInt σ xh q hi) (hm : optInt σ xm cap mx) (hmh : xm.isSome = true → xh.isSome = true)
    (h1 : lo ≤ hi) (h2 : hi ≤ mx) (h3 : mx ≤ cap) (hd : okd N d) (hv : Value.slice (if mx = lo then A else A.map (·.add (lo * s))) (hi - lo) (mx - lo) = v)
    (hJ : J P ops F w0 M N lS L (putd d v σ) l) : J P ops F w0 M N lS ((⟨d, .slice t x xl xh xm, ty, p, af, none⟩, k) :: L) σ l :=
  J.pure rfl hd _ (fun a ha w => by
    subst hv
    simp [execOp, ha.eval hx, Instr.sliceAt, Instr.slice, run_underlying ht.1, run_sliceBounds ha hl hh hm hmh h1 h2 h3, run_sizeOf ht.2]) hJ
theorem J.sliceStr {s : ByteArray} {lo hi : Nat} {xl xh : Option Operand} (ht : P.underlying t = some .string) (hx : ev σ x = some (.string s)) (hl : optInt σ xl 0 lo) (hh : optInt σ xh s.size hi)
    (h1 : lo ≤ hi) (h2 : hi ≤ s.size) (hd : okd N d) (hJ : J P ops F w0 M N lS L (putd d (.string (s.extract lo hi)) σ) l) : J P ops F w0 M N lS ((⟨d, .slice t x xl xh none, ty, p, af, none⟩, k) :: L) σ l :=
  J.pure rfl hd _ (fun a ha w => by
    have := run_sliceBounds (P := P) (isS := false) ha hl hh (optInt.none (dflt := s.size)) (by simp) h1 h2 (Nat.le_refl _) w
    simp only [Option.map_none] at this
    simp [execOp, ha.eval hx, Instr.sliceAt, Instr.slice, run_underlying ht, this]) hJ

/-! ### Calls -/
def FnOk (P : Program) (f : FuncId) : Prop := ∃ fn, P.funcs[f]? = some fn ∧ (fn.name == "runtime.NumGoroutine") = false ∧ fn.body.isNone = false
theorem FnOk.mk' {f : FuncId} {fn : Func} (h : P.funcs[f]? = some fn) (h1 : (fn.name == "runtime.NumGoroutine") = false) (h2 : fn.body.isNone = false) : FnOk P f := ⟨fn, h, h1, h2⟩

theorem run_callFunc_enter {f : FuncId} (h : FnOk P f) (args : Array Value) (w : World) : (callFunc f args).run P w = .ok (.enter f args) w := by
  obtain ⟨fn, hf, hn, hb⟩ := h
  have h1 : fn.name ≠ "runtime.NumGoroutine" := by simpa using hn
  cases hbody : fn.body with
  | none => simp [hbody] at hb
  | some c => simp [callFunc, hf, h1, hbody]

theorem run_call {f : FuncId} (hf : FnOk P f) {xs : Array Operand} {tys : Array TypeId} {args : List Value} {a : Act} (ha : Has N σ a) (hx : evs σ xs.toList = some args) (w : World) :
    (execOp a.eval ⟨d, .call ⟨.value (.func f), xs, tys⟩, ty, p, af, none⟩).run P w = .ok (.enter f args.toArray) w := by
  have h1 : xs.map a.eval = args.toArray := by rw [← ha.evals hx, ← Array.toList_map, Array.toArray_toList]
  simp [execOp, resolve, Act.eval, Deferred.ofValue, invoke, h1, run_callFunc_enter hf]

theorem quiet_call {f : FuncId} (hf : FnOk P f) {xs : Array Operand} {tys : Array TypeId} {args : List Value} {a : Act} (ha : Has N σ a) (hx : evs σ xs.toList = some args) {w : World} (spec : Calls P f args.toArray w fun e w' => e = .returned v ∧ WS w [] [] w') :
    Oper.quietUpon P (fun w' => WS w [] [] w') w v ((execOp a.eval ⟨d, .call ⟨.value (.func f), xs, tys⟩, ty, p, af, none⟩).run P w) := by
  rw [run_call hf ha hx w]
  exact ⟨rfl, spec⟩

/-- A call that only makes memory of its own, and whose value is known. -/
theorem J.call0 {f : FuncId} (hk : nog k) (hf : FnOk P f) {xs : Array Operand} {tys : Array TypeId} {args : List Value} (hx : evs σ xs.toList = some args) (hd : okd N d)
    (spec : ∀ w, WS w0 M l w → Calls P f args.toArray w fun e w' => e = .returned v ∧ WS w [] [] w') (hJ : J P ops F w0 M N lS L (putd d v σ) l) :
    J P ops F w0 M N lS ((⟨d, .call ⟨.value (.func f), xs, tys⟩, ty, p, af, none⟩, k) :: L) σ l := fun hlS a ha => stepW.yes rfl (by
  have h2 := hJ hlS _ (ha.putd hd v)
  cases k with
  | q => exact ⟨v, fun w hw => quiet_call hf ha hx (spec w hw), h2⟩
  | l => exact fun w hw => (by
      show loudUpon P _ ((execOp a.eval ⟨d, .call ⟨.value (.func f), xs, tys⟩, ty, p, af, none⟩).run P w)
      rw [run_call hf ha hx w]
      exact (spec w hw).mono fun e w' ⟨he, h2'⟩ => ⟨v, he, l, hw.join0 h2', hlS, h2⟩)
  | _ => exact hk.elim)
/-- Likewise, out of the stable entries alone. -/
theorem J.call0s {f : FuncId} (hf : FnOk P f) {xs : Array Operand} {tys : Array TypeId} {args : List Value} (hx : evs σ xs.toList = some args) (hd : okd N d)
    (spec : ∀ w, WS w0 M lS w → Calls P f args.toArray w fun e w' => e = .returned v ∧ WS w [] [] w') (hJ : J P ops F w0 M N lS L (putd d v σ) l) :
    J P ops F w0 M N lS ((⟨d, .call ⟨.value (.func f), xs, tys⟩, ty, p, af, none⟩, .c) :: L) σ l := fun hlS a ha =>
  stepW.yes rfl ⟨v, fun w hw => quiet_call hf ha hx (spec w hw), hJ hlS _ (ha.putd hd v)⟩

/-- Any call. -/
theorem J.call {f : FuncId} (hf : FnOk P f) {xs : Array Operand} {tys : Array TypeId} {args : List Value} (hx : evs σ xs.toList = some args) (hd : okd N d) {ι : Type} (φ : ι → Prop) (vf : ι → Value) (M' : List Nat) (lf : ι → List (Nat × Ent))
    (spec : ∀ w, WS w0 M l w → Calls P f args.toArray w fun e w' => ∃ i, φ i ∧ e = .returned (vf i) ∧ WS w M' (lf i) w')
    (hM : ∀ i, φ i → ∀ g ∈ M', ∃ k e e2, lk l k = some e ∧ e.id = some g ∧ lk (lf i) k = some e2)
    (hh : ∀ i k e, lk (lf i) k = some e → lk lS k = none)
    (hJ : ∀ i, φ i → J P ops F w0 M N lS L (putd d (vf i) σ) (lf i ++ l)) :
    J P ops F w0 M N lS ((⟨d, .call ⟨.value (.func f), xs, tys⟩, ty, p, af, none⟩, .l) :: L) σ l :=
  J.loud rfl hd φ vf (fun i => lf i ++ l) (fun i _ hs => hs.freshs (hh i)) (fun a ha w hw => by
    rw [run_call hf ha hx w]
    exact (spec w hw).mono fun e w' ⟨i, hi, he, h2⟩ => ⟨vf i, he, i, hi, rfl, hw.join h2 (hM i hi)⟩) hJ

/-- A function of the library that the model does by itself. -/
theorem J.extern {f : FuncId} {fn : Func} {e : Array Value → Sem Value} (hf : P.funcs[f]? = some fn) (hname : (fn.name == "runtime.NumGoroutine") = false) (hb : fn.body.isNone = true) (hn : Extern.findNext fn = none) (he : Extern.find fn = some e)
    {xs : Array Operand} {tys : Array TypeId} {args : List Value} (hx : evs σ xs.toList = some args) (hd : okd N d) (hr : ∀ w, (e args.toArray).run P w = .ok v w) (hJ : J P ops F w0 M N lS L (putd d v σ) l) :
    J P ops F w0 M N lS ((⟨d, .call ⟨.value (.func f), xs, tys⟩, ty, p, af, none⟩, k) :: L) σ l :=
  J.pure rfl hd v (fun a ha w => by
    have h1 : xs.map a.eval = args.toArray := by rw [← ha.evals hx, ← Array.toList_map, Array.toArray_toList]
    simp [execOp, resolve, Act.eval, Deferred.ofValue, invoke, h1, run_callFunc_extern hf hname hb hn he, hr w]) hJ

/-! ### Builtins -/
theorem run_builtin {bi : Builtin} {xs : Array Operand} {tys : Array TypeId} {args : List Value} {a : Act} (ha : Has N σ a) (hx : evs σ xs.toList = some args) (w : World) :
    (execOp a.eval ⟨d, .call ⟨.builtin bi, xs, tys⟩, ty, p, af, none⟩).run P w = (builtin bi tys ty (xs.map fun | .const _ => true | _ => false) args.toArray).run P w := by
  have h1 : xs.map a.eval = args.toArray := by rw [← ha.evals hx, ← Array.toList_map, Array.toArray_toList]
  simp [execOp, resolve, h1, invoke]
  rfl

theorem J.lenSl {e q cap : Nat} {A : Option Addr} (ht : P.underlying t = some (.slice e)) (hx : ev σ x = some (.slice A q cap)) (hd : okd N d) (hJ : J P ops F w0 M N lS L (putd d (.int .i64 (q : Int)) σ) l) :
    J P ops F w0 M N lS ((⟨d, .call ⟨.builtin .len, #[x], #[t]⟩, ty, p, af, none⟩, k) :: L) σ l :=
  J.pure rfl hd _ (fun a ha w => by
    rw [run_builtin ha (args := [.slice A q cap]) (by simp [evs, hx]) w]
    simp [builtin, Builtin.len_, run_underlying ht, goInt]) hJ
theorem J.lenStr {s : ByteArray} (ht : P.underlying t = some .string) (hx : ev σ x = some (.string s)) (hd : okd N d) (hJ : J P ops F w0 M N lS L (putd d (.int .i64 (s.size : Int)) σ) l) :
    J P ops F w0 M N lS ((⟨d, .call ⟨.builtin .len, #[x], #[t]⟩, ty, p, af, none⟩, k) :: L) σ l :=
  J.pure rfl hd _ (fun a ha w => by
    rw [run_builtin ha (args := [.string s]) (by simp [evs, hx]) w]
    simp [builtin, Builtin.len_, run_underlying ht, goInt]) hJ
theorem J.max2 (hx : ev σ x = some (.int kd n)) (hy : ev σ y = some (.int kd m)) {tys : Array TypeId} (hd : okd N d) (hz : (if m > n then m else n) = r) (hJ : J P ops F w0 M N lS L (putd d (.int kd r) σ) l) :
    J P ops F w0 M N lS ((⟨d, .call ⟨.builtin .max, #[x, y], tys⟩, ty, p, af, none⟩, k) :: L) σ l :=
  J.pure rfl hd _ (fun a ha w => by
    rw [run_builtin ha (args := [.int kd n, .int kd m]) (by simp [evs, hx, hy]) w]
    subst hz
    simp [builtin, Builtin.max_, Builtin.max2]) hJ
theorem J.min2 (hx : ev σ x = some (.int kd n)) (hy : ev σ y = some (.int kd m)) {tys : Array TypeId} (hd : okd N d) (hz : (if m < n then m else n) = r) (hJ : J P ops F w0 M N lS L (putd d (.int kd r) σ) l) :
    J P ops F w0 M N lS ((⟨d, .call ⟨.builtin .min, #[x, y], tys⟩, ty, p, af, none⟩, k) :: L) σ l :=
  J.pure rfl hd _ (fun a ha w => by
    rw [run_builtin ha (args := [.int kd n, .int kd m]) (by simp [evs, hx, hy]) w]
    subst hz
    simp [builtin, Builtin.min_, Builtin.min2]) hJ
end Go.Fw
set_option linter.unusedVariables false
namespace Go.Fw
open Go
variable {P : Program} {ops : Array Oper} {F : Act → World → Prop} {w0 : World} {M : List Nat} {N : Nf} {L : List (Oper × K)} {σ : List (Nat × Value)} {l lS : List (Nat × Ent)} {k : K}
  {d : Option Tmp} {ty : TypeId} {p : String} {af : Array Edge} {v v1 v2 z : Value} {x y c : Operand} {t : TypeId} {kd : IntKind} {n m r : Int} {b : Bool}

/-- Numbers as cells. -/
def rowI (kd : IntKind) (xs : List Int) : List Value := xs.map (Value.int kd)
theorem rowI_length (kd : IntKind) (xs : List Int) : (rowI kd xs).length = xs.length := by simp [rowI]
theorem rowI_append (kd : IntKind) (xs ys : List Int) : rowI kd (xs ++ ys) = rowI kd xs ++ rowI kd ys := by simp [rowI]
theorem rowI_get (kd : IntKind) (xs : List Int) (i : Nat) (h : i < xs.length) : (rowI kd xs)[i]? = some (.int kd (xs.getD i 0)) := by simp [rowI, h, List.getD]
theorem rowI_set (kd : IntKind) (xs : List Int) (i : Nat) (x : Int) : (rowI kd xs).set i (.int kd x) = rowI kd (xs.set i x) := by simp [rowI, List.map_set]
theorem rowI_one (kd : IntKind) (xs : List Int) : ∀ u ∈ rowI kd xs, u.oneCell' = true := by
  intro u hu
  simp only [rowI, List.mem_map] at hu
  obtain ⟨x, _, rfl⟩ := hu
  rfl
theorem rowI_seg (kd : IntKind) (xs : List Int) (o q : Nat) : ((rowI kd xs).drop o).take q = rowI kd ((xs.drop o).take q) := by simp [rowI, List.map_drop, List.map_take]

/-- A row of one's own: its block (none: nil), its capacity, what lies in the room behind. -/
structure RowIx where
  id : Option Nat
  cap : Nat
  sp : List Value
def RowIx.nil : RowIx := ⟨none, 0, []⟩
structure RowIx.Ok (i : RowIx) (size n : Nat) : Prop where
  le : n ≤ i.cap
  max : i.cap ≤ maxLen
  len : n * size + i.sp.length = i.cap * size
  none : i.id = none → i.cap = 0
  one : ∀ u ∈ i.sp, u.oneCell' = true
def RowIx.ent (i : RowIx) (t : TypeId) (cs : List Value) : Ent := ⟨i.id, t, cs ++ i.sp⟩
def RowIx.val (i : RowIx) (n : Nat) : Value := .slice (hdOf i.id) n i.cap
theorem RowIx.nil_ok (size : Nat) : RowIx.nil.Ok size 0 := ⟨Nat.le_refl _, by simp [RowIx.nil], by simp [RowIx.nil], fun _ => rfl, by simp [RowIx.nil]⟩
theorem RowIx.Ok.some {i : RowIx} {size n : Nat} (h : i.Ok size n) (hn : 0 < n) : i.id.isSome = true := by
  cases hid : i.id with
  | none => have := h.none hid; have := h.le; omega
  | some g => rfl

/-- The element type's row of the table. -/
def ElT (P : Program) (e : TypeId) (size bytes : Nat) (z : Value) : Prop := (P.info? e).map (fun i => (i.zero, i.size, i.bytes)) = some (some z, size, bytes) ∧ z.cells.size = size ∧ 0 < size ∧ ∀ u ∈ z.cells.toList, u.oneCell' = true
theorem ElT.open {e size bytes : Nat} (h : ElT P e size bytes z) : ∃ i, P.info? e = some i ∧ i.zero = some z ∧ i.size = size ∧ i.bytes = bytes := by
  obtain ⟨h1, _⟩ := h
  cases hi : P.info? e with
  | none => simp [hi] at h1
  | some i => simp [hi] at h1; exact ⟨i, rfl, h1.1, h1.2.1, h1.2.2⟩
theorem ElT.sizeT {e size bytes : Nat} (h : ElT P e size bytes z) : SizeT P e size := by
  obtain ⟨i, h1, _, h3, _⟩ := h.open
  simp [SizeT, h1, h3]

theorem getBang_mem {zs : Array Value} (q : Nat) (h : q < zs.size) : zs[q]! ∈ zs.toList := by
  rw [getElem!_pos zs q h]; simp
theorem zeroCells_one {e size bytes : Nat} (h : ElT P e size bytes z) (q : Nat) : ∀ u ∈ (Builtin.zeroCells z.cells q).toList, u.oneCell' = true := by
  intro u hu
  simp only [Builtin.zeroCells, Array.toList_map, List.mem_map, Array.toList_range, List.mem_range] at hu
  obtain ⟨j, hj, rfl⟩ := hu
  exact h.2.2.2 _ (getBang_mem _ (Nat.mod_lt _ (by rw [h.2.1]; exact h.2.2.1)))

theorem J.append (h : Nat) (hh : lk lS h = none) {e size bytes q m' c0 : Nat} {i : RowIx} {cs news : List Value} {A : Option Addr} (ht : P.underlying t = some (.slice e)) (he : ElT P e size bytes z) (hl : lk l h = some (i.ent e cs)) (hi : i.Ok size q) (hcs : cs.length = q * size)
    (hx : ev σ x = some (i.val q)) (hy : ev σ y = some (.slice A m' c0)) (hnl : news.length = m' * size) (hnews : ∀ w, WS w0 M l w → Cs w A news) (h1 : ∀ u ∈ news, u.oneCell' = true)
    (hb : (q + m') * bytes ≤ 140737488355328) (h63 : q + m' ≤ maxLen) (hd : okd N d) (q' : Nat) (hq' : q + m' = q') (cs' : List Value) (hcs' : cs ++ news = cs')
    (hJ : ∀ i' : RowIx, i'.Ok size q' → J P ops F w0 M N lS L (putd d (i'.val q') σ) ((h, i'.ent e cs') :: l)) :
    J P ops F w0 M N lS ((⟨d, .call ⟨.builtin .append, #[x, y], #[t, t]⟩, ty, p, af, none⟩, .l) :: L) σ l := by
  subst hq'; subst hcs'
  refine J.loud rfl hd (ι := RowIx) (fun i' => i'.Ok size (q + m')) (fun i' => i'.val (q + m')) (fun i' => (h, i'.ent e (cs ++ news)) :: l) (fun _ _ hs => hs.fresh hh) (fun a ha w hw => ?_) hJ
  rw [run_builtin ha (args := [i.val q, .slice A m' c0]) (by simp [evs, hx, hy]) w]
  obtain ⟨ti, hti, htz, hts, htb⟩ := he.open
  have hzs := he.2.1
  have hsz := he.2.2.1
  subst hts; subst htb
  have hsmall : q + m' ≤ 9223372036854775807 := by simp only [maxLen] at h63; omega
  have hnw := hnews w hw
  by_cases hm : m' = 0
  · subst hm
    have hn : news = [] := List.eq_nil_of_length_eq_zero (by simpa using hnl)
    subst hn
    have hrun : (Builtin.append_ #[t, t] ty #[i.val q, .slice A 0 c0]).run P w = .ok (i.val q) w := by
      have hle := hi.le
      cases A <;> cases hid : i.id <;> simp [Builtin.append_, RowIx.val, hdOf, hid, run_underlying ht, sizeOf, typeInfo, hti, Builtin.lenOf, Builtin.firstCells, loadCells, loadCellsFrom, storeCells, hle]
    simp only [builtin, Sem.run_bind, hrun, Result.andThen]
    refine ⟨i, by simpa using hi, by simp, ?_⟩
    simp only [List.append_nil]
    exact hw.sub (Sub.cons hl (Sub.refl _))
  obtain ⟨ad, rfl⟩ : ∃ ad, A = some ad := by
    cases hne : news with
    | nil =>
      have h0 : m' * ti.size = 0 := by rw [← hnl, hne]; rfl
      rcases Nat.mul_eq_zero.1 h0 with h0 | h0 <;> omega
    | cons u us => obtain ⟨ad, ha, _⟩ := hnw 0 u (by simp [hne]); exact ⟨ad, ha⟩
  have hnews' : ∀ j u, news[j]? = some u → w.cell? (ad.add j) = some u := fun j u hj => by
    obtain ⟨ad', h2, h3⟩ := hnw j u hj
    simp at h2; subst h2; exact h3
  have hat := hw.live h _ hl
  -- the row in new memory
  have fresh : ∀ (old : Nat) (w1 : World), w1 = w.drew.alloc (.cells (cs.toArray ++ news.toArray ++ Builtin.zeroCells z.cells (grownCap w (q + m') old e - (q + m'))) e) →
      ∃ i' : RowIx, i'.Ok ti.size (q + m') ∧ Value.slice (some ⟨w.heap.size, 0, none⟩) (q + m') (grownCap w (q + m') old e) = i'.val (q + m') ∧ WS w0 M ((h, i'.ent e (cs ++ news)) :: l) w1 := by
    intro old w1 hw1
    have hge := grownCap_ge w (q + m') old e
    refine ⟨⟨some w.heap.size, grownCap w (q + m') old e, (Builtin.zeroCells z.cells (grownCap w (q + m') old e - (q + m'))).toList⟩, ⟨hge, grownCap_le_maxLen w (q + m') old e h63, ?_, fun h => by simp at h, zeroCells_one he _⟩, rfl, ?_⟩
    · rw [Array.length_toList, size_zeroCells, hzs, ← Nat.add_mul, Nat.add_sub_of_le hge]
    · rw [hw1]
      have := hw.drew.alloc h (cs ++ news ++ (Builtin.zeroCells z.cells (grownCap w (q + m') old e - (q + m'))).toList) e
      simp only [RowIx.ent]
      have e1 : (cs.toArray ++ news.toArray ++ Builtin.zeroCells z.cells (grownCap w (q + m') old e - (q + m'))) = (cs ++ news ++ (Builtin.zeroCells z.cells (grownCap w (q + m') old e - (q + m'))).toList).toArray := by simp
      rw [e1]
      exact this
  cases hid : i.id with
  | none =>
    have hc0 := hi.none hid
    have hq0 : q = 0 := by have := hi.le; omega
    subst hq0
    have hcs0 : cs = [] := List.eq_nil_of_length_eq_zero (by simpa using hcs)
    subst hcs0
    have hr := run_append_nil (P := P) w t ty e ti z ht hti htz ad m' c0 news hnl hnews' (by omega) (by omega) (by simp only [Nat.zero_add] at hb; omega)
    obtain ⟨i', hi', hv', hw'⟩ := fresh 0 _ rfl
    simp only [Nat.zero_add, Array.empty_append] at hi' hv' hw' hr ⊢
    have hval : i.val 0 = .slice none 0 0 := by simp [RowIx.val, hid, hdOf, hc0]
    rw [hval]
    simp only [builtin, Sem.run_bind, hr, Result.andThen]
    exact ⟨i', hi', hv', hw'⟩
  | some g =>
    have hval : i.val q = .slice (some ⟨g, 0, none⟩) q i.cap := by simp [RowIx.val, hid, hdOf]
    rw [hval]
    have hg : w.heap[g]? = some (.cells (cs ++ i.sp).toArray e (0, 0)) := by
      have h0 := hat; simp only [Ent.At, RowIx.ent, hid] at h0; obtain ⟨t0, h1, h2⟩ := h0; cases h1; exact h2
    by_cases hroom : q + m' ≤ i.cap
    · have hlen := hi.len
      have hfit : q * ti.size + news.length ≤ (cs ++ i.sp).toArray.size := by
        simp only [List.size_toArray, List.length_append, hcs, hnl, hlen, ← Nat.add_mul]
        exact Nat.mul_le_mul_right _ hroom
      have hr := run_append_room (P := P) w t ty e ti ht hti g q i.cap _ hg ad m' c0 news hnl hnews' h1 hroom hfit
      simp only [builtin, Sem.run_bind, hr, Result.andThen]
      refine ⟨⟨some g, i.cap, i.sp.drop news.length⟩, ⟨hroom, hi.max, ?_, fun h => by simp at h, fun u hu => hi.one u (List.mem_of_mem_drop hu)⟩, rfl, ?_⟩
      · simp only [List.length_drop, List.size_toArray, List.length_append, Nat.add_mul] at hfit ⊢; omega
      · have hset := hw.set hl (g := g) (by simp [RowIx.ent, hid]) (cs ++ news ++ i.sp.drop news.length)
        have e1 : (((cs ++ i.sp).toArray.toList.take (q * ti.size) ++ news ++ (cs ++ i.sp).toArray.toList.drop (q * ti.size + news.length)).toArray) = (cs ++ news ++ i.sp.drop news.length).toArray := by
          rw [← hcs]
          simp [List.drop_append]
        rw [e1]
        simp only [RowIx.ent, hid] at hset ⊢
        exact hset
    · have holds : ∀ j u, cs[j]? = some u → w.cell? ((⟨g, 0, none⟩ : Addr).add j) = some u := fun j u hj => by
        rw [add_lit', Nat.zero_add]
        have := hw.cell hl (o := j) (v := u) (by simp only [RowIx.ent]; rw [List.getElem?_append_left (List.getElem?_eq_some_iff.1 hj).1]; exact hj)
        simpa [RowIx.ent, hid] using this
      have hr := run_append_grow (P := P) w t ty e ti z ht hti htz ⟨g, 0, none⟩ q i.cap cs hcs holds ad m' c0 news hnl hnews' (by omega) (by omega) (growslice_fits (by omega) hb)
      simp only [builtin, Sem.run_bind, hr, Result.andThen]
      exact fresh i.cap _ rfl

/-- A literal: its run is shown beside it. -/
def evp (σ : List (Nat × Value)) : List (Nat × Operand) → Option (List (Nat × Value))
  | [] => some []
  | (i, x) :: xs => match ev σ x with
    | some v => match evp σ xs with
      | some vs => some ((i, v) :: vs)
      | none => none
    | none => none
theorem Has.evps {a : Act} (h : Has N σ a) : ∀ {xs : List (Nat × Operand)} {vs : List (Nat × Value)}, evp σ xs = some vs → xs.map (fun q => (q.1, a.eval q.2)) = vs
  | [], vs, hx => by simpa [evp] using hx
  | (i, x) :: xs, vs, hx => by
    simp only [evp] at hx
    cases h1 : ev σ x with
    | none => simp [h1] at hx
    | some v =>
      cases h2 : evp σ xs with
      | none => simp [h1, h2] at hx
      | some us =>
        simp only [h1, h2, Option.some.injEq] at hx
        subst hx
        simp [h.eval h1, h.evps h2]
theorem J.build {parts : Array (Nat × Operand)} {vs : List (Nat × Value)} (hx : evp σ parts.toList = some vs) (hd : okd N d) (z : Value) (hr : ∀ w, (Instr.build t vs.toArray).run P w = .ok z w) (hJ : J P ops F w0 M N lS L (putd d z σ) l) :
    J P ops F w0 M N lS ((⟨d, .build t parts, ty, p, af, none⟩, k) :: L) σ l :=
  J.pure rfl hd _ (fun a ha w => by
    have h1 : parts.map (fun q => (q.1, a.eval q.2)) = vs.toArray := by rw [← ha.evps hx, ← Array.toList_map, Array.toArray_toList]
    have h2 : (execOp a.eval ⟨d, .build t parts, ty, p, af, none⟩) = (do Pure.pure (Next.value (← Instr.build t (parts.map (fun q => (q.1, a.eval q.2))))) : Sem Next) := rfl
    rw [h2, h1]
    simp [hr w]) hJ
theorem J.buildSlice (h : Nat) (hh : lk lS h = none) {e len : Nat} {parts : Array (Nat × Operand)} {vs : List (Nat × Value)} (hx : evp σ parts.toList = some vs) (hd : okd N d) (cs : List Value)
    (hr : ∀ w, (Instr.buildSlice t len vs.toArray).run P w = .ok (.slice (some ⟨w.heap.size, 0, none⟩) len len) (w.alloc (.cells cs.toArray e)))
    (hJ : ∀ g, w0.heap.size ≤ g → J P ops F w0 M N lS L (putd d (.slice (some ⟨g, 0, none⟩) len len) σ) ((h, ⟨some g, e, cs⟩) :: l)) :
    J P ops F w0 M N lS ((⟨d, .buildSlice t len parts, ty, p, af, none⟩, .l) :: L) σ l :=
  J.loud rfl hd (ι := Nat) (fun g => w0.heap.size ≤ g) (fun g => .slice (some ⟨g, 0, none⟩) len len) (fun g => (h, ⟨some g, e, cs⟩) :: l) (fun _ _ hs => hs.fresh hh) (fun a ha w hw => by
    have h1 : parts.map (fun q => (q.1, a.eval q.2)) = vs.toArray := by rw [← ha.evps hx, ← Array.toList_map, Array.toArray_toList]
    have h2 : (execOp a.eval ⟨d, .buildSlice t len parts, ty, p, af, none⟩) = (do Pure.pure (Next.value (← Instr.buildSlice t len (parts.map (fun q => (q.1, a.eval q.2))))) : Sem Next) := rfl
    rw [h2, h1]
    simp only [Sem.run_bind, hr w, Result.andThen]
    exact ⟨_, hw.size, rfl, hw.alloc h cs e⟩) hJ

/-- 'q' zero elements. -/
def zeros (z : Value) (q : Nat) : List Value := (List.range (q * z.cells.size)).map fun i => z.cells[i % z.cells.size]!
theorem zeros_length (z : Value) (q : Nat) : (zeros z q).length = q * z.cells.size := by simp [zeros]
theorem zeros_int (kd : IntKind) (q : Nat) : zeros (.int kd 0) q = rowI kd (List.replicate q 0) := by
  apply List.ext_getElem
  · simp [zeros, rowI, Value.cells]
  · intro i h1 h2
    simp [zeros, rowI, Value.cells, Nat.mod_one]
theorem zeros_one {e size bytes : Nat} (h : ElT P e size bytes z) (q : Nat) : ∀ u ∈ zeros z q, u.oneCell' = true := by
  intro u hu
  simp only [zeros, List.mem_map, List.mem_range] at hu
  obtain ⟨j, hj, rfl⟩ := hu
  exact h.2.2.2 _ (getBang_mem _ (Nat.mod_lt _ (by rw [h.2.1]; exact h.2.2.1)))

/-- 'make([]T, q)', 'make([]T, q, c)'. -/
theorem J.makeSlice (h : Nat) (hh : lk lS h = none) {e size bytes q c0 : Nat} {kl kc : IntKind} {nl nc : Int} (ht : P.underlying t = some (.slice e)) (he : ElT P e size bytes z) (hx : ev σ x = some (.int kl nl)) (hy : ev σ y = some (.int kc nc)) (hq : nl = (q : Int)) (hc : nc = (c0 : Int)) (hqc : q ≤ c0)
    (hb : bytes * c0 ≤ 281474976710656) (hm : c0 ≤ maxLen) (hd : okd N d)
    (hJ : ∀ g, w0.heap.size ≤ g → J P ops F w0 M N lS L (putd d (.slice (hdOf (some g)) q c0) σ) ((h, ⟨some g, e, zeros z c0⟩) :: l)) :
    J P ops F w0 M N lS ((⟨d, .makeSlice t x y, ty, p, af, none⟩, .l) :: L) σ l :=
  J.loud rfl hd (ι := Nat) (fun g => w0.heap.size ≤ g) (fun g => .slice (hdOf (some g)) q c0) (fun g => (h, ⟨some g, e, zeros z c0⟩) :: l) (fun _ _ hs => hs.fresh hh) (fun a ha w hw => by
    subst hq; subst hc
    obtain ⟨ti, hti, htz, hts, htb⟩ := he.open
    subst hts; subst htb
    have hm' : c0 ≤ 9223372036854775807 := by simp only [maxLen] at hm; omega
    have hwl : IntKind.i64.wrap (q : Int) = (q : Int) := by rw [IntKind.wrap_i64]; omega
    have hwc : IntKind.i64.wrap (c0 : Int) = (c0 : Int) := by rw [IntKind.wrap_i64]; omega
    have hbi : ¬ ((ti.bytes : Int) * (c0 : Int) > 2 ^ 48) := by
      have : ((ti.bytes * c0 : Nat) : Int) ≤ ((281474976710656 : Nat) : Int) := Int.ofNat_le.2 hb
      simp at this ⊢; omega
    have htl : ¬ ((decide ((c0 : Int) < 0) || decide ((ti.bytes : Int) * (c0 : Int) > 2 ^ 48)) = true ∨ (q : Int) < 0 ∨ (q : Int) > (c0 : Int)) := by simp at hbi ⊢; omega
    have hrun : (execOp a.eval ⟨d, .makeSlice t x y, ty, p, af, none⟩).run P w = .ok (.value (.slice (hdOf (some w.heap.size)) q c0)) (w.alloc (.cells (zeros z c0).toArray e)) := by
      have e0 : (Array.map (fun i => z.cells[i % z.cells.size]!) (Array.range (c0 * z.cells.size))) = (zeros z c0).toArray := by
        apply Array.ext'
        simp [zeros]
      have hzs := he.2.1
      by_cases hz0 : c0 * ti.size = 0
      · have hc00 : c0 = 0 := by
          rcases Nat.mul_eq_zero.1 hz0 with h | h
          · exact h
          · have := he.2.2.1; omega
        subst hc00
        have hq0 : q = 0 := by omega
        subst hq0
        simp [execOp, Instr.makeSlice, ha.eval hx, ha.eval hy, run_underlying ht, asInt, asIntOf, typeInfo, hti, IntKind.wrap_i64, sizeOf, newRow, zeros, hdOf]
        rw [Array.range_zero', Array.map_empty]
      · simp only [execOp, Instr.makeSlice, ha.eval hx, ha.eval hy, Sem.run_bind, run_underlying ht, asInt, asIntOf, Sem.run_pure, Result.andThen, typeInfo, run_program, hti, hwl, hwc, sizeOf, run_askRoom, Int.toNat_natCast, hz0, if_false, zeroValue, htz, newRow, run_newObj, Sem.run_ite]
        rw [if_neg (by simpa using htl)]
        simp only [hdOf, ← hzs, e0, Option.map_some]
        rfl
    rw [hrun]
    exact ⟨_, hw.size, rfl, hw.alloc h (zeros z c0) e⟩) hJ
end Go.Fw
set_option linter.unusedVariables false
namespace Go.Fw
open Go
variable {P : Program} {w0 w w' : World} {M : List Nat} {N : Nf} {σ : List (Nat × Value)} {l : List (Nat × Ent)}

theorem Cs.isSome {A : Option Addr} {cs : List Value} (h : Cs w A cs) (hn : 0 < cs.length) : A.isSome = true := by
  obtain ⟨ad, ha, _⟩ := h 0 cs[0] (by simp [hn])
  simp [ha]
theorem Cs.isSomeI {kd : IntKind} {A : Option Addr} {xs : List Int} (h : Cs w A (rowI kd xs)) (hn : 0 < xs.length) : A.isSome = true := h.isSome (by rw [rowI_length]; exact hn)
theorem off_nil (A : Option Addr) : Off [] A := fun _ _ => by simp
theorem rowI_get1 (kd : IntKind) (xs : List Int) (i : Nat) (h : i < xs.length) : (rowI kd xs)[i * 1]? = some (.int kd (xs.getD i 0)) := by rw [Nat.mul_one]; exact rowI_get kd xs i h
theorem rowI_get1s (kd : IntKind) (xs : List Int) (sp : List Value) (i : Nat) (h : i < xs.length) : (rowI kd xs ++ sp)[i * 1]? = some (.int kd (xs.getD i 0)) := by
  rw [Nat.mul_one, List.getElem?_append_left (by rw [rowI_length]; exact h)]; exact rowI_get kd xs i h
theorem WS.rowCs (hw : WS w0 M l w) {k : Nat} {i : RowIx} {t : TypeId} {cs : List Value} (hl : lk l k = some (i.ent t cs)) : Cs w (hdOf i.id) cs := fun j x hx => by
  have hlt : j < cs.length := (List.getElem?_eq_some_iff.1 hx).1
  cases hid : i.id with
  | none =>
    have hat := hw.live k _ hl
    simp only [Ent.At, RowIx.ent, hid] at hat
    have : cs = [] := (List.append_eq_nil_iff.1 hat.1).1
    subst this; simp at hlt
  | some g =>
    refine ⟨⟨g, 0, none⟩, rfl, ?_⟩
    rw [add_lit', Nat.zero_add]
    have := hw.cell hl (o := j) (v := x) (by simp only [RowIx.ent]; rw [List.getElem?_append_left hlt]; exact hx)
    simpa [RowIx.ent, hid] using this
theorem WS.blkCs (hw : WS w0 M l w) {k g : Nat} {t : TypeId} {cs : List Value} (hl : lk l k = some ⟨some g, t, cs⟩) : Cs w (some ⟨g, 0, none⟩) cs := fun j x hx => by
  refine ⟨⟨g, 0, none⟩, rfl, ?_⟩
  rw [add_lit', Nat.zero_add]
  exact hw.cell hl (o := j) hx

theorem i64_ok (n : Int) (h : -9223372036854775808 ≤ n ∧ n ≤ 9223372036854775807) : IntKind.i64.wrap n = n := IntWalk.i64_in n h
theorem u64_ok (n : Int) (h : 0 ≤ n ∧ n ≤ 18446744073709551615) : IntKind.u64.wrap n = n := IntWalk.u64_in n h
theorem u8_ok (n : Int) (h : 0 ≤ n ∧ n ≤ 255) : IntKind.u8.wrap n = n := IntWalk.u8_in n h
theorem i64_quo_ok (x y : Int) (h : 0 ≤ x ∧ x ≤ 9223372036854775807 ∧ 1 ≤ y) : IntKind.i64.wrap (x.tdiv y) = x / y := IntWalk.i64_quo x y h
theorem u64_quo_ok (x y : Int) (h : 0 ≤ x ∧ x ≤ 18446744073709551615 ∧ 1 ≤ y) : IntKind.u64.wrap (x.tdiv y) = x / y := IntWalk.u64_quo x y h
theorem rem_ok (x y : Int) (h : 0 ≤ x) : x.tmod y = x % y := Int.tmod_eq_emod_of_nonneg h
theorem u8_wrap (n : Int) : IntKind.u8.wrap n = n % 256 := IntKind.wrap_u8 n
theorem u64_wrap (n : Int) : IntKind.u64.wrap n = n % 18446744073709551616 := by simp [IntKind.wrap, IntKind.bits, IntKind.signed]

variable {lS : List (Nat × Ent)} {ops : Array Oper} {F : Act → World → Prop} {L : List (Oper × K)} {Q : Exit → Act → World → Prop}
theorem WS.addNil (hw : WS w0 M l w) (k : Nat) (t : TypeId) : WS w0 M ((k, ⟨none, t, []⟩) :: l) w := by
  refine ⟨hw.os, hw.tape, hw.output, hw.size, hw.keep, fun j e he => ?_, fun j j' e e' g he he' hne hg => ?_, fun j e g he hg => ?_⟩
  · rw [lk_cons] at he
    split at he
    · simp at he; subst he; exact ⟨rfl, trivial⟩
    · exact hw.live j e he
  · rw [lk_cons] at he he'
    split at he
    · simp at he; subst he; simp at hg
    · split at he'
      · simp at he'; subst he'; simp
      · exact hw.apart j j' e e' g he he' hne hg
  · rw [lk_cons] at he
    split at he
    · simp at he; subst he; simp at hg
    · exact hw.own j e g he hg
/-- A slot's value in another spelling. -/
theorem Has.as {a : Act} (ha : Has N σ a) {t : Nat} {v v' : Value} (h : lk σ t = some v) (e : v = v') : Has N ((t, v') :: σ) a := ha.sub fun n u hn => by
  rw [lk_cons] at hn
  split at hn
  · rename_i hk; subst hk; rw [h, e]; exact hn
  · exact hn
theorem T.as {c : Code} {v : Value} (t : Nat) (v' : Value) (h : lk σ t = some v) (e : v = v') (hT : T P w0 M N Q c ((t, v') :: σ) l) : T P w0 M N Q c σ l := fun a w ha hw => hT a w (ha.as h e) hw
theorem J.as {v : Value} (t : Nat) (v' : Value) (h : lk σ t = some v) (e : v = v') (hT : J P ops F w0 M N lS L ((t, v') :: σ) l) : J P ops F w0 M N lS L σ l := fun hlS a ha => hT hlS a (ha.as h e)
/-- An entry's cells in another spelling. -/
theorem WS.asE (hw : WS w0 M l w) {k : Nat} {e e' : Ent} (h : lk l k = some e) (he : e = e') : WS w0 M ((k, e') :: l) w := hw.sub fun n u hn => by
  rw [lk_cons] at hn
  split at hn
  · rename_i hk; subst hk; rw [h, he]; exact hn
  · exact hn
theorem T.asE {c : Code} {e : Ent} (k : Nat) (e' : Ent) (h : lk l k = some e) (he : e = e') (hT : T P w0 M N Q c σ ((k, e') :: l)) : T P w0 M N Q c σ l := fun a w ha hw => hT a w ha (hw.asE h he)
theorem T.addNil {c : Code} (k : Nat) (t : TypeId) (h : T P w0 M N Q c σ ((k, ⟨none, t, []⟩) :: l)) : T P w0 M N Q c σ l := fun a w ha hw => h a w ha (hw.addNil k t)
/-- One entry alone, under another name. -/
theorem WS.only (hw : WS w0 M l w) (k k' : Nat) {e : Ent} (he : lk l k = some e) : WS w0 M [(k', e)] w := by
  refine ⟨hw.os, hw.tape, hw.output, hw.size, hw.keep, fun j e' h' => ?_, fun j j' e1 e2 g h1 h2 hne hg => ?_, fun j e' g h' hg => ?_⟩
  · rw [lk_cons] at h'; split at h'
    · simp at h'; subst h'; exact hw.live k e he
    · simp [lk] at h'
  · rw [lk_cons] at h1 h2
    split at h1 <;> split at h2
    · omega
    · simp [lk] at h2
    · simp [lk] at h1
    · simp [lk] at h1
  · rw [lk_cons] at h'; split at h'
    · simp at h'; subst h'; exact hw.own k e g he hg
    · simp [lk] at h'
theorem WS.lit (hw : WS w0 M l w) {l' : List (Nat × Ent)} (hs : Sub l' l) : WS w0 M l' w := hw.sub hs

variable {d : Option Tmp} {ty : TypeId} {p : String} {af : Array Edge}
theorem WS.rename {e : Ent} (h : WS w0 M [(0, e)] w) (k : Nat) : WS w0 M [(k, e)] w := h.only 0 k rfl
end Go.Fw
set_option linter.unusedVariables false
namespace Go.Fw
open Go

def rowN (kd : IntKind) (xs : List Nat) : List Value := xs.map fun (n : Nat) => Value.int kd (n : Int)
theorem rowN_length (kd : IntKind) (xs : List Nat) : (rowN kd xs).length = xs.length := by simp [rowN]
theorem rowN_append (kd : IntKind) (xs ys : List Nat) : rowN kd (xs ++ ys) = rowN kd xs ++ rowN kd ys := by simp [rowN]
theorem rowN_get (kd : IntKind) (xs : List Nat) (i : Nat) (h : i < xs.length) : (rowN kd xs)[i]? = some (.int kd (xs.getD i 0 : Nat)) := by simp [rowN, h, List.getD]
theorem rowN_get1 (kd : IntKind) (xs : List Nat) (i : Nat) (h : i < xs.length) : (rowN kd xs)[i * 1]? = some (.int kd (xs.getD i 0 : Nat)) := by rw [Nat.mul_one]; exact rowN_get kd xs i h
theorem rowN_get0 (kd : IntKind) (xs : List Nat) (i : Nat) (h : i < xs.length) : (rowN kd xs)[0 + i * 1]? = some (.int kd (xs.getD i 0 : Nat)) := by rw [Nat.zero_add]; exact rowN_get1 kd xs i h
theorem rowN_get1s (kd : IntKind) (xs : List Nat) (sp : List Value) (i : Nat) (h : i < xs.length) : (rowN kd xs ++ sp)[i * 1]? = some (.int kd (xs.getD i 0 : Nat)) := by
  rw [Nat.mul_one, List.getElem?_append_left (by rw [rowN_length]; exact h)]; exact rowN_get kd xs i h
theorem rowN_set (kd : IntKind) (xs : List Nat) (i : Nat) (x : Nat) : (rowN kd xs).set i (.int kd (x : Int)) = rowN kd (xs.set i x) := by simp [rowN, List.map_set]
theorem rowN_one (kd : IntKind) (xs : List Nat) : ∀ u ∈ rowN kd xs, u.oneCell' = true := by
  intro u hu
  simp only [rowN, List.mem_map] at hu
  obtain ⟨x, _, rfl⟩ := hu
  rfl
theorem rowN_seg (kd : IntKind) (xs : List Nat) (o q : Nat) : ((rowN kd xs).drop o).take q = rowN kd ((xs.drop o).take q) := by simp [rowN, List.map_drop, List.map_take]
theorem zeros_nat (kd : IntKind) (q : Nat) : zeros (.int kd 0) q = rowN kd (List.replicate q 0) := by rw [zeros_int]; simp [rowI, rowN]
theorem Cs.isSomeN {w : World} {kd : IntKind} {A : Option Addr} {xs : List Nat} (h : Cs w A (rowN kd xs)) (hn : 0 < xs.length) : A.isSome = true := h.isSome (by rw [rowN_length]; exact hn)
/-- A store of one number into a row (with room behind it). -/
theorem putN (kd : IntKind) (xs : List Nat) (sp : List Value) (i x : Nat) (h : i < xs.length) : put (rowN kd xs ++ sp) i [.int kd (x : Int)] = rowN kd (xs.set i x) ++ sp := by
  rw [put_one _ _ _ (by simp [rowN]; omega), List.set_append_left _ _ (by rw [rowN_length]; exact h), rowN_set]
theorem putN' (kd : IntKind) (xs : List Nat) (i x : Nat) (h : i < xs.length) : put (rowN kd xs) i [.int kd (x : Int)] = rowN kd (xs.set i x) := by
  have := putN kd xs [] i x h; simpa using this

/-- What a contract says of a fresh row of numbers that is handed back. -/
def RowsPost (w : World) (t : TypeId) (kd : IntKind) (φ : List Nat → Prop) (e : Ending) (w' : World) : Prop :=
  ∃ zs : List Nat, φ zs ∧ ∃ r : RowIx, r.Ok 1 zs.length ∧ e = .returned (r.val zs.length) ∧ WS w [] [(0, r.ent t (rowN kd zs))] w'
theorem RowsPost.mk' {w w' : World} {l : List (Nat × Ent)} {t : TypeId} {kd : IntKind} {φ : List Nat → Prop} {e : Ending} (zs : List Nat) (hz : φ zs) (r : RowIx) (hr : r.Ok 1 zs.length) (he : e = .returned (r.val zs.length)) (hw : WS w [] l w') (k : Nat) (hk : lk l k = some (r.ent t (rowN kd zs))) :
    RowsPost w t kd φ e w' := ⟨zs, hz, r, hr, he, hw.only k 0 hk⟩
section
variable {P : Program} {ops : Array Oper} {F : Act → World → Prop} {w0 : World} {M : List Nat} {N : Nf} {L : List (Oper × K)} {σ : List (Nat × Value)} {l lS : List (Nat × Ent)} {d : Option Tmp} {ty : TypeId} {p : String} {af : Array Edge} {x : Operand} {v z : Value}
theorem J.callRow (h : Nat) (hh : lk lS h = none) {f : FuncId} (hf : FnOk P f) {xs : Array Operand} {tys : Array TypeId} {args : List Value} (hx : evs σ xs.toList = some args) (hd : okd N d) {t : TypeId} {kd : IntKind} {φ : List Nat → Prop}
    (spec : ∀ w, WS w0 M l w → Calls P f args.toArray w (RowsPost w t kd φ))
    (hJ : ∀ (zs : List Nat) (r : RowIx), φ zs → r.Ok 1 zs.length → J P ops F w0 M N lS L (putd d (r.val zs.length) σ) ((h, r.ent t (rowN kd zs)) :: l)) :
    J P ops F w0 M N lS ((⟨d, .call ⟨.value (.func f), xs, tys⟩, ty, p, af, none⟩, .l) :: L) σ l :=
  J.call hf hx hd (ι := List Nat × RowIx) (fun i => φ i.1 ∧ i.2.Ok 1 i.1.length) (fun i => i.2.val i.1.length) [] (fun i => [(h, i.2.ent t (rowN kd i.1))])
    (fun w hw => (spec w hw).mono fun e w' ⟨zs, hz, r, hr, he, h2⟩ => ⟨(zs, r), ⟨hz, hr⟩, he, h2.rename h⟩) (fun _ _ g hg => by simp at hg) (fun i k e he => by
      rw [lk_cons] at he
      split at he
      · rename_i hk; subst hk; exact hh
      · simp [lk] at he) (fun i hi => hJ i.1 i.2 hi.1 hi.2)

theorem fold_set : ∀ (vs : List Value) (k : Nat) (arr : Array Value), k + vs.length = arr.size →
    (vs.zipIdx k).foldl (fun cs (q : Value × Nat) => cs.setIfInBounds (0 + q.2) q.1) arr = (arr.toList.take k ++ vs).toArray
  | [], k, arr, h => by
    simp at h
    subst h
    simp
    rw [← Array.length_toList, List.take_length]
  | v :: vs, k, arr, h => by
    simp at h
    rw [List.zipIdx_cons, List.foldl_cons, fold_set vs (k + 1) _ (by simp; omega)]
    congr 1
    simp only [Nat.zero_add, Array.toList_setIfInBounds]
    rw [List.take_add_one, List.take_set_of_le (Nat.le_refl k)]
    simp [show k < arr.size by omega]

theorem fill_one (size : Nat) (arr : Array Value) (v : Value) (cs : List Value) (hv : v.cells = cs.toArray) (hc : cs.length = size) (ha : arr.size = size) :
    Instr.fill (fun i => some (i * size, size)) arr [(0, v)] = some cs.toArray := by
  have h1 : v.cells.size = size := by rw [hv]; simpa using hc
  have h2 := fold_set cs 0 arr (by omega)
  simp only [List.take_zero, List.nil_append] at h2
  unfold Instr.fill
  dsimp only
  split
  · rename_i h; simp [h1, ha] at h
  · unfold Instr.fill
    rw [hv, ← Array.foldl_toList, Array.toList_zipIdx, Nat.zero_mul]
    exact congrArg some h2

/-- '[]T{x}': what 'append(l, x)' appends. -/
theorem J.lit1 (h : Nat) (hh : lk lS h = none) {t e size bytes : Nat} (ht : P.underlying t = some (.slice e)) (he : ElT P e size bytes z) (hsz : size ≤ 16777216) (hx : ev σ x = some v) (cs : List Value) (hv : v.cells = cs.toArray) (hc : cs.length = size) (hd : okd N d)
    (hJ : ∀ g, w0.heap.size ≤ g → J P ops F w0 M N lS L (putd d (.slice (some ⟨g, 0, none⟩) 1 1) σ) ((h, ⟨some g, e, cs⟩) :: l)) :
    J P ops F w0 M N lS ((⟨d, .buildSlice t 1 #[(0, x)], ty, p, af, none⟩, .l) :: L) σ l :=
  J.buildSlice h hh (vs := [(0, v)]) (by simp [evp, hx]) hd cs (fun w => by
    have h0 := he.2.2.1
    have h1 : ¬ (1 * size > 2 ^ 24) := by simp; omega
    have h2 : ¬ (1 * size = 0) := by omega
    obtain ⟨ti, hti, htz, hts, htb⟩ := he.open
    have hz : ZeroT P e z := by simp [ZeroT, hti, htz]
    have hf := fill_one size ((Array.range (1 * size)).map (fun i => z.cells[i % z.cells.size]!)) v cs hv hc (by simp)
    simp only [Instr.buildSlice, Sem.run_bind, run_underlying ht, Result.andThen, run_sizeOf he.sizeT, h1, if_false, h2, Sem.run_bind, run_zeroValue hz, Sem.run_pure, hf, newRow, run_newObj]
    rfl) hJ
end

theorem add_nat (a b : Nat) (h : a + b ≤ 9223372036854775807) : IntKind.i64.wrap ((a : Int) + (b : Int)) = ((a + b : Nat) : Int) := by rw [i64_ok _ (by omega)]; omega
theorem sub_nat (a b : Nat) (h : b ≤ a ∧ a ≤ 9223372036854775807) : IntKind.i64.wrap ((a : Int) - (b : Int)) = ((a - b : Nat) : Int) := by rw [i64_ok _ (by omega)]; omega
theorem mul_nat (a b : Nat) (h : a * b ≤ 9223372036854775807) : IntKind.i64.wrap ((a : Int) * (b : Int)) = ((a * b : Nat) : Int) := by rw [← Int.natCast_mul, i64_ok _ (by omega)]
theorem quo_nat (a b : Nat) (h : a ≤ 9223372036854775807 ∧ 1 ≤ b) : IntKind.i64.wrap ((a : Int).tdiv (b : Int)) = ((a / b : Nat) : Int) := by
  rw [i64_quo_ok _ _ (by omega)]; rfl
theorem rem_nat (a b : Nat) : (a : Int).tmod (b : Int) = ((a % b : Nat) : Int) := rfl
theorem addu_nat (a b : Nat) (h : a + b ≤ 18446744073709551615) : IntKind.u64.wrap ((a : Int) + (b : Int)) = ((a + b : Nat) : Int) := by rw [u64_ok _ (by omega)]; omega
theorem subu_nat (a b : Nat) (h : b ≤ a ∧ a ≤ 18446744073709551615) : IntKind.u64.wrap ((a : Int) - (b : Int)) = ((a - b : Nat) : Int) := by rw [u64_ok _ (by omega)]; omega
theorem mulu_nat (a b : Nat) (h : a * b ≤ 18446744073709551615) : IntKind.u64.wrap ((a : Int) * (b : Int)) = ((a * b : Nat) : Int) := by rw [← Int.natCast_mul, u64_ok _ (by omega)]
theorem quou_nat (a b : Nat) (h : a ≤ 18446744073709551615 ∧ 1 ≤ b) : IntKind.u64.wrap ((a : Int).tdiv (b : Int)) = ((a / b : Nat) : Int) := by
  rw [u64_quo_ok _ _ (by omega)]; rfl
theorem wrap_nat64 (a : Nat) (h : a ≤ 9223372036854775807) : IntKind.i64.wrap (a : Int) = ((a : Nat) : Int) := i64_ok _ (by omega)
theorem wrapu_nat (a : Nat) : IntKind.u64.wrap (a : Int) = ((a % 18446744073709551616 : Nat) : Int) := by rw [u64_wrap]; rfl
theorem wrapu_nat' (a : Nat) (h : a ≤ 18446744073709551615) : IntKind.u64.wrap (a : Int) = (a : Int) := u64_ok _ (by omega)
theorem wrap8_nat (a : Nat) : IntKind.u8.wrap (a : Int) = ((a % 256 : Nat) : Int) := by rw [u8_wrap]; rfl
theorem wrap8_nat' (a : Nat) (h : a ≤ 255) : IntKind.u8.wrap (a : Int) = (a : Int) := u8_ok _ (by omega)

/-! ### Digits -/
/-- The number of a row of digits, the lowest first. -/
def vl : List Nat → Nat
  | [] => 0
  | x :: xs => x + 256 * vl xs
def Dg (xs : List Nat) : Prop := ∀ x ∈ xs, x < 256
theorem Dg.nil : Dg [] := fun x h => by simp at h
theorem Dg.snoc {xs : List Nat} {x : Nat} (h : Dg xs) (hx : x < 256) : Dg (xs ++ [x]) := fun y hy => by
  rcases List.mem_append.1 hy with h1 | h1
  · exact h y h1
  · simp at h1; omega
theorem Dg.getD {xs : List Nat} (h : Dg xs) (i : Nat) : xs.getD i 0 < 256 := by
  rw [List.getD_eq_getElem?_getD]
  by_cases hi : i < xs.length
  · simp [hi]; exact h _ (List.getElem_mem hi)
  · simp [List.getElem?_eq_none (Nat.le_of_not_lt hi)]
theorem Dg.take {xs : List Nat} (h : Dg xs) (i : Nat) : Dg (xs.take i) := fun x hx => h x (List.mem_of_mem_take hx)
theorem vl_append (xs ys : List Nat) : vl (xs ++ ys) = vl xs + vl ys * 256 ^ xs.length := by
  induction xs with
  | nil => simp [vl]
  | cons x xs ih =>
    simp only [List.cons_append, vl, ih, List.length_cons, Nat.pow_succ]
    rw [Nat.mul_add, ← Nat.mul_assoc, Nat.mul_comm 256 (vl ys), Nat.mul_assoc (vl ys), Nat.mul_comm 256 (256 ^ _)]
    omega
theorem vl_snoc (xs : List Nat) (x : Nat) : vl (xs ++ [x]) = vl xs + x * 256 ^ xs.length := by rw [vl_append]; simp [vl]
theorem vl_lt {xs : List Nat} (h : Dg xs) : vl xs < 256 ^ xs.length := by
  induction xs with
  | nil => simp [vl]
  | cons x xs ih =>
    have h1 := ih (fun y hy => h y (by simp [hy]))
    have h2 := h x (by simp)
    simp only [vl, List.length_cons, Nat.pow_succ]
    omega
theorem vl_take_succ (xs : List Nat) (i : Nat) : vl (xs.take (i + 1)) = vl (xs.take i) + xs.getD i 0 * 256 ^ i := by
  by_cases hi : i < xs.length
  · rw [List.take_succ_eq_append_getElem hi, vl_snoc, List.length_take, Nat.min_eq_left (Nat.le_of_lt hi)]
    simp [List.getD, hi]
  · rw [List.take_of_length_le (by omega), List.take_of_length_le (by omega), List.getD_eq_getElem?_getD, List.getElem?_eq_none (by omega)]
    simp
theorem vl_take_all (xs : List Nat) (i : Nat) (h : xs.length ≤ i) : vl (xs.take i) = vl xs := by rw [List.take_of_length_le h]
theorem vl_take_lt {xs : List Nat} (h : Dg xs) (i : Nat) : vl (xs.take i) < 256 ^ i := by
  have h1 := vl_lt (h.take i)
  have h2 : 256 ^ (xs.take i).length ≤ 256 ^ i := Nat.pow_le_pow_right (by omega) (by rw [List.length_take]; omega)
  omega

/-- q digits of a number. -/
def dgs (x : Nat) : Nat → List Nat
  | 0 => []
  | q + 1 => dgs x q ++ [x / 256 ^ q % 256]
theorem dgs_length (x q : Nat) : (dgs x q).length = q := by induction q with
  | zero => rfl
  | succ q ih => simp [dgs, ih]
theorem dgs_dg (x q : Nat) : Dg (dgs x q) := by induction q with
  | zero => exact Dg.nil
  | succ q ih => exact ih.snoc (Nat.mod_lt _ (by omega))
theorem dgs_vl (x q : Nat) : vl (dgs x q) = x % 256 ^ q := by
  induction q with
  | zero => simp [dgs, vl, Nat.mod_one]
  | succ q ih =>
    rw [dgs, vl_snoc, ih, dgs_length, Nat.pow_succ, Nat.mod_mul, Nat.mul_comm]
theorem dgs_get (x q i : Nat) (h : i < q) : (dgs x q).getD i 0 = x / 256 ^ i % 256 := by
  induction q with
  | zero => omega
  | succ q ih =>
    rw [dgs, List.getD_eq_getElem?_getD]
    by_cases hi : i < q
    · rw [List.getElem?_append_left (by rw [dgs_length]; exact hi), ← List.getD_eq_getElem?_getD, ih hi]
    · obtain rfl : i = q := by omega
      rw [List.getElem?_append_right (by rw [dgs_length]; omega), dgs_length]
      simp
theorem dgs_succ (x q : Nat) : dgs x (q + 1) = dgs x q ++ [x / 256 ^ q % 256] := rfl
theorem dgs_zero (x : Nat) : dgs x 0 = [] := rfl
attribute [irreducible] dgs

/-! ### Words -/
def lim (x i : Nat) : Nat := x / 18446744073709551616 ^ i % 18446744073709551616
def wl (x : Nat) : List Nat := [lim x 0, lim x 1, lim x 2, lim x 3]
abbrev wc (x : Nat) : List Value := rowN .u64 (wl x)
abbrev W (x : Nat) : Value := .agg (wc x).toArray
theorem lim_lt (x i : Nat) : lim x i < 18446744073709551616 := Nat.mod_lt _ (by omega)
theorem wl_length (x : Nat) : (wl x).length = 4 := rfl
theorem wl_get (x i : Nat) (h : i < 4) : (wl x).getD i 0 = lim x i := by
  match i, h with
  | 0, _ => rfl
  | 1, _ => rfl
  | 2, _ => rfl
  | 3, _ => rfl
end Go.Fw
set_option linter.unusedVariables false
namespace Go.Fw
open Go

theorem vl_ext : ∀ (xs ys : List Nat), (∀ t, xs.getD t 0 = ys.getD t 0) → vl xs = vl ys
  | [], [], _ => rfl
  | [], y :: ys, h => by
    have h0 := h 0
    have := vl_ext [] ys (fun t => by have := h (t + 1); simpa using this)
    simp [vl] at h0 this ⊢; omega
  | x :: xs, [], h => by
    have h0 := h 0
    have := vl_ext xs [] (fun t => by have := h (t + 1); simpa using this)
    simp [vl] at h0 this ⊢; omega
  | x :: xs, y :: ys, h => by
    have h0 := h 0
    have := vl_ext xs ys (fun t => by have := h (t + 1); simpa using this)
    simp [vl] at h0 this ⊢; omega

theorem vl_zero {xs : List Nat} (h : ∀ t, xs.getD t 0 = 0) : vl xs = 0 := by
  have := vl_ext xs [] (fun t => by rw [h t]; simp)
  simpa [vl] using this
theorem vl_pos : ∀ (xs : List Nat) (t : Nat), xs.getD t 0 ≠ 0 → vl xs ≠ 0
  | [], t, h => by simp at h
  | x :: xs, 0, h => by simp [vl] at h ⊢; omega
  | x :: xs, t + 1, h => by
    have := vl_pos xs t (by simpa using h)
    simp [vl]; omega

theorem vl_lt_at : ∀ (i : Nat) (xs ys : List Nat), Dg xs → Dg ys → xs.getD i 0 < ys.getD i 0 → (∀ t, i < t → xs.getD t 0 = ys.getD t 0) → vl xs < vl ys
  | i, xs, [], _, _, h, _ => by simp at h
  | 0, [], y :: ys, hx, hy, h, he => by simp [vl] at h ⊢; omega
  | 0, x :: xs, y :: ys, hx, hy, h, he => by
    have := vl_ext xs ys (fun t => by have := he (t + 1) (by omega); simpa using this)
    simp [vl] at h ⊢; omega
  | i + 1, [], y :: ys, hx, hy, h, he => by
    have := vl_lt_at i [] ys Dg.nil (fun z hz => hy z (by simp [hz])) (by simpa using h) (fun t ht => by have := he (t + 1) (by omega); simpa using this)
    simp [vl] at this ⊢; omega
  | i + 1, x :: xs, y :: ys, hx, hy, h, he => by
    have := vl_lt_at i xs ys (fun z hz => hx z (by simp [hz])) (fun z hz => hy z (by simp [hz])) (by simpa using h) (fun t ht => by have := he (t + 1) (by omega); simpa using this)
    have h1 := hx x (by simp)
    simp [vl]; omega

/-- What 'compare' tells. -/
def cmpN (a b : Nat) : Int := if a < b then -1 else if b < a then 1 else 0
theorem cmpN_lt {a b : Nat} (h : a < b) : cmpN a b = -1 := by simp [cmpN, h]
theorem cmpN_gt {a b : Nat} (h : b < a) : cmpN a b = 1 := by simp [cmpN, h, Nat.not_lt.2 (Nat.le_of_lt h)]
theorem cmpN_eq {a b : Nat} (h : a = b) : cmpN a b = 0 := by subst h; simp [cmpN]

theorem vl_take_mod {xs : List Nat} (h : Dg xs) (n : Nat) : vl (xs.take n) = vl xs % 256 ^ n := by
  have e : xs = xs.take n ++ xs.drop n := (List.take_append_drop n xs).symm
  have hlt := vl_take_lt h n
  by_cases hn : n ≤ xs.length
  · have h1 : vl xs = vl (xs.take n) + vl (xs.drop n) * 256 ^ n := by
      conv => lhs; rw [e]
      rw [vl_append, List.length_take, Nat.min_eq_left hn]
    rw [h1, Nat.add_mul_mod_self_right, Nat.mod_eq_of_lt hlt]
  · rw [vl_take_all xs n (by omega)] at hlt ⊢
    rw [Nat.mod_eq_of_lt hlt]
theorem vl_get {xs : List Nat} (h : Dg xs) (i : Nat) : xs.getD i 0 = vl xs / 256 ^ i % 256 := by
  have h1 := vl_take_mod h (i + 1)
  rw [vl_take_succ, vl_take_mod h i, Nat.pow_succ] at h1
  have hp : 0 < 256 ^ i := Nat.pow_pos (by omega)
  have h2 : (vl xs % 256 ^ i + xs.getD i 0 * 256 ^ i) / 256 ^ i = vl xs % (256 ^ i * 256) / 256 ^ i := by rw [h1]
  rw [Nat.add_mul_div_right _ _ hp, Nat.div_eq_of_lt (Nat.mod_lt _ hp), Nat.zero_add, Nat.mod_mul_right_div_self] at h2
  exact h2

/-- Adding: what is made after i rounds. -/
theorem plus_step {xs ys zs : List Nat} {i c : Nat} (hx : Dg xs) (hy : Dg ys) (hz : Dg zs) (hl : zs.length = i) (hc : c ≤ 1) (h : vl zs + c * 256 ^ i = vl (xs.take i) + vl (ys.take i)) :
    Dg (zs ++ [(xs.getD i 0 + ys.getD i 0 + c) % 256]) ∧ (xs.getD i 0 + ys.getD i 0 + c) / 256 ≤ 1 ∧
    vl (zs ++ [(xs.getD i 0 + ys.getD i 0 + c) % 256]) + (xs.getD i 0 + ys.getD i 0 + c) / 256 * 256 ^ (i + 1) = vl (xs.take (i + 1)) + vl (ys.take (i + 1)) := by
  have h1 := hx.getD i
  have h2 := hy.getD i
  refine ⟨hz.snoc (Nat.mod_lt _ (by omega)), by omega, ?_⟩
  rw [vl_snoc, hl, vl_take_succ, vl_take_succ]
  generalize hn : xs.getD i 0 + ys.getD i 0 + c = n
  have e : n % 256 * 256 ^ i + n / 256 * 256 ^ (i + 1) = n * 256 ^ i := by
    rw [Nat.pow_succ, Nat.mul_comm (256 ^ i) 256, ← Nat.mul_assoc, ← Nat.add_mul]
    congr 1
    omega
  have e2 : n * 256 ^ i = xs.getD i 0 * 256 ^ i + ys.getD i 0 * 256 ^ i + c * 256 ^ i := by rw [← hn, Nat.add_mul, Nat.add_mul]
  omega

theorem vl_set : ∀ (xs : List Nat) (i v : Nat), i < xs.length → vl (xs.set i v) + xs.getD i 0 * 256 ^ i = vl xs + v * 256 ^ i
  | [], i, v, h => by simp at h
  | x :: xs, 0, v, h => by simp [vl]; omega
  | x :: xs, i + 1, v, h => by
    have := vl_set xs i v (by simpa using h)
    simp only [List.set_cons_succ, vl, List.getD_cons_succ, Nat.pow_succ]
    rw [← Nat.mul_assoc, ← Nat.mul_assoc, Nat.mul_comm _ 256, Nat.mul_comm (v * 256 ^ i) 256]
    omega
theorem Dg.set {xs : List Nat} (h : Dg xs) (i : Nat) {v : Nat} (hv : v < 256) : Dg (xs.set i v) := fun y hy => by
  rcases List.mem_or_eq_of_mem_set hy with h1 | h1
  · exact h y h1
  · omega

/-! ### The parts of a word, as they are filled digit by digit -/
/-- Part q, when the digits from number j on are in. -/
def limF (D j q : Nat) : Nat := D / 256 ^ (max j (8 * q)) % 256 ^ (8 * q + 8 - max j (8 * q))
theorem pow256 (k : Nat) : 256 ^ (8 * k) = 18446744073709551616 ^ k := by rw [Nat.pow_mul]
theorem limF_zero (D q : Nat) : limF D 0 q = lim D q := by
  unfold limF lim
  rw [Nat.max_eq_right (by omega), show 8 * q + 8 - 8 * q = 8 by omega, pow256]
theorem limF_far (D j q : Nat) (h : 8 * q + 8 ≤ j) : limF D j q = 0 := by
  unfold limF
  rw [Nat.max_eq_left (by omega), show 8 * q + 8 - j = 0 by omega]
  simp [Nat.mod_one]
theorem limF_lt (D j q : Nat) : limF D j q < 18446744073709551616 := by
  unfold limF
  have h1 : 256 ^ (8 * q + 8 - max j (8 * q)) ≤ 256 ^ 8 := Nat.pow_le_pow_right (by omega) (by omega)
  have h2 := Nat.mod_lt (D / 256 ^ (max j (8 * q))) (show 256 ^ (8 * q + 8 - max j (8 * q)) > 0 from Nat.pow_pos (by omega))
  omega
theorem limF_lt' (D j q : Nat) (h : 8 * q < j) : limF D j q < 72057594037927936 := by
  unfold limF
  have h1 : 256 ^ (8 * q + 8 - max j (8 * q)) ≤ 256 ^ 7 := Nat.pow_le_pow_right (by omega) (by omega)
  have h2 := Nat.mod_lt (D / 256 ^ (max j (8 * q))) (show 256 ^ (8 * q + 8 - max j (8 * q)) > 0 from Nat.pow_pos (by omega))
  omega
/-- One digit more. -/
theorem limF_step (D j q : Nat) (h1 : 8 * q ≤ j) (h2 : j < 8 * q + 8) : limF D j q = limF D (j + 1) q * 256 + D / 256 ^ j % 256 := by
  unfold limF
  rw [Nat.max_eq_left h1, Nat.max_eq_left (by omega : 8 * q ≤ j + 1)]
  have e : 8 * q + 8 - j = (8 * q + 8 - (j + 1)) + 1 := by omega
  rw [e, Nat.pow_succ, Nat.mul_comm (256 ^ (8 * q + 8 - (j + 1))) 256, Nat.mod_mul, Nat.div_div_eq_div_mul, Nat.pow_succ 256 j, Nat.add_comm, Nat.mul_comm 256]
theorem limF_other (D j q : Nat) (h : j < 8 * q ∨ 8 * q + 8 ≤ j) : limF D j q = limF D (j + 1) q := by
  rcases h with h | h
  · unfold limF; rw [Nat.max_eq_right (by omega), Nat.max_eq_right (by omega)]
  · rw [limF_far _ _ _ h, limF_far _ _ _ (by omega)]

/-- A word by its parts. -/
theorem list4 {ys : List Nat} (h : ys.length = 4) : ys = [ys.getD 0 0, ys.getD 1 0, ys.getD 2 0, ys.getD 3 0] := by
  match ys, h with
  | [a, b, c, d], _ => rfl
theorem wl_of {ys : List Nat} (h : ys.length = 4) (x : Nat) (hq : ∀ q, q < 4 → ys.getD q 0 = lim x q) : ys = wl x := by
  rw [list4 h, hq 0 (by omega), hq 1 (by omega), hq 2 (by omega), hq 3 (by omega)]; rfl
theorem getD_set (ys : List Nat) (i j v : Nat) (h : i < ys.length) : (ys.set i v).getD j 0 = if i = j then v else ys.getD j 0 := by
  rw [List.getD_eq_getElem?_getD, List.getElem?_set]
  by_cases hij : i = j
  · subst hij; simp [h]
  · simp [hij, List.getD_eq_getElem?_getD]
theorem lim_mod (x i : Nat) (h : i < 4) : lim (x % 2 ^ 256) i = lim x i := by
  unfold lim
  rw [show (2 : Nat) ^ 256 = 18446744073709551616 ^ i * 18446744073709551616 ^ (4 - i) by rw [← Nat.pow_add, show i + (4 - i) = 4 by omega]]
  rw [Nat.mod_mul_right_div_self]
  rw [show 18446744073709551616 ^ (4 - i) = 18446744073709551616 * 18446744073709551616 ^ (3 - i) by rw [← Nat.pow_succ', show (3 - i).succ = 4 - i by omega]]
  exact Nat.mod_mul_right_mod _ _ _
theorem W_mod (x : Nat) : W (x % 2 ^ 256) = W x := by
  show Value.agg (wc _).toArray = Value.agg (wc _).toArray
  have : wl (x % 2 ^ 256) = wl x := by unfold wl; rw [lim_mod x 0 (by omega), lim_mod x 1 (by omega), lim_mod x 2 (by omega), lim_mod x 3 (by omega)]
  rw [wc, this]
theorem W_congr {x y : Nat} (h : x % 2 ^ 256 = y % 2 ^ 256) : W x = W y := by rw [← W_mod x, h, W_mod]

/-- A digit of a word out of its parts. -/
theorem lim_digit (x i : Nat) : lim x (i / 8) / 256 ^ (i % 8) % 256 = x / 256 ^ i % 256 := by
  unfold lim
  rw [← pow256]
  have e : (18446744073709551616 : Nat) = 256 ^ (i % 8) * 256 ^ (8 - i % 8) := by rw [← Nat.pow_add, show i % 8 + (8 - i % 8) = 8 by omega]
  rw [e, Nat.mod_mul_right_div_self, show 8 - i % 8 = (7 - i % 8) + 1 by omega, Nat.pow_succ, Nat.mul_comm _ 256, Nat.mod_mul_right_mod, Nat.div_div_eq_div_mul, ← Nat.pow_add, show 8 * (i / 8) + i % 8 = i by omega]

theorem dgs_vl32 (x : Nat) : vl (dgs x 32) = x % 2 ^ 256 := by rw [dgs_vl, show (256 : Nat) ^ 32 = 2 ^ 256 by decide]
theorem of_facts {zs : List Nat} {x : Nat} (h : zs = dgs x 32) : Dg zs ∧ zs.length = 32 ∧ vl zs = x % 2 ^ 256 ∧ ∀ i, i < 32 → zs.getD i 0 = x / 256 ^ i % 256 := by
  subst h; exact ⟨dgs_dg x 32, dgs_length x 32, dgs_vl32 x, fun i hi => dgs_get x 32 i hi⟩
theorem vl_full : vl (List.replicate 32 0 ++ [1]) = 2 ^ 256 := by decide +kernel
theorem dg_full : Dg (List.replicate 32 0 ++ [1]) := by
  intro x hx
  simp at hx
  omega

theorem full_facts {zs : List Nat} (h : zs = List.replicate 32 0 ++ [1]) : Dg zs ∧ zs.length = 33 ∧ vl zs = 2 ^ 256 := by
  subst h; exact ⟨dg_full, rfl, vl_full⟩
theorem cmpN_ge {a b : Nat} (h : 0 ≤ cmpN a b) : b ≤ a := by
  unfold cmpN at h; split at h
  · omega
  · split at h <;> omega
theorem cmpN_nge {a b : Nat} (h : ¬ 0 ≤ cmpN a b) : a < b := by
  unfold cmpN at h; split at h
  · assumption
  · split at h <;> omega

theorem cmpN_pos (a b : Nat) : decide ((0 : Int) < cmpN a b) = decide (b < a) := by
  unfold cmpN
  split
  · rw [decide_eq_false (by omega), decide_eq_false (by omega)]
  · split
    · rw [decide_eq_true (by omega), decide_eq_true (by assumption)]
    · rw [decide_eq_false (by omega), decide_eq_false (by assumption)]
theorem cmpN_neg (a b : Nat) : decide (cmpN a b < (0 : Int)) = decide (a < b) := by
  unfold cmpN
  split
  · rw [decide_eq_true (by omega), decide_eq_true (by assumption)]
  · split
    · rw [decide_eq_false (by omega), decide_eq_false (by assumption)]
    · rw [decide_eq_false (by omega), decide_eq_false (by assumption)]
theorem cmpN_nonneg (a b : Nat) : decide ((0 : Int) ≤ cmpN a b) = decide (b ≤ a) := by
  unfold cmpN
  split
  · rw [decide_eq_false (by omega), decide_eq_false (by omega)]
  · split
    · rw [decide_eq_true (by omega), decide_eq_true (by omega)]
    · rw [decide_eq_true (by omega), decide_eq_true (by omega)]

/-- How many bytes a word needs. -/
def sizeFrom (x : Nat) : Nat → Nat
  | 0 => 0
  | n + 1 => if x / 256 ^ n % 256 = 0 then sizeFrom x n else n + 1
def sizeN (x : Nat) : Nat := sizeFrom x 32
theorem sizeFrom_of (x n : Nat) (h : n ≠ 0 → x / 256 ^ (n - 1) % 256 ≠ 0) : ∀ m, n ≤ m → (∀ t, n ≤ t → t < m → x / 256 ^ t % 256 = 0) → sizeFrom x m = n
  | 0, hm, _ => by unfold sizeFrom; omega
  | m + 1, hm, hz => by
    unfold sizeFrom
    by_cases hn : n = m + 1
    · subst hn
      rw [if_neg (by simpa using h (by omega))]
    · rw [if_pos (hz m (by omega) (by omega))]
      exact sizeFrom_of x n h m (by omega) (fun t h1 h2 => hz t h1 (by omega))
theorem sizeN_of {x n : Nat} (hn : n ≤ 32) (hz : ∀ t, n ≤ t → t < 32 → x / 256 ^ t % 256 = 0) (h : n ≠ 0 → x / 256 ^ (n - 1) % 256 ≠ 0) : sizeN x = n := sizeFrom_of x n h 32 hn hz
end Go.Fw
set_option linter.unusedVariables false
namespace Go.Fw
open Go
variable {P : Program} {ops : Array Oper} {F : Act → World → Prop} {w0 : World} {M : List Nat} {N : Nf} {L : List (Oper × K)} {σ : List (Nat × Value)} {l lS : List (Nat × Ent)} {k : K}
  {d : Option Tmp} {ty : TypeId} {p : String} {af : Array Edge} {v v1 v2 z : Value} {x y c : Operand} {t : TypeId} {kd : IntKind} {n m r : Int} {b : Bool}

/-! ### Rows of words -/
def rowW (xs : List Nat) : List Value := xs.flatMap wc
theorem rowW_length (xs : List Nat) : (rowW xs).length = xs.length * 4 := by
  induction xs with
  | nil => rfl
  | cons x xs ih => simp only [rowW, List.flatMap_cons, List.length_append, List.length_cons] at ih ⊢; rw [ih]; simp only [wc, rowN_length, wl_length]; omega
theorem rowW_append (xs ys : List Nat) : rowW (xs ++ ys) = rowW xs ++ rowW ys := by simp [rowW]
theorem rowW_one' (x : Nat) : rowW [x] = wc x := by simp [rowW]
theorem rowW_one (xs : List Nat) : ∀ u ∈ rowW xs, u.oneCell' = true := by
  intro u hu
  simp only [rowW, List.mem_flatMap] at hu
  obtain ⟨x, _, hx⟩ := hu
  exact rowN_one _ _ u hx
theorem wc_length (x : Nat) : (wc x).length = 4 := rfl
theorem rowW_take (xs : List Nat) (i : Nat) : (rowW xs).take (i * 4) = rowW (xs.take i) := by
  induction xs generalizing i with
  | nil => simp [rowW]
  | cons x xs ih =>
    cases i with
    | zero => simp [rowW]
    | succ i =>
      rw [show (i + 1) * 4 = (wc x).length + i * 4 by rw [wc_length]; omega]
      simp only [rowW, List.flatMap_cons, List.take_succ_cons] at ih ⊢
      rw [List.take_length_add_append, ih]
theorem rowW_drop (xs : List Nat) (i : Nat) : (rowW xs).drop (i * 4) = rowW (xs.drop i) := by
  induction xs generalizing i with
  | nil => simp [rowW]
  | cons x xs ih =>
    cases i with
    | zero => simp [rowW]
    | succ i =>
      rw [show (i + 1) * 4 = (wc x).length + i * 4 by rw [wc_length]; omega]
      simp only [rowW, List.flatMap_cons, List.drop_succ_cons] at ih ⊢
      rw [List.drop_length_add_append, ih]
theorem rowW_seg (xs : List Nat) (i : Nat) (h : i < xs.length) : ((rowW xs).drop (i * 4)).take 4 = wc (xs.getD i 0) := by
  rw [rowW_drop, List.drop_eq_getElem_cons h]
  simp only [rowW, List.flatMap_cons]
  rw [List.take_append_of_le_length (by rw [wc_length]; omega), List.take_of_length_le (by rw [wc_length]; omega)]
  simp [List.getD, h]
theorem rowW_segs (xs : List Nat) (sp : List Value) (i : Nat) (h : i < xs.length) : ((rowW xs ++ sp).drop (i * 4)).take 4 = wc (xs.getD i 0) := by
  have hl := rowW_length xs
  rw [List.drop_append_of_le_length (by omega), List.take_append_of_le_length (by rw [List.length_drop]; omega)]
  exact rowW_seg xs i h
theorem rowW_seg0 (xs : List Nat) (sp : List Value) (i : Nat) (h : i < xs.length) : ((rowW xs ++ sp).drop (0 + i * 4)).take 4 = wc (xs.getD i 0) := by
  rw [Nat.zero_add]; exact rowW_segs xs sp i h
theorem rowW_seg00 (xs : List Nat) (i : Nat) (h : i < xs.length) : ((rowW xs).drop (0 + i * 4)).take 4 = wc (xs.getD i 0) := by
  rw [Nat.zero_add]; exact rowW_seg xs i h
theorem rowW_segb (pr : List Value) (xs : List Nat) (i : Nat) (h : i < xs.length) : ((pr ++ rowW xs).drop (pr.length + i * 4)).take 4 = wc (xs.getD i 0) := by
  rw [List.drop_length_add_append]; exact rowW_seg xs i h
/-- A word written into a row. -/
theorem putW (xs : List Nat) (sp : List Value) (i x : Nat) (h : i < xs.length) : put (rowW xs ++ sp) (i * 4) (wc x) = rowW (xs.set i x) ++ sp := by
  have hl := rowW_length xs
  have hs : xs.set i x = xs.take i ++ x :: xs.drop (i + 1) := by rw [List.set_eq_take_append_cons_drop, if_pos h]
  unfold put
  rw [List.take_append_of_le_length (by omega), rowW_take, wc_length, show i * 4 + 4 = (i + 1) * 4 by omega, List.drop_append_of_le_length (by omega), rowW_drop, hs, rowW_append]
  simp [rowW]
theorem putW' (xs : List Nat) (i x : Nat) (h : i < xs.length) : put (rowW xs) (i * 4) (wc x) = rowW (xs.set i x) := by
  have := putW xs [] i x h; simpa using this
theorem putWb (pr : List Value) (xs : List Nat) (i x : Nat) (h : i < xs.length) : put (pr ++ rowW xs) (pr.length + i * 4) (wc x) = pr ++ rowW (xs.set i x) := by
  have := putW' xs i x h
  unfold put at this ⊢
  rw [List.take_length_add_append, Nat.add_assoc, List.drop_length_add_append, ← this]
  simp

theorem J.loadW (hk : nog k) (h : Nat) {e : Ent} {o : Nat} (he : lk l h = some e) (hx : ev σ x = some (.pointer (some ⟨e.id.getD 0, o, none⟩))) (ht : AggT P t 4) {u : Nat} (hv : (e.cs.drop o).take 4 = wc u) (hd : okd N d)
    (hJ : J P ops F w0 M N lS L (putd d (W u) σ) l) : J P ops F w0 M N lS ((⟨d, .load t x, ty, p, af, none⟩, k) :: L) σ l := J.loadN hk h he hx ht (wc u) rfl hv hd hJ
theorem J.loadWs (h : Nat) {e : Ent} {o : Nat} (he : lk lS h = some e) (hx : ev σ x = some (.pointer (some ⟨e.id.getD 0, o, none⟩))) (ht : AggT P t 4) {u : Nat} (hv : (e.cs.drop o).take 4 = wc u) (hd : okd N d)
    (hJ : J P ops F w0 M N lS L (putd d (W u) σ) l) : J P ops F w0 M N lS ((⟨d, .load t x, ty, p, af, none⟩, .s) :: L) σ l := J.loadNs h he hx ht (wc u) rfl hv hd hJ
theorem J.loadIW (hk : nog k) {A : Option Addr} {cs : List Value} {i : Nat} (hc : Cs w0 A cs) (ho : Off M A) (hx : ev σ x = some (.pointer (some ((A.getD default).add i)))) (ht : AggT P t 4) {u : Nat} (hv : (cs.drop i).take 4 = wc u) (hd : okd N d)
    (hJ : J P ops F w0 M N lS L (putd d (W u) σ) l) : J P ops F w0 M N lS ((⟨d, .load t x, ty, p, af, none⟩, k) :: L) σ l := J.loadIN hk hc ho hx ht (wc u) rfl hv hd hJ
theorem J.loadIWs {A : Option Addr} {cs : List Value} {i : Nat} (hc : Cs w0 A cs) (ho : Off M A) (hx : ev σ x = some (.pointer (some ((A.getD default).add i)))) (ht : AggT P t 4) {u : Nat} (hv : (cs.drop i).take 4 = wc u) (hd : okd N d)
    (hJ : J P ops F w0 M N lS L (putd d (W u) σ) l) : J P ops F w0 M N lS ((⟨d, .load t x, ty, p, af, none⟩, .s) :: L) σ l := J.loadINs hc ho hx ht (wc u) rfl hv hd hJ
theorem Cs.isSomeW {w : World} {A : Option Addr} {xs : List Nat} (h : Cs w A (rowW xs)) (hn : 0 < xs.length) : A.isSome = true := h.isSome (by rw [rowW_length]; omega)

/-! ### Bytes as strings -/
def bstr (xs : List Nat) : ByteArray := ⟨(xs.map UInt8.ofNat).toArray⟩
theorem bstr_fold (xs : List Nat) : ((xs.map (fun (n : Nat) => (n : Int))).foldl (fun r n => r.push (UInt8.ofNat n.toNat)) ByteArray.empty) = bstr xs := by
  have key : ∀ (xs : List Nat) (s : ByteArray), ((xs.map (fun (n : Nat) => (n : Int))).foldl (fun r n => r.push (UInt8.ofNat n.toNat)) s) = ⟨s.data ++ (xs.map UInt8.ofNat).toArray⟩ := by
    intro xs
    induction xs with
    | nil => intro s; simp
    | cons x xs ih =>
      intro s
      simp only [List.map_cons, List.foldl_cons, ih, Int.toNat_natCast]
      congr 1
      simp [ByteArray.push]
  rw [key]
  show (⟨#[] ++ _⟩ : ByteArray) = _
  simp [bstr]
theorem u8_inj {a b : Nat} (ha : a < 256) (hb : b < 256) (h : UInt8.ofNat a = UInt8.ofNat b) : a = b := by
  have := congrArg UInt8.toNat h
  simp at this
  omega
theorem bstr_inj {xs ys : List Nat} (hx : Dg xs) (hy : Dg ys) (h : bstr xs = bstr ys) : xs = ys := by
  have h1 : xs.map UInt8.ofNat = ys.map UInt8.ofNat := by
    have := congrArg ByteArray.data h
    simpa [bstr] using this
  clear h
  induction xs generalizing ys with
  | nil => cases ys with
    | nil => rfl
    | cons y ys => simp at h1
  | cons x xs ih =>
    cases ys with
    | nil => simp at h1
    | cons y ys =>
      simp only [List.map_cons, List.cons.injEq] at h1
      rw [u8_inj (hx x (by simp)) (hy y (by simp)) h1.1, ih (fun a ha => hx a (by simp [ha])) (fun a ha => hy a (by simp [ha])) h1.2]
theorem bstr_eq {xs ys : List Nat} (hx : Dg xs) (hy : Dg ys) : ((bstr xs).toList == (bstr ys).toList) = decide (xs = ys) := by
  by_cases h : xs = ys
  · subst h; simp
  · rw [decide_eq_false h]
    have e1 : ∀ zs, (bstr zs).toList = zs.map UInt8.ofNat := fun zs => by rw [ByteArray.toList_eq]; simp [bstr]
    rw [e1, e1]
    refine beq_eq_false_iff_ne.2 fun e => h (bstr_inj hx hy ?_)
    unfold bstr; rw [e]
theorem run_bstr {w : World} {A : Option Addr} {q cap : Nat} {xs : List Nat} (hq : xs.length = q) (hc : Cs w A (rowN .u8 xs)) : (Conv.bytesToString (.slice A q cap)).run P w = .ok (.string (bstr xs)) w := by
  cases A with
  | none =>
    cases xs with
    | nil => rfl
    | cons x xs => obtain ⟨ad, ha, _⟩ := hc 0 _ (by simp [rowN]; rfl); cases ha
  | some a =>
    rw [run_bytesToString w a q cap (xs.map (fun (n : Nat) => (n : Int))) (by
      have h1 : (xs.map (fun (n : Nat) => (n : Int))).map (Value.int .u8) = rowN .u8 xs := by simp [rowN]
      rw [h1, ← hq, ← rowN_length .u8 xs]
      exact run_loadCells_list (P := P) w a _ fun j u hj => by
        obtain ⟨ad, ha, h⟩ := hc j u hj
        simp at ha; subst ha; exact h), bstr_fold]
theorem J.convBS (hk : nog k) {src dst e q cap : Nat} {A : Option Addr} (hs : P.underlying src = some (.slice e)) (he : P.underlying e = some (.int .u8)) (ht : P.underlying dst = some .string) (hx : ev σ x = some (.slice A q cap)) (xs : List Nat) (hq : xs.length = q)
    (hA : ∀ w, WS w0 M l w → Cs w A (rowN .u8 xs)) (hd : okd N d) (h : J P ops F w0 M N lS L (putd d (.string (bstr xs)) σ) l) : J P ops F w0 M N lS ((⟨d, .convert src dst x, ty, p, af, none⟩, k) :: L) σ l :=
  J.quiet rfl hk hd _ (fun a ha w hw => by
    simp only [execOp, ha.eval hx, Sem.run_bind, run_convert_bytes_string w src dst e A q cap hs he ht, run_bstr hq (hA w hw), Result.andThen, Sem.run_pure]) h
theorem J.eqStr {t' : TypeId} {xs ys : List Nat} (hx : ev σ x = some (.string (bstr xs))) (hy : ev σ y = some (.string (bstr ys))) (hd : okd N d) (h1 : Dg xs) (h2 : Dg ys) (h : J P ops F w0 M N lS L (putd d (.bool (decide (xs = ys))) σ) l) :
    J P ops F w0 M N lS ((⟨d, .binOp .eql t x y t', ty, p, af, none⟩, k) :: L) σ l :=
  J.eqlR hx hy hd (fun w => by rw [eqGuard_at_string, ← bstr_eq h1 h2]; rfl) h
theorem J.neqStr {t' : TypeId} {xs ys : List Nat} (hx : ev σ x = some (.string (bstr xs))) (hy : ev σ y = some (.string (bstr ys))) (hd : okd N d) (h1 : Dg xs) (h2 : Dg ys) (h : J P ops F w0 M N lS L (putd d (.bool (decide (xs ≠ ys))) σ) l) :
    J P ops F w0 M N lS ((⟨d, .binOp .neq t x y t', ty, p, af, none⟩, k) :: L) σ l :=
  J.eqlR hx hy hd (fun w => by rw [eqGuard_at_string, decide_not, ← bstr_eq h1 h2]; rfl) h

/-! ### Comparing -/
theorem beq_cast (a b : Nat) : ((a : Int) == (b : Int)) = decide (a = b) := by
  by_cases h : a = b
  · subst h; simp
  · rw [decide_eq_false h]; simp; omega
theorem run_eqInts {len e : Nat} (hT : ArrT P t len e 1) (ho : OneT P e) (hk : P.underlying e = some (.int kd)) (d D : Nat) (hD : D = d + 1) (xs ys : List Nat) (hx : xs.length = len) (hy : ys.length = len) (w : World) :
    (Op.equalIn (D + 1) t (.agg (rowN kd xs).toArray) (.agg (rowN kd ys).toArray)).run P w = .ok (decide (xs = ys)) w := by
  have key : ∀ (f : Nat → Option Bool × Unit → Sem (ForInStep (Option Bool × Unit))),
      (∀ i s, f i s = (do
        if (!(← Op.equalIn D e (← part e (rowN kd xs).toArray (i * 1)) (← part e (rowN kd ys).toArray (i * 1)))) = true then Pure.pure (ForInStep.done (some false, ()))
          else Pure.pure (ForInStep.yield (none, ())))) → ∀ (G : Option Bool × Unit → Sem Bool), (∀ u, G (none, u) = Pure.pure true) → (∀ b u, G (some b, u) = Pure.pure b) → ∀ (j i : Nat), i + j = len → (∀ q, q < i → xs.getD q 0 = ys.getD q 0) →
      ((forIn (List.range' i j) ((none, ()) : Option Bool × Unit) f).run P w).andThen (fun r w' => (G r).run P w') = .ok (decide (xs = ys)) w := by
    intro f hf G hG1 hG2 j
    induction j with
    | zero =>
      intro i hi hpre
      have : xs = ys := by
        apply List.ext_getElem (by omega)
        intro q h1 h2
        have := hpre q (by omega)
        simpa [List.getD, h1, h2] using this
      simp [this, hG1]
    | succ j ih =>
      intro i hi hpre
      have hpx : (part e (rowN kd xs).toArray (i * 1)).run P w = .ok (.int kd (xs.getD i 0 : Nat)) w := run_part_one ho _ _ (by rw [List.getElem?_toArray]; exact rowN_get1 _ _ _ (by omega)) w
      have hpy : (part e (rowN kd ys).toArray (i * 1)).run P w = .ok (.int kd (ys.getD i 0 : Nat)) w := run_part_one ho _ _ (by rw [List.getElem?_toArray]; exact rowN_get1 _ _ _ (by omega)) w
      have heq : (Op.equalIn D e (.int kd (xs.getD i 0 : Nat)) (.int kd (ys.getD i 0 : Nat))).run P w = .ok (decide (xs.getD i 0 = ys.getD i 0)) w := by
        rw [hD, run_equalIn_int w d e kd kd _ _ hk, beq_cast]
      have ih' := ih (i + 1) (by omega)
      simp only [List.range'_succ, List.forIn_cons, Sem.run_bind, hf, hpx, hpy, heq, Result.andThen_ok]
      by_cases h : xs.getD i 0 = ys.getD i 0
      · simp only [decide_eq_true h, Bool.not_true, Bool.false_eq_true, if_false, Sem.run_pure, Result.andThen_ok]
        refine ih' fun q hq => ?_
        rcases Nat.lt_or_ge q i with h1 | h1
        · exact hpre q h1
        · obtain rfl : q = i := by omega
          exact h
      · have hne : xs ≠ ys := fun e => h (by rw [e])
        simp only [decide_eq_false h, decide_eq_false hne, Bool.not_false, if_true, Sem.run_pure, Result.andThen_ok, hG2]
  simp only [Op.equalIn, Sem.run_bind, run_underlying hT.1, Result.andThen_ok, run_sizeOf hT.2, Std.Legacy.Range.forIn_eq_forIn_range', Std.Legacy.Range.size]
  simp only [Nat.sub_zero, Nat.add_sub_cancel, Nat.div_one]
  exact key _ (fun _ _ => rfl) _ (fun _ => rfl) (fun _ _ => rfl) len 0 (by omega) (fun q hq => by omega)

/-- Words. -/
def EqT (P : Program) (t : TypeId) : Prop := (∃ e, ArrT P t 4 e 1 ∧ OneT P e ∧ P.underlying e = some (.int .u64)) ∧ P.eqGuardType P.depth t = false
theorem wl_eq (a b : Nat) : decide (wl a = wl b) = decide (a % 2 ^ 256 = b % 2 ^ 256) := by
  have e : ∀ x : Nat, x % 2 ^ 256 = lim x 0 + 18446744073709551616 * (lim x 1 + 18446744073709551616 * (lim x 2 + 18446744073709551616 * lim x 3)) := by
    intro x
    unfold lim
    omega
  by_cases h : wl a = wl b
  · rw [decide_eq_true h]
    unfold wl at h
    simp only [List.cons.injEq, and_true] at h
    rw [decide_eq_true]
    rw [e a, e b, h.1, h.2.1, h.2.2.1, h.2.2.2]
  · rw [decide_eq_false h, decide_eq_false]
    intro h2
    apply h
    rw [e a, e b] at h2
    have l0 := lim_lt a 0; have l1 := lim_lt a 1; have l2 := lim_lt a 2; have l3 := lim_lt a 3
    have k0 := lim_lt b 0; have k1 := lim_lt b 1; have k2 := lim_lt b 2; have k3 := lim_lt b 3
    unfold wl
    rw [show lim a 0 = lim b 0 by omega, show lim a 1 = lim b 1 by omega, show lim a 2 = lim b 2 by omega, show lim a 3 = lim b 3 by omega]
theorem run_eqW (hT : EqT P t) (a b : Nat) (w : World) : (Op.equal t (W a) (W b)).run P w = .ok (decide (a % 2 ^ 256 = b % 2 ^ 256)) w := by
  obtain ⟨⟨e, h1, h2, h3⟩, _⟩ := hT
  rw [← wl_eq]
  exact run_eqInts h1 h2 h3 9998 9999 rfl (wl a) (wl b) rfl rfl w
theorem J.eqW {t' : TypeId} {x1 x2 : Nat} (hT : EqT P t) (hx : ev σ x = some (W x1)) (hy : ev σ y = some (W x2)) (hd : okd N d) (h : J P ops F w0 M N lS L (putd d (.bool (decide (x1 % 2 ^ 256 = x2 % 2 ^ 256))) σ) l) :
    J P ops F w0 M N lS ((⟨d, .binOp .eql t x y t', ty, p, af, none⟩, k) :: L) σ l :=
  J.eqlR hx hy hd (fun w => by
    simp only [Sem.run_bind, run_eqGuard_agg w .eql t x y _ _ hT.2, Result.andThen_ok, binOp, run_eqW hT, Sem.run_pure]) h
theorem J.neqW {t' : TypeId} {x1 x2 : Nat} (hT : EqT P t) (hx : ev σ x = some (W x1)) (hy : ev σ y = some (W x2)) (hd : okd N d) (h : J P ops F w0 M N lS L (putd d (.bool (decide (¬ x1 % 2 ^ 256 = x2 % 2 ^ 256))) σ) l) :
    J P ops F w0 M N lS ((⟨d, .binOp .neq t x y t', ty, p, af, none⟩, k) :: L) σ l :=
  J.eqlR hx hy hd (fun w => by
    simp only [Sem.run_bind, run_eqGuard_agg w .neq t x y _ _ hT.2, Result.andThen_ok, binOp, run_eqW hT, Sem.run_pure, decide_not]) h
/-- A pointer against nil. -/
theorem J.eqNil {t' : TypeId} {A : Option Addr} (ht : P.underlying t = some (.pointer (P.pointee t))) (hx : ev σ x = some (.pointer A)) (hy : ev σ y = some (.pointer none)) (hd : okd N d) (hz : A.isNone = b) (h : J P ops F w0 M N lS L (putd d (.bool b) σ) l) :
    J P ops F w0 M N lS ((⟨d, .binOp .eql t x y t', ty, p, af, none⟩, k) :: L) σ l :=
  J.eqlR hx hy hd (fun w => by subst hz; rw [eqGuard_at_pointer]; exact run_eql_pointer_nil w t A ht) h
theorem J.neqNil {t' : TypeId} {A : Option Addr} (ht : P.underlying t = some (.pointer (P.pointee t))) (hx : ev σ x = some (.pointer A)) (hy : ev σ y = some (.pointer none)) (hd : okd N d) (hz : (!A.isNone) = b) (h : J P ops F w0 M N lS L (putd d (.bool b) σ) l) :
    J P ops F w0 M N lS ((⟨d, .binOp .neq t x y t', ty, p, af, none⟩, k) :: L) σ l :=
  J.eqlR hx hy hd (fun w => by subst hz; rw [eqGuard_at_pointer]; exact run_neq_pointer_nil w t A ht) h
/-- Truths. -/
theorem J.neqB {t' : TypeId} {b1 b2 : Bool} (ht : P.underlying t = some .bool) (hx : ev σ x = some (.bool b1)) (hy : ev σ y = some (.bool b2)) (hd : okd N d) (hz : (!(b1 == b2)) = b) (h : J P ops F w0 M N lS L (putd d (.bool b) σ) l) :
    J P ops F w0 M N lS ((⟨d, .binOp .neq t x y t', ty, p, af, none⟩, k) :: L) σ l :=
  J.eqlR hx hy hd (fun w => by
    subst hz
    have := run_equalIn_bool' (P := P) w 9999 t b1 b2 ht
    simp only [eqGuard_at_bool, Sem.run_bind, Sem.run_pure, Result.andThen_ok, binOp, Op.equal, Op.maxDepth, this]) h
theorem J.eqB {t' : TypeId} {b1 b2 : Bool} (ht : P.underlying t = some .bool) (hx : ev σ x = some (.bool b1)) (hy : ev σ y = some (.bool b2)) (hd : okd N d) (hz : (b1 == b2) = b) (h : J P ops F w0 M N lS L (putd d (.bool b) σ) l) :
    J P ops F w0 M N lS ((⟨d, .binOp .eql t x y t', ty, p, af, none⟩, k) :: L) σ l :=
  J.eqlR hx hy hd (fun w => by
    subst hz
    have := run_equalIn_bool' (P := P) w 9999 t b1 b2 ht
    simp only [eqGuard_at_bool, Sem.run_bind, Sem.run_pure, Result.andThen_ok, binOp, Op.equal, Op.maxDepth, this]) h

/-! ### 'copy' -/
theorem J.copy (h : Nat) (hh : lk lS h = none) {e : Ent} {el size o q dLen dCap sLen sCap : Nat} {D A : Option Addr} {news : List Value} {sT : TypeId} (ht : SlT P t el size) (hs0 : 0 < size) (he : lk l h = some e) (hx : ev σ x = some (.slice D dLen dCap)) (hy : ev σ y = some (.slice A sLen sCap))
    (hD : news ≠ [] → D = some ⟨e.id.getD 0, o, none⟩) (hq : min sLen dLen = q) (hn : news.length = q * size) (hA : ∀ w, WS w0 M l w → Cs w A news) (h1 : ∀ u ∈ news, u.oneCell' = true) (hfit : o + news.length ≤ e.cs.length) (hd : okd N d) (cs' : List Value) (hcs : put e.cs o news = cs')
    (hJ : J P ops F w0 M N lS L (putd d (.int .i64 (q : Int)) σ) ((h, ⟨e.id, e.t, cs'⟩) :: l)) : J P ops F w0 M N lS ((⟨d, .call ⟨.builtin .copy, #[x, y], #[t, sT]⟩, ty, p, af, none⟩, .l) :: L) σ l :=
  J.loud rfl hd (ι := Unit) (fun _ => True) (fun _ => .int .i64 (q : Int)) (fun _ => (h, ⟨e.id, e.t, cs'⟩) :: l) (fun _ _ hs => hs.fresh hh) (fun a ha w hw => by
    rw [run_builtin ha (args := [.slice D dLen dCap, .slice A sLen sCap]) (by simp [evs, hx, hy]) w]
    have hmin : Nat.min sLen dLen = q := hq
    have hc := hA w hw
    by_cases hz : news = []
    · subst hz
      have hq0 : q = 0 := by
        have h3 : q * size = 0 := by simpa using hn.symm
        rcases Nat.mul_eq_zero.1 h3 with h4 | h4
        · exact h4
        · omega
      subst hq0
      have hput : put e.cs o [] = e.cs := by simp [put]
      rw [hput] at hcs
      subst hcs
      have hrun : (Builtin.copy_ #[t, sT] ty #[.slice D dLen dCap, .slice A sLen sCap]).run P w = .ok (goInt 0) w := by
        have hl : ∀ (x : Addr), (loadCells x 0).run P w = .ok #[] w := fun x => by simpa using run_loadCells_list (P := P) w x [] (by simp)
        cases D <;> cases A <;> simp [Builtin.copy_, run_underlying ht.1, Builtin.lenOf, Builtin.firstCells, run_sizeOf ht.2, hmin, storeCells, hl]
      simp only [builtin, Sem.run_bind, hrun, Result.andThen]
      exact ⟨(), trivial, rfl, hw.sub (Sub.cons he (Sub.refl _))⟩
    · obtain rfl := hD hz
      obtain ⟨ad, rfl⟩ : ∃ ad, A = some ad := by
        cases hne : news with
        | nil => exact absurd hne hz
        | cons u us => obtain ⟨ad, h2, _⟩ := hc 0 u (by simp [hne]); exact ⟨ad, h2⟩
      have hat := hw.live h e he
      cases hid : e.id with
      | none =>
        simp only [Ent.At, hid] at hat
        rw [hat.1] at hfit
        simp at hfit
        exact absurd hfit.2 hz
      | some g =>
        have hld : (loadCells ad (q * size)).run P w = .ok news.toArray w := by
          rw [← hn]
          exact run_loadCells_list (P := P) w ad news fun j u hj => by
            obtain ⟨ad', h2, h3⟩ := hc j u hj
            simp at h2; subst h2; exact h3
        have hst := run_store_ent (P := P) hid hat news hfit h1
        have hset := hw.set he hid (put e.cs o news)
        rw [hcs, hid] at hset
        have hrun : (Builtin.copy_ #[t, sT] ty #[.slice (some ⟨g, o, none⟩) dLen dCap, .slice (some ad) sLen sCap]).run P w = .ok (.int .i64 (q : Int)) (w.setRow g cs'.toArray) := by
          simp [Builtin.copy_, run_underlying ht.1, Builtin.lenOf, Builtin.firstCells, run_sizeOf ht.2, hmin, hld, hst, hcs, goInt]
        simp only [Option.getD_some, builtin, Sem.run_bind, hrun, Result.andThen]
        exact ⟨(), trivial, rfl, hset⟩) (fun _ _ => hJ)

/-! ### Adding with a carry -/
theorem J.add64 {f : FuncId} {fn : Func} {x y c : Operand} {tys : Array TypeId} (hf : P.funcs[f]? = some fn) (hname : (fn.name == "runtime.NumGoroutine") = false) (hb : fn.body.isNone = true) (hn : Extern.findNext fn = none) (he : Extern.find fn = some add64Entry) {a1 a2 cc : Nat}
    (hx : ev σ x = some (.int .u64 (a1 : Int))) (hy : ev σ y = some (.int .u64 (a2 : Int))) (hc : ev σ c = some (.int .u64 (cc : Int))) (h1 : cc ≤ 1) (hd : okd N d)
    (h : J P ops F w0 M N lS L (putd d (.tuple [.int .u64 (((a1 + a2 + cc) % 18446744073709551616 : Nat) : Int), .int .u64 (((a1 + a2 + cc) / 18446744073709551616 : Nat) : Int)].toArray) σ) l) :
    J P ops F w0 M N lS ((⟨d, .call ⟨.value (.func f), #[x, y, c], tys⟩, ty, p, af, none⟩, k) :: L) σ l :=
  J.extern hf hname hb hn he (args := [.int .u64 (a1 : Int), .int .u64 (a2 : Int), .int .u64 (cc : Int)]) (by simp [evs, hx, hy, hc]) hd (fun w => by
    rw [run_add64 _ _ _ (by omega) (by omega) (by omega) (by omega)]
    rfl) h
def sub64E : Array Value → Sem Value := fun args => do
  let (x, y, b) ← Extern.MathBitsCarry.three "Sub64" args
  pure (Extern.MathBitsCarry.pair ((x + Extern.MathBitsCarry.m64 - y - b) % Extern.MathBitsCarry.m64) (if x < y + b then 1 else 0))
theorem J.sub64 {f : FuncId} {fn : Func} {x y c : Operand} {tys : Array TypeId} (hf : P.funcs[f]? = some fn) (hname : (fn.name == "runtime.NumGoroutine") = false) (hb : fn.body.isNone = true) (hn : Extern.findNext fn = none) (he : Extern.find fn = some sub64E) {a1 a2 cc : Nat}
    (hx : ev σ x = some (.int .u64 (a1 : Int))) (hy : ev σ y = some (.int .u64 (a2 : Int))) (hc : ev σ c = some (.int .u64 (cc : Int))) (h1 : cc ≤ 1) (hd : okd N d)
    (h : J P ops F w0 M N lS L (putd d (.tuple [.int .u64 (((a1 + 18446744073709551616 - a2 - cc) % 18446744073709551616 : Nat) : Int), .int .u64 ((if a1 < a2 + cc then 1 else 0 : Nat) : Int)].toArray) σ) l) :
    J P ops F w0 M N lS ((⟨d, .call ⟨.value (.func f), #[x, y, c], tys⟩, ty, p, af, none⟩, k) :: L) σ l :=
  J.extern hf hname hb hn he (args := [.int .u64 (a1 : Int), .int .u64 (a2 : Int), .int .u64 (cc : Int)]) (by simp [evs, hx, hy, hc]) hd (fun w => by
    have : cc = 0 ∨ cc = 1 := by omega
    rcases this with rfl | rfl <;> rfl) h
/-- A table of bytes in a constant string. -/
theorem J.indexTab {s : ByteArray} {i : Nat} {f : Nat → Nat} (ht : P.underlying t = some .string) (hx : ev σ x = some (.string s)) (tab : ∀ j : Fin 256, (s.data.toList[j.val]?).map UInt8.toNat = some (f j.val)) (hy : ev σ y = some (.int kd (i : Int))) (hi : i < 256) (hd : okd N d)
    (hJ : J P ops F w0 M N lS L (putd d (.int .u8 (f i : Nat)) σ) l) : J P ops F w0 M N lS ((⟨d, .index t x y, ty, p, af, none⟩, k) :: L) σ l := by
  have h1 := tab ⟨i, hi⟩
  simp only [Option.map_eq_some_iff] at h1
  obtain ⟨u, hu, hf⟩ := h1
  refine J.indexStr ht hx hy (Int.natCast_nonneg _) (Int.toNat_natCast _) hu hd ?_
  rw [hf]; exact hJ
end Go.Fw
set_option linter.unusedVariables false
namespace Go.Fw
open Go

/-! ### Entries under other names -/
section
variable {P : Program} {ops : Array Oper} {F : Act → World → Prop} {w0 w : World} {M : List Nat} {N : Nf} {L : List (Oper × K)} {σ : List (Nat × Value)} {l lS : List (Nat × Ent)} {Q : Exit → Act → World → Prop}
def rm (k : Nat) : List (Nat × Ent) → List (Nat × Ent)
  | [] => []
  | (j, e) :: r => match Nat.beq j k with | true => rm k r | false => (j, e) :: rm k r
theorem lk_rm (k n : Nat) (l : List (Nat × Ent)) : lk (rm k l) n = if n = k then none else lk l n := by
  induction l with
  | nil => simp [rm, lk]
  | cons p r ih =>
    obtain ⟨j, e⟩ := p
    simp only [rm]
    cases hb : Nat.beq j k with
    | true =>
      have hjk : j = k := Nat.eq_of_beq_eq_true hb
      subst hjk
      simp only [ih, lk_cons]
      by_cases h : n = j
      · simp [h]
      · simp [h, Ne.symm h]
    | false =>
      have hjk : j ≠ k := fun e => by rw [e] at hb; simp at hb
      simp only [lk_cons, ih]
      by_cases h : j = n
      · subst h; simp [hjk]
      · simp [h]
/-- One entry moves to another name, what stood there falls away. -/
theorem WS.mv (hw : WS w0 M l w) {e : Ent} (k k' : Nat) (he : lk l k = some e) : WS w0 M ((k', e) :: rm k (rm k' l)) w := by
  have key : ∀ n u, lk ((k', e) :: rm k (rm k' l)) n = some u → (n = k' ∧ u = e) ∨ (n ≠ k' ∧ n ≠ k ∧ lk l n = some u) := by
    intro n u h
    rw [lk_cons, lk_rm, lk_rm] at h
    by_cases h1 : k' = n
    · subst h1; simp at h; exact .inl ⟨rfl, h.symm⟩
    · by_cases h2 : n = k
      · subst h2; simp [h1] at h
      · rw [if_neg h1, if_neg h2, if_neg (Ne.symm h1)] at h
        exact .inr ⟨Ne.symm h1, h2, h⟩
  refine ⟨hw.os, hw.tape, hw.output, hw.size, hw.keep, fun j u h => ?_, fun j j' u u' g h h' hne hg => ?_, fun j u g h hg => ?_⟩
  · rcases key j u h with ⟨_, rfl⟩ | ⟨_, _, h2⟩
    · exact hw.live k _ he
    · exact hw.live j u h2
  · rcases key j u h with ⟨rfl, rfl⟩ | ⟨a1, a2, h2⟩ <;> rcases key j' u' h' with ⟨rfl, rfl⟩ | ⟨b1, b2, h3⟩
    · exact absurd rfl hne
    · exact hw.apart k j' _ _ g he h3 (Ne.symm b2) hg
    · exact hw.apart j k _ _ g h2 he a2 hg
    · exact hw.apart j j' _ _ g h2 h3 hne hg
  · rcases key j u h with ⟨_, rfl⟩ | ⟨_, _, h2⟩
    · exact hw.own k _ g he hg
    · exact hw.own j u g h2 hg
theorem T.mv {c : Code} {e : Ent} (k k' : Nat) (he : lk l k = some e) (h : T P w0 M N Q c σ ((k', e) :: rm k (rm k' l))) : T P w0 M N Q c σ l := fun a w ha hw => h a w ha (hw.mv k k' he)
theorem X.mv {x : Exit} {e : Ent} (k k' : Nat) (he : lk l k = some e) (h : X w0 M N Q x σ ((k', e) :: rm k (rm k' l))) : X w0 M N Q x σ l := fun a w ha hw => h a w ha (hw.mv k k' he)
end

/-! ### Bits -/
theorem or_nat (a b : Nat) (h : a < 18446744073709551616 ∧ b < 18446744073709551616) : bits .or .u64 (a : Int) (b : Int) = ((a ||| b : Nat) : Int) := u64_or_nat a b h.1 h.2
theorem and1023 (n : Int) : bits .and .i64 n 1023 = n % 1024 := by
  have h127 : (BitVec.ofInt 64 1023).toNat = 2 ^ 10 - 1 := by decide
  have key : (BitVec.ofInt 64 n &&& BitVec.ofInt 64 1023).toNat = (n % ((2 ^ 64 : Nat) : Int)).toNat % 2 ^ 10 := by
    rw [BitVec.toNat_and, BitVec.toNat_ofInt, h127, Nat.and_two_pow_sub_one_eq_mod]
  show IntKind.i64.wrap ((BitVec.ofInt 64 n &&& BitVec.ofInt 64 1023).toNat : Nat) = n % 1024
  rw [key, IntKind.wrap_i64]
  omega
theorem shr_nat (a s : Nat) (h : s ≤ 64) : ((a : Int)).fdiv (2 ^ min ((s : Int)).toNat IntKind.u64.bits) = ((a / 2 ^ s : Nat) : Int) := by
  have e : min ((s : Int)).toNat IntKind.u64.bits = s := by simp [IntKind.bits]; omega
  rw [e, Int.fdiv_eq_ediv_of_nonneg _ (Int.pow_nonneg (by omega))]
  simp
theorem shl_nat (a s : Nat) (h : s ≤ 64 ∧ a * 2 ^ s < 18446744073709551616) : IntKind.u64.wrap ((a : Int) * 2 ^ min ((s : Int)).toNat IntKind.u64.bits) = ((a * 2 ^ s : Nat) : Int) := by
  have e : min ((s : Int)).toNat IntKind.u64.bits = s := by simp [IntKind.bits]; omega
  rw [e, show (a : Int) * 2 ^ s = ((a * 2 ^ s : Nat) : Int) by simp]
  exact wrapu_nat' _ (by omega)
theorem shl_nat' (a s : Nat) (h : s ≤ 64) : IntKind.u64.wrap ((a : Int) * 2 ^ min ((s : Int)).toNat IntKind.u64.bits) = ((a * 2 ^ s % 18446744073709551616 : Nat) : Int) := by
  have e : min ((s : Int)).toNat IntKind.u64.bits = s := by simp [IntKind.bits]; omega
  rw [e, show (a : Int) * 2 ^ s = ((a * 2 ^ s : Nat) : Int) by simp]
  exact wrapu_nat _
theorem pow8 (k : Nat) : 2 ^ (k * 8) = 256 ^ k := by rw [Nat.mul_comm, Nat.pow_mul]

/-! ### Adding and taking away -/
abbrev B64 : Nat := 18446744073709551616
theorem lim0 (x : Nat) : lim x 0 = x % 18446744073709551616 := by unfold lim; omega
theorem add_step (x y i : Nat) (h : i < 4) : (lim x i + lim y i + (x % 18446744073709551616 ^ i + y % 18446744073709551616 ^ i) / 18446744073709551616 ^ i) % 18446744073709551616 = lim (x + y) i ∧
    (lim x i + lim y i + (x % 18446744073709551616 ^ i + y % 18446744073709551616 ^ i) / 18446744073709551616 ^ i) / 18446744073709551616 = (x % 18446744073709551616 ^ (i + 1) + y % 18446744073709551616 ^ (i + 1)) / 18446744073709551616 ^ (i + 1) := by
  unfold lim
  match i, h with
  | 0, _ => omega
  | 1, _ => omega
  | 2, _ => omega
  | 3, _ => omega
theorem add_carry_le (x y i : Nat) : (x % 18446744073709551616 ^ i + y % 18446744073709551616 ^ i) / 18446744073709551616 ^ i ≤ 1 := by
  have hp : 0 < 18446744073709551616 ^ i := Nat.pow_pos (by omega)
  have h1 := Nat.mod_lt x hp
  have h2 := Nat.mod_lt y hp
  have : (x % 18446744073709551616 ^ i + y % 18446744073709551616 ^ i) / 18446744073709551616 ^ i < 2 := (Nat.div_lt_iff_lt_mul hp).2 (by omega)
  omega
/-- What is borrowed for the parts below i. -/
def bor (x y i : Nat) : Nat := if x % 18446744073709551616 ^ i < y % 18446744073709551616 ^ i then 1 else 0
theorem bor_le (x y i : Nat) : bor x y i ≤ 1 := by unfold bor; split <;> omega
theorem bor_zero (x y : Nat) : bor x y 0 = 0 := by unfold bor; simp [Nat.mod_one]
def dif (x y : Nat) : Nat := x + (2 ^ 256 - y % 2 ^ 256)
theorem sub_step (x y i : Nat) (h : i < 4) : (lim x i + 18446744073709551616 - lim y i - bor x y i) % 18446744073709551616 = lim (dif x y) i ∧
    (if lim x i < lim y i + bor x y i then 1 else 0) = bor x y (i + 1) := by
  unfold lim dif bor
  match i, h with
  | 0, _ => constructor; (repeat' split) <;> omega; (repeat' split) <;> omega
  | 1, _ => constructor; (repeat' split) <;> omega; (repeat' split) <;> omega
  | 2, _ => constructor; (repeat' split) <;> omega; (repeat' split) <;> omega
  | 3, _ => constructor; (repeat' split) <;> omega; (repeat' split) <;> omega
theorem bor4 (x y : Nat) : bor x y 4 = if x % 2 ^ 256 < y % 2 ^ 256 then 1 else 0 := rfl

/-! ### Sums -/
def sumN (xs : List Nat) : Nat := (xs.map (· % 2 ^ 256)).sum
theorem sumN_snoc (xs : List Nat) (x : Nat) : sumN (xs ++ [x]) = sumN xs + x % 2 ^ 256 := by simp [sumN]
theorem sumN_take_le (xs : List Nat) (i : Nat) : sumN (xs.take i) ≤ sumN xs := by
  have : sumN xs = sumN (xs.take i) + sumN (xs.drop i) := by
    conv => lhs; rw [← List.take_append_drop i xs]
    simp only [sumN]
    rw [List.map_append, List.sum_append]
  omega
theorem sumN_lt (xs : List Nat) : sumN xs ≤ xs.length * (2 ^ 256 - 1) := by
  induction xs with
  | nil => simp [sumN]
  | cons x xs ih =>
    simp only [sumN, List.map_cons, List.sum_cons, List.length_cons] at ih ⊢
    have := Nat.mod_lt x (show 2 ^ 256 > 0 by decide)
    rw [Nat.add_mul]
    omega
theorem take_succ_getD (xs : List Nat) (i : Nat) (h : i < xs.length) : xs.take (i + 1) = xs.take i ++ [xs.getD i 0] := by
  rw [List.take_succ_eq_append_getElem h]; simp [List.getD, h]
theorem drop_getD (xs : List Nat) (i : Nat) (h : i < xs.length) : xs.drop i = xs.getD i 0 :: xs.drop (i + 1) := by
  rw [List.drop_eq_getElem_cons h]; simp [List.getD, h]

/-! ### Leading zeros -/
theorem bitLen_zero : bitLen 0 = 0 := rfl
theorem bitLen_limb (x i : Nat) (h : i < 4) (hz : ∀ q, i < q → q < 4 → lim x q = 0) (hn : lim x i ≠ 0) : bitLen (x % 2 ^ 256) = 64 * i + bitLen (lim x i) := by
  have e : (x % 2 ^ 256) / 2 ^ (64 * i) = lim x i := by
    unfold lim at hz ⊢
    match i, h with
    | 0, _ => have := hz 1 (by omega) (by omega); have := hz 2 (by omega) (by omega); have := hz 3 (by omega) (by omega); omega
    | 1, _ => have := hz 2 (by omega) (by omega); have := hz 3 (by omega) (by omega); omega
    | 2, _ => have := hz 3 (by omega) (by omega); omega
    | 3, _ => omega
  rw [← e]
  exact bitLen_shift _ _ (by rw [e]; exact hn)
theorem bitLen_none (x : Nat) (hz : ∀ q, q < 4 → lim x q = 0) : bitLen (x % 2 ^ 256) = 0 := by
  have : x % 2 ^ 256 = 0 := by
    have := hz 0 (by omega); have := hz 1 (by omega); have := hz 2 (by omega); have := hz 3 (by omega)
    unfold lim at *; omega
  rw [this]; rfl
theorem bitLen_le64 (x : Nat) (h : x < 18446744073709551616) : bitLen x ≤ 64 := by
  unfold bitLen; split
  · omega
  · rename_i h0; have := (Nat.log2_lt h0).2 (show x < 2 ^ 64 from h); omega
theorem bitLen_le256 (x : Nat) : bitLen (x % 2 ^ 256) ≤ 256 := by
  unfold bitLen; split
  · omega
  · rename_i h0; have := (Nat.log2_lt h0).2 (Nat.mod_lt x (show 2 ^ 256 > 0 by decide)); omega
theorem bitLen_pos (x : Nat) (h : x ≠ 0) : 1 ≤ bitLen x := by unfold bitLen; rw [if_neg h]; omega
theorem digit_mod (x t : Nat) (h : t < 32) : x / 256 ^ t % 256 = (x % 2 ^ 256) / 256 ^ t % 256 := by
  rw [show (2 : Nat) ^ 256 = 256 ^ t * 256 ^ (32 - t) by rw [← Nat.pow_add, show t + (32 - t) = 32 by omega]]
  rw [Nat.mod_mul_right_div_self, show 32 - t = (31 - t) + 1 by omega, Nat.pow_succ', Nat.mod_mul_right_mod]
theorem sizeN_bitLen (x : Nat) : sizeN x = (bitLen (x % 2 ^ 256) + 7) / 8 := by
  have hle := bitLen_le256 x
  obtain ⟨h1, h2⟩ := bitLen_spec (x % 2 ^ 256)
  generalize hb : bitLen (x % 2 ^ 256) = b at *
  refine sizeN_of (by omega) (fun t ht1 ht2 => ?_) (fun hn => ?_)
  · rw [digit_mod x t ht2, Nat.div_eq_of_lt]
    have : 2 ^ b ≤ 256 ^ t := by rw [show 256 ^ t = 2 ^ (8 * t) by rw [Nat.pow_mul]]; exact Nat.pow_le_pow_right (by omega) (by omega)
    omega
  · have hx0 : x % 2 ^ 256 ≠ 0 := fun e => by rw [e, bitLen_zero] at hb; omega
    have h3 := h2 hx0
    have hn' : (b + 7) / 8 - 1 < 32 := by omega
    generalize hk : (b + 7) / 8 - 1 = k at *
    rw [digit_mod x k hn']
    have e1 : 256 ^ k = 2 ^ (8 * k) := by rw [Nat.pow_mul]
    have h4 : 256 ^ k ≤ x % 2 ^ 256 := by
      rw [e1]
      exact Nat.le_trans (Nat.pow_le_pow_right (by omega) (by omega)) h3
    have h5 : x % 2 ^ 256 < 256 ^ k * 256 := by
      have : 2 ^ b ≤ 2 ^ (8 * k + 8) := Nat.pow_le_pow_right (by omega) (by omega)
      rw [Nat.pow_add, ← e1] at this
      omega
    have hp : 0 < 256 ^ k := Nat.pow_pos (by omega)
    have h6 : (x % 2 ^ 256) / 256 ^ k < 256 := (Nat.div_lt_iff_lt_mul hp).2 (by rw [Nat.mul_comm]; exact h5)
    have h7 : 1 ≤ (x % 2 ^ 256) / 256 ^ k := (Nat.le_div_iff_mul_le hp).2 (by omega)
    omega
theorem sizeN_le (x : Nat) : sizeN x ≤ 32 := by rw [sizeN_bitLen]; have := bitLen_le256 x; omega
theorem lim_small (x : Nat) (h : sizeN x ≤ 8) : lim x 0 = x % 2 ^ 256 := by
  rw [sizeN_bitLen] at h
  obtain ⟨h1, _⟩ := bitLen_spec (x % 2 ^ 256)
  have : 2 ^ bitLen (x % 2 ^ 256) ≤ 2 ^ 64 := Nat.pow_le_pow_right (by omega) (by omega)
  rw [lim0]
  omega

/-! ### Words out of bytes, part by part -/
/-- The digits of D from number j on, at their places. -/
def hi (D j : Nat) : Nat := D / 256 ^ j * 256 ^ j
theorem hi_zero (D : Nat) : hi D 0 = D := by simp [hi]
theorem hi_big {D j : Nat} (h : D < 256 ^ j) : hi D j = 0 := by unfold hi; rw [Nat.div_eq_of_lt h, Nat.zero_mul]
theorem hi_step (D k : Nat) : hi D k = hi D (k + 1) + D / 256 ^ k % 256 * 256 ^ k := by
  unfold hi
  have h := Nat.div_add_mod (D / 256 ^ k) 256
  have h2 : D / 256 ^ k / 256 = D / 256 ^ (k + 1) := by rw [Nat.div_div_eq_div_mul, Nat.pow_succ]
  rw [h2] at h
  conv => lhs; rw [← h]
  rw [Nat.add_mul, Nat.pow_succ]
  congr 1
  rw [Nat.mul_comm 256, Nat.mul_assoc, Nat.mul_comm 256 (256 ^ k)]
theorem hi_lim_other (D k q : Nat) (hq : q < 4) (hk : k / 8 ≠ q) : lim (hi D k) q = lim (hi D (k + 1)) q := by
  rw [hi_step]
  unfold lim
  rcases Nat.lt_or_ge (k / 8) q with h | h
  · -- below: the digit is lost in the quotient
    have e : hi D (k + 1) = 256 ^ (k + 1) * (D / 256 ^ (k + 1)) := by unfold hi; rw [Nat.mul_comm]
    have e2 : 18446744073709551616 ^ q = 256 ^ (k + 1) * 256 ^ (8 * q - (k + 1)) := by rw [← pow256, ← Nat.pow_add, show k + 1 + (8 * q - (k + 1)) = 8 * q by omega]
    have hlt : D / 256 ^ k % 256 * 256 ^ k < 256 ^ (k + 1) := by
      rw [Nat.pow_succ, Nat.mul_comm (256 ^ k)]
      exact Nat.mul_lt_mul_of_pos_right (Nat.mod_lt _ (by omega)) (Nat.pow_pos (by omega))
    rw [e, e2, ← Nat.div_div_eq_div_mul, ← Nat.div_div_eq_div_mul, Nat.mul_add_div (Nat.pow_pos (by omega)), Nat.div_eq_of_lt hlt, Nat.add_zero, Nat.mul_div_cancel_left _ (Nat.pow_pos (by omega))]
  · -- above: the digit is a multiple of what is cut
    have e2 : 256 ^ k = 18446744073709551616 ^ q * (18446744073709551616 * 256 ^ (k - 8 * q - 8)) := by
      rw [← Nat.mul_assoc, ← Nat.pow_succ, ← pow256, ← Nat.pow_add, show 8 * (q + 1) + (k - 8 * q - 8) = k by omega]
    have e3 : ∀ c, c * 256 ^ k = 18446744073709551616 ^ q * (18446744073709551616 * (c * 256 ^ (k - 8 * q - 8))) := by
      intro c; rw [e2]; simp only [Nat.mul_assoc, Nat.mul_comm]
    rw [e3, Nat.add_mul_div_left _ _ (Nat.pow_pos (by omega)), Nat.add_mul_mod_self_left]
theorem hi_lim (D k : Nat) : lim (hi D k) (k / 8) = lim (hi D (k + 1)) (k / 8) ||| (D / 256 ^ k % 256 * 2 ^ (k % 8 * 8)) := by
  have hr : k % 8 < 8 := Nat.mod_lt _ (by omega)
  have hk : k = 8 * (k / 8) + k % 8 := by omega
  generalize hq : k / 8 = q at *
  generalize hr' : k % 8 = r at *
  rw [pow8]
  have e1 : hi D (k + 1) / 18446744073709551616 ^ q = D / 256 ^ (k + 1) * 256 ^ (r + 1) := by
    unfold hi
    rw [show 256 ^ (k + 1) = 256 ^ (r + 1) * 18446744073709551616 ^ q by rw [← pow256, ← Nat.pow_add, show r + 1 + 8 * q = k + 1 by omega]]
    rw [← Nat.mul_assoc, Nat.mul_div_cancel _ (Nat.pow_pos (by omega))]
  have e2 : hi D k / 18446744073709551616 ^ q = D / 256 ^ (k + 1) * 256 ^ (r + 1) + D / 256 ^ k % 256 * 256 ^ r := by
    rw [hi_step, show 256 ^ k = 256 ^ r * 18446744073709551616 ^ q by rw [← pow256, ← Nat.pow_add, show r + 8 * q = k by omega], ← Nat.mul_assoc, Nat.add_mul_div_right _ _ (Nat.pow_pos (by omega)), e1]
  unfold lim
  rw [e1, e2]
  have hc : D / 256 ^ k % 256 * 256 ^ r < 256 ^ (r + 1) := by
    rw [Nat.pow_succ, Nat.mul_comm (256 ^ r)]
    exact Nat.mul_lt_mul_of_pos_right (Nat.mod_lt _ (by omega)) (Nat.pow_pos (by omega))
  generalize D / 256 ^ (k + 1) = A at *
  generalize D / 256 ^ k % 256 * 256 ^ r = C at *
  have e3 : A * 256 ^ (r + 1) % 18446744073709551616 = A % 256 ^ (7 - r) * 256 ^ (r + 1) := by
    rw [show (18446744073709551616 : Nat) = 256 ^ (7 - r) * 256 ^ (r + 1) by rw [← Nat.pow_add, show 7 - r + (r + 1) = 8 by omega]]
    exact Nat.mul_mod_mul_right _ _ _
  have e4 : (A * 256 ^ (r + 1) + C) % 18446744073709551616 = A % 256 ^ (7 - r) * 256 ^ (r + 1) + C := by
    have h1 : A * 256 ^ (r + 1) + C = (A % 256 ^ (7 - r) * 256 ^ (r + 1) + C) + 18446744073709551616 * (A / 256 ^ (7 - r)) := by
      have h2 := Nat.div_add_mod A (256 ^ (7 - r))
      conv => lhs; rw [← h2]
      rw [show (18446744073709551616 : Nat) = 256 ^ (7 - r) * 256 ^ (r + 1) by rw [← Nat.pow_add, show 7 - r + (r + 1) = 8 by omega]]
      rw [Nat.add_mul, Nat.mul_assoc (256 ^ (7 - r)), Nat.mul_comm (A / 256 ^ (7 - r)), ← Nat.mul_assoc]
      omega
    rw [h1, Nat.add_mul_mod_self_left]
    apply Nat.mod_eq_of_lt
    have h3 : A % 256 ^ (7 - r) + 1 ≤ 256 ^ (7 - r) := Nat.mod_lt _ (Nat.pow_pos (by omega))
    have h4 : (A % 256 ^ (7 - r) + 1) * 256 ^ (r + 1) ≤ 256 ^ (7 - r) * 256 ^ (r + 1) := Nat.mul_le_mul_right _ h3
    rw [← Nat.pow_add, show 7 - r + (r + 1) = 8 by omega, Nat.add_mul] at h4
    omega
  rw [e3, e4]
  rw [nat_join (8 * (r + 1))]
  · rw [Nat.pow_mul]; exact Nat.mul_mod_left _ _
  · rw [Nat.pow_mul]; exact hc

/-! ### Bytes of a word, the highest first -/
def bytesN (x : Nat) : List Nat := (dgs x 32).reverse
theorem bytesN_length (x : Nat) : (bytesN x).length = 32 := by unfold bytesN; rw [List.length_reverse, dgs_length]
theorem bytesN_dg (x : Nat) : Dg (bytesN x) := fun y hy => dgs_dg x 32 y (List.mem_reverse.1 hy)
theorem bytesN_get (x i : Nat) (h : i < 32) : (bytesN x).getD i 0 = x / 256 ^ (31 - i) % 256 := by
  have hl := dgs_length x 32
  have := dgs_get x 32 (31 - i) (by omega)
  rw [List.getD_eq_getElem?_getD] at this
  unfold bytesN
  rw [List.getD_eq_getElem?_getD, List.getElem?_reverse (by omega), hl, show 32 - 1 - i = 31 - i by omega]
  exact this
theorem bytesN_of {x : Nat} {ys : List Nat} (hl : ys.length = 32) (h : ∀ q, q < 32 → ys.getD q 0 = x / 256 ^ (31 - q) % 256) : ys = bytesN x := by
  apply List.ext_getElem (by rw [bytesN_length, hl])
  intro i h1 h2
  have a := h i (by omega)
  have b := bytesN_get x i (by omega)
  rw [← b] at a
  simpa [List.getD, h1, h2] using a
theorem bytesN_vl (x : Nat) : vl (bytesN x).reverse = x % 2 ^ 256 := by unfold bytesN; rw [List.reverse_reverse, dgs_vl32]
theorem Dg.reverse {xs : List Nat} (h : Dg xs) : Dg xs.reverse := fun y hy => h y (List.mem_reverse.1 hy)
theorem Dg.drop {xs : List Nat} (h : Dg xs) (i : Nat) : Dg (xs.drop i) := fun x hx => h x (List.mem_of_mem_drop hx)
end Go.Fw
set_option linter.unusedVariables false
namespace Go.Fw
open Go
section
variable {P : Program} {ops : Array Oper} {F : Act → World → Prop} {w0 w w' : World} {M : List Nat} {N : Nf} {L : List (Oper × K)} {σ : List (Nat × Value)} {l lS : List (Nat × Ent)} {d : Option Tmp} {ty : TypeId} {p : String} {af : Array Edge} {x : Operand} {v z : Value} {t : TypeId} {kd : IntKind}

/-- What a contract says of a fresh row of numbers and a code, handed back. -/
def RowEPost (w : World) (t : TypeId) (kd : IntKind) (φ : List Nat → Nat → Prop) (e : Ending) (w' : World) : Prop :=
  ∃ (zs : List Nat) (n : Nat), φ zs n ∧ ∃ r : RowIx, r.Ok 1 zs.length ∧ e = .returned (.tuple #[r.val zs.length, .int .i64 (n : Int)]) ∧ WS w [] [(0, r.ent t (rowN kd zs))] w'
theorem RowEPost.mk' {φ : List Nat → Nat → Prop} {e : Ending} (zs : List Nat) (n : Nat) (hz : φ zs n) (r : RowIx) (hr : r.Ok 1 zs.length) (he : e = .returned (.tuple #[r.val zs.length, .int .i64 (n : Int)])) (hw : WS w [] l w') (k : Nat) (hk : lk l k = some (r.ent t (rowN kd zs))) :
    RowEPost w t kd φ e w' := ⟨zs, n, hz, r, hr, he, hw.only k 0 hk⟩
theorem RowEPost.nil {φ : List Nat → Nat → Prop} {e : Ending} (n : Nat) (hz : φ [] n) (he : e = .returned (.tuple #[.slice none 0 0, .int .i64 (n : Int)])) (hw : WS w [] l w') : RowEPost w t kd φ e w' :=
  ⟨[], n, hz, RowIx.nil, RowIx.nil_ok 1, he, ((hw.sub (Sub.nil _)).addNil 0 t)⟩
theorem J.callRowE (h : Nat) (hh : lk lS h = none) {f : FuncId} (hf : FnOk P f) {xs : Array Operand} {tys : Array TypeId} {args : List Value} (hx : evs σ xs.toList = some args) (hd : okd N d) {φ : List Nat → Nat → Prop}
    (spec : ∀ w, WS w0 M l w → Calls P f args.toArray w (RowEPost w t kd φ))
    (hJ : ∀ (zs : List Nat) (n : Nat) (r : RowIx), φ zs n → r.Ok 1 zs.length → J P ops F w0 M N lS L (putd d (.tuple [r.val zs.length, .int .i64 (n : Int)].toArray) σ) ((h, r.ent t (rowN kd zs)) :: l)) :
    J P ops F w0 M N lS ((⟨d, .call ⟨.value (.func f), xs, tys⟩, ty, p, af, none⟩, .l) :: L) σ l :=
  J.call hf hx hd (ι := (List Nat × Nat) × RowIx) (fun i => φ i.1.1 i.1.2 ∧ i.2.Ok 1 i.1.1.length) (fun i => .tuple [i.2.val i.1.1.length, .int .i64 (i.1.2 : Int)].toArray) [] (fun i => [(h, i.2.ent t (rowN kd i.1.1))])
    (fun w hw => (spec w hw).mono fun e w' ⟨zs, n, hz, r, hr, he, h2⟩ => ⟨((zs, n), r), ⟨hz, hr⟩, he, h2.rename h⟩) (fun _ _ g hg => by simp at hg) (fun i k e he => by
      rw [lk_cons] at he
      split at he
      · rename_i hk; subst hk; exact hh
      · simp [lk] at he) (fun i hi => hJ i.1.1 i.1.2 i.2 hi.1 hi.2)

/-! ### Pieces -/
theorem Cs.take {A : Option Addr} {cs : List Value} (h : Cs w A cs) (n : Nat) : Cs w A (cs.take n) := fun i x hx => h i x (by
  rcases Nat.lt_or_ge i n with h1 | h1
  · rwa [List.getElem?_take_of_lt h1] at hx
  · rw [List.getElem?_eq_none (by simp; omega)] at hx; cases hx)
theorem Cs.drop {A : Option Addr} {cs : List Value} (h : Cs w A cs) (n : Nat) : Cs w (A.map (·.add n)) (cs.drop n) := fun i x hx => by
  rw [List.getElem?_drop] at hx
  obtain ⟨ad, ha, hc⟩ := h (n + i) x hx
  subst ha
  exact ⟨_, rfl, by rw [Addr.add_add]; exact hc⟩
/-- What 's[lo:]' is. -/
theorem Cs.cut {A : Option Addr} {cs : List Value} (h : Cs w A cs) (lo s mx : Nat) (hm : mx = lo → cs.length ≤ lo * s) : Cs w (if mx = lo then A else A.map (·.add (lo * s))) (cs.drop (lo * s)) := by
  split
  · rename_i e
    rw [List.drop_eq_nil_of_le (hm e)]
    exact Cs.nil _ _
  · exact h.drop _
theorem Cs.left {A : Option Addr} {cs ds : List Value} (h : Cs w A (cs ++ ds)) : Cs w A cs := fun i x hx => h i x (by rw [List.getElem?_append_left (List.getElem?_eq_some_iff.1 hx).1]; exact hx)
theorem hdOf_add0 (id : Option Nat) : (hdOf id).map (·.add 0) = hdOf id := by cases id <;> simp [hdOf, Addr.add]
theorem add0 (A : Option Addr) : A.map (·.add 0) = A := by cases A <;> simp [Addr.add]
/-- The first cells of an entry. -/
theorem WS.entCs (hw : WS w0 M l w) {k : Nat} {id : Option Nat} {cs ds : List Value} (hl : lk l k = some ⟨id, t, cs ++ ds⟩) : Cs w (hdOf id) cs := by
  have : Cs w (hdOf id) (cs ++ ds) := fun i x hx => by
    cases id with
    | none =>
      have := hw.live k _ hl
      simp only [Ent.At] at this
      rw [this.1] at hx
      simp at hx
    | some g =>
      refine ⟨⟨g, 0, none⟩, rfl, ?_⟩
      rw [add_lit', Nat.zero_add]
      exact hw.cell hl (o := i) hx
  exact this.left
theorem put_zero (kd : IntKind) (n : Nat) (ys : List Nat) (h : ys.length ≤ n) : put (rowN kd (List.replicate n 0)) 0 (rowN kd ys) = rowN kd (ys ++ List.replicate (n - ys.length) 0) := by
  unfold put
  rw [List.take_zero, List.nil_append, rowN_length, Nat.zero_add, rowN_append]
  congr 1
  simp [rowN]
theorem RowIx.blk_ok (g n : Nat) (h : n ≤ maxLen) : RowIx.Ok ⟨some g, n, []⟩ 1 n := ⟨Nat.le_refl _, h, by simp, fun e => by simp at e, fun u hu => by simp at hu⟩
theorem RowIx.blk_ok' (g n s : Nat) (h : n ≤ maxLen) : RowIx.Ok ⟨some g, n, []⟩ s n := ⟨Nat.le_refl _, h, by simp, fun e => by simp at e, fun u hu => by simp at hu⟩
end

/-! ### Row -/
def rowB (xs : List Nat) (x n : Nat) : List Nat := (List.range n).map fun i => xs.getD (x % 2 ^ 256 + i) 0
theorem rowB_length (xs : List Nat) (x n : Nat) : (rowB xs x n).length = n := by simp [rowB]
theorem rowB_get (xs : List Nat) (x n i : Nat) (h : i < n) : (rowB xs x n).getD i 0 = xs.getD (x % 2 ^ 256 + i) 0 := by simp [rowB, List.getD, h]
theorem rowB_dg {xs : List Nat} (h : Dg xs) (x n : Nat) : Dg (rowB xs x n) := fun y hy => by
  simp only [rowB, List.mem_map] at hy
  obtain ⟨i, _, rfl⟩ := hy
  exact h.getD _
theorem getD_far (xs : List Nat) (i : Nat) (h : xs.length ≤ i) : xs.getD i 0 = 0 := by rw [List.getD_eq_getElem?_getD, List.getElem?_eq_none h]; rfl
theorem rowB_far (xs : List Nat) (x n : Nat) (h : xs.length ≤ x % 2 ^ 256) : rowB xs x n = List.replicate n 0 := by
  apply List.ext_getElem (by simp [rowB_length])
  intro i h1 h2
  have hin : i < n := by rw [rowB_length] at h1; exact h1
  have a := rowB_get xs x n i hin
  have e : (rowB xs x n).getD i 0 = (rowB xs x n)[i] := by simp [List.getD, h1]
  rw [← e, a, getD_far xs (x % 2 ^ 256 + i) (Nat.le_trans h (Nat.le_add_right _ _))]
  simp
theorem rowB_near (xs : List Nat) (x n : Nat) : (xs.drop (x % 2 ^ 256)).take n ++ List.replicate (n - ((xs.drop (x % 2 ^ 256)).take n).length) 0 = rowB xs x n := by
  generalize hk : x % 2 ^ 256 = k
  apply List.ext_getElem?
  intro i
  have hl : ((xs.drop k).take n).length = min n (xs.length - k) := by rw [List.length_take, List.length_drop]
  by_cases hi : i < n
  · have a := rowB_get xs x n i hi
    rw [hk] at a
    have hr : (rowB xs x n)[i]? = some (xs.getD (k + i) 0) := by
      have h3 : i < (rowB xs x n).length := by rw [rowB_length]; exact hi
      rw [← a]
      simp [List.getD, h3]
    rw [hr]
    by_cases h4 : k + i < xs.length
    · rw [List.getElem?_append_left (by rw [hl]; omega), List.getElem?_take_of_lt hi, List.getElem?_drop]
      simp [List.getD, h4]
    · rw [List.getElem?_append_right (by rw [hl]; omega), getD_far _ _ (by omega)]
      rw [List.getElem?_replicate, if_pos (by omega)]
  · rw [List.getElem?_eq_none (by rw [List.length_append, List.length_replicate, hl]; omega), List.getElem?_eq_none (by rw [rowB_length]; omega)]
theorem rowB_of {xs ys : List Nat} {x n : Nat} (hl : ys.length = n) (h : ∀ q, q < n → ys.getD q 0 = xs.getD (x % 2 ^ 256 + q) 0) : ys = rowB xs x n := by
  apply List.ext_getElem (by rw [rowB_length, hl])
  intro i h1 h2
  have e1 : ys.getD i 0 = ys[i] := by simp [List.getD, h1]
  have e2 : (rowB xs x n).getD i 0 = (rowB xs x n)[i] := by simp [List.getD, h2]
  rw [← e1, ← e2, h i (by omega), rowB_get _ _ _ _ (by omega)]
theorem sizeN_big (x : Nat) (h : sizeN x > 8) : 18446744073709551616 ≤ x % 2 ^ 256 := by
  rcases Nat.lt_or_ge (x % 2 ^ 256) 18446744073709551616 with h1 | h1
  · rw [sizeN_bitLen] at h
    have := bitLen_le64 _ h1
    omega
  · exact h1
/-- What Row answers. -/
def rowR (xs : List Nat) (x : Nat) (n : Int) : List Nat := if n < 0 ∨ n > 4194304 then [] else rowB xs x n.toNat
def rowRe (n : Int) : Nat := if n < 0 ∨ n > 4194304 then 1 else 0
theorem rowR_dg {xs : List Nat} (h : Dg xs) (x : Nat) (n : Int) : Dg (rowR xs x n) := by
  unfold rowR; split
  · exact Dg.nil
  · exact rowB_dg h _ _

/-! ### Marks -/
def marks (q : Nat) : List Nat := (List.range q).map fun i => 201 + i % 5
theorem marks_length (q : Nat) : (marks q).length = q := by simp [marks]
theorem marks_succ (q : Nat) : marks (q + 1) = marks q ++ [201 + q % 5] := by simp [marks, List.range_succ]
theorem marks_get (q i : Nat) (h : i < q) : (marks q).getD i 0 = 201 + i % 5 := by simp [marks, List.getD, h]
theorem marks_dg (q : Nat) : Dg (marks q) := fun y hy => by
  simp only [marks, List.mem_map] at hy
  obtain ⟨i, _, rfl⟩ := hy
  omega
theorem Dg.append {xs ys : List Nat} (h : Dg xs) (h2 : Dg ys) : Dg (xs ++ ys) := fun y hy => (List.mem_append.1 hy).elim (h y) (h2 y)
theorem getD_append_left (xs ys : List Nat) (i : Nat) (h : i < xs.length) : (xs ++ ys).getD i 0 = xs.getD i 0 := by simp [List.getD, List.getElem?_append_left h]
theorem getD_append_right (xs ys : List Nat) (i : Nat) : (xs ++ ys).getD (xs.length + i) 0 = ys.getD i 0 := by
  rw [List.getD_eq_getElem?_getD, List.getElem?_append_right (Nat.le_add_right _ _), Nat.add_sub_cancel_left, List.getD_eq_getElem?_getD]
theorem getD_take (xs : List Nat) (n i : Nat) (h : i < n) : (xs.take n).getD i 0 = xs.getD i 0 := by simp [List.getD, List.getElem?_take_of_lt h]
/-- What 'laid' hands back: the row, its marks behind it. -/
def LaidPost (w : World) (t : TypeId) (ys : List Nat) (e : Ending) (w' : World) : Prop :=
  ∃ r : RowIx, r.Ok 1 (ys.length + 75) ∧ e = .returned (.slice (hdOf r.id) ys.length r.cap) ∧ WS w [] [(0, r.ent t (rowN .u8 (ys ++ marks 75)))] w'
section
variable {P : Program} {ops : Array Oper} {F : Act → World → Prop} {w0 w w' : World} {M : List Nat} {N : Nf} {L : List (Oper × K)} {σ : List (Nat × Value)} {l lS : List (Nat × Ent)} {d : Option Tmp} {ty : TypeId} {p : String} {af : Array Edge} {x : Operand} {v z : Value} {t : TypeId} {kd : IntKind}
theorem J.callLaid (h : Nat) (hh : lk lS h = none) {f : FuncId} (hf : FnOk P f) {xs : Array Operand} {tys : Array TypeId} {args : List Value} (hx : evs σ xs.toList = some args) (hd : okd N d) {ys : List Nat}
    (spec : ∀ w, WS w0 M l w → Calls P f args.toArray w (LaidPost w t ys))
    (hJ : ∀ (r : RowIx), r.Ok 1 (ys.length + 75) → J P ops F w0 M N lS L (putd d (.slice (hdOf r.id) ys.length r.cap) σ) ((h, r.ent t (rowN .u8 (ys ++ marks 75))) :: l)) :
    J P ops F w0 M N lS ((⟨d, .call ⟨.value (.func f), xs, tys⟩, ty, p, af, none⟩, .l) :: L) σ l :=
  J.call hf hx hd (ι := RowIx) (fun i => i.Ok 1 (ys.length + 75)) (fun i => .slice (hdOf i.id) ys.length i.cap) [] (fun i => [(h, i.ent t (rowN .u8 (ys ++ marks 75)))])
    (fun w hw => (spec w hw).mono fun e w' ⟨r, hr, he, h2⟩ => ⟨r, hr, he, h2.rename h⟩) (fun _ _ g hg => by simp at hg) (fun i k e he => by
      rw [lk_cons] at he
      split at he
      · rename_i hk; subst hk; exact hh
      · simp [lk] at he) (fun i hi => hJ i hi)
theorem WS.laidCs (hw : WS w0 M l w) {k : Nat} {r : RowIx} {ys zs : List Nat} (hl : lk l k = some (r.ent t (rowN .u8 (ys ++ zs)))) : Cs w (hdOf r.id) (rowN .u8 ys) := by
  have := hw.rowCs hl
  rw [rowN_append] at this
  exact this.left
end
theorem xor_nat8 (a b : Nat) (h : a < 256 ∧ b < 256) : bits .xor .u8 (a : Int) (b : Int) = ((a ^^^ b : Nat) : Int) := u8_xor_nat a b h.1 h.2
theorem xor_lt8 (a b : Nat) (h : a < 256 ∧ b < 256) : a ^^^ b < 256 := Nat.xor_lt_two_pow (n := 8) h.1 h.2
end Go.Fw
set_option linter.unusedVariables false
namespace Go.Fw
open Go
section
variable {P : Program} {ops : Array Oper} {F : Act → World → Prop} {w0 w w' : World} {M : List Nat} {N : Nf} {L : List (Oper × K)} {σ : List (Nat × Value)} {l lS : List (Nat × Ent)} {d : Option Tmp} {ty : TypeId} {p : String} {af : Array Edge} {x y : Operand} {v z : Value} {t : TypeId} {kd : IntKind} {k : K}

theorem WS.one {g : Nat} {cs : List Value} (h : Ent.At w ⟨some g, t, cs⟩) : WS w [g] [(0, ⟨some g, t, cs⟩)] w := by
  refine ⟨rfl, rfl, rfl, Nat.le_refl _, fun _ _ _ => rfl, fun j e he => ?_, fun j j' e e' g' h1 h2 hne => ?_, fun j e g' he hg => ?_⟩
  · rw [lk_cons] at he
    split at he
    · simp at he; subst he; exact h
    · simp [lk] at he
  · rw [lk_cons] at h1 h2
    split at h1 <;> split at h2
    · omega
    · simp [lk] at h2
    · simp [lk] at h1
    · simp [lk] at h1
  · rw [lk_cons] at he
    split at he
    · simp at he; subst he; simp at hg; subst hg; exact .inr (by simp)
    · simp [lk] at he
/-- A call that turns one object. -/
theorem J.callMut (h : Nat) {g : Nat} {cs cs' : List Value} {f : FuncId} {xs : Array Operand} {tys : Array TypeId} {args : List Value} (hl : lk l h = some ⟨some g, t, cs⟩) (hh : lk lS h = none) (hf : FnOk P f) (hx : evs σ xs.toList = some args) (hd : okd N d)
    (spec : ∀ w, WS w0 M l w → Calls P f args.toArray w fun e w' => e = .returned v ∧ WS w [g] [(0, ⟨some g, t, cs'⟩)] w')
    (hJ : J P ops F w0 M N lS L (putd d v σ) ((h, ⟨some g, t, cs'⟩) :: l)) :
    J P ops F w0 M N lS ((⟨d, .call ⟨.value (.func f), xs, tys⟩, ty, p, af, none⟩, .l) :: L) σ l :=
  J.call hf hx hd (ι := Unit) (fun _ => True) (fun _ => v) [g] (fun _ => [(h, ⟨some g, t, cs'⟩)]) (fun w hw => (spec w hw).mono fun e w' ⟨he, h2⟩ => ⟨(), trivial, he, h2.only 0 h rfl⟩)
    (fun _ _ q hq => by
      simp at hq; subst hq
      exact ⟨h, _, ⟨some q, t, cs'⟩, hl, rfl, by simp [lk]⟩)
    (fun i j e he => by
      rw [lk_cons] at he
      split at he
      · rename_i hk; subst hk; exact hh
      · simp [lk] at he) (fun _ _ => hJ)

/-! ### Rows of words handed back -/
def RowsWPost (w : World) (t : TypeId) (φ : List Nat → Prop) (e : Ending) (w' : World) : Prop :=
  ∃ zs : List Nat, φ zs ∧ ∃ r : RowIx, r.Ok 4 zs.length ∧ e = .returned (r.val zs.length) ∧ WS w [] [(0, r.ent t (rowW zs))] w'
theorem RowsWPost.mk' {φ : List Nat → Prop} {e : Ending} (zs : List Nat) (hz : φ zs) (r : RowIx) (hr : r.Ok 4 zs.length) (he : e = .returned (r.val zs.length)) (hw : WS w [] l w') (k : Nat) (hk : lk l k = some (r.ent t (rowW zs))) :
    RowsWPost w t φ e w' := ⟨zs, hz, r, hr, he, hw.only k 0 hk⟩
theorem J.callRowW (h : Nat) (hh : lk lS h = none) {f : FuncId} (hf : FnOk P f) {xs : Array Operand} {tys : Array TypeId} {args : List Value} (hx : evs σ xs.toList = some args) (hd : okd N d) {φ : List Nat → Prop}
    (spec : ∀ w, WS w0 M l w → Calls P f args.toArray w (RowsWPost w t φ))
    (hJ : ∀ (zs : List Nat) (r : RowIx), φ zs → r.Ok 4 zs.length → J P ops F w0 M N lS L (putd d (r.val zs.length) σ) ((h, r.ent t (rowW zs)) :: l)) :
    J P ops F w0 M N lS ((⟨d, .call ⟨.value (.func f), xs, tys⟩, ty, p, af, none⟩, .l) :: L) σ l :=
  J.call hf hx hd (ι := List Nat × RowIx) (fun i => φ i.1 ∧ i.2.Ok 4 i.1.length) (fun i => i.2.val i.1.length) [] (fun i => [(h, i.2.ent t (rowW i.1))])
    (fun w hw => (spec w hw).mono fun e w' ⟨zs, hz, r, hr, he, h2⟩ => ⟨(zs, r), ⟨hz, hr⟩, he, h2.rename h⟩) (fun _ _ g hg => by simp at hg) (fun i k e he => by
      rw [lk_cons] at he
      split at he
      · rename_i hk; subst hk; exact hh
      · simp [lk] at he) (fun i hi => hJ i.1 i.2 hi.1 hi.2)

/-- A fresh object handed back. -/
def NewPost (w : World) (t : TypeId) (cs : List Value) (e : Ending) (w' : World) : Prop := ∃ g, w.heap.size ≤ g ∧ e = .returned (.pointer (some ⟨g, 0, none⟩)) ∧ WS w [] [(0, ⟨some g, t, cs⟩)] w'
theorem J.callNew (h : Nat) (hh : lk lS h = none) {cs : List Value} {f : FuncId} (hf : FnOk P f) {xs : Array Operand} {tys : Array TypeId} {args : List Value} (hx : evs σ xs.toList = some args) (hd : okd N d)
    (spec : ∀ w, WS w0 M l w → Calls P f args.toArray w (NewPost w t cs))
    (hJ : ∀ g, w0.heap.size ≤ g → J P ops F w0 M N lS L (putd d (.pointer (some ⟨g, 0, none⟩)) σ) ((h, ⟨some g, t, cs⟩) :: l)) :
    J P ops F w0 M N lS ((⟨d, .call ⟨.value (.func f), xs, tys⟩, ty, p, af, none⟩, .l) :: L) σ l :=
  J.call hf hx hd (ι := Nat) (fun g => w0.heap.size ≤ g) (fun g => .pointer (some ⟨g, 0, none⟩)) [] (fun g => [(h, ⟨some g, t, cs⟩)])
    (fun w hw => (spec w hw).mono fun e w' ⟨g, hg, he, h2⟩ => ⟨g, Nat.le_trans hw.size hg, he, h2.rename h⟩) (fun _ _ g hg => by simp at hg) (fun i k e he => by
      rw [lk_cons] at he
      split at he
      · rename_i hk; subst hk; exact hh
      · simp [lk] at he) (fun i hi => hJ i hi)

/-! ### Reading a block that lay there -/
theorem J.loadB1 (hk : nog k) {g o : Nat} {cs : List Value} (hc : Cs w0 (some ⟨g, 0, none⟩) cs) (ho : Off M (some ⟨g, 0, none⟩)) (hx : ev σ x = some (.pointer (some ⟨g, o, none⟩))) (ht : OneT P t) (hv : cs[o]? = some v) (hd : okd N d)
    (hJ : J P ops F w0 M N lS L (putd d v σ) l) : J P ops F w0 M N lS ((⟨d, .load t x, ty, p, af, none⟩, k) :: L) σ l :=
  J.loadI1 hk hc ho (i := o) (by rw [hx]; simp [add_lit']) ht hv hd hJ
theorem J.loadBW (hk : nog k) {g o : Nat} {cs : List Value} (hc : Cs w0 (some ⟨g, 0, none⟩) cs) (ho : Off M (some ⟨g, 0, none⟩)) (hx : ev σ x = some (.pointer (some ⟨g, o, none⟩))) (ht : AggT P t 4) {u : Nat} (hv : (cs.drop o).take 4 = wc u) (hd : okd N d)
    (hJ : J P ops F w0 M N lS L (putd d (W u) σ) l) : J P ops F w0 M N lS ((⟨d, .load t x, ty, p, af, none⟩, k) :: L) σ l :=
  J.loadIW hk hc ho (i := o) (by rw [hx]; simp [add_lit']) ht hv hd hJ
end

/-! ### Stacks -/
abbrev w64 (n : Int) : Int := IntKind.i64.wrap n
def ix (n : Int) : Nat := (n % 1024).toNat
theorem ix_lt (n : Int) : ix n < 1024 := by unfold ix; omega
theorem ix_cast (n : Int) : ((ix n : Nat) : Int) = n % 1024 := by unfold ix; omega
theorem w64_mod (n : Int) : w64 n % 1024 = n % 1024 := by unfold w64; rw [IntKind.wrap_i64]; omega
theorem ix_w64 (n : Int) : ix (w64 n) = ix n := by unfold ix; rw [w64_mod]
theorem w64_range (n : Int) : -9223372036854775808 ≤ w64 n ∧ w64 n ≤ 9223372036854775807 := by unfold w64; rw [IntKind.wrap_i64]; omega
theorem w64_id {n : Int} (h : -9223372036854775808 ≤ n ∧ n ≤ 9223372036854775807) : w64 n = n := i64_ok n h
theorem ix_eq {a b : Int} (h : a % 1024 = b % 1024) : ix a = ix b := by unfold ix; rw [h]
/-- The cells of a stack: its words, its number. -/
abbrev stkM (S : List Nat) (n : Int) : List Value := rowW S ++ [.int .i64 n]
abbrev stkR (S : List Nat) (n : Int) : List Value := [.int .i64 n] ++ rowW S
theorem stkM_n {S : List Nat} {n : Int} (h : S.length = 1024) : (stkM S n)[0 + 4096]? = some (.int .i64 n) := by
  have hl := rowW_length S
  rw [List.getElem?_append_right (by omega)]
  simp [hl, h]
theorem stkM_w {S : List Nat} {n : Int} (h : S.length = 1024) (i : Int) : ((stkM S n).drop (0 + 0 + (i % 1024).toNat * 4)).take 4 = wc (S.getD (ix i) 0) := by
  rw [Nat.add_zero, Nat.zero_add]
  exact rowW_segs S _ _ (by rw [h]; exact ix_lt i)
theorem stkM_put {S : List Nat} {n : Int} (h : S.length = 1024) (i : Int) (x : Nat) : put (stkM S n) (0 + 0 + (i % 1024).toNat * 4) (wc x) = stkM (S.set (ix i) x) n := by
  rw [Nat.add_zero, Nat.zero_add]
  exact putW S _ _ x (by rw [h]; exact ix_lt i)
theorem stkM_len {S : List Nat} {n : Int} (h : S.length = 1024) : (stkM S n).length = 4097 := by
  rw [List.length_append, rowW_length, h]; rfl
theorem stkM_putn {S : List Nat} {n m : Int} (h : S.length = 1024) : put (stkM S n) (0 + 4096) [.int .i64 m] = stkM S m := by
  have hl := rowW_length S
  rw [put_one _ _ _ (by rw [stkM_len h]; omega), List.set_append_right _ _ (by omega), hl, h]
  rfl
theorem stkR_w {S : List Nat} {n : Int} (h : S.length = 1024) (i : Int) : ((stkR S n).drop (0 + 1 + (i % 1024).toNat * 4)).take 4 = wc (S.getD (ix i) 0) := by
  rw [Nat.zero_add]
  exact rowW_segb [.int .i64 n] S _ (by rw [h]; exact ix_lt i)
theorem stkR_put {S : List Nat} {n : Int} (h : S.length = 1024) (i : Int) (x : Nat) : put (stkR S n) (0 + 1 + (i % 1024).toNat * 4) (wc x) = stkR (S.set (ix i) x) n := by
  rw [Nat.zero_add]
  exact putWb [.int .i64 n] S _ x (by rw [h]; exact ix_lt i)
theorem stkR_len {S : List Nat} {n : Int} (h : S.length = 1024) : (stkR S n).length = 4097 := by
  rw [List.length_append, rowW_length, h]; rfl
theorem stkR_putn {S : List Nat} {n m : Int} (h : S.length = 1024) : put (stkR S n) (0 + 0) [.int .i64 m] = stkR S m := by
  rw [put_one _ _ _ (by rw [stkR_len h]; omega)]; rfl
/-- The n-th and the m-th change places. -/
def swp (S : List Nat) (i j : Nat) : List Nat := (S.set i (S.getD j 0)).set j (S.getD i 0)
theorem swp_length (S : List Nat) (i j : Nat) : (swp S i j).length = S.length := by simp [swp]
theorem and1023' (n : Int) : bits .and .i64 (w64 n) 1023 = n % 1024 := by rw [and1023, w64_mod]
/-- What Words tells. -/
def wordsS (S : List Nat) (n : Int) : List Nat := (List.range (min (max n 0) 1024).toNat).map fun k => S.getD (ix ((if n > 1024 then n - 1024 else 0) + (k : Nat))) 0
theorem wordsS_length (S : List Nat) (n : Int) : (wordsS S n).length = (min (max n 0) 1024).toNat := by simp [wordsS]
theorem wordsS_get (S : List Nat) (n : Int) (k : Nat) (h : k < (min (max n 0) 1024).toNat) : (wordsS S n).getD k 0 = S.getD (ix ((if n > 1024 then n - 1024 else 0) + (k : Nat))) 0 := by simp [wordsS, List.getD, h]
theorem wordsS_of {S ys : List Nat} {n : Int} (hl : ys.length = (min (max n 0) 1024).toNat) (h : ∀ k, k < ys.length → ys.getD k 0 = S.getD (ix ((if n > 1024 then n - 1024 else 0) + (k : Nat))) 0) : ys = wordsS S n := by
  apply List.ext_getElem (by rw [wordsS_length, hl])
  intro i h1 h2
  have e1 : ys.getD i 0 = ys[i] := by simp [List.getD, h1]
  have e2 : (wordsS S n).getD i 0 = (wordsS S n)[i] := by simp [List.getD, h2]
  rw [← e1, ← e2, h i h1, wordsS_get _ _ _ (by omega)]
def pushS (S : List Nat) (n : Int) (x : Nat) : List Nat := if 1024 ≤ n then S else S.set (ix n) x
def pushN (n : Int) : Int := if 1024 ≤ n then n else n + 1
def pushE (n : Int) : Nat := if 1024 ≤ n then 91 else 0
theorem pushS_length {S : List Nat} (h : S.length = 1024) (n : Int) (x : Nat) : (pushS S n x).length = 1024 := by unfold pushS; split <;> simp [h]
def popN (n : Int) : Int := if n < 1 then n else n - 1
def popX (S : List Nat) (n : Int) : Nat := if n < 1 then 0 else S.getD (ix (n - 1)) 0
def popE (n : Int) : Nat := if n < 1 then 90 else 0
def atE (n m : Int) : Nat := if m < 1 then 1 else if m > n then 90 else 0
def atX (S : List Nat) (n m : Int) : Nat := if atE n m = 0 then S.getD (ix (n - m)) 0 else 0
def dupE (n m : Int) : Nat := if atE n m = 0 then pushE n else atE n m
def dupS (S : List Nat) (n m : Int) : List Nat := if atE n m = 0 then pushS S n (atX S n m) else S
def dupN (n m : Int) : Int := if atE n m = 0 then pushN n else n
def swapE (n m : Int) : Nat := if m < 1 then 1 else if m ≥ n then 90 else 0
def swapS (S : List Nat) (n m : Int) : List Nat := if swapE n m = 0 then swp S (ix (n - 1)) (ix (n - (m + 1))) else S
def exE (n m q : Int) : Nat := if m < 1 ∨ q < 1 then 1 else if m ≥ n ∨ q ≥ n - m then 90 else 0
def exS (S : List Nat) (n m q : Int) : List Nat := if exE n m q = 0 then swp S (ix (n - (m + 1))) (ix (n - (m + q + 1))) else S
theorem dupS_length {S : List Nat} (h : S.length = 1024) (n m : Int) : (dupS S n m).length = 1024 := by unfold dupS; split; exact pushS_length h _ _; exact h
theorem swapS_length {S : List Nat} (h : S.length = 1024) (n m : Int) : (swapS S n m).length = 1024 := by unfold swapS; split; rw [swp_length, h]; exact h
theorem exS_length {S : List Nat} (h : S.length = 1024) (n m q : Int) : (exS S n m q).length = 1024 := by unfold exS; split; rw [swp_length, h]; exact h
theorem zeros_word (q : Nat) : zeros (.agg ([.int .u64 0, .int .u64 0, .int .u64 0, .int .u64 0] : List Value).toArray) q = rowW (List.replicate q 0) := by
  apply List.ext_getElem
  · rw [rowW_length, List.length_replicate, zeros_length]; rfl
  · intro i h1 h2
    have hq : i / 4 < (List.replicate q 0).length := by rw [rowW_length] at h2; omega
    have h3 := rowW_seg (List.replicate q 0) (i / 4) hq
    have h4 : (List.replicate q 0).getD (i / 4) 0 = 0 := by rw [List.getD_eq_getElem?_getD, List.getElem?_replicate]; split <;> rfl
    rw [h4] at h3
    have h5 : (rowW (List.replicate q 0))[i]? = (wc 0)[i % 4]? := by
      rw [← h3, List.getElem?_take_of_lt (Nat.mod_lt _ (by omega)), List.getElem?_drop]
      congr 1; omega
    have h6 : ∀ j, j < 4 → (wc 0)[j]? = some (.int .u64 0) := by
      intro j hj
      match j, hj with
      | 0, _ => rfl
      | 1, _ => rfl
      | 2, _ => rfl
      | 3, _ => rfl
    rw [h6 _ (Nat.mod_lt _ (by omega)), List.getElem?_eq_getElem h2] at h5
    simp only [Option.some.injEq] at h5
    rw [h5]
    simp only [zeros, List.getElem_map, List.getElem_range, Value.cells, List.size_toArray, List.length_cons, List.length_nil]
    have h7 : ∀ j, j < 4 → (([.int .u64 0, .int .u64 0, .int .u64 0, .int .u64 0] : List Value).toArray)[j]! = .int .u64 0 := by
      intro j hj
      match j, hj with
      | 0, _ => rfl
      | 1, _ => rfl
      | 2, _ => rfl
      | 3, _ => rfl
    exact h7 _ (Nat.mod_lt _ (by omega))
theorem put_all (cs vs : List Value) (h : cs.length = vs.length) : put cs 0 vs = vs := by unfold put; rw [List.take_zero, Nat.zero_add, List.drop_of_length_le (by omega)]; simp
theorem put_front (xs ys : List Nat) (h : ys.length ≤ xs.length) : put (rowW xs) 0 (rowW ys) = rowW (ys ++ xs.drop ys.length) := by
  unfold put
  rw [List.take_zero, List.nil_append, Nat.zero_add, rowW_length, rowW_drop, rowW_append]
theorem put_back (xs ys : List Nat) (k : Nat) (h : k + ys.length = xs.length) : put (rowW xs) (k * 4) (rowW ys) = rowW (xs.take k ++ ys) := by
  unfold put
  rw [rowW_take, rowW_length, ← Nat.add_mul, rowW_drop, List.drop_of_length_le (by omega), rowW_append]
  simp [rowW]
theorem wordsA {S : List Nat} {n : Int} (hS : S.length = 1024) (m : Nat) (hm : (m : Int) = max n 0) (h : n ≤ 1024) : S.take m = wordsS S n := by
  refine wordsS_of (by rw [List.length_take]; omega) (fun k hk => ?_)
  rw [List.length_take] at hk
  rw [getD_take _ _ _ (by omega), if_neg (by omega)]
  congr 1
  unfold ix; omega
theorem wordsB {S : List Nat} {n : Int} (hS : S.length = 1024) (h : 1024 < n) : S.drop (ix n) ++ S.take (ix n) = wordsS S n := by
  have hl := ix_lt n
  refine wordsS_of (by rw [List.length_append, List.length_drop, List.length_take]; omega) (fun k hk => ?_)
  rw [List.length_append, List.length_drop, List.length_take] at hk
  rw [if_pos h]
  have hc := ix_cast n
  by_cases h1 : k < 1024 - ix n
  · rw [getD_append_left _ _ _ (by rw [List.length_drop]; omega)]
    have e : ix (n - 1024 + (k : Nat)) = ix n + k := by
      have := ix_cast (n - 1024 + (k : Nat)); omega
    rw [e]
    simp [List.getD, List.getElem?_drop]
  · have e : ix (n - 1024 + (k : Nat)) = k - (1024 - ix n) := by
      have := ix_cast (n - 1024 + (k : Nat)); omega
    rw [e]
    have e2 : k = (S.drop (ix n)).length + (k - (1024 - ix n)) := by rw [List.length_drop]; omega
    conv => lhs; rw [e2]
    rw [getD_append_right, getD_take _ _ _ (by omega)]
theorem at_lo {S : List Nat} {n m : Int} (h : m < 1) : atX S n m = 0 ∧ atE n m = 1 := by
  have e : atE n m = 1 := by unfold atE; rw [if_pos h]
  exact ⟨by unfold atX; rw [e]; rfl, e⟩
theorem at_hi {S : List Nat} {n m : Int} (h : ¬ m < 1) (h2 : m > n) : atX S n m = 0 ∧ atE n m = 90 := by
  have e : atE n m = 90 := by unfold atE; rw [if_neg h, if_pos h2]
  exact ⟨by unfold atX; rw [e]; rfl, e⟩
theorem at_ok {S : List Nat} {n m : Int} (h : ¬ m < 1) (h2 : ¬ m > n) : atX S n m = S.getD (ix (n - m)) 0 ∧ atE n m = 0 := by
  have e : atE n m = 0 := by unfold atE; rw [if_neg h, if_neg h2]
  exact ⟨by unfold atX; rw [e]; rfl, e⟩
theorem stk_fit (o : Nat) (i : Int) (ho : o ≤ 1) : 0 + o + (i % 1024).toNat * 4 + 4 ≤ 4097 := by
  have := ix_lt i
  unfold ix at this
  generalize (i % 1024).toNat = q at *
  omega
theorem sw_lo {S : List Nat} {n m : Int} (h : m < 1) : swapS S n m = S ∧ swapE n m = 1 := by
  have e : swapE n m = 1 := by unfold swapE; rw [if_pos h]
  exact ⟨by unfold swapS; rw [e]; rfl, e⟩
theorem sw_hi {S : List Nat} {n m : Int} (h : ¬ m < 1) (h2 : m ≥ n) : swapS S n m = S ∧ swapE n m = 90 := by
  have e : swapE n m = 90 := by unfold swapE; rw [if_neg h, if_pos h2]
  exact ⟨by unfold swapS; rw [e]; rfl, e⟩
theorem sw_ok {S : List Nat} {n m : Int} (h : ¬ m < 1) (h2 : ¬ m ≥ n) : swapS S n m = swp S (ix (n - 1)) (ix (n - (m + 1))) ∧ swapE n m = 0 := by
  have e : swapE n m = 0 := by unfold swapE; rw [if_neg h, if_neg h2]
  exact ⟨by unfold swapS; rw [e]; rfl, e⟩
theorem ex_lo {S : List Nat} {n m q : Int} (h : m < 1 ∨ q < 1) : exS S n m q = S ∧ exE n m q = 1 := by
  have e : exE n m q = 1 := by unfold exE; rw [if_pos h]
  exact ⟨by unfold exS; rw [e]; rfl, e⟩
theorem ex_hi {S : List Nat} {n m q : Int} (h : ¬ (m < 1 ∨ q < 1)) (h2 : m ≥ n ∨ q ≥ n - m) : exS S n m q = S ∧ exE n m q = 90 := by
  have e : exE n m q = 90 := by unfold exE; rw [if_neg h, if_pos h2]
  exact ⟨by unfold exS; rw [e]; rfl, e⟩
theorem ex_ok {S : List Nat} {n m q : Int} (h : ¬ (m < 1 ∨ q < 1)) (h2 : ¬ (m ≥ n ∨ q ≥ n - m)) : exS S n m q = swp S (ix (n - (m + 1))) (ix (n - (m + q + 1))) ∧ exE n m q = 0 := by
  have e : exE n m q = 0 := by unfold exE; rw [if_neg h, if_neg h2]
  exact ⟨by unfold exS; rw [e]; rfl, e⟩
theorem tmod_pos {i : Int} (h : ¬ i.tmod 1024 < 0) : i.tmod 1024 = i % 1024 := by
  rcases Int.le_total 0 i with h1 | h1
  · exact Int.tmod_eq_emod_of_nonneg h1
  · obtain ⟨j, rfl⟩ : ∃ j, i = -j := ⟨-i, by omega⟩
    rw [Int.neg_tmod, Int.tmod_eq_emod_of_nonneg (by omega)] at h ⊢
    omega
theorem tmod_neg {i : Int} (h : i.tmod 1024 < 0) : i.tmod 1024 + 1024 = i % 1024 := by
  rcases Int.le_total 0 i with h1 | h1
  · rw [Int.tmod_eq_emod_of_nonneg h1] at h; omega
  · obtain ⟨j, rfl⟩ : ∃ j, i = -j := ⟨-i, by omega⟩
    rw [Int.neg_tmod, Int.tmod_eq_emod_of_nonneg (by omega)] at h ⊢
    omega
theorem tmod_bound (i : Int) : -1024 < i.tmod 1024 ∧ i.tmod 1024 < 1024 := by
  rcases Int.le_total 0 i with h1 | h1
  · rw [Int.tmod_eq_emod_of_nonneg h1]; omega
  · obtain ⟨j, rfl⟩ : ∃ j, i = -j := ⟨-i, by omega⟩
    rw [Int.neg_tmod, Int.tmod_eq_emod_of_nonneg (by omega)]
    omega
/-- New. -/
def zstk : List Nat := List.replicate 1024 0
theorem zstk_length : zstk.length = 1024 := List.length_replicate
end Go.Fw
set_option linter.unusedVariables false
namespace Go.Fw
open Go
/-- A step's cells. -/
abbrev opc (k : Int) (b : Bool) (n m p : Int) (x y : Nat) (sl : Value) : List Value := [.int .i64 k, .bool b, .int .i64 n, .int .i64 m, .int .i64 p] ++ (wc x ++ (wc y ++ [sl]))
theorem opc_length (k : Int) (b : Bool) (n m p : Int) (x y : Nat) (sl : Value) : (opc k b n m p x y sl).length = 14 := rfl
def stepN (k m n : Int) : Int := if k = 1 then pushN n else if k = 2 then popN n else if k = 4 then dupN n m else if k = 7 ∨ k = 10 then n + 1 else if k = 8 then n - 1 else n
section
variable {P : Program} {ops : Array Oper} {F : Act → World → Prop} {w0 w w' : World} {M : List Nat} {N : Nf} {L : List (Oper × K)} {σ : List (Nat × Value)} {l lS : List (Nat × Ent)} {d : Option Tmp} {ty : TypeId} {p : String} {af : Array Edge} {x y : Operand} {v z : Value} {t : TypeId} {kd : IntKind} {k : K}

theorem WS.two {a b : Nat} {ta tb : TypeId} {ca cb : List Value} (h1 : Ent.At w ⟨some a, ta, ca⟩) (h2 : Ent.At w ⟨some b, tb, cb⟩) (hne : a ≠ b) : WS w [a, b] [(0, ⟨some a, ta, ca⟩), (1, ⟨some b, tb, cb⟩)] w := by
  have key : ∀ j e, lk [(0, (⟨some a, ta, ca⟩ : Ent)), (1, ⟨some b, tb, cb⟩)] j = some e → (j = 0 ∧ e = ⟨some a, ta, ca⟩) ∨ (j = 1 ∧ e = ⟨some b, tb, cb⟩) := by
    intro j e h
    rw [lk_cons, lk_cons] at h
    split at h
    · simp at h; exact .inl ⟨by omega, h.symm⟩
    · split at h
      · simp at h; exact .inr ⟨by omega, h.symm⟩
      · simp [lk] at h
  refine ⟨rfl, rfl, rfl, Nat.le_refl _, fun _ _ _ => rfl, fun j e he => ?_, fun j j' e e' g' h3 h4 hn hg => ?_, fun j e g' he hg => ?_⟩
  · rcases key j e he with ⟨_, rfl⟩ | ⟨_, rfl⟩
    · exact h1
    · exact h2
  · rcases key j e h3 with ⟨rfl, rfl⟩ | ⟨rfl, rfl⟩ <;> rcases key j' e' h4 with ⟨rfl, rfl⟩ | ⟨rfl, rfl⟩
    · exact absurd rfl hn
    · simp at hg ⊢; omega
    · simp at hg ⊢; omega
    · exact absurd rfl hn
  · rcases key j e he with ⟨_, rfl⟩ | ⟨_, rfl⟩
    · simp at hg; subst hg; exact .inr (by simp)
    · simp at hg; subst hg; exact .inr (by simp)

/-- Two entries alone, under other names. -/
theorem WS.pairOf (hw : WS w0 M l w) (i j : Nat) {e1 e2 : Ent} (h1 : lk l i = some e1) (h2 : lk l j = some e2) (hij : i ≠ j) (i' j' : Nat) (hij' : i' ≠ j') : WS w0 M [(i', e1), (j', e2)] w := by
  have key : ∀ q e, lk [(i', e1), (j', e2)] q = some e → (q = i' ∧ e = e1) ∨ (q = j' ∧ e = e2) := by
    intro q e h
    rw [lk_cons, lk_cons] at h
    split at h
    · simp at h; exact .inl ⟨by omega, h.symm⟩
    · split at h
      · simp at h; exact .inr ⟨by omega, h.symm⟩
      · simp [lk] at h
  refine ⟨hw.os, hw.tape, hw.output, hw.size, hw.keep, fun q e he => ?_, fun q q' e e' g' h3 h4 hn hg => ?_, fun q e g' he hg => ?_⟩
  · rcases key q e he with ⟨_, rfl⟩ | ⟨_, rfl⟩
    · exact hw.live i _ h1
    · exact hw.live j _ h2
  · rcases key q e h3 with ⟨rfl, rfl⟩ | ⟨rfl, rfl⟩ <;> rcases key q' e' h4 with ⟨rfl, rfl⟩ | ⟨rfl, rfl⟩
    · exact absurd rfl hn
    · exact hw.apart i j _ _ g' h1 h2 hij hg
    · exact hw.apart j i _ _ g' h2 h1 (Ne.symm hij) hg
    · exact absurd rfl hn
  · rcases key q e he with ⟨_, rfl⟩ | ⟨_, rfl⟩
    · exact hw.own i _ g' h1 hg
    · exact hw.own j _ g' h2 hg

/-- Behind a step both are as they must be. -/
def StkPost (w : World) (ta tb : TypeId) (a b : Nat) (n : Int) (e : Ending) (w' : World) : Prop :=
  ∃ S : List Nat, S.length = 1024 ∧ e = .returned (.bool true) ∧ WS w [a, b] [(0, ⟨some a, ta, stkM S n⟩), (1, ⟨some b, tb, stkR S n⟩)] w'
theorem StkPost.mk' {ta tb : TypeId} {a b : Nat} {n n' : Int} {e : Ending} (S : List Nat) (hS : S.length = 1024) (hn : n' = n) (he : e = .returned (.bool true)) (hw : WS w [a, b] l w') (h1 : lk l 0 = some ⟨some a, ta, stkM S n'⟩) (h2 : lk l 1 = some ⟨some b, tb, stkR S n'⟩) :
    StkPost w ta tb a b n e w' := by
  subst hn
  exact ⟨S, hS, he, hw.pairOf 0 1 h1 h2 (by omega) 0 1 (by omega)⟩
theorem J.callStk (i j : Nat) {ta tb : TypeId} {a b : Nat} {ca cb : List Value} {n : Int} (h1 : lk l i = some ⟨some a, ta, ca⟩) (h2 : lk l j = some ⟨some b, tb, cb⟩) (hij : i ≠ j) (hi : lk lS i = none) (hj : lk lS j = none) {f : FuncId} (hf : FnOk P f) {xs : Array Operand} {tys : Array TypeId} {args : List Value} (hx : evs σ xs.toList = some args) (hd : okd N d)
    (spec : ∀ w, WS w0 M l w → Calls P f args.toArray w (StkPost w ta tb a b n))
    (hJ : ∀ S, S.length = 1024 → J P ops F w0 M N lS L (putd d (.bool true) σ) ((i, ⟨some a, ta, stkM S n⟩) :: (j, ⟨some b, tb, stkR S n⟩) :: l)) :
    J P ops F w0 M N lS ((⟨d, .call ⟨.value (.func f), xs, tys⟩, ty, p, af, none⟩, .l) :: L) σ l :=
  J.call hf hx hd (ι := List Nat) (fun S => S.length = 1024) (fun _ => .bool true) [a, b] (fun S => [(i, ⟨some a, ta, stkM S n⟩), (j, ⟨some b, tb, stkR S n⟩)])
    (fun w hw => (spec w hw).mono fun e w' ⟨S, hS, he, hw'⟩ => ⟨S, hS, he, hw'.pairOf 0 1 rfl rfl (by omega) i j hij⟩)
    (fun S hS g hg => by
      simp at hg
      rcases hg with rfl | rfl
      · exact ⟨i, _, ⟨some g, ta, stkM S n⟩, h1, rfl, by rw [lk_cons, if_pos rfl]⟩
      · exact ⟨j, _, ⟨some g, tb, stkR S n⟩, h2, rfl, by rw [lk_cons, if_neg hij, lk_cons, if_pos rfl]⟩)
    (fun S q e he => by
      rw [lk_cons, lk_cons] at he
      split at he
      · rename_i hk; subst hk; exact hi
      · split at he
        · rename_i hk; subst hk; exact hj
        · simp [lk] at he) (fun S hS => hJ S hS)

/-- Both, new. -/
def PairPost (w : World) (ta tb : TypeId) (ca cb : List Value) (e : Ending) (w' : World) : Prop :=
  ∃ a b, w.heap.size ≤ a ∧ w.heap.size ≤ b ∧ e = .returned (.agg [.pointer (some ⟨a, 0, none⟩), .pointer (some ⟨b, 0, none⟩)].toArray) ∧ WS w [] [(0, ⟨some a, ta, ca⟩), (1, ⟨some b, tb, cb⟩)] w'
theorem J.callPair (i j : Nat) (hij : i ≠ j) {ta tb : TypeId} {ca cb : List Value} (hi : lk lS i = none) (hj : lk lS j = none) {f : FuncId} (hf : FnOk P f) {xs : Array Operand} {tys : Array TypeId} {args : List Value} (hx : evs σ xs.toList = some args) (hd : okd N d)
    (spec : ∀ w, WS w0 M l w → Calls P f args.toArray w (PairPost w ta tb ca cb))
    (hJ : ∀ a b, w0.heap.size ≤ a → w0.heap.size ≤ b → J P ops F w0 M N lS L (putd d (.agg [.pointer (some ⟨a, 0, none⟩), .pointer (some ⟨b, 0, none⟩)].toArray) σ) ((i, ⟨some a, ta, ca⟩) :: (j, ⟨some b, tb, cb⟩) :: l)) :
    J P ops F w0 M N lS ((⟨d, .call ⟨.value (.func f), xs, tys⟩, ty, p, af, none⟩, .l) :: L) σ l :=
  J.call hf hx hd (ι := Nat × Nat) (fun q => w0.heap.size ≤ q.1 ∧ w0.heap.size ≤ q.2) (fun q => .agg [.pointer (some ⟨q.1, 0, none⟩), .pointer (some ⟨q.2, 0, none⟩)].toArray) [] (fun q => [(i, ⟨some q.1, ta, ca⟩), (j, ⟨some q.2, tb, cb⟩)])
    (fun w hw => (spec w hw).mono fun e w' ⟨a, b, ha, hb, he, hw'⟩ => ⟨(a, b), ⟨Nat.le_trans hw.size ha, Nat.le_trans hw.size hb⟩, he, hw'.pairOf 0 1 rfl rfl (by omega) i j hij⟩)
    (fun _ _ g hg => by simp at hg)
    (fun q r e he => by
      rw [lk_cons, lk_cons] at he
      split at he
      · rename_i hk; subst hk; exact hi
      · split at he
        · rename_i hk; subst hk; exact hj
        · simp [lk] at he) (fun q hq => hJ q.1 q.2 hq.1 hq.2)
/-- Two entries lie in two blocks. -/
theorem WS.ne (hw : WS w0 M l w) (i j : Nat) {a b : Nat} {ta tb : TypeId} {ca cb : List Value} (h1 : lk l i = some ⟨some a, ta, ca⟩) (h2 : lk l j = some ⟨some b, tb, cb⟩) (hij : i ≠ j) : a ≠ b := fun e => hw.apart i j _ _ a h1 h2 hij rfl (by rw [e])
end

/-! ### 'awake' -/
def awk : List (Int × Int × Int × Nat) := [(1, 0, 0, 5), (7, 0, 0, 6), (5, 1, 0, 0), (4, 2, 0, 0), (10, 2, 0, 0), (11, 1, 3, 0), (12, 0, 0, 0), (2, 0, 0, 0), (8, 0, 0, 0)]
def awkc : List Value := awk.flatMap fun q => opc q.1 false q.2.1 q.2.2.1 0 q.2.2.2 0 (.slice none 0 0)
def awn (i : Nat) : Int := [(0 : Int), 1, 2, 2, 3, 4, 4, 4, 3, 2].getD i 0
def awq (i : Nat) : Int × Int × Int × Nat := awk.getD i (0, 0, 0, 0)
theorem awk_all : ∀ i : Fin 9, ((awq i.val).1 = 1 ∨ (awq i.val).1 = 2 ∨ (awq i.val).1 = 4 ∨ (awq i.val).1 = 5 ∨ (awq i.val).1 = 12 ∨ (awq i.val).1 = 7 ∨ (awq i.val).1 = 8 ∨ (awq i.val).1 = 10 ∨ (awq i.val).1 = 11) ∧
    (0 ≤ (awq i.val).2.1 ∧ (awq i.val).2.1 ≤ 4) ∧ (0 ≤ (awq i.val).2.2.1 ∧ (awq i.val).2.2.1 ≤ 4) ∧ stepN (awq i.val).1 (awq i.val).2.1 (awn i.val) = awn (i.val + 1) ∧ 0 ≤ awn i.val ∧ awn i.val ≤ 4 := by decide +kernel
theorem awk_seg (i : Nat) (h : i < 9) : (awkc.drop (i * 14)).take 14 = opc (awq i).1 false (awq i).2.1 (awq i).2.2.1 0 (awq i).2.2.2 0 (.slice none 0 0) := by
  match i, h with
  | 0, _ => rfl
  | 1, _ => rfl
  | 2, _ => rfl
  | 3, _ => rfl
  | 4, _ => rfl
  | 5, _ => rfl
  | 6, _ => rfl
  | 7, _ => rfl
  | 8, _ => rfl
end Go.Fw
set_option linter.unusedVariables false
namespace Go.Fw
open Go
section
variable {P : Program} {ops : Array Oper} {F : Act → World → Prop} {w0 w w' : World} {M : List Nat} {N : Nf} {L : List (Oper × K)} {σ : List (Nat × Value)} {l lS : List (Nat × Ent)} {d : Option Tmp} {ty : TypeId} {p : String} {af : Array Edge} {x y : Operand} {v z : Value} {t : TypeId} {kd : IntKind} {k : K} {Q : Exit → Act → World → Prop}
theorem X.asE {u : Exit} {e : Ent} (k : Nat) (e' : Ent) (h : lk l k = some e) (he : e = e') (hX : X w0 M N Q u σ ((k, e') :: l)) : X w0 M N Q u σ l := fun a w ha hw => hX a w ha (hw.asE h he)
theorem X.as {u : Exit} {v : Value} (t : Nat) (v' : Value) (h : lk σ t = some v) (e : v = v') (hX : X w0 M N Q u ((t, v') :: σ) l) : X w0 M N Q u σ l := fun a w ha hw => hX a w (ha.as h e) hw

def FilledPost (w : World) (tm tw : TypeId) (e : Ending) (w' : World) : Prop :=
  ∃ (g : Nat) (S zs : List Nat) (r : RowIx), (3 ≤ zs.length ∧ zs.length ≤ 1024 ∧ S.length = 1024 ∧ (∀ q, q < zs.length → S.getD q 0 = zs.getD q 0) ∧ r.Ok 4 zs.length ∧ w.heap.size ≤ g) ∧
    e = .returned (.tuple #[.pointer (some ⟨g, 0, none⟩), r.val zs.length]) ∧ WS w [] [(0, ⟨some g, tm, stkM S (zs.length : Nat)⟩), (1, r.ent tw (rowW zs))] w'
theorem J.callFilled (i j : Nat) (hij : i ≠ j) {tm tw : TypeId} (hi : lk lS i = none) (hj : lk lS j = none) {f : FuncId} (hf : FnOk P f) {xs : Array Operand} {tys : Array TypeId} {args : List Value} (hx : evs σ xs.toList = some args) (hd : okd N d)
    (spec : ∀ w, WS w0 M l w → Calls P f args.toArray w (FilledPost w tm tw))
    (hJ : ∀ (g : Nat) (S zs : List Nat) (r : RowIx), (3 ≤ zs.length ∧ zs.length ≤ 1024 ∧ S.length = 1024 ∧ (∀ q, q < zs.length → S.getD q 0 = zs.getD q 0) ∧ r.Ok 4 zs.length) →
      J P ops F w0 M N lS L (putd d (.tuple [.pointer (some ⟨g, 0, none⟩), r.val zs.length].toArray) σ) ((i, ⟨some g, tm, stkM S (zs.length : Nat)⟩) :: (j, r.ent tw (rowW zs)) :: l)) :
    J P ops F w0 M N lS ((⟨d, .call ⟨.value (.func f), xs, tys⟩, ty, p, af, none⟩, .l) :: L) σ l :=
  J.call hf hx hd (ι := (Nat × RowIx) × (List Nat × List Nat)) (fun q => 3 ≤ q.2.2.length ∧ q.2.2.length ≤ 1024 ∧ q.2.1.length = 1024 ∧ (∀ u, u < q.2.2.length → q.2.1.getD u 0 = q.2.2.getD u 0) ∧ q.1.2.Ok 4 q.2.2.length)
    (fun q => .tuple [.pointer (some ⟨q.1.1, 0, none⟩), q.1.2.val q.2.2.length].toArray) [] (fun q => [(i, ⟨some q.1.1, tm, stkM q.2.1 (q.2.2.length : Nat)⟩), (j, q.1.2.ent tw (rowW q.2.2))])
    (fun w hw => (spec w hw).mono fun e w' ⟨g, S, zs, r, ⟨h1, h2, h3, h4, h5, _⟩, he, hw'⟩ => ⟨((g, r), (S, zs)), ⟨h1, h2, h3, h4, h5⟩, he, hw'.pairOf 0 1 rfl rfl (by omega) i j hij⟩)
    (fun _ _ g hg => by simp at hg)
    (fun q r e he => by
      rw [lk_cons, lk_cons] at he
      split at he
      · rename_i hk; subst hk; exact hi
      · split at he
        · rename_i hk; subst hk; exact hj
        · simp [lk] at he) (fun q hq => hJ q.1.1 q.2.1 q.2.2 q.1.2 hq)
end

theorem neq_iff {p q : Prop} [Decidable p] [Decidable q] (h : p ↔ q) : (!(decide p == decide q)) = false := by
  by_cases hp : p
  · rw [decide_eq_true hp, decide_eq_true (h.1 hp)]; rfl
  · rw [decide_eq_false hp, decide_eq_false (fun hq => hp (h.2 hq))]; rfl
theorem neq_no {p : Prop} [Decidable p] (h : ¬ p) : (!(decide p == false)) = false := by rw [decide_eq_false h]; rfl
theorem neq_yes {p : Prop} [Decidable p] (h : p) : (!(decide p == true)) = false := by rw [decide_eq_true h]; rfl

/-! ### When a call answers OK -/
theorem atE_iff (n m : Int) : ((atE n m : Nat) : Int) = 0 ↔ (1 ≤ m ∧ m ≤ n) := by unfold atE; split; omega; split <;> omega
theorem swapE_iff (n m : Int) : ((swapE n m : Nat) : Int) = 0 ↔ (1 ≤ m ∧ m < n) := by unfold swapE; split; omega; split <;> omega
theorem exE_iff (n m q : Int) : ((exE n m q : Nat) : Int) = 0 ↔ (1 ≤ m ∧ 1 ≤ q ∧ m + q < n) := by unfold exE; split; omega; split <;> omega
theorem dupE_iff (n m : Int) : ((dupE n m : Nat) : Int) = 0 ↔ (1 ≤ m ∧ m ≤ n ∧ n < 1024) := by
  have h := atE_iff n m
  unfold dupE pushE
  split
  · split <;> omega
  · omega
theorem pushE_iff (n : Int) : ((pushE n : Nat) : Int) = 0 ↔ n < 1024 := by unfold pushE; split <;> omega
theorem popE_iff (n : Int) : ((popE n : Nat) : Int) = 0 ↔ 1 ≤ n := by unfold popE; split <;> omega
theorem swapS_no {S : List Nat} {n m : Int} (h : ¬ ((swapE n m : Nat) : Int) = 0) : swapS S n m = S := by unfold swapS; rw [if_neg (by omega)]
theorem swapS_yes {S : List Nat} {n m : Int} (h : ((swapE n m : Nat) : Int) = 0) : swapS S n m = swp S (ix (n - 1)) (ix (n - (m + 1))) := by unfold swapS; rw [if_pos (by omega)]
theorem exS_no {S : List Nat} {n m q : Int} (h : ¬ ((exE n m q : Nat) : Int) = 0) : exS S n m q = S := by unfold exS; rw [if_neg (by omega)]
theorem exS_yes {S : List Nat} {n m q : Int} (h : ((exE n m q : Nat) : Int) = 0) : exS S n m q = swp S (ix (n - (m + 1))) (ix (n - (m + q + 1))) := by unfold exS; rw [if_pos (by omega)]
theorem atX_yes {S : List Nat} {n m : Int} (h : ((atE n m : Nat) : Int) = 0) : atX S n m = S.getD (ix (n - m)) 0 := by unfold atX; rw [if_pos (by omega)]
theorem atX_no {S : List Nat} {n m : Int} (h : ¬ ((atE n m : Nat) : Int) = 0) : atX S n m = 0 := by unfold atX; rw [if_neg (by omega)]
theorem dup_no {S : List Nat} {n m : Int} (h : ¬ ((dupE n m : Nat) : Int) = 0) : dupS S n m = S ∧ dupN n m = n := by
  unfold dupE pushE at h
  unfold dupS dupN pushS pushN
  split at h
  · rename_i h1
    split at h
    · rename_i h2
      rw [if_pos h1, if_pos h1, if_pos h2, if_pos h2]; exact ⟨rfl, rfl⟩
    · exact absurd rfl h
  · rename_i h1
    rw [if_neg h1, if_neg h1]; exact ⟨rfl, rfl⟩
theorem dup_yes {S : List Nat} {n m : Int} (h : ((dupE n m : Nat) : Int) = 0) : dupS S n m = S.set (ix n) (S.getD (ix (n - m)) 0) ∧ dupN n m = n + 1 := by
  have hi := (dupE_iff n m).1 h
  have ha := (atE_iff n m).2 ⟨hi.1, hi.2.1⟩
  unfold dupS dupN pushS pushN
  have ha' : atE n m = 0 := by omega
  have hn : ¬ 1024 ≤ n := by omega
  rw [if_pos ha', if_pos ha', if_neg hn, if_neg hn, atX_yes ha]
  exact ⟨rfl, rfl⟩
theorem ix_nat (k : Nat) (h : k < 1024) : ix (k : Int) = k := by unfold ix; omega
theorem ix_of {z : Int} {k : Nat} (h : z = (k : Int)) (hk : k < 1024) : ix z = k := by subst h; exact ix_nat k hk

/-! ### Places that change -/
theorem swp_i {S : List Nat} {i j : Nat} (hi : i < S.length) (hj : j < S.length) : (swp S i j).getD i 0 = S.getD j 0 := by
  unfold swp
  rw [getD_set _ _ _ _ (by rw [List.length_set]; exact hj), getD_set _ _ _ _ hi]
  split
  · rename_i h; subst h; rfl
  · rw [if_pos rfl]
theorem swp_j {S : List Nat} {i j : Nat} (hj : j < S.length) : (swp S i j).getD j 0 = S.getD i 0 := by
  unfold swp
  rw [getD_set _ _ _ _ (by rw [List.length_set]; exact hj), if_pos rfl]
theorem swp_o {S : List Nat} {i j q : Nat} (hi : i < S.length) (hj : j < S.length) (h1 : i ≠ q) (h2 : j ≠ q) : (swp S i j).getD q 0 = S.getD q 0 := by
  unfold swp
  rw [getD_set _ _ _ _ (by rw [List.length_set]; exact hj), if_neg h2, getD_set _ _ _ _ hi, if_neg h1]
theorem ext_getD {xs ys : List Nat} (hl : xs.length = ys.length) (h : ∀ q, q < xs.length → xs.getD q 0 = ys.getD q 0) : xs = ys := by
  apply List.ext_getElem hl
  intro q h1 h2
  have := h q h1
  simpa [List.getD, h1, h2] using this
theorem swp_back {S : List Nat} {i j : Nat} (hi : i < S.length) (hj : j < S.length) : swp (swp S i j) j i = S := by
  have hl : (swp S i j).length = S.length := swp_length _ _ _
  refine ext_getD (by rw [swp_length, swp_length]) (fun q hq => ?_)
  by_cases h1 : i = q
  · subst h1; rw [swp_j (by rw [hl]; exact hi), swp_j hj]
  · by_cases h2 : j = q
    · subst h2; rw [swp_i (by rw [hl]; exact hj) (by rw [hl]; exact hi), swp_i hi hj]
    · rw [swp_o (by rw [hl]; exact hj) (by rw [hl]; exact hi) h2 h1, swp_o hi hj h1 h2]
theorem swp_again {S : List Nat} {i j : Nat} (hi : i < S.length) (hj : j < S.length) : swp (swp S i j) i j = S := by
  have hl : (swp S i j).length = S.length := swp_length _ _ _
  refine ext_getD (by rw [swp_length, swp_length]) (fun q hq => ?_)
  by_cases h2 : j = q
  · subst h2; rw [swp_j (by rw [hl]; exact hj), swp_i hi hj]
  · by_cases h1 : i = q
    · subst h1; rw [swp_i (by rw [hl]; exact hi) (by rw [hl]; exact hj), swp_j hj]
    · rw [swp_o (by rw [hl]; exact hi) (by rw [hl]; exact hj) h1 h2, swp_o hi hj h1 h2]
/-- What Words tells of a stack that was filled. -/
theorem words_full {S zs : List Nat} (hz : zs.length ≤ 1024) (h : ∀ q, q < zs.length → S.getD q 0 = zs.getD q 0) : wordsS S (zs.length : Nat) = zs := by
  refine (wordsS_of (by omega) (fun q hq => ?_)).symm
  rw [if_neg (by omega), ← h q hq, ix_of (z := 0 + (q : Nat)) (k := q) (by omega) (by omega)]
end Go.Fw
set_option linter.unusedVariables false
namespace Go.Fw
open Go
theorem push_yes {S : List Nat} {n : Int} {x : Nat} (h : ((pushE n : Nat) : Int) = 0) : pushS S n x = S.set (ix n) x ∧ pushN n = n + 1 := by
  have := (pushE_iff n).1 h
  unfold pushS pushN; rw [if_neg (by omega), if_neg (by omega)]; exact ⟨rfl, rfl⟩
theorem push_no {S : List Nat} {n : Int} {x : Nat} (h : ¬ ((pushE n : Nat) : Int) = 0) : pushS S n x = S ∧ pushN n = n := by
  have := pushE_iff n
  unfold pushS pushN; rw [if_pos (by omega), if_pos (by omega)]; exact ⟨rfl, rfl⟩
theorem pop_yes {S : List Nat} {n : Int} (h : ((popE n : Nat) : Int) = 0) : popX S n = S.getD (ix (n - 1)) 0 ∧ popN n = n - 1 := by
  have := (popE_iff n).1 h
  unfold popX popN; rw [if_neg (by omega), if_neg (by omega)]; exact ⟨rfl, rfl⟩
theorem pop_no {S : List Nat} {n : Int} (h : ¬ ((popE n : Nat) : Int) = 0) : popN n = n := by
  have := popE_iff n
  unfold popN; rw [if_pos (by omega)]
theorem swp_comm (S : List Nat) (i j : Nat) : swp S i j = swp S j i := by
  unfold swp
  by_cases h : i = j
  · subst h; rfl
  · rw [List.set_comm _ _ h]
end Go.Fw
set_option linter.unusedVariables false
namespace Go.Fw
open Go
theorem and2047 (n : Int) : bits .and .i64 n 2047 = n % 2048 := by
  have h127 : (BitVec.ofInt 64 2047).toNat = 2 ^ 11 - 1 := by decide
  have key : (BitVec.ofInt 64 n &&& BitVec.ofInt 64 2047).toNat = (n % ((2 ^ 64 : Nat) : Int)).toNat % 2 ^ 11 := by
    rw [BitVec.toNat_and, BitVec.toNat_ofInt, h127, Nat.and_two_pow_sub_one_eq_mod]
  show IntKind.i64.wrap ((BitVec.ofInt 64 n &&& BitVec.ofInt 64 2047).toNat : Nat) = n % 2048
  rw [key, IntKind.wrap_i64]
  omega
theorem zstk_get (q : Nat) : zstk.getD q 0 = 0 := by
  unfold zstk
  rw [List.getD_eq_getElem?_getD, List.getElem?_replicate]; split <;> rfl
theorem rowW_zstk : rowW zstk = List.replicate 4096 (.int .u64 0) := by
  have : ∀ n, rowW (List.replicate n 0) = List.replicate (n * 4) (.int .u64 0) := by
    intro n
    induction n with
    | zero => rfl
    | succ n ih =>
      rw [List.replicate_succ, show (n + 1) * 4 = 4 + n * 4 by omega, ← List.replicate_append_replicate]
      show wc 0 ++ rowW (List.replicate n 0) = _
      rw [ih]; rfl
  exact this 1024
theorem ring_words {S : List Nat} {n : Int} {i : Nat} (h : (i : Int) < min (max n 0) 1024) : (wordsS S n).getD ((min (max n 0) 1024).toNat - 1 - i) 0 = S.getD (ix (n - ((i : Int) + 1))) 0 := by
  rw [wordsS_get _ _ _ (by omega)]
  congr 1
  unfold ix
  split <;> omega
theorem pushE_or (n : Int) : pushE n = 0 ∨ pushE n = 91 := by unfold pushE; split <;> simp
end Go.Fw
set_option linter.unusedVariables false
namespace Go.Fw
open Go
variable {P : Program} {ops : Array Oper} {F : Act → World → Prop} {w0 : World} {M : List Nat} {N : Nf} {L : List (Oper × K)} {σ : List (Nat × Value)} {l lS : List (Nat × Ent)} {k : K}
  {d : Option Tmp} {ty : TypeId} {p : String} {af : Array Edge} {v v1 v2 z : Value} {x y c : Operand} {t tx : TypeId} {kd ki : IntKind} {n m r : Int} {b : Bool}

theorem zeroCells_zeros (z : Value) (q : Nat) : Builtin.zeroCells z.cells q = (zeros z q).toArray := by
  apply Array.ext'
  simp [Builtin.zeroCells, zeros]
theorem run_appendZ_room {w : World} {e : TypeId} {ti : TypeInfo} {q : Nat} (ht : P.underlying t = some (.slice e)) (hk : P.underlying tx = some (.int ki)) (hi : P.info? e = some ti) (hz : ti.zero = some z) (hq0 : 0 < q) (hsz : 0 < ti.size) (hb : q * ti.bytes ≤ 281474976710656) (h63 : q ≤ 9223372036854775807)
    {g sLen sCap : Nat} {en : Ent} (hid : en.id = some g) (hat : en.At w) (hroom : sLen + q ≤ sCap) (hfit : sLen * ti.size + (zeros z q).length ≤ en.cs.length) (h1 : ∀ u ∈ zeros z q, u.oneCell' = true) :
    (Builtin.append_ #[t, tx] ty #[.slice (some ⟨g, 0, none⟩) sLen sCap, .int kd (q : Int)]).run P w = .ok (.slice (some ⟨g, 0, none⟩) (sLen + q) sCap) (w.setRow g (put en.cs (sLen * ti.size) (zeros z q)).toArray) := by
  have hst := run_store_ent (P := P) hid hat (zeros z q) hfit h1
  have hw : IntKind.i64.wrap (q : Int) = (q : Int) := by rw [IntKind.wrap_i64]; omega
  have hn0 : ¬ (q * ti.size = 0) := by rw [Nat.mul_eq_zero]; omega
  have hbi : ¬ ((q : Int) * (ti.bytes : Int) > 2 ^ 48) := by
    have : ((q * ti.bytes : Nat) : Int) ≤ ((281474976710656 : Nat) : Int) := Int.ofNat_le.2 hb
    simp at this ⊢; omega
  have hadd : (⟨g, 0, none⟩ : Addr).add (sLen * ti.size) = ⟨g, sLen * ti.size, none⟩ := by rw [add_lit', Nat.zero_add]
  have hneg : ¬ ((q : Int) < 0) := by omega
  simp only [Builtin.append_, Sem.run_bind, run_underlying ht, run_underlying hk, sizeOf, typeInfo, run_program, hi, Sem.run_pure, Result.andThen, asInt, asIntOf, hw, hneg, hbi, if_true, if_false, Int.toNat_natCast, hn0, hroom, zeroValue, hz, zeroCells_zeros, hadd, hst, List.getElem?_toArray, List.getElem?_cons_zero, List.getElem?_cons_succ, Bool.not_true, Bool.false_eq_true]
theorem run_appendZ_grow {w : World} {e : TypeId} {ti : TypeInfo} {q : Nat} (ht : P.underlying t = some (.slice e)) (hk : P.underlying tx = some (.int ki)) (hi : P.info? e = some ti) (hz : ti.zero = some z) (hq0 : 0 < q) (hsz : 0 < ti.size) (hb : q * ti.bytes ≤ 281474976710656)
    {base : Option Addr} {sLen sCap : Nat} {olds : List Value} (h63 : sLen + q ≤ 9223372036854775807) (hold : (Builtin.firstCells ti.size sLen (.slice base sLen sCap)).run P w.drew = .ok olds.toArray w.drew) (hg : sCap < sLen + q) (hfit : Builtin.nextslicecap (sLen + q) sCap * ti.bytes ≤ 281474976710656) :
    (Builtin.append_ #[t, tx] ty #[.slice base sLen sCap, .int kd (q : Int)]).run P w = .ok (.slice (some ⟨w.heap.size, 0, none⟩) (sLen + q) (grownCap w (sLen + q) sCap e))
        (w.drew.alloc (.cells ((olds ++ zeros z q).toArray ++ Builtin.zeroCells z.cells (grownCap w (sLen + q) sCap e - (sLen + q))) e)) := by
  have hw : IntKind.i64.wrap (q : Int) = (q : Int) := by rw [IntKind.wrap_i64]; omega
  have hn0 : ¬ (q * ti.size = 0) := by rw [Nat.mul_eq_zero]; omega
  have hbi : ¬ ((q : Int) * (ti.bytes : Int) > 2 ^ 48) := by
    have : ((q * ti.bytes : Nat) : Int) ≤ ((281474976710656 : Nat) : Int) := Int.ofNat_le.2 hb
    simp at this ⊢; omega
  have hneg : ¬ ((q : Int) < 0) := by omega
  have hn : ¬ (sLen + q ≤ sCap) := by omega
  have h63' : ¬ (9223372036854775807 < ((sLen : Int) + (q : Int))) := by omega
  have h48' : ¬ (281474976710656 < Builtin.nextslicecap (sLen + q) sCap * ti.bytes) := by omega
  have hbi' : ¬ (281474976710656 < (q : Int) * (ti.bytes : Int)) := by simp at hbi ⊢; omega
  simp [Builtin.append_, run_underlying ht, run_underlying hk, sizeOf, typeInfo, zeroValue, asInt, asIntOf, hw, hneg, hbi', hi, hz, hn, h63', h48', Question.forced, hold, newRow, grownCap, zeroCells_zeros]
  exact fun h0 => absurd h0 hn0

theorem J.appendZ (h : Nat) (hh : lk lS h = none) {e size bytes q m' : Nat} {i : RowIx} {cs : List Value} (ht : P.underlying t = some (.slice e)) (hk : P.underlying tx = some (.int ki)) (he : ElT P e size bytes z) (hl : lk l h = some (i.ent e cs)) (hi : i.Ok size q) (hcs : cs.length = q * size)
    (hx : ev σ x = some (i.val q)) (hy : ev σ y = some (.int kd n)) (hn : n = (m' : Int)) (hm0 : 0 < m') (hb : (q + m') * bytes ≤ 140737488355328) (h63 : q + m' ≤ maxLen) (hd : okd N d) (q' : Nat) (hq' : q + m' = q') (cs' : List Value) (hcs' : cs ++ zeros z m' = cs')
    (hJ : ∀ i' : RowIx, i'.Ok size q' → J P ops F w0 M N lS L (putd d (i'.val q') σ) ((h, i'.ent e cs') :: l)) :
    J P ops F w0 M N lS ((⟨d, .call ⟨.builtin .append, #[x, y], #[t, tx]⟩, ty, p, af, none⟩, .l) :: L) σ l := by
  subst hq'; subst hcs'; subst hn
  refine J.loud rfl hd (ι := RowIx) (fun i' => i'.Ok size (q + m')) (fun i' => i'.val (q + m')) (fun i' => (h, i'.ent e (cs ++ zeros z m')) :: l) (fun _ _ hs => hs.fresh hh) (fun a ha w hw => ?_) hJ
  rw [run_builtin ha (args := [i.val q, .int kd (m' : Int)]) (by simp [evs, hx, hy]) w]
  have h1 := zeros_one he m'
  obtain ⟨ti, hti, htz, hts, htb⟩ := he.open
  have hzs := he.2.1
  have hsz := he.2.2.1
  subst hts; subst htb
  have hsmall : q + m' ≤ 9223372036854775807 := by simp only [maxLen] at h63; omega
  have hmb : m' * ti.bytes ≤ 281474976710656 := by
    have : m' * ti.bytes ≤ (q + m') * ti.bytes := Nat.mul_le_mul_right _ (by omega)
    omega
  have hzl : (zeros z m').length = m' * ti.size := by rw [zeros_length, hzs]
  have hat := hw.live h _ hl
  have fresh : ∀ (old : Nat) (w1 : World), w1 = w.drew.alloc (.cells ((cs ++ zeros z m').toArray ++ Builtin.zeroCells z.cells (grownCap w (q + m') old e - (q + m'))) e) →
      ∃ i' : RowIx, i'.Ok ti.size (q + m') ∧ Value.slice (some ⟨w.heap.size, 0, none⟩) (q + m') (grownCap w (q + m') old e) = i'.val (q + m') ∧ WS w0 M ((h, i'.ent e (cs ++ zeros z m')) :: l) w1 := by
    intro old w1 hw1
    have hge := grownCap_ge w (q + m') old e
    refine ⟨⟨some w.heap.size, grownCap w (q + m') old e, (Builtin.zeroCells z.cells (grownCap w (q + m') old e - (q + m'))).toList⟩, ⟨hge, grownCap_le_maxLen w (q + m') old e h63, ?_, fun h => by simp at h, zeroCells_one he _⟩, rfl, ?_⟩
    · rw [Array.length_toList, size_zeroCells, hzs, ← Nat.add_mul, Nat.add_sub_of_le hge]
    · rw [hw1]
      have := hw.drew.alloc h (cs ++ zeros z m' ++ (Builtin.zeroCells z.cells (grownCap w (q + m') old e - (q + m'))).toList) e
      simp only [RowIx.ent]
      have e1 : ((cs ++ zeros z m').toArray ++ Builtin.zeroCells z.cells (grownCap w (q + m') old e - (q + m'))) = (cs ++ zeros z m' ++ (Builtin.zeroCells z.cells (grownCap w (q + m') old e - (q + m'))).toList).toArray := by simp
      rw [e1]
      exact this
  cases hid : i.id with
  | none =>
    have hc0 := hi.none hid
    have hq0 : q = 0 := by have := hi.le; omega
    subst hq0
    have hcs0 : cs = [] := List.eq_nil_of_length_eq_zero (by simpa using hcs)
    subst hcs0
    have hval : i.val 0 = .slice none 0 0 := by simp [RowIx.val, hid, hdOf, hc0]
    have hr := run_appendZ_grow (P := P) (w := w) (ty := ty) (kd := kd) (base := none) (sLen := 0) (sCap := 0) (olds := []) ht hk hti htz hm0 hsz hmb (by omega) (by simpa using run_firstCells_none (P := P) w.drew ti.size 0 0 0) (by omega) (growslice_fits (by omega) hb)
    obtain ⟨i', hi', hv', hw'⟩ := fresh 0 _ rfl
    rw [hval]
    simp only [builtin, Sem.run_bind, hr, Result.andThen]
    exact ⟨i', hi', hv', hw'⟩
  | some g =>
    have hval : i.val q = .slice (some ⟨g, 0, none⟩) q i.cap := by simp [RowIx.val, hid, hdOf]
    rw [hval]
    by_cases hroom : q + m' ≤ i.cap
    · have hlen := hi.len
      have hfit : q * ti.size + (zeros z m').length ≤ (i.ent e cs).cs.length := by
        simp only [RowIx.ent, List.length_append, hcs, hzl, hlen, ← Nat.add_mul]
        exact Nat.mul_le_mul_right _ hroom
      have hr := run_appendZ_room (P := P) (w := w) (ty := ty) (kd := kd) (sCap := i.cap) ht hk hti htz hm0 hsz hmb (by omega) (g := g) (en := i.ent e cs) (by simp [RowIx.ent, hid]) hat hroom hfit h1
      simp only [builtin, Sem.run_bind, hr, Result.andThen]
      refine ⟨⟨some g, i.cap, i.sp.drop (zeros z m').length⟩, ⟨hroom, hi.max, ?_, fun h => by simp at h, fun u hu => hi.one u (List.mem_of_mem_drop hu)⟩, rfl, ?_⟩
      · simp only [List.length_drop, hzl, Nat.add_mul] at hfit ⊢
        simp only [RowIx.ent, List.length_append, hcs] at hfit
        omega
      · have hset := hw.set hl (g := g) (by simp [RowIx.ent, hid]) (cs ++ zeros z m' ++ i.sp.drop (zeros z m').length)
        have e1 : put (i.ent e cs).cs (q * ti.size) (zeros z m') = cs ++ zeros z m' ++ i.sp.drop (zeros z m').length := by
          rw [← hcs]
          simp [put, RowIx.ent, List.drop_append]
        rw [e1]
        simp only [RowIx.ent, hid] at hset ⊢
        exact hset
    · have holds : ∀ j u, cs[j]? = some u → w.drew.cell? ((⟨g, 0, none⟩ : Addr).add j) = some u := fun j u hj => by
        rw [add_lit', Nat.zero_add]
        have := hw.drew.cell hl (o := j) (v := u) (by simp only [RowIx.ent]; rw [List.getElem?_append_left (List.getElem?_eq_some_iff.1 hj).1]; exact hj)
        simpa [RowIx.ent, hid] using this
      have hr := run_appendZ_grow (P := P) (w := w) (ty := ty) (kd := kd) (base := some ⟨g, 0, none⟩) (sLen := q) (sCap := i.cap) (olds := cs) ht hk hti htz hm0 hsz hmb (by omega) (run_firstCells_some (P := P) w.drew ti.size q ⟨g, 0, none⟩ q i.cap cs hcs holds) (by omega) (growslice_fits (by omega) hb)
      simp only [builtin, Sem.run_bind, hr, Result.andThen]
      exact fresh i.cap _ rfl
end Go.Fw
