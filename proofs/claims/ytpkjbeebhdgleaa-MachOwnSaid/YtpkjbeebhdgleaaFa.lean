/-
  Kinds of operations; what a loud one must come to; which operation must come ahead of which in a region that draws its order.
  No condition: a text of plain lemmas over the kit's 'Code.wp'.
-/
import Derived.Deep.Quiet
import Derived.Below
import Derived.Laws.Entries
import Derived.Tactics
namespace Go.Fw
open Go

/-- g, s: pure in every world that still has the stable entries; c: a call that is quiet there; q: quiet in the present class; a h: a new variable, entry h; l: loud. -/
inductive K where
  | g | q | l | s | c | a (h : Nat)

/-- May an operation of the first kind, walked ahead of one of the second, come up behind it? -/
def okPair : K → K → Bool
  | .g, _ | .s, _ | .c, _ => true
  | .q, .l => false
  | .q, _ => true
  | .a _, .g | .a _, .s | .a _, .a _ => true
  | .a _, _ => false
  | .l, _ => false

/-- What a loud operation must come to: a value and a world of which R holds. -/
def loudUpon (P : Program) (R : Value → World → Prop) : Result Next → Prop
  | .ok (.value v) w' => R v w'
  | .ok .skip w' => R undef w'
  | .ok (.enter f args) w' => Calls P f args w' (fun e w'' => ∃ v, e = .returned v ∧ R v w'')
  | _ => False

theorem loudUpon_mono {P : Program} {R R' : Value → World → Prop} (h : ∀ v w, R v w → R' v w) {r : Result Next} (hr : loudUpon P R r) : loudUpon P R' r := by
  unfold loudUpon at *
  split at hr
  · exact h _ _ hr
  · exact h _ _ hr
  · exact hr.mono fun e w'' ⟨v, he, hv⟩ => ⟨v, he, h _ _ hv⟩
  · exact hr.elim

section
variable {P : Program} {ops : Array Oper} {md : Region.Mode}

theorem loud_run {o : Oper} {a : Act} {w : World} {R : Value → World → Prop} {K' : Act → World → Prop} {Q : Exit → Act → World → Prop}
    (h : loudUpon P R ((execOp a.eval o).run P w)) (hk : ∀ v w', R v w' → K' (a.put o.dst v) w') : o.wp P a w K' Q := by
  unfold Oper.wp
  generalize (execOp a.eval o).run P w = r at *
  cases r with
  | ok n w' =>
    cases n <;> simp only [loudUpon] at h <;> simp only [Oper.upon]
    case value u => exact hk _ _ h
    case skip => exact hk _ _ h
    case enter f args => exact h.mono fun e w'' ⟨v, he, hv⟩ => by subst he; exact hk _ _ hv
  | halt x w' => simp only [loudUpon] at h

/-- Operation i must come ahead of j. -/
inductive Anc (md : Region.Mode) (ops : Array Oper) (i : Nat) : Nat → Prop
  | edge {j : Nat} {o : Oper} {e : Edge} : ops[j]? = some o → e ∈ o.after.toList → Region.binds md e = true → e.on = i → Anc md ops i j
  | step {j : Nat} {o : Oper} {e : Edge} : ops[j]? = some o → e ∈ o.after.toList → Region.binds md e = true → Anc md ops i e.on → Anc md ops i j

/-- What has come up is closed downwards. -/
def Down (md : Region.Mode) (ops : Array Oper) (listed : Array Bool) : Prop :=
  ∀ k o, listed.getD k false = true → ops[k]? = some o → ∀ e ∈ o.after.toList, Region.binds md e = true → listed.getD e.on false = true

theorem Anc.listed {i j : Nat} {listed : Array Bool} (h : Anc md ops i j) (hd : Down md ops listed) (hj : ∀ o, ops[j]? = some o → ∀ e ∈ o.after.toList, Region.binds md e = true → listed.getD e.on false = true) : listed.getD i false = true := by
  induction h with
  | edge ho he hb hon => rw [← hon]; exact hj _ ho _ he hb
  | step ho he hb _ ih => exact ih fun o' ho' e' he' hb' => hd _ _ (hj _ ho _ he hb) ho' _ he' hb'

theorem Down.set {j : Nat} {listed : Array Bool} (hd : Down md ops listed) (hj : j ∈ Region.ready md ops listed) : Down md ops (listed.setIfInBounds j true) := fun k o hk ho e he hb => by
  by_cases hjk : j = k
  · subst hjk
    obtain ⟨_, o', ho', hall⟩ := mem_ready.1 hj
    rw [ho] at ho'; cases ho'
    exact getD_set_true (hall e (by simpa using he) hb)
  · rw [getD_set_ne false hjk] at hk
    exact getD_set_true (hd k o hk ho e he hb)

def tbl : List (Nat × Nat) → Nat → Nat
  | [], _ => 0
  | (k, m) :: t, i => match Nat.beq k i with | true => m | false => tbl t i

def maskOf (md : Region.Mode) (t : List (Nat × Nat)) : List Edge → Nat
  | [] => 0
  | e :: es => match Region.binds md e with
    | true => (2 ^ e.on ||| tbl t e.on) ||| maskOf md t es
    | false => maskOf md t es

def ancs (md : Region.Mode) (ops : Array Oper) : List Nat → List (Nat × Nat) → List (Nat × Nat)
  | [], t => t
  | i :: π, t => ancs md ops π ((i, match ops[i]? with | some o => maskOf md t o.after.toList | none => 0) :: t)

def TblOk (md : Region.Mode) (ops : Array Oper) (t : List (Nat × Nat)) : Prop := ∀ i j, (tbl t j).testBit i = true → Anc md ops i j

theorem maskOf_spec {t : List (Nat × Nat)} (ht : TblOk md ops t) {j : Nat} {o : Oper} (ho : ops[j]? = some o) : ∀ (es : List Edge), (∀ e ∈ es, e ∈ o.after.toList) → ∀ i, (maskOf md t es).testBit i = true → Anc md ops i j
  | [], _, i, h => by simp [maskOf] at h
  | e :: es, hes, i, h => by
    simp only [maskOf] at h
    split at h
    · rename_i hb
      simp only [Nat.testBit_or, Bool.or_eq_true] at h
      rcases h with (h | h) | h
      · rw [Nat.testBit_two_pow] at h
        exact .edge ho (hes e List.mem_cons_self) hb (of_decide_eq_true h)
      · exact .step ho (hes e List.mem_cons_self) hb (ht _ _ h)
      · exact maskOf_spec ht ho es (fun e he => hes e (List.mem_cons_of_mem _ he)) i h
    · exact maskOf_spec ht ho es (fun e he => hes e (List.mem_cons_of_mem _ he)) i h

theorem ancs_ok : ∀ (π : List Nat) (t : List (Nat × Nat)), TblOk md ops t → TblOk md ops (ancs md ops π t)
  | [], _, ht => ht
  | i :: π, t, ht => ancs_ok π _ fun a j h => by
    simp only [tbl] at h
    split at h
    · rename_i hb
      have hij := Nat.eq_of_beq_eq_true hb
      subst hij
      cases ho : ops[i]? with
      | none => simp [ho] at h
      | some o => simp only [ho] at h; exact maskOf_spec ht ho _ (fun _ h => h) a h
    · exact ht _ _ h

theorem tblOk_nil : TblOk md ops [] := fun i j h => by simp [tbl] at h

/-- Operation i needs j. -/
def edgeB (md : Region.Mode) (ops : Array Oper) (i j : Nat) : Bool := match ops[i]? with
  | some o => o.after.toList.any fun e => Region.binds md e && Nat.beq e.on j
  | none => false
theorem edgeB_no {i j : Nat} (h : edgeB md ops i j = false) {o : Oper} (ho : ops[i]? = some o) {e : Edge} (he : e ∈ o.after.toList) (hb : Region.binds md e = true) : e.on ≠ j := by
  rintro rfl
  simp only [edgeB, ho, List.any_eq_false] at h
  exact h e he (by simp [hb])

def pairB (md : Region.Mode) (ops : Array Oper) (t : List (Nat × Nat)) (x y : Nat × K) : Bool :=
  !Nat.beq x.1 y.1 && !edgeB md ops x.1 y.1 && ((tbl t y.1).testBit x.1 || (okPair x.2 y.2 && (ops.getD x.1 default).apart ops (ops.getD y.1 default)))
/-- x stands ahead of y in the walk. -/
structure PairR (md : Region.Mode) (ops : Array Oper) (x y : Nat × K) : Prop where
  ne : x.1 ≠ y.1
  free : edgeB md ops x.1 y.1 = false
  ok : Anc md ops x.1 y.1 ∨ (okPair x.2 y.2 = true ∧ (ops.getD x.1 default).apart ops (ops.getD y.1 default) = true)

def pairsB (md : Region.Mode) (ops : Array Oper) (t : List (Nat × Nat)) : List (Nat × K) → Bool
  | [] => true
  | x :: π => π.all (fun y => pairB md ops t x y) && pairsB md ops t π
theorem pairsB_spec {t : List (Nat × Nat)} (ht : TblOk md ops t) : ∀ (π : List (Nat × K)), pairsB md ops t π = true → π.Pairwise (PairR md ops)
  | [], _ => .nil
  | x :: π, h => by
    simp only [pairsB, Bool.and_eq_true] at h
    refine .cons (fun y hy => ?_) (pairsB_spec ht π h.2)
    have := List.all_eq_true.1 h.1 y hy
    simp only [pairB, Bool.and_eq_true, Bool.not_eq_true', Bool.or_eq_true] at this
    obtain ⟨⟨h1, h2⟩, h3⟩ := this
    refine ⟨fun he => (by rw [he] at h1; simp at h1), h2, h3.imp (ht _ _) id⟩

/-- The whole test of a walk. -/
def walkB (md : Region.Mode) (ops : Array Oper) (π : List (Nat × K)) : Bool :=
  Region.noSelect ops && Nat.beq π.length ops.size && (List.range ops.size).all (fun j => (π.map (·.1)).contains j) &&
  π.all (fun x => Nat.blt x.1 ops.size && !edgeB md ops x.1 x.1) && ops.toList.all (fun o => o.after.toList.all fun e => !Region.binds md e || Nat.blt e.on ops.size) &&
  pairsB md ops (ancs md ops (π.map (·.1)) []) π

structure WalkR (md : Region.Mode) (ops : Array Oper) (π : List (Nat × K)) : Prop where
  sel : ∀ (j : Nat) (o : Oper) cs b, ops[j]? = some o → o.op ≠ .select cs b
  len : π.length = ops.size
  all : ∀ j, j < ops.size → j ∈ π.map (·.1)
  lt : ∀ x ∈ π, x.1 < ops.size ∧ edgeB md ops x.1 x.1 = false
  on : ∀ (j : Nat) (o : Oper), ops[j]? = some o → ∀ e ∈ o.after.toList, Region.binds md e = true → e.on < ops.size
  pair : π.Pairwise (PairR md ops)

theorem walkB_spec {π : List (Nat × K)} (h : walkB md ops π = true) : WalkR md ops π := by
  simp only [walkB, Bool.and_eq_true] at h
  obtain ⟨⟨⟨⟨⟨h1, h2⟩, h3⟩, h4⟩, h5⟩, h6⟩ := h
  refine ⟨Region.noSelect_spec h1, Nat.eq_of_beq_eq_true h2, fun j hj => ?_, fun x hx => ?_, fun j o ho e he hb => ?_, pairsB_spec (ancs_ok _ _ tblOk_nil) _ h6⟩
  · have := List.all_eq_true.1 h3 j (List.mem_range.2 hj)
    simpa using this
  · have := List.all_eq_true.1 h4 x hx
    simp only [Bool.and_eq_true, Bool.not_eq_true'] at this
    exact ⟨by simpa [Nat.blt_eq] using this.1, this.2⟩
  · have hm : o ∈ ops.toList := Array.mem_toList_iff.2 (Array.mem_of_getElem? ho)
    have := List.all_eq_true.1 (List.all_eq_true.1 h5 o hm) e he
    simp only [hb, Bool.not_true, Bool.false_or] at this
    simpa [Nat.blt_eq] using this
end
end Go.Fw
