/-
  One theorem for a region that draws its order: a walk in ONE order, each operation pure (g), quiet in the present class of worlds (q), quiet in a class S that never ends (s) or loud (l), serves every order that the tape may pick, if a closed test on the operations' edges holds.
  No condition: a text of plain lemmas over the kit's 'Code.wp'.
-/
import Derived.Deep.Quiet
import Derived.Below
import Derived.Laws.Entries
import Derived.Tactics
namespace Go.Fw
open Go

inductive K where
  | g | q | l | s
  deriving DecidableEq

/-- What a loud operation must come to: a value and a world of which R holds. -/
def loudUpon (P : Program) (R : Value → World → Prop) : Result Next → Prop
  | .ok (.value v) w' => R v w'
  | .ok .skip w' => R undef w'
  | .ok (.enter f args) w' => Calls P f args w' (fun e w'' => ∃ v, e = .returned v ∧ R v w'')
  | _ => False

theorem loudUpon_mono {P : Program} {R R' : Value → World → Prop} (h : ∀ v w, R v w → R' v w) {r : Result Next} (hr : loudUpon P R r) : loudUpon P R' r := by
  unfold loudUpon at *
  split at hr
  · exact h _ _ hr
  · exact h _ _ hr
  · exact hr.mono fun e w'' ⟨v, he, hv⟩ => ⟨v, he, h _ _ hv⟩
  · exact hr.elim

def stepC (P : Program) (ops : Array Oper) (S : World → Prop) (k : K) (o : Oper) (a : Act) (C : World → Prop) (next : Act → (World → Prop) → Prop) : Prop :=
  if Region.wanted o (yielded ops a.tmps) then
    match k with
    | .g => ∃ v, (∀ w, (execOp a.eval o).run P w = .ok (.value v) w) ∧ next (a.put o.dst v) C
    | .q => ∃ v, (∀ w, C w → o.quietAt P a C w v) ∧ next (a.put o.dst v) C
    | .l => ∀ w, C w → loudUpon P (fun v w' => ∃ C' : World → Prop, (C' w' ∧ ∀ w, C' w → S w) ∧ next (a.put o.dst v) C') ((execOp a.eval o).run P w)
    | .s => ∃ v, (∀ w, S w → (execOp a.eval o).run P w = .ok (.value v) w) ∧ next (a.put o.dst v) C
  else next (a.put o.dst undef) C

section
variable {P : Program} {ops : Array Oper} {md : Region.Mode} {kd : Nat → K} {F : Act → World → Prop} {S : World → Prop}

theorem quiet_run {o : Oper} {a : Act} {C : World → Prop} {w : World} {v : Value} {K' : Act → World → Prop} {Q : Exit → Act → World → Prop}
    (h : o.quietAt P a C w v) (hw : C w) (hk : ∀ w', C w' → K' (a.put o.dst v) w') : o.wp P a w K' Q := by
  unfold Oper.quietAt at h
  unfold Oper.wp
  generalize (execOp a.eval o).run P w = r at *
  cases r with
  | ok n w' =>
    cases n <;> simp only [Oper.quietUpon] at h <;> simp only [Oper.upon]
    case value u => obtain ⟨e1, e2⟩ := h; rw [e1, e2]; exact hk _ hw
    case skip => obtain ⟨e1, e2⟩ := h; rw [e1, ← e2]; exact hk _ hw
    case enter f args => obtain ⟨e1, hc⟩ := h; rw [e1]; exact hc.mono fun e w'' ⟨he, hw''⟩ => by subst he; exact hk _ hw''
  | halt x w' => simp only [Oper.quietUpon] at h

theorem loud_run {o : Oper} {a : Act} {w : World} {R : Value → World → Prop} {K' : Act → World → Prop} {Q : Exit → Act → World → Prop}
    (h : loudUpon P R ((execOp a.eval o).run P w)) (hk : ∀ v w', R v w' → K' (a.put o.dst v) w') : o.wp P a w K' Q := by
  unfold Oper.wp
  generalize (execOp a.eval o).run P w = r at *
  cases r with
  | ok n w' =>
    cases n <;> simp only [loudUpon] at h <;> simp only [Oper.upon]
    case value u => exact hk _ _ h
    case skip => exact hk _ _ h
    case enter f args => exact h.mono fun e w'' ⟨v, he, hv⟩ => by subst he; exact hk _ _ hv
  | halt x w' => simp only [loudUpon] at h

theorem stepC_mono {k : K} {o : Oper} {a : Act} {C : World → Prop} {n n' : Act → (World → Prop) → Prop} (h : ∀ a C, n a C → n' a C)
    (hs : stepC P ops S k o a C n) : stepC P ops S k o a C n' := by
  unfold stepC at *
  split
  · rename_i hw
    rw [if_pos hw] at hs
    cases k
    · obtain ⟨v, h1, h2⟩ := hs; exact ⟨v, h1, h _ _ h2⟩
    · obtain ⟨v, h1, h2⟩ := hs; exact ⟨v, h1, h _ _ h2⟩
    · exact fun w hw' => loudUpon_mono (fun v w' ⟨C', hC, hn⟩ => ⟨C', hC, h _ _ hn⟩) (hs w hw')
    · obtain ⟨v, h1, h2⟩ := hs; exact ⟨v, h1, h _ _ h2⟩
  · rename_i hw
    rw [if_neg hw] at hs
    exact h _ _ hs

theorem wpOp_of_stepC {k : K} {i : Nat} {o : Oper} {a : Act} {C : World → Prop} {n : Act → (World → Prop) → Prop} {K' : Act → World → Prop} {Q : Exit → Act → World → Prop} {w : World}
    (ho : ops[i]? = some o) (hs : stepC P ops S k o a C n) (hw : C w) (hS : ∀ w, C w → S w) (h : ∀ a' C' w', (C' w' ∧ ∀ w, C' w → S w) → n a' C' → K' a' w') : wpOp P ops Q i K' a w := by
  unfold wpOp
  simp only [ho]
  unfold stepC at hs
  split
  · rename_i hwt
    rw [if_pos hwt] at hs
    refine .inl ?_
    cases k
    · obtain ⟨v, h1, h2⟩ := hs
      simp only [Oper.wp, h1 w, Oper.upon]
      exact h _ _ _ ⟨hw, hS⟩ h2
    · obtain ⟨v, h1, h2⟩ := hs
      exact quiet_run (h1 w hw) hw fun w' hw' => h _ _ _ ⟨hw', hS⟩ h2
    · exact loud_run (hs w hw) fun v w' ⟨C', hC, hn⟩ => h _ _ _ hC hn
    · obtain ⟨v, h1, h2⟩ := hs
      simp only [Oper.wp, h1 w (hS w hw), Oper.upon]
      exact h _ _ _ ⟨hw, hS⟩ h2
  · rename_i hwt
    rw [if_neg hwt] at hs
    exact h _ _ _ ⟨hw, hS⟩ hs

def AnyC (P : Program) (ops : Array Oper) (S : World → Prop) (md : Region.Mode) (kd : Nat → K) (F : Act → World → Prop) : Nat → Array Bool → Act → (World → Prop) → Prop
  | 0, listed, a, C => Region.ready md ops listed = [] ∧ ∀ w, C w → F a w
  | f + 1, listed, a, C => (Region.ready md ops listed = [] → ∀ w, C w → F a w) ∧
      ∀ i ∈ Region.ready md ops listed, ∀ o, ops[i]? = some o → stepC P ops S (kd i) o a C (AnyC P ops S md kd F f (listed.setIfInBounds i true))

theorem wpAny_of_AnyC {Q : Exit → Act → World → Prop} (hQ : ∀ a w, F a w → Q .normal a w) : ∀ (f : Nat) (listed : Array Bool) (a : Act) (C : World → Prop), AnyC P ops S md kd F f listed a C → (∀ w, C w → S w) → ∀ w, C w → wpAny P md ops Q f listed a w
  | 0, _, _, _, h, _, w, hw => ⟨h.1, hQ _ _ (h.2 w hw)⟩
  | f + 1, listed, a, C, h, hS, w, hw => by
    refine ⟨fun h0 => hQ _ _ (h.1 h0 w hw), fun i hi => ?_⟩
    obtain ⟨_, o, ho, _⟩ := mem_ready.1 hi
    exact wpOp_of_stepC ho (h.2 i hi o ho) hw hS fun a' C' w' hw' hn => wpAny_of_AnyC hQ f _ a' C' hn hw'.2 w' hw'.1

/-- Operation 'o', of kind g or q, yields v in the frame a. -/
def YieldK (P : Program) (ops : Array Oper) (S : World → Prop) (k : K) (C : World → Prop) (o : Oper) (v : Value) (a : Act) : Prop :=
  (Region.wanted o (yielded ops a.tmps) = true ∧ (match k with
    | .g => ∀ w, (execOp a.eval o).run P w = .ok (.value v) w
    | .q => ∀ w, C w → o.quietAt P a C w v
    | .l => False
    | .s => ∀ w, S w → (execOp a.eval o).run P w = .ok (.value v) w)) ∨ (Region.wanted o (yielded ops a.tmps) = false ∧ v = undef)

theorem YieldK.of_same {k : K} {C : World → Prop} {o : Oper} {v : Value} {a a' : Act} (hy : YieldK P ops S k C o v a) (he : execOp a'.eval o = execOp a.eval o)
    (hw : Region.wanted o (yielded ops a'.tmps) = Region.wanted o (yielded ops a.tmps)) : YieldK P ops S k C o v a' := by
  unfold YieldK Oper.quietAt at *
  rw [he, hw]
  exact hy

theorem YieldK.step {k : K} {C : World → Prop} {o : Oper} {v : Value} {a : Act} (hy : YieldK P ops S k C o v a) {n : Act → (World → Prop) → Prop} (h : n (a.put o.dst v) C) : stepC P ops S k o a C n := by
  unfold stepC
  rcases hy with ⟨hw, hv⟩ | ⟨hw, rfl⟩
  · rw [if_pos hw]
    cases k
    · exact ⟨v, hv, h⟩
    · exact ⟨v, hv, h⟩
    · exact hv.elim
    · exact ⟨v, hv, h⟩
  · rw [if_neg (by rw [hw]; simp)]; exact h

theorem yieldK_of_step {k : K} (hk : k ≠ .l) {C : World → Prop} {o : Oper} {a : Act} {n : Act → (World → Prop) → Prop} (h : stepC P ops S k o a C n) : ∃ v, YieldK P ops S k C o v a ∧ n (a.put o.dst v) C := by
  unfold stepC at h
  split at h
  · rename_i hw
    cases k
    · obtain ⟨v, h1, h2⟩ := h; exact ⟨v, .inl ⟨hw, h1⟩, h2⟩
    · obtain ⟨v, h1, h2⟩ := h; exact ⟨v, .inl ⟨hw, h1⟩, h2⟩
    · exact absurd rfl hk
    · obtain ⟨v, h1, h2⟩ := h; exact ⟨v, .inl ⟨hw, h1⟩, h2⟩
  · rename_i hw
    exact ⟨undef, .inr ⟨by simpa using hw, rfl⟩, h⟩

/-- While operation i has not come up, no loud one can: F is all that can come up without it. -/
def Walled (md : Region.Mode) (ops : Array Oper) (kd : Nat → K) (i : Nat) (listed : Array Bool) : Prop :=
  ∃ G : Nat → Bool, (∀ j, listed.getD j false = true → G j = true) ∧ (∀ j o, ops[j]? = some o → j ≠ i → G j = false → ∃ e ∈ o.after, Region.binds md e = true ∧ G e.on = false) ∧
    ∀ j, kd j = .l → G j = true → listed.getD j true = true

theorem Walled.not {i j : Nat} {listed : Array Bool} (h : Walled md ops kd i listed) (hj : j ∈ Region.ready md ops listed) (hne : j ≠ i) : kd j ≠ .l := by
  intro hl
  obtain ⟨G, h1, h2, h3⟩ := h
  obtain ⟨hun, o, ho, hall⟩ := mem_ready.1 hj
  cases hg : G j with
  | true => have := h3 j hl hg; rw [this] at hun; cases hun
  | false =>
    obtain ⟨e, he, hb, hf⟩ := h2 j o ho hne hg
    have := h1 _ (hall e he hb)
    rw [this] at hf; cases hf

theorem getD_set_old {listed : Array Bool} {j k : Nat} (h : listed.getD k true = true) : (listed.setIfInBounds j true).getD k true = true := by
  by_cases hjk : j = k
  · subst hjk
    rcases Nat.lt_or_ge j listed.size with h' | h'
    · simp [h']
    · simp [Array.getD, Nat.not_lt.2 h']
  · rw [getD_set_ne true hjk]; exact h

theorem Walled.set {i j : Nat} {listed : Array Bool} (h : Walled md ops kd i listed) (hj : j ∈ Region.ready md ops listed) (hne : j ≠ i) : Walled md ops kd i (listed.setIfInBounds j true) := by
  obtain ⟨G, h1, h2, h3⟩ := h
  obtain ⟨hun, o, ho, hall⟩ := mem_ready.1 hj
  refine ⟨G, fun k hk => ?_, h2, fun k hl hg => getD_set_old (h3 k hl hg)⟩
  by_cases hjk : j = k
  · subst hjk
    cases hg : G j with
    | true => rfl
    | false =>
      obtain ⟨e, he, hb, hf⟩ := h2 j o ho hne hg
      have := h1 _ (hall e he hb)
      rw [this] at hf; cases hf
  · rw [getD_set_ne false hjk] at hk; exact h1 k hk

theorem AnyC_first {i : Nat} {oi : Oper} {v : Value} (hi : ops[i]? = some oi) (hsel : ∀ (j : Nat) (o : Oper) cs b, ops[j]? = some o → o.op ≠ .select cs b) :
    ∀ (fuel : Nat) (listed : Array Bool) (a : Act) (C : World → Prop),
      (∀ j oj, ops[j]? = some oj → j ≠ i → listed.getD j true = false → (∀ e ∈ oj.after, Region.binds md e = true → e.on ≠ i) → oi.apart ops oj = true) →
      i ∈ Region.ready md ops listed → YieldK P ops S (kd i) C oi v a → (kd i = .q → Walled md ops kd i listed) →
      AnyC P ops S md kd F fuel (listed.setIfInBounds i true) (a.put oi.dst v) C → AnyC P ops S md kd F (fuel + 1) listed a C := by
  intro fuel
  induction fuel with
  | zero =>
    intro listed a C _ hr hy _ H
    refine ⟨fun h => (by rw [h] at hr; cases hr), fun j hj o ho => ?_⟩
    by_cases hji : j = i
    · subst hji
      have : o = oi := Option.some.inj (ho.symm.trans hi)
      subst this
      exact hy.step H
    · have := ready_mono hj hji
      rw [H.1] at this
      cases this
  | succ fuel ih =>
    intro listed a C hfree hr hy hwall H
    refine ⟨fun h => (by rw [h] at hr; cases hr), fun j hj oj hoj => ?_⟩
    by_cases hji : j = i
    · subst hji
      have : oj = oi := Option.some.inj (hoj.symm.trans hi)
      subst this
      exact hy.step H
    · have h1 := H.2 j (ready_mono hj hji) oj hoj
      obtain ⟨hjun, oj', hoj', hall⟩ := mem_ready.1 hj
      have : oj' = oj := Option.some.inj (hoj'.symm.trans hoj)
      subst this
      have hnot : ∀ e ∈ oj'.after, Region.binds md e = true → e.on ≠ i := fun e he hb heq => by
        have h1 := hall e he hb
        have h0 := (mem_ready.1 hr).1
        rw [heq] at h1
        rcases Nat.lt_or_ge i listed.size with h' | h'
        · simp [h'] at h0 h1; rw [h0] at h1; cases h1
        · simp [Array.getElem?_eq_none h'] at h1
      have hap := hfree j oj' hoj hji hjun hnot
      obtain ⟨p1, p2, p3⟩ := Oper.apart_spec hap
      have hsi := fun cs b => hsel i oi cs b hi
      have hsj := fun cs b => hsel j oj' cs b hoj
      have hfree' : ∀ k ok, ops[k]? = some ok → k ≠ i → (listed.setIfInBounds j true).getD k true = false →
          (∀ e ∈ ok.after, Region.binds md e = true → e.on ≠ i) → oi.apart ops ok = true := fun k ok hk hki hun hno => by
        refine hfree k ok hk hki ?_ hno
        by_cases hjk : j = k
        · subst hjk; exact hjun
        · rw [getD_set_ne true hjk] at hun; exact hun
      have hr' := ready_mono hr (Ne.symm hji)
      have keep : ∀ (C' : World → Prop), YieldK P ops S (kd i) C' oi v a → ∀ u, YieldK P ops S (kd i) C' oi v (a.put oj'.dst u) := fun C' hy u =>
        hy.of_same (execOp_put oi hsi a oj'.dst u p3) (wanted_put oi a oj'.dst u p3)
      have go : ∀ (C' : World → Prop) (u : Value), YieldK P ops S (kd i) C' oi v a → AnyC P ops S md kd F fuel ((listed.setIfInBounds i true).setIfInBounds j true) ((a.put oi.dst v).put oj'.dst u) C' →
          AnyC P ops S md kd F (fuel + 1) (listed.setIfInBounds j true) (a.put oj'.dst u) C' := fun C' u hyC h3 =>
        ih (listed.setIfInBounds j true) (a.put oj'.dst u) C' hfree' hr' (keep C' hyC u) (fun hq => (hwall hq).set hj hji) (by
          rw [← Act.put_comm a v u p2, Array.setIfInBounds_comm _ _ hji]; exact h3)
      unfold stepC at h1 ⊢
      rw [wanted_put oj' a oi.dst v p1] at h1
      split
      · rename_i hw
        rw [if_pos hw] at h1
        have hex := execOp_put oj' hsj a oi.dst v p1
        cases hkj : kd j with
        | g =>
          rw [hkj] at h1
          obtain ⟨u, hu, hn⟩ := h1
          exact ⟨u, fun w => by have := hu w; rwa [hex] at this, go C u hy hn⟩
        | q =>
          rw [hkj] at h1
          obtain ⟨u, hu, hn⟩ := h1
          exact ⟨u, fun w hw' => by have := hu w hw'; unfold Oper.quietAt at *; rwa [hex] at this, go C u hy hn⟩
        | s =>
          rw [hkj] at h1
          obtain ⟨u, hu, hn⟩ := h1
          exact ⟨u, fun w hw' => by have := hu w hw'; rwa [hex] at this, go C u hy hn⟩
        | l =>
          rw [hkj] at h1
          cases hki : kd i with
          | s =>
            intro w hw'
            have h2 := h1 w hw'
            rw [hex] at h2
            refine loudUpon_mono (fun u w' ⟨C', hC, hn⟩ => ⟨C', hC, go C' u ?_ hn⟩) h2
            rw [hki] at hy ⊢
            exact hy
          | l => rw [hki] at hy; rcases hy with ⟨_, h⟩ | ⟨hw0, hv⟩
                 · exact h.elim
                 · intro w hw'
                   have h2 := h1 w hw'
                   rw [hex] at h2
                   exact loudUpon_mono (fun u w' ⟨C', hC, hn⟩ => ⟨C', hC, go C' u (by rw [hki]; exact .inr ⟨hw0, hv⟩) hn⟩) h2
          | q => exact absurd hkj ((hwall hki).not hj hji)
          | g =>
            intro w hw'
            have h2 := h1 w hw'
            rw [hex] at h2
            refine loudUpon_mono (fun u w' ⟨C', hC, hn⟩ => ⟨C', hC, go C' u ?_ hn⟩) h2
            rw [hki] at hy ⊢
            exact hy
      · rename_i hw
        rw [if_neg hw] at h1
        exact go C undef hy h1

/-- A list of operations with their kinds, one behind the other. -/
def Seq (P : Program) (ops : Array Oper) (S : World → Prop) (F : Act → World → Prop) : List (Oper × K) → Act → (World → Prop) → Prop
  | [], a, C => ∀ w, C w → F a w
  | (o, k) :: rest, a, C => stepC P ops S k o a C (Seq P ops S F rest)

/-- All that can come up from 'listed' on without i (in index order). -/
def grow (md : Region.Mode) (ops : Array Oper) (i : Nat) (listed : Array Bool) : Array Bool :=
  (List.range ops.size).foldl (fun G j => if j == i then G else match ops[j]? with
    | some o => if o.after.all (fun e => !Region.binds md e || G.getD e.on false) then G.setIfInBounds j true else G
    | none => G) listed

def walledB (md : Region.Mode) (ops : Array Oper) (kd : Nat → K) (i : Nat) (listed : Array Bool) : Bool :=
  let G := grow md ops i listed
  ((List.range listed.size).all fun j => !listed.getD j false || G.getD j false) &&
  ((List.range ops.size).all fun j => j == i || G.getD j false || match ops[j]? with
    | some o => o.after.any fun e => Region.binds md e && !G.getD e.on false
    | none => true) &&
  (List.range G.size).all fun j => decide (kd j ≠ .l) || !G.getD j false || listed.getD j true

theorem walledB_spec {i : Nat} {listed : Array Bool} (h : walledB md ops kd i listed = true) : Walled md ops kd i listed := by
  unfold walledB at h
  generalize grow md ops i listed = G at h
  simp only [Bool.and_eq_true] at h
  obtain ⟨⟨h1, h2⟩, h3⟩ := h
  refine ⟨fun j => G.getD j false, fun j hj => ?_, fun j o ho hne hg => ?_, fun j hl hg => ?_⟩
  · have hlt : j < listed.size := by
      rcases Nat.lt_or_ge j listed.size with h | h
      · exact h
      · simp [Array.getElem?_eq_none h] at hj
    have := List.all_eq_true.1 h1 j (List.mem_range.2 hlt)
    simpa [hj] using this
  · have hlt : j < ops.size := (Array.getElem?_eq_some_iff.1 ho).1
    have := List.all_eq_true.1 h2 j (List.mem_range.2 hlt)
    simp only [ho, Bool.or_eq_true, beq_iff_eq, hne, false_or] at this
    rcases this with h | h
    · have hg' : G.getD j false = false := hg
      rw [h] at hg'; cases hg'
    · obtain ⟨e, he, hb⟩ := Array.any_eq_true'.1 h
      simp only [Bool.and_eq_true, Bool.not_eq_true'] at hb
      exact ⟨e, he, hb.1, hb.2⟩
  · have hlt : j < G.size := by
      rcases Nat.lt_or_ge j G.size with h | h
      · exact h
      · simp [Array.getElem?_eq_none h] at hg
    have := List.all_eq_true.1 h3 j (List.mem_range.2 hlt)
    have hg' : G.getD j false = true := hg
    simpa [hl, hg'] using this

def chk (md : Region.Mode) (ops : Array Oper) (kd : Nat → K) : List Nat → Array Bool → Bool
  | [], listed => (Region.ready md ops listed).isEmpty
  | i :: π, listed => (Region.ready md ops listed).contains i && (match kd i with
      | .l => decide (Region.ready md ops listed = [i])
      | .s => Region.free md ops listed i
      | .g => Region.free md ops listed i
      | .q => Region.free md ops listed i && walledB md ops kd i listed) && chk md ops kd π (listed.setIfInBounds i true)

theorem AnyC_of_Seq (hs : Region.noSelect ops = true) : ∀ (π : List Nat) (listed : Array Bool) (a : Act) (C : World → Prop), chk md ops kd π listed = true →
    Seq P ops S F (π.map fun i => (ops.getD i default, kd i)) a C → AnyC P ops S md kd F π.length listed a C
  | [], listed, a, C, hc, h => ⟨by simpa [chk] using hc, h⟩
  | i :: π, listed, a, C, hc, h => by
    simp only [chk, Bool.and_eq_true] at hc
    obtain ⟨⟨hr, hk⟩, hc'⟩ := hc
    have hr' : i ∈ Region.ready md ops listed := by simpa using hr
    obtain ⟨hun, o, ho, hall⟩ := mem_ready.1 hr'
    have hod : ops.getD i default = o := by
      have hlt : i < ops.size := (Array.getElem?_eq_some_iff.1 ho).1
      simp only [Array.getD, hlt, dif_pos]
      exact (Array.getElem?_eq_some_iff.1 ho).2
    simp only [List.map_cons, Seq, hod] at h
    have rec_ : ∀ a' C', Seq P ops S F (π.map fun i => (ops.getD i default, kd i)) a' C' → AnyC P ops S md kd F π.length (listed.setIfInBounds i true) a' C' := fun a' C' h' => AnyC_of_Seq hs π _ a' C' hc' h'
    by_cases hl : kd i = .l
    · rw [hl] at hk h
      have hk' : Region.ready md ops listed = [i] := by simpa using hk
      refine ⟨fun h0 => (by rw [h0] at hr'; cases hr'), fun j hj oj hoj => ?_⟩
      rw [hk'] at hj
      have hji : j = i := by simpa using hj
      subst hji
      have : oj = o := Option.some.inj (hoj.symm.trans ho)
      subst this
      rw [hl]
      exact stepC_mono rec_ h
    · obtain ⟨v, hy, hn⟩ := yieldK_of_step hl h
      refine AnyC_first ho (Region.noSelect_spec hs) π.length listed a C ?_ hr' hy ?_ (rec_ _ _ hn)
      · refine Region.free_spec ho ?_
        cases hkk : kd i with
        | g => rw [hkk] at hk; exact hk
        | s => rw [hkk] at hk; exact hk
        | q => rw [hkk] at hk; simp only [Bool.and_eq_true] at hk; exact hk.1
        | l => exact absurd hkk hl
      · intro hq
        rw [hq] at hk
        simp only [Bool.and_eq_true] at hk
        exact walledB_spec hk.2

/-- A region that draws its order: one walk in the order π. -/
theorem region_draw {id : Nat} {Q : Exit → Act → World → Prop} {a : Act} {w : World} (C : World → Prop) (π : List (Nat × K)) (hm : P.follows .mixedOrders = true)
    (hB : (Region.noSelect ops && decide (π.length = ops.size) && chk .any ops (fun i => ((π.find? (fun p => p.1 == i)).map (·.2)).getD .l) (π.map (·.1)) (Array.replicate ops.size false)) = true)
    (hC : C w.drew) (hS : ∀ w, C w → S w) (L : List (Oper × K)) (hL : (π.map (·.1)).map (fun i => (ops.getD i default, ((π.find? (fun p => p.1 == i)).map (·.2)).getD .l)) = L)
    (h : Seq P ops S (fun a w => Q .normal a w) L a C) : (Code.region id ops true).wp P Q a w := by
  simp only [Bool.and_eq_true, decide_eq_true_eq] at hB
  obtain ⟨⟨hs, hlen⟩, hc⟩ := hB
  refine wp_region_any hm ?_
  have := AnyC_of_Seq (P := P) (S := S) (F := fun a w => Q .normal a w) hs (π.map (·.1)) _ a C hc (by rw [hL]; exact h)
  rw [List.length_map, hlen] at this
  exact wpAny_of_AnyC (fun _ _ h => h) _ _ _ _ this hS _ hC

theorem wpList_of_Seq {Q : Exit → Act → World → Prop} : ∀ (L : List (Oper × K)) (a : Act) (C : World → Prop) (w : World), C w → (∀ w, C w → S w) → Seq P ops S (fun a w => Q .normal a w) L a C → wpList P ops Q (L.map (·.1)) a w
  | [], _, _, w, hw, _, h => h w hw
  | (o, k) :: L, a, C, w, hw, hS, h => by
    simp only [List.map_cons, wpList]
    simp only [Seq, stepC] at h
    split
    · rename_i hwt
      rw [if_pos hwt] at h
      refine .inl ?_
      cases k
      · obtain ⟨v, h1, h2⟩ := h
        simp only [Oper.wp, h1 w, Oper.upon]
        exact wpList_of_Seq L _ _ _ hw hS h2
      · obtain ⟨v, h1, h2⟩ := h
        exact quiet_run (h1 w hw) hw fun w' hw' => wpList_of_Seq L _ _ _ hw' hS h2
      · exact loud_run (h w hw) fun v w' ⟨C', hC, hn⟩ => wpList_of_Seq L _ _ _ hC.1 hC.2 hn
      · obtain ⟨v, h1, h2⟩ := h
        simp only [Oper.wp, h1 w (hS w hw), Oper.upon]
        exact wpList_of_Seq L _ _ _ hw hS h2
    · rename_i hwt
      rw [if_neg hwt] at h
      exact wpList_of_Seq L _ _ _ hw hS h

/-- A region that goes in the text's order. -/
theorem region_text {id : Nat} {Q : Exit → Act → World → Prop} {a : Act} {w : World} (C : World → Prop) (hC : C w) (hS : ∀ w, C w → S w) (L : List (Oper × K)) (hL : L.map (·.1) = ops.toList)
    (h : Seq P ops S (fun a w => Q .normal a w) L a C) : (Code.region id ops false).wp P Q a w :=
  wp_region_list (by rw [← hL]; exact wpList_of_Seq L a C w hC hS h)
end
end Go.Fw
