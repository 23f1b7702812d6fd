/-
  A memory and the document's beside it: what one step does to both.
  No condition: plain lemmas.
-/
import Derived.Test.YtpkjbeebhdgleaaFn
set_option linter.unusedVariables false
namespace Go.Fw
open Go
section
variable {P : Program} {ops : Array Oper} {F : Act → World → Prop} {w0 w w' : World} {M : List Nat} {N : Nf} {L : List (Oper × K)} {σ : List (Nat × Value)} {l lS : List (Nat × Ent)} {d : Option Tmp} {ty : TypeId} {p : String} {af : Array Edge} {x y : Operand} {v z : Value} {t : TypeId} {kd : IntKind} {k : K}
  {tm tr tb : TypeId} {a b : Nat} {i j : RowIx} {bs cs : List Nat}

/-- Entries under other names. -/
theorem WS.ren (hw : WS w0 M l w) (l' : List (Nat × Ent)) (f : Nat → Nat) (hl : ∀ k e, lk l' k = some e → lk l (f k) = some e) (hf : ∀ k k' e e', lk l' k = some e → lk l' k' = some e' → f k = f k' → k = k') : WS w0 M l' w :=
  ⟨hw.os, hw.tape, hw.output, hw.size, hw.keep, fun k e he => hw.live _ e (hl k e he), fun k k' e e' g he he' hne hg => hw.apart _ _ e e' g (hl k e he) (hl k' e' he') (fun h => hne (hf k k' e e' he he' h)) hg, fun k e g he hg => hw.own _ e g (hl k e he) hg⟩
theorem WS.init (l : List (Nat × Ent)) (h1 : ∀ k e, lk l k = some e → e.At w) (h2 : ∀ k k' e e' g, lk l k = some e → lk l k' = some e' → k ≠ k' → e.id = some g → e'.id ≠ some g) (h3 : ∀ k e g, lk l k = some e → e.id = some g → g ∈ M) : WS w M l w :=
  ⟨rfl, rfl, rfl, Nat.le_refl _, fun _ _ _ => rfl, h1, h2, fun k e g he hg => .inr (h3 k e g he hg)⟩

def four (e0 e1 e2 e3 : Ent) (h : Nat) : List (Nat × Ent) := [(h, e0), (h + 1, e1), (h + 2, e2), (h + 3, e3)]
theorem four_lk {e0 e1 e2 e3 : Ent} {h k : Nat} {e : Ent} (hk : lk (four e0 e1 e2 e3 h) k = some e) : (k = h ∧ e = e0) ∨ (k = h + 1 ∧ e = e1) ∨ (k = h + 2 ∧ e = e2) ∨ (k = h + 3 ∧ e = e3) := by
  unfold four at hk
  rw [lk_cons, lk_cons, lk_cons, lk_cons] at hk
  split at hk
  · simp at hk; exact .inl ⟨by omega, hk.symm⟩
  · split at hk
    · simp at hk; exact .inr (.inl ⟨by omega, hk.symm⟩)
    · split at hk
      · simp at hk; exact .inr (.inr (.inl ⟨by omega, hk.symm⟩))
      · split at hk
        · simp at hk; exact .inr (.inr (.inr ⟨by omega, hk.symm⟩))
        · simp [lk] at hk
theorem four_0 {e0 e1 e2 e3 : Ent} {h : Nat} : lk (four e0 e1 e2 e3 h) h = some e0 := by unfold four; rw [lk_cons, if_pos rfl]
theorem four_1 {e0 e1 e2 e3 : Ent} {h : Nat} : lk (four e0 e1 e2 e3 h) (h + 1) = some e1 := by unfold four; rw [lk_cons, if_neg (by omega), lk_cons, if_pos rfl]
theorem four_2 {e0 e1 e2 e3 : Ent} {h : Nat} : lk (four e0 e1 e2 e3 h) (h + 2) = some e2 := by unfold four; rw [lk_cons, if_neg (by omega), lk_cons, if_neg (by omega), lk_cons, if_pos rfl]
theorem four_3 {e0 e1 e2 e3 : Ent} {h : Nat} : lk (four e0 e1 e2 e3 h) (h + 3) = some e3 := by unfold four; rw [lk_cons, if_neg (by omega), lk_cons, if_neg (by omega), lk_cons, if_neg (by omega), lk_cons, if_pos rfl]
theorem WS.fourOf (hw : WS w0 M l w) (h h' : Nat) {e0 e1 e2 e3 : Ent} (h0 : lk l h = some e0) (h1 : lk l (h + 1) = some e1) (h2 : lk l (h + 2) = some e2) (h3 : lk l (h + 3) = some e3) : WS w0 M (four e0 e1 e2 e3 h') w :=
  hw.ren _ (fun k => k + h - h') (fun k e hk => by
    rcases four_lk hk with ⟨rfl, rfl⟩ | ⟨rfl, rfl⟩ | ⟨rfl, rfl⟩ | ⟨rfl, rfl⟩
    · rw [show k + h - k = h by omega]; exact h0
    · rw [show h' + 1 + h - h' = h + 1 by omega]; exact h1
    · rw [show h' + 2 + h - h' = h + 2 by omega]; exact h2
    · rw [show h' + 3 + h - h' = h + 3 by omega]; exact h3) (fun k k' e e' hk hk' hh => by
    have q1 : h' ≤ k := by rcases four_lk hk with ⟨rfl, _⟩ | ⟨rfl, _⟩ | ⟨rfl, _⟩ | ⟨rfl, _⟩ <;> omega
    have q2 : h' ≤ k' := by rcases four_lk hk' with ⟨rfl, _⟩ | ⟨rfl, _⟩ | ⟨rfl, _⟩ | ⟨rfl, _⟩ <;> omega
    omega)

abbrev pageM (a b : Nat) (i j : RowIx) : List Nat := memM a i ++ memM b j
abbrev pageE (tm tr tb : TypeId) (a b : Nat) (i j : RowIx) (bs : List Nat) (h : Nat) : List (Nat × Ent) := four ⟨some a, tm, [i.val bs.length]⟩ (i.ent tb (rowN .u8 bs)) ⟨some b, tr, [j.val bs.length]⟩ (j.ent tb (rowN .u8 bs)) h
/-- Both lie in w. -/
def PageAt (w : World) (tm tr tb : TypeId) (a b : Nat) (i j : RowIx) (bs : List Nat) : Prop := WS w (pageM a b i j) (pageE tm tr tb a b i j bs 0) w
theorem WS.pageAt (hw : WS w0 M l w) (h : Nat) (h0 : lk l h = some ⟨some a, tm, [i.val bs.length]⟩) (h1 : lk l (h + 1) = some (i.ent tb (rowN .u8 bs))) (h2 : lk l (h + 2) = some ⟨some b, tr, [j.val bs.length]⟩) (h3 : lk l (h + 3) = some (j.ent tb (rowN .u8 bs))) : PageAt w tm tr tb a b i j bs := by
  have hf := hw.fourOf h 0 h0 h1 h2 h3
  refine WS.init _ hf.live hf.apart (fun k e g hk hg => ?_)
  rcases four_lk hk with ⟨_, rfl⟩ | ⟨_, rfl⟩ | ⟨_, rfl⟩ | ⟨_, rfl⟩
  · simp at hg; subst hg; simp
  · simp only [RowIx.ent] at hg; simp [hg]
  · simp at hg; subst hg; simp
  · simp only [RowIx.ent] at hg; simp [hg]
theorem WS.offPage (hw : WS w0 [] l w) (h : Nat) (h0 : lk l h = some ⟨some a, tm, [i.val bs.length]⟩) (h1 : lk l (h + 1) = some (i.ent tb (rowN .u8 bs))) (h2 : lk l (h + 2) = some ⟨some b, tr, [j.val bs.length]⟩) (h3 : lk l (h + 3) = some (j.ent tb (rowN .u8 bs)))
    {A : Option Addr} {xs : List Nat} (hc : Cs w0 A (rowN kd xs)) : xs ≠ [] → Off (pageM a b i j) A := by
  intro hx ad had hin
  rcases List.mem_append.1 hin with hin | hin
  · exact hw.offIn h (h + 1) h0 h1 hc hx ad had hin
  · exact hw.offIn (h + 2) (h + 3) h2 h3 hc hx ad had hin
def pageL (k n : Int) (L : Nat) : Nat := if k = 3 then growL L n else L
def PagePost (w : World) (tm tr tb : TypeId) (a b : Nat) (i j : RowIx) (L : Nat) (e : Ending) (w' : World) : Prop :=
  ∃ (i' j' : RowIx) (bs' : List Nat), MOk i' bs' ∧ MOk j' bs' ∧ bs'.length = L ∧ e = .returned (.bool true) ∧ WS w (pageM a b i j) (pageE tm tr tb a b i' j' bs' 0) w'
theorem PagePost.mk' {e : Ending} {L : Nat} (h : Nat) (i' j' : RowIx) (bs' : List Nat) (h1 : MOk i' bs') (h2 : MOk j' bs') (hL : bs'.length = L) (he : e = .returned (.bool true)) (hw : WS w (pageM a b i j) l w')
    (e0 : lk l h = some ⟨some a, tm, [i'.val bs'.length]⟩) (e1 : lk l (h + 1) = some (i'.ent tb (rowN .u8 bs'))) (e2 : lk l (h + 2) = some ⟨some b, tr, [j'.val bs'.length]⟩) (e3 : lk l (h + 3) = some (j'.ent tb (rowN .u8 bs'))) : PagePost w tm tr tb a b i j L e w' :=
  ⟨i', j', bs', h1, h2, hL, he, hw.fourOf h 0 e0 e1 e2 e3⟩
theorem J.callPage (h : Nat) {K : Nat} (h0 : lk l h = some ⟨some a, tm, [i.val bs.length]⟩) (h1 : lk l (h + 1) = some (i.ent tb (rowN .u8 bs))) (h2 : lk l (h + 2) = some ⟨some b, tr, [j.val bs.length]⟩) (h3 : lk l (h + 3) = some (j.ent tb (rowN .u8 bs)))
    (s0 : lk lS h = none) (s1 : lk lS (h + 1) = none) (s2 : lk lS (h + 2) = none) (s3 : lk lS (h + 3) = none) {f : FuncId} (hf : FnOk P f) {xs : Array Operand} {tys : Array TypeId} {args : List Value} (hx : evs σ xs.toList = some args) (hd : okd N d)
    (spec : ∀ w, WS w0 M l w → Calls P f args.toArray w (PagePost w tm tr tb a b i j K))
    (hJ : ∀ (i' j' : RowIx) (bs' : List Nat), MOk i' bs' → MOk j' bs' → bs'.length = K → J P ops F w0 M N lS L (putd d (.bool true) σ) ((h, ⟨some a, tm, [i'.val bs'.length]⟩) :: (h + 1, i'.ent tb (rowN .u8 bs')) :: (h + 2, ⟨some b, tr, [j'.val bs'.length]⟩) :: (h + 3, j'.ent tb (rowN .u8 bs')) :: l)) :
    J P ops F w0 M N lS ((⟨d, .call ⟨.value (.func f), xs, tys⟩, ty, p, af, none⟩, .l) :: L) σ l :=
  J.call hf hx hd (ι := (RowIx × RowIx) × List Nat) (fun q => MOk q.1.1 q.2 ∧ MOk q.1.2 q.2 ∧ q.2.length = K) (fun _ => .bool true) (pageM a b i j) (fun q => pageE tm tr tb a b q.1.1 q.1.2 q.2 h)
    (fun w hw => (spec w hw).mono fun e w' ⟨i', j', bs', m1, m2, m3, he, hw'⟩ => ⟨((i', j'), bs'), ⟨m1, m2, m3⟩, he, hw'.fourOf 0 h four_0 four_1 four_2 four_3⟩)
    (fun q hq g hg => by
      simp only [pageM, memM, List.mem_append, List.mem_singleton, Option.mem_toList] at hg
      rcases hg with (rfl | hg) | (rfl | hg)
      · exact ⟨h, _, _, h0, rfl, four_0⟩
      · exact ⟨h + 1, _, _, h1, hg, four_1⟩
      · exact ⟨h + 2, _, _, h2, rfl, four_2⟩
      · exact ⟨h + 3, _, _, h3, hg, four_3⟩)
    (fun q k e he => by
      rcases four_lk he with ⟨rfl, _⟩ | ⟨rfl, _⟩ | ⟨rfl, _⟩ | ⟨rfl, _⟩
      · exact s0
      · exact s1
      · exact s2
      · exact s3) (fun q hq => hJ q.1.1 q.1.2 q.2 hq.1 hq.2.1 hq.2.2)
end

/-! ### 'wrote' -/
def wrk : List (Int × Int × Int × Int × Nat) := [(3, 1, 0, 0, 0), (5, 0, 0, 0, 258), (9, 1, 30, 2, 0), (4, 0, 0, 0, 0), (7, 1, 2, 0, 0), (1, 0, 0, 0, 0)]
abbrev opw (q : Int × Int × Int × Int × Nat) : List Value := [.int .i64 q.1, .bool false, .int .i64 q.2.1, .int .i64 q.2.2.1, .int .i64 q.2.2.2.1] ++ (rowN .u64 (wl q.2.2.2.2) ++ (rowN .u64 (wl 0) ++ [.slice none 0 0]))
def wrkc : List Value := wrk.flatMap opw
def wrq (i : Nat) : Int × Int × Int × Int × Nat := wrk.getD i (0, 0, 0, 0, 0)
def wrL (i : Nat) : Nat := if i = 0 then 0 else 32
theorem wrk_all : ∀ i : Fin 6, (0 ≤ (wrq i.val).2.1 ∧ (wrq i.val).2.1 ≤ 30) ∧ (0 ≤ (wrq i.val).2.2.1 ∧ (wrq i.val).2.2.1 ≤ 30) ∧ (0 ≤ (wrq i.val).2.2.2.1 ∧ (wrq i.val).2.2.2.1 ≤ 30) ∧ pageL (wrq i.val).1 (wrq i.val).2.1 (wrL i.val) = wrL (i.val + 1) := by decide +kernel
theorem wrk_seg (i : Nat) (h : i < 6) : (wrkc.drop (i * 14)).take 14 = opw (wrq i) := by
  match i, h with
  | 0, _ => rfl
  | 1, _ => rfl
  | 2, _ => rfl
  | 3, _ => rfl
  | 4, _ => rfl
  | 5, _ => rfl
end Go.Fw
