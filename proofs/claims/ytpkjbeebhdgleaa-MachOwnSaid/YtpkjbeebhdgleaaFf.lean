/-
  Small helpers of the printed walks: numbers that do not wrap, cells of rows.
  No condition: plain lemmas.
-/
import Derived.Test.YtpkjbeebhdgleaaFe
import Derived.IntWalk
set_option linter.unusedVariables false
namespace Go.Fw
open Go
variable {P : Program} {w0 w w' : World} {M : List Nat} {N : Nf} {σ : List (Nat × Value)} {l : List (Nat × Ent)}

theorem Cs.isSome {A : Option Addr} {cs : List Value} (h : Cs w A cs) (hn : 0 < cs.length) : A.isSome = true := by
  obtain ⟨ad, ha, _⟩ := h 0 cs[0] (by simp [hn])
  simp [ha]
theorem Cs.isSomeI {kd : IntKind} {A : Option Addr} {xs : List Int} (h : Cs w A (rowI kd xs)) (hn : 0 < xs.length) : A.isSome = true := h.isSome (by rw [rowI_length]; exact hn)
theorem off_nil (A : Option Addr) : Off [] A := fun _ _ => by simp
theorem rowI_get1 (kd : IntKind) (xs : List Int) (i : Nat) (h : i < xs.length) : (rowI kd xs)[i * 1]? = some (.int kd (xs.getD i 0)) := by rw [Nat.mul_one]; exact rowI_get kd xs i h
theorem rowI_get1s (kd : IntKind) (xs : List Int) (sp : List Value) (i : Nat) (h : i < xs.length) : (rowI kd xs ++ sp)[i * 1]? = some (.int kd (xs.getD i 0)) := by
  rw [Nat.mul_one, List.getElem?_append_left (by rw [rowI_length]; exact h)]; exact rowI_get kd xs i h
theorem WS.rowCs (hw : WS w0 M l w) {k : Nat} {i : RowIx} {t : TypeId} {cs : List Value} (hl : lk l k = some (i.ent t cs)) : Cs w (hdOf i.id) cs := fun j x hx => by
  have hlt : j < cs.length := (List.getElem?_eq_some_iff.1 hx).1
  cases hid : i.id with
  | none =>
    have hat := hw.live k _ hl
    simp only [Ent.At, RowIx.ent, hid] at hat
    have : cs = [] := (List.append_eq_nil_iff.1 hat.1).1
    subst this; simp at hlt
  | some g =>
    refine ⟨⟨g, 0, none⟩, rfl, ?_⟩
    rw [add_lit', Nat.zero_add]
    have := hw.cell hl (o := j) (v := x) (by simp only [RowIx.ent]; rw [List.getElem?_append_left hlt]; exact hx)
    simpa [RowIx.ent, hid] using this
theorem WS.blkCs (hw : WS w0 M l w) {k g : Nat} {t : TypeId} {cs : List Value} (hl : lk l k = some ⟨some g, t, cs⟩) : Cs w (some ⟨g, 0, none⟩) cs := fun j x hx => by
  refine ⟨⟨g, 0, none⟩, rfl, ?_⟩
  rw [add_lit', Nat.zero_add]
  exact hw.cell hl (o := j) hx

theorem i64_ok (n : Int) (h : -9223372036854775808 ≤ n ∧ n ≤ 9223372036854775807) : IntKind.i64.wrap n = n := IntWalk.i64_in n h
theorem u64_ok (n : Int) (h : 0 ≤ n ∧ n ≤ 18446744073709551615) : IntKind.u64.wrap n = n := IntWalk.u64_in n h
theorem u8_ok (n : Int) (h : 0 ≤ n ∧ n ≤ 255) : IntKind.u8.wrap n = n := IntWalk.u8_in n h
theorem i64_quo_ok (x y : Int) (h : 0 ≤ x ∧ x ≤ 9223372036854775807 ∧ 1 ≤ y) : IntKind.i64.wrap (x.tdiv y) = x / y := IntWalk.i64_quo x y h
theorem u64_quo_ok (x y : Int) (h : 0 ≤ x ∧ x ≤ 18446744073709551615 ∧ 1 ≤ y) : IntKind.u64.wrap (x.tdiv y) = x / y := IntWalk.u64_quo x y h
theorem rem_ok (x y : Int) (h : 0 ≤ x) : x.tmod y = x % y := Int.tmod_eq_emod_of_nonneg h
theorem u8_wrap (n : Int) : IntKind.u8.wrap n = n % 256 := IntKind.wrap_u8 n
theorem u64_wrap (n : Int) : IntKind.u64.wrap n = n % 18446744073709551616 := by simp [IntKind.wrap, IntKind.bits, IntKind.signed]

variable {lS : List (Nat × Ent)} {ops : Array Oper} {F : Act → World → Prop} {L : List (Oper × K)} {Q : Exit → Act → World → Prop}
theorem WS.addNil (hw : WS w0 M l w) (k : Nat) (t : TypeId) : WS w0 M ((k, ⟨none, t, []⟩) :: l) w := by
  refine ⟨hw.os, hw.tape, hw.output, hw.size, hw.keep, fun j e he => ?_, fun j j' e e' g he he' hne hg => ?_, fun j e g he hg => ?_⟩
  · rw [lk_cons] at he
    split at he
    · simp at he; subst he; exact ⟨rfl, trivial⟩
    · exact hw.live j e he
  · rw [lk_cons] at he he'
    split at he
    · simp at he; subst he; simp at hg
    · split at he'
      · simp at he'; subst he'; simp
      · exact hw.apart j j' e e' g he he' hne hg
  · rw [lk_cons] at he
    split at he
    · simp at he; subst he; simp at hg
    · exact hw.own j e g he hg
/-- A slot's value in another spelling. -/
theorem Has.as {a : Act} (ha : Has N σ a) {t : Nat} {v v' : Value} (h : lk σ t = some v) (e : v = v') : Has N ((t, v') :: σ) a := ha.sub fun n u hn => by
  rw [lk_cons] at hn
  split at hn
  · rename_i hk; subst hk; rw [h, e]; exact hn
  · exact hn
theorem T.as {c : Code} {v : Value} (t : Nat) (v' : Value) (h : lk σ t = some v) (e : v = v') (hT : T P w0 M N Q c ((t, v') :: σ) l) : T P w0 M N Q c σ l := fun a w ha hw => hT a w (ha.as h e) hw
theorem J.as {v : Value} (t : Nat) (v' : Value) (h : lk σ t = some v) (e : v = v') (hT : J P ops F w0 M N lS L ((t, v') :: σ) l) : J P ops F w0 M N lS L σ l := fun hlS a ha => hT hlS a (ha.as h e)
/-- An entry's cells in another spelling. -/
theorem WS.asE (hw : WS w0 M l w) {k : Nat} {e e' : Ent} (h : lk l k = some e) (he : e = e') : WS w0 M ((k, e') :: l) w := hw.sub fun n u hn => by
  rw [lk_cons] at hn
  split at hn
  · rename_i hk; subst hk; rw [h, he]; exact hn
  · exact hn
theorem T.asE {c : Code} {e : Ent} (k : Nat) (e' : Ent) (h : lk l k = some e) (he : e = e') (hT : T P w0 M N Q c σ ((k, e') :: l)) : T P w0 M N Q c σ l := fun a w ha hw => hT a w ha (hw.asE h he)
theorem T.addNil {c : Code} (k : Nat) (t : TypeId) (h : T P w0 M N Q c σ ((k, ⟨none, t, []⟩) :: l)) : T P w0 M N Q c σ l := fun a w ha hw => h a w ha (hw.addNil k t)
/-- One entry alone, under another name. -/
theorem WS.only (hw : WS w0 M l w) (k k' : Nat) {e : Ent} (he : lk l k = some e) : WS w0 M [(k', e)] w := by
  refine ⟨hw.os, hw.tape, hw.output, hw.size, hw.keep, fun j e' h' => ?_, fun j j' e1 e2 g h1 h2 hne hg => ?_, fun j e' g h' hg => ?_⟩
  · rw [lk_cons] at h'; split at h'
    · simp at h'; subst h'; exact hw.live k e he
    · simp [lk] at h'
  · rw [lk_cons] at h1 h2
    split at h1 <;> split at h2
    · omega
    · simp [lk] at h2
    · simp [lk] at h1
    · simp [lk] at h1
  · rw [lk_cons] at h'; split at h'
    · simp at h'; subst h'; exact hw.own k e g he hg
    · simp [lk] at h'
theorem WS.lit (hw : WS w0 M l w) {l' : List (Nat × Ent)} (hs : Sub l' l) : WS w0 M l' w := hw.sub hs

variable {d : Option Tmp} {ty : TypeId} {p : String} {af : Array Edge}
theorem WS.rename {e : Ent} (h : WS w0 M [(0, e)] w) (k : Nat) : WS w0 M [(k, e)] w := h.only 0 k rfl
end Go.Fw
