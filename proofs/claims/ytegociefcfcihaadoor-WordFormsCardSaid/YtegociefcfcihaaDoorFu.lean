/-
  Rules for function values, rows of functions, strings laid side by side.
  No condition: plain lemmas.
-/
import Derived.Test.YtegociefcfcihaaDoorFt
import Derived.Laws.Concat
set_option linter.unusedVariables false
namespace Go.Fw
open Go
variable {P : Program} {ops : Array Oper} {F : Act → World → Prop} {w0 w w' : World} {M : List Nat} {N : Nat} {L : List (Oper × K)} {σ : List (Nat × Value)} {l lS : List (Nat × Ent)} {k : K}
  {d : Option Tmp} {ty : TypeId} {p : String} {af : Array Edge} {v v1 v2 z : Value} {x y c : Operand} {t : TypeId} {b : Bool}

def FuncT (P : Program) (t : TypeId) : Prop := ∃ a b c, P.underlying t = some (.func a b c)
theorem run_equalIn_func (d : Nat) (h : FuncT P t) (f : Fn) (a c : Array Value) (w : World) : (Op.equalIn (d + 1) t (.func f a c) .nilFunc).run P w = .ok false w := by
  obtain ⟨a', b', c', h⟩ := h
  simp [Op.equalIn, run_underlying h]
theorem run_equalIn_nilFunc (d : Nat) (h : FuncT P t) (w : World) : (Op.equalIn (d + 1) t .nilFunc .nilFunc).run P w = .ok true w := by
  obtain ⟨a', b', c', h⟩ := h
  simp [Op.equalIn, run_underlying h]
theorem run_eql_func (h : FuncT P t) (f : Fn) (a c : Array Value) (w : World) : (binOp .eql t (.func f a c) .nilFunc).run P w = .ok (.bool false) w := by
  have : (Op.equal t (.func f a c) .nilFunc).run P w = .ok false w := run_equalIn_func 9999 h f a c w
  simp only [binOp]
  simp [this]
theorem run_eql_nilFunc (h : FuncT P t) (w : World) : (binOp .eql t .nilFunc .nilFunc).run P w = .ok (.bool true) w := by
  have : (Op.equal t .nilFunc .nilFunc).run P w = .ok true w := run_equalIn_nilFunc 9999 h w
  simp only [binOp]
  simp [this]
theorem J.eqFn {t' : TypeId} {f : Fn} {fs cs : Array Value} (ht : FuncT P t) (hx : ev σ x = some (.func f fs cs)) (hy : ev σ y = some .nilFunc) (hd : okd N d) (h : J P ops F w0 M N lS L (putd d (.bool false) σ) l) :
    J P ops F w0 M N lS ((⟨d, .binOp .eql t x y t', ty, p, af, none⟩, k) :: L) σ l :=
  J.eqlR hx hy hd (fun w => by rw [eqGuard_at_func]; exact run_eql_func ht f fs cs w) h
theorem J.eqFn0 {t' : TypeId} (ht : FuncT P t) (hx : ev σ x = some .nilFunc) (hy : ev σ y = some .nilFunc) (hd : okd N d) (h : J P ops F w0 M N lS L (putd d (.bool true) σ) l) :
    J P ops F w0 M N lS ((⟨d, .binOp .eql t x y t', ty, p, af, none⟩, k) :: L) σ l :=
  J.eqlR hx hy hd (fun w => by rw [eqGuard_at_nilFunc]; exact run_eql_nilFunc ht w) h

/-! ### Strings -/
theorem bstr_append (xs ys : List Nat) : bstr xs ++ bstr ys = bstr (xs ++ ys) := by
  unfold bstr
  rw [List.map_append]
  exact ByteArray.mk_append_mk _ _
theorem bstr_size (xs : List Nat) : (bstr xs).size = xs.length := by simp [bstr, ByteArray.size]
theorem J.addStr {t' : TypeId} {xs ys : List Nat} (hx : ev σ x = some (.string (bstr xs))) (hy : ev σ y = some (.string (bstr ys))) (hd : okd N d) (h63 : xs.length + ys.length ≤ 9223372036854775807) (h : J P ops F w0 M N lS L (putd d (.string (bstr (xs ++ ys))) σ) l) :
    J P ops F w0 M N lS ((⟨d, .binOp .add t x y t', ty, p, af, none⟩, k) :: L) σ l :=
  J.eqlR hx hy hd (fun w => by
    rw [eqGuard_at_string, ← bstr_append]
    exact run_string_add_sum w _ _ (by rw [bstr_size, bstr_size]; exact h63)) h

/-- What Do reckons, code by code. -/
def doS : List (Option (Nat → Nat → Nat → Nat)) := [
  none, some fun x y _ => x + y, some fun x y _ => x * y, some fun x y _ => dif x y, some fun x y _ => divN x y, some fun x y _ => sdivN x y, some fun x y _ => modN x y, some fun x y _ => smodN x y,
  some fun x y z => addmN x y z, some fun x y z => mulmN x y z, some fun x y _ => powN x y, some fun x y _ => sxN x y, none, none, none, none,
  some fun x y _ => if x % 2 ^ 256 < y % 2 ^ 256 then 1 else 0, some fun x y _ => if y % 2 ^ 256 < x % 2 ^ 256 then 1 else 0, some fun x y _ => if sltP x y then 1 else 0, some fun x y _ => if sltP y x then 1 else 0,
  some fun x y _ => if x % 2 ^ 256 = y % 2 ^ 256 then 1 else 0, some fun x _ _ => if x % 2 ^ 256 = 0 then 1 else 0, some fun x y _ => x &&& y, some fun x y _ => x ||| y, some fun x y _ => x ^^^ y, some fun x _ _ => notN x,
  some fun x y _ => byteN x y, some fun x y _ => shlN x y, some fun x y _ => shrN x y, some fun x y _ => sarN x y, some fun x _ _ => 256 - bitLen (x % 2 ^ 256)]

/-! ### Entries under other numbers -/
def sh (l : List (Nat × Ent)) : List (Nat × Ent) := l.map fun p => (1000 + p.1, p.2)
theorem lk_sh : ∀ (l : List (Nat × Ent)) (n : Nat), lk (sh l) n = if 1000 ≤ n then lk l (n - 1000) else none
  | [], n => by simp [sh, lk]
  | (k, e) :: l, n => by
    have ih := lk_sh l n
    unfold sh at ih ⊢
    rw [List.map_cons, lk_cons, ih, lk_cons]
    by_cases h : 1000 + k = n
    · subst h
      rw [if_pos rfl, if_pos (by omega), if_pos (by omega)]
    · rw [if_neg h]
      by_cases h2 : 1000 ≤ n
      · rw [if_pos h2, if_pos h2, if_neg (by omega)]
      · rw [if_neg h2, if_neg h2]
theorem WS.sh (hw : WS w0 M l w) : WS w0 M (Fw.sh l) w := by
  have key : ∀ n e, lk (Fw.sh l) n = some e → 1000 ≤ n ∧ lk l (n - 1000) = some e := fun n e h => by
    rw [lk_sh] at h
    split at h
    · exact ⟨by assumption, h⟩
    · cases h
  refine ⟨hw.os, hw.tape, hw.output, hw.size, hw.keep, fun j e h => hw.live _ e (key j e h).2, fun j j' e e' g h h' hne hg => ?_, fun j e g h hg => hw.own _ e g (key j e h).2 hg⟩
  have h1 := key j e h
  have h2 := key j' e' h'
  exact hw.apart _ _ e e' g h1.2 h2.2 (by omega) hg

/-- Cells of an entry, as cells that lay there when a call began. -/
theorem WS.csAt (hw : WS w0 M l w) {h g : Nat} {t : TypeId} {fv : Value} (he : lk l h = some ⟨some g, t, [fv]⟩) : Cs w (some ⟨g, 0, none⟩) [fv] := hw.csOf he 0 [fv] (fun i x hx => by rw [Nat.zero_add]; exact hx)
end Go.Fw
