/-
  Texts that the statement stands on, one behind the other: plain lemmas and walks of functions.
  No condition.
-/
import Derived.Scope
import Derived.Laws.Concat
import Derived.Lib.BytesEntry
import Derived.Laws.Cover3
import Derived.DeepKeys3
import Derived.ChangeSlices
import Derived.WideShapes
import Derived.ProofKit
import Derived.OpenShut
import Derived.Below
import Derived.Test.YtlllcafedekojaaGreatDoorMja
set_option linter.unusedVariables false
namespace Go.Fw
open Go

/-! ### Bytes written over -/
def putB (bs : List Nat) (o : Nat) (xs : List Nat) : List Nat := bs.take o ++ xs ++ bs.drop (o + xs.length)
theorem putB_length {bs : List Nat} {o : Nat} {xs : List Nat} (h : o + xs.length ≤ bs.length) : (putB bs o xs).length = bs.length := by
  unfold putB; rw [List.length_append, List.length_append, List.length_take, List.length_drop]; omega
theorem putB_nil (bs : List Nat) (o : Nat) : putB bs o [] = bs := by unfold putB; simp
theorem putB_dg {bs xs : List Nat} (h : Dg bs) (hx : Dg xs) (o : Nat) : Dg (putB bs o xs) := ((h.take o).append hx).append (h.drop _)
theorem put_rowN (kd : IntKind) (bs : List Nat) (sp : List Value) (o : Nat) (xs : List Nat) (h : o + xs.length ≤ bs.length) : put (rowN kd bs ++ sp) o (rowN kd xs) = rowN kd (putB bs o xs) ++ sp := by
  have hl := rowN_length kd bs
  unfold put putB
  rw [rowN_length, List.take_append_of_le_length (by omega), List.drop_append_of_le_length (by omega), rowN_append, rowN_append]
  simp [rowN, List.map_take, List.map_drop]
theorem putB_get {bs : List Nat} {o : Nat} {xs : List Nat} (h : o + xs.length ≤ bs.length) (q : Nat) : (putB bs o xs).getD q 0 = if o ≤ q ∧ q < o + xs.length then xs.getD (q - o) 0 else bs.getD q 0 := by
  have hl : (bs.take o).length = o := by rw [List.length_take]; omega
  unfold putB
  rw [List.append_assoc]
  by_cases h1 : q < o
  · rw [getD_append_left _ _ _ (by omega), getD_take _ _ _ h1, if_neg (by omega)]
  · obtain ⟨k, rfl⟩ : ∃ k, q = (bs.take o).length + k := ⟨q - o, by omega⟩
    rw [getD_append_right]
    by_cases h2 : k < xs.length
    · rw [getD_append_left _ _ _ h2, if_pos (by omega)]
      congr 1; omega
    · obtain ⟨j, rfl⟩ : ∃ j, k = xs.length + j := ⟨k - xs.length, by omega⟩
      rw [getD_append_right, if_neg (by omega), List.getD_eq_getElem?_getD, List.getElem?_drop, List.getD_eq_getElem?_getD, hl]
      congr 2; omega

/-! ### Pieces -/
def pieceE (L : Nat) (a n : Int) : Nat := if a < 0 ∨ n < 0 then 1 else if n = 0 then 0 else if n > L ∨ a > L - n then 92 else 0
def cutB (bs : List Nat) (a n : Int) : List Nat := if pieceE bs.length a n = 0 then (bs.drop a.toNat).take n.toNat else []
def pieceA (i : RowIx) (bs : List Nat) (a n : Int) : Option Addr := if cutB bs a n = [] then none else some ⟨i.id.getD 0, a.toNat, none⟩
abbrev pieceV (i : RowIx) (bs : List Nat) (a n : Int) : Value := .slice (pieceA i bs a n) (cutB bs a n).length (cutB bs a n).length
theorem pieceE_bad {L : Nat} {a n : Int} (h : a < 0 ∨ n < 0) : pieceE L a n = 1 := by unfold pieceE; rw [if_pos h]
theorem pieceE_zero {L : Nat} {a n : Int} (h : ¬ (a < 0 ∨ n < 0)) (h0 : n = 0) : pieceE L a n = 0 := by unfold pieceE; rw [if_neg h, if_pos h0]
theorem pieceE_far {L : Nat} {a n : Int} (h : ¬ (a < 0 ∨ n < 0)) (h0 : ¬ n = 0) (h2 : n > L ∨ a > L - n) : pieceE L a n = 92 := by unfold pieceE; rw [if_neg h, if_neg h0, if_pos h2]
theorem pieceE_ok {L : Nat} {a n : Int} (h : ¬ (a < 0 ∨ n < 0)) (h0 : ¬ n = 0) (h2 : ¬ (n > L ∨ a > L - n)) : pieceE L a n = 0 := by unfold pieceE; rw [if_neg h, if_neg h0, if_neg h2]
theorem pieceE_iff {L : Nat} {a n : Int} : pieceE L a n = 0 ↔ 0 ≤ a ∧ 0 ≤ n ∧ (n = 0 ∨ a + n ≤ L) := by unfold pieceE; split; omega; split; omega; split <;> omega
theorem pieceE_le (L : Nat) (a n : Int) : pieceE L a n ≤ 92 := by unfold pieceE; split; omega; split; omega; split <;> omega
theorem cutB_no {bs : List Nat} {a n : Int} (h : pieceE bs.length a n ≠ 0) : cutB bs a n = [] := by unfold cutB; rw [if_neg h]
theorem cutB_zero (bs : List Nat) (a n : Int) (h : n = 0) : cutB bs a n = [] := by subst h; unfold cutB; split <;> simp
theorem cutB_ok {bs : List Nat} {a n : Int} (h : pieceE bs.length a n = 0) : cutB bs a n = (bs.drop a.toNat).take n.toNat := by unfold cutB; rw [if_pos h]
theorem cutB_len {bs : List Nat} {a n : Int} (h : pieceE bs.length a n = 0) : (cutB bs a n).length = n.toNat := by
  rw [cutB_ok h, List.length_take, List.length_drop]
  have := pieceE_iff.1 h
  omega
theorem cutB_dg {bs : List Nat} (h : Dg bs) (a n : Int) : Dg (cutB bs a n) := by
  unfold cutB; split
  · exact (h.drop _).take _
  · exact Dg.nil
theorem cutB_le (bs : List Nat) (a n : Int) : (cutB bs a n).length ≤ bs.length := by
  unfold cutB; split
  · rw [List.length_take, List.length_drop]; omega
  · simp
theorem cutB_get {bs : List Nat} {a n : Int} (h : pieceE bs.length a n = 0) (q : Nat) (hq : q < n.toNat) : (cutB bs a n).getD q 0 = bs.getD (a.toNat + q) 0 := by
  rw [cutB_ok h, getD_take _ _ _ hq, List.getD_eq_getElem?_getD, List.getElem?_drop, List.getD_eq_getElem?_getD]
theorem cutB_all (bs : List Nat) : cutB bs 0 (bs.length : Nat) = bs := by
  have : pieceE bs.length 0 (bs.length : Nat) = 0 := pieceE_iff.2 ⟨by omega, by omega, by omega⟩
  rw [cutB_ok this]; simp
theorem pieceV_nil {i : RowIx} {bs : List Nat} {a n : Int} (h : cutB bs a n = []) : pieceV i bs a n = .slice none 0 0 := by simp [pieceV, pieceA, h]
theorem pieceV_ok {i : RowIx} {bs : List Nat} {a n : Int} (h : pieceE bs.length a n = 0) (h0 : 0 < n) : pieceV i bs a n = .slice (some ⟨i.id.getD 0, a.toNat, none⟩) n.toNat n.toNat := by
  have hl := cutB_len h
  have : cutB bs a n ≠ [] := fun e => by rw [e] at hl; simp at hl; omega
  simp [pieceV, pieceA, this, hl]
theorem cut_cs {w : World} {i : RowIx} {bs : List Nat} (h : Cs w (hdOf i.id) (rowN .u8 bs)) (a n : Int) : Cs w (pieceA i bs a n) (rowN .u8 (cutB bs a n)) := by
  unfold pieceA
  split
  · rename_i e; rw [e]; exact Cs.nil _ _
  · rename_i hne
    have hz : pieceE bs.length a n = 0 := Classical.byContradiction fun e => hne (cutB_no e)
    have hb : bs ≠ [] := fun e => hne (by rw [cutB_ok hz, e]; simp)
    have hs := h.isSomeN (List.length_pos_iff.2 hb)
    have h2 := (h.drop a.toNat).take n.toNat
    rw [cutB_ok hz]
    have e1 : rowN .u8 ((bs.drop a.toNat).take n.toNat) = ((rowN .u8 bs).drop a.toNat).take n.toNat := by simp [rowN, List.map_take, List.map_drop]
    rw [e1]
    cases hid : i.id with
    | none => rw [hid] at hs; simp [hdOf] at hs
    | some g => rw [hid] at h2; simpa [hdOf, add_lit'] using h2
def writeB (bs : List Nat) (a : Int) (xs : List Nat) : List Nat := if pieceE bs.length a (xs.length : Nat) = 0 then putB bs a.toNat xs else bs
theorem piece_fit {bs xs : List Nat} {a : Int} (h : pieceE bs.length a (xs.length : Nat) = 0) (hx : xs ≠ []) : a.toNat + xs.length ≤ bs.length := by
  have h1 := pieceE_iff.1 h
  have := List.length_pos_iff.2 hx
  omega
theorem writeB_yes {bs xs : List Nat} {a : Int} (h : pieceE bs.length a (xs.length : Nat) = 0) : writeB bs a xs = putB bs a.toNat xs := by unfold writeB; rw [if_pos h]
theorem writeB_no {bs xs : List Nat} {a : Int} (h : pieceE bs.length a (xs.length : Nat) ≠ 0) : writeB bs a xs = bs := by unfold writeB; rw [if_neg h]
theorem writeB_nil (bs : List Nat) (a : Int) : writeB bs a [] = bs := by unfold writeB; split; exact putB_nil _ _; rfl
theorem writeB_length (bs : List Nat) (a : Int) (xs : List Nat) : (writeB bs a xs).length = bs.length := by
  by_cases hx : xs = []
  · subst hx; rw [writeB_nil]
  · unfold writeB; split
    · rename_i h; exact putB_length (piece_fit h hx)
    · rfl
theorem writeB_dg {bs xs : List Nat} (h : Dg bs) (hx : Dg xs) (a : Int) : Dg (writeB bs a xs) := by
  unfold writeB; split
  · exact putB_dg h hx _
  · exact h
def moveE (L : Nat) (t f n : Int) : Nat := if t < 0 ∨ f < 0 ∨ n < 0 then 1 else if pieceE L f n ≠ 0 ∨ pieceE L t n ≠ 0 then 92 else 0
def moveB (bs : List Nat) (t f n : Int) : List Nat := if moveE bs.length t f n = 0 then writeB bs t (cutB bs f n) else bs
theorem moveB_length (bs : List Nat) (t f n : Int) : (moveB bs t f n).length = bs.length := by unfold moveB; split; exact writeB_length _ _ _; rfl
theorem moveB_dg {bs : List Nat} (h : Dg bs) (t f n : Int) : Dg (moveB bs t f n) := by
  unfold moveB; split
  · exact writeB_dg h (cutB_dg h _ _) _
  · exact h
def loadX (bs : List Nat) (a : Int) : Nat := if pieceE bs.length a 32 = 0 then vl (cutB bs a 32).reverse else 0
def growL (L : Nat) (to : Int) : Nat := if to < 0 ∨ to > 4194304 then L else max L ((to.toNat + 31) / 32 * 32)
def growE (to : Int) : Nat := if to < 0 then 1 else if to > 4194304 then 92 else 0
def growB (bs : List Nat) (to : Int) : List Nat := bs ++ List.replicate (growL bs.length to - bs.length) 0
theorem growL_ge (L : Nat) (to : Int) : L ≤ growL L to := by unfold growL; split <;> omega
theorem growB_length (bs : List Nat) (to : Int) : (growB bs to).length = growL bs.length to := by
  have := growL_ge bs.length to
  unfold growB; rw [List.length_append, List.length_replicate]; omega
theorem dg_zeros (n : Nat) : Dg (List.replicate n 0) := fun x hx => by have := List.eq_of_mem_replicate hx; omega
theorem growB_dg {bs : List Nat} (h : Dg bs) (to : Int) : Dg (growB bs to) := h.append (dg_zeros _)
theorem growB_no {bs : List Nat} {to : Int} (h : growL bs.length to = bs.length) : growB bs to = bs := by unfold growB; rw [h]; simp
def reachN (L x y : Nat) : Nat := if y % 2 ^ 256 = 0 then L else if x % 2 ^ 256 + y % 2 ^ 256 > 4194304 then 0 else max L ((x % 2 ^ 256 + y % 2 ^ 256 + 31) / 32 * 32)
def reachB (x y : Nat) : Bool := decide (y % 2 ^ 256 = 0 ∨ x % 2 ^ 256 + y % 2 ^ 256 ≤ 4194304)

/-- A memory's row. -/
structure MOk (i : RowIx) (bs : List Nat) : Prop where
  ok : i.Ok 1 bs.length
  le : bs.length ≤ 4194304
  dg : Dg bs
  mul : bs.length % 32 = 0
theorem MOk.nil : MOk RowIx.nil [] := ⟨RowIx.nil_ok 1, by simp, Dg.nil, rfl⟩
theorem MOk.write {i : RowIx} {bs xs : List Nat} (h : MOk i bs) (hx : Dg xs) (a : Int) : MOk i (writeB bs a xs) := by
  have hl := writeB_length bs a xs
  exact ⟨by rw [hl]; exact h.ok, by rw [hl]; exact h.le, writeB_dg h.dg hx a, by rw [hl]; exact h.mul⟩
theorem MOk.move {i : RowIx} {bs : List Nat} (h : MOk i bs) (t f n : Int) : MOk i (moveB bs t f n) := by
  have hl := moveB_length bs t f n
  exact ⟨by rw [hl]; exact h.ok, by rw [hl]; exact h.le, moveB_dg h.dg _ _ _, by rw [hl]; exact h.mul⟩

abbrev memM (g : Nat) (i : RowIx) : List Nat := [g] ++ i.id.toList
abbrev memE (tm tb : TypeId) (g : Nat) (i : RowIx) (bs : List Nat) : List (Nat × Ent) := [(0, ⟨some g, tm, [i.val bs.length]⟩), (1, i.ent tb (rowN .u8 bs))]
/-- A memory lies in w. -/
structure MemAt (w : World) (tm tb : TypeId) (g : Nat) (i : RowIx) (bs : List Nat) : Prop where
  obj : Ent.At w ⟨some g, tm, [i.val bs.length]⟩
  row : Ent.At w (i.ent tb (rowN .u8 bs))
  ne : i.id ≠ some g
section
variable {P : Program} {ops : Array Oper} {F : Act → World → Prop} {w0 w w' : World} {M : List Nat} {N : Nf} {L : List (Oper × K)} {σ : List (Nat × Value)} {l lS : List (Nat × Ent)} {d : Option Tmp} {ty : TypeId} {p : String} {af : Array Edge} {x y : Operand} {v z : Value} {t : TypeId} {kd : IntKind} {k : K}
  {tm tb : TypeId} {g : Nat} {i : RowIx} {bs : List Nat}

/-- Two entries alone. -/
theorem WS.two' {e1 e2 : Ent} (h1 : e1.At w) (h2 : e2.At w) (hne : ∀ g, e1.id = some g → e2.id ≠ some g) : WS w (e1.id.toList ++ e2.id.toList) [(0, e1), (1, e2)] w := by
  have key : ∀ j e, lk [(0, e1), (1, e2)] j = some e → (j = 0 ∧ e = e1) ∨ (j = 1 ∧ e = e2) := by
    intro j e h
    rw [lk_cons, lk_cons] at h
    split at h
    · simp at h; exact .inl ⟨by omega, h.symm⟩
    · split at h
      · simp at h; exact .inr ⟨by omega, h.symm⟩
      · simp [lk] at h
  refine ⟨rfl, rfl, rfl, Nat.le_refl _, fun _ _ _ => rfl, fun j e he => ?_, fun j j' e e' g' h3 h4 hn hg => ?_, fun j e g' he hg => ?_⟩
  · rcases key j e he with ⟨_, rfl⟩ | ⟨_, rfl⟩
    · exact h1
    · exact h2
  · rcases key j e h3 with ⟨rfl, rfl⟩ | ⟨rfl, rfl⟩ <;> rcases key j' e' h4 with ⟨rfl, rfl⟩ | ⟨rfl, rfl⟩
    · exact absurd rfl hn
    · exact hne g' hg
    · exact fun h => hne g' h hg
    · exact absurd rfl hn
  · rcases key j e he with ⟨_, rfl⟩ | ⟨_, rfl⟩
    · exact .inr (by simp [hg])
    · exact .inr (by simp [hg])
theorem MemAt.start (h : MemAt w tm tb g i bs) : WS w (memM g i) (memE tm tb g i bs) w :=
  WS.two' (e1 := ⟨some g, tm, [i.val bs.length]⟩) (e2 := i.ent tb (rowN .u8 bs)) h.obj h.row (fun q hq => by simp at hq; subst hq; exact h.ne)
theorem MemAt.ws (h : MemAt w0 tm tb g i bs) (hw : WS w0 [] l w) : MemAt w tm tb g i bs :=
  ⟨h.obj.same (fun q hq => hw.keep q (h.obj.lt hq) (by simp)) (fun q _ _ hm => hw.keep q (Array.getElem?_eq_some_iff.1 hm).1 (by simp)), h.row.same (fun q hq => hw.keep q (h.row.lt hq) (by simp)) (fun q _ _ hm => hw.keep q (Array.getElem?_eq_some_iff.1 hm).1 (by simp)), h.ne⟩
theorem WS.memAt (hw : WS w0 M l w) (a b : Nat) (h1 : lk l a = some ⟨some g, tm, [i.val bs.length]⟩) (h2 : lk l b = some (i.ent tb (rowN .u8 bs))) (hab : a ≠ b) : MemAt w tm tb g i bs :=
  ⟨hw.live a _ h1, hw.live b _ h2, fun e => hw.apart a b _ _ g h1 h2 hab rfl e⟩
theorem MemAt.objCs (h : MemAt w tm tb g i bs) : Cs w (some ⟨g, 0, none⟩) [i.val bs.length] := h.start.blkCs (k := 0) rfl
theorem MemAt.rowCs (h : MemAt w tm tb g i bs) : Cs w (hdOf i.id) (rowN .u8 bs) := h.start.rowCs (k := 1) rfl
theorem Cs.wsN {A : Option Addr} {xs : List Nat} (h : Cs w0 A (rowN kd xs)) (hw : WS w0 M l w) (ho : xs ≠ [] → Off M A) : Cs w A (rowN kd xs) := by
  by_cases hx : xs = []
  · subst hx; exact Cs.nil _ _
  · exact h.ws hw (ho hx)
theorem WS.offMem (hw : WS w0 M l w) (a b : Nat) (h1 : lk l a = some ⟨some g, tm, [i.val bs.length]⟩) (h2 : lk l b = some (i.ent tb (rowN .u8 bs))) (j : Nat) {e : Ent} (hj : lk l j = some e) (hja : j ≠ a) (hjb : j ≠ b) : Off (memM g i) (hdOf e.id) := by
  intro ad had hin
  cases hid : e.id with
  | none => rw [hid] at had; cases had
  | some q =>
    rw [hid] at had
    simp [hdOf] at had
    subst had
    simp only [memM, List.mem_append, List.mem_singleton, Option.mem_toList] at hin
    rcases hin with rfl | hin
    · exact hw.apart j a _ _ q hj h1 hja hid rfl
    · exact hw.apart j b _ _ q hj h2 hjb hid hin
theorem WS.offIn (hw : WS w0 [] l w) (a b : Nat) (h1 : lk l a = some ⟨some g, tm, [i.val bs.length]⟩) (h2 : lk l b = some (i.ent tb (rowN .u8 bs))) {A : Option Addr} {xs : List Nat} (hc : Cs w0 A (rowN kd xs)) : xs ≠ [] → Off (memM g i) A := by
  intro hx ad had hin
  have hp : 0 < (rowN kd xs).length := by rw [rowN_length]; exact List.length_pos_iff.2 hx
  obtain ⟨ad', ha, hcell⟩ := hc 0 ((rowN kd xs)[0]) (List.getElem?_eq_getElem hp)
  rw [had] at ha
  simp at ha; subst ha
  have hlt := World.block_lt_of_cell? _ _ hcell
  rw [Addr.add_block] at hlt
  simp only [memM, List.mem_append, List.mem_singleton, Option.mem_toList] at hin
  rcases hin with h3 | h3
  · rcases hw.own a _ g h1 rfl with h4 | h4
    · omega
    · simp at h4
  · rcases hw.own b _ _ h2 h3 with h4 | h4
    · omega
    · simp at h4
theorem memOff {A : Option Addr} (h : ∀ ad, A = some ad → ad.block ∉ memM g i) : Off (memM g i) A := h
/-- Behind a call the memory is as it must be. -/
def MemPost (w : World) (tm tb : TypeId) (g : Nat) (i : RowIx) (v : Value) (bs' : List Nat) (e : Ending) (w' : World) : Prop :=
  ∃ i' : RowIx, MOk i' bs' ∧ e = .returned v ∧ WS w (memM g i) (memE tm tb g i' bs') w'
theorem MemPost.mk' {bs' : List Nat} {e : Ending} {v' : Value} (i' : RowIx) (hm : MOk i' bs') (he : e = .returned v') (hv : v' = v) (hw : WS w (memM g i) l w') (h1 : lk l 0 = some ⟨some g, tm, [i'.val bs'.length]⟩) (h2 : lk l 1 = some (i'.ent tb (rowN .u8 bs'))) : MemPost w tm tb g i v bs' e w' :=
  ⟨i', hm, by rw [he, hv], hw.pairOf 0 1 h1 h2 (by omega) 0 1 (by omega)⟩
theorem J.callMem (a b : Nat) (hab : a ≠ b) {bs' : List Nat} (h1 : lk l a = some ⟨some g, tm, [i.val bs.length]⟩) (h2 : lk l b = some (i.ent tb (rowN .u8 bs))) (ha : lk lS a = none) (hb : lk lS b = none) {f : FuncId} (hf : FnOk P f) {xs : Array Operand} {tys : Array TypeId} {args : List Value} (hx : evs σ xs.toList = some args) (hd : okd N d)
    (spec : ∀ w, WS w0 M l w → Calls P f args.toArray w (MemPost w tm tb g i v bs'))
    (hJ : ∀ i', MOk i' bs' → J P ops F w0 M N lS L (putd d v σ) ((a, ⟨some g, tm, [i'.val bs'.length]⟩) :: (b, i'.ent tb (rowN .u8 bs')) :: l)) :
    J P ops F w0 M N lS ((⟨d, .call ⟨.value (.func f), xs, tys⟩, ty, p, af, none⟩, .l) :: L) σ l :=
  J.call hf hx hd (ι := RowIx) (fun i' => MOk i' bs') (fun _ => v) (memM g i) (fun i' => [(a, ⟨some g, tm, [i'.val bs'.length]⟩), (b, i'.ent tb (rowN .u8 bs'))])
    (fun w hw => (spec w hw).mono fun e w' ⟨i', hi, he, hw'⟩ => ⟨i', hi, he, hw'.pairOf 0 1 rfl rfl (by omega) a b hab⟩)
    (fun i' hi q hq => by
      simp only [memM, List.mem_append, List.mem_singleton, Option.mem_toList] at hq
      rcases hq with rfl | hq
      · exact ⟨a, _, _, h1, rfl, by rw [lk_cons, if_pos rfl]⟩
      · exact ⟨b, _, _, h2, hq, by rw [lk_cons, if_neg hab, lk_cons, if_pos rfl]⟩)
    (fun i' q e he => by
      rw [lk_cons, lk_cons] at he
      split at he
      · rename_i hk; subst hk; exact ha
      · split at he
        · rename_i hk; subst hk; exact hb
        · simp [lk] at he) (fun i' hi => hJ i' hi)
end

/-! ### What the calls' walks need -/
theorem testBit_hi (j : Nat) : (18446744073709551584 : Nat).testBit j = (decide (5 ≤ j) && decide (j < 64)) := by
  have e : (18446744073709551584 : Nat) = (2 ^ 59 - 1) * 2 ^ 5 := by decide
  rw [e, Nat.testBit_mul_two_pow, Nat.testBit_two_pow_sub_one]
  by_cases h : 5 ≤ j
  · simp only [h, decide_true, Bool.true_and]
    exact decide_eq_decide.2 (by omega)
  · simp [h]
theorem andNot31 (m : Nat) (h : m < 9223372036854775808) : bits .andNot .i64 (m : Int) 31 = ((m / 32 * 32 : Nat) : Int) := by
  have h1 : (BitVec.ofInt 64 (m : Int)).toNat = m := by rw [BitVec.toNat_ofInt]; omega
  have h2 : (~~~ BitVec.ofInt 64 31).toNat = 18446744073709551584 := by decide
  have key : (BitVec.ofInt 64 (m : Int) &&& ~~~ BitVec.ofInt 64 31).toNat = m / 32 * 32 := by
    rw [BitVec.toNat_and, h1, h2]
    apply Nat.eq_of_testBit_eq
    intro j
    rw [Nat.testBit_and, testBit_hi, show m / 32 * 32 = m / 2 ^ 5 * 2 ^ 5 from rfl, Nat.testBit_mul_two_pow, Nat.testBit_div_two_pow]
    by_cases hj : 5 ≤ j
    · rw [Nat.sub_add_cancel hj]
      by_cases hj2 : j < 64
      · simp [hj, hj2]
      · have : m.testBit j = false := Nat.testBit_lt_two_pow (Nat.lt_of_lt_of_le (show m < 2 ^ 63 by omega) (Nat.pow_le_pow_right (by omega) (by omega)))
        simp [this]
    · simp [hj]
  show IntKind.i64.wrap ((BitVec.ofInt 64 (m : Int) &&& ~~~ BitVec.ofInt 64 31).toNat : Nat) = _
  rw [key]
  exact wrap_nat64 _ (by omega)
theorem piece_bad' {i : RowIx} {bs : List Nat} {a n : Int} (h : a < 0 ∨ n < 0) : pieceV i bs a n = .slice none 0 0 ∧ pieceE bs.length a n = 1 := ⟨pieceV_nil (cutB_no (by rw [pieceE_bad h]; omega)), pieceE_bad h⟩
theorem piece_zero' {i : RowIx} {bs : List Nat} {a n : Int} (h : ¬ (a < 0 ∨ n < 0)) (h0 : n = 0) : pieceV i bs a n = .slice none 0 0 ∧ pieceE bs.length a n = 0 := ⟨pieceV_nil (cutB_zero _ _ _ h0), pieceE_zero h h0⟩
theorem piece_far' {i : RowIx} {bs : List Nat} {a n : Int} (h : ¬ (a < 0 ∨ n < 0)) (h0 : ¬ n = 0) (h2 : n > bs.length ∨ a > bs.length - n) : pieceV i bs a n = .slice none 0 0 ∧ pieceE bs.length a n = 92 := ⟨pieceV_nil (cutB_no (by rw [pieceE_far h h0 h2]; omega)), pieceE_far h h0 h2⟩
theorem slice_piece {i : RowIx} {bs : List Nat} {p q : Nat} (hm : MOk i bs) (h : p + q ≤ bs.length) (hq : 0 < q) : Value.slice (if p + q = p then hdOf i.id else (hdOf i.id).map (·.add (p * 1))) (p + q - p) (p + q - p) = pieceV i bs (p : Int) (q : Int) ∧ pieceE bs.length (p : Int) (q : Int) = 0 := by
  have hE : pieceE bs.length (p : Int) (q : Int) = 0 := pieceE_iff.2 ⟨by omega, by omega, by omega⟩
  refine ⟨?_, hE⟩
  rw [pieceV_ok hE (by omega), if_neg (by omega)]
  have hs := hm.ok.some (by omega)
  cases hid : i.id with
  | none => rw [hid] at hs; simp at hs
  | some g => simp [hdOf, add_lit']
/-- What a write takes of its bytes, and where. -/
def wN (bs : List Nat) (a : Int) (xs : List Nat) : List Nat := if pieceE bs.length a (xs.length : Nat) = 0 then xs else []
def wO (bs : List Nat) (a : Int) (xs : List Nat) : Nat := if wN bs a xs = [] then 0 else a.toNat
theorem wN_dg {bs xs : List Nat} {a : Int} (h : Dg xs) : Dg (wN bs a xs) := by unfold wN; split; exact h; exact Dg.nil
theorem wN_min (bs xs : List Nat) (a : Int) : min xs.length (cutB bs a (xs.length : Nat)).length = (wN bs a xs).length := by
  unfold wN; split
  · rename_i h; rw [cutB_len h]; simp
  · rename_i h; rw [cutB_no h]; simp
theorem wN_fit (bs xs : List Nat) (a : Int) : wO bs a xs + (wN bs a xs).length ≤ bs.length := by
  unfold wO; split
  · rename_i h; rw [h]; simp
  · rename_i h
    unfold wN at h ⊢
    split at h
    · rename_i hE; rw [if_pos hE]; exact piece_fit hE h
    · exact absurd rfl h
theorem wN_addr {bs xs : List Nat} {a : Int} {i : RowIx} (h : rowN .u8 (wN bs a xs) ≠ []) : pieceA i bs a (xs.length : Nat) = some ⟨i.id.getD 0, wO bs a xs, none⟩ := by
  have h0 : wN bs a xs ≠ [] := fun e => h (by rw [e]; rfl)
  have hl := wN_min bs xs a
  have : cutB bs a (xs.length : Nat) ≠ [] := fun e => h0 (List.eq_nil_of_length_eq_zero (by rw [e] at hl; simpa using hl.symm))
  unfold pieceA wO; rw [if_neg this, if_neg h0]
theorem wN_cs {w : World} {A : Option Addr} {bs xs : List Nat} {a : Int} (h : Cs w A (rowN .u8 xs)) : Cs w A (rowN .u8 (wN bs a xs)) := by unfold wN; split; exact h; exact Cs.nil _ _
theorem wN_put (bs xs : List Nat) (a : Int) (sp : List Value) : put (rowN .u8 bs ++ sp) (wO bs a xs) (rowN .u8 (wN bs a xs)) = rowN .u8 (writeB bs a xs) ++ sp := by
  rw [put_rowN _ _ _ _ _ (wN_fit bs xs a)]
  congr 2
  unfold wO
  split
  · rename_i h
    rw [h, putB_nil]
    unfold wN at h
    split at h
    · subst h; rw [writeB_nil]
    · rename_i hE; rw [writeB_no hE]
  · rename_i h
    unfold wN at h ⊢
    split at h
    · rename_i hE; rw [if_pos hE, writeB_yes hE]
    · exact absurd rfl h
theorem MOk.grow {i i' : RowIx} {bs : List Nat} {u : Int} (h : MOk i bs) (h2 : i'.Ok 1 (growB bs u).length) : MOk i' (growB bs u) := by
  have hl := growB_length bs u
  have h1 := h.le
  have h3 := h.mul
  refine ⟨h2, ?_, growB_dg h.dg u, ?_⟩ <;> (rw [hl]; unfold growL; split <;> omega)
theorem grow_no {bs : List Nat} {u : Int} (h : u < 0 ∨ u > 4194304 ∨ (u.toNat + 31) / 32 * 32 ≤ bs.length) : growB bs u = bs := growB_no (by unfold growL; split <;> omega)
theorem grow_yes {bs : List Nat} {k q : Nat} (hk : k ≤ 4194304) (h : (k + 31) / 32 * 32 = bs.length + q) : growB bs (k : Int) = bs ++ List.replicate q 0 := by
  unfold growB growL
  rw [if_neg (by omega)]
  congr 2; simp; omega
theorem sumN_two (x y : Nat) : sumN [x, y] = x % 2 ^ 256 + y % 2 ^ 256 := by simp [sumN]
theorem putB_step {bs xs : List Nat} {p k : Nat} (hk : k < xs.length) (h : p + xs.length ≤ bs.length) : (putB bs p (xs.take k)).set (p + k) (xs.getD k 0) = putB bs p (xs.take (k + 1)) := by
  have hl1 : (xs.take k).length = k := by rw [List.length_take]; omega
  have hl2 : (xs.take (k + 1)).length = k + 1 := by rw [List.length_take]; omega
  have e1 : (putB bs p (xs.take k)).length = bs.length := putB_length (by omega)
  have e2 : (putB bs p (xs.take (k + 1))).length = bs.length := putB_length (by omega)
  refine ext_getD (by rw [List.length_set, e1, e2]) (fun q hq => ?_)
  rw [getD_set _ _ _ _ (by omega), putB_get (by omega), putB_get (by omega), hl1, hl2]
  by_cases h1 : p + k = q
  · subst h1
    rw [if_pos rfl, if_pos (by omega), show p + k - p = k by omega, getD_take _ _ _ (by omega)]
  · rw [if_neg h1]
    by_cases h2 : p ≤ q ∧ q < p + k
    · rw [if_pos h2, if_pos (by omega), getD_take _ _ _ (by omega), getD_take _ _ _ (by omega)]
    · rw [if_neg h2, if_neg (by omega)]
theorem moveE_bad {L : Nat} {t f n : Int} (h : t < 0 ∨ f < 0 ∨ n < 0) : moveE L t f n = 1 := by unfold moveE; rw [if_pos h]
theorem moveE_far {L : Nat} {t f n : Int} (h : ¬ (t < 0 ∨ f < 0 ∨ n < 0)) (h2 : pieceE L f n ≠ 0 ∨ pieceE L t n ≠ 0) : moveE L t f n = 92 := by unfold moveE; rw [if_neg h, if_pos h2]
theorem moveE_ok {L : Nat} {t f n : Int} (h : ¬ (t < 0 ∨ f < 0 ∨ n < 0)) (h1 : pieceE L f n = 0) (h2 : pieceE L t n = 0) : moveE L t f n = 0 := by unfold moveE; rw [if_neg h, if_neg (by omega)]
theorem moveB_no {bs : List Nat} {t f n : Int} (h : moveE bs.length t f n ≠ 0) : moveB bs t f n = bs := by unfold moveB; rw [if_neg h]
theorem moveB_yes {bs : List Nat} {t f n : Int} (h : moveE bs.length t f n = 0) : moveB bs t f n = writeB bs t (cutB bs f n) := by unfold moveB; rw [if_pos h]
theorem move_pos {L : Nat} {t f n : Int} (h : ¬ (t < 0 ∨ f < 0 ∨ n < 0)) (h2 : pieceE L f n ≠ 0) : pieceE L f n = 92 := by
  unfold pieceE at h2 ⊢
  rw [if_neg (by omega)] at h2 ⊢
  split
  · rename_i h3; rw [if_pos h3] at h2; exact absurd rfl h2
  · rename_i h3
    rw [if_neg h3] at h2
    split
    · rfl
    · rename_i h4; rw [if_neg h4] at h2; exact absurd rfl h2
theorem loadX_yes {bs : List Nat} {a : Int} (h : pieceE bs.length a 32 = 0) : (if (cutB bs a 32).length ≤ 32 then vl (cutB bs a 32).reverse else 0) = loadX bs a ∧ (if (cutB bs a 32).length ≤ 32 then 0 else 2) = 0 := by
  have := cutB_len h
  rw [if_pos (by simp at this; omega), if_pos (by simp at this; omega)]
  unfold loadX
  rw [if_pos h]
  exact ⟨rfl, rfl⟩
theorem loadX_no {bs : List Nat} {a : Int} (h : pieceE bs.length a 32 ≠ 0) : loadX bs a = 0 := by unfold loadX; rw [if_neg h]
theorem reach_none {L x y : Nat} (h : y % 2 ^ 256 = 0) : reachN L x y = L ∧ reachB x y = true := by
  unfold reachN reachB; rw [if_pos h, decide_eq_true (Or.inl h)]; exact ⟨rfl, rfl⟩
theorem reach_far {L x y : Nat} (h : ¬ y % 2 ^ 256 = 0) (h2 : x % 2 ^ 256 + y % 2 ^ 256 > 4194304) : reachN L x y = 0 ∧ reachB x y = false := by
  unfold reachN reachB; rw [if_neg h, if_pos h2, decide_eq_false (by omega)]; exact ⟨rfl, rfl⟩
theorem reach_ok {L x y : Nat} (h : ¬ y % 2 ^ 256 = 0) (h2 : ¬ x % 2 ^ 256 + y % 2 ^ 256 > 4194304) : reachN L x y = max L ((x % 2 ^ 256 + y % 2 ^ 256 + 31) / 32 * 32) ∧ reachB x y = true := by
  unfold reachN reachB; rw [if_neg h, if_neg h2, decide_eq_true (by omega)]; exact ⟨rfl, rfl⟩
section
variable {w0 : World} {M : List Nat} {N : Nf} {σ : List (Nat × Value)} {l : List (Nat × Ent)} {Q : Exit → Act → World → Prop}
theorem X.addNil {u : Exit} (k : Nat) (t : TypeId) (h : X w0 M N Q u σ ((k, ⟨none, t, []⟩) :: l)) : X w0 M N Q u σ l := fun a w ha hw => h a w ha (hw.addNil k t)
end

/-! ### A literal row of words -/
theorem put_cons (cs : List Value) (o : Nat) (v : Value) (vs : List Value) (h : o + vs.length < cs.length) : put (cs.set o v) (o + 1) vs = put cs o (v :: vs) := by
  unfold put
  rw [List.take_add_one, List.take_set_of_le (Nat.le_refl o), List.length_cons, Nat.add_assoc, Nat.add_comm 1, ← Nat.add_assoc o, List.drop_set_of_lt (by omega)]
  simp [show o < cs.length by omega]
theorem fold_put (o : Nat) : ∀ (vs : List Value) (k : Nat) (arr : Array Value), o + k + vs.length ≤ arr.size →
    (vs.zipIdx k).foldl (fun cs (q : Value × Nat) => cs.setIfInBounds (o + q.2) q.1) arr = (put arr.toList (o + k) vs).toArray
  | [], k, arr, h => by simp [put]
  | v :: vs, k, arr, h => by
    simp only [List.length_cons] at h
    rw [List.zipIdx_cons, List.foldl_cons, fold_put o vs (k + 1) _ (by simp; omega)]
    congr 1
    simp only [Array.toList_setIfInBounds]
    rw [← Nat.add_assoc]
    have ha : arr.toList.length = arr.size := Array.length_toList
    exact put_cons _ _ _ _ (by omega)
theorem put_put (cs : List Value) (o : Nat) (us vs : List Value) (h : o + us.length + vs.length ≤ cs.length) : put (put cs o us) (o + us.length) vs = put cs o (us ++ vs) := by
  have h1 : (cs.take o ++ us).length = o + us.length := by rw [List.length_append, List.length_take]; omega
  unfold put
  rw [List.take_append_of_le_length (by omega), List.take_of_length_le (by omega), List.length_append, List.drop_append, List.drop_drop, h1, List.drop_of_length_le (by rw [h1]; omega)]
  simp only [List.nil_append, List.append_assoc]
  congr 4
  omega
theorem put_length (cs : List Value) (o : Nat) (us : List Value) (h : o + us.length ≤ cs.length) : (put cs o us).length = cs.length := by
  unfold put; rw [List.length_append, List.length_append, List.length_take, List.length_drop]; omega
theorem fill_words : ∀ (xs : List Nat) (k : Nat) (arr : Array Value), (k + xs.length) * 4 ≤ arr.size →
    Instr.fill (fun i => some (i * 4, 4)) arr ((xs.zipIdx k).map fun q => (q.2, W q.1)) = some (put arr.toList (k * 4) (rowW xs)).toArray
  | [], k, arr, h => by unfold Instr.fill; simp [put, rowW]
  | x :: xs, k, arr, h => by
    simp only [List.length_cons] at h
    rw [List.zipIdx_cons, List.map_cons]
    unfold Instr.fill
    dsimp only
    have hf := fold_put (k * 4) (wc x) 0 arr (by rw [wc_length]; omega)
    rw [Nat.add_zero] at hf
    have hs : (W x).cells = (wc x).toArray := rfl
    have ha : arr.toList.length = arr.size := Array.length_toList
    split
    · rename_i h0; simp [hs, wc_length] at h0; omega
    · rw [hs, ← Array.foldl_toList, Array.toList_zipIdx, hf, fill_words xs (k + 1) _ (by rw [List.size_toArray, put_length _ _ _ (by rw [wc_length]; omega)]; omega)]
      congr 2
      have := put_put arr.toList (k * 4) (wc x) (rowW xs) (by rw [wc_length, rowW_length]; omega)
      rw [wc_length] at this
      rw [show (k + 1) * 4 = k * 4 + 4 by omega]
      exact this
section
variable {P : Program} {ops : Array Oper} {F : Act → World → Prop} {w0 : World} {M : List Nat} {N : Nf} {L : List (Oper × K)} {σ : List (Nat × Value)} {l lS : List (Nat × Ent)} {d : Option Tmp} {ty : TypeId} {p : String} {af : Array Edge} {t : TypeId} {z : Value}
theorem J.litWs (h : Nat) (hh : lk lS h = none) (xs : List Nat) {e bytes len : Nat} {parts : Array (Nat × Operand)} (ht : P.underlying t = some (.slice e)) (he : ElT P e 4 bytes z) (h0 : 0 < xs.length) (hl : xs.length = len) (hsz : len * 4 ≤ 16777216) (hx : evp σ parts.toList = some ((xs.zipIdx 0).map fun q => (q.2, W q.1))) (hd : okd N d)
    (hJ : ∀ g, w0.heap.size ≤ g → J P ops F w0 M N lS L (putd d (.slice (some ⟨g, 0, none⟩) len len) σ) ((h, ⟨some g, e, rowW xs⟩) :: l)) :
    J P ops F w0 M N lS ((⟨d, .buildSlice t len parts, ty, p, af, none⟩, .l) :: L) σ l :=
  J.buildSlice h hh hx hd (rowW xs) (fun w => by
    subst hl
    have h1 : ¬ (xs.length * 4 > 2 ^ 24) := by simp; omega
    have h2 : ¬ (xs.length * 4 = 0) := by omega
    obtain ⟨ti, hti, htz, hts, htb⟩ := he.open
    have hz : ZeroT P e z := by simp [ZeroT, hti, htz]
    have hf := fill_words xs 0 ((Array.range (xs.length * 4)).map (fun i => z.cells[i % z.cells.size]!)) (by simp)
    rw [Nat.zero_mul, put_all _ _ (by rw [rowW_length, Array.length_toList]; simp)] at hf
    simp only [Instr.buildSlice, Sem.run_bind, run_underlying ht, Result.andThen, run_sizeOf he.sizeT, h1, if_false, h2, run_zeroValue hz, Sem.run_pure, hf, newRow, run_newObj]
    rfl) hJ
end

section
variable {P : Program} {w0 : World} {M : List Nat} {N : Nf} {L : List (Oper × K)} {σ : List (Nat × Value)} {l lS : List (Nat × Ent)} {k : K}
/-- A guard that was not reckoned itself. -/
theorem J.noU {ops : Array Oper} {F : Act → World → Prop} {d : Option Tmp} {op : Op} {ty : TypeId} {p : String} {af : Array Edge} {j t : Nat} {b : Bool}
    (ht : (ops[j]?).bind (·.dst) = some t) (hb : lk σ t = some undef) (hd : okd N d)
    (h : J P ops F w0 M N lS L (putd d undef σ) l) : J P ops F w0 M N lS ((⟨d, op, ty, p, af, some (j, b)⟩, k) :: L) σ l := fun hlS a ha => by
  have hw : Region.wanted ⟨d, op, ty, p, af, some (j, b)⟩ (yielded ops a.tmps) = false := by
    have h1 := ha.get t _ hb
    simp only [Region.wanted, yielded, ht, Option.bind_some, h1]
    cases b <;> rfl
  simp only [JJ, stepW, hw]
  exact h hlS _ (ha.putd hd undef)
end
end Go.Fw
set_option linter.unusedVariables false
namespace Go.Fw
open Go
variable {P : Program} {w0 w w' W : World} {M : List Nat} {l l1 : List (Nat × Ent)} {n : Nat} {B B0 I : List (Option Nat)}
/-- The entries of a snapshot have keys from here on. -/
def snapE (W : World) (n0 : Nat) (I : List (Option Nat)) (g : Nat) : Option (Nat × Ent) :=
  if g < n0 ∨ some g ∈ I then none else match W.heap[g]? with
    | some (.cells c t (0, 0)) => some (1000000 + g, ⟨some g, t, c.toList⟩)
    | _ => none
def snapL (W : World) (n0 : Nat) (I : List (Option Nat)) : List (Nat × Ent) := (List.range W.heap.size).filterMap (snapE W n0 I)
theorem snapE_some {W : World} {n0 g k : Nat} {I : List (Option Nat)} {e : Ent} (h : snapE W n0 I g = some (k, e)) : k = 1000000 + g ∧ n0 ≤ g ∧ some g ∉ I ∧ e.id = some g ∧ e.At W := by
  unfold snapE at h
  split at h
  · cases h
  · rename_i hg
    split at h
    · rename_i c t hc
      cases h
      refine ⟨rfl, by omega, fun q => hg (.inr q), rfl, Ent.at_cells (by simpa using hc)⟩
    · cases h
theorem lk_mem {α : Type} : ∀ {l : List (Nat × α)} {k : Nat} {v : α}, lk l k = some v → (k, v) ∈ l
  | [], k, v, h => by simp [lk] at h
  | (j, u) :: l, k, v, h => by
    rw [lk_cons] at h
    split at h
    · rename_i hk; subst hk; cases h; exact List.mem_cons_self
    · exact List.mem_cons_of_mem _ (lk_mem h)
theorem lk_snap {n0 k : Nat} {e : Ent} (h : lk (snapL W n0 I) k = some e) : ∃ g, k = 1000000 + g ∧ n0 ≤ g ∧ some g ∉ I ∧ e.id = some g ∧ e.At W := by
  have := lk_mem h
  simp only [snapL, List.mem_filterMap] at this
  obtain ⟨g, _, hg⟩ := this
  obtain ⟨h1, h2, h3, h4, h5⟩ := snapE_some hg
  exact ⟨g, h1, h2, h3, h4, h5⟩
theorem lk_filterMap {f : Nat → Option (Nat × Ent)} (hf : ∀ g k e, f g = some (k, e) → k = 1000000 + g) : ∀ (xs : List Nat) (g : Nat) (e : Ent), g ∈ xs → f g = some (1000000 + g, e) → lk (xs.filterMap f) (1000000 + g) = some e
  | [], g, e, h, _ => by cases h
  | x :: xs, g, e, h, hg => by
    rw [List.filterMap_cons]
    by_cases hx : x = g
    · subst hx; rw [hg, lk_cons, if_pos rfl]
    · have h : g ∈ xs := by
        rcases List.mem_cons.1 h with h | h
        · exact absurd h.symm hx
        · exact h
      cases hfx : f x with
      | none => exact lk_filterMap hf xs g e h hg
      | some p =>
        obtain ⟨k, e'⟩ := p
        have := hf x k e' hfx
        rw [lk_cons, if_neg (by omega)]
        exact lk_filterMap hf xs g e h hg
theorem snap_lk {n0 g : Nat} {c : Array Value} {t : TypeId} (h1 : n0 ≤ g) (h2 : some g ∉ I) (h : W.heap[g]? = some (.cells c t (0, 0))) : lk (snapL W n0 I) (1000000 + g) = some ⟨some g, t, c.toList⟩ := by
  refine lk_filterMap (fun g k e hg => (snapE_some hg).1) _ _ _ (List.mem_range.2 (Array.getElem?_eq_some_iff.1 h).1) ?_
  unfold snapE
  rw [if_neg (fun q => q.elim (fun q => by omega) h2), h]
  rfl
/-- One's own entries: keys below a snapshot's, each once. -/
def keysB : List (Nat × Ent) → Bool
  | [] => true
  | (k, _) :: l => Nat.blt k 1000000 && !(l.any fun p => Nat.beq p.1 k) && keysB l
def ids : List (Nat × Ent) → List (Option Nat)
  | [] => []
  | (_, e) :: l => e.id :: ids l
theorem keysB_lk : ∀ {l : List (Nat × Ent)} {k : Nat} {e : Ent}, keysB l = true → lk l k = some e → k < 1000000 ∧ e.id ∈ ids l
  | [], k, e, _, h => by simp [lk] at h
  | (j, u) :: l, k, e, hb, h => by
    simp only [keysB, Bool.and_eq_true] at hb
    rw [lk_cons] at h
    split at h
    · rename_i hk; subst hk; cases h; exact ⟨by simpa [Nat.blt_eq] using hb.1.1, List.mem_cons_self⟩
    · have := keysB_lk hb.2 h; exact ⟨this.1, List.mem_cons_of_mem _ this.2⟩
theorem lk_none {α : Type} : ∀ {l : List (Nat × α)} {k : Nat}, (l.any fun p => Nat.beq p.1 k) = false → lk l k = none
  | [], k, _ => rfl
  | (j, u) :: l, k, h => by
    simp only [List.any_cons, Bool.or_eq_false_iff] at h
    rw [lk_cons, if_neg (by intro q; subst q; simp at h)]
    exact lk_none h.2
theorem ids_lk : ∀ {l : List (Nat × Ent)} {o : Option Nat}, keysB l = true → o ∈ ids l → ∃ k e, lk l k = some e ∧ e.id = o
  | [], o, _, h => by cases h
  | (j, u) :: l, o, hb, h => by
    simp only [keysB, Bool.and_eq_true] at hb
    rcases List.mem_cons.1 h with h | h
    · exact ⟨j, u, by rw [lk_cons, if_pos rfl], h.symm⟩
    · obtain ⟨k, e, h1, h2⟩ := ids_lk hb.2 h
      refine ⟨k, e, ?_, h2⟩
      rw [lk_cons, if_neg (by
        intro q; subst q
        have := lk_none (l := l) (k := j) (by simpa using hb.1.2)
        rw [this] at h1; cases h1)]
      exact h1
theorem WS.snap (hw : WS w0 M l w) (hs : Sub l1 l) (hk : keysB l1 = true) : WS w0 M (l1 ++ snapL w w0.heap.size (ids l1)) w := by
  have hw1 := hw.sub hs
  refine ⟨hw.os, hw.tape, hw.output, hw.size, hw.keep, fun j e he => ?_, fun j j' e e' g he he' hne hg hg' => ?_, fun j e g he hg => ?_⟩
  · rw [lk_append] at he
    cases hj : lk l1 j with
    | some u => rw [hj] at he; cases he; exact hw1.live j _ hj
    | none =>
      rw [hj] at he
      obtain ⟨g, _, _, _, h4, h5⟩ := lk_snap (by simpa using he)
      exact h5
  · rw [lk_append] at he he'
    cases hj : lk l1 j with
    | some u =>
      rw [hj] at he; cases he
      cases hj' : lk l1 j' with
      | some u' => rw [hj'] at he'; cases he'; exact hw1.apart j j' _ _ g hj hj' hne hg hg'
      | none =>
        rw [hj'] at he'
        obtain ⟨g2, _, _, h3, h4, _⟩ := lk_snap (by simpa using he')
        rw [h4] at hg'; cases hg'
        exact h3 (hg ▸ (keysB_lk hk hj).2)
    | none =>
      rw [hj] at he
      obtain ⟨g2, h1, _, h3, h4, _⟩ := lk_snap (by simpa using he)
      rw [h4] at hg; cases hg
      cases hj' : lk l1 j' with
      | some u' => rw [hj'] at he'; cases he'; exact h3 (hg' ▸ (keysB_lk hk hj').2)
      | none =>
        rw [hj'] at he'
        obtain ⟨g3, h1', _, _, h4', _⟩ := lk_snap (by simpa using he')
        rw [h4'] at hg'; cases hg'
        omega
  · rw [lk_append] at he
    cases hj : lk l1 j with
    | some u => rw [hj] at he; cases he; exact hw1.own j _ g hj hg
    | none =>
      rw [hj] at he
      obtain ⟨g2, _, h2, _, h4, _⟩ := lk_snap (by simpa using he)
      rw [h4] at hg; cases hg
      exact .inl h2
/-! ### Cells that fit -/
/-- The cells cs lie from A on, in blocks that are none of B, and plain ones if not older than n. -/
def Fit (W : World) (n : Nat) (B : List (Option Nat)) (A : Option Addr) (cs : List Value) : Prop :=
  ∀ i x, cs[i]? = some x → ∃ ad, A = some ad ∧ W.cell? (ad.add i) = some x ∧ some ad.block ∉ B ∧ (n ≤ ad.block → ∃ c t, W.heap[ad.block]? = some (.cells c t (0, 0)))
def Keep (W : World) (n : Nat) (B : List (Option Nat)) (w : World) (B' : List (Option Nat)) : Prop := ∀ A cs, Fit W n B A cs → Fit w n B' A cs
theorem Fit.keep {A : Option Addr} {cs : List Value} {B' : List (Option Nat)} (h : Fit W n B A cs) (k : Keep W n B w B') : Fit w n B' A cs := k _ _ h
theorem Keep.trans {w1 w2 w3 : World} {B1 B2 B3 : List (Option Nat)} (h : Keep w1 n B1 w2 B2) (h2 : Keep w2 n B2 w3 B3) : Keep w1 n B1 w3 B3 := fun A cs hf => h2 _ _ (h _ _ hf)
theorem Keep.less {B' : List (Option Nat)} (h : ∀ o ∈ B', o ∈ B) : Keep W n B W B' := fun A cs hf i x hx => by
  obtain ⟨ad, h1, h2, h3, h4⟩ := hf i x hx
  exact ⟨ad, h1, h2, fun q => h3 (h _ q), h4⟩
theorem Fit.cs {A : Option Addr} {cs : List Value} (h : Fit W n B A cs) : Cs W A cs := fun i x hx => by
  obtain ⟨ad, h1, h2, _⟩ := h i x hx
  exact ⟨ad, h1, h2⟩
theorem Fit.nil {A : Option Addr} : Fit W n B A [] := fun i x hx => by simp at hx
theorem Fit.isSome {A : Option Addr} {cs : List Value} (h : Fit W n B A cs) (h0 : 0 < cs.length) : A.isSome = true := h.cs.isSome h0
theorem Fit.old {A : Option Addr} {cs : List Value} (h : Cs W A cs) (hB : ∀ g, some g ∈ B → W.heap.size ≤ g) : Fit W W.heap.size B A cs := fun i x hx => by
  obtain ⟨ad, h1, h2⟩ := h i x hx
  have hlt := World.block_lt_of_cell? _ _ h2
  rw [Addr.add_block] at hlt
  exact ⟨ad, h1, h2, fun q => by have := hB _ q; omega, fun q => by omega⟩
/-- What fitted in the snapshot's world fits on. -/
theorem keep_snap (hW : WS w0 M [] W) (hn : n ≤ w0.heap.size) (hB0 : ∀ g ∈ M, some g ∈ B0) (hw : WS w0 M l w) (hs : Sub (snapL W w0.heap.size I) l) (h1 : Sub l1 l) (hk : keysB l1 = true) : Keep W n (B0 ++ I) w (B0 ++ ids l1) := fun A cs hf i x hx => by
  obtain ⟨ad, hA, hc, hB, hp⟩ := hf i x hx
  have hlt := World.block_lt_of_cell? _ _ hc
  rw [Addr.add_block] at hlt
  rw [List.mem_append] at hB
  have heq : w.heap[ad.block]? = W.heap[ad.block]? ∧ (w0.heap.size ≤ ad.block → some ad.block ∉ ids l1) := by
    rcases Nat.lt_or_ge ad.block w0.heap.size with h | h
    · have hM : ad.block ∉ M := fun q => hB (.inl (hB0 _ q))
      exact ⟨(hw.keep _ h hM).trans (hW.keep _ h hM).symm, fun q => by omega⟩
    · obtain ⟨c, t, hct⟩ := hp (Nat.le_trans hn h)
      have hl := hs _ _ (snap_lk h (fun q => hB (.inr q)) hct)
      have hat := (hw.live _ _ hl).cells
      refine ⟨by rw [hat, hct], fun _ q => ?_⟩
      obtain ⟨k, e, he, hid⟩ := ids_lk hk q
      have hkb := (keysB_lk hk he).1
      exact hw.apart _ _ _ _ ad.block (h1 _ _ he) hl (by omega) hid rfl
  refine ⟨ad, hA, ?_, fun q => ?_, fun q => ?_⟩
  · rw [← hc]
    exact World.cell?_of_block (by rw [Addr.add_block]; exact heq.1)
  · rcases List.mem_append.1 q with q | q
    · exact hB (.inl q)
    · rcases Nat.lt_or_ge ad.block w0.heap.size with h | h
      · obtain ⟨k, e, he, hid⟩ := ids_lk hk q
        rcases hw.own k e _ (h1 _ _ he) hid with h2 | h2
        · omega
        · exact hB (.inl (hB0 _ h2))
      · exact heq.2 h q
  · rw [heq.1]; exact hp q
theorem snap_nil (w : World) : snapL w w.heap.size [] = [] := by
  unfold snapL
  rw [List.filterMap_eq_nil_iff]
  intro g hg
  unfold snapE
  rw [if_pos (.inl (List.mem_range.1 hg))]
theorem keep_base (hn : n ≤ w0.heap.size) (hB0 : ∀ g ∈ M, some g ∈ B0) (hw : WS w0 M l w) (h1 : Sub l1 l) (hk : keysB l1 = true) : Keep w0 n B0 w (B0 ++ ids l1) := by
  have := keep_snap (I := []) (WS.refl w0 M) hn hB0 hw (by rw [snap_nil]; exact Sub.nil _) h1 hk
  rwa [List.append_nil] at this
/-- Two cells' worlds that agree on what B leaves. -/
theorem Keep.le {w1 w2 : World} {B1 B2 B3 : List (Option Nat)} (h : Keep w1 n B1 w2 B2) (h2 : ∀ o ∈ B3, o ∈ B2) : Keep w1 n B1 w2 B3 := h.trans (Keep.less h2)
/-! ### Rules -/
section
variable {N : Nf} {Q : Exit → Act → World → Prop} {σ : List (Nat × Value)} {ops : Array Oper} {F : Act → World → Prop} {L : List (Oper × K)} {lS : List (Nat × Ent)} {k : K}
  {d : Option Tmp} {ty t : TypeId} {p : String} {af : Array Edge} {x : Operand} {v : Value}
theorem X.snap {e : Exit} (l1 : List (Nat × Ent)) (hs : Sub l1 l) (hk : keysB l1 = true) (h : ∀ W, WS w0 M l W → X w0 M N Q e σ (l1 ++ snapL W w0.heap.size (ids l1))) : X w0 M N Q e σ l := fun a w ha hw => h w hw a w ha (hw.snap hs hk)
theorem T.snap {c : Code} (l1 : List (Nat × Ent)) (hs : Sub l1 l) (hk : keysB l1 = true) (h : ∀ W, WS w0 M l W → T P w0 M N Q c σ (l1 ++ snapL W w0.heap.size (ids l1))) : T P w0 M N Q c σ l := fun a w ha hw => h w hw a w ha (hw.snap hs hk)
/-- A call behind which a snapshot is taken; it may turn blocks of M', handed back as entries. -/
theorem J.callG {f : FuncId} (hf : FnOk P f) {xs : Array Operand} {tys : Array TypeId} {args : List Value} (hx : evs σ xs.toList = some args) (hd : okd N d) {ι : Type} (Φ : ι → World → Prop) (vf : ι → Value) (M' : List Nat) (lf : ι → List (Nat × Ent)) (l1 : ι → List (Nat × Ent))
    (hs : ∀ i, Sub (l1 i) (lf i ++ l)) (hk : ∀ i, keysB (l1 i) = true) (hS : ∀ i W, Sub lS l → Sub lS (l1 i ++ snapL W w0.heap.size (ids (l1 i))))
    (hM : ∀ i, ∀ g ∈ M', ∃ k e e2, lk l k = some e ∧ e.id = some g ∧ lk (lf i) k = some e2)
    (spec : ∀ w, WS w0 M l w → Calls P f args.toArray w fun e w' => ∃ i, Φ i w' ∧ e = .returned (vf i) ∧ WS w M' (lf i) w')
    (hJ : ∀ i W, Φ i W → WS w0 M (lf i ++ l) W → J P ops F w0 M N lS L (putd d (vf i) σ) (l1 i ++ snapL W w0.heap.size (ids (l1 i)))) :
    J P ops F w0 M N lS ((⟨d, .call ⟨.value (.func f), xs, tys⟩, ty, p, af, none⟩, .l) :: L) σ l :=
  J.loud (ι := ι × World) rfl hd (fun q => Φ q.1 q.2 ∧ WS w0 M (lf q.1 ++ l) q.2) (fun q => vf q.1) (fun q => l1 q.1 ++ snapL q.2 w0.heap.size (ids (l1 q.1)))
    (fun q _ h => hS q.1 q.2 h) (fun a ha w hw => by
      rw [run_call hf ha hx w]
      exact (spec w hw).mono fun e w' ⟨i, hi, he, h2⟩ => ⟨vf i, he, (i, w'), ⟨hi, hw.join h2 (hM i)⟩, rfl, (hw.join h2 (hM i)).snap (hs i) (hk i)⟩)
    (fun q hq => hJ q.1 q.2 hq.1 hq.2)
/-- The plain case: no old block turned. -/
theorem J.callB {f : FuncId} (hf : FnOk P f) {xs : Array Operand} {tys : Array TypeId} {args : List Value} (hx : evs σ xs.toList = some args) (hd : okd N d) {ι : Type} (Φ : ι → World → Prop) (vf : ι → Value) (l1 : List (Nat × Ent))
    (hs : Sub l1 l) (hk : keysB l1 = true) (hS : ∀ W, Sub lS l → Sub lS (l1 ++ snapL W w0.heap.size (ids l1)))
    (spec : ∀ w, WS w0 M l w → Calls P f args.toArray w fun e w' => ∃ i, Φ i w' ∧ e = .returned (vf i) ∧ WS w [] [] w')
    (hJ : ∀ i W, Φ i W → WS w0 M l W → J P ops F w0 M N lS L (putd d (vf i) σ) (l1 ++ snapL W w0.heap.size (ids l1))) :
    J P ops F w0 M N lS ((⟨d, .call ⟨.value (.func f), xs, tys⟩, ty, p, af, none⟩, .l) :: L) σ l :=
  J.callG hf hx hd Φ vf [] (fun _ => []) (fun _ => l1) (fun _ => hs) (fun _ => hk) (fun _ W h => hS W h) (fun _ g hg => by cases hg) spec (fun i W h1 h2 => hJ i W h1 h2)
theorem sub_tl {α : Type} {s l : List (Nat × α)} (hs : ∀ k v, lk s k = some v → 1000000 ≤ k) {k : Nat} {e : α} (h : Sub s l) (hk : Nat.blt k 1000000 = true) : Sub s ((k, e) :: l) := fun j u hj => by
  have := hs j u hj
  have hk' : k < 1000000 := by simpa [Nat.blt_eq] using hk
  rw [lk_cons, if_neg (by intro q; subst q; omega)]
  exact h j u hj
theorem sub_snap {n0 k : Nat} {e : Ent} (h : Sub (snapL W n0 I) l) (hk : Nat.blt k 1000000 = true) : Sub (snapL W n0 I) ((k, e) :: l) := sub_tl (fun j u hj => by obtain ⟨g, hg, _⟩ := lk_snap hj; omega) h hk
/-- A load out of cells that fitted. -/
theorem J.loadF (hk : nog k) {A : Option Addr} {cs : List Value} {i : Nat} (hc : ∀ w, WS w0 M l w → Cs w A cs) (hx : ev σ x = some (.pointer (some ((A.getD default).add i)))) (ht : OneT P t) (hv : cs[i]? = some v) (hd : okd N d)
    (hJ : J P ops F w0 M N lS L (putd d v σ) l) : J P ops F w0 M N lS ((⟨d, .load t x, ty, p, af, none⟩, k) :: L) σ l :=
  J.quiet rfl hk hd v (fun a ha w hw => by
    obtain ⟨ad, hA, hcell⟩ := hc w hw i v hv
    subst hA
    simp only [Option.getD_some] at hx
    simp [execOp, ha.eval hx, Instr.loadAt, Instr.sureAddr, run_loadVar_one ht _ _ hcell]) hJ
theorem J.loadFs {A : Option Addr} {cs : List Value} {i : Nat} (hc : ∀ w, WS w0 M lS w → Cs w A cs) (hx : ev σ x = some (.pointer (some ((A.getD default).add i)))) (ht : OneT P t) (hv : cs[i]? = some v) (hd : okd N d)
    (hJ : J P ops F w0 M N lS L (putd d v σ) l) : J P ops F w0 M N lS ((⟨d, .load t x, ty, p, af, none⟩, .s) :: L) σ l :=
  J.stable rfl hd v (fun a ha w hw => by
    obtain ⟨ad, hA, hcell⟩ := hc w hw i v hv
    subst hA
    simp only [Option.getD_some] at hx
    simp [execOp, ha.eval hx, Instr.loadAt, Instr.sureAddr, run_loadVar_one ht _ _ hcell]) hJ
theorem cells_run {A : Option Addr} {cs vs : List Value} {i : Nat} {ad : Addr} (hc : Cs w (some ad) cs) (hv : (cs.drop i).take vs.length = vs) : ∀ (j : Nat) (u : Value), vs[j]? = some u → w.cell? ((ad.add i).add j) = some u := fun j u hj => by
  obtain ⟨ad', hA, hcell⟩ := hc (i + j) u (seg_get hv hj)
  cases hA
  rw [Addr.add_add]; exact hcell
theorem J.loadFN (hk : nog k) {A : Option Addr} {cs vs : List Value} {i m : Nat} (hc : ∀ w, WS w0 M l w → Cs w A cs) (hx : ev σ x = some (.pointer (some ((A.getD default).add i)))) (ht : AggT P t m) (hn : vs.length = m) (h0 : 0 < m) (hv : (cs.drop i).take m = vs) (hd : okd N d)
    (hJ : J P ops F w0 M N lS L (putd d (.agg vs.toArray) σ) l) : J P ops F w0 M N lS ((⟨d, .load t x, ty, p, af, none⟩, k) :: L) σ l :=
  J.quiet rfl hk hd _ (fun a ha w hw => by
    subst hn
    have hv0 := hv
    obtain ⟨u, hu⟩ : ∃ u, vs[0]? = some u := ⟨vs[0], by simp [h0]⟩
    obtain ⟨ad, hA, _⟩ := hc w hw (i + 0) u (seg_get hv hu)
    subst hA
    have hl := run_loadVar_agg (P := P) (w := w) ht (ad.add i) vs rfl (cells_run (A := none) (hc w hw) hv0)
    simp only [Option.getD_some] at hx
    simp [execOp, ha.eval hx, Instr.loadAt, Instr.sureAddr, hl]) hJ
theorem J.loadFNs {A : Option Addr} {cs vs : List Value} {i m : Nat} (hc : ∀ w, WS w0 M lS w → Cs w A cs) (hx : ev σ x = some (.pointer (some ((A.getD default).add i)))) (ht : AggT P t m) (hn : vs.length = m) (h0 : 0 < m) (hv : (cs.drop i).take m = vs) (hd : okd N d)
    (hJ : J P ops F w0 M N lS L (putd d (.agg vs.toArray) σ) l) : J P ops F w0 M N lS ((⟨d, .load t x, ty, p, af, none⟩, .s) :: L) σ l :=
  J.stable rfl hd _ (fun a ha w hw => by
    subst hn
    have hv0 := hv
    obtain ⟨u, hu⟩ : ∃ u, vs[0]? = some u := ⟨vs[0], by simp [h0]⟩
    obtain ⟨ad, hA, _⟩ := hc w hw (i + 0) u (seg_get hv hu)
    subst hA
    have hl := run_loadVar_agg (P := P) (w := w) ht (ad.add i) vs rfl (cells_run (A := none) (hc w hw) hv0)
    simp only [Option.getD_some] at hx
    simp [execOp, ha.eval hx, Instr.loadAt, Instr.sureAddr, hl]) hJ
end
attribute [irreducible] snapL
end Go.Fw
set_option linter.unusedVariables false
namespace Go.Fw
open Go
section
variable {P : Program} {ops : Array Oper} {md : Region.Mode} {w0 : World} {M : List Nat} {lS lS2 : List (Nat × Ent)} {F F1 : Act → World → Prop}
theorem wpAny_phase {Q : Exit → Act → World → Prop} (hsel : ∀ (j : Nat) (o : Oper) cs b, ops[j]? = some o → o.op ≠ .select cs b) (hE : ∃ w, WS w0 M lS w) {πb : List (Nat × K)}
    (hend : ∀ listed a w, Inv md ops πb listed → F1 a w → wpAny P md ops Q πb.length listed a w) : ∀ (n : Nat) (π : List (Nat × K)) (listed : Array Bool) (a : Act) (l : List (Nat × Ent)) (w : World), π.length = n → Inv md ops (π ++ πb) listed →
    (∀ x ∈ π, ∀ y ∈ πb, Anc md ops x.1 y.1) → JJ P ops F1 w0 M lS (π.map (opK ops)) a l → WS w0 M l w → Sub lS l → wpAny P md ops Q (n + πb.length) listed a w
  | 0, π, listed, a, l, w, hn, hi, hanc, h, hw, hS => by
    obtain rfl := List.length_eq_zero_iff.1 hn
    rw [Nat.zero_add]
    exact hend listed a w hi (h w hw)
  | n + 1, π, listed, a, l, w, hn, hi, hanc, h, hw, hS => by
    rw [Nat.succ_add]
    refine ⟨fun h0 => ?_, fun i hri => ?_⟩
    · cases π with
      | nil => simp at hn
      | cons x π => have := hi.head; rw [h0] at this; cases this
    · obtain ⟨hun, o, ho, hall⟩ := mem_ready.1 hri
      have hlt : i < ops.size := (Array.getElem?_eq_some_iff.1 ho).1
      have hm := (hi.iff i hlt).1 (by rw [getD_either (by rw [hi.size]; exact hlt) false true]; exact hun)
      have unl : ∀ y ∈ π ++ πb, listed.getD y.1 false = false := fun y hy => (hi.iff y.1 (hi.lt y hy).1).2 (List.mem_map.2 ⟨y, hy, rfl⟩)
      have hlis : ∀ y, Anc md ops y i → listed.getD y false = true := fun y hy => hy.listed hi.down fun o' ho' e he hb => hall e (by
        rw [ho] at ho'; cases ho'; simpa using he) hb
      have hm1 : i ∈ π.map (·.1) := by
        rw [List.map_append, List.mem_append] at hm
        rcases hm with hm | hm
        · exact hm
        · exfalso
          obtain ⟨y, hy, rfl⟩ := List.mem_map.1 hm
          cases π with
          | nil => simp at hn
          | cons x π =>
            have h1 := hlis x.1 (hanc x List.mem_cons_self y hy)
            rw [unl x (List.mem_append_left _ List.mem_cons_self)] at h1
            cases h1
      obtain ⟨x, hx, rfl⟩ := List.mem_map.1 hm1
      obtain ⟨π1, π2, rfl⟩ := List.append_of_mem hx
      have hod : ∀ j, j < ops.size → ops.getD j default ∈ ops.toList := fun j hj => by
        rw [show ops.getD j default = ops[j] by simp [hj]]
        simp
      have hox : ops.getD x.1 default = o := by
        simp only [Array.getD, hlt, dif_pos]
        exact (Array.getElem?_eq_some_iff.1 ho).2
      have hsel' : ∀ (o : Oper) cs b, o ∈ ops.toList → o.op ≠ .select cs b := fun o cs b ho => by
        obtain ⟨j, hj⟩ := List.getElem?_of_mem ho
        exact hsel j o cs b (by simpa using hj)
      have hp := (List.pairwise_append.1 hi.pair).1
      rw [List.pairwise_append] at hp
      rw [List.map_append, List.map_cons] at h
      have hb := JJ_bubble hE hsel' (opK ops x) (hod _ hlt) (π2.map (opK ops)) (π1.map (opK ops)) (fun y hy => by
        obtain ⟨y, hy', rfl⟩ := List.mem_map.1 hy
        have hy := hy'
        have hymem : y ∈ (π1 ++ x :: π2) ++ πb := List.mem_append_left _ (List.mem_append_left _ hy)
        have hylt := (hi.lt y hymem).1
        refine ⟨hod _ hylt, ?_⟩
        rcases (hp.2.2 y hy x List.mem_cons_self).ok with hanc' | hok
        · have h1 := hlis _ hanc'
          rw [unl y hymem] at h1; cases h1
        · exact hok) a l h
      rw [← List.map_append] at hb
      unfold wpOp
      simp only [ho]
      simp only [JJ, hox] at hb
      have hi2 : Inv md ops ((π1 ++ π2) ++ πb) (listed.setIfInBounds x.1 true) := by
        have := Inv.next (π1 := π1) (π2 := π2 ++ πb) (by simpa using hi) hri
        simpa using this
      exact wp_of_stepW hb hw hS fun a' l' w' h1 h2 h3 =>
        wpAny_phase hsel hE hend n (π1 ++ π2) _ a' l' w' (by simp at hn ⊢; omega) hi2 (fun z hz y hy => hanc z (by
          rcases List.mem_append.1 hz with hz | hz
          · exact List.mem_append_left _ hz
          · exact List.mem_append_right _ (List.mem_cons_of_mem _ hz)) y hy) h3 h1 h2
/-- Every operation of the first part must come ahead of every one of the second. -/
def phaseB (md : Region.Mode) (ops : Array Oper) (π πb : List (Nat × K)) : Bool :=
  let t := ancs md ops ((π ++ πb).map (·.1)) []
  π.all fun x => πb.all fun y => (tbl t y.1).testBit x.1
theorem phaseB_spec {π πb : List (Nat × K)} (h : phaseB md ops π πb = true) : ∀ x ∈ π, ∀ y ∈ πb, Anc md ops x.1 y.1 := fun x hx y hy =>
  ancs_ok _ _ tblOk_nil _ _ (List.all_eq_true.1 (List.all_eq_true.1 h x hx) y hy)
/-- What the first part ends in: the second. -/
def Mid (P : Program) (ops : Array Oper) (F : Act → World → Prop) (w0 : World) (M : List Nat) (lS : List (Nat × Ent)) (L : List (Oper × K)) (a : Act) (w : World) : Prop :=
  ∃ l, WS w0 M l w ∧ Sub lS l ∧ JJ P ops F w0 M lS L a l
end
variable {P : Program} {Q : Exit → Act → World → Prop} {w0 w : World} {M : List Nat} {l lS lS2 : List (Nat × Ent)} {N : Nf} {σ : List (Nat × Value)} {ops : Array Oper} {F : Act → World → Prop} {L : List (Oper × K)}
theorem J.mid (h : J P ops F w0 M N lS2 L σ l) (hS : Sub lS2 l) : J P ops (Mid P ops F w0 M lS2 L) w0 M N lS [] σ l := fun _ a ha w hw => ⟨l, hw, hS, h hS a ha⟩
theorem T.draw2 {id : Nat} (lS : List (Nat × Ent)) (π : List (Nat × K)) (lS2 : List (Nat × Ent)) (πb : List (Nat × K)) (hm : P.follows .mixedOrders = true) (hB : walkB .any ops (π ++ πb) = true) (hP : phaseB .any ops π πb = true)
    (h : J P ops (Mid P ops (fun a w => Q .normal a w) w0 M lS2 (πb.map fun p => (ops.getD p.1 default, p.2))) w0 M N lS (π.map fun p => (ops.getD p.1 default, p.2)) σ l) (hlS : Sub lS l) : T P w0 M N Q (.region id ops true) σ l :=
  fun a w ha hw => wp_region_any hm (by
    have hW := walkB_spec hB
    have hend : ∀ listed a w, Inv .any ops πb listed → Mid P ops (fun a w => Q .normal a w) w0 M lS2 (πb.map fun p => (ops.getD p.1 default, p.2)) a w → wpAny P .any ops Q πb.length listed a w := fun listed a w hi ⟨l, hw, hS, hJ⟩ =>
      wpAny_of_JJ hW.sel ⟨w, hw.sub hS⟩ πb.length πb _ a l _ rfl hi hJ hw hS
    have := wpAny_phase hW.sel ⟨w, hw.sub hlS⟩ hend π.length π _ a l _ rfl (walk_inv hW) (phaseB_spec hP) (h hlS a ha) hw.drew hlS
    rw [← List.length_append, hW.len] at this
    exact this)
end Go.Fw
set_option linter.unusedVariables false
namespace Go.Fw
open Go

/-! ### Values in a base -/
def vq (b : Nat) : List Nat → Nat
  | [] => 0
  | x :: xs => x + b * vq b xs
theorem vq_vl (xs : List Nat) : vq 256 xs = vl xs := by
  induction xs with
  | nil => rfl
  | cons x xs ih => simp only [vq, vl, ih]
def Dq (b : Nat) (xs : List Nat) : Prop := ∀ x ∈ xs, x < b
theorem Dq.getD {b : Nat} {xs : List Nat} (h : Dq b xs) (hb : 0 < b) (i : Nat) : xs.getD i 0 < b := by
  rw [List.getD_eq_getElem?_getD]
  by_cases hi : i < xs.length
  · simp [hi]; exact h _ (List.getElem_mem hi)
  · simp [List.getElem?_eq_none (Nat.le_of_not_lt hi)]; exact hb
theorem Dq.set {b : Nat} {xs : List Nat} (h : Dq b xs) (i : Nat) {v : Nat} (hv : v < b) : Dq b (xs.set i v) := fun y hy => by
  rcases List.mem_or_eq_of_mem_set hy with h1 | h1
  · exact h y h1
  · omega
theorem vq_set (b : Nat) : ∀ (xs : List Nat) (i v : Nat), i < xs.length → vq b (xs.set i v) + xs.getD i 0 * b ^ i = vq b xs + v * b ^ i
  | [], i, v, h => by simp at h
  | x :: xs, 0, v, h => by simp [vq]; omega
  | x :: xs, i + 1, v, h => by
    have := vq_set b xs i v (by simpa using h)
    simp only [List.set_cons_succ, vq, List.getD_cons_succ, Nat.pow_succ]
    have h2 : b * (vq b (xs.set i v) + xs.getD i 0 * b ^ i) = b * (vq b xs + v * b ^ i) := by rw [this]
    rw [Nat.mul_add, Nat.mul_add] at h2
    rw [← Nat.mul_assoc, ← Nat.mul_assoc, Nat.mul_comm _ b, Nat.mul_comm (v * b ^ i) b]
    omega
theorem vq_append (b : Nat) (xs ys : List Nat) : vq b (xs ++ ys) = vq b xs + vq b ys * b ^ xs.length := by
  induction xs with
  | nil => simp [vq]
  | cons x xs ih =>
    simp only [List.cons_append, vq, ih, List.length_cons, Nat.pow_succ]
    rw [Nat.mul_add, ← Nat.mul_assoc, Nat.mul_comm b (vq b ys), Nat.mul_assoc (vq b ys), Nat.mul_comm b (b ^ _)]
    omega
theorem vq_lt {b : Nat} {xs : List Nat} (h : Dq b xs) (hb : 0 < b) : vq b xs < b ^ xs.length := by
  induction xs with
  | nil => simp [vq]
  | cons x xs ih =>
    have h1 := ih (fun y hy => h y (by simp [hy]))
    have h2 := h x (by simp)
    simp only [vq, List.length_cons, Nat.pow_succ]
    have h3 : b * (vq b xs + 1) ≤ b * b ^ xs.length := Nat.mul_le_mul_left _ h1
    rw [Nat.mul_add, Nat.mul_comm b (b ^ xs.length)] at h3
    omega
theorem vq_take_succ (b : Nat) (xs : List Nat) (i : Nat) : vq b (xs.take (i + 1)) = vq b (xs.take i) + xs.getD i 0 * b ^ i := by
  by_cases hi : i < xs.length
  · rw [List.take_succ_eq_append_getElem hi, vq_append, List.length_take, Nat.min_eq_left (Nat.le_of_lt hi)]
    simp [List.getD, hi, vq]
  · rw [List.take_of_length_le (by omega), List.take_of_length_le (by omega), List.getD_eq_getElem?_getD, List.getElem?_eq_none (by omega)]
    simp
theorem vq_zeros (b n : Nat) : vq b (List.replicate n 0) = 0 := by
  induction n with
  | zero => rfl
  | succ n ih => simp [List.replicate_succ, vq, ih]
/-- The limbs of a word. -/
theorem vq_wl (x : Nat) : vq 18446744073709551616 (wl x) = x % 2 ^ 256 := by
  unfold wl vq vq vq vq vq lim
  omega
theorem wl_dq (x : Nat) : Dq 18446744073709551616 (wl x) := by
  intro y hy
  unfold wl at hy
  simp at hy
  rcases hy with rfl | rfl | rfl | rfl <;> exact lim_lt _ _
theorem vq_get {b : Nat} (hb : 0 < b) : ∀ {xs : List Nat}, Dq b xs → ∀ i, xs.getD i 0 = vq b xs / b ^ i % b
  | [], _, i => by simp [vq]
  | x :: xs, h, 0 => by
    have h2 := h x (by simp)
    simp only [List.getD_cons_zero, vq, Nat.pow_zero, Nat.div_one, Nat.add_mul_mod_self_left]
    exact (Nat.mod_eq_of_lt h2).symm
  | x :: xs, h, i + 1 => by
    have ih := vq_get hb (xs := xs) (fun y hy => h y (by simp [hy])) i
    have h2 := h x (by simp)
    rw [List.getD_cons_succ, ih]
    simp only [vq]
    rw [Nat.pow_succ', ← Nat.div_div_eq_div_mul, Nat.add_mul_div_left _ _ hb, Nat.div_eq_of_lt h2, Nat.zero_add]
/-- One step of a product. -/
theorem mul_step {b : Nat} {ls : List Nat} {j x y c : Nat} (hb : 1 < b) (hl : Dq b ls) (hj : j < ls.length) (hx : x < b) (hy : y < b) (hc : c < b) :
    (ls.getD j 0 + x * y + c) / b < b ∧ Dq b (ls.set j ((ls.getD j 0 + x * y + c) % b)) ∧
    vq b (ls.set j ((ls.getD j 0 + x * y + c) % b)) + (ls.getD j 0 + x * y + c) / b * b ^ (j + 1) = vq b ls + c * b ^ j + x * y * b ^ j := by
  have h1 := hl.getD (by omega) j
  have h2 := vq_set b ls j ((ls.getD j 0 + x * y + c) % b) hj
  have hxy : x * y ≤ (b - 1) * (b - 1) := Nat.mul_le_mul (by omega) (by omega)
  have hbb : (b - 1) * (b - 1) + (b - 1) + (b - 1) + 1 = b * b := by
    obtain ⟨d, rfl⟩ : ∃ d, b = d + 1 := ⟨b - 1, by omega⟩
    simp only [Nat.add_sub_cancel]
    rw [Nat.add_mul, Nat.mul_add]
    omega
  refine ⟨(Nat.div_lt_iff_lt_mul (by omega)).2 (by omega), hl.set j (Nat.mod_lt _ (by omega)), ?_⟩
  generalize hn : ls.getD j 0 + x * y + c = n at *
  have e : n % b * b ^ j + n / b * b ^ (j + 1) = n * b ^ j := by
    rw [Nat.pow_succ, Nat.mul_comm (b ^ j) b, ← Nat.mul_assoc, ← Nat.add_mul]
    congr 1
    rw [Nat.mul_comm (n / b) b, Nat.add_comm]; exact Nat.div_add_mod n b
  have e2 : n * b ^ j = ls.getD j 0 * b ^ j + x * y * b ^ j + c * b ^ j := by rw [← hn, Nat.add_mul, Nat.add_mul]
  omega

/-! ### Bits -/
def bitsL (x n : Nat) : List Nat := (List.range n).map fun i => x / 2 ^ i % 2
theorem bitsL_length (x n : Nat) : (bitsL x n).length = n := by simp [bitsL]
theorem bitsL_get (x n i : Nat) (h : i < n) : (bitsL x n).getD i 0 = x / 2 ^ i % 2 := by simp [bitsL, List.getD, h]
theorem bitsL_far (x n i : Nat) (h : n ≤ i) : (bitsL x n).getD i 0 = 0 := getD_far _ _ (by rw [bitsL_length]; exact h)
theorem bitsL_of {xs : List Nat} {x n : Nat} (hl : xs.length = n) (h : ∀ i, i < n → xs.getD i 0 = x / 2 ^ i % 2) : xs = bitsL x n := by
  apply List.ext_getElem (by rw [bitsL_length, hl])
  intro i h1 h2
  have a := h i (by omega)
  have b := bitsL_get x n i (by omega)
  rw [← b] at a
  simpa [List.getD, h1, h2] using a
theorem bitsL_vq (x n : Nat) : vq 2 (bitsL x n) = x % 2 ^ n := by
  induction n with
  | zero => simp [bitsL, vq, Nat.mod_one]
  | succ n ih =>
    have e : bitsL x (n + 1) = bitsL x n ++ [x / 2 ^ n % 2] := by simp [bitsL, List.range_succ]
    rw [e, vq_append, ih, bitsL_length, Nat.pow_succ, Nat.mod_mul]
    simp [vq, Nat.mul_comm]
theorem bitsL_dq (x n : Nat) : Dq 2 (bitsL x n) := by
  intro y hy
  simp only [bitsL, List.mem_map] at hy
  obtain ⟨i, _, rfl⟩ := hy
  exact Nat.mod_lt _ (by omega)
theorem bit_testBit (x i : Nat) : x / 2 ^ i % 2 = if x.testBit i then 1 else 0 := by
  rw [Nat.testBit_eq_decide_div_mod_eq]
  have := Nat.mod_lt (x / 2 ^ i) (show 2 > 0 by omega)
  by_cases h : x / 2 ^ i % 2 = 1
  · simp [h]
  · simp [h]; omega
theorem bit_and (x y i : Nat) : (x &&& y) / 2 ^ i % 2 = x / 2 ^ i % 2 * (y / 2 ^ i % 2) := by
  rw [bit_testBit, bit_testBit, bit_testBit, Nat.testBit_and]
  cases x.testBit i <;> cases y.testBit i <;> rfl
theorem bit_or (x y i : Nat) : (x ||| y) / 2 ^ i % 2 = x / 2 ^ i % 2 + y / 2 ^ i % 2 - x / 2 ^ i % 2 * (y / 2 ^ i % 2) := by
  rw [bit_testBit, bit_testBit, bit_testBit, Nat.testBit_or]
  cases x.testBit i <;> cases y.testBit i <;> rfl
theorem bit_xor (x y i : Nat) : (x ^^^ y) / 2 ^ i % 2 = (x / 2 ^ i % 2 + y / 2 ^ i % 2) % 2 := by
  rw [bit_testBit, bit_testBit, bit_testBit, Nat.testBit_xor]
  cases x.testBit i <;> cases y.testBit i <;> rfl
theorem bit_not (x i n : Nat) (h : i < n) : (2 ^ n - 1 - x % 2 ^ n) / 2 ^ i % 2 = 1 - x / 2 ^ i % 2 := by
  have hlt := Nat.mod_lt x (Nat.pow_pos (n := n) (show 0 < 2 by omega))
  rw [bit_testBit, bit_testBit, show 2 ^ n - 1 - x % 2 ^ n = 2 ^ n - (x % 2 ^ n + 1) by omega, Nat.testBit_two_pow_sub_succ hlt, Nat.testBit_mod_two_pow]
  simp only [h, decide_true, Bool.true_and]
  cases x.testBit i <;> rfl
/-- The n-th digit as it is filled bit by bit. -/
def digF (V j q : Nat) : Nat := V / 2 ^ (max j (8 * q)) % 2 ^ (8 * q + 8 - max j (8 * q))
theorem digF_zero (V q : Nat) : digF V 0 q = V / 256 ^ q % 256 := by
  unfold digF
  rw [Nat.max_eq_right (by omega), show 8 * q + 8 - 8 * q = 8 by omega, Nat.pow_mul]
theorem digF_far (V j q : Nat) (h : 8 * q + 8 ≤ j) : digF V j q = 0 := by
  unfold digF
  rw [Nat.max_eq_left (by omega), show 8 * q + 8 - j = 0 by omega]
  simp [Nat.mod_one]
theorem digF_lt (V j q : Nat) (h : 8 * q < j) : digF V j q < 128 := by
  unfold digF
  have h1 : 2 ^ (8 * q + 8 - max j (8 * q)) ≤ 2 ^ 7 := Nat.pow_le_pow_right (by omega) (by omega)
  have h2 := Nat.mod_lt (V / 2 ^ (max j (8 * q))) (show 2 ^ (8 * q + 8 - max j (8 * q)) > 0 from Nat.pow_pos (by omega))
  omega
theorem digF_step (V j q : Nat) (h1 : 8 * q ≤ j) (h2 : j < 8 * q + 8) : digF V j q = digF V (j + 1) q * 2 + V / 2 ^ j % 2 := by
  unfold digF
  rw [Nat.max_eq_left h1, Nat.max_eq_left (by omega : 8 * q ≤ j + 1)]
  have e : 8 * q + 8 - j = (8 * q + 8 - (j + 1)) + 1 := by omega
  rw [e, Nat.pow_succ, Nat.mul_comm (2 ^ (8 * q + 8 - (j + 1))) 2, Nat.mod_mul, Nat.div_div_eq_div_mul, Nat.pow_succ 2 j, Nat.add_comm, Nat.mul_comm 2]
theorem digF_other (V j q : Nat) (h : j < 8 * q ∨ 8 * q + 8 ≤ j) : digF V j q = digF V (j + 1) q := by
  rcases h with h | h
  · unfold digF; rw [Nat.max_eq_right (by omega), Nat.max_eq_right (by omega)]
  · rw [digF_far _ _ _ h, digF_far _ _ _ (by omega)]

/-! ### Bits of a word's parts -/
theorem pow64 (k : Nat) : 2 ^ (64 * k) = 18446744073709551616 ^ k := by rw [Nat.pow_mul]
/-- The bits of Q from number j on, at their places. -/
def hb (Q j : Nat) : Nat := Q / 2 ^ j * 2 ^ j
theorem hb_zero (Q : Nat) : hb Q 0 = Q := by simp [hb]
theorem hb_big {Q j : Nat} (h : Q < 2 ^ j) : hb Q j = 0 := by unfold hb; rw [Nat.div_eq_of_lt h, Nat.zero_mul]
theorem hb_step (Q k : Nat) : hb Q k = hb Q (k + 1) + Q / 2 ^ k % 2 * 2 ^ k := by
  unfold hb
  have h := Nat.div_add_mod (Q / 2 ^ k) 2
  have h2 : Q / 2 ^ k / 2 = Q / 2 ^ (k + 1) := by rw [Nat.div_div_eq_div_mul, Nat.pow_succ]
  rw [h2] at h
  conv => lhs; rw [← h]
  rw [Nat.add_mul, Nat.pow_succ]
  congr 1
  rw [Nat.mul_comm 2, Nat.mul_assoc, Nat.mul_comm 2 (2 ^ k)]
theorem hb_lim_other (Q k q : Nat) (hk : k / 64 ≠ q) : lim (hb Q k) q = lim (hb Q (k + 1)) q := by
  rw [hb_step]
  unfold lim
  rcases Nat.lt_or_ge (k / 64) q with h | h
  · have e : hb Q (k + 1) = 2 ^ (k + 1) * (Q / 2 ^ (k + 1)) := by unfold hb; rw [Nat.mul_comm]
    have e2 : 18446744073709551616 ^ q = 2 ^ (k + 1) * 2 ^ (64 * q - (k + 1)) := by rw [← pow64, ← Nat.pow_add, show k + 1 + (64 * q - (k + 1)) = 64 * q by omega]
    have hlt : Q / 2 ^ k % 2 * 2 ^ k < 2 ^ (k + 1) := by
      rw [Nat.pow_succ, Nat.mul_comm (2 ^ k)]
      exact Nat.mul_lt_mul_of_pos_right (Nat.mod_lt _ (by omega)) (Nat.pow_pos (by omega))
    rw [e, e2, ← Nat.div_div_eq_div_mul, ← Nat.div_div_eq_div_mul, Nat.mul_add_div (Nat.pow_pos (by omega)), Nat.div_eq_of_lt hlt, Nat.add_zero, Nat.mul_div_cancel_left _ (Nat.pow_pos (by omega))]
  · have e2 : 2 ^ k = 18446744073709551616 ^ q * (18446744073709551616 * 2 ^ (k - 64 * q - 64)) := by
      rw [← Nat.mul_assoc, ← Nat.pow_succ, ← pow64, ← Nat.pow_add, show 64 * (q + 1) + (k - 64 * q - 64) = k by omega]
    have e3 : ∀ c, c * 2 ^ k = 18446744073709551616 ^ q * (18446744073709551616 * (c * 2 ^ (k - 64 * q - 64))) := by
      intro c; rw [e2]; simp only [Nat.mul_assoc, Nat.mul_comm]
    rw [e3, Nat.add_mul_div_left _ _ (Nat.pow_pos (by omega)), Nat.add_mul_mod_self_left]
theorem hb_lim (Q k : Nat) : lim (hb Q k) (k / 64) = lim (hb Q (k + 1)) (k / 64) ||| (Q / 2 ^ k % 2 * 2 ^ (k % 64)) := by
  have hr : k % 64 < 64 := Nat.mod_lt _ (by omega)
  have hk : k = 64 * (k / 64) + k % 64 := by omega
  generalize hq : k / 64 = q at *
  generalize hr' : k % 64 = r at *
  have e1 : hb Q (k + 1) / 18446744073709551616 ^ q = Q / 2 ^ (k + 1) * 2 ^ (r + 1) := by
    unfold hb
    rw [show 2 ^ (k + 1) = 2 ^ (r + 1) * 18446744073709551616 ^ q by rw [← pow64, ← Nat.pow_add, show r + 1 + 64 * q = k + 1 by omega]]
    rw [← Nat.mul_assoc, Nat.mul_div_cancel _ (Nat.pow_pos (by omega))]
  have e2 : hb Q k / 18446744073709551616 ^ q = Q / 2 ^ (k + 1) * 2 ^ (r + 1) + Q / 2 ^ k % 2 * 2 ^ r := by
    rw [hb_step, show 2 ^ k = 2 ^ r * 18446744073709551616 ^ q by rw [← pow64, ← Nat.pow_add, show r + 64 * q = k by omega], ← Nat.mul_assoc, Nat.add_mul_div_right _ _ (Nat.pow_pos (by omega)), e1]
  unfold lim
  rw [e1, e2]
  have hc : Q / 2 ^ k % 2 * 2 ^ r < 2 ^ (r + 1) := by
    rw [Nat.pow_succ, Nat.mul_comm (2 ^ r)]
    exact Nat.mul_lt_mul_of_pos_right (Nat.mod_lt _ (by omega)) (Nat.pow_pos (by omega))
  generalize Q / 2 ^ (k + 1) = A at *
  generalize Q / 2 ^ k % 2 * 2 ^ r = C at *
  have e3 : A * 2 ^ (r + 1) % 18446744073709551616 = A % 2 ^ (63 - r) * 2 ^ (r + 1) := by
    rw [show (18446744073709551616 : Nat) = 2 ^ (63 - r) * 2 ^ (r + 1) by rw [← Nat.pow_add, show 63 - r + (r + 1) = 64 by omega]]
    exact Nat.mul_mod_mul_right _ _ _
  have e4 : (A * 2 ^ (r + 1) + C) % 18446744073709551616 = A % 2 ^ (63 - r) * 2 ^ (r + 1) + C := by
    have h1 : A * 2 ^ (r + 1) + C = (A % 2 ^ (63 - r) * 2 ^ (r + 1) + C) + 18446744073709551616 * (A / 2 ^ (63 - r)) := by
      have h2 := Nat.div_add_mod A (2 ^ (63 - r))
      conv => lhs; rw [← h2]
      rw [show (18446744073709551616 : Nat) = 2 ^ (63 - r) * 2 ^ (r + 1) by rw [← Nat.pow_add, show 63 - r + (r + 1) = 64 by omega]]
      rw [Nat.add_mul, Nat.mul_assoc (2 ^ (63 - r)), Nat.mul_comm (A / 2 ^ (63 - r)), ← Nat.mul_assoc]
      omega
    rw [h1, Nat.add_mul_mod_self_left]
    apply Nat.mod_eq_of_lt
    have h3 : A % 2 ^ (63 - r) + 1 ≤ 2 ^ (63 - r) := Nat.mod_lt _ (Nat.pow_pos (by omega))
    have h4 : (A % 2 ^ (63 - r) + 1) * 2 ^ (r + 1) ≤ 2 ^ (63 - r) * 2 ^ (r + 1) := Nat.mul_le_mul_right _ h3
    rw [← Nat.pow_add, show 63 - r + (r + 1) = 64 by omega, Nat.add_mul] at h4
    omega
  rw [e3, e4]
  rw [nat_join (r + 1)]
  · exact Nat.mul_mod_left _ _
  · exact hc
theorem hb_lim0 {Q k : Nat} (h : Q / 2 ^ k % 2 = 0) : hb Q k = hb Q (k + 1) := by rw [hb_step, h]; omega
/-- Long division, a bit at a time. -/
theorem div_step (N d j : Nat) (hd : 0 < d) :
    (N / 2 ^ j) % d = (if 2 * ((N / 2 ^ (j + 1)) % d) + N / 2 ^ j % 2 < d then 2 * ((N / 2 ^ (j + 1)) % d) + N / 2 ^ j % 2 else 2 * ((N / 2 ^ (j + 1)) % d) + N / 2 ^ j % 2 - d) ∧
    (N / d) / 2 ^ j % 2 = (if 2 * ((N / 2 ^ (j + 1)) % d) + N / 2 ^ j % 2 < d then 0 else 1) := by
  have e1 : N / 2 ^ j = 2 * (N / 2 ^ (j + 1)) + N / 2 ^ j % 2 := by
    have h2 : N / 2 ^ j / 2 = N / 2 ^ (j + 1) := by rw [Nat.div_div_eq_div_mul, Nat.pow_succ]
    have := Nat.div_add_mod (N / 2 ^ j) 2
    rw [h2] at this
    exact this.symm
  have e2 : N / d / 2 ^ j = (N / 2 ^ j) / d := by rw [Nat.div_div_eq_div_mul, Nat.div_div_eq_div_mul, Nat.mul_comm]
  have hr := Nat.mod_lt (N / 2 ^ (j + 1)) hd
  have hm := Nat.div_add_mod (N / 2 ^ (j + 1)) d
  have hbit := Nat.mod_lt (N / 2 ^ j) (show 2 > 0 by omega)
  rw [e2]
  generalize hM : N / 2 ^ j % 2 = m at *
  rw [e1]
  generalize hR : N / 2 ^ (j + 1) % d = r at *
  generalize hQ : N / 2 ^ (j + 1) / d = q at *
  generalize N / 2 ^ (j + 1) = U at *
  have e3 : 2 * U + m = 2 * r + m + d * (2 * q) := by rw [← hm, Nat.mul_add, ← Nat.mul_assoc, Nat.mul_comm 2 d, Nat.mul_assoc]; omega
  rw [e3, Nat.add_mul_mod_self_left, Nat.add_mul_div_left _ _ hd]
  split
  · rename_i h; rw [Nat.mod_eq_of_lt h, Nat.div_eq_of_lt h]; exact ⟨rfl, by omega⟩
  · rename_i h
    have h2 : 2 * r + m = (2 * r + m - d) + d := by omega
    have h3 : 2 * r + m - d < d := by omega
    rw [h2, Nat.add_mod_right, Nat.mod_eq_of_lt h3, Nat.add_div_right _ hd, Nat.div_eq_of_lt h3]
    refine ⟨by omega, by omega⟩
end Go.Fw
set_option linter.unusedVariables false
namespace Go.Fw
open Go

theorem lim_testBit (x i j : Nat) : (lim x i).testBit j = (decide (j < 64) && x.testBit (64 * i + j)) := by
  unfold lim
  rw [← pow64, show (18446744073709551616 : Nat) = 2 ^ 64 by decide, Nat.testBit_mod_two_pow, Nat.testBit_div_two_pow, Nat.add_comm]
theorem lim_bits {x i v : Nat} (h : ∀ j, v.testBit j = (decide (j < 64) && x.testBit (64 * i + j))) : v = lim x i :=
  Nat.eq_of_testBit_eq fun j => by rw [h, lim_testBit]
theorem lim_and (x y i : Nat) : lim (x &&& y) i = lim x i &&& lim y i := Nat.eq_of_testBit_eq fun j => by
  rw [Nat.testBit_and, lim_testBit, lim_testBit, lim_testBit, Nat.testBit_and]
  cases decide (j < 64) <;> simp
theorem lim_or (x y i : Nat) : lim (x ||| y) i = lim x i ||| lim y i := Nat.eq_of_testBit_eq fun j => by
  rw [Nat.testBit_or, lim_testBit, lim_testBit, lim_testBit, Nat.testBit_or]
  cases decide (j < 64) <;> simp
theorem lim_xor (x y i : Nat) : lim (x ^^^ y) i = lim x i ^^^ lim y i := Nat.eq_of_testBit_eq fun j => by
  rw [Nat.testBit_xor, lim_testBit, lim_testBit, lim_testBit, Nat.testBit_xor]
  cases decide (j < 64) <;> simp
def notN (x : Nat) : Nat := 2 ^ 256 - 1 - x % 2 ^ 256
theorem notN_testBit (x j : Nat) : (notN x).testBit j = (decide (j < 256) && !x.testBit j) := by
  have hlt := Nat.mod_lt x (show 2 ^ 256 > 0 by decide)
  unfold notN
  rw [show 2 ^ 256 - 1 - x % 2 ^ 256 = 2 ^ 256 - (x % 2 ^ 256 + 1) by omega, Nat.testBit_two_pow_sub_succ hlt, Nat.testBit_mod_two_pow]
  cases h : decide (j < 256) <;> simp
theorem lim_not (x i : Nat) (h : i < 4) : lim (notN x) i = 18446744073709551615 - lim x i := by
  have hlt := lim_lt x i
  refine (lim_bits fun j => ?_).symm
  rw [show 18446744073709551615 - lim x i = 2 ^ 64 - (lim x i + 1) by omega, Nat.testBit_two_pow_sub_succ (by omega), lim_testBit, notN_testBit]
  by_cases hj : j < 64
  · have : 64 * i + j < 256 := by omega
    simp [hj, this]
  · simp [hj]
theorem notN_lt (x : Nat) : notN x < 2 ^ 256 := by unfold notN; omega
theorem mod_bits {x y : Nat} (h : ∀ j, j < 256 → x.testBit j = y.testBit j) : x % 2 ^ 256 = y % 2 ^ 256 := Nat.eq_of_testBit_eq fun j => by
  rw [Nat.testBit_mod_two_pow, Nat.testBit_mod_two_pow]
  by_cases hj : j < 256
  · simp [hj, h j hj]
  · simp [hj]
/-- A number by its bits. -/
def ofB (f : Nat → Nat) : Nat := vq 2 ((List.range 256).map f)
theorem ofB_eq {z : Nat} {f : Nat → Nat} (h : ∀ i, i < 256 → z / 2 ^ i % 2 = f i) : ofB f = z % 2 ^ 256 := by
  rw [← bitsL_vq]
  unfold ofB bitsL
  congr 1
  exact List.map_congr_left fun i hi => (h i (by simpa using hi)).symm
theorem ofB_list {xs : List Nat} {f : Nat → Nat} (hl : xs.length = 256) (h : ∀ i, i < 256 → xs.getD i 0 = f i) : vq 2 xs = ofB f := by
  unfold ofB
  congr 1
  apply List.ext_getElem (by simp [hl])
  intro i h1 h2
  have := h i (by omega)
  simpa [List.getD, h1] using this

/-! ### Shifts -/
def shlN (s x : Nat) : Nat := if s % 2 ^ 256 < 256 then x % 2 ^ 256 * 2 ^ (s % 2 ^ 256) else 0
def shrN (s x : Nat) : Nat := if s % 2 ^ 256 < 256 then x % 2 ^ 256 / 2 ^ (s % 2 ^ 256) else 0
theorem shlN_testBit (s x j : Nat) (hj : j < 256) : (shlN s x).testBit j = (decide (s % 2 ^ 256 < 256) && decide (s % 2 ^ 256 ≤ j) && x.testBit (j - s % 2 ^ 256)) := by
  unfold shlN
  split
  · rename_i h
    rw [Nat.testBit_mul_two_pow, Nat.testBit_mod_two_pow]
    have : j - s % 2 ^ 256 < 256 := by omega
    simp [h, this]
  · rename_i h; simp [h]
theorem shrN_testBit (s x j : Nat) : (shrN s x).testBit j = (decide (s % 2 ^ 256 < 256) && decide (j + s % 2 ^ 256 < 256) && x.testBit (j + s % 2 ^ 256)) := by
  unfold shrN
  split
  · rename_i h
    rw [Nat.testBit_div_two_pow, Nat.testBit_mod_two_pow]
    simp [h]
  · rename_i h; simp [h]
theorem shl_lim {s wh pt : Nat} (x i : Nat) (h : s % 2 ^ 256 = 64 * wh + pt) (hp : pt < 64) (hw : wh < 4) (hi : i < 4) :
    lim (shlN s x) i = if i < wh then 0 else (lim x (i - wh) * 2 ^ pt % 18446744073709551616) ||| (if wh < i then lim x (i - wh - 1) / 2 ^ (64 - pt) else 0) := by
  refine (lim_bits fun j => ?_).symm
  by_cases hj : j < 64
  · rw [shlN_testBit _ _ _ (by omega), h]
    simp only [hj, decide_true, Bool.true_and, show decide (64 * wh + pt < 256) = true from decide_eq_true (by omega)]
    split
    · rename_i h1
      rw [show decide (64 * wh + pt ≤ 64 * i + j) = false from decide_eq_false (by omega)]
      simp
    · rename_i h1
      rw [Nat.testBit_or, show (18446744073709551616 : Nat) = 2 ^ 64 by decide, Nat.testBit_mod_two_pow, Nat.testBit_mul_two_pow, lim_testBit]
      by_cases h2 : pt ≤ j
      · have e3 : 64 * (i - wh) + (j - pt) = 64 * i + j - (64 * wh + pt) := by omega
        have h4 : j - pt < 64 := by omega
        have h6 : 64 * wh + pt ≤ 64 * i + j := by omega
        have h5 : (if wh < i then lim x (i - wh - 1) / 2 ^ (64 - pt) else 0).testBit j = false := by
          split
          · rw [Nat.testBit_div_two_pow, lim_testBit, show decide (j + (64 - pt) < 64) = false from decide_eq_false (by omega)]; rfl
          · simp
        rw [h5, e3]
        simp [hj, h2, h4, h6]
      · have h5 : decide (pt ≤ j) = false := decide_eq_false h2
        rw [h5]
        by_cases h6 : wh < i
        · rw [if_pos h6, Nat.testBit_div_two_pow, lim_testBit]
          have e3 : 64 * (i - wh - 1) + (j + (64 - pt)) = 64 * i + j - (64 * wh + pt) := by omega
          have h7 : j + (64 - pt) < 64 := by omega
          have h8 : 64 * wh + pt ≤ 64 * i + j := by omega
          rw [e3]
          simp [h7, h8]
        · rw [if_neg h6, show decide (64 * wh + pt ≤ 64 * i + j) = false from decide_eq_false (by omega)]
          simp
  · rw [show decide (j < 64) = false from decide_eq_false hj]
    simp only [Bool.false_and]
    split
    · simp
    · rw [Nat.testBit_or, show (18446744073709551616 : Nat) = 2 ^ 64 by decide, Nat.testBit_mod_two_pow, show decide (j < 64) = false from decide_eq_false hj]
      split
      · rw [Nat.testBit_div_two_pow, lim_testBit, show decide (j + (64 - pt) < 64) = false from decide_eq_false (by omega)]; rfl
      · simp
theorem shr_lim {s wh pt : Nat} (x i : Nat) (h : s % 2 ^ 256 = 64 * wh + pt) (hp : pt < 64) (hw : wh < 4) (hi : i < 4) :
    lim (shrN s x) i = if i + wh < 4 then (lim x (i + wh) / 2 ^ pt) ||| (if i + wh < 3 then lim x (i + wh + 1) * 2 ^ (64 - pt) % 18446744073709551616 else 0) else 0 := by
  refine (lim_bits fun j => ?_).symm
  rw [shrN_testBit, h]
  by_cases hj : j < 64
  · simp only [hj, decide_true, Bool.true_and, show decide (64 * wh + pt < 256) = true from decide_eq_true (by omega)]
    split
    · rename_i h1
      rw [Nat.testBit_or, Nat.testBit_div_two_pow, lim_testBit]
      by_cases h2 : j + pt < 64
      · have h3 : (if i + wh < 3 then lim x (i + wh + 1) * 2 ^ (64 - pt) % 18446744073709551616 else 0).testBit j = false := by
          split
          · rw [show (18446744073709551616 : Nat) = 2 ^ 64 by decide, Nat.testBit_mod_two_pow, Nat.testBit_mul_two_pow, show decide (64 - pt ≤ j) = false from decide_eq_false (by omega)]; simp
          · simp
        have e3 : 64 * (i + wh) + (j + pt) = 64 * i + j + (64 * wh + pt) := by omega
        have h4 : 64 * i + j + (64 * wh + pt) < 256 := by omega
        rw [h3, e3]
        simp [h2, h4]
      · rw [show decide (j + pt < 64) = false from decide_eq_false h2]
        by_cases h6 : i + wh < 3
        · rw [if_pos h6, show (18446744073709551616 : Nat) = 2 ^ 64 by decide, Nat.testBit_mod_two_pow, Nat.testBit_mul_two_pow, lim_testBit]
          have e3 : 64 * (i + wh + 1) + (j - (64 - pt)) = 64 * i + j + (64 * wh + pt) := by omega
          have h7 : 64 - pt ≤ j := by omega
          have h8 : 64 * i + j + (64 * wh + pt) < 256 := by omega
          have h9 : j - (64 - pt) < 64 := by omega
          rw [e3]
          simp [hj, h7, h8, h9]
        · rw [if_neg h6, show decide (64 * i + j + (64 * wh + pt) < 256) = false from decide_eq_false (by omega)]
          simp
    · rename_i h1
      rw [show decide (64 * i + j + (64 * wh + pt) < 256) = false from decide_eq_false (by omega)]
      simp
  · rw [show decide (j < 64) = false from decide_eq_false hj]
    simp only [Bool.false_and]
    split
    · rw [Nat.testBit_or, Nat.testBit_div_two_pow, lim_testBit, show decide (j + pt < 64) = false from decide_eq_false (by omega)]
      split
      · rw [show (18446744073709551616 : Nat) = 2 ^ 64 by decide, Nat.testBit_mod_two_pow, show decide (j < 64) = false from decide_eq_false hj]; rfl
      · simp
    · simp
theorem shrN_zero (s x : Nat) (h : ¬ s % 2 ^ 256 < 256) : shrN s x = 0 := by unfold shrN; rw [if_neg h]
theorem shlN_zero (s x : Nat) (h : ¬ s % 2 ^ 256 < 256) : shlN s x = 0 := by unfold shlN; rw [if_neg h]

/-! ### Signs -/
def sgn (x : Nat) : Prop := 2 ^ 255 ≤ x % 2 ^ 256
instance (x : Nat) : Decidable (sgn x) := inferInstanceAs (Decidable (_ ≤ _))
theorem sgn_lim (x : Nat) : sgn x ↔ lim x 3 / 9223372036854775808 = 1 := by unfold sgn lim; omega
theorem sgn_testBit (x : Nat) : x.testBit 255 = decide (sgn x) := by
  rw [Nat.testBit_eq_decide_div_mod_eq]
  unfold sgn
  exact decide_eq_decide.2 (by omega)
def negN (x : Nat) : Nat := dif 0 x
theorem negN_mod (x : Nat) : negN x % 2 ^ 256 = if x % 2 ^ 256 = 0 then 0 else 2 ^ 256 - x % 2 ^ 256 := by unfold negN dif; split <;> omega
def absN (x : Nat) : Nat := if sgn x then 2 ^ 256 - x % 2 ^ 256 else x % 2 ^ 256
theorem absN_le (x : Nat) : absN x ≤ 2 ^ 255 := by unfold absN; split <;> (rename_i h; unfold sgn at h; omega)
theorem absN_zero (x : Nat) : absN x = 0 ↔ x % 2 ^ 256 = 0 := by unfold absN; split <;> (rename_i h; unfold sgn at h; omega)
def divN (x y : Nat) : Nat := if y % 2 ^ 256 = 0 then 0 else x % 2 ^ 256 / (y % 2 ^ 256)
def modN (x y : Nat) : Nat := if y % 2 ^ 256 = 0 then 0 else x % 2 ^ 256 % (y % 2 ^ 256)
def sdivN (a b : Nat) : Nat := if ¬ (decide (sgn a) = decide (sgn b)) then negN (divN (absN a) (absN b)) else divN (absN a) (absN b)
def smodN (a b : Nat) : Nat := if sgn a then negN (modN (absN a) (absN b)) else modN (absN a) (absN b)
def addmN (a b m : Nat) : Nat := if m % 2 ^ 256 = 0 then 0 else (a % 2 ^ 256 + b % 2 ^ 256) % (m % 2 ^ 256)
def mulmN (a b m : Nat) : Nat := if m % 2 ^ 256 = 0 then 0 else (a % 2 ^ 256 * (b % 2 ^ 256)) % (m % 2 ^ 256)
def sarN (s x : Nat) : Nat := if sgn x then notN (shrN s (notN x)) else shrN s x
def sltP (a b : Nat) : Prop := if ¬ (decide (sgn a) = decide (sgn b)) then sgn a else a % 2 ^ 256 < b % 2 ^ 256
instance (a b : Nat) : Decidable (sltP a b) := by unfold sltP; exact inferInstance
theorem sarN_testBit (s x j : Nat) (hj : j < 256) : (sarN s x).testBit j = if s % 2 ^ 256 < 256 ∧ j + s % 2 ^ 256 < 256 then x.testBit (j + s % 2 ^ 256) else decide (sgn x) := by
  unfold sarN
  split
  · rename_i h
    rw [notN_testBit, shrN_testBit, notN_testBit]
    split
    · rename_i h2; simp [hj, h2.1, h2.2]
    · rename_i h2
      rw [decide_eq_true h, decide_eq_true hj]
      by_cases c1 : s % 2 ^ 256 < 256 <;> by_cases c2 : j + s % 2 ^ 256 < 256
      · exact absurd ⟨c1, c2⟩ h2
      · simp [c2]
      · simp [c1]
      · simp [c1]
  · rename_i h
    rw [shrN_testBit]
    split
    · rename_i h2; simp [h2.1, h2.2]
    · rename_i h2
      rw [decide_eq_false h]
      by_cases c1 : s % 2 ^ 256 < 256 <;> by_cases c2 : j + s % 2 ^ 256 < 256
      · exact absurd ⟨c1, c2⟩ h2
      · simp [c2]
      · simp [c1]
      · simp [c1]

/-! ### Powers -/
def powN (x y : Nat) : Nat := x ^ (y % 2 ^ 256) % 2 ^ 256
/-- By squares, from the lowest bit. -/
theorem pow_low (a b : Nat) (X : Nat) : X * a ^ b % 2 ^ 256 = (if b % 2 = 1 then X * a % 2 ^ 256 else X) * (a * a % 2 ^ 256) ^ (b / 2) % 2 ^ 256 := by
  have e : a ^ b = a ^ (b % 2) * (a * a) ^ (b / 2) := by
    conv => lhs; rw [← Nat.div_add_mod b 2]
    rw [Nat.pow_add, Nat.pow_mul, Nat.pow_two, Nat.mul_comm]
  rw [e, ← Nat.mul_assoc]
  have h2 : ∀ Y, Y * (a * a % 2 ^ 256) ^ (b / 2) % 2 ^ 256 = Y * (a * a) ^ (b / 2) % 2 ^ 256 := fun Y => by
    rw [Nat.mul_mod, ← Nat.pow_mod, ← Nat.mul_mod]
  rw [h2]
  rcases Nat.mod_two_eq_zero_or_one b with h | h
  · rw [h, if_neg (by omega)]; simp
  · rw [h, if_pos rfl, Nat.pow_one, Nat.mul_mod (X * a % 2 ^ 256), Nat.mod_mod, ← Nat.mul_mod]
/-- From the highest bit. -/
theorem pow_high (a E i : Nat) : a ^ (E / 2 ^ i) % 2 ^ 256 = (if E / 2 ^ i % 2 = 1 then (a ^ (E / 2 ^ (i + 1)) % 2 ^ 256 * (a ^ (E / 2 ^ (i + 1)) % 2 ^ 256) % 2 ^ 256 * a) % 2 ^ 256 else a ^ (E / 2 ^ (i + 1)) % 2 ^ 256 * (a ^ (E / 2 ^ (i + 1)) % 2 ^ 256) % 2 ^ 256) := by
  have e1 : E / 2 ^ i / 2 = E / 2 ^ (i + 1) := by rw [Nat.div_div_eq_div_mul, Nat.pow_succ]
  have e : E / 2 ^ i = E / 2 ^ (i + 1) + E / 2 ^ (i + 1) + E / 2 ^ i % 2 := by
    have := Nat.div_add_mod (E / 2 ^ i) 2
    rw [e1] at this
    omega
  have h2 : a ^ (E / 2 ^ i) = a ^ (E / 2 ^ (i + 1)) * a ^ (E / 2 ^ (i + 1)) * a ^ (E / 2 ^ i % 2) := by
    conv => lhs; rw [e]
    rw [Nat.pow_add, Nat.pow_add]
  rw [h2]
  generalize a ^ (E / 2 ^ (i + 1)) = Y
  rw [← Nat.mul_mod Y Y]
  rcases Nat.mod_two_eq_zero_or_one (E / 2 ^ i) with h | h
  · rw [h, if_neg (by omega)]; simp
  · rw [h, if_pos rfl, Nat.pow_one, Nat.mod_mul_mod]
end Go.Fw
set_option linter.unusedVariables false
namespace Go.Fw
open Go
theorem bit_of {z i y j : Nat} (h : z.testBit i = y.testBit j) : z / 2 ^ i % 2 = y / 2 ^ j % 2 := by rw [bit_testBit, bit_testBit, h]
theorem bit_lt (x i : Nat) : x / 2 ^ i % 2 ≤ 1 := by have := Nat.mod_lt (x / 2 ^ i) (show 2 > 0 by omega); omega
theorem ofB_and (x y : Nat) : ofB (fun i => x / 2 ^ i % 2 * (y / 2 ^ i % 2)) = (x &&& y) % 2 ^ 256 := ofB_eq fun i _ => bit_and x y i
theorem ofB_or (x y : Nat) : ofB (fun i => x / 2 ^ i % 2 + y / 2 ^ i % 2 - x / 2 ^ i % 2 * (y / 2 ^ i % 2)) = (x ||| y) % 2 ^ 256 := ofB_eq fun i _ => bit_or x y i
theorem ofB_xor (x y : Nat) : ofB (fun i => (x / 2 ^ i % 2 + y / 2 ^ i % 2) % 2) = (x ^^^ y) % 2 ^ 256 := ofB_eq fun i _ => bit_xor x y i
theorem ofB_not (x : Nat) : ofB (fun i => 1 - x / 2 ^ i % 2) = notN x := by
  rw [ofB_eq (z := notN x) fun i hi => bit_not x i 256 hi]
  exact Nat.mod_eq_of_lt (notN_lt x)
theorem bit_zero (i : Nat) : 0 / 2 ^ i % 2 = 0 := by rw [Nat.zero_div]
theorem ofB_shl (s x k : Nat) (hk : k = min 256 (s % 2 ^ 256)) : ofB (fun i => if k ≤ i then x / 2 ^ (i - k) % 2 else 0) = shlN s x % 2 ^ 256 := ofB_eq fun i hi => by
  rw [bit_testBit, shlN_testBit s x i hi]
  by_cases h : s % 2 ^ 256 < 256
  · have hk2 : k = s % 2 ^ 256 := by omega
    rw [← hk2] at h ⊢
    by_cases h2 : k ≤ i
    · rw [if_pos h2, bit_testBit]; simp [h, h2]
    · rw [if_neg h2]; simp [h2]
  · rw [if_neg (show ¬ k ≤ i by omega)]; simp [h]
theorem ofB_low (s x k : Nat) (hk : k = min 256 (s % 2 ^ 256)) : ofB (fun i => if i + k < 256 then x / 2 ^ (i + k) % 2 else 0) = shrN s x % 2 ^ 256 := ofB_eq fun i hi => by
  rw [bit_testBit, shrN_testBit s x i]
  by_cases h : s % 2 ^ 256 < 256
  · have hk2 : k = s % 2 ^ 256 := by omega
    rw [← hk2] at h ⊢
    by_cases h2 : i + k < 256
    · rw [if_pos h2, bit_testBit]; simp [h, h2]
    · rw [if_neg h2]; simp [h2]
  · rw [if_neg (show ¬ i + k < 256 by omega)]; simp [h]
theorem ofB_sar (s x k : Nat) (hk : k = min 256 (s % 2 ^ 256)) : ofB (fun i => if i + k < 256 then x / 2 ^ (i + k) % 2 else x / 2 ^ 255 % 2) = sarN s x % 2 ^ 256 := ofB_eq fun i hi => by
  rw [bit_testBit, sarN_testBit s x i hi]
  by_cases h : s % 2 ^ 256 < 256 ∧ i + s % 2 ^ 256 < 256
  · rw [if_pos h, if_pos (show i + k < 256 by omega), bit_testBit, show i + k = i + s % 2 ^ 256 by omega]
  · rw [if_neg h, if_neg (show ¬ i + k < 256 by omega), bit_testBit, sgn_testBit]
def sxN (k x : Nat) : Nat := if k % 2 ^ 256 < 31 then sarN (248 - 8 * (k % 2 ^ 256)) (shlN (248 - 8 * (k % 2 ^ 256)) x) else x
theorem ofB_sx (k x n : Nat) (hn : n = k % 2 ^ 256) (h : n < 31) : ofB (fun i => if i < 8 * n + 8 then x / 2 ^ i % 2 else x / 2 ^ (8 * n + 7) % 2) = sxN k x % 2 ^ 256 := ofB_eq fun i hi => by
  unfold sxN
  rw [← hn, if_pos h, bit_testBit]
  have hs : (248 - 8 * n) % 2 ^ 256 = 248 - 8 * n := Nat.mod_eq_of_lt (by omega)
  rw [sarN_testBit _ _ i hi, hs]
  by_cases h2 : i < 8 * n + 8
  · rw [if_pos (show 248 - 8 * n < 256 ∧ i + (248 - 8 * n) < 256 by omega), if_pos h2, shlN_testBit _ _ _ (by omega), hs, bit_testBit, show i + (248 - 8 * n) - (248 - 8 * n) = i by omega]
    have h3 : 248 - 8 * n < 256 := by omega
    have h4 : 248 - 8 * n ≤ i + (248 - 8 * n) := by omega
    simp [h3]
  · rw [if_neg (show ¬ (248 - 8 * n < 256 ∧ i + (248 - 8 * n) < 256) by omega), if_neg h2, ← sgn_testBit, shlN_testBit _ _ _ (by omega), hs, bit_testBit, show 255 - (248 - 8 * n) = 8 * n + 7 by omega]
    have h3 : 248 - 8 * n < 256 := by omega
    have h4 : 248 ≤ 255 + 8 * n := by omega
    simp [h3, h4]
def byteN (i x : Nat) : Nat := if i % 2 ^ 256 < 32 then x / 256 ^ (31 - i % 2 ^ 256) % 256 else 0
/-- Zeros ahead: n of them, where the bit behind is 1. -/
theorem clz_of {x n : Nat} (hn : n ≤ 256) (hz : ∀ t, t < n → x / 2 ^ (255 - t) % 2 = 0) (h : n < 256 → x / 2 ^ (255 - n) % 2 ≠ 0) : n = 256 - bitLen (x % 2 ^ 256) := by
  have hle := bitLen_le256 x
  obtain ⟨h1, h2⟩ := bitLen_spec (x % 2 ^ 256)
  have top : ∀ j, j < 256 → x / 2 ^ j % 2 = x % 2 ^ 256 / 2 ^ j % 2 := fun j hj => by
    rw [bit_testBit, bit_testBit, Nat.testBit_mod_two_pow]; simp [hj]
  generalize hb : bitLen (x % 2 ^ 256) = b at *
  rcases Nat.lt_trichotomy n (256 - b) with h3 | h3 | h3
  · -- the bit at 255 - n is above all
    exfalso
    have := h (by omega)
    rw [top _ (by omega), Nat.div_eq_of_lt] at this
    · simp at this
    · exact Nat.lt_of_lt_of_le h1 (Nat.pow_le_pow_right (by omega) (by omega))
  · exact h3
  · exfalso
    have hb0 : b ≠ 0 := by omega
    have hx : x % 2 ^ 256 ≠ 0 := fun e => by rw [e] at hb; rw [bitLen_zero] at hb; omega
    have h4 := h2 hx
    have h5 := hz (256 - b) h3
    rw [top _ (by omega), show 255 - (256 - b) = b - 1 by omega] at h5
    have h6 : x % 2 ^ 256 / 2 ^ (b - 1) = 1 := by
      have hp : 0 < 2 ^ (b - 1) := Nat.pow_pos (by omega)
      have e : 2 ^ b = 2 ^ (b - 1) * 2 := by rw [← Nat.pow_succ]; congr 1; omega
      have l1 : x % 2 ^ 256 / 2 ^ (b - 1) < 2 := (Nat.div_lt_iff_lt_mul hp).2 (by rw [Nat.mul_comm, ← e]; exact h1)
      have l2 : 1 ≤ x % 2 ^ 256 / 2 ^ (b - 1) := (Nat.le_div_iff_mul_le hp).2 (by omega)
      omega
    rw [h6] at h5; omega
end Go.Fw
set_option linter.unusedVariables false
namespace Go.Fw
open Go
variable {P : Program} {ops : Array Oper} {F : Act → World → Prop} {w0 w w' : World} {M : List Nat} {N : Nf} {L : List (Oper × K)} {σ : List (Nat × Value)} {l lS : List (Nat × Ent)} {k : K} {Q : Exit → Act → World → Prop}
  {d : Option Tmp} {ty : TypeId} {p : String} {af : Array Edge} {v v1 v2 z : Value} {x y c : Operand} {t : TypeId} {kd : IntKind} {n m r : Int} {b : Bool}

/-! ### Scopes without jumps -/
theorem T.scope {c : Code} (h : T P w0 M N (Exit.noGoto Q) c σ l) : T P w0 M N Q (.scope c) σ l := fun a w ha hw => wp_scope_straight (h a w ha hw)
theorem X.scope (h : X w0 M N Q .normal σ l) : X w0 M N (Exit.noGoto Q) .normal σ l := h
theorem X.scope_ret (h : X w0 M N Q .ret σ l) : X w0 M N (Exit.noGoto Q) .ret σ l := h
theorem X.scope_exit {id : Nat} (h : X w0 M N Q (.exit id) σ l) : X w0 M N (Exit.noGoto Q) (.exit id) σ l := h

/-! ### An array out of a slice -/
theorem J.toArr {len e q cap : Nat} {A : Option Addr} (ht : P.underlying t = some (.array len e)) (hx : ev σ x = some (.slice A q cap)) (hq : len ≤ q) (hd : okd N d) (h : J P ops F w0 M N lS L (putd d (.pointer A) σ) l) :
    J P ops F w0 M N lS ((⟨d, .sliceToArrayPointer t x, ty, p, af, none⟩, k) :: L) σ l :=
  J.pure rfl hd _ (fun a ha w => by
    have : ¬ q < len := by omega
    simp [execOp, ha.eval hx, Instr.arrayAt, run_underlying ht, this]) h

/-! ### Function values -/
theorem run_callV {f : FuncId} (hf : FnOk P f) {xs : Array Operand} {tys : Array TypeId} {args cap : List Value} {a : Act} (ha : Has N σ a) (hy : ev σ y = some (.func (.func f) #[] cap.toArray)) (hx : evs σ xs.toList = some args) (w : World) :
    (execOp a.eval ⟨d, .call ⟨.value y, xs, tys⟩, ty, p, af, none⟩).run P w = .ok (.enter f (args ++ cap).toArray) w := by
  have h1 : xs.map a.eval = args.toArray := by rw [← ha.evals hx, ← Array.toList_map, Array.toArray_toList]
  simp [execOp, resolve, ha.eval hy, Deferred.ofValue, invoke, h1, run_callFunc_enter hf]
/-- A call of a function value. -/
theorem J.callV {f : FuncId} (hf : FnOk P f) {xs : Array Operand} {tys : Array TypeId} {args cap : List Value} (hy : ev σ y = some (.func (.func f) #[] cap.toArray)) (hx : evs σ xs.toList = some args) (hd : okd N d) {ι : Type} (φ : ι → Prop) (vf : ι → Value) (M' : List Nat) (lf : ι → List (Nat × Ent))
    (spec : ∀ w, WS w0 M l w → Calls P f (args ++ cap).toArray w fun e w' => ∃ i, φ i ∧ e = .returned (vf i) ∧ WS w M' (lf i) w')
    (hM : ∀ i, φ i → ∀ g ∈ M', ∃ k e e2, lk l k = some e ∧ e.id = some g ∧ lk (lf i) k = some e2)
    (hh : ∀ i k e, lk (lf i) k = some e → lk lS k = none)
    (hJ : ∀ i, φ i → J P ops F w0 M N lS L (putd d (vf i) σ) (lf i ++ l)) :
    J P ops F w0 M N lS ((⟨d, .call ⟨.value y, xs, tys⟩, ty, p, af, none⟩, .l) :: L) σ l :=
  J.loud rfl hd φ vf (fun i => lf i ++ l) (fun i _ hs => hs.freshs (hh i)) (fun a ha w hw => by
    rw [run_callV hf ha hy hx w]
    exact (spec w hw).mono fun e w' ⟨i, hi, he, h2⟩ => ⟨vf i, he, i, hi, rfl, hw.join h2 (hM i hi)⟩) hJ
theorem J.callV0 {f : FuncId} (hf : FnOk P f) {xs : Array Operand} {tys : Array TypeId} {args cap : List Value} (hy : ev σ y = some (.func (.func f) #[] cap.toArray)) (hx : evs σ xs.toList = some args) (hd : okd N d)
    (spec : ∀ w, WS w0 M l w → Calls P f (args ++ cap).toArray w fun e w' => e = .returned v ∧ WS w [] [] w') (hJ : J P ops F w0 M N lS L (putd d v σ) l) :
    J P ops F w0 M N lS ((⟨d, .call ⟨.value y, xs, tys⟩, ty, p, af, none⟩, .l) :: L) σ l :=
  J.callV hf hy hx hd (ι := Unit) (fun _ => True) (fun _ => v) [] (fun _ => []) (fun w hw => (spec w hw).mono fun e w' ⟨he, h2⟩ => ⟨(), trivial, he, h2⟩) (fun _ _ g hg => by simp at hg) (fun _ k e he => by simp [lk] at he) (fun _ _ => hJ)
/-- A function that keeps one cell: 'two', 'is'. -/
def ClosPost (w : World) (t : TypeId) (f : FuncId) (fv : Value) (e : Ending) (w' : World) : Prop := ∃ g, w.heap.size ≤ g ∧ e = .returned (.func (.func f) #[] [.pointer (some ⟨g, 0, none⟩)].toArray) ∧ WS w [] [(0, ⟨some g, t, [fv]⟩)] w'
theorem J.callClos (h : Nat) (hh : lk lS h = none) {fv : Value} {f f2 : FuncId} (hf : FnOk P f) {xs : Array Operand} {tys : Array TypeId} {args : List Value} (hy : ev σ y = some (.func (.func f) #[] ([] : List Value).toArray)) (hx : evs σ xs.toList = some args) (hd : okd N d)
    (spec : ∀ w, WS w0 M l w → Calls P f (args ++ []).toArray w (ClosPost w t f2 fv))
    (hJ : ∀ g, w0.heap.size ≤ g → J P ops F w0 M N lS L (putd d (.func (.func f2) #[] [.pointer (some ⟨g, 0, none⟩)].toArray) σ) ((h, ⟨some g, t, [fv]⟩) :: l)) :
    J P ops F w0 M N lS ((⟨d, .call ⟨.value y, xs, tys⟩, ty, p, af, none⟩, .l) :: L) σ l :=
  J.callV hf hy hx hd (ι := Nat) (fun g => w0.heap.size ≤ g) (fun g => .func (.func f2) #[] [.pointer (some ⟨g, 0, none⟩)].toArray) [] (fun g => [(h, ⟨some g, t, [fv]⟩)])
    (fun w hw => (spec w hw).mono fun e w' ⟨g, hg, he, h2⟩ => ⟨g, Nat.le_trans hw.size hg, he, h2.rename h⟩) (fun _ _ g hg => by simp at hg) (fun i k e he => by
      rw [lk_cons] at he
      split at he
      · rename_i hk; subst hk; exact hh
      · simp [lk] at he) (fun i hi => hJ i hi)
/-- A function value that reckons with three words. -/
def FnSpec (P : Program) (w : World) (fv : Value) (S : Nat → Nat → Nat → Nat) : Prop :=
  ∃ (f : FuncId) (cap : List Value), FnOk P f ∧ fv = .func (.func f) #[] cap.toArray ∧ ∀ w', WS w [] [] w' → ∀ a b c, Calls P f ([W a, W b, W c] ++ cap).toArray w' fun e w'' => e = .returned (W (S a b c)) ∧ WS w' [] [] w''
theorem FnSpec.ws {fv : Value} {S : Nat → Nat → Nat → Nat} (h : FnSpec P w0 fv S) (hw : WS w0 [] l w) : FnSpec P w fv S := by
  obtain ⟨f, cap, h1, h2, h3⟩ := h
  refine ⟨f, cap, h1, h2, fun w' hw' => h3 w' ?_⟩
  have := (hw.sub (Sub.nil _)).join hw' (fun g hg => by simp at hg)
  exact this.sub (Sub.nil _)

/-! ### Two rows handed back -/
def Rows2Post (w : World) (t : TypeId) (kd : IntKind) (φ : List Nat → List Nat → Prop) (e : Ending) (w' : World) : Prop :=
  ∃ zs ys : List Nat, φ zs ys ∧ ∃ r s : RowIx, r.Ok 1 zs.length ∧ s.Ok 1 ys.length ∧ e = .returned (.tuple #[r.val zs.length, s.val ys.length]) ∧ WS w [] [(0, r.ent t (rowN kd zs)), (1, s.ent t (rowN kd ys))] w'
theorem J.callRows2 (i j : Nat) (hij : i ≠ j) (hi : lk lS i = none) (hj : lk lS j = none) {f : FuncId} (hf : FnOk P f) {xs : Array Operand} {tys : Array TypeId} {args : List Value} (hx : evs σ xs.toList = some args) (hd : okd N d) {φ : List Nat → List Nat → Prop}
    (spec : ∀ w, WS w0 M l w → Calls P f args.toArray w (Rows2Post w t kd φ))
    (hJ : ∀ (zs ys : List Nat) (r s : RowIx), φ zs ys → r.Ok 1 zs.length → s.Ok 1 ys.length → J P ops F w0 M N lS L (putd d (.tuple [r.val zs.length, s.val ys.length].toArray) σ) ((i, r.ent t (rowN kd zs)) :: (j, s.ent t (rowN kd ys)) :: l)) :
    J P ops F w0 M N lS ((⟨d, .call ⟨.value (.func f), xs, tys⟩, ty, p, af, none⟩, .l) :: L) σ l :=
  J.call hf hx hd (ι := (List Nat × List Nat) × (RowIx × RowIx)) (fun q => φ q.1.1 q.1.2 ∧ q.2.1.Ok 1 q.1.1.length ∧ q.2.2.Ok 1 q.1.2.length) (fun q => .tuple [q.2.1.val q.1.1.length, q.2.2.val q.1.2.length].toArray) [] (fun q => [(i, q.2.1.ent t (rowN kd q.1.1)), (j, q.2.2.ent t (rowN kd q.1.2))])
    (fun w hw => (spec w hw).mono fun e w' ⟨zs, ys, hz, r, s, hr, hs, he, h2⟩ => ⟨((zs, ys), (r, s)), ⟨hz, hr, hs⟩, he, h2.pairOf 0 1 rfl rfl (by omega) i j hij⟩) (fun _ _ g hg => by simp at hg) (fun q k e he => by
      rw [lk_cons, lk_cons] at he
      split at he
      · rename_i hk; subst hk; exact hi
      · split at he
        · rename_i hk; subst hk; exact hj
        · simp [lk] at he) (fun q hq => hJ q.1.1 q.1.2 q.2.1 q.2.2 hq.1 hq.2.1 hq.2.2)

theorem W_small {a : Nat} (h : a < 18446744073709551616) : Value.agg ([.int .u64 (a : Int), .int .u64 0, .int .u64 0, .int .u64 0] : List Value).toArray = W a := by
  have e : wl a = [a, 0, 0, 0] := by
    have e0 : lim a 0 = a := by unfold lim; omega
    have e1 : lim a 1 = 0 := by unfold lim; omega
    have e2 : lim a 2 = 0 := by unfold lim; omega
    have e3 : lim a 3 = 0 := by unfold lim; omega
    unfold wl; rw [e0, e1, e2, e3]
  show _ = Value.agg (rowN .u64 (wl a)).toArray
  rw [e]; rfl

/-! ### Eight parts -/
def lg (V : Nat) : List Nat := [lim V 0, lim V 1, lim V 2, lim V 3, lim V 4, lim V 5, lim V 6, lim V 7]
abbrev lc (V : Nat) : List Value := rowN .u64 (lg V)
theorem lg_length (V : Nat) : (lg V).length = 8 := rfl
theorem lg_get (V i : Nat) (h : i < 8) : (lg V).getD i 0 = lim V i := by
  match i, h with
  | 0, _ => rfl
  | 1, _ => rfl
  | 2, _ => rfl
  | 3, _ => rfl
  | 4, _ => rfl
  | 5, _ => rfl
  | 6, _ => rfl
  | 7, _ => rfl
theorem list8 {ys : List Nat} (h : ys.length = 8) : ys = [ys.getD 0 0, ys.getD 1 0, ys.getD 2 0, ys.getD 3 0, ys.getD 4 0, ys.getD 5 0, ys.getD 6 0, ys.getD 7 0] := by
  match ys, h with
  | [_, _, _, _, _, _, _, _], _ => rfl
theorem lg_of {ps : List Nat} (h : ps.length = 8) (hd : Dq 18446744073709551616 ps) : ps = lg (vq 18446744073709551616 ps) := by
  have g : ∀ i, ps.getD i 0 = lim (vq 18446744073709551616 ps) i := fun i => vq_get (by omega) hd i
  conv => lhs; rw [list8 h]
  rw [g 0, g 1, g 2, g 3, g 4, g 5, g 6, g 7]; rfl
theorem lc_take (V : Nat) : (lc V).take 4 = wc V := rfl
theorem lim_hi {V i j : Nat} (h : V < 18446744073709551616 ^ i) (hj : i ≤ j) : lim V j = 0 := by
  unfold lim
  rw [Nat.div_eq_of_lt (Nat.lt_of_lt_of_le h (Nat.pow_le_pow_right (by omega) hj))]
theorem lg_wide {x c : Nat} (hc : c < 18446744073709551616) : [lim x 0, lim x 1, lim x 2, lim x 3, c, 0, 0, 0] = lg (x % 2 ^ 256 + c * 2 ^ 256) := by
  have e0 : lim (x % 2 ^ 256 + c * 2 ^ 256) 0 = lim x 0 := by unfold lim; omega
  have e1 : lim (x % 2 ^ 256 + c * 2 ^ 256) 1 = lim x 1 := by unfold lim; omega
  have e2 : lim (x % 2 ^ 256 + c * 2 ^ 256) 2 = lim x 2 := by unfold lim; omega
  have e3 : lim (x % 2 ^ 256 + c * 2 ^ 256) 3 = lim x 3 := by unfold lim; omega
  have e4 : lim (x % 2 ^ 256 + c * 2 ^ 256) 4 = c := by unfold lim; omega
  have hlt : x % 2 ^ 256 + c * 2 ^ 256 < 18446744073709551616 ^ 5 := by omega
  unfold lg
  rw [e0, e1, e2, e3, e4, lim_hi hlt (by omega), lim_hi hlt (by omega), lim_hi hlt (by omega)]
theorem lim_small_top {V t : Nat} (h : V < 18446744073709551616 ^ (t + 1)) (hz : lim V t = 0) : V < 18446744073709551616 ^ t := by
  have hp : 0 < 18446744073709551616 ^ t := Nat.pow_pos (by omega)
  have h2 : V / 18446744073709551616 ^ t < 18446744073709551616 := (Nat.div_lt_iff_lt_mul hp).2 (by rw [Nat.mul_comm, ← Nat.pow_succ]; exact h)
  unfold lim at hz
  rw [Nat.mod_eq_of_lt h2] at hz
  rcases Nat.lt_or_ge V (18446744073709551616 ^ t) with h3 | h3
  · exact h3
  · have := (Nat.le_div_iff_mul_le hp).2 (show 1 * 18446744073709551616 ^ t ≤ V by omega)
    omega
theorem lim_bit (V i k : Nat) (hk : k < 64) : lim V i / 2 ^ k % 2 = V / 2 ^ (64 * i + k) % 2 := by
  rw [bit_testBit, bit_testBit, lim_testBit]; simp [hk]

/-! ### 64 bits times 64 bits -/
theorem u64_and_mask (a m j : Nat) (ha : a < 18446744073709551616) (hm : m = 2 ^ j - 1) (hj : j ≤ 63) : bits .and .u64 (a : Int) (m : Int) = ((a % 2 ^ j : Nat) : Int) := by
  have hm2 : m < 18446744073709551616 := by
    have : (2 : Nat) ^ j ≤ 2 ^ 63 := Nat.pow_le_pow_right (by omega) hj
    have : 0 < (2 : Nat) ^ j := Nat.pow_pos (by omega)
    omega
  rw [u64_and_nat a m ha hm2, hm, Nat.and_two_pow_sub_one_eq_mod]
theorem u64_and32 (a : Nat) (ha : a < 18446744073709551616) : bits .and .u64 (a : Int) 4294967295 = ((a % 4294967296 : Nat) : Int) := u64_and_mask a 4294967295 32 ha (by decide) (by omega)
theorem u64_and1 (a : Nat) (ha : a < 18446744073709551616) : bits .and .u64 (a : Int) 1 = ((a % 2 : Nat) : Int) := u64_and_mask a 1 1 ha (by decide) (by omega)
theorem u64_and15 (a : Nat) (ha : a < 18446744073709551616) : bits .and .u64 (a : Int) 15 = ((a % 16 : Nat) : Int) := u64_and_mask a 15 4 ha (by decide) (by omega)
theorem mulw_nat (a b : Nat) : IntKind.u64.wrap ((a : Int) * (b : Int)) = ((a * b % 18446744073709551616 : Nat) : Int) := by rw [← Int.natCast_mul]; exact wrapu_nat _
theorem mul64 (x y : Nat) (hx : x < 18446744073709551616) (hy : y < 18446744073709551616) :
    (x % 4294967296) * (y % 4294967296) ≤ 18446744065119617025 ∧ (x / 4294967296) * (y % 4294967296) ≤ 18446744065119617025 ∧ (x % 4294967296) * (y / 4294967296) ≤ 18446744065119617025 ∧ (x / 4294967296) * (y / 4294967296) ≤ 18446744065119617025 ∧
    (x / 4294967296) * (y / 4294967296) + ((x / 4294967296) * (y % 4294967296) + (x % 4294967296) * (y % 4294967296) / 4294967296) / 4294967296 + (((x / 4294967296) * (y % 4294967296) + (x % 4294967296) * (y % 4294967296) / 4294967296) % 4294967296 + (x % 4294967296) * (y / 4294967296)) / 4294967296 = x * y / 18446744073709551616 ∧
    x * y ≤ 340282366920938463426481119284349108225 := by
  have a1 : x % 4294967296 ≤ 4294967295 := by omega
  have a2 : x / 4294967296 ≤ 4294967295 := by omega
  have b1 : y % 4294967296 ≤ 4294967295 := by omega
  have b2 : y / 4294967296 ≤ 4294967295 := by omega
  have m1 : (x % 4294967296) * (y % 4294967296) ≤ 4294967295 * 4294967295 := Nat.mul_le_mul a1 b1
  have m2 : (x / 4294967296) * (y % 4294967296) ≤ 4294967295 * 4294967295 := Nat.mul_le_mul a2 b1
  have m3 : (x % 4294967296) * (y / 4294967296) ≤ 4294967295 * 4294967295 := Nat.mul_le_mul a1 b2
  have m4 : (x / 4294967296) * (y / 4294967296) ≤ 4294967295 * 4294967295 := Nat.mul_le_mul a2 b2
  have m5 : x * y ≤ 18446744073709551615 * 18446744073709551615 := Nat.mul_le_mul (by omega) (by omega)
  have ex : x = x / 4294967296 * 4294967296 + x % 4294967296 := by omega
  have ey : y = y / 4294967296 * 4294967296 + y % 4294967296 := by omega
  have e : x * y = (x / 4294967296) * (y / 4294967296) * 18446744073709551616 + ((x / 4294967296) * (y % 4294967296) + (x % 4294967296) * (y / 4294967296)) * 4294967296 + (x % 4294967296) * (y % 4294967296) := by
    conv => lhs; rw [ex, ey]
    generalize x / 4294967296 = a
    generalize x % 4294967296 = b
    generalize y / 4294967296 = c
    generalize y % 4294967296 = d
    rw [Nat.add_mul, Nat.mul_add, Nat.mul_add, Nat.add_mul]
    have h1 : a * 4294967296 * (c * 4294967296) = a * c * 18446744073709551616 := by
      rw [Nat.mul_assoc, Nat.mul_left_comm 4294967296 c, ← Nat.mul_assoc a c]
    have h2 : a * 4294967296 * d = a * d * 4294967296 := by rw [Nat.mul_assoc, Nat.mul_comm 4294967296 d, ← Nat.mul_assoc]
    have h3 : b * (c * 4294967296) = b * c * 4294967296 := by rw [← Nat.mul_assoc]
    rw [h1, h2, h3]
    omega
  refine ⟨by omega, by omega, by omega, by omega, ?_, by omega⟩
  rw [e]
  generalize (x / 4294967296) * (y / 4294967296) = p at *
  generalize (x / 4294967296) * (y % 4294967296) = q at *
  generalize (x % 4294967296) * (y / 4294967296) = s at *
  generalize (x % 4294967296) * (y % 4294967296) = t at *
  omega
/-- A product added to what stands there. -/
theorem mac {p c P : Nat} (hp : p < 18446744073709551616) (hc : c < 18446744073709551616) (hP : P ≤ 340282366920938463426481119284349108225) :
    P / 18446744073709551616 + (P % 18446744073709551616 + p) / 18446744073709551616 ≤ 18446744073709551615 ∧
    P / 18446744073709551616 + (P % 18446744073709551616 + p) / 18446744073709551616 + ((P % 18446744073709551616 + p) % 18446744073709551616 + c) / 18446744073709551616 ≤ 18446744073709551615 ∧
    ((P % 18446744073709551616 + p) % 18446744073709551616 + c) % 18446744073709551616 = (p + P + c) % 18446744073709551616 ∧
    P / 18446744073709551616 + (P % 18446744073709551616 + p) / 18446744073709551616 + ((P % 18446744073709551616 + p) % 18446744073709551616 + c) / 18446744073709551616 = (p + P + c) / 18446744073709551616 := by omega
theorem mod_succ_lim (X i : Nat) : X % 18446744073709551616 ^ (i + 1) = X % 18446744073709551616 ^ i + lim X i * 18446744073709551616 ^ i := by
  unfold lim
  rw [Nat.pow_succ, Nat.mod_mul, Nat.mul_comm (18446744073709551616 ^ i)]
theorem lim_mod256 (x i : Nat) (h : i < 4) : lim (x % 2 ^ 256) i = lim x i := lim_mod x i h
/-- Twice a word and a bit. -/
def lw (x b i : Nat) : Nat := if i = 0 then b else lim x (i - 1) / 9223372036854775808
theorem lw_le (x b i : Nat) (hb : b ≤ 1) : lw x b i ≤ 1 := by
  unfold lw; split
  · exact hb
  · have := lim_lt x (i - 1); omega
theorem dbl_lim (x b i : Nat) (hb : b ≤ 1) (hi : i < 4) : (lim x i * 2 % 18446744073709551616) ||| lw x b i = lim (2 * x + b) i := by
  have hw := lw_le x b i hb
  have h1 : (lim x i * 2 % 18446744073709551616) % 2 ^ 1 = 0 := by omega
  rw [nat_join 1 _ _ h1 (by omega)]
  unfold lw lim
  match i, hi with
  | 0, _ => simp; omega
  | 1, _ => simp; omega
  | 2, _ => simp; omega
  | 3, _ => simp; omega
theorem neqB_dec (b1 b2 : Bool) : (!(b1 == b2)) = decide (¬ b1 = b2) := by cases b1 <;> cases b2 <;> rfl
theorem eqB_dec (b1 b2 : Bool) : (b1 == b2) = decide (b1 = b2) := by cases b1 <;> cases b2 <;> rfl
theorem pow_low' (a b X : Nat) : X * a ^ b % 2 ^ 256 = (if b % 2 = 1 then X * a else X) * (a * a) ^ (b / 2) % 2 ^ 256 := by
  have e : a ^ b = a ^ (b % 2) * (a * a) ^ (b / 2) := by
    conv => lhs; rw [← Nat.div_add_mod b 2]
    rw [Nat.pow_add, Nat.pow_mul, Nat.pow_two, Nat.mul_comm]
  rw [e, ← Nat.mul_assoc]
  rcases Nat.mod_two_eq_zero_or_one b with h | h
  · rw [h, if_neg (by omega)]; simp
  · rw [h, if_pos rfl, Nat.pow_one]
theorem shrN_one (b : Nat) (h : b < 2 ^ 256) : shrN 1 b = b / 2 := by
  unfold shrN
  rw [show 1 % 2 ^ 256 = 1 by decide, if_pos (by omega), Nat.pow_one, Nat.mod_eq_of_lt h]
theorem shr32_nat (a : Nat) : ((a : Int)).fdiv (2 ^ min ((32 : Int)).toNat IntKind.u64.bits) = ((a / 4294967296 : Nat) : Int) := shr_nat a 32 (by omega)
theorem shr63_nat (a : Nat) : ((a : Int)).fdiv (2 ^ min ((63 : Int)).toNat IntKind.u64.bits) = ((a / 9223372036854775808 : Nat) : Int) := shr_nat a 63 (by omega)
theorem shl1_nat (a : Nat) : IntKind.u64.wrap ((a : Int) * 2 ^ min ((1 : Int)).toNat IntKind.u64.bits) = ((a * 2 % 18446744073709551616 : Nat) : Int) := shl_nat' a 1 (by omega)
theorem lg_dq (V : Nat) : Dq 18446744073709551616 (lg V) := by
  intro y hy
  unfold lg at hy
  simp at hy
  rcases hy with rfl | rfl | rfl | rfl | rfl | rfl | rfl | rfl <;> exact lim_lt _ _
theorem lg_zero : vq 18446744073709551616 (lg 0) = 0 := by decide +kernel
theorem lg_zero_get (q : Nat) : (lg 0).getD q 0 = 0 := by
  rcases Nat.lt_or_ge q 8 with h | h
  · rw [lg_get 0 q h]; unfold lim; simp
  · exact getD_far _ _ (by rw [lg_length]; exact h)
theorem retW {a b : Nat} (h : a % 2 ^ 256 = b % 2 ^ 256) : Ending.returned (Value.agg (wc a).toArray) = .returned (W b) := congrArg Ending.returned (W_congr h)
theorem J.add64z {f : FuncId} {fn : Func} {x y : Operand} {tys : Array TypeId} (hf : P.funcs[f]? = some fn) (hname : (fn.name == "runtime.NumGoroutine") = false) (hb : fn.body.isNone = true) (hn : Extern.findNext fn = none) (he : Extern.find fn = some add64Entry) {a1 a2 : Nat}
    (hx : ev σ x = some (.int .u64 (a1 : Int))) (hy : ev σ y = some (.int .u64 (a2 : Int))) (hd : okd N d)
    (h : J P ops F w0 M N lS L (putd d (.tuple [.int .u64 (((a1 + a2) % 18446744073709551616 : Nat) : Int), .int .u64 (((a1 + a2) / 18446744073709551616 : Nat) : Int)].toArray) σ) l) :
    J P ops F w0 M N lS ((⟨d, .call ⟨.value (.func f), #[x, y, .const (.int .u64 0)], tys⟩, ty, p, af, none⟩, k) :: L) σ l :=
  J.add64 hf hname hb hn he (cc := 0) hx hy rfl (by omega) hd h
theorem wc_at (x i : Nat) (h : i < 4) : (wc x)[0 + i * 1]? = some (.int .u64 ((lim x i : Nat) : Int)) := by
  have := rowN_get0 .u64 (wl x) i (by rw [wl_length]; exact h)
  rw [wl_get x i h] at this
  exact this
theorem lc_at (x i : Nat) (h : i < 8) : (lc x)[0 + i * 1]? = some (.int .u64 ((lim x i : Nat) : Int)) := by
  have := rowN_get0 .u64 (lg x) i (by rw [lg_length]; exact h)
  rw [lg_get x i h] at this
  exact this
theorem hb_high {Q J : Nat} (h : 256 ≤ J) : hb Q J % 2 ^ 256 = 0 := by
  unfold hb
  rw [show J = 256 + (J - 256) by omega, Nat.pow_add 2 256, Nat.mul_left_comm]
  exact Nat.mul_mod_right _ _
theorem shl_one (k : Nat) (h : k < 64) : IntKind.u64.wrap ((1 : Int) * 2 ^ min ((k : Int)).toNat IntKind.u64.bits) = ((2 ^ k : Nat) : Int) := by
  have := shl_nat 1 k ⟨by omega, by rw [Nat.one_mul]; exact Nat.lt_of_lt_of_le (Nat.pow_lt_pow_right (by omega) h) (by decide)⟩
  rw [Nat.one_mul] at this
  exact this
theorem lim_congr {x y : Nat} (h : x % 2 ^ 256 = y % 2 ^ 256) {i : Nat} (hi : i < 4) : lim x i = lim y i := by rw [← lim_mod x i hi, h, lim_mod y i hi]
/-- One bit more of a quotient. -/
theorem hb_set {Q G i k : Nat} (hi : i < 4) (hk : k < 64) (hQ : Q % 2 ^ 256 = hb G (64 * i + (k + 1)) % 2 ^ 256) (hbit : G / 2 ^ (64 * i + k) % 2 = 1) : (wl Q).set i (lim Q i ||| 2 ^ k) = wl (hb G (64 * i + k)) := by
  have e1 : (64 * i + k) / 64 = i := by omega
  have e2 : (64 * i + k) % 64 = k := by omega
  refine wl_of (by rw [List.length_set, wl_length]) _ (fun q hq => ?_)
  rw [getD_set _ _ _ _ (by rw [wl_length]; exact hi)]
  split
  · rename_i h
    subst h
    have := hb_lim G (64 * i + k)
    rw [e1, e2, hbit, Nat.one_mul] at this
    rw [this, lim_congr hQ hi, Nat.add_assoc]
  · rename_i h
    rw [wl_get _ _ hq, hb_lim_other G (64 * i + k) q (by rw [e1]; exact h), lim_congr hQ hq, Nat.add_assoc]
theorem lim3_top (R : Nat) : lim R 3 / 9223372036854775808 = R % 2 ^ 256 / 2 ^ 255 := by unfold lim; omega
/-- A store of what lies there. -/
theorem J.storeSame (h : Nat) {e : Ent} {o : Nat} (he : lk l h = some e) (hx : ev σ x = some (.pointer (some ⟨e.id.getD 0, o, none⟩))) (hy : ev σ y = some v) (vs : List Value) (hv : v.cells = vs.toArray) (hs : (P.info? t).map (·.size) = some vs.length)
    (hfit : o + vs.length ≤ e.cs.length) (h1 : ∀ u ∈ vs, u.oneCell' = true) (hne : 0 < vs.length) (hd : okd N d) (hcs : put e.cs o vs = e.cs)
    (hJ : J P ops F w0 M N lS L (putd d undef σ) l) : J P ops F w0 M N lS ((⟨d, .store t x y, ty, p, af, none⟩, .l) :: L) σ l :=
  J.loud rfl hd (ι := Unit) (fun _ => True) (fun _ => undef) (fun _ => l) (fun _ _ hs => hs) (fun a ha w hw => by
    have hat := hw.live h e he
    cases hid : e.id with
    | none =>
      simp only [Ent.At, hid] at hat
      rw [hat.1] at hfit
      simp at hfit
      simp [hfit.2] at hne
    | some g =>
      rw [hid] at hx
      simp only [Option.getD_some] at hx
      have hst := run_store_ent (P := P) hid hat vs hfit h1
      have hsz : vs.length = v.cells.size := by simp [hv]
      have hset := hw.set he hid (put e.cs o vs)
      have hrun : (execOp a.eval ⟨d, .store t x y, ty, p, af, none⟩).run P w = .ok .skip (w.setRow g (put e.cs o vs).toArray) := by
        simp only [execOp, ha.eval hx, ha.eval hy, Instr.storeAt, Instr.sureAddr, storeVar, Sem.run_bind, Sem.run_pure, Result.andThen, run_sizeOf hs, hsz, ne_eq, not_true_eq_false, if_false, hv, hst]
      rw [hcs] at hset
      rw [hrun, hcs]
      refine ⟨(), trivial, rfl, hset.sub fun n u hn => ?_⟩
      rw [lk_cons]
      split
      · rename_i hk; subst hk; rw [he] at hn; rw [← hn]
      · exact hn) (fun _ _ => hJ)
end Go.Fw
namespace Go.Fw
open Go
theorem and64_nat (a b : Nat) (h : a < 18446744073709551616 ∧ b < 18446744073709551616) : bits .and .u64 (a : Int) (b : Int) = ((a &&& b : Nat) : Int) := u64_and_nat a b h.1 h.2
theorem xor64_nat (a b : Nat) (h : a < 18446744073709551616 ∧ b < 18446744073709551616) : bits .xor .u64 (a : Int) (b : Int) = ((a ^^^ b : Nat) : Int) := u64_xor_nat a b h.1 h.2
theorem xor_ones (a : Nat) (h : a < 18446744073709551616) : 18446744073709551615 ^^^ a = 18446744073709551615 - a := Nat.eq_of_testBit_eq fun j => by
  have := Nat.testBit_two_pow_sub_succ (n := 64) (x := a) h j
  rw [show 18446744073709551615 - a = 2 ^ 64 - (a + 1) by omega, this, Nat.testBit_xor, show (18446744073709551615 : Nat) = 2 ^ 64 - 1 by decide, Nat.testBit_two_pow_sub_one]
  by_cases hj : j < 64
  · simp [hj]
  · have : a.testBit j = false := Nat.testBit_lt_two_pow (Nat.lt_of_lt_of_le h (Nat.pow_le_pow_right (n := 2) (i := 64) (by omega) (by omega)))
    simp [hj, this]
theorem compl64_nat (a : Nat) (h : a < 18446744073709551616) : bits .xor .u64 (if IntKind.u64.signed then -1 else IntKind.u64.max) (a : Int) = ((18446744073709551615 - a : Nat) : Int) := by
  rw [← xor_ones a h]
  exact u64_xor_nat 18446744073709551615 a (by omega) h
theorem set_low {ys : List Nat} {x i v : Nat} (hl : ys.length = 4) (hi : i < 4) (hy : ∀ q, q < i → ys.getD q 0 = lim x q) (hv : v = lim x i) : ∀ q, q < i + 1 → (ys.set i v).getD q 0 = lim x q := fun q hq => by
  rw [getD_set _ _ _ _ (by omega)]
  split
  · rename_i h; subst h; exact hv
  · exact hy q (by omega)
theorem set_high {ys : List Nat} {x i v : Nat} (hl : ys.length = 4) (hi : i < 4) (hz : ∀ q, i ≤ q → q < 4 → ys.getD q 0 = lim x q) : ∀ q, i + 1 ≤ q → q < 4 → (ys.set i v).getD q 0 = lim x q := fun q h1 h2 => by
  rw [getD_set _ _ _ _ (by omega), if_neg (by omega)]; exact hz q (by omega) h2
set_option exponentiation.threshold 600 in
theorem mul_lt512 (x y : Nat) : x % 2 ^ 256 * (y % 2 ^ 256) < 2 ^ 512 := by
  have h1 := Nat.mod_lt x (show 2 ^ 256 > 0 by omega)
  have h2 := Nat.mod_lt y (show 2 ^ 256 > 0 by omega)
  have h3 := Nat.mul_lt_mul'' h1 h2
  rw [← Nat.pow_add] at h3
  exact h3
/-! ### Shifts, part by part -/
theorem shl_last {s wh pt x i : Nat} (h : s % 2 ^ 256 = 64 * wh + pt) (hp : pt < 64) (hw : wh ≤ i) (hi : i < 4) (h2 : ¬ (wh < i ∧ 0 < pt)) : lim x (i - wh) * 2 ^ pt % 18446744073709551616 = lim (shlN s x) i := by
  rw [shl_lim x i h hp (by omega) hi, if_neg (by omega)]
  by_cases hwi : wh < i
  · obtain rfl : pt = 0 := by omega
    rw [if_pos hwi, Nat.div_eq_of_lt (show lim x (i - wh - 1) < 2 ^ (64 - 0) from lim_lt _ _), Nat.or_zero]
  · rw [if_neg hwi, Nat.or_zero]
theorem shl_both {s wh pt x i : Nat} (h : s % 2 ^ 256 = 64 * wh + pt) (hp : pt < 64) (hw : wh < i) (hi : i < 4) : lim x (i - wh) * 2 ^ pt % 18446744073709551616 ||| lim x (i - wh - 1) / 2 ^ (64 - pt) = lim (shlN s x) i := by
  rw [shl_lim x i h hp (by omega) hi, if_neg (by omega), if_pos hw]
theorem shr_last {s wh pt x i : Nat} (h : s % 2 ^ 256 = 64 * wh + pt) (hp : pt < 64) (hi : i + wh < 4) (h2 : ¬ (i + wh < 3 ∧ 0 < pt)) : lim x (i + wh) / 2 ^ pt = lim (shrN s x) i := by
  rw [shr_lim x i h hp (by omega) (by omega), if_pos hi]
  by_cases hwi : i + wh < 3
  · obtain rfl : pt = 0 := by omega
    rw [if_pos hwi, show lim x (i + wh + 1) * 2 ^ (64 - 0) % 18446744073709551616 = 0 from Nat.mul_mod_left _ _, Nat.or_zero]
  · rw [if_neg hwi, Nat.or_zero]
theorem shr_both {s wh pt x i : Nat} (h : s % 2 ^ 256 = 64 * wh + pt) (hp : pt < 64) (hi : i + wh < 3) : lim x (i + wh) / 2 ^ pt ||| lim x (i + wh + 1) * 2 ^ (64 - pt) % 18446744073709551616 = lim (shrN s x) i := by
  rw [shr_lim x i h hp (by omega) (by omega), if_pos (by omega), if_pos hi]
theorem set_down {ys : List Nat} {x k v : Nat} (hl : ys.length = 4) (hk : k < 4) (hy : ∀ q, k + 1 ≤ q → q < 4 → ys.getD q 0 = lim x q) (hv : v = lim x k) : ∀ q, k ≤ q → q < 4 → (ys.set k v).getD q 0 = lim x q := fun q h1 h2 => by
  rw [getD_set _ _ _ _ (by omega)]
  split
  · rename_i h; subst h; exact hv
  · exact hy q (by omega) h2
theorem set_zlow {ys : List Nat} {k v : Nat} (hl : ys.length = 4) (hk : k < 4) (hz : ∀ q, q < k + 1 → ys.getD q 0 = 0) : ∀ q, q < k → (ys.set k v).getD q 0 = 0 := fun q h1 => by
  rw [getD_set _ _ _ _ (by omega), if_neg (by omega)]; exact hz q (by omega)
theorem set_zhigh {ys : List Nat} {i v : Nat} (hl : ys.length = 4) (hi : i < 4) (hz : ∀ q, i ≤ q → ys.getD q 0 = 0) : ∀ q, i + 1 ≤ q → (ys.set i v).getD q 0 = 0 := fun q h1 => by
  rw [getD_set _ _ _ _ (by omega), if_neg (by omega)]; exact hz q (by omega)
theorem shrN_one' (e : Nat) : shrN 1 e % 2 ^ 256 = e % 2 ^ 256 / 2 := by
  unfold shrN
  rw [if_pos (by decide), show 2 ^ (1 % 2 ^ 256) = 2 by decide]
  omega
theorem lim_low {x : Nat} (h : x % 2 ^ 256 < 18446744073709551616) : lim x 0 = x % 2 ^ 256 := by unfold lim; omega
end Go.Fw
set_option linter.unusedVariables false
namespace Go.Fw
open Go
variable {P : Program} {ops : Array Oper} {F : Act → World → Prop} {w0 w w' : World} {M : List Nat} {N : Nf} {L : List (Oper × K)} {σ : List (Nat × Value)} {l lS : List (Nat × Ent)} {k : K}
  {d : Option Tmp} {ty : TypeId} {p : String} {af : Array Edge} {v v1 v2 z : Value} {x y c : Operand} {t : TypeId} {b : Bool}

def FuncT (P : Program) (t : TypeId) : Prop := ∃ a b c, P.underlying t = some (.func a b c)
theorem run_equalIn_func (d : Nat) (h : FuncT P t) (f : Fn) (a c : Array Value) (w : World) : (Op.equalIn (d + 1) t (.func f a c) .nilFunc).run P w = .ok false w := by
  obtain ⟨a', b', c', h⟩ := h
  simp [Op.equalIn, run_underlying h]
theorem run_equalIn_nilFunc (d : Nat) (h : FuncT P t) (w : World) : (Op.equalIn (d + 1) t .nilFunc .nilFunc).run P w = .ok true w := by
  obtain ⟨a', b', c', h⟩ := h
  simp [Op.equalIn, run_underlying h]
theorem run_eql_func (h : FuncT P t) (f : Fn) (a c : Array Value) (w : World) : (binOp .eql t (.func f a c) .nilFunc).run P w = .ok (.bool false) w := by
  have : (Op.equal t (.func f a c) .nilFunc).run P w = .ok false w := run_equalIn_func 9999 h f a c w
  simp only [binOp]
  simp [this]
theorem run_eql_nilFunc (h : FuncT P t) (w : World) : (binOp .eql t .nilFunc .nilFunc).run P w = .ok (.bool true) w := by
  have : (Op.equal t .nilFunc .nilFunc).run P w = .ok true w := run_equalIn_nilFunc 9999 h w
  simp only [binOp]
  simp [this]
theorem J.eqFn {t' : TypeId} {f : Fn} {fs cs : Array Value} (ht : FuncT P t) (hx : ev σ x = some (.func f fs cs)) (hy : ev σ y = some .nilFunc) (hd : okd N d) (h : J P ops F w0 M N lS L (putd d (.bool false) σ) l) :
    J P ops F w0 M N lS ((⟨d, .binOp .eql t x y t', ty, p, af, none⟩, k) :: L) σ l :=
  J.eqlR hx hy hd (fun w => by rw [eqGuard_at_func]; exact run_eql_func ht f fs cs w) h
theorem J.eqFn0 {t' : TypeId} (ht : FuncT P t) (hx : ev σ x = some .nilFunc) (hy : ev σ y = some .nilFunc) (hd : okd N d) (h : J P ops F w0 M N lS L (putd d (.bool true) σ) l) :
    J P ops F w0 M N lS ((⟨d, .binOp .eql t x y t', ty, p, af, none⟩, k) :: L) σ l :=
  J.eqlR hx hy hd (fun w => by rw [eqGuard_at_nilFunc]; exact run_eql_nilFunc ht w) h

/-! ### Strings -/
theorem bstr_append (xs ys : List Nat) : bstr xs ++ bstr ys = bstr (xs ++ ys) := by
  unfold bstr
  rw [List.map_append]
  exact ByteArray.mk_append_mk _ _
theorem bstr_size (xs : List Nat) : (bstr xs).size = xs.length := by simp [bstr, ByteArray.size]
theorem J.addStr {t' : TypeId} {xs ys : List Nat} (hx : ev σ x = some (.string (bstr xs))) (hy : ev σ y = some (.string (bstr ys))) (hd : okd N d) (h63 : xs.length + ys.length ≤ 9223372036854775807) (h : J P ops F w0 M N lS L (putd d (.string (bstr (xs ++ ys))) σ) l) :
    J P ops F w0 M N lS ((⟨d, .binOp .add t x y t', ty, p, af, none⟩, k) :: L) σ l :=
  J.eqlR hx hy hd (fun w => by
    rw [eqGuard_at_string, ← bstr_append]
    exact run_string_add_sum w _ _ (by rw [bstr_size, bstr_size]; exact h63)) h

/-- What Do reckons, code by code. -/
def doS : List (Option (Nat → Nat → Nat → Nat)) := [
  none, some fun x y _ => x + y, some fun x y _ => x * y, some fun x y _ => dif x y, some fun x y _ => divN x y, some fun x y _ => sdivN x y, some fun x y _ => modN x y, some fun x y _ => smodN x y,
  some fun x y z => addmN x y z, some fun x y z => mulmN x y z, some fun x y _ => powN x y, some fun x y _ => sxN x y, none, none, none, none,
  some fun x y _ => if x % 2 ^ 256 < y % 2 ^ 256 then 1 else 0, some fun x y _ => if y % 2 ^ 256 < x % 2 ^ 256 then 1 else 0, some fun x y _ => if sltP x y then 1 else 0, some fun x y _ => if sltP y x then 1 else 0,
  some fun x y _ => if x % 2 ^ 256 = y % 2 ^ 256 then 1 else 0, some fun x _ _ => if x % 2 ^ 256 = 0 then 1 else 0, some fun x y _ => x &&& y, some fun x y _ => x ||| y, some fun x y _ => x ^^^ y, some fun x _ _ => notN x,
  some fun x y _ => byteN x y, some fun x y _ => shlN x y, some fun x y _ => shrN x y, some fun x y _ => sarN x y, some fun x _ _ => 256 - bitLen (x % 2 ^ 256)]

/-! ### Entries under other numbers -/
def sh (l : List (Nat × Ent)) : List (Nat × Ent) := l.map fun p => (1000 + p.1, p.2)
theorem lk_sh : ∀ (l : List (Nat × Ent)) (n : Nat), lk (sh l) n = if 1000 ≤ n then lk l (n - 1000) else none
  | [], n => by simp [sh, lk]
  | (k, e) :: l, n => by
    have ih := lk_sh l n
    unfold sh at ih ⊢
    rw [List.map_cons, lk_cons, ih, lk_cons]
    by_cases h : 1000 + k = n
    · subst h
      rw [if_pos rfl, if_pos (by omega), if_pos (by omega)]
    · rw [if_neg h]
      by_cases h2 : 1000 ≤ n
      · rw [if_pos h2, if_pos h2, if_neg (by omega)]
      · rw [if_neg h2, if_neg h2]
theorem WS.sh (hw : WS w0 M l w) : WS w0 M (Fw.sh l) w := by
  have key : ∀ n e, lk (Fw.sh l) n = some e → 1000 ≤ n ∧ lk l (n - 1000) = some e := fun n e h => by
    rw [lk_sh] at h
    split at h
    · exact ⟨by assumption, h⟩
    · cases h
  refine ⟨hw.os, hw.tape, hw.output, hw.size, hw.keep, fun j e h => hw.live _ e (key j e h).2, fun j j' e e' g h h' hne hg => ?_, fun j e g h hg => hw.own _ e g (key j e h).2 hg⟩
  have h1 := key j e h
  have h2 := key j' e' h'
  exact hw.apart _ _ e e' g h1.2 h2.2 (by omega) hg

/-- Cells of an entry, as cells that lay there when a call began. -/
theorem WS.csAt (hw : WS w0 M l w) {h g : Nat} {t : TypeId} {fv : Value} (he : lk l h = some ⟨some g, t, [fv]⟩) : Cs w (some ⟨g, 0, none⟩) [fv] := hw.csOf he 0 [fv] (fun i x hx => by rw [Nat.zero_add]; exact hx)
end Go.Fw
set_option linter.unusedVariables false
namespace Go.Fw
open Go
/-! ### Rows of bytes compared -/
/-- How two rows of bytes stand to one another. -/
def cmpL : List Nat → List Nat → Int
  | [], [] => 0
  | [], _ :: _ => -1
  | _ :: _, [] => 1
  | x :: xs, y :: ys => if x < y then -1 else if y < x then 1 else cmpL xs ys
theorem cmp_aux (xs ys : List Nat) (hx : Dg xs) (hy : Dg ys) : ∀ (n k : Nat), n + k = min xs.length ys.length →
    (match (List.range' k n).find? fun i => (bstr xs)[i]! != (bstr ys)[i]! with
      | some i => if (bstr xs)[i]! < (bstr ys)[i]! then (-1 : Int) else 1
      | none => if xs.length < ys.length then -1 else if ys.length < xs.length then 1 else 0) = cmpL (xs.drop k) (ys.drop k)
  | 0, k, h => by
    simp only [Nat.zero_add] at h
    simp only [List.range'_zero, List.find?_nil]
    subst h
    rcases Nat.lt_trichotomy xs.length ys.length with h1 | h1 | h1
    · rw [if_pos h1, List.drop_eq_nil_of_le (by omega)]
      obtain ⟨y, t, ht⟩ : ∃ y t, ys.drop (min xs.length ys.length) = y :: t := by
        cases hd : ys.drop (min xs.length ys.length) with
        | nil => have := congrArg List.length hd; simp at this; omega
        | cons y t => exact ⟨y, t, rfl⟩
      rw [ht]; rfl
    · rw [if_neg (by omega), if_neg (by omega), List.drop_eq_nil_of_le (by omega), List.drop_eq_nil_of_le (by omega)]; rfl
    · rw [if_neg (by omega), if_pos h1, @List.drop_eq_nil_of_le _ ys _ (by omega)]
      obtain ⟨y, t, ht⟩ : ∃ y t, xs.drop (min xs.length ys.length) = y :: t := by
        cases hd : xs.drop (min xs.length ys.length) with
        | nil => have := congrArg List.length hd; simp at this; omega
        | cons y t => exact ⟨y, t, rfl⟩
      rw [ht]; rfl
  | n + 1, k, h => by
    have hkx : k < xs.length := by omega
    have hky : k < ys.length := by omega
    have gx : ∀ (zs : List Nat) (hz : k < zs.length), (bstr zs)[k]! = UInt8.ofNat (zs[k]) := fun zs hz => by
      rw [getElem!_pos _ k (by rw [bstr_size]; exact hz)]
      simp [bstr, ByteArray.getElem_eq_getElem_data]
    have ih := cmp_aux xs ys hx hy n (k + 1) (by omega)
    rw [List.range'_succ, List.find?_cons, gx xs hkx, gx ys hky]
    have hxl := hx _ (List.getElem_mem hkx)
    have hyl := hy _ (List.getElem_mem hky)
    rw [List.drop_eq_getElem_cons hkx, List.drop_eq_getElem_cons hky]
    by_cases he : xs[k] = ys[k]
    · simp only [he, bne_self_eq_false]
      rw [ih]
      simp only [cmpL]
      rw [if_neg (by omega), if_neg (by omega)]
    · have hne : (UInt8.ofNat xs[k] != UInt8.ofNat ys[k]) = true := by
        rw [bne_iff_ne]
        intro q
        have := congrArg UInt8.toNat q
        simp [Nat.mod_eq_of_lt hxl, Nat.mod_eq_of_lt hyl] at this
        exact he this
      simp only [hne]
      simp only [cmpL]
      rw [gx xs hkx, gx ys hky]
      have hlt : (UInt8.ofNat xs[k] < UInt8.ofNat ys[k]) ↔ xs[k] < ys[k] := by
        rw [UInt8.lt_iff_toNat_lt]
        simp [Nat.mod_eq_of_lt hxl, Nat.mod_eq_of_lt hyl]
      by_cases hl : xs[k] < ys[k]
      · rw [if_pos (hlt.2 hl), if_pos hl]
      · rw [if_neg (fun q => hl (hlt.1 q)), if_neg hl, if_pos (by omega)]
theorem cmp_bstr (xs ys : List Nat) (hx : Dg xs) (hy : Dg ys) : Extern.BytealgCompare.cmp (bstr xs) (bstr ys) = cmpL xs ys := by
  have := cmp_aux xs ys hx hy (min xs.length ys.length) 0 (by omega)
  simp only [List.drop_zero] at this
  rw [← this]
  unfold Extern.BytealgCompare.cmp
  rw [bstr_size, bstr_size, List.range_eq_range']
  rfl
theorem run_bytesOf {P : Program} {w : World} {A : Option Addr} {q cap : Nat} {xs : List Nat} (hq : xs.length = q) (hc : Cs w A (rowN .u8 xs)) : (Extern.Bytes.bytesOf (.slice A q cap)).run P w = .ok (bstr xs) w := by
  cases A with
  | none =>
    cases xs with
    | nil => rfl
    | cons x xs => obtain ⟨ad, ha, _⟩ := hc 0 _ (by simp [rowN]; rfl); cases ha
  | some a =>
    have := Lib.run_loadBytesX (P := P) w (xs.map fun (n : Nat) => (n : Int)) a .empty (fun j x hj => by
      obtain ⟨ad, ha, h⟩ := hc j (.int .u8 x) (by
        rw [List.getElem?_map] at hj
        simp only [rowN, List.getElem?_map]
        cases hx : xs[j]? with
        | none => simp [hx] at hj
        | some y => simp [hx] at hj ⊢; exact hj)
      cases ha; exact h)
    simp only [List.length_map, hq] at this
    simp only [Extern.Bytes.bytesOf, this]
    congr 1
    apply ByteArray.ext
    simp [bstr, Lib.bytesOf]
section
variable {P : Program} {ops : Array Oper} {F : Act → World → Prop} {w0 w w' : World} {M : List Nat} {N : Nf} {L : List (Oper × K)} {σ : List (Nat × Value)} {l lS : List (Nat × Ent)} {k : K}
  {d : Option Tmp} {ty t : TypeId} {p : String} {af : Array Edge} {x y : Operand}
theorem run_cmpB {w : World} {v1 v2 : Value} {b1 b2 : ByteArray} (h1 : (Extern.Bytes.bytesOf v1).run P w = .ok b1 w) (h2 : (Extern.Bytes.bytesOf v2).run P w = .ok b2 w) : (Extern.BytealgCompare.compare #[v1, v2]).run P w = .ok (.int .i64 (Extern.BytealgCompare.cmp b1 b2)) w := by
  show (do pure (goInt (Extern.BytealgCompare.cmp (← Extern.Bytes.bytesOf v1) (← Extern.Bytes.bytesOf v2))) : Sem Value).run P w = _
  simp only [Sem.run_bind, h1, h2, Result.andThen, Sem.run_pure]
  rfl
theorem J.cmpB {f : FuncId} {fn : Func} (hf : P.funcs[f]? = some fn) (hname : (fn.name == "runtime.NumGoroutine") = false) (hb : fn.body.isNone = true) (hn : Extern.findNext fn = none) (he : Extern.find fn = some Extern.BytealgCompare.compare)
    {tys : Array TypeId} {A1 A2 : Option Addr} {q1 q2 c1 c2 : Nat} {xs ys : List Nat} (hk : nog k) (hx : ev σ x = some (.slice A1 q1 c1)) (hy : ev σ y = some (.slice A2 q2 c2)) (h1 : xs.length = q1) (h2 : ys.length = q2)
    (hA1 : ∀ w, WS w0 M l w → Cs w A1 (rowN .u8 xs)) (hA2 : ∀ w, WS w0 M l w → Cs w A2 (rowN .u8 ys)) (d1 : Dg xs) (d2 : Dg ys) (hd : okd N d)
    (hJ : J P ops F w0 M N lS L (putd d (.int .i64 (cmpL xs ys)) σ) l) : J P ops F w0 M N lS ((⟨d, .call ⟨.value (.func f), #[x, y], tys⟩, ty, p, af, none⟩, k) :: L) σ l :=
  J.quiet rfl hk hd _ (fun a ha w hw => by
    have hr := run_cmpB (run_bytesOf (P := P) (cap := c1) h1 (hA1 w hw)) (run_bytesOf (cap := c2) h2 (hA2 w hw))
    rw [cmp_bstr xs ys d1 d2] at hr
    have h1 : (#[x, y] : Array Operand).map a.eval = #[.slice A1 q1 c1, .slice A2 q2 c2] := by simp [ha.eval hx, ha.eval hy]
    simp [execOp, resolve, Act.eval, Deferred.ofValue, invoke, h1, run_callFunc_extern hf hname hb hn he, hr]) hJ
end
/-! ### Addresses -/
/-- The i-th byte of an address, the highest first. -/
def ab (a i : Nat) : Nat := a / 256 ^ (19 - i) % 256
def adL (a : Nat) : List Nat := (List.range 20).map (ab a)
def ac (a : Nat) : List Value := rowN .u8 (adL a)
theorem adL_length (a : Nat) : (adL a).length = 20 := rfl
theorem ac_length (a : Nat) : (ac a).length = 20 := rfl
theorem adL_dg (a : Nat) : Dg (adL a) := fun x hx => by
  simp only [adL, List.mem_map] at hx
  obtain ⟨i, _, rfl⟩ := hx
  exact Nat.mod_lt _ (by omega)
/-- The number that bytes are, the highest first. -/
def hiN (xs : List Nat) : Nat := xs.foldl (fun a x => a * 256 + x) 0
theorem hiN_snoc (xs : List Nat) (x : Nat) : hiN (xs ++ [x]) = hiN xs * 256 + x := by simp [hiN, List.foldl_append]
/-- The highest n bytes of what has m. -/
def hiL (a m n : Nat) : List Nat := (List.range n).map fun i => a / 256 ^ (m - 1 - i) % 256
theorem hiL_succ (a m n : Nat) : hiL a m (n + 1) = hiL a m n ++ [a / 256 ^ (m - 1 - n) % 256] := by simp [hiL, List.range_succ]
theorem hiN_hiL (a m : Nat) : ∀ n, n ≤ m → hiN (hiL a m n) = a / 256 ^ (m - n) % 256 ^ n
  | 0, _ => by simp [hiL, hiN, Nat.mod_one]
  | n + 1, h => by
    rw [hiL_succ, hiN_snoc, hiN_hiL a m n (by omega), Nat.pow_succ, Nat.mul_comm (256 ^ n), Nat.mod_mul, Nat.div_div_eq_div_mul, ← Nat.pow_succ]
    rw [show m - 1 - n = m - (n + 1) by omega, show (m - (n + 1)).succ = m - n by omega]
    rw [Nat.add_comm, Nat.mul_comm]
theorem adL_num (a : Nat) : hiN (adL a) = a % 256 ^ 20 := by
  rw [show adL a = hiL a 20 20 from rfl, hiN_hiL a 20 20 (Nat.le_refl _), Nat.sub_self, Nat.pow_zero, Nat.div_one]
theorem cmpL_lt : ∀ (xs ys : List Nat), Dg xs → Dg ys → xs.length = ys.length → ∀ a b, a < b → xs.foldl (fun a x => a * 256 + x) a < ys.foldl (fun a x => a * 256 + x) b
  | [], [], _, _, _, a, b, h => h
  | x :: xs, y :: ys, hx, hy, hl, a, b, h => by
    have h1 := hx x List.mem_cons_self
    exact cmpL_lt xs ys (fun z hz => hx z (List.mem_cons_of_mem _ hz)) (fun z hz => hy z (List.mem_cons_of_mem _ hz)) (by simpa using hl) (a * 256 + x) (b * 256 + y) (by omega)
  | [], _ :: _, _, _, hl, _, _, _ => by simp at hl
  | _ :: _, [], _, _, hl, _, _, _ => by simp at hl
/-- Rows of a length compare as their numbers. -/
theorem cmpL_num : ∀ (xs ys : List Nat), Dg xs → Dg ys → xs.length = ys.length → ∀ a, cmpL xs ys = (if xs.foldl (fun a x => a * 256 + x) a < ys.foldl (fun a x => a * 256 + x) a then -1 else if ys.foldl (fun a x => a * 256 + x) a < xs.foldl (fun a x => a * 256 + x) a then 1 else 0)
  | [], [], _, _, _, a => by simp [cmpL]
  | x :: xs, y :: ys, hx, hy, hl, a => by
    have hx' : Dg xs := fun z hz => hx z (List.mem_cons_of_mem _ hz)
    have hy' : Dg ys := fun z hz => hy z (List.mem_cons_of_mem _ hz)
    have hl' : xs.length = ys.length := by simpa using hl
    simp only [cmpL, List.foldl_cons]
    by_cases h1 : x < y
    · have := cmpL_lt xs ys hx' hy' hl' (a * 256 + x) (a * 256 + y) (by omega)
      rw [if_pos h1]; exact (if_pos this).symm
    · rw [if_neg h1]
      by_cases h2 : y < x
      · have := cmpL_lt ys xs hy' hx' hl'.symm (a * 256 + y) (a * 256 + x) (by omega)
        rw [if_pos h2]; exact ((if_neg (by omega)).trans (if_pos this)).symm
      · obtain rfl : x = y := by omega
        rw [if_neg h2]
        exact cmpL_num xs ys hx' hy' hl' (a * 256 + x)
  | [], _ :: _, _, _, hl, _ => by simp at hl
  | _ :: _, [], _, _, hl, _ => by simp at hl
/-- How two numbers stand to one another. -/
def cmpZ (a b : Nat) : Int := if a < b then -1 else if b < a then 1 else 0
theorem cmp_ad (a b : Nat) : cmpL (adL a) (adL b) = cmpZ (a % 256 ^ 20) (b % 256 ^ 20) := by
  rw [cmpL_num _ _ (adL_dg a) (adL_dg b) rfl 0]
  show (if hiN (adL a) < hiN (adL b) then _ else if hiN (adL b) < hiN (adL a) then _ else _) = _
  rw [adL_num, adL_num]; rfl
theorem adL_inj {a b : Nat} : adL a = adL b ↔ a % 256 ^ 20 = b % 256 ^ 20 := by
  constructor
  · intro h; rw [← adL_num, ← adL_num, h]
  · intro h
    have key : ∀ c, adL c = adL (c % 256 ^ 20) := fun c => by
      unfold adL
      refine List.map_congr_left fun i hi => ?_
      have hi := List.mem_range.1 hi
      unfold ab
      have e : (256 : Nat) ^ 20 = 256 ^ (19 - i) * (256 * 256 ^ i) := by rw [← Nat.pow_succ', ← Nat.pow_add]; congr 1; omega
      rw [e, Nat.mod_mul_right_div_self, Nat.mod_mul_right_mod]
    rw [key a, key b, h]
theorem snoc_ind {C : List Nat → Prop} (h0 : C []) (h1 : ∀ ys y, C ys → C (ys ++ [y])) (xs : List Nat) : C xs := by
  rw [← List.reverse_reverse xs]
  induction xs.reverse with
  | nil => exact h0
  | cons y t ih => rw [List.reverse_cons]; exact h1 _ _ ih
theorem ad_exists (xs : List Nat) (h : xs.length = 20) (hd : Dg xs) : ∃ a, a < 256 ^ 20 ∧ adL a = xs := by
  have hv : ∀ (ys : List Nat), Dg ys → hiN ys < 256 ^ ys.length := by
    intro ys
    refine snoc_ind (C := fun ys => Dg ys → hiN ys < 256 ^ ys.length) ?_ ?_ ys
    · simp [hiN]
    · intro ys y ih hy
      have h1 := ih (fun z hz => hy z (List.mem_append_left _ hz))
      have h2 := hy y (by simp)
      rw [hiN_snoc, List.length_append, List.length_singleton, Nat.pow_succ]
      omega
  have hinj : ∀ (ys zs : List Nat), Dg ys → Dg zs → ys.length = zs.length → hiN ys = hiN zs → ys = zs := by
    intro ys
    refine snoc_ind (C := fun ys => ∀ (zs : List Nat), Dg ys → Dg zs → ys.length = zs.length → hiN ys = hiN zs → ys = zs) ?_ ?_ ys
    · intro zs _ _ hl _; exact (List.length_eq_zero_iff.1 hl.symm).symm
    · intro ys y ih zs hy hz hl he
      rcases List.eq_nil_or_concat zs with rfl | ⟨zs', z, rfl⟩
      · simp at hl
      · rw [List.concat_eq_append] at *
        rw [hiN_snoc, hiN_snoc] at he
        have h1 := hy y (by simp)
        have h2 := hz z (by simp)
        obtain rfl : y = z := by omega
        rw [ih zs' (fun q hq => hy q (List.mem_append_left _ hq)) (fun q hq => hz q (List.mem_append_left _ hq)) (by simpa using hl) (by omega)]
  refine ⟨hiN xs, by have := hv xs hd; rwa [h] at this, hinj _ _ (adL_dg _) hd (by rw [adL_length, h]) ?_⟩
  rw [adL_num]
  exact Nat.mod_eq_of_lt (by have := hv xs hd; rwa [h] at this)
end Go.Fw
namespace Go.Fw
open Go
/-- A word as bits. -/
def bv (x : Nat) : BitVec 256 := BitVec.ofNat 256 x
theorem bv_eq {x y : Nat} : bv x = bv y ↔ x % 2 ^ 256 = y % 2 ^ 256 := by
  unfold bv
  constructor
  · intro h; have := congrArg BitVec.toNat h; simpa using this
  · intro h; apply BitVec.eq_of_toNat_eq; simpa using h
theorem bv_add (x y : Nat) : bv (x + y) = bv x + bv y := BitVec.ofNat_add x y
theorem bv_mul (x y : Nat) : bv (x * y) = bv x * bv y := BitVec.ofNat_mul x y
theorem bv_mod (x : Nat) : bv (x % 2 ^ 256) = bv x := bv_eq.2 (Nat.mod_mod _ _)
theorem bv_dif (x y : Nat) : bv (dif x y) = bv x - bv y := by
  have h : (dif x y + y) % 2 ^ 256 = x % 2 ^ 256 := by unfold dif; omega
  have h2 := bv_eq.2 h
  rw [bv_add] at h2
  grind
theorem bv_neg (x : Nat) : bv (negN x) = - bv x := by
  unfold negN; rw [bv_dif]; have : bv 0 = 0 := rfl; rw [this]; simp
theorem bv_zero : bv 0 = 0 := rfl
theorem bv_one : bv 1 = 1 := rfl
theorem bv_abs (x : Nat) : bv (absN x) = if sgn x then - bv x else bv x := by
  unfold absN
  split
  · rw [← bv_neg]; refine bv_eq.2 ?_; rw [negN_mod]; rename_i h; unfold sgn at h; split <;> omega
  · exact bv_mod x

theorem dif_add (x y : Nat) : dif (x + y) y % 2 ^ 256 = x % 2 ^ 256 := by unfold dif; omega
theorem dif_back (x y : Nat) : (dif x y + y) % 2 ^ 256 = x % 2 ^ 256 := by unfold dif; omega
theorem divN_nz {x y : Nat} (h : ¬ y % 2 ^ 256 = 0) : divN x y = x % 2 ^ 256 / (y % 2 ^ 256) := by unfold divN; rw [if_neg h]
theorem modN_nz {x y : Nat} (h : ¬ y % 2 ^ 256 = 0) : modN x y = x % 2 ^ 256 % (y % 2 ^ 256) := by unfold modN; rw [if_neg h]
theorem divN_le (x y : Nat) : divN x y ≤ x % 2 ^ 256 := by unfold divN; split; omega; exact Nat.div_le_self _ _
theorem modN_le (x y : Nat) : modN x y ≤ x % 2 ^ 256 := by unfold modN; split; omega; exact Nat.mod_le _ _
theorem modN_lt {x y : Nat} (h : ¬ y % 2 ^ 256 = 0) : modN x y < y % 2 ^ 256 := by rw [modN_nz h]; exact Nat.mod_lt _ (by omega)
theorem div_whole {x y : Nat} (h : ¬ y % 2 ^ 256 = 0) : divN x y * (y % 2 ^ 256) + modN x y = x % 2 ^ 256 := by
  rw [divN_nz h, modN_nz h, Nat.mul_comm]; exact Nat.div_add_mod _ _
theorem div_back {x y : Nat} (h : ¬ y % 2 ^ 256 = 0) : (divN x y * y + modN x y) % 2 ^ 256 = x % 2 ^ 256 := by
  refine bv_eq.1 ?_
  have := congrArg bv (div_whole (x := x) h)
  rw [bv_add, bv_mul, bv_mod, bv_mod] at this
  rw [bv_add, bv_mul, this]
theorem div_prod {x y : Nat} (h : ¬ y % 2 ^ 256 = 0) : divN x y * y % 2 ^ 256 = divN x y * (y % 2 ^ 256) := by
  have h1 := div_whole (x := x) h
  have h2 := Nat.mod_lt x (show 2 ^ 256 > 0 by omega)
  have h3 : divN x y * y % 2 ^ 256 = divN x y * (y % 2 ^ 256) % 2 ^ 256 := bv_eq.1 (by rw [bv_mul, bv_mul, bv_mod])
  rw [h3]; exact Nat.mod_eq_of_lt (by omega)
theorem div_again {x y : Nat} (h : ¬ y % 2 ^ 256 = 0) : divN (divN x y * y) y % 2 ^ 256 = divN x y % 2 ^ 256 := by
  rw [divN_nz (x := divN x y * y) h, div_prod h, Nat.mul_div_cancel _ (by omega)]
theorem div_below {x y : Nat} (h : ¬ y % 2 ^ 256 = 0) : ¬ x % 2 ^ 256 < divN x y * y % 2 ^ 256 := by
  have h1 := div_whole (x := x) h
  rw [div_prod h]; omega
theorem sdiv_back (x y : Nat) (h : ¬ y % 2 ^ 256 = 0) : (sdivN x y * y + smodN x y) % 2 ^ 256 = x % 2 ^ 256 := by
  refine bv_eq.1 ?_
  have hy := absN_le y
  have hb : ¬ absN y % 2 ^ 256 = 0 := by
    have := absN_zero y
    rw [Nat.mod_eq_of_lt (by omega)]
    intro h0; exact h (this.1 h0)
  have h1 := congrArg bv (div_whole (x := absN x) (y := absN y) hb)
  rw [bv_add, bv_mul, bv_mod, bv_mod, bv_abs, bv_abs] at h1
  rw [bv_add, bv_mul]
  unfold sdivN smodN
  by_cases hx : sgn x <;> by_cases hy2 : sgn y <;> simp only [hx, hy2, decide_true, decide_false, if_true, if_false, not_true_eq_false, not_false_eq_true, reduceCtorEq, bv_neg] at h1 ⊢ <;> grind
end Go.Fw
namespace Go.Fw
open Go
/-! ### Moduli -/
theorem addm_nz {a b m : Nat} (h : ¬ m % 2 ^ 256 = 0) : addmN a b m = (a % 2 ^ 256 + b % 2 ^ 256) % (m % 2 ^ 256) := by unfold addmN; rw [if_neg h]
theorem mulm_nz {a b m : Nat} (h : ¬ m % 2 ^ 256 = 0) : mulmN a b m = (a % 2 ^ 256 * (b % 2 ^ 256)) % (m % 2 ^ 256) := by unfold mulmN; rw [if_neg h]
theorem addm_lt {a b m : Nat} (h : ¬ m % 2 ^ 256 = 0) : addmN a b m % 2 ^ 256 < m % 2 ^ 256 := by
  rw [addm_nz h]
  have h1 := Nat.mod_lt (a % 2 ^ 256 + b % 2 ^ 256) (show m % 2 ^ 256 > 0 by omega)
  rw [Nat.mod_eq_of_lt (by omega)]; exact h1
theorem mulm_lt {a b m : Nat} (h : ¬ m % 2 ^ 256 = 0) : mulmN a b m % 2 ^ 256 < m % 2 ^ 256 := by
  rw [mulm_nz h]
  have h1 := Nat.mod_lt (a % 2 ^ 256 * (b % 2 ^ 256)) (show m % 2 ^ 256 > 0 by omega)
  rw [Nat.mod_eq_of_lt (by omega)]; exact h1
theorem small_mod {x m : Nat} (h : ¬ m % 2 ^ 256 = 0) : x % (m % 2 ^ 256) % 2 ^ 256 = x % (m % 2 ^ 256) := by
  have h1 := Nat.mod_lt x (show m % 2 ^ 256 > 0 by omega)
  exact Nat.mod_eq_of_lt (by omega)
theorem addm_comm (a b m : Nat) : addmN a b m = addmN b a m := by unfold addmN; rw [Nat.add_comm]
theorem mulm_comm (a b m : Nat) : mulmN a b m = mulmN b a m := by unfold mulmN; rw [Nat.mul_comm]
theorem addm_zero {a m : Nat} (h : ¬ m % 2 ^ 256 = 0) : addmN a 0 m = modN a m := by rw [addm_nz h, modN_nz h, Nat.zero_mod, Nat.add_zero]
theorem mulm_zero (a m : Nat) : mulmN a 0 m = 0 := by unfold mulmN; split; rfl; rw [Nat.zero_mod, Nat.mul_zero, Nat.zero_mod]
theorem addm_mod {a b m : Nat} (h : ¬ m % 2 ^ 256 = 0) : addmN a b m = addmN (modN a m) (modN b m) m := by
  rw [addm_nz h, addm_nz h, modN_nz h, modN_nz h, small_mod h, small_mod h, ← Nat.add_mod]
theorem succ_mod {b : Nat} (hb : ¬ b % 2 ^ 256 = 115792089237316195423570985008687907853269984665640564039457584007913129639935) : (b + 1) % 2 ^ 256 = b % 2 ^ 256 + 1 := by omega
theorem addm_succ {a b m : Nat} (h : ¬ m % 2 ^ 256 = 0) (hb : ¬ b % 2 ^ 256 = 115792089237316195423570985008687907853269984665640564039457584007913129639935) : addmN a (b + 1) m = addmN (addmN a b m) 1 m := by
  rw [addm_nz h, addm_nz h, addm_nz h, small_mod h, succ_mod hb, show 1 % 2 ^ 256 = 1 from rfl, Nat.mod_add_mod, Nat.add_assoc]
theorem mulm_succ {a b m : Nat} (h : ¬ m % 2 ^ 256 = 0) (hb : ¬ b % 2 ^ 256 = 115792089237316195423570985008687907853269984665640564039457584007913129639935) : mulmN a (b + 1) m = addmN (mulmN a b m) a m := by
  rw [mulm_nz h, mulm_nz h, addm_nz h, small_mod h, succ_mod hb, Nat.mod_add_mod, Nat.mul_add, Nat.mul_one]

/-! ### Powers -/
theorem pow_mod' (a n : Nat) : (a ^ n % 2 ^ 256) % 2 ^ 256 = a ^ n % 2 ^ 256 := Nat.mod_mod _ _
theorem powN_zero (a : Nat) : powN a 0 % 2 ^ 256 = 1 % 2 ^ 256 := by unfold powN; rw [Nat.zero_mod, Nat.pow_zero, Nat.mod_mod]
theorem powN_one (a : Nat) : powN a 1 % 2 ^ 256 = a % 2 ^ 256 := by unfold powN; rw [show 1 % 2 ^ 256 = 1 from rfl, Nat.pow_one, Nat.mod_mod]
theorem powN_two (a : Nat) : powN a 2 % 2 ^ 256 = a * a % 2 ^ 256 := by unfold powN; rw [show 2 % 2 ^ 256 = 2 from rfl, Nat.pow_two, Nat.mod_mod]
theorem powN_succ {a b : Nat} (hb : ¬ b % 2 ^ 256 = 115792089237316195423570985008687907853269984665640564039457584007913129639935) : powN a (b + 1) % 2 ^ 256 = powN a b * a % 2 ^ 256 := by
  unfold powN; rw [succ_mod hb, Nat.pow_succ, Nat.mod_mod, Nat.mod_mul_mod]
theorem powN_add {a b c : Nat} (h : ¬ (b + c) % 2 ^ 256 < b % 2 ^ 256) : powN a (b + c) % 2 ^ 256 = powN a b * powN a c % 2 ^ 256 := by
  unfold powN; rw [show (b + c) % 2 ^ 256 = b % 2 ^ 256 + c % 2 ^ 256 by omega, Nat.pow_add, Nat.mod_mod, ← Nat.mul_mod]

/-! ### Shifts -/
theorem pow2_small {s : Nat} (h : s % 2 ^ 256 < 256) : powN 2 s = 2 ^ (s % 2 ^ 256) := by
  unfold powN
  exact Nat.mod_eq_of_lt (Nat.pow_lt_pow_right (by omega) h)
theorem shl_pow {s x : Nat} (h : s % 2 ^ 256 < 256) : shlN s x % 2 ^ 256 = x * powN 2 s % 2 ^ 256 := by
  unfold shlN; rw [if_pos h, pow2_small h, Nat.mod_mul_mod]
theorem shr_pow {s x : Nat} (h : s % 2 ^ 256 < 256) : shrN s x = divN x (powN 2 s) := by
  have h1 : powN 2 s % 2 ^ 256 = 2 ^ (s % 2 ^ 256) := by rw [pow2_small h]; exact Nat.mod_eq_of_lt (Nat.pow_lt_pow_right (by omega) h)
  have h2 : 2 ^ (s % 2 ^ 256) > 0 := Nat.pow_pos (by omega)
  rw [divN_nz (by omega), h1]
  unfold shrN; rw [if_pos h]
theorem shlN_congr {s t x : Nat} (h : s % 2 ^ 256 = t % 2 ^ 256) : shlN s x = shlN t x := by unfold shlN; rw [h]
theorem shrN_congr {s t x : Nat} (h : s % 2 ^ 256 = t % 2 ^ 256) : shrN s x = shrN t x := by unfold shrN; rw [h]
theorem sarN_congr {s t x : Nat} (h : s % 2 ^ 256 = t % 2 ^ 256) : sarN s x = sarN t x := by unfold sarN; rw [shrN_congr h, shrN_congr h]
theorem ext_amount {k : Nat} (h : k % 2 ^ 256 < 31) : dif 248 (k * 8) % 2 ^ 256 = (248 - 8 * (k % 2 ^ 256)) % 2 ^ 256 := by unfold dif; omega
theorem sx_shift {k x : Nat} (h : k % 2 ^ 256 < 31) : sxN k x = sarN (dif 248 (k * 8)) (shlN (dif 248 (k * 8)) x) := by
  unfold sxN; rw [if_pos h, sarN_congr (ext_amount h), shlN_congr (ext_amount h)]
theorem sx_bit {k x : Nat} (h : k % 2 ^ 256 < 31) (i : Nat) (hi : i < 256) : (sxN k x).testBit i = if i < 8 * (k % 2 ^ 256) + 8 then x.testBit i else x.testBit (8 * (k % 2 ^ 256) + 7) := by
  unfold sxN
  generalize hn : k % 2 ^ 256 = n at h
  rw [if_pos h]
  have hs : (248 - 8 * n) % 2 ^ 256 = 248 - 8 * n := Nat.mod_eq_of_lt (by omega)
  rw [sarN_testBit _ _ i hi, hs]
  by_cases h2 : i < 8 * n + 8
  · rw [if_pos (show 248 - 8 * n < 256 ∧ i + (248 - 8 * n) < 256 by omega), if_pos h2, shlN_testBit _ _ _ (by omega), hs, show i + (248 - 8 * n) - (248 - 8 * n) = i by omega]
    have h3 : 248 - 8 * n < 256 := by omega
    have h4 : 248 - 8 * n ≤ i + (248 - 8 * n) := by omega
    simp [h3]
  · rw [if_neg (show ¬ (248 - 8 * n < 256 ∧ i + (248 - 8 * n) < 256) by omega), if_neg h2, ← sgn_testBit, shlN_testBit _ _ _ (by omega), hs, show 255 - (248 - 8 * n) = 8 * n + 7 by omega]
    have h3 : 248 - 8 * n < 256 := by omega
    have h4 : 248 ≤ 255 + 8 * n := by omega
    simp [h3, h4]
theorem sx_again {k x : Nat} (h : k % 2 ^ 256 < 31) : sxN k (sxN k x) % 2 ^ 256 = sxN k x % 2 ^ 256 := mod_bits fun i hi => by
  rw [sx_bit h i hi]
  split
  · rfl
  · rename_i h2
    rw [sx_bit h i hi, if_neg h2, sx_bit h _ (by omega), if_pos (by omega)]

/-! ### Orders -/
def wcmp (x y : Nat) : Int := if x % 2 ^ 256 = y % 2 ^ 256 then 0 else if x % 2 ^ 256 < y % 2 ^ 256 then -1 else 1
theorem wcmp_flip (x y : Nat) : wcmp y x = - wcmp x y := by unfold wcmp; split <;> split <;> (try split) <;> (try split) <;> omega
theorem wcmp_zero (x y : Nat) : wcmp x y = 0 ↔ x % 2 ^ 256 = y % 2 ^ 256 := by unfold wcmp; split <;> (try split) <;> omega
theorem wcmp_neg (x y : Nat) : wcmp x y < 0 ↔ x % 2 ^ 256 < y % 2 ^ 256 := by unfold wcmp; split <;> (try split) <;> omega
theorem wcmp_pos (x y : Nat) : wcmp x y > 0 ↔ y % 2 ^ 256 < x % 2 ^ 256 := by unfold wcmp; split <;> (try split) <;> omega
theorem wcmp_fit (x y : Nat) : -1 ≤ wcmp x y ∧ wcmp x y ≤ 1 := by unfold wcmp; split <;> (try split) <;> omega
theorem neqB_same {p q : Prop} [Decidable p] [Decidable q] (h : p ↔ q) : (!(decide p == decide q)) = false := by
  by_cases hp : p
  · have hq := h.1 hp; simp [hp, hq]
  · have hq : ¬ q := fun x => hp (h.2 x)
    simp [hp, hq]
theorem eqB_same {p q : Prop} [Decidable p] [Decidable q] (h : p ↔ q) : (decide p == decide q) = true := by
  by_cases hp : p
  · have hq := h.1 hp; simp [hp, hq]
  · have hq : ¬ q := fun x => hp (h.2 x)
    simp [hp, hq]
theorem xor_high {r : Nat} (h : r < 2 ^ 255) : r ^^^ 2 ^ 255 = r + 2 ^ 255 := by
  have e := Nat.two_pow_add_eq_or_of_lt h 1
  rw [Nat.mul_one] at e
  rw [Nat.add_comm, e]
  refine Nat.eq_of_testBit_eq fun i => ?_
  rw [Nat.testBit_xor, Nat.testBit_or, Nat.testBit_two_pow]
  by_cases hi : 255 = i
  · subst hi; rw [Nat.testBit_lt_two_pow h]; simp
  · simp [hi]
theorem xor_top (a : Nat) : (a ^^^ 2 ^ 255) % 2 ^ 256 = if sgn a then a % 2 ^ 256 - 2 ^ 255 else a % 2 ^ 256 + 2 ^ 255 := by
  rw [Nat.xor_mod_two_pow, show 2 ^ 255 % 2 ^ 256 = 2 ^ 255 from rfl]
  have hlt := Nat.mod_lt a (show 2 ^ 256 > 0 by omega)
  split
  · rename_i h
    unfold sgn at h
    have h1 := xor_high (r := a % 2 ^ 256 - 2 ^ 255) (by omega)
    rw [show a % 2 ^ 256 - 2 ^ 255 + 2 ^ 255 = a % 2 ^ 256 by omega] at h1
    rw [← h1, Nat.xor_assoc, Nat.xor_self, Nat.xor_zero]
    omega
  · rename_i h
    unfold sgn at h
    exact xor_high (by omega)
theorem slt_xor (a b : Nat) : sltP a b ↔ (a ^^^ 2 ^ 255) % 2 ^ 256 < (b ^^^ 2 ^ 255) % 2 ^ 256 := by
  rw [xor_top, xor_top]
  unfold sltP
  have hla := Nat.mod_lt a (show 2 ^ 256 > 0 by omega)
  have hlb := Nat.mod_lt b (show 2 ^ 256 > 0 by omega)
  by_cases ha : sgn a <;> by_cases hb : sgn b <;> simp only [ha, hb, decide_true, decide_false, if_true, if_false, not_true_eq_false, not_false_eq_true, reduceCtorEq, true_iff, false_iff] <;> (unfold sgn at ha hb; omega)
end Go.Fw
set_option linter.unusedVariables false
namespace Go.Fw
open Go
section
variable {P : Program} {ops : Array Oper} {F : Act → World → Prop} {w0 w w' : World} {M : List Nat} {N : Nf} {L : List (Oper × K)} {σ : List (Nat × Value)} {l lS : List (Nat × Ent)} {k : K}
  {d : Option Tmp} {ty t : TypeId} {p : String} {af : Array Edge} {x y : Operand} {n : Nat} {B : List (Option Nat)}
/-- A row of one's own fits. -/
theorem fit_row {r : RowIx} {t : TypeId} {cs : List Value} {j : Nat} (hw : WS w0 M l w) (hl : lk l j = some (r.ent t cs)) (hB : ∀ g, some g ∈ B → g < w0.heap.size ∧ g ∉ M) : Fit w n B (hdOf r.id) cs := fun i x hx => by
  obtain ⟨ad, hA, hc⟩ := hw.rowCs hl i x hx
  refine ⟨ad, hA, hc, ?_⟩
  cases hid : r.id with
  | none => rw [hid] at hA; cases hA
  | some g =>
    rw [hid] at hA; cases hA
    have hat := hw.live j _ hl
    simp only [Ent.At, RowIx.ent, hid] at hat
    obtain ⟨t', _, hat⟩ := hat
    refine ⟨fun q => ?_, fun _ => ⟨_, _, hat⟩⟩
    have := hB g q
    rcases hw.own j _ g hl (by simp only [RowIx.ent, hid]) with h | h
    · omega
    · exact this.2 h
theorem fit_blk {g : Nat} {t : TypeId} {cs : List Value} {j : Nat} (hw : WS w0 M l w) (hl : lk l j = some ⟨some g, t, cs⟩) (hB : ∀ g, some g ∈ B → g < w0.heap.size ∧ g ∉ M) : Fit w n B (some ⟨g, 0, none⟩) cs := fun i x hx => by
  obtain ⟨ad, hA, hc⟩ := hw.blkCs hl i x hx
  cases hA
  have hat := (hw.live j _ hl).cells
  refine ⟨_, rfl, hc, fun q => ?_, fun _ => ⟨_, _, hat⟩⟩
  have := hB g q
  rcases hw.own j _ g hl rfl with h | h
  · omega
  · exact this.2 h
/-- The first cells of an entry. -/
theorem WS.pre {g : Nat} {t : TypeId} (xs ys : List Value) {j : Nat} (hw : WS w0 M l w) (hl : lk l j = some ⟨some g, t, xs ++ ys⟩) : Cs w (some ⟨g, 0, none⟩) xs := fun i x hx => by
  have hlt : i < xs.length := (List.getElem?_eq_some_iff.1 hx).1
  exact hw.blkCs hl i x (by rw [List.getElem?_append_left hlt]; exact hx)
theorem busy_lt {l1 : List (Nat × Ent)} (hB : ∀ g, some g ∈ B → g < w0.heap.size) (hw : WS w0 M l w) (hs : Sub l1 l) (hk : keysB l1 = true) : ∀ g, some g ∈ B ++ ids l1 → g < w.heap.size := fun g hg => by
  rcases List.mem_append.1 hg with h | h
  · exact Nat.lt_of_lt_of_le (hB g h) hw.size
  · obtain ⟨j, e, he, hid⟩ := ids_lk hk h
    exact (hw.live j e (hs _ _ he)).lt hid
theorem J.eqNilS {t' e : TypeId} {A : Option Addr} {q c : Nat} (ht : P.underlying t = some (.slice e)) (hx : ev σ x = some (.slice A q c)) (hy : ev σ y = some (.slice none 0 0)) (hd : okd N d) (h : J P ops F w0 M N lS L (putd d (.bool (decide (A = none))) σ) l) :
    J P ops F w0 M N lS ((⟨d, .binOp .eql t x y t', ty, p, af, none⟩, k) :: L) σ l :=
  J.eqlR hx hy hd (fun w => by
    rw [eqGuard_at_slice]
    have he : (Op.equal t (.slice A q c) (.slice none 0 0)).run P w = .ok A.isNone w := run_equal_slice_nil w t e A q c ht
    simp only [Sem.run_bind, Sem.run_pure, Result.andThen_ok, binOp, he]
    cases A <;> simp) h
end
/-! ### Rows of records -/
section
variable {α : Type} {f : α → List Value} {s : Nat}
theorem flat_length (hs : ∀ x, (f x).length = s) : ∀ (xs : List α), (xs.flatMap f).length = xs.length * s
  | [] => by simp
  | x :: xs => by rw [List.flatMap_cons, List.length_append, hs, flat_length hs xs, List.length_cons, Nat.succ_mul, Nat.add_comm]
theorem flat_drop (hs : ∀ x, (f x).length = s) : ∀ (xs : List α) (i : Nat), (xs.flatMap f).drop (i * s) = (xs.drop i).flatMap f
  | xs, 0 => by simp
  | [], i + 1 => by simp
  | x :: xs, i + 1 => by
    rw [List.flatMap_cons, List.drop_succ_cons, ← flat_drop hs xs i, Nat.succ_mul, Nat.add_comm, ← hs x, List.drop_append]
    simp
theorem flat_seg (hs : ∀ x, (f x).length = s) (xs : List α) (i : Nat) [Inhabited α] (h : i < xs.length) : ((xs.flatMap f).drop (i * s)).take s = f (xs.getD i default) := by
  rw [flat_drop hs, List.drop_eq_getElem_cons h, List.flatMap_cons, ← hs xs[i], List.take_left']
  · rw [List.getD_eq_getElem?_getD, List.getElem?_eq_getElem h]; rfl
  · rfl
theorem flat_at (hs : ∀ x, (f x).length = s) (xs : List α) (i o : Nat) [Inhabited α] (h : i < xs.length) (ho : o < s) : (xs.flatMap f)[i * s + o]? = (f (xs.getD i default))[o]? := by
  rw [← flat_seg hs xs i h, List.getElem?_take_of_lt ho, List.getElem?_drop]
theorem flat_one (h1 : ∀ x, ∀ u ∈ f x, u.oneCell' = true) (xs : List α) : ∀ u ∈ xs.flatMap f, u.oneCell' = true := fun u hu => by
  obtain ⟨x, _, hx⟩ := List.mem_flatMap.1 hu
  exact h1 x u hx
end
/-! ### Changes -/
structure Ch where
  who : Nat
  kind : Int
  key : Nat
  old : Nat
  new : Nat
  oc : List Nat
  nc : List Nat
  oA : Option Addr
  oC : Nat
  nA : Option Addr
  nC : Nat
instance : Inhabited Ch := ⟨⟨0, 0, 0, 0, 0, [], [], none, 0, none, 0⟩⟩
def Ch.cells (c : Ch) : List Value := ac c.who ++ (.int .i64 c.kind :: (wc c.key ++ (wc c.old ++ (wc c.new ++ [.slice c.oA c.oc.length c.oC, .slice c.nA c.nc.length c.nC]))))
theorem Ch.cells_length (c : Ch) : c.cells.length = 35 := rfl
theorem ac_one (a : Nat) : ∀ u ∈ ac a, u.oneCell' = true := rowN_one _ _
theorem wc_one (x : Nat) : ∀ u ∈ wc x, u.oneCell' = true := by
  have h := rowW_one [x]
  intro u hu
  exact h u (by rw [show rowW [x] = wc x ++ [] from rfl, List.append_nil]; exact hu)
theorem Ch.cells_one (c : Ch) : ∀ u ∈ c.cells, u.oneCell' = true := fun u hu => by
  simp only [Ch.cells, List.mem_append, List.mem_cons, List.not_mem_nil, or_false] at hu
  rcases hu with h | rfl | h | h | h | rfl | rfl
  · exact ac_one _ u h
  · rfl
  · exact wc_one _ u h
  · exact wc_one _ u h
  · exact wc_one _ u h
  · rfl
  · rfl
structure Ch.Ok (W : World) (n : Nat) (B : List (Option Nat)) (c : Ch) : Prop where
  kd : -9223372036854775808 ≤ c.kind ∧ c.kind ≤ 9223372036854775807
  dO : Dg c.oc
  dN : Dg c.nc
  lo : c.oc.length ≤ 1000000000000
  ln : c.nc.length ≤ 1000000000000
  fo : Fit W n B c.oA (rowN .u8 c.oc)
  fn : Fit W n B c.nA (rowN .u8 c.nc)
theorem Ch.Ok.keep {W w : World} {n : Nat} {B B' : List (Option Nat)} {c : Ch} (h : c.Ok W n B) (k : Keep W n B w B') : c.Ok w n B' := ⟨h.kd, h.dO, h.dN, h.lo, h.ln, k _ _ h.fo, k _ _ h.fn⟩
/-- The changes of a row are all well. -/
def AllC (W : World) (n : Nat) (B : List (Option Nat)) (cs : List Ch) : Prop := ∀ c ∈ cs, c.Ok W n B
theorem AllC.keep {W w : World} {n : Nat} {B B' : List (Option Nat)} {cs : List Ch} (h : AllC W n B cs) (k : Keep W n B w B') : AllC w n B' cs := fun c hc => (h c hc).keep k
theorem AllC.nil {W : World} {n : Nat} {B : List (Option Nat)} : AllC W n B [] := fun c hc => by cases hc
theorem AllC.snoc {W : World} {n : Nat} {B : List (Option Nat)} {cs : List Ch} {c : Ch} (h : AllC W n B cs) (hc : c.Ok W n B) : AllC W n B (cs ++ [c]) := fun x hx => by
  rcases List.mem_append.1 hx with h1 | h1
  · exact h x h1
  · rw [List.mem_singleton.1 h1]; exact hc
theorem AllC.get {W : World} {n : Nat} {B : List (Option Nat)} {cs : List Ch} (h : AllC W n B cs) {i : Nat} (hi : i < cs.length) : (cs.getD i default).Ok W n B := h _ (by
  rw [List.getD_eq_getElem?_getD, List.getElem?_eq_getElem hi]; exact List.getElem_mem hi)
theorem AllC.drop {W : World} {n : Nat} {B : List (Option Nat)} {cs : List Ch} (h : AllC W n B cs) (i : Nat) : AllC W n B (cs.drop i) := fun c hc => h c (List.mem_of_mem_drop hc)
theorem AllC.take {W : World} {n : Nat} {B : List (Option Nat)} {cs : List Ch} (h : AllC W n B cs) (i : Nat) : AllC W n B (cs.take i) := fun c hc => h c (List.mem_of_mem_take hc)
def rowC (cs : List Ch) : List Value := cs.flatMap Ch.cells
theorem rowC_length (cs : List Ch) : (rowC cs).length = cs.length * 35 := flat_length Ch.cells_length cs
theorem rowC_append (xs ys : List Ch) : rowC (xs ++ ys) = rowC xs ++ rowC ys := List.flatMap_append
theorem rowC_snoc (xs : List Ch) (c : Ch) : rowC (xs ++ [c]) = rowC xs ++ c.cells := by rw [rowC_append]; simp [rowC]
theorem rowC_seg (cs : List Ch) (i : Nat) (h : i < cs.length) : ((rowC cs).drop (i * 35)).take 35 = (cs.getD i default).cells := flat_seg Ch.cells_length cs i h
theorem rowC_one (cs : List Ch) : ∀ u ∈ rowC cs, u.oneCell' = true := flat_one Ch.cells_one cs
/-- What a change says. -/
structure CV where
  who : Nat
  kind : Int
  key : Nat
  old : Nat
  new : Nat
  oc : List Nat
  nc : List Nat
instance : Inhabited CV := ⟨⟨0, 0, 0, 0, 0, [], []⟩⟩
def Ch.v (c : Ch) : CV := ⟨c.who % 256 ^ 20, c.kind, c.key % 2 ^ 256, c.old % 2 ^ 256, c.new % 2 ^ 256, c.oc, c.nc⟩
/-- Turned round. -/
def CV.turn (c : CV) : CV := ⟨c.who, c.kind, c.key, c.new, c.old, c.nc, c.oc⟩
def CV.idle (c : CV) : Prop := c.old = c.new ∧ c.oc = c.nc
instance (c : CV) : Decidable c.idle := by unfold CV.idle; infer_instance
/-- How the spots of two changes stand to one another, as the program tells it. -/
def spotZ (a b : CV) : Int := if a.who ≠ b.who then cmpZ a.who b.who else if a.kind ≠ b.kind then a.kind - b.kind else wcmp a.key b.key
theorem nil_of_none {w : World} {A : Option Addr} {kd : IntKind} {xs : List Nat} (h : A = none) (hc : Cs w A (rowN kd xs)) : xs = [] := by
  cases xs with
  | nil => rfl
  | cons x xs => obtain ⟨ad, ha, _⟩ := hc 0 _ rfl; rw [h] at ha; cases ha
theorem cmpZ_ne (a b : Nat) : cmpZ a b ≠ 0 ↔ a ≠ b := by unfold cmpZ; split <;> (try split) <;> omega
theorem cmpZ_fit (a b : Nat) : -1 ≤ cmpZ a b ∧ cmpZ a b ≤ 1 := by unfold cmpZ; split <;> (try split) <;> omega
theorem spotZ_who {a b : CV} (h : a.who ≠ b.who) : spotZ a b = cmpZ a.who b.who := if_pos h
theorem spotZ_kind {a b : CV} (h : a.who = b.who) (h2 : a.kind ≠ b.kind) : spotZ a b = a.kind - b.kind := by unfold spotZ; rw [if_neg (fun q => q h), if_pos h2]
theorem spotZ_key {a b : CV} (h : a.who = b.who) (h2 : a.kind = b.kind) : spotZ a b = wcmp a.key b.key := by unfold spotZ; rw [if_neg (fun q => q h), if_neg (fun q => q h2)]
theorem wcmp_mod (a b : Nat) : wcmp (a % 2 ^ 256) (b % 2 ^ 256) = wcmp a b := by unfold wcmp; rw [Nat.mod_mod, Nat.mod_mod]
theorem sizeN_small (x : Nat) : ¬ sizeN x > 8 ↔ x % 2 ^ 256 < 2 ^ 64 := by
  constructor
  · intro h
    rw [← lim_small x (by omega)]
    exact lim_lt x 0
  · intro h h2
    have := sizeN_big x h2
    omega
end Go.Fw
set_option linter.unusedVariables false
namespace Go.Fw
open Go
/-- May a change be, but for being none at all? -/
def CV.mayL (c : CV) : Prop := 1 ≤ c.kind ∧ c.kind ≤ 4 ∧ (c.kind = 1 → c.old < 2 ^ 64 ∧ c.new < 2 ^ 64) ∧ (c.kind = 3 → c.old = 0 ∧ c.new = 0) ∧ (c.kind ≠ 3 → c.oc.length = 0 ∧ c.nc.length = 0) ∧ (c.key = 0 ∨ c.kind = 4)
instance (c : CV) : Decidable c.mayL := by unfold CV.mayL; infer_instance
def CV.may (c : CV) : Prop := c.mayL ∧ ¬ c.idle
instance (c : CV) : Decidable c.may := by unfold CV.may; infer_instance
/-- In form, behind a change p (if there is one): 0; else what is wrong with the first that is. -/
def badO (p : Option CV) (c : CV) : Bool := match p with
  | some q => decide (0 ≤ spotZ q c)
  | none => false
def formF : Option CV → List CV → Int
  | _, [] => 0
  | p, c :: cs => if ¬ c.may then 1 else if badO p c = true then 110 else formF (some c) cs
def formZ (cs : List CV) : Int := formF none cs
def prevC (cs : List CV) (i : Nat) : Option CV := if i = 0 then none else some (cs.getD (i - 1) default)
theorem getD_map_v (ds : List Ch) (i : Nat) (h : i < ds.length) : (ds.map Ch.v).getD i default = (ds.getD i default).v := by
  simp [List.getD_eq_getElem?_getD, h]
theorem form_step {cs : List CV} {i : Nat} (h : i < cs.length) : formF (prevC cs i) (cs.drop i) = if ¬ (cs.getD i default).may then 1 else if 0 < i ∧ 0 ≤ spotZ (cs.getD (i - 1) default) (cs.getD i default) then 110 else formF (prevC cs (i + 1)) (cs.drop (i + 1)) := by
  rw [List.drop_eq_getElem_cons h]
  have e : cs[i] = cs.getD i default := by rw [List.getD_eq_getElem?_getD, List.getElem?_eq_getElem h]; rfl
  simp only [formF]
  rw [e]
  split
  · rfl
  · have e2 : prevC cs (i + 1) = some (cs.getD i default) := by unfold prevC; rw [if_neg (by omega)]; rfl
    rw [e2]
    by_cases h0 : i = 0
    · subst h0; simp [prevC, badO]
    · have e3 : prevC cs i = some (cs.getD (i - 1) default) := by unfold prevC; rw [if_neg h0]
      rw [e3]
      simp only [badO, decide_eq_true_eq]
      by_cases h1 : 0 ≤ spotZ (cs.getD (i - 1) default) (cs.getD i default)
      · rw [if_pos h1, if_pos ⟨by omega, h1⟩]
      · rw [if_neg h1, if_neg (fun q => h1 q.2)]
theorem form_end (cs : List CV) : formF (prevC cs cs.length) (cs.drop cs.length) = 0 := by rw [List.drop_length]; rfl
theorem CV.may.kinds {c : CV} (h : c.may) : 1 ≤ c.kind ∧ c.kind ≤ 4 := ⟨h.1.1, h.1.2.1⟩
/-- A change turned round. -/
def Ch.turn (c : Ch) : Ch := ⟨c.who, c.kind, c.key, c.new, c.old, c.nc, c.oc, c.nA, c.nC, c.oA, c.oC⟩
theorem Ch.turn_v (c : Ch) : c.turn.v = c.v.turn := rfl
theorem Ch.Ok.turn {W : World} {n : Nat} {B : List (Option Nat)} {c : Ch} (h : c.Ok W n B) : c.turn.Ok W n B := ⟨h.kd, h.dN, h.dO, h.ln, h.lo, h.fn, h.fo⟩
theorem take_succ_getD' {α : Type} [Inhabited α] (xs : List α) (i : Nat) (h : i < xs.length) : xs.take (i + 1) = xs.take i ++ [xs.getD i default] := by
  rw [List.take_succ_eq_append_getElem h]; simp [List.getD, h]
theorem map_snoc_v {f : CV → CV} {zs : List Ch} {ds : List Ch} {i : Nat} {c : Ch} (hz : zs.map Ch.v = (ds.take i).map (fun c => f c.v)) (hi : i < ds.length) (hc : c.v = f (ds.getD i default).v) : (zs ++ [c]).map Ch.v = (ds.take (i + 1)).map (fun c => f c.v) := by
  rw [take_succ_getD' ds i hi, List.map_append, List.map_append, hz, List.map_singleton, List.map_singleton, hc]
theorem lt_snoc {C : Nat → Prop} {i : Nat} (h : ∀ j, j < i → C j) (hi : C i) : ∀ j, j < i + 1 → C j := fun j hj => by
  rcases Nat.lt_succ_iff_lt_or_eq.1 hj with h1 | h1
  · exact h j h1
  · subst h1; exact hi
end Go.Fw
set_option linter.unusedVariables false
namespace Go.Fw
open Go
theorem row_drop {α : Type} {f : α → List Value} {s : Nat} (hs : ∀ x, (f x).length = s) {w : World} {A : Option Addr} {c : Nat} {xs : List α} (h : Cs w A (xs.flatMap f)) (hc : xs.length ≤ c) (k : Nat) : Cs w (if c = k then A else A.map (·.add (k * s))) ((xs.drop k).flatMap f) := by
  split
  · rw [List.drop_eq_nil_of_le (by omega)]; exact Cs.nil _ _
  · have := h.drop (k * s)
    rwa [flat_drop hs] at this
theorem rowC_tail {w : World} {A : Option Addr} {c : Nat} {x : Ch} {xs : List Ch} (h : Cs w A (rowC (x :: xs))) (hc : (x :: xs).length ≤ c) : Cs w (if c = 1 then A else A.map (·.add (1 * 35))) (rowC xs) := row_drop Ch.cells_length h hc 1
theorem len_tail {α : Type} {x : α} {xs : List α} {c : Nat} (h : (x :: xs).length ≤ c) : xs.length ≤ c - 1 := by rw [List.length_cons] at h; omega
theorem rowC_head (x : Ch) (xs : List Ch) : ((rowC (x :: xs)).drop (0 * 35)).take 35 = x.cells := rfl
theorem AllC.head {W : World} {n : Nat} {B : List (Option Nat)} {x : Ch} {xs : List Ch} (h : AllC W n B (x :: xs)) : x.Ok W n B := h x List.mem_cons_self
theorem AllC.tail {W : World} {n : Nat} {B : List (Option Nat)} {x : Ch} {xs : List Ch} (h : AllC W n B (x :: xs)) : AllC W n B xs := fun c hc => h c (List.mem_cons_of_mem _ hc)
def AllMay (xs : List Ch) : Prop := ∀ c ∈ xs, c.v.may
theorem AllMay.head {x : Ch} {xs : List Ch} (h : AllMay (x :: xs)) : x.v.may := h x List.mem_cons_self
theorem AllMay.tail {x : Ch} {xs : List Ch} (h : AllMay (x :: xs)) : AllMay xs := fun c hc => h c (List.mem_cons_of_mem _ hc)
theorem may_kd {c : Ch} (h : c.v.may) : -4611686018427387904 ≤ c.kind ∧ c.kind ≤ 4611686018427387903 := by
  have := h.kinds
  unfold Ch.v at this
  dsimp only at this
  omega
theorem formF_may : ∀ (p : Option CV) (cs : List CV), formF p cs = 0 → ∀ c ∈ cs, c.may
  | _, [], _, c, hc => by cases hc
  | p, x :: cs, h, c, hc => by
    unfold formF at h
    split at h
    · cases h
    · rename_i hm
      split at h
      · cases h
      · rcases List.mem_cons.1 hc with rfl | hc
        · exact Decidable.not_not.1 hm
        · exact formF_may _ cs h c hc
theorem form_may {ds : List Ch} (h : formZ (ds.map Ch.v) = 0) : AllMay ds := fun c hc => formF_may _ _ h _ (List.mem_map.2 ⟨c, hc, rfl⟩)
theorem formF_codes : ∀ (p : Option CV) (cs : List CV), formF p cs = 0 ∨ formF p cs = 1 ∨ formF p cs = 110
  | _, [] => .inl rfl
  | p, x :: cs => by
    unfold formF
    split
    · exact .inr (.inl rfl)
    · split
      · exact .inr (.inr rfl)
      · exact formF_codes _ cs
/-- Two changes at one spot, one behind the other. -/
def CV.then (a b : CV) : CV := ⟨a.who, a.kind, a.key, a.old, b.new, a.oc, b.nc⟩
def Ch.then (a b : Ch) : Ch := ⟨a.who, a.kind, a.key, a.old, b.new, a.oc, b.nc, a.oA, a.oC, b.nA, b.nC⟩
theorem Ch.then_v (a b : Ch) : (a.then b).v = a.v.then b.v := rfl
theorem Ch.Ok.then {W : World} {n : Nat} {B : List (Option Nat)} {a b : Ch} (ha : a.Ok W n B) (hb : b.Ok W n B) : (a.then b).Ok W n B := ⟨ha.kd, ha.dO, hb.dN, ha.lo, hb.ln, ha.fo, hb.fn⟩
def CV.meets (a b : CV) : Prop := a.new = b.old ∧ a.nc = b.oc
instance (a b : CV) : Decidable (a.meets b) := by unfold CV.meets; infer_instance
def joinL : List CV → List CV → Option (List CV)
  | [], bs => some bs
  | az, [] => some az
  | a :: az, b :: bs => if spotZ a b < 0 then (joinL az (b :: bs)).map (a :: ·) else if 0 < spotZ a b then (joinL (a :: az) bs).map (b :: ·) else if ¬ a.meets b then none else if (a.then b).idle then joinL az bs else (joinL az bs).map (a.then b :: ·)
termination_by az bs => az.length + bs.length
theorem join_nil_r (az : List CV) : joinL az [] = some az := by cases az <;> simp [joinL]
theorem join_nil_l (bs : List CV) : joinL [] bs = some bs := by simp [joinL]
theorem join_a (a : CV) (az bs : List CV) (h : bs = [] ∨ ∃ b bs', bs = b :: bs' ∧ spotZ a b < 0) : joinL (a :: az) bs = (joinL az bs).map (a :: ·) := by
  rcases h with rfl | ⟨b, bs', rfl, h⟩
  · rw [join_nil_r, join_nil_r]; rfl
  · rw [joinL, if_pos h]
theorem join_b (b : CV) (az bs : List CV) (h : az = [] ∨ ∃ a as', az = a :: as' ∧ 0 < spotZ a b) : joinL az (b :: bs) = (joinL az bs).map (b :: ·) := by
  rcases h with rfl | ⟨a, as', rfl, h⟩
  · rw [join_nil_l, join_nil_l]; rfl
  · rw [joinL, if_neg (by omega), if_pos h]
theorem join_no {a b : CV} {az bs : List CV} (h : spotZ a b = 0) (hm : ¬ a.meets b) : joinL (a :: az) (b :: bs) = none := by
  rw [joinL, if_neg (by omega), if_neg (by omega), if_pos hm]
theorem join_idle {a b : CV} {az bs : List CV} (h : spotZ a b = 0) (hm : a.meets b) (hi : (a.then b).idle) : joinL (a :: az) (b :: bs) = joinL az bs := by
  rw [joinL, if_neg (by omega), if_neg (by omega), if_neg (fun q => q hm), if_pos hi]
theorem join_both {a b : CV} {az bs : List CV} (h : spotZ a b = 0) (hm : a.meets b) (hi : ¬ (a.then b).idle) : joinL (a :: az) (b :: bs) = (joinL az bs).map (a.then b :: ·) := by
  rw [joinL, if_neg (by omega), if_neg (by omega), if_neg (fun q => q hm), if_neg hi]
theorem join_push {J R : Option (List CV)} {c : CV} {zs : List CV} (h : J = (R.map (c :: ·)).map (zs ++ ·)) : J = R.map ((zs ++ [c]) ++ ·) := by
  rw [h]
  cases R <;> simp
theorem snoc_v (zs : List Ch) (c : Ch) : (zs ++ [c]).map Ch.v = zs.map Ch.v ++ [c.v] := by simp
/-- What Join answers: changes, and what is wrong. -/
def joinZ (az bs : List CV) : List CV × Int :=
  if formZ az ≠ 0 then ([], formZ az) else if formZ bs ≠ 0 then ([], formZ bs) else match joinL az bs with
    | some l => (l, 0)
    | none => ([], 240)
theorem joinZ_a {az bs : List CV} (h : formZ az ≠ 0) : joinZ az bs = ([], formZ az) := if_pos h
theorem joinZ_b {az bs : List CV} (h : formZ az = 0) (h2 : formZ bs ≠ 0) : joinZ az bs = ([], formZ bs) := by unfold joinZ; rw [if_neg (fun q => q h), if_pos h2]
theorem joinZ_ok {az bs l : List CV} (h : formZ az = 0) (h2 : formZ bs = 0) (hj : joinL az bs = some l) : joinZ az bs = (l, 0) := by unfold joinZ; rw [if_neg (fun q => q h), if_neg (fun q => q h2), hj]
theorem joinZ_no {az bs : List CV} (h : formZ az = 0) (h2 : formZ bs = 0) (hj : joinL az bs = none) : joinZ az bs = ([], 240) := by unfold joinZ; rw [if_neg (fun q => q h), if_neg (fun q => q h2), hj]
/-- Two rows, one behind the other in a list of two. -/
theorem two_rows {w : World} {n : Nat} {B : List (Option Nat)} {A1 A2 : Option Addr} {c1 c2 : Nat} {az bs : List Ch} (h1 : Cs w A1 (rowC az)) (h2 : Cs w A2 (rowC bs)) (hd1 : AllC w n B az) (hd2 : AllC w n B bs) (hl1 : az.length ≤ 1000000000) (hl2 : bs.length ≤ 1000000000) {j : Nat} (hj : j < 2) :
    ∃ (Aj : Option Addr) (cj : Nat) (dj : List Ch), [Value.slice A1 az.length c1, .slice A2 bs.length c2][j]? = some (.slice Aj dj.length cj) ∧ Cs w Aj (rowC dj) ∧ AllC w n B dj ∧ dj.length ≤ 1000000000 ∧ dj = (if j = 0 then az else bs) := by
  rcases (show j = 0 ∨ j = 1 by omega) with rfl | rfl
  · exact ⟨A1, c1, az, rfl, h1, hd1, hl1, rfl⟩
  · exact ⟨A2, c2, bs, rfl, h2, hd2, hl2, rfl⟩
theorem join_f1 {az bs dj : List Ch} {j : Nat} (hj : j < 2) (h : dj = if j = 0 then az else bs) (hz : formZ (dj.map Ch.v) = 0) (hfa : 0 < j → formZ (az.map Ch.v) = 0) : 0 < j + 1 → formZ (az.map Ch.v) = 0 := fun _ => by
  by_cases h0 : j = 0
  · rw [if_pos h0] at h; rw [← h]; exact hz
  · exact hfa (by omega)
theorem join_f2 {az bs dj : List Ch} {j : Nat} (hj : j < 2) (h : dj = if j = 0 then az else bs) (hz : formZ (dj.map Ch.v) = 0) (hfb : 1 < j → formZ (bs.map Ch.v) = 0) : 1 < j + 1 → formZ (bs.map Ch.v) = 0 := fun q => by
  rw [if_neg (by omega)] at h; rw [← h]; exact hz
theorem join_err {az bs dj : List Ch} {j : Nat} (hj : j < 2) (h : dj = if j = 0 then az else bs) (hz : formZ (dj.map Ch.v) ≠ 0) (hfa : 0 < j → formZ (az.map Ch.v) = 0) : joinZ (az.map Ch.v) (bs.map Ch.v) = ([], formZ (dj.map Ch.v)) := by
  by_cases h0 : j = 0
  · rw [if_pos h0] at h; subst h; exact joinZ_a hz
  · rw [if_neg h0] at h; subst h; exact joinZ_b (hfa (by omega)) hz
theorem join_fin (zs : List CV) : (joinL [] []).map (zs ++ ·) = some zs := by simp [join_nil_l]
end Go.Fw
set_option linter.unusedVariables false
namespace Go.Fw
open Go
section
variable {w0 w : World} {M : List Nat} {l : List (Nat × Ent)}
/-- No other entry, but for k and k2, is a map. -/
def oneMap (k k2 : Nat) : List (Nat × Ent) → Bool
  | [] => true
  | (j, e) :: l => (Nat.beq j k || Nat.beq j k2 || (match e.t with | .ty _ => true | .mp _ _ => false)) && oneMap k k2 l
theorem oneMap_lk {k k2 : Nat} : ∀ {l : List (Nat × Ent)}, oneMap k k2 l = true → ∀ {j : Nat} {e : Ent}, lk l j = some e → j ≠ k → j ≠ k2 → ∃ t, e.t = .ty t
  | [], _, j, e, h, _, _ => by simp [lk] at h
  | (i, u) :: l, hb, j, e, h, hne, hne2 => by
    simp only [oneMap, Bool.and_eq_true, Bool.or_eq_true] at hb
    rw [lk_cons] at h
    split at h
    · rename_i hij; subst hij; cases h
      rcases hb.1 with (h1 | h1) | h1
      · exact absurd (Nat.eq_of_beq_eq_true h1) hne
      · exact absurd (Nat.eq_of_beq_eq_true h1) hne2
      · cases ht : u.t with
        | ty t => exact ⟨t, rfl⟩
        | mp g r => rw [ht] at h1; cases h1
    · exact oneMap_lk hb.2 h hne hne2
theorem WS.newMap (h : WS w0 M l w) (k : Nat) : WS w0 M ((k, ⟨none, .mp w.heap.size (fun r => r = []), []⟩) :: l) (w.alloc (.map #[] 0)) := by
  refine ⟨h.os, h.tape, h.output, by have := h.size; simp; omega, fun i hi hM => ?_, fun j e he => ?_, fun j j' e e' g he he' hne hg => ?_, fun j e g he hg => ?_⟩
  · rw [heap_alloc_at, if_neg (by have := h.size; omega)]; exact h.keep i hi hM
  · rw [lk_cons] at he
    split at he
    · cases he
      exact ⟨rfl, #[], 0, by rw [heap_alloc_at, if_pos rfl], rfl, List.nodup_nil, fun e he => (by cases he)⟩
    · refine (h.live j e he).same (fun g hg => ?_) (fun g es clk hm => ?_)
      · rw [heap_alloc_at, if_neg (by have := (h.live j e he).lt hg; omega)]
      · rw [heap_alloc_at, if_neg (by have := (Array.getElem?_eq_some_iff.1 hm).1; omega)]
  · rw [lk_cons] at he he'
    split at he
    · cases he; cases hg
    · split at he'
      · cases he'; intro q; cases q
      · exact h.apart j j' e e' g he he' hne hg
  · rw [lk_cons] at he
    split at he
    · cases he; cases hg
    · exact h.own j e g he hg
def setObjW (w : World) (g : Nat) (o : Obj) : World := { w with heap := w.heap.setIfInBounds g o }
theorem heap_putObj (w : World) (g i : Nat) (o : Obj) : (setObjW w g o).heap[i]? = if g = i ∧ i < w.heap.size then some o else w.heap[i]? := by
  unfold setObjW
  simp only [Array.getElem?_setIfInBounds]
  by_cases h : g = i
  · subst h
    by_cases h2 : g < w.heap.size
    · simp [h2]
    · simp [h2]
  · simp [h]
theorem WS.setMap (h : WS w0 M l w) {k k2 g : Nat} {C : List MapEntry → Prop} {es' : List MapEntry} (hl : lk l k = some ⟨none, .mp g C, []⟩) (hone : oneMap k k2 l = true) (h2 : k2 ≠ k → ∀ e, lk l k2 = some e → ∃ D, e = ⟨none, .mp g D, []⟩ ∧ D es') (hg : w0.heap.size ≤ g) (clk : Nat) (hn : (es'.map (·.born)).Nodup) (hb : ∀ e ∈ es', e.born < clk) :
    WS w0 M ((k, ⟨none, .mp g (fun r => r = es'), []⟩) :: l) (setObjW w g (.map es'.toArray clk)) := by
  obtain ⟨_, esA, clk0, hat, _⟩ := h.live k _ hl
  have hlt := (Array.getElem?_eq_some_iff.1 hat).1
  refine ⟨h.os, h.tape, h.output, by have := h.size; simpa [setObjW] using this, fun i hi hM => ?_, fun j e he => ?_, fun j j' e e' g he he' hne hg => ?_, fun j e g he hg => ?_⟩
  · rw [heap_putObj, if_neg (by omega)]; exact h.keep i hi hM
  · rw [lk_cons] at he
    split at he
    · cases he
      exact ⟨rfl, es'.toArray, clk, by rw [heap_putObj, if_pos ⟨rfl, hlt⟩], by simp, by simpa using hn, by simpa using hb⟩
    · rename_i hne
      by_cases hj2 : j = k2
      · obtain ⟨D, rfl, hD⟩ := h2 (by rw [← hj2]; exact Ne.symm hne) e (by rw [← hj2]; exact he)
        exact ⟨rfl, es'.toArray, clk, by rw [heap_putObj, if_pos ⟨rfl, hlt⟩], by simpa using hD, by simpa using hn, by simpa using hb⟩
      have hat' := h.live j e he
      obtain ⟨t, ht⟩ := oneMap_lk hone he (Ne.symm hne) hj2
      cases hid : e.id with
      | none =>
        simp only [Ent.At, hid, ht] at hat' ⊢
        exact hat'
      | some q =>
        simp only [Ent.At, hid] at hat' ⊢
        obtain ⟨t', h1, h2⟩ := hat'
        refine ⟨t', h1, ?_⟩
        rw [heap_putObj, if_neg (by rintro ⟨rfl, _⟩; rw [hat] at h2; cases h2)]
        exact h2
  · rw [lk_cons] at he he'
    split at he
    · cases he; cases hg
    · split at he'
      · cases he'; intro q; cases q
      · exact h.apart j j' e e' g he he' hne hg
  · rw [lk_cons] at he
    split at he
    · cases he; cases hg
    · exact h.own j e g he hg
end
/-! ### Keys -/
/-- The type k is a struct of an address, a whole number, a word. -/
structure SpotT (P : Program) (k ta tb ti tw tu : TypeId) : Prop where
  fs : ∃ f1 f2 f3 : Field, P.underlying k = some (.struct #[f1, f2, f3]) ∧ (f1.type = ta ∧ f1.offset = 0 ∧ (f1.name != "_") = true) ∧ (f2.type = ti ∧ f2.offset = 20 ∧ (f2.name != "_") = true) ∧ (f3.type = tw ∧ f3.offset = 21 ∧ (f3.name != "_") = true)
  ua : P.underlying ta = some (.array 20 tb)
  ub : P.underlying tb = some (.int .u8)
  ui : P.underlying ti = some (.int .i64)
  uw : P.underlying tw = some (.array 4 tu)
  uu : P.underlying tu = some (.int .u64)
  ca : P.cellsOf ta = 20
  cb : P.cellsOf tb = 1
  ci : P.cellsOf ti = 1
  cw : P.cellsOf tw = 4
  cu : P.cellsOf tu = 1
  ck : P.cellsOf k = 25
  kt : P.keyType k = true
  ka : P.keyTypeAt 3 k = true
  tl : P.tiled 3 k = true
  dp : ∃ d, P.types.size + 1 = d + 3
def spotV (c : Ch) : Value := .agg (ac c.who ++ (.int .i64 c.kind :: wc c.key)).toArray
variable {P : Program} {k ta tb ti tw tu : TypeId}
theorem keyLits_row (d : Nat) {t e : TypeId} {kd : IntKind} {m : Nat} (ht : P.underlying t = some (.array m e)) (he : P.underlying e = some (.int kd)) (hct : P.cellsOf t = m) (hce : P.cellsOf e = 1) (xs : List Nat) (hl : xs.length = m) (hw : ∀ x ∈ xs, (Lit.int kd x).wf = true) : P.keyLits (d + 2) t (rowN kd xs) = some (xs.map fun (x : Nat) => Lit.int kd (x : Int)) := by
  unfold Program.keyLits
  simp only [ht]
  rw [if_pos (by rw [rowN_length, hl, hct])]
  have h : ∀ i, i < m → P.keyLits (d + 1) e (((rowN kd xs).drop (i * P.cellsOf e)).take (P.cellsOf e)) = some [Lit.int kd ((xs.getD i 0 : Nat) : Int)] := fun i hi => by
    have hg := rowN_get kd xs i (by omega)
    rw [hce, Nat.mul_one]
    have : ((rowN kd xs).drop i).take 1 = [.int kd ((xs.getD i 0 : Nat) : Int)] := by
      apply List.ext_getElem?
      intro j
      cases j with
      | zero => rw [List.getElem?_take_of_lt (by omega), List.getElem?_drop, Nat.add_zero, hg]; rfl
      | succ j => rw [List.getElem?_eq_none (by simp; omega), List.getElem?_eq_none (by simp)]
    rw [this]
    unfold Program.keyLits
    simp only [he]
    rw [if_pos ⟨trivial, hw _ (by rw [List.getD_eq_getElem?_getD, List.getElem?_eq_getElem (by omega)]; exact List.getElem_mem _)⟩]
  have hm : ∀ (ys : List Nat), (∀ i ∈ ys, i < m) → ys.mapM (fun i => P.keyLits (d + 1) e (((rowN kd xs).drop (i * P.cellsOf e)).take (P.cellsOf e))) = some (ys.map fun i => [Lit.int kd ((xs.getD i 0 : Nat) : Int)]) := by
    intro ys
    induction ys with
    | nil => intro _; rfl
    | cons y ys ih =>
      intro hy
      rw [List.mapM_cons, h y (hy y List.mem_cons_self), ih (fun i hi => hy i (List.mem_cons_of_mem _ hi))]
      rfl
  rw [hm _ (fun i hi => List.mem_range.1 hi)]
  simp only [Option.map_some, Option.some.injEq]
  apply List.ext_getElem?
  intro i
  have : ((List.range m).map fun i => [Lit.int kd ((xs.getD i 0 : Nat) : Int)]).flatten = (List.range m).map fun i => Lit.int kd ((xs.getD i 0 : Nat) : Int) := by
    induction List.range m with
    | nil => rfl
    | cons y ys ih => rw [List.map_cons, List.flatten_cons, ih]; rfl
  rw [this]
  simp only [List.getElem?_map]
  rcases Nat.lt_or_ge i m with h1 | h1
  · rw [List.getElem?_range h1, List.getElem?_eq_getElem (by omega : i < xs.length)]
    simp [List.getD, h1, hl]
  · rw [List.getElem?_eq_none (by simp; omega), List.getElem?_eq_none (by omega)]; rfl
theorem spot_key (T : SpotT P k ta tb ti tw tu) (c : Ch) (hk : -9223372036854775808 ≤ c.kind ∧ c.kind ≤ 9223372036854775807) : ∃ lt, keyOf P k (spotV c) = some lt := by
  obtain ⟨f1, f2, f3, hf, ⟨t1, o1, n1⟩, ⟨t2, o2, n2⟩, ⟨t3, o3, n3⟩⟩ := T.fs
  obtain ⟨d, hd⟩ := T.dp
  have hfm : (spotV c).formed P k = true := by
    simp only [spotV, Value.formed, hf, T.ck]
    rfl
  have wf8 : ∀ x ∈ adL c.who, (Lit.int .u8 x).wf = true := fun x hx => by
    have := adL_dg c.who x hx
    simp [Lit.wf, IntKind.min, IntKind.max, IntKind.signed, IntKind.bits]
    omega
  have wf64 : ∀ x ∈ wl c.key, (Lit.int .u64 x).wf = true := fun x hx => by
    have : x < 18446744073709551616 := by
      simp only [wl, List.mem_cons, List.not_mem_nil, or_false] at hx
      rcases hx with rfl | rfl | rfl | rfl <;> exact lim_lt _ _
    simp [Lit.wf, IntKind.min, IntKind.max, IntKind.signed, IntKind.bits]
    omega
  have e1 := keyLits_row d T.ua T.ub T.ca T.cb (adL c.who) rfl wf8
  have e3 := keyLits_row d T.uw T.uu T.cw T.cu (wl c.key) rfl wf64
  have e2 : P.keyLits (d + 2) ti [.int .i64 c.kind] = some [Lit.int .i64 c.kind] := by
    unfold Program.keyLits
    simp only [T.ui]
    rw [if_pos ⟨trivial, by simp [Lit.wf, IntKind.min, IntKind.max, IntKind.signed, IntKind.bits]; omega⟩]
  have e : P.keyLits (d + 3) k (spotV c).cells.toList = some ((adL c.who).map (fun (x : Nat) => Lit.int .u8 (x : Int)) ++ ([Lit.int .i64 c.kind] ++ ((wl c.key).map fun (x : Nat) => Lit.int .u64 (x : Int)))) := by
    show P.keyLits (d + 2 + 1) k (ac c.who ++ (.int .i64 c.kind :: wc c.key)) = _
    unfold Program.keyLits
    simp only [hf]
    rw [if_pos ⟨by rw [T.ck]; rfl, by simp [n1, n2, n3]⟩]
    simp only [List.mapM_cons, List.mapM_nil, t1, o1, t2, o2, t3, o3, T.ca, T.ci, T.cw]
    rw [show ((ac c.who ++ (.int .i64 c.kind :: wc c.key)).drop 0).take 20 = rowN .u8 (adL c.who) from rfl, show ((ac c.who ++ (.int .i64 c.kind :: wc c.key)).drop 20).take 1 = [.int .i64 c.kind] from rfl, show ((ac c.who ++ (.int .i64 c.kind :: wc c.key)).drop 21).take 4 = rowN .u64 (wl c.key) from rfl, e1, e2, e3]
    simp
  unfold keyOf
  rw [hf]
  simp only [T.kt, hfm, Bool.and_self, if_true, hd, e, Option.map_some]
  exact ⟨_, rfl⟩
end Go.Fw
set_option linter.unusedVariables false
namespace Go.Fw
open Go
section
variable {P : Program} {ops : Array Oper} {F : Act → World → Prop} {w0 w w' : World} {M : List Nat} {N : Nf} {L : List (Oper × K)} {σ : List (Nat × Value)} {l lS : List (Nat × Ent)} {k : K}
  {d : Option Tmp} {ty t kt et : TypeId} {p : String} {af : Array Edge} {x y z : Operand} {g : Nat} {es : List MapEntry} {v key : Value}
theorem J.midS (l' : List (Nat × Ent)) (hs : Sub l' l) {lS2 : List (Nat × Ent)} (h : J P ops F w0 M N lS2 L σ l') (hS : Sub lS2 l') : J P ops (Mid P ops F w0 M lS2 L) w0 M N lS [] σ l := fun _ a ha w hw => ⟨l', hw.sub hs, hS, h hS a ha⟩
theorem getM {esA : Array MapEntry} {clk : Nat} (hb : w.heap[g]? = some (.map esA clk)) : (getObj g).run P w = .ok (.map esA clk) w := by simp [getObj, Sem.run, hb]
theorem setM {esA : Array MapEntry} {clk : Nat} (o : Obj) (hb : w.heap[g]? = some (.map esA clk)) : (setObj g o).run P w = .ok () (setObjW w g o) := by simp [setObj, Sem.run, hb, setObjW]
theorem J.makeMap (h : Nat) (hh : lk lS h = none) (hd : okd N d) (hJ : ∀ g, w0.heap.size ≤ g → J P ops F w0 M N lS L (putd d (.map (some g)) σ) ((h, ⟨none, .mp g (fun r => r = []), []⟩) :: l)) : J P ops F w0 M N lS ((⟨d, .makeMap t none, ty, p, af, none⟩, .l) :: L) σ l :=
  J.loud rfl hd (ι := Nat) (fun g => w0.heap.size ≤ g) (fun g => .map (some g)) (fun g => (h, ⟨none, .mp g (fun r => r = []), []⟩) :: l) (fun _ _ hs => hs.fresh hh)
    (fun a ha w hw => by
      have : (execOp a.eval ⟨d, .makeMap t none, ty, p, af, none⟩).run P w = .ok (.value (.map (some w.heap.size))) (w.alloc (.map #[] 0)) := by
        simp only [execOp, Option.map_none, Instr.makeMap, Sem.run_bind, run_newObj, Result.andThen, Sem.run_pure]
        rfl
      rw [this]; exact ⟨_, hw.size, rfl, hw.newMap h⟩) hJ
theorem mapAt_of (hw : WS w0 M l w) {j : Nat} {C : List MapEntry → Prop} (hl : lk l j = some ⟨none, .mp g C, []⟩) : MapAt w g C := (hw.live j _ hl).2
/-- What is told of a map's entries. -/
abbrev Is (es : List MapEntry) : List MapEntry → Prop := fun r => r = es
theorem T.addMap {Q : Exit → Act → World → Prop} {c : Code} (j k2 : Nat) {C : List MapEntry → Prop} (D : List MapEntry → Prop) (hl : lk l j = some ⟨none, .mp g C, []⟩) (hD : ∀ r, C r → D r) (h : T P w0 M N Q c σ ((k2, ⟨none, .mp g D, []⟩) :: l)) : T P w0 M N Q c σ l := fun a w ha hw => h a w ha (by
  obtain ⟨esA, clk, h1, h2, h3, h4⟩ := mapAt_of hw hl
  refine ⟨hw.os, hw.tape, hw.output, hw.size, hw.keep, fun i e he => ?_, fun i i' e e' q he he' hne hg => ?_, fun i e q he hg => ?_⟩
  · rw [lk_cons] at he
    split at he
    · cases he; exact ⟨rfl, esA, clk, h1, hD _ h2, h3, h4⟩
    · exact hw.live i e he
  · rw [lk_cons] at he he'
    split at he
    · cases he; cases hg
    · split at he'
      · cases he'; intro q; cases q
      · exact hw.apart i i' e e' q he he' hne hg
  · rw [lk_cons] at he
    split at he
    · cases he; cases hg
    · exact hw.own i e q he hg)
/-- What stands at a key: 0 where none does. -/
def ValAt (es : List MapEntry) (key : Value) (c : Int) : Prop := (∃ e ∈ es, e.key = key ∧ e.val = .int .i64 c) ∨ ((∀ e ∈ es, e.key ≠ key) ∧ c = 0)
theorem nodup_keys {es : List MapEntry} (h : (es.map (·.key)).Nodup) {e e' : MapEntry} (he : e ∈ es) (he' : e' ∈ es) (hk : e.key = e'.key) : e = e' := by
  induction es with
  | nil => cases he
  | cons x es ih =>
    rw [List.map_cons, List.nodup_cons] at h
    rcases List.mem_cons.1 he with h1 | h1 <;> rcases List.mem_cons.1 he' with h2 | h2
    · rw [h1, h2]
    · exact absurd (List.mem_map.2 ⟨e', h2, by rw [← hk, h1]⟩) h.1
    · exact absurd (List.mem_map.2 ⟨e, h1, by rw [hk, h2]⟩) h.1
    · exact ih h.2 h1 h2
def ZeroI (P : Program) (t : TypeId) : Prop := ZeroT P t (.int .i64 0)
/-- The entries tell c at the key. -/
def LookOk (P : Program) (kt : TypeId) (key : Value) (c : Int) (es : List MapEntry) : Prop := (∀ e ∈ es, ∃ l, keyOf P kt e.key = some l) ∧ (es.map (·.key)).Nodup ∧ ValAt es key c
theorem run_lookup {c : Int} (hK : WideMaps.KeyLaw P kt) (ht : P.underlying t = some (.map kt et)) (hz : ZeroT P et (.int .i64 0)) (hm : MapAt w g (LookOk P kt key c)) {lt : Lit} (hkey : keyOf P kt key = some lt) :
    (Instr.lookup t (.map (some g)) key false).run P w = .ok (.int .i64 c) w := by
  obtain ⟨esA, clk, hat, ⟨hks, hn, hv⟩, _⟩ := hm
  have hc := hK.check w esA.isEmpty hkey
  unfold Instr.lookup
  simp only [Sem.run_bind, run_underlying ht, Result.andThen_ok, getM hat, Sem.run_pure, hc]
  rcases hK.find w hkey esA.toList hks with ⟨h1, h2⟩ | ⟨j, e, h1, h2, h3⟩
  · simp only [h1, Result.andThen_ok, Sem.run_bind, run_zeroValue hz, Sem.run_pure]
    rcases hv with ⟨e, he, hk, _⟩ | ⟨_, rfl⟩
    · exact absurd hk (h2 e he)
    · rfl
  · simp only [h1, Result.andThen_ok]
    rcases hv with ⟨e', he, hk, hval⟩ | ⟨hno, _⟩
    · obtain rfl := nodup_keys hn he (List.mem_of_getElem? h2) (hk.trans h3.symm)
      rw [hval]; rfl
    · exact absurd h3 (hno e (List.mem_of_getElem? h2))
theorem J.lookup (j : Nat) (hk : nog k) (hK : WideMaps.KeyLaw P kt) (ht : P.underlying t = some (.map kt et)) (hz : ZeroT P et (.int .i64 0)) {C : List MapEntry → Prop} {c : Int} (hl : lk l j = some ⟨none, .mp g C, []⟩) (hx : ev σ x = some (.map (some g))) (hy : ev σ y = some key) {lt : Lit} (hkey : keyOf P kt key = some lt)
    (hC : ∀ r, C r → LookOk P kt key c r) (hd : okd N d) (hJ : J P ops F w0 M N lS L (putd d (.int .i64 c) σ) l) :
    J P ops F w0 M N lS ((⟨d, .lookup t x y false, ty, p, af, none⟩, k) :: L) σ l :=
  J.quiet rfl hk hd _ (fun a ha w hw => by
    obtain ⟨esA, clk, h1, h2, h3, h4⟩ := mapAt_of hw hl
    simp only [execOp, ha.eval hx, ha.eval hy, run_lookup hK ht hz ⟨esA, clk, h1, hC _ h2, h3, h4⟩ hkey, Sem.run_bind, Result.andThen, Sem.run_pure]) hJ
theorem J.lookups (j : Nat) (hK : WideMaps.KeyLaw P kt) (ht : P.underlying t = some (.map kt et)) (hz : ZeroT P et (.int .i64 0)) {C : List MapEntry → Prop} {c : Int} (hl : lk lS j = some ⟨none, .mp g C, []⟩) (hx : ev σ x = some (.map (some g))) (hy : ev σ y = some key) {lt : Lit} (hkey : keyOf P kt key = some lt)
    (hC : ∀ r, C r → LookOk P kt key c r) (hd : okd N d) (hJ : J P ops F w0 M N lS L (putd d (.int .i64 c) σ) l) :
    J P ops F w0 M N lS ((⟨d, .lookup t x y false, ty, p, af, none⟩, .s) :: L) σ l :=
  J.stable rfl hd _ (fun a ha w hw => by
    obtain ⟨esA, clk, h1, h2, h3, h4⟩ := mapAt_of hw hl
    simp only [execOp, ha.eval hx, ha.eval hy, run_lookup hK ht hz ⟨esA, clk, h1, hC _ h2, h3, h4⟩ hkey, Sem.run_bind, Result.andThen, Sem.run_pure]) hJ
/-- The entries with one at the key. -/
def Touched (es : List MapEntry) (key : Value) (es2 : List MapEntry) (st : Nat) : Prop :=
  (es2 = es ∧ ∃ e ∈ es, e.key = key ∧ e.born = st) ∨ (es2 = es ++ [⟨key, .int .i64 0, st⟩] ∧ ∀ e ∈ es, e.key ≠ key)
theorem J.mapEntry (j : Nat) (hh : lk lS j = none) (hK : WideMaps.KeyLaw P kt) (ht : P.underlying t = some (.map kt et)) (hz : ZeroT P et (.int .i64 0)) (k2 : Nat) (hl : lk l j = some ⟨none, .mp g (Is es), []⟩) (hone : oneMap j k2 l = true) (h2 : k2 ≠ j → ∃ D, lk l k2 = some ⟨none, .mp g D, []⟩ ∧ ∀ es2 st, Touched es key es2 st → D es2) (hg : w0.heap.size ≤ g) (hx : ev σ x = some (.map (some g))) (hy : ev σ y = some key) {lt : Lit} (hkey : keyOf P kt key = some lt)
    (hks : ∀ e ∈ es, ∃ l, keyOf P kt e.key = some l) (hd : okd N d) (hJ : ∀ (v : Value) (st : Nat) (es2 : List MapEntry), Touched es key es2 st → (es2.map (·.born)).Nodup → J P ops F w0 M N lS L (putd d (.tuple [v, .int .i64 (st : Int)].toArray) σ) ((j, ⟨none, .mp g (Is es2), []⟩) :: l)) :
    J P ops F w0 M N lS ((⟨d, .mapEntry t x y, ty, p, af, none⟩, .l) :: L) σ l :=
  J.loud rfl hd (ι := Value × Nat × List MapEntry) (fun q => Touched es key q.2.2 q.2.1 ∧ (q.2.2.map (·.born)).Nodup) (fun q => .tuple [q.1, .int .i64 (q.2.1 : Int)].toArray) (fun q => (j, ⟨none, .mp g (Is q.2.2), []⟩) :: l) (fun _ _ hs => hs.fresh hh)
    (fun a ha w hw => by
      obtain ⟨esA, clk, hat, hes, hnd, hlt⟩ := mapAt_of hw hl
      have hes : esA.toList = es := hes
      rw [hes] at hnd hlt
      have hc := hK.check w false hkey
      have hth : ∀ es2 st, Touched es key es2 st → k2 ≠ j → ∀ e, lk l k2 = some e → ∃ D, e = ⟨none, .mp g D, []⟩ ∧ D es2 := fun es2 st ht hne e he => by
        obtain ⟨D, hD1, hD2⟩ := h2 hne
        rw [hD1] at he; cases he
        exact ⟨D, rfl, hD2 es2 st ht⟩
      simp only [execOp, ha.eval hx, ha.eval hy, Instr.mapEntry, Sem.run_bind, run_underlying ht, Result.andThen_ok, getM hat, hc]
      rw [hes]
      rcases hK.find w hkey es hks with ⟨h1, h3⟩ | ⟨i, e, h1, h4, h3⟩
      · simp only [h1, Result.andThen_ok, Sem.run_bind, run_zeroValue hz, setM _ hat, Sem.run_pure]
        have hnd2 : ((es ++ [(⟨key, .int .i64 0, clk⟩ : MapEntry)]).map (·.born)).Nodup := by
          rw [List.map_append, List.nodup_append]
          refine ⟨hnd, by simp, fun b hb c hc => ?_⟩
          simp at hc; subst hc
          obtain ⟨e, he, rfl⟩ := List.mem_map.1 hb
          have := hlt e he
          omega
        have hset := hw.setMap (es' := es ++ [⟨key, .int .i64 0, clk⟩]) hl hone (hth _ clk (.inr ⟨rfl, h3⟩)) hg (clk + 1) hnd2 (fun e he => by
          rcases List.mem_append.1 he with he | he
          · have := hlt e he; omega
          · simp at he; subst he; simp)
        have e1 : esA.push (⟨key, .int .i64 0, clk⟩ : MapEntry) = (es ++ [(⟨key, .int .i64 0, clk⟩ : MapEntry)]).toArray := by
          apply Array.ext'; simp [hes]
        rw [e1]
        exact ⟨(.int .i64 0, clk, es ++ [⟨key, .int .i64 0, clk⟩]), ⟨.inr ⟨rfl, h3⟩, hnd2⟩, rfl, hset⟩
      · have hei : esA[i]? = some e := by rw [← Array.getElem?_toList, hes]; exact h4
        have hst := hK.stays w hkey
        simp only [h1, Result.andThen_ok, Sem.run_bind, hei, Option.map_some, Option.getD_some, h3, hst, setM _ hat, Sem.run_pure]
        have e1 : (esA.modify i fun e => { e with key := key }) = es.toArray := by
          apply Array.ext'
          rw [← hes, Array.toList_modify]
          apply List.ext_getElem?
          intro q
          rw [List.getElem?_modify]
          by_cases hq : i = q
          · subst hq
            rw [hes, h4]
            simp only [Option.map_eq_map, Option.map_some, if_true]
            rw [← h3]
          · simp [hq]
        rw [e1]
        have hset := hw.setMap (es' := es) hl hone (hth _ e.born (.inl ⟨rfl, e, List.mem_of_getElem? h4, h3, rfl⟩)) hg clk hnd hlt
        exact ⟨(e.val, e.born, es), ⟨.inl ⟨rfl, e, List.mem_of_getElem? h4, h3, rfl⟩, hnd⟩, rfl, hset⟩) (fun q hq => hJ q.1 q.2.1 q.2.2 hq.1 hq.2)
/-- One entry's value written over. -/
def wroteE (es : List MapEntry) (st : Nat) (v : Value) : List MapEntry := es.map fun e => if e.born = st then { e with val := v } else e
theorem find_born {es : List MapEntry} {st : Nat} (hn : (es.map (·.born)).Nodup) {e : MapEntry} (he : e ∈ es) (hb : e.born = st) (v : Value) : ∃ i, (es.findIdx? fun e => ((e.born : Int) == (st : Int))) = some i ∧ (es.modify i fun e => { e with val := v }) = wroteE es st v := by
  induction es with
  | nil => cases he
  | cons x es ih =>
    rw [List.map_cons, List.nodup_cons] at hn
    by_cases hx : x.born = st
    · refine ⟨0, by simp [List.findIdx?_cons, hx], ?_⟩
      have hrest : wroteE es st v = es := by
        unfold wroteE
        conv => rhs; rw [← List.map_id es]
        refine List.map_congr_left fun y hy => ?_
        rw [if_neg (by rintro rfl; exact hn.1 (List.mem_map.2 ⟨y, hy, hx.symm⟩))]; rfl
      have e0 : wroteE (x :: es) st v = (if x.born = st then { x with val := v } else x) :: wroteE es st v := rfl
      rw [e0, hrest, if_pos hx]
      simp [List.modify]
    · have he' : e ∈ es := by
        rcases List.mem_cons.1 he with rfl | h
        · exact absurd hb hx
        · exact h
      obtain ⟨i, h1, h2⟩ := ih hn.2 he'
      refine ⟨i + 1, ?_, ?_⟩
      · rw [List.findIdx?_cons]
        have : ((x.born : Int) == (st : Int)) = false := by simp; omega
        rw [this]; simp [h1]
      · have e0 : wroteE (x :: es) st v = (if x.born = st then { x with val := v } else x) :: wroteE es st v := rfl
        rw [e0, if_neg hx, ← h2]
        simp [List.modify]
theorem wroteE_born (es : List MapEntry) (st : Nat) (v : Value) : (wroteE es st v).map (·.born) = es.map (·.born) := by
  unfold wroteE
  rw [List.map_map]
  refine List.map_congr_left fun e _ => ?_
  simp only [Function.comp]
  split <;> rfl
theorem wroteE_key (es : List MapEntry) (st : Nat) (v : Value) : (wroteE es st v).map (·.key) = es.map (·.key) := by
  unfold wroteE
  rw [List.map_map]
  refine List.map_congr_left fun e _ => ?_
  simp only [Function.comp]
  split <;> rfl
theorem J.entryStore (j : Nat) (hh : lk lS j = none) {st : Nat} (hl : lk l j = some ⟨none, .mp g (Is es), []⟩) (hone : oneMap j j l = true) (hg : w0.heap.size ≤ g) (hx : ev σ x = some (.map (some g))) (hy : ev σ y = some (.int .i64 (st : Int))) (hz : ev σ z = some v) (hn : (es.map (·.born)).Nodup) {e : MapEntry} (he : e ∈ es) (hb : e.born = st) (hd : okd N d)
    (hJ : J P ops F w0 M N lS L (putd d undef σ) ((j, ⟨none, .mp g (Is (wroteE es st v)), []⟩) :: l)) : J P ops F w0 M N lS ((⟨d, .entryStore t x y z, ty, p, af, none⟩, .l) :: L) σ l :=
  J.loud rfl hd (ι := Unit) (fun _ => True) (fun _ => undef) (fun _ => (j, ⟨none, .mp g (Is (wroteE es st v)), []⟩) :: l) (fun _ _ hs => hs.fresh hh)
    (fun a ha w hw => by
      obtain ⟨esA, clk, hat, hes, hnd, hlt⟩ := mapAt_of hw hl
      have hes : esA.toList = es := hes
      rw [hes] at hnd hlt
      obtain ⟨i, h1, h2⟩ := find_born hn he hb v
      have hset := hw.setMap (es' := wroteE es st v) hl hone (fun q => absurd rfl q) hg clk (by rw [wroteE_born]; exact hn) (fun q hq => by
        have : q.born ∈ (wroteE es st v).map (·.born) := List.mem_map.2 ⟨q, hq, rfl⟩
        rw [wroteE_born] at this
        obtain ⟨q2, hq2, e2⟩ := List.mem_map.1 this
        rw [← e2]; exact hlt q2 hq2)
      have e1 : (esA.modify i fun e => { e with val := v }) = (wroteE es st v).toArray := by
        apply Array.ext'
        rw [Array.toList_modify, hes, h2]
      have e2 : (esA.findIdx? fun e => ((e.born : Int) == (st : Int))) = some i := by
        rw [show esA = es.toArray by apply Array.ext'; simp [hes], List.findIdx?_toArray]; exact h1
      have hrun : (execOp a.eval ⟨d, .entryStore t x y z, ty, p, af, none⟩).run P w = .ok .skip (setObjW w g (.map (wroteE es st v).toArray clk)) := by
        simp only [execOp, ha.eval hx, ha.eval hy, ha.eval hz, Instr.entryStore, Sem.run_bind, Result.andThen_ok, getM hat, asInt, asIntOf, Sem.run_pure, e2, setM _ hat, e1]
      rw [hrun]
      exact ⟨(), trivial, rfl, hset⟩) (fun _ _ => hJ)
end
end Go.Fw
set_option linter.unusedVariables false
namespace Go.Fw
open Go
/-- The map's entries count the spots of cs. -/
structure MI (es : List MapEntry) (cs : List Ch) : Prop where
  kn : (es.map (·.key)).Nodup
  ks : ∀ e ∈ es, ∃ c ∈ cs, e.key = spotV c
  vs : ∀ e ∈ es, ∃ q : Nat, e.val = .int .i64 (q : Int) ∧ 1 ≤ q ∧ q ≤ cs.length
  hs : ∀ c ∈ cs, ∃ e ∈ es, e.key = spotV c
theorem MI.nil : MI [] [] := ⟨List.nodup_nil, fun e he => (by cases he), fun e he => (by cases he), fun c hc => (by cases hc)⟩
theorem MI.look {es : List MapEntry} {cs : List Ch} (h : MI es cs) (c : Ch) : ∃ q : Nat, ValAt es (spotV c) (q : Int) ∧ q ≤ cs.length ∧ (0 < q ↔ ∃ x ∈ cs, spotV x = spotV c) := by
  by_cases hx : ∃ x ∈ cs, spotV x = spotV c
  · obtain ⟨x, hx1, hx2⟩ := hx
    obtain ⟨e, he, hk⟩ := h.hs x hx1
    obtain ⟨q, hq, h1, h2⟩ := h.vs e he
    exact ⟨q, .inl ⟨e, he, hk.trans hx2, hq⟩, h2, ⟨fun _ => ⟨x, hx1, hx2⟩, fun _ => h1⟩⟩
  · refine ⟨0, .inr ⟨fun e he q => ?_, rfl⟩, Nat.zero_le _, ⟨fun q => absurd q (Nat.lt_irrefl 0), fun q => absurd q hx⟩⟩
    obtain ⟨y, hy, hk⟩ := h.ks e he
    exact hx ⟨y, hy, hk.symm.trans q⟩
theorem MI.keys {P : Program} {k ta tb ti tw tu : TypeId} (T : SpotT P k ta tb ti tw tu) {es : List MapEntry} {cs : List Ch} (h : MI es cs) (hk : ∀ c ∈ cs, -9223372036854775808 ≤ c.kind ∧ c.kind ≤ 9223372036854775807) : ∀ e ∈ es, ∃ l, keyOf P k e.key = some l := fun e he => by
  obtain ⟨c, hc, e1⟩ := h.ks e he
  rw [e1]
  exact spot_key T c (hk c hc)
theorem MI.lookOk {P : Program} {k ta tb ti tw tu : TypeId} (T : SpotT P k ta tb ti tw tu) {es : List MapEntry} {cs : List Ch} (h : MI es cs) (hk : ∀ c ∈ cs, -9223372036854775808 ≤ c.kind ∧ c.kind ≤ 9223372036854775807) {key : Value} {q : Int} (hv : ValAt es key q) : ∀ r, Is es r → LookOk P k key q r := fun r hr => by
  rw [show r = es from hr]; exact ⟨h.keys T hk, h.kn, hv⟩
theorem MI.lookTouched {P : Program} {k ta tb ti tw tu : TypeId} (T : SpotT P k ta tb ti tw tu) {es : List MapEntry} {cs : List Ch} (h : MI es cs) (hk : ∀ c ∈ cs, -9223372036854775808 ≤ c.kind ∧ c.kind ≤ 9223372036854775807) {key : Value} {lt : Lit} (hkey : keyOf P k key = some lt) {q : Int} (hv : ValAt es key q) : ∀ es2 st, Touched es key es2 st → LookOk P k key q es2 := fun es2 st ht => by
  rcases ht with ⟨rfl, _⟩ | ⟨rfl, hno⟩
  · exact ⟨h.keys T hk, h.kn, hv⟩
  · refine ⟨fun e he => ?_, ?_, ?_⟩
    · rcases List.mem_append.1 he with h1 | h1
      · exact h.keys T hk e h1
      · simp at h1; subst h1; exact ⟨lt, hkey⟩
    · rw [List.map_append, List.nodup_append]
      refine ⟨h.kn, by simp, fun a ha b hb => ?_⟩
      simp at hb; subst hb
      obtain ⟨e, he, rfl⟩ := List.mem_map.1 ha
      exact hno e he
    · rcases hv with ⟨e, he, hke, _⟩ | ⟨_, rfl⟩
      · exact absurd hke (hno e he)
      · exact .inl ⟨_, List.mem_append_right _ List.mem_cons_self, rfl, rfl⟩
theorem touched_mem {es es2 : List MapEntry} {key : Value} {st : Nat} (h : Touched es key es2 st) : ∃ e ∈ es2, e.key = key ∧ e.born = st := by
  rcases h with ⟨rfl, e, he, h1, h2⟩ | ⟨rfl, _⟩
  · exact ⟨e, he, h1, h2⟩
  · exact ⟨_, List.mem_append_right _ List.mem_cons_self, rfl, rfl⟩
theorem MI.next {es es2 : List MapEntry} {cs : List Ch} {c : Ch} {st q : Nat} (h : MI es cs) (ht : Touched es (spotV c) es2 st) (hq : q ≤ cs.length) : MI (wroteE es2 st (.int .i64 ((q + 1 : Nat) : Int))) (cs ++ [c]) := by
  have hkn : (es2.map (·.key)).Nodup := by
    rcases ht with ⟨rfl, _⟩ | ⟨rfl, hno⟩
    · exact h.kn
    · rw [List.map_append, List.nodup_append]
      refine ⟨h.kn, by simp, fun a ha b hb => ?_⟩
      simp at hb; subst hb
      obtain ⟨e, he, rfl⟩ := List.mem_map.1 ha
      exact hno e he
  have hmem : ∀ e ∈ es2, e ∈ es ∨ (e.key = spotV c ∧ e.born = st) := fun e he => by
    rcases ht with ⟨rfl, _⟩ | ⟨rfl, _⟩
    · exact .inl he
    · rcases List.mem_append.1 he with h1 | h1
      · exact .inl h1
      · simp at h1; subst h1; exact .inr ⟨rfl, rfl⟩
  have hk2 : ∀ e ∈ es2, ∃ x ∈ cs ++ [c], e.key = spotV x := fun e he => by
    rcases hmem e he with h1 | ⟨h1, _⟩
    · obtain ⟨x, hx, e1⟩ := h.ks e h1; exact ⟨x, List.mem_append_left _ hx, e1⟩
    · exact ⟨c, List.mem_append_right _ List.mem_cons_self, h1⟩
  have hwk := wroteE_key es2 st (.int .i64 ((q + 1 : Nat) : Int))
  refine ⟨by rw [hwk]; exact hkn, fun e he => ?_, fun e he => ?_, fun x hx => ?_⟩
  · have : e.key ∈ es2.map (·.key) := by rw [← hwk]; exact List.mem_map.2 ⟨e, he, rfl⟩
    obtain ⟨e2, he2, e3⟩ := List.mem_map.1 this
    rw [← e3]; exact hk2 e2 he2
  · simp only [wroteE, List.mem_map] at he
    obtain ⟨e2, he2, rfl⟩ := he
    rw [List.length_append, List.length_singleton]
    by_cases hb : e2.born = st
    · rw [if_pos hb]; exact ⟨q + 1, rfl, by omega, by omega⟩
    · rw [if_neg hb]
      rcases hmem e2 he2 with h1 | ⟨_, h1⟩
      · obtain ⟨r, h3, h4, h5⟩ := h.vs e2 h1
        exact ⟨r, h3, h4, by omega⟩
      · exact absurd h1 hb
  · have key : ∃ e ∈ es2, e.key = spotV x := by
      rcases List.mem_append.1 hx with h1 | h1
      · obtain ⟨e, he, e1⟩ := h.hs x h1
        rcases ht with ⟨rfl, _⟩ | ⟨rfl, _⟩
        · exact ⟨e, he, e1⟩
        · exact ⟨e, List.mem_append_left _ he, e1⟩
      · simp at h1; subst h1
        obtain ⟨e, he, e1, _⟩ := touched_mem ht
        exact ⟨e, he, e1⟩
    obtain ⟨e, he, e1⟩ := key
    have : e.key ∈ (wroteE es2 st (.int .i64 ((q + 1 : Nat) : Int))).map (·.key) := by rw [hwk]; exact List.mem_map.2 ⟨e, he, rfl⟩
    obtain ⟨e3, he3, e4⟩ := List.mem_map.1 this
    exact ⟨e3, he3, e4.trans e1⟩
/-- The same spot. -/
def CV.meetsAt (a b : CV) : Prop := a.who = b.who ∧ a.kind = b.kind ∧ a.key = b.key
instance (a b : CV) : Decidable (a.meetsAt b) := by unfold CV.meetsAt; infer_instance
theorem spotV_eq (a b : Ch) : spotV a = spotV b ↔ a.v.meetsAt b.v := by
  unfold CV.meetsAt Ch.v spotV
  dsimp only
  have hrow : ∀ {kd : IntKind} {xs ys : List Nat}, rowN kd xs = rowN kd ys → xs = ys := fun {kd xs ys} h => by
    unfold rowN at h
    have inj : ∀ (xs ys : List Nat), xs.map (fun (n : Nat) => Value.int kd (n : Int)) = ys.map (fun (n : Nat) => Value.int kd (n : Int)) → xs = ys := by
      intro xs
      induction xs with
      | nil => intro ys h; cases ys with
        | nil => rfl
        | cons y ys => simp at h
      | cons x xs ih => intro ys h; cases ys with
        | nil => simp at h
        | cons y ys =>
          simp only [List.map_cons, List.cons.injEq, Value.int.injEq, true_and] at h
          rw [ih ys h.2, show x = y by omega]
    exact inj xs ys h
  constructor
  · intro h
    have h1 : ac a.who ++ (.int .i64 a.kind :: wc a.key) = ac b.who ++ (.int .i64 b.kind :: wc b.key) := by
      have := congrArg Array.toList (Value.agg.inj h); simpa using this
    obtain ⟨h2, h3⟩ := List.append_inj h1 rfl
    rw [List.cons.injEq] at h3
    refine ⟨adL_inj.1 (hrow h2), (Value.int.inj h3.1).2, ?_⟩
    have := wl_eq a.key b.key
    rw [decide_eq_decide] at this
    exact this.1 (hrow h3.2)
  · rintro ⟨h1, h2, h3⟩
    have e1 : ac a.who = ac b.who := by unfold ac; rw [adL_inj.2 h1]
    have e3 : wc a.key = wc b.key := by
      have := wl_eq a.key b.key
      rw [decide_eq_decide] at this
      show rowN .u64 (wl a.key) = rowN .u64 (wl b.key)
      rw [this.2 h3]
    rw [e1, h2, e3]
/-- Do they touch nothing in common? -/
def apartL (ps qs : List CV) : Prop := ∀ b ∈ qs, ¬ ∃ a ∈ ps, a.meetsAt b
instance (ps qs : List CV) : Decidable (apartL ps qs) := by unfold apartL; infer_instance
theorem apart_hit {ps qs : List Ch} {i : Nat} (hi : i < qs.length) {q : Nat} (hpos : 0 < q ↔ ∃ x ∈ ps, spotV x = spotV (qs.getD i default)) (hq : 0 < q) : ¬ apartL (ps.map Ch.v) (qs.map Ch.v) := fun h => by
  obtain ⟨x, hx, he⟩ := hpos.1 hq
  refine h (qs.getD i default).v (List.mem_map.2 ⟨_, ?_, rfl⟩) ⟨x.v, List.mem_map.2 ⟨x, hx, rfl⟩, (spotV_eq _ _).1 he⟩
  rw [List.getD_eq_getElem?_getD, List.getElem?_eq_getElem hi]
  exact List.getElem_mem hi
theorem apart_all {ps qs : List Ch} (h : ∀ j, j < qs.length → ¬ ∃ x ∈ ps, spotV x = spotV (qs.getD j default)) : apartL (ps.map Ch.v) (qs.map Ch.v) := fun b hb ⟨a, ha, hm⟩ => by
  obtain ⟨y, hy, rfl⟩ := List.mem_map.1 hb
  obtain ⟨x, hx, rfl⟩ := List.mem_map.1 ha
  obtain ⟨j, hj, rfl⟩ := List.mem_iff_getElem.1 hy
  exact h j hj ⟨x, hx, by rw [List.getD_eq_getElem?_getD, List.getElem?_eq_getElem hj]; exact (spotV_eq _ _).2 hm⟩
end Go.Fw
set_option linter.unusedVariables false
namespace Go.Fw
open Go
structure Sp where
  who : Nat
  kind : Int
  key : Nat
  w : Nat
  code : List Nat
  cA : Option Addr
  cC : Nat
instance : Inhabited Sp := ⟨⟨0, 0, 0, 0, [], none, 0⟩⟩
def Sp.cells (c : Sp) : List Value := ac c.who ++ (.int .i64 c.kind :: (wc c.key ++ (wc c.w ++ [.slice c.cA c.code.length c.cC])))
theorem Sp.cells_length (c : Sp) : c.cells.length = 30 := rfl
theorem Sp.cells_one (c : Sp) : ∀ u ∈ c.cells, u.oneCell' = true := fun u hu => by
  simp only [Sp.cells, List.mem_append, List.mem_cons, List.not_mem_nil, or_false] at hu
  rcases hu with h | rfl | h | h | rfl
  · exact ac_one _ u h
  · rfl
  · exact wc_one _ u h
  · exact wc_one _ u h
  · rfl
theorem ac_at (a i : Nat) (h : i < 20) (ys : List Value) : (ac a ++ ys)[0 + i * 1]? = some (.int .u8 ((ab a i : Nat) : Int)) := by
  rw [Nat.zero_add, Nat.mul_one, List.getElem?_append_left (by rw [ac_length]; exact h)]
  unfold ac
  rw [rowN_get .u8 (adL a) i (by rw [adL_length]; exact h)]
  congr 3
  simp [adL, List.getD, h]
structure Sp.Ok (W : World) (n : Nat) (B : List (Option Nat)) (c : Sp) : Prop where
  kd : -9223372036854775808 ≤ c.kind ∧ c.kind ≤ 9223372036854775807
  dC : Dg c.code
  lc : c.code.length ≤ 1000000000000
  fc : Fit W n B c.cA (rowN .u8 c.code)
theorem Sp.Ok.keep {W w : World} {n : Nat} {B B' : List (Option Nat)} {c : Sp} (h : c.Ok W n B) (k : Keep W n B w B') : c.Ok w n B' := ⟨h.kd, h.dC, h.lc, k _ _ h.fc⟩
/-- The spot of a change, with its old, with its new. -/
def Ch.was (c : Ch) : Sp := ⟨c.who, c.kind, c.key, c.old, c.oc, c.oA, c.oC⟩
def Ch.is (c : Ch) : Sp := ⟨c.who, c.kind, c.key, c.new, c.nc, c.nA, c.nC⟩
theorem Ch.Ok.was {W : World} {n : Nat} {B : List (Option Nat)} {c : Ch} (h : c.Ok W n B) : c.was.Ok W n B := ⟨h.kd, h.dO, h.lo, h.fo⟩
theorem Ch.Ok.is {W : World} {n : Nat} {B : List (Option Nat)} {c : Ch} (h : c.Ok W n B) : c.is.Ok W n B := ⟨h.kd, h.dN, h.ln, h.fn⟩
/-- How two spots stand to one another, as the document tells it. -/
def cmpI (a b : Int) : Int := if a < b then -1 else if b < a then 1 else 0
def ordZ (a b : Sp) : Int := if a.who % 256 ^ 20 ≠ b.who % 256 ^ 20 then cmpZ (a.who % 256 ^ 20) (b.who % 256 ^ 20) else if a.kind ≠ b.kind then cmpI a.kind b.kind else cmpZ (a.key % 2 ^ 256) (b.key % 2 ^ 256)
theorem words_lt {x y k : Nat} (hk : k < 4) (h : ∀ q, k < q → q < 4 → lim x q = lim y q) (hl : lim x k < lim y k) : x % 2 ^ 256 < y % 2 ^ 256 := by
  have e : ∀ x : Nat, x % 2 ^ 256 = lim x 0 + 18446744073709551616 * (lim x 1 + 18446744073709551616 * (lim x 2 + 18446744073709551616 * lim x 3)) := by
    intro x
    unfold lim
    omega
  have b := fun x i => lim_lt x i
  have h0 := b x 0; have h1 := b x 1; have h2 := b x 2; have h3 := b x 3
  have g0 := b y 0; have g1 := b y 1; have g2 := b y 2; have g3 := b y 3
  rw [e x, e y]
  rcases (show k = 0 ∨ k = 1 ∨ k = 2 ∨ k = 3 by omega) with rfl | rfl | rfl | rfl
  · have := h 1 (by omega) (by omega); have := h 2 (by omega) (by omega); have := h 3 (by omega) (by omega); omega
  · have := h 2 (by omega) (by omega); have := h 3 (by omega) (by omega); omega
  · have := h 3 (by omega) (by omega); omega
  · omega
theorem words_eq {x y : Nat} (h : ∀ q, q < 4 → lim x q = lim y q) : x % 2 ^ 256 = y % 2 ^ 256 := by
  have := wl_eq x y
  rw [decide_eq_decide] at this
  refine this.1 ?_
  unfold wl
  rw [h 0 (by omega), h 1 (by omega), h 2 (by omega), h 3 (by omega)]
theorem cmpZ_lt {a b : Nat} (h : a < b) : cmpZ a b = -1 := if_pos h
theorem cmpZ_gt {a b : Nat} (h : b < a) : cmpZ a b = 1 := by unfold cmpZ; rw [if_neg (by omega), if_pos h]
theorem cmpZ_eq {a b : Nat} (h : a = b) : cmpZ a b = 0 := by unfold cmpZ; rw [if_neg (by omega), if_neg (by omega)]
theorem cmpZ_zero {a b : Nat} : cmpZ a b = 0 ↔ a = b := by unfold cmpZ; split <;> (try split) <;> omega
theorem cmpL_at : ∀ (xs ys : List Nat) (i : Nat), xs.length = ys.length → i < xs.length → (∀ q, q < i → xs.getD q 0 = ys.getD q 0) → xs.getD i 0 < ys.getD i 0 → cmpL xs ys = -1
  | x :: xs, y :: ys, 0, _, _, _, h => by
    simp at h
    simp only [cmpL]; rw [if_pos h]
  | x :: xs, y :: ys, i + 1, hl, hi, he, h => by
    have h0 := he 0 (by omega)
    simp at h0
    subst h0
    simp only [cmpL]
    rw [if_neg (by omega), if_neg (by omega)]
    exact cmpL_at xs ys i (by simpa using hl) (by simpa using hi) (fun q hq => by have := he (q + 1) (by omega); simpa using this) (by simpa using h)
  | [], _, _, _, hi, _, _ => by simp at hi
  | _ :: _, [], _, hl, _, _, _ => by simp at hl
theorem adL_getD (a i : Nat) (h : i < 20) : (adL a).getD i 0 = ab a i := by simp [adL, List.getD, h]
theorem ad_lt {a b i : Nat} (hi : i < 20) (h : ∀ q, q < i → ab a q = ab b q) (hl : ab a i < ab b i) : a % 256 ^ 20 < b % 256 ^ 20 := by
  have h1 := cmpL_at (adL a) (adL b) i rfl hi (fun q hq => by rw [adL_getD _ _ (by omega), adL_getD _ _ (by omega)]; exact h q hq) (by rw [adL_getD _ _ hi, adL_getD _ _ hi]; exact hl)
  rw [cmp_ad] at h1
  unfold cmpZ at h1
  split at h1
  · assumption
  · split at h1 <;> omega
theorem ad_eq {a b : Nat} (h : ∀ q, q < 20 → ab a q = ab b q) : a % 256 ^ 20 = b % 256 ^ 20 := adL_inj.1 (by
  unfold adL
  exact List.map_congr_left fun q hq => h q (List.mem_range.1 hq))
theorem ordZ_who {a b : Sp} (h : a.who % 256 ^ 20 ≠ b.who % 256 ^ 20) : ordZ a b = cmpZ (a.who % 256 ^ 20) (b.who % 256 ^ 20) := if_pos h
theorem ordZ_kind {a b : Sp} (h : a.who % 256 ^ 20 = b.who % 256 ^ 20) (h2 : a.kind ≠ b.kind) : ordZ a b = cmpI a.kind b.kind := by unfold ordZ; rw [if_neg (fun q => q h), if_pos h2]
theorem ordZ_key {a b : Sp} (h : a.who % 256 ^ 20 = b.who % 256 ^ 20) (h2 : a.kind = b.kind) : ordZ a b = cmpZ (a.key % 2 ^ 256) (b.key % 2 ^ 256) := by unfold ordZ; rw [if_neg (fun q => q h), if_neg (fun q => q h2)]
theorem ordZ_zero (a b : Ch) : ordZ a.was b.was = 0 ↔ a.v.meetsAt b.v := by
  unfold CV.meetsAt Ch.v
  dsimp only
  by_cases h1 : a.who % 256 ^ 20 = b.who % 256 ^ 20
  · by_cases h2 : a.kind = b.kind
    · rw [ordZ_key h1 h2, cmpZ_zero]
      exact ⟨fun q => ⟨h1, h2, q⟩, fun q => q.2.2⟩
    · rw [ordZ_kind h1 h2]
      have h2' : a.was.kind ≠ b.was.kind := h2
      unfold cmpI
      constructor
      · intro q; split at q <;> (try split at q) <;> omega
      · intro q; exact absurd q.2.1 h2
  · rw [ordZ_who h1]
    constructor
    · intro q; exact absurd (cmpZ_zero.1 q) h1
    · intro q; exact absurd q.1 h1
def Sp.sameP (a b : Sp) : Prop := a.w % 2 ^ 256 = b.w % 2 ^ 256 ∧ a.code = b.code
instance (a b : Sp) : Decidable (a.sameP b) := by unfold Sp.sameP; infer_instance
/-- A change from one spot to another one. -/
def Sp.to (a b : Sp) : CV := ⟨a.who % 256 ^ 20, a.kind, a.key % 2 ^ 256, a.w % 2 ^ 256, b.w % 2 ^ 256, a.code, b.code⟩
theorem words_step {x0 x1 k : Nat} (he : ∀ q, k + 1 ≤ q → q < 4 → lim x0 q = lim x1 q) (hk : lim x0 k = lim x1 k) : ∀ q, k ≤ q → q < 4 → lim x0 q = lim x1 q := fun q h1 h2 => by
  rcases Nat.eq_or_lt_of_le h1 with h | h
  · subst h; exact hk
  · exact he q h h2
theorem apart_hit2 {ps qs : List Ch} {i k : Nat} (hi : i < ps.length) (hk : k < qs.length) (h : (ps.getD i default).v.meetsAt (qs.getD k default).v) : ¬ apartL (ps.map Ch.v) (qs.map Ch.v) := fun q => by
  have mem : ∀ (zs : List Ch) (j : Nat), j < zs.length → (zs.getD j default).v ∈ zs.map Ch.v := fun zs j hj => List.mem_map.2 ⟨_, by rw [List.getD_eq_getElem?_getD, List.getElem?_eq_getElem hj]; exact List.getElem_mem hj, rfl⟩
  exact q _ (mem qs k hk) ⟨_, mem ps i hi, h⟩
theorem apart_all2 {ps qs : List Ch} (h : ∀ p, p < ps.length → ∀ q, q < qs.length → ¬ (ps.getD p default).v.meetsAt (qs.getD q default).v) : apartL (ps.map Ch.v) (qs.map Ch.v) := fun b hb ⟨a, ha, hm⟩ => by
  obtain ⟨y, hy, rfl⟩ := List.mem_map.1 hb
  obtain ⟨x, hx, rfl⟩ := List.mem_map.1 ha
  obtain ⟨j, hj, rfl⟩ := List.mem_iff_getElem.1 hy
  obtain ⟨i, hi, rfl⟩ := List.mem_iff_getElem.1 hx
  have := h i hi j hj
  rw [List.getD_eq_getElem?_getD, List.getElem?_eq_getElem hi, List.getD_eq_getElem?_getD, List.getElem?_eq_getElem hj] at this
  exact this hm
end Go.Fw
namespace Go.Fw
open Go
theorem wcmp_ref (x y : Nat) : wcmp x y = cmpN (x % 2 ^ 256) (y % 2 ^ 256) := by
  unfold wcmp cmpN
  split
  · rw [if_neg (by omega), if_neg (by omega)]
  · split
    · rfl
    · rw [if_pos (by omega)]
theorem cmpN_zero (a b : Nat) : cmpN a b = 0 ↔ a = b := by unfold cmpN; split <;> (try split) <;> omega
theorem minus_step {xs0 xs1 zs : List Nat} {i b d b' : Nat} (hl : zs.length = i) (hv : vl zs + vl (xs1.take i) = vl (xs0.take i) + b * 256 ^ i) (he : xs0.getD i 0 + 256 * b' = xs1.getD i 0 + b + d) :
    vl (zs ++ [d]) + vl (xs1.take (i + 1)) = vl (xs0.take (i + 1)) + b' * 256 ^ (i + 1) := by
  rw [vl_append, hl, vl_take_succ, vl_take_succ, Nat.pow_succ]
  have h1 : vl [d] = d := by simp [vl]
  have h2 := congrArg (· * 256 ^ i) he
  simp only [Nat.add_mul] at h2
  rw [h1]
  grind
theorem minus_end {xs0 xs1 zs : List Nat} {b : Nat} (hz : Dg zs) (hv : vl zs + vl xs1 = vl xs0 + b * 256 ^ zs.length) (hle : vl xs1 ≤ vl xs0) : vl zs = vl xs0 - vl xs1 := by
  have := vl_lt hz
  rcases Nat.eq_zero_or_pos b with h | h
  · subst h; omega
  · have : 256 ^ zs.length ≤ b * 256 ^ zs.length := Nat.le_mul_of_pos_left _ h
    omega
/-! ### A number's digits -/
theorem small_snoc (n k : Nat) : n % 256 ^ k + n / 256 ^ k % 256 * 256 ^ k = n % 256 ^ (k + 1) := by
  rw [Nat.pow_succ, Nat.mod_mul, Nat.mul_comm (256 ^ k)]
theorem small_len {n m k : Nat} (hn : n < 9223372036854775808) (hl : k ≤ 8) (hm : m = n / 256 ^ k) (h : 0 < m) : k < 8 := by
  rcases Nat.lt_or_ge k 8 with h8 | h8
  · exact h8
  · obtain rfl : k = 8 := by omega
    have : n / 256 ^ 8 = 0 := Nat.div_eq_of_lt (Nat.lt_trans hn (by decide))
    omega
/-! ### Times -/
theorem dq_zeros (b : Nat) (h : 0 < b := by decide) (n : Nat) : Dq b (List.replicate n 0) := fun x hx => by
  rw [List.eq_of_mem_replicate hx]; exact h
theorem getD_replicate0 (n q : Nat) : (List.replicate n 0).getD q 0 = 0 := by
  rw [List.getD_eq_getElem?_getD, List.getElem?_replicate]; split <;> rfl
theorem dg_of {xs : List Nat} (h : Dq 256 xs) : Dg xs := h
theorem times_round {xs0 xs1 ps ps' : List Nat} {i k c c' : Nat} (hs : vq 256 ps' + c' * 256 ^ (i + k + 1) = vq 256 ps + c * 256 ^ (i + k) + xs0.getD i 0 * xs1.getD k 0 * 256 ^ (i + k))
    (hv : vq 256 ps + c * 256 ^ (i + k) = vl (xs0.take i) * vl xs1 + xs0.getD i 0 * vl (xs1.take k) * 256 ^ i) :
    vq 256 ps' + c' * 256 ^ (i + (k + 1)) = vl (xs0.take i) * vl xs1 + xs0.getD i 0 * vl (xs1.take (k + 1)) * 256 ^ i := by
  rw [← Nat.add_assoc i k 1, hs, hv, vl_take_succ, Nat.pow_add]
  generalize 256 ^ i = a
  generalize 256 ^ k = b
  grind
theorem times_zero {ps : List Nat} {n0 n1 i k v : Nat} (hl : ps.length = n0 + n1 + 1) (hk : k ≤ n1 ∧ i < n0) (hz : ∀ q, i + n1 + (if k ≤ n1 then 0 else 1) ≤ q → ps.getD q 0 = 0) : ∀ q, i + n1 + (if k + 1 ≤ n1 then 0 else 1) ≤ q → (ps.set (i + k) v).getD q 0 = 0 := fun q hq => by
  rw [getD_set _ _ _ _ (by omega), if_neg (by split at hq <;> omega)]
  refine hz q ?_
  rw [if_pos hk.1]
  split at hq <;> omega
theorem times_val {xs0 xs1 ps : List Nat} {i c : Nat} (hv : vq 256 ps + c * 256 ^ (i + (xs1.length + 1)) = vl (xs0.take i) * vl xs1 + xs0.getD i 0 * vl (xs1.take (xs1.length + 1)) * 256 ^ i) :
    vq 256 ps + c * 256 ^ (i + (xs1.length + 1)) = vl (xs0.take (i + 1)) * vl xs1 := by
  rw [vl_take_all xs1 _ (by omega)] at hv
  rw [hv, vl_take_succ, Nat.add_mul]
  generalize 256 ^ i = a
  grind
theorem times_carry {xs0 xs1 ps : List Nat} {i c : Nat} (hx0 : Dg xs0) (hx1 : Dg xs1) (hv : vq 256 ps + c * 256 ^ (i + (xs1.length + 1)) = vl (xs0.take i) * vl xs1 + xs0.getD i 0 * vl (xs1.take (xs1.length + 1)) * 256 ^ i) : c = 0 := by
  have h := times_val hv
  have h0 := vl_take_lt hx0 (i + 1)
  have h1 := vl_lt hx1
  have h2 := Nat.mul_lt_mul'' h0 h1
  rw [← Nat.pow_add, show i + 1 + xs1.length = i + (xs1.length + 1) by omega] at h2
  rcases Nat.eq_zero_or_pos c with hc | hc
  · exact hc
  · have : 256 ^ (i + (xs1.length + 1)) ≤ c * 256 ^ (i + (xs1.length + 1)) := Nat.le_mul_of_pos_left _ hc
    omega
theorem times_done {xs0 xs1 ps : List Nat} {i c : Nat} (hv : vq 256 ps + c * 256 ^ (i + (xs1.length + 1)) = vl (xs0.take i) * vl xs1 + xs0.getD i 0 * vl (xs1.take (xs1.length + 1)) * 256 ^ i) (hc : c = 0) : vq 256 ps = vl (xs0.take (i + 1)) * vl xs1 := by
  have h := times_val hv
  rw [hc, Nat.zero_mul, Nat.add_zero] at h
  exact h
/-! ### Bits -/
theorem bit_digit (V i : Nat) : V / 256 ^ (i / 8) % 256 / 2 ^ (i % 8) % 2 = V / 2 ^ i % 2 := by
  have h8 : i % 8 < 8 := Nat.mod_lt _ (by omega)
  have e : (256 : Nat) ^ (i / 8) = 2 ^ (8 * (i / 8)) := by rw [Nat.pow_mul]
  rw [bit_testBit, bit_testBit, show (256 : Nat) = 2 ^ 8 by decide, Nat.testBit_mod_two_pow, ← show (256 : Nat) = 2 ^ 8 by decide, e, Nat.testBit_div_two_pow, show i % 8 + 8 * (i / 8) = i by omega]
  simp [h8]
/-! ### Dividing -/
theorem cut_facts {xs zs : List Nat} {n : Nat} (hz : zs = xs.take n) (hx : Dg xs) (hlt : vl xs < 256 ^ n) : Dg zs ∧ zs.length ≤ n ∧ vl zs = vl xs := by
  subst hz
  exact ⟨hx.take n, by rw [List.length_take]; omega, by rw [vl_take_mod hx, Nat.mod_eq_of_lt hlt]⟩
theorem div_room {R b : Nat} {ds : List Nat} (hd : Dg ds) (hR : R < vl ds) (hb : b ≤ 1) : 2 * R + b < 256 ^ (ds.length + 2) := by
  have := vl_lt hd
  rw [Nat.pow_add]
  omega
theorem div_lt {N D k R : Nat} (hD : 0 < D) (hR : R = N / 2 ^ (k + 1) % D) (h : 2 * R + N / 2 ^ k % 2 < D) : 2 * R + N / 2 ^ k % 2 = N / 2 ^ k % D ∧ hb (N / D) (k + 1) = hb (N / D) k := by
  have := div_step N D k hD
  rw [← hR, if_pos h, if_pos h] at this
  exact ⟨this.1.symm, (hb_lim0 this.2).symm⟩
theorem div_ge {N D k R : Nat} (hD : 0 < D) (hR : R = N / 2 ^ (k + 1) % D) (h : D ≤ 2 * R + N / 2 ^ k % 2) : 2 * R + N / 2 ^ k % 2 - D = N / 2 ^ k % D ∧ hb (N / D) (k + 1) + 2 ^ k = hb (N / D) k := by
  have := div_step N D k hD
  rw [← hR, if_neg (by omega), if_neg (by omega)] at this
  refine ⟨this.1.symm, ?_⟩
  rw [hb_step (N / D) k, this.2, Nat.one_mul]
theorem dig_room (Q k : Nat) : hb Q (k + 1) / 256 ^ (k / 8) % 256 + 2 ^ (k % 8) < 256 := by
  have hr : k % 8 < 8 := Nat.mod_lt _ (by omega)
  have hk : k = 8 * (k / 8) + k % 8 := by omega
  generalize hq : k / 8 = q at *
  generalize hr' : k % 8 = r at *
  have e0 : (256 : Nat) ^ q = 2 ^ (8 * q) := by rw [Nat.pow_mul]
  have e1 : hb Q (k + 1) / 256 ^ q = Q / 2 ^ (k + 1) * 2 ^ (r + 1) := by
    unfold hb
    rw [show 2 ^ (k + 1) = 2 ^ (r + 1) * 256 ^ q by rw [e0, ← Nat.pow_add, show r + 1 + 8 * q = k + 1 by omega]]
    rw [← Nat.mul_assoc, Nat.mul_div_cancel _ (Nat.pow_pos (by omega))]
  rw [e1]
  generalize Q / 2 ^ (k + 1) = A
  have e2 : (256 : Nat) = 2 ^ (7 - r) * 2 ^ (r + 1) := by rw [← Nat.pow_add, show 7 - r + (r + 1) = 8 by omega]
  have e3 : A * 2 ^ (r + 1) % 256 = A % 2 ^ (7 - r) * 2 ^ (r + 1) := by
    rw [e2]; exact Nat.mul_mod_mul_right _ _ _
  rw [e3]
  have h3 : A % 2 ^ (7 - r) + 1 ≤ 2 ^ (7 - r) := Nat.mod_lt _ (Nat.pow_pos (by omega))
  have h4 := Nat.mul_le_mul_right (2 ^ (r + 1)) h3
  rw [← e2, Nat.add_mul, Nat.one_mul, Nat.pow_succ] at h4
  have h5 : 0 < 2 ^ r := Nat.pow_pos (by omega)
  rw [Nat.pow_succ]
  omega
theorem div_set {qs : List Nat} {Q k : Nat} (hq : Dg qs) (hv : vl qs = hb Q (k + 1)) (hl : k / 8 < qs.length) : Dg (qs.set (k / 8) (qs.getD (k / 8) 0 + 2 ^ (k % 8))) ∧ vl (qs.set (k / 8) (qs.getD (k / 8) 0 + 2 ^ (k % 8))) = hb Q (k + 1) + 2 ^ k := by
  have h1 := dig_room Q k
  have h2 := vl_get hq (k / 8)
  rw [hv] at h2
  refine ⟨hq.set _ (by rw [h2]; exact h1), ?_⟩
  have h3 := vl_set qs (k / 8) (qs.getD (k / 8) 0 + 2 ^ (k % 8)) hl
  have h4 : 2 ^ (k % 8) * 256 ^ (k / 8) = 2 ^ k := by
    rw [show (256 : Nat) = 2 ^ 8 by decide, ← Nat.pow_mul, ← Nat.pow_add, show k % 8 + 8 * (k / 8) = k by omega]
  rw [Nat.add_mul, h4, hv] at h3
  omega
theorem bits_small {xs : List Nat} (h : Dg xs) : vl xs < 2 ^ (8 * xs.length) := by
  rw [Nat.pow_mul]; exact vl_lt h
theorem div_small {xs : List Nat} {d : Nat} (h : Dg xs) : vl xs / d < 2 ^ (8 * xs.length) := Nat.lt_of_le_of_lt (Nat.div_le_self _ _) (bits_small h)
theorem vl_zeros (n : Nat) : vl (List.replicate n 0) = 0 := by rw [← vq_vl]; exact vq_zeros 256 n
theorem cut_mod {xs zs : List Nat} (hz : zs = xs.take 32) (hx : Dg xs) : Dg zs ∧ zs.length ≤ 32 ∧ vl zs = vl xs % 2 ^ 256 := by
  subst hz
  exact ⟨hx.take _, by rw [List.length_take]; omega, by rw [vl_take_mod hx]⟩
theorem pow_bit1 (a E k : Nat) (h : E / 2 ^ k % 2 = 1) : (a ^ (E / 2 ^ (k + 1)) % 2 ^ 256 * (a ^ (E / 2 ^ (k + 1)) % 2 ^ 256) % 2 ^ 256) * (a % 2 ^ 256) % 2 ^ 256 = a ^ (E / 2 ^ k) % 2 ^ 256 := by
  have h1 := pow_high a E k
  rw [if_pos h] at h1
  rw [h1, Nat.mul_mod_mod]
theorem pow_bit0 (a E k : Nat) (h : ¬ E / 2 ^ k % 2 = 1) : a ^ (E / 2 ^ (k + 1)) % 2 ^ 256 * (a ^ (E / 2 ^ (k + 1)) % 2 ^ 256) % 2 ^ 256 = a ^ (E / 2 ^ k) % 2 ^ 256 := by
  have h1 := pow_high a E k
  rw [if_neg h] at h1
  exact h1.symm
end Go.Fw
namespace Go.Fw
open Go
theorem absN_small (x : Nat) : absN x % 2 ^ 256 = absN x := Nat.mod_eq_of_lt (by have := absN_le x; omega)
theorem sdivN_zero {a b : Nat} (h : absN b = 0) : 0 % 2 ^ 256 = sdivN a b % 2 ^ 256 := by
  have h1 : divN (absN a) (absN b) = 0 := by unfold divN; rw [if_pos (by rw [absN_small]; exact h)]
  unfold sdivN
  rw [h1]
  split
  · rw [negN_mod, if_pos (Nat.zero_mod _)]
  · rfl
theorem sdivN_nz {a b : Nat} (h : ¬ absN b = 0) : sdivN a b = if ¬ decide (sgn a) = decide (sgn b) then negN (absN a / absN b) else absN a / absN b := by
  unfold sdivN
  rw [divN_nz (by rw [absN_small]; exact h), absN_small, absN_small]
theorem smodN_zero {a b : Nat} (h : absN b = 0) : 0 % 2 ^ 256 = smodN a b % 2 ^ 256 := by
  have h1 : modN (absN a) (absN b) = 0 := by unfold modN; rw [if_pos (by rw [absN_small]; exact h)]
  unfold smodN
  rw [h1]
  split
  · rw [negN_mod, if_pos (Nat.zero_mod _)]
  · rfl
theorem smodN_nz {a b : Nat} (h : ¬ absN b = 0) : smodN a b = if sgn a then negN (absN a % absN b) else absN a % absN b := by
  unfold smodN
  rw [modN_nz (by rw [absN_small]; exact h), absN_small, absN_small]
theorem put_whole (cs vs : List Value) (h : cs.length = vs.length) : put cs 0 vs = vs := by
  unfold put
  rw [List.take_zero, List.nil_append, Nat.zero_add, List.drop_eq_nil_of_le (by omega), List.append_nil]
theorem set_bits {ys : List Nat} {f : Nat → Nat} {i v : Nat} (hl : ys.length = 256) (hi : i < 256) (hy : ∀ q, q < i → ys.getD q 0 = f q) (hv : v = f i) : ∀ q, q < i + 1 → (ys.set i v).getD q 0 = f q := fun q hq => by
  rw [getD_set _ _ _ _ (by omega)]
  split
  · rename_i h; subst h; exact hv
  · exact hy q (by omega)
theorem set_rest {ys : List Nat} {f : Nat → Nat} {i v : Nat} (hl : ys.length = 256) (hi : i < 256) (hz : ∀ q, i ≤ q → q < 256 → ys.getD q 0 = f q) : ∀ q, i + 1 ≤ q → q < 256 → (ys.set i v).getD q 0 = f q := fun q h1 h2 => by
  rw [getD_set _ _ _ _ (by omega), if_neg (by omega)]; exact hz q (by omega) h2
theorem dq_of {ys : List Nat} {f : Nat → Nat} (hl : ys.length = 256) (hy : ∀ q, q < 256 → ys.getD q 0 = f q) (hf : ∀ q, f q ≤ 1) : Dq 2 ys := fun x hx => by
  obtain ⟨i, hi, rfl⟩ := List.mem_iff_getElem.1 hx
  have h1 := hy i (by omega)
  have h2 := hf i
  rw [List.getD_eq_getElem?_getD, List.getElem?_eq_getElem hi, Option.getD_some] at h1
  omega
theorem bit_and_le {a b : Nat} (ha : a ≤ 1) (hb : b ≤ 1) : a * b ≤ 1 := Nat.mul_le_mul ha hb
theorem bit_or_le {a b : Nat} (ha : a ≤ 1) (hb : b ≤ 1) : a * b ≤ a ∧ a + b - a * b ≤ 1 := by
  have h1 : a = 0 ∨ a = 1 := by omega
  rcases h1 with rfl | rfl <;> simp <;> omega
theorem dig_step {V j : Nat} {ds bs : List Nat} (hl : ds.length = 32) (hj : j < 256) (hd : ∀ q, q < 32 → ds.getD q 0 = digF V (j + 1) q) (hb : bs.getD j 0 = V / 2 ^ j % 2) : ∀ q, q < 32 → (ds.set (j / 8) (2 * ds.getD (j / 8) 0 + bs.getD j 0)).getD q 0 = digF V j q := fun q hq => by
  rw [getD_set _ _ _ _ (by omega)]
  split
  · rename_i h; subst h; rw [digF_step V j _ (by omega) (by omega), hd _ hq, hb, Nat.mul_comm]
  · rw [digF_other V j q (by omega)]; exact hd q hq
theorem dgs_of {ds : List Nat} {V : Nat} (hl : ds.length = 32) (hd : ∀ q, q < 32 → ds.getD q 0 = digF V 0 q) : ds = dgs V 32 := by
  apply List.ext_getElem (by rw [dgs_length, hl])
  intro i h1 h2
  have a := hd i (by omega)
  have b := dgs_get V 32 i (by omega)
  rw [digF_zero] at a
  rw [List.getD_eq_getElem?_getD, List.getElem?_eq_getElem h1, Option.getD_some] at a
  rw [List.getD_eq_getElem?_getD, List.getElem?_eq_getElem h2, Option.getD_some] at b
  rw [a, b]
theorem top_step (X i : Nat) : X / 256 ^ (i + 1) * 256 + X / 256 ^ i % 256 = X / 256 ^ i := by
  rw [Nat.pow_succ, ← Nat.div_div_eq_div_mul, Nat.mul_comm]
  exact Nat.div_add_mod _ _
theorem dig_mod {x i : Nat} (hi : i < 32) : x / 256 ^ i % 256 = x % 2 ^ 256 / 256 ^ i % 256 := by
  rw [← dgs_get x 32 i hi, vl_get (dgs_dg x 32) i, dgs_vl32]
theorem bit_mod (x i : Nat) (hi : i < 256) : x % 2 ^ 256 / 2 ^ i % 2 = x / 2 ^ i % 2 := by
  rw [bit_testBit, bit_testBit, Nat.testBit_mod_two_pow]; simp [hi]
end Go.Fw
namespace Go.Fw
open Go
theorem drop_cells {kd : IntKind} {xs : List Nat} {z o : Nat} (hl : xs.length = 32) (hz : z ≤ 32) (ho : o = if 32 = z then 0 else z) : ∀ (i : Nat) (x : Value), (rowN kd (xs.drop z))[i]? = some x → (rowN kd xs)[o + i]? = some x := fun i x h => by
  by_cases h32 : z = 32
  · subst h32; rw [List.drop_eq_nil_of_le (by omega)] at h; simp [rowN] at h
  · rw [if_neg (by omega)] at ho
    subst ho
    unfold rowN at h ⊢
    rw [List.getElem?_map, List.getElem?_drop] at h
    rw [List.getElem?_map]
    exact h
theorem lead_zero {x z : Nat} (hz : ∀ q, q < z → (bytesN x).getD q 0 = 0) : vl ((bytesN x).drop z).reverse = x % 2 ^ 256 := by
  have h1 : (bytesN x).reverse = ((bytesN x).drop z).reverse ++ ((bytesN x).take z).reverse := by rw [← List.reverse_append, List.take_append_drop]
  have h2 := bytesN_vl x
  rw [h1, vl_append] at h2
  have h3 : vl ((bytesN x).take z).reverse = 0 := vl_zero fun t => by
    rcases Nat.lt_or_ge t ((bytesN x).take z).reverse.length with h | h
    · rw [List.length_reverse] at h
      rw [List.getD_eq_getElem?_getD, List.getElem?_reverse h]
      have h4 := hz (((bytesN x).take z).length - 1 - t) (by rw [List.length_take] at h ⊢; omega)
      rw [List.getElem?_take_of_lt (by rw [List.length_take] at h ⊢; omega), ← List.getD_eq_getElem?_getD]
      exact h4
    · rw [List.getD_eq_getElem?_getD, List.getElem?_eq_none h]; rfl
  rw [h3] at h2
  omega
theorem byte_acc {x i acc : Nat} (hi : i < 32) (ha : acc % 2 ^ 256 = x % 2 ^ 256 / 256 ^ (32 - i)) : (acc * 256 + byteN i x) % 2 ^ 256 = x % 2 ^ 256 / 256 ^ (32 - (i + 1)) := by
  have hb : byteN i x = x % 2 ^ 256 / 256 ^ (31 - i) % 256 := by
    unfold byteN
    rw [Nat.mod_eq_of_lt (show i < 2 ^ 256 by omega), if_pos hi, dig_mod (by omega)]
  have h1 := top_step (x % 2 ^ 256) (31 - i)
  rw [show 31 - i + 1 = 32 - i by omega, ← ha, ← hb] at h1
  rw [show 32 - (i + 1) = 31 - i by omega, ← h1]
  have h2 : x % 2 ^ 256 / 256 ^ (31 - i) ≤ x % 2 ^ 256 := Nat.div_le_self _ _
  omega
theorem byte_eq {x i : Nat} (hi : i < 32) : byteN i x = x / 256 ^ (31 - i) % 256 := by
  unfold byteN
  rw [Nat.mod_eq_of_lt (show i < 2 ^ 256 by omega), if_pos hi]
theorem size_lead {x z : Nat} (hz : z ≤ 32) (h0 : ∀ q, q < z → (bytesN x).getD q 0 = 0) (h1 : z < 32 → (bytesN x).getD z 0 ≠ 0) : sizeN x = 32 - z := sizeN_of (by omega) (fun t h2 h3 => by
    have := h0 (31 - t) (by omega)
    rwa [bytesN_get _ _ (by omega), show 31 - (31 - t) = t by omega] at this) (fun h => by
    have := h1 (by omega)
    rwa [bytesN_get _ _ (by omega), show 31 - z = 32 - z - 1 by omega] at this)
end Go.Fw
namespace Go.Fw
open Go
theorem sumN_reverse (xs : List Nat) : sumN xs.reverse = sumN xs := by
  unfold sumN
  rw [List.map_reverse]
  exact List.sum_reverse _
end Go.Fw
set_option linter.unusedVariables false
namespace Go.Fw
open Go
section
variable {P : Program} {ops : Array Oper} {F : Act → World → Prop} {w0 w w' : World} {M : List Nat} {N : Nf} {L : List (Oper × K)} {σ : List (Nat × Value)} {l lS : List (Nat × Ent)} {d : Option Tmp} {ty : TypeId} {p : String} {af : Array Edge} {x y : Operand} {v z : Value} {t : TypeId} {kd : IntKind} {k : K}
  {tm tr tb : TypeId} {a b : Nat} {i j : RowIx} {bs cs : List Nat}

/-- Entries under other names. -/
theorem WS.ren (hw : WS w0 M l w) (l' : List (Nat × Ent)) (f : Nat → Nat) (hl : ∀ k e, lk l' k = some e → lk l (f k) = some e) (hf : ∀ k k' e e', lk l' k = some e → lk l' k' = some e' → f k = f k' → k = k') : WS w0 M l' w :=
  ⟨hw.os, hw.tape, hw.output, hw.size, hw.keep, fun k e he => hw.live _ e (hl k e he), fun k k' e e' g he he' hne hg => hw.apart _ _ e e' g (hl k e he) (hl k' e' he') (fun h => hne (hf k k' e e' he he' h)) hg, fun k e g he hg => hw.own _ e g (hl k e he) hg⟩
theorem WS.init (l : List (Nat × Ent)) (h1 : ∀ k e, lk l k = some e → e.At w) (h2 : ∀ k k' e e' g, lk l k = some e → lk l k' = some e' → k ≠ k' → e.id = some g → e'.id ≠ some g) (h3 : ∀ k e g, lk l k = some e → e.id = some g → g ∈ M) : WS w M l w :=
  ⟨rfl, rfl, rfl, Nat.le_refl _, fun _ _ _ => rfl, h1, h2, fun k e g he hg => .inr (h3 k e g he hg)⟩

def four (e0 e1 e2 e3 : Ent) (h : Nat) : List (Nat × Ent) := [(h, e0), (h + 1, e1), (h + 2, e2), (h + 3, e3)]
theorem four_lk {e0 e1 e2 e3 : Ent} {h k : Nat} {e : Ent} (hk : lk (four e0 e1 e2 e3 h) k = some e) : (k = h ∧ e = e0) ∨ (k = h + 1 ∧ e = e1) ∨ (k = h + 2 ∧ e = e2) ∨ (k = h + 3 ∧ e = e3) := by
  unfold four at hk
  rw [lk_cons, lk_cons, lk_cons, lk_cons] at hk
  split at hk
  · simp at hk; exact .inl ⟨by omega, hk.symm⟩
  · split at hk
    · simp at hk; exact .inr (.inl ⟨by omega, hk.symm⟩)
    · split at hk
      · simp at hk; exact .inr (.inr (.inl ⟨by omega, hk.symm⟩))
      · split at hk
        · simp at hk; exact .inr (.inr (.inr ⟨by omega, hk.symm⟩))
        · simp [lk] at hk
theorem four_0 {e0 e1 e2 e3 : Ent} {h : Nat} : lk (four e0 e1 e2 e3 h) h = some e0 := by unfold four; rw [lk_cons, if_pos rfl]
theorem four_1 {e0 e1 e2 e3 : Ent} {h : Nat} : lk (four e0 e1 e2 e3 h) (h + 1) = some e1 := by unfold four; rw [lk_cons, if_neg (by omega), lk_cons, if_pos rfl]
theorem four_2 {e0 e1 e2 e3 : Ent} {h : Nat} : lk (four e0 e1 e2 e3 h) (h + 2) = some e2 := by unfold four; rw [lk_cons, if_neg (by omega), lk_cons, if_neg (by omega), lk_cons, if_pos rfl]
theorem four_3 {e0 e1 e2 e3 : Ent} {h : Nat} : lk (four e0 e1 e2 e3 h) (h + 3) = some e3 := by unfold four; rw [lk_cons, if_neg (by omega), lk_cons, if_neg (by omega), lk_cons, if_neg (by omega), lk_cons, if_pos rfl]
theorem WS.fourOf (hw : WS w0 M l w) (h h' : Nat) {e0 e1 e2 e3 : Ent} (h0 : lk l h = some e0) (h1 : lk l (h + 1) = some e1) (h2 : lk l (h + 2) = some e2) (h3 : lk l (h + 3) = some e3) : WS w0 M (four e0 e1 e2 e3 h') w :=
  hw.ren _ (fun k => k + h - h') (fun k e hk => by
    rcases four_lk hk with ⟨rfl, rfl⟩ | ⟨rfl, rfl⟩ | ⟨rfl, rfl⟩ | ⟨rfl, rfl⟩
    · rw [show k + h - k = h by omega]; exact h0
    · rw [show h' + 1 + h - h' = h + 1 by omega]; exact h1
    · rw [show h' + 2 + h - h' = h + 2 by omega]; exact h2
    · rw [show h' + 3 + h - h' = h + 3 by omega]; exact h3) (fun k k' e e' hk hk' hh => by
    have q1 : h' ≤ k := by rcases four_lk hk with ⟨rfl, _⟩ | ⟨rfl, _⟩ | ⟨rfl, _⟩ | ⟨rfl, _⟩ <;> omega
    have q2 : h' ≤ k' := by rcases four_lk hk' with ⟨rfl, _⟩ | ⟨rfl, _⟩ | ⟨rfl, _⟩ | ⟨rfl, _⟩ <;> omega
    omega)

abbrev pageM (a b : Nat) (i j : RowIx) : List Nat := memM a i ++ memM b j
abbrev pageE (tm tr tb : TypeId) (a b : Nat) (i j : RowIx) (bs : List Nat) (h : Nat) : List (Nat × Ent) := four ⟨some a, tm, [i.val bs.length]⟩ (i.ent tb (rowN .u8 bs)) ⟨some b, tr, [j.val bs.length]⟩ (j.ent tb (rowN .u8 bs)) h
/-- Both lie in w. -/
def PageAt (w : World) (tm tr tb : TypeId) (a b : Nat) (i j : RowIx) (bs : List Nat) : Prop := WS w (pageM a b i j) (pageE tm tr tb a b i j bs 0) w
theorem WS.pageAt (hw : WS w0 M l w) (h : Nat) (h0 : lk l h = some ⟨some a, tm, [i.val bs.length]⟩) (h1 : lk l (h + 1) = some (i.ent tb (rowN .u8 bs))) (h2 : lk l (h + 2) = some ⟨some b, tr, [j.val bs.length]⟩) (h3 : lk l (h + 3) = some (j.ent tb (rowN .u8 bs))) : PageAt w tm tr tb a b i j bs := by
  have hf := hw.fourOf h 0 h0 h1 h2 h3
  refine WS.init _ hf.live hf.apart (fun k e g hk hg => ?_)
  rcases four_lk hk with ⟨_, rfl⟩ | ⟨_, rfl⟩ | ⟨_, rfl⟩ | ⟨_, rfl⟩
  · simp at hg; subst hg; simp
  · simp only [RowIx.ent] at hg; simp [hg]
  · simp at hg; subst hg; simp
  · simp only [RowIx.ent] at hg; simp [hg]
theorem WS.offPage (hw : WS w0 [] l w) (h : Nat) (h0 : lk l h = some ⟨some a, tm, [i.val bs.length]⟩) (h1 : lk l (h + 1) = some (i.ent tb (rowN .u8 bs))) (h2 : lk l (h + 2) = some ⟨some b, tr, [j.val bs.length]⟩) (h3 : lk l (h + 3) = some (j.ent tb (rowN .u8 bs)))
    {A : Option Addr} {xs : List Nat} (hc : Cs w0 A (rowN kd xs)) : xs ≠ [] → Off (pageM a b i j) A := by
  intro hx ad had hin
  rcases List.mem_append.1 hin with hin | hin
  · exact hw.offIn h (h + 1) h0 h1 hc hx ad had hin
  · exact hw.offIn (h + 2) (h + 3) h2 h3 hc hx ad had hin
def pageL (k n : Int) (L : Nat) : Nat := if k = 3 then growL L n else L
def PagePost (w : World) (tm tr tb : TypeId) (a b : Nat) (i j : RowIx) (L : Nat) (e : Ending) (w' : World) : Prop :=
  ∃ (i' j' : RowIx) (bs' : List Nat), MOk i' bs' ∧ MOk j' bs' ∧ bs'.length = L ∧ e = .returned (.bool true) ∧ WS w (pageM a b i j) (pageE tm tr tb a b i' j' bs' 0) w'
theorem PagePost.mk' {e : Ending} {L : Nat} (h : Nat) (i' j' : RowIx) (bs' : List Nat) (h1 : MOk i' bs') (h2 : MOk j' bs') (hL : bs'.length = L) (he : e = .returned (.bool true)) (hw : WS w (pageM a b i j) l w')
    (e0 : lk l h = some ⟨some a, tm, [i'.val bs'.length]⟩) (e1 : lk l (h + 1) = some (i'.ent tb (rowN .u8 bs'))) (e2 : lk l (h + 2) = some ⟨some b, tr, [j'.val bs'.length]⟩) (e3 : lk l (h + 3) = some (j'.ent tb (rowN .u8 bs'))) : PagePost w tm tr tb a b i j L e w' :=
  ⟨i', j', bs', h1, h2, hL, he, hw.fourOf h 0 e0 e1 e2 e3⟩
theorem J.callPage (h : Nat) {K : Nat} (h0 : lk l h = some ⟨some a, tm, [i.val bs.length]⟩) (h1 : lk l (h + 1) = some (i.ent tb (rowN .u8 bs))) (h2 : lk l (h + 2) = some ⟨some b, tr, [j.val bs.length]⟩) (h3 : lk l (h + 3) = some (j.ent tb (rowN .u8 bs)))
    (s0 : lk lS h = none) (s1 : lk lS (h + 1) = none) (s2 : lk lS (h + 2) = none) (s3 : lk lS (h + 3) = none) {f : FuncId} (hf : FnOk P f) {xs : Array Operand} {tys : Array TypeId} {args : List Value} (hx : evs σ xs.toList = some args) (hd : okd N d)
    (spec : ∀ w, WS w0 M l w → Calls P f args.toArray w (PagePost w tm tr tb a b i j K))
    (hJ : ∀ (i' j' : RowIx) (bs' : List Nat), MOk i' bs' → MOk j' bs' → bs'.length = K → J P ops F w0 M N lS L (putd d (.bool true) σ) ((h, ⟨some a, tm, [i'.val bs'.length]⟩) :: (h + 1, i'.ent tb (rowN .u8 bs')) :: (h + 2, ⟨some b, tr, [j'.val bs'.length]⟩) :: (h + 3, j'.ent tb (rowN .u8 bs')) :: l)) :
    J P ops F w0 M N lS ((⟨d, .call ⟨.value (.func f), xs, tys⟩, ty, p, af, none⟩, .l) :: L) σ l :=
  J.call hf hx hd (ι := (RowIx × RowIx) × List Nat) (fun q => MOk q.1.1 q.2 ∧ MOk q.1.2 q.2 ∧ q.2.length = K) (fun _ => .bool true) (pageM a b i j) (fun q => pageE tm tr tb a b q.1.1 q.1.2 q.2 h)
    (fun w hw => (spec w hw).mono fun e w' ⟨i', j', bs', m1, m2, m3, he, hw'⟩ => ⟨((i', j'), bs'), ⟨m1, m2, m3⟩, he, hw'.fourOf 0 h four_0 four_1 four_2 four_3⟩)
    (fun q hq g hg => by
      simp only [pageM, memM, List.mem_append, List.mem_singleton, Option.mem_toList] at hg
      rcases hg with (rfl | hg) | (rfl | hg)
      · exact ⟨h, _, _, h0, rfl, four_0⟩
      · exact ⟨h + 1, _, _, h1, hg, four_1⟩
      · exact ⟨h + 2, _, _, h2, rfl, four_2⟩
      · exact ⟨h + 3, _, _, h3, hg, four_3⟩)
    (fun q k e he => by
      rcases four_lk he with ⟨rfl, _⟩ | ⟨rfl, _⟩ | ⟨rfl, _⟩ | ⟨rfl, _⟩
      · exact s0
      · exact s1
      · exact s2
      · exact s3) (fun q hq => hJ q.1.1 q.1.2 q.2 hq.1 hq.2.1 hq.2.2)
end

/-! ### 'wrote' -/
def wrk : List (Int × Int × Int × Int × Nat) := [(3, 1, 0, 0, 0), (5, 0, 0, 0, 258), (9, 1, 30, 2, 0), (4, 0, 0, 0, 0), (7, 1, 2, 0, 0), (1, 0, 0, 0, 0)]
abbrev opw (q : Int × Int × Int × Int × Nat) : List Value := [.int .i64 q.1, .bool false, .int .i64 q.2.1, .int .i64 q.2.2.1, .int .i64 q.2.2.2.1] ++ (rowN .u64 (wl q.2.2.2.2) ++ (rowN .u64 (wl 0) ++ [.slice none 0 0]))
def wrkc : List Value := wrk.flatMap opw
def wrq (i : Nat) : Int × Int × Int × Int × Nat := wrk.getD i (0, 0, 0, 0, 0)
def wrL (i : Nat) : Nat := if i = 0 then 0 else 32
theorem wrk_all : ∀ i : Fin 6, (0 ≤ (wrq i.val).2.1 ∧ (wrq i.val).2.1 ≤ 30) ∧ (0 ≤ (wrq i.val).2.2.1 ∧ (wrq i.val).2.2.1 ≤ 30) ∧ (0 ≤ (wrq i.val).2.2.2.1 ∧ (wrq i.val).2.2.2.1 ≤ 30) ∧ pageL (wrq i.val).1 (wrq i.val).2.1 (wrL i.val) = wrL (i.val + 1) := by decide +kernel
theorem wrk_seg (i : Nat) (h : i < 6) : (wrkc.drop (i * 14)).take 14 = opw (wrq i) := by
  match i, h with
  | 0, _ => rfl
  | 1, _ => rfl
  | 2, _ => rfl
  | 3, _ => rfl
  | 4, _ => rfl
  | 5, _ => rfl
end Go.Fw
set_option linter.unusedVariables false
namespace Go.Fw
open Go Go.ChangeShapes Go.WideShapes Go.ChangeAt Go.RowKit
section
variable {P : Program} {W : World} {H : Type} {enc : TypeId × Value → H} {base : Nat} {sp : Nat → Bool} {held : Bool}

theorem mapM_at {α β : Type} {f : α → Option β} : ∀ {xs : List α} {ys : List β}, xs.mapM f = some ys → xs.length = ys.length ∧ ∀ (i : Nat) (x : α), xs[i]? = some x → ∃ y, ys[i]? = some y ∧ f x = some y
  | [], ys, h => by simp at h; subst h; simp
  | x :: xs, ys, h => by
    rw [List.mapM_cons] at h
    cases h1 : f x with
    | none => simp [h1] at h
    | some y =>
      cases h2 : xs.mapM f with
      | none => simp [h1, h2] at h
      | some zs =>
        simp [h1, h2] at h
        subst h
        obtain ⟨e, k⟩ := mapM_at h2
        refine ⟨by simp [e], fun i u hu => ?_⟩
        cases i with
        | zero => simp at hu; subst hu; exact ⟨y, rfl, h1⟩
        | succ i => exact k i u (by simpa using hu)

theorem cells_at {a : Addr} {n : Nat} {cs : List Value} (h : W.cells? base a n = some cs) : cs.length = n ∧ ∀ i, i < n → W.cell? (a.add i) = cs[i]? := by
  unfold World.cells? at h
  split at h
  · obtain ⟨e, k⟩ := mapM_at h
    refine ⟨by rw [← e]; simp, fun i hi => ?_⟩
    obtain ⟨y, hy, h2⟩ := k i i (by simp [hi])
    rw [hy, h2]
  · cases h

theorem wf_u8 {n : Int} (h : (Lit.int .u8 n).wf = true) : 0 ≤ n ∧ n < 256 := by
  simp [Lit.wf, IntKind.min, IntKind.max, IntKind.signed, IntKind.bits] at h
  omega
theorem wf_u64 {n : Int} (h : (Lit.int .u64 n).wf = true) : 0 ≤ n ∧ n < 18446744073709551616 := by
  simp [Lit.wf, IntKind.min, IntKind.max, IntKind.signed, IntKind.bits] at h
  omega
theorem wf_i64 {n : Int} (h : (Lit.int .i64 n).wf = true) : -9223372036854775808 ≤ n ∧ n ≤ 9223372036854775807 := by
  simp [Lit.wf, IntKind.min, IntKind.max, IntKind.signed, IntKind.bits] at h
  omega

/-- The number of four parts. -/
def wval (a b c d : Nat) : Nat := a + 18446744073709551616 * (b + 18446744073709551616 * (c + 18446744073709551616 * d))
theorem wval_lt {a b c d : Nat} (h : a < 18446744073709551616 ∧ b < 18446744073709551616 ∧ c < 18446744073709551616 ∧ d < 18446744073709551616) : wval a b c d < 2 ^ 256 := by unfold wval; omega
theorem wl_wval {a b c d : Nat} (h : a < 18446744073709551616 ∧ b < 18446744073709551616 ∧ c < 18446744073709551616 ∧ d < 18446744073709551616) : wl (wval a b c d) = [a, b, c, d] := by
  have e0 : lim (wval a b c d) 0 = a := by unfold lim wval; omega
  have e1 : lim (wval a b c d) 1 = b := by unfold lim wval; omega
  have e2 : lim (wval a b c d) 2 = c := by unfold lim wval; omega
  have e3 : lim (wval a b c d) 3 = d := by unfold lim wval; omega
  unfold wl
  rw [e0, e1, e2, e3]

/-- The table's rows for a word. -/
structure WordT (P : Program) (t e : TypeId) : Prop where
  arr : P.underlying t = some (.array 4 e)
  int : P.underlying e = some (.int .u64)
  one : P.cellsOf e = 1
  four : P.cellsOf t = 4

theorem trod_word {t e : TypeId} (T : WordT P t e) {fuel : Nat} {cs : List Value} {x : DataW H × List MemPlace} (h : DataW.trod enc P W base sp held fuel t cs = some x) : ∃ n, n < 2 ^ 256 ∧ cs = wc n := by
  obtain ⟨xs, m, _, _, hl, hxl, hx⟩ := DataW.trod_array T.arr h
  rw [T.four] at hl
  rw [T.one] at hx
  match cs, hl with
  | [c0, c1, c2, c3], _ =>
    have get : ∀ i, i < 4 → ∃ n, (([c0, c1, c2, c3].drop (i * 1)).take 1) = [.int .u64 n] ∧ (Lit.int .u64 n).wf = true := fun i hi => by
      have h1 := hx i hi
      rw [List.getElem?_eq_getElem (by omega)] at h1
      obtain ⟨n, e1, _, e2⟩ := DataW.trod_int T.int h1
      exact ⟨n, e1, e2⟩
    obtain ⟨n0, e0, f0⟩ := get 0 (by omega)
    obtain ⟨n1, e1, f1⟩ := get 1 (by omega)
    obtain ⟨n2, e2, f2⟩ := get 2 (by omega)
    obtain ⟨n3, e3, f3⟩ := get 3 (by omega)
    simp at e0 e1 e2 e3
    subst e0; subst e1; subst e2; subst e3
    have g0 := wf_u64 f0
    have g1 := wf_u64 f1
    have g2 := wf_u64 f2
    have g3 := wf_u64 f3
    have hb : n0.toNat < 18446744073709551616 ∧ n1.toNat < 18446744073709551616 ∧ n2.toNat < 18446744073709551616 ∧ n3.toNat < 18446744073709551616 := by omega
    refine ⟨wval n0.toNat n1.toNat n2.toNat n3.toNat, wval_lt hb, ?_⟩
    rw [wc, wl_wval hb]
    simp only [rowN, List.map_cons, List.map_nil]
    rw [Int.toNat_of_nonneg g0.1, Int.toNat_of_nonneg g1.1, Int.toNat_of_nonneg g2.1, Int.toNat_of_nonneg g3.1]
theorem open_word {r : Reach} {b0 : Nat} {t e : TypeId} (T : WordT P t e) {v : Value} {d : DataW H} {ps : List MemPlace} (hv : Value.okWide P W r b0 t v) (h : DataW.Trod enc P W base sp held t v d ps) : ∃ n, n < 2 ^ 256 ∧ v = Go.Fw.W n := by
  obtain ⟨fuel, hf⟩ := h
  simp only [Value.okWide, T.arr] at hv
  obtain ⟨cs, rfl, _⟩ := hv
  obtain ⟨n, hn, hc⟩ := trod_word T hf
  refine ⟨n, hn, ?_⟩
  simp only [Value.cells] at hc
  rw [show cs = cs.toList.toArray by simp, hc]

/-- Bytes. -/
theorem open_bytesN {r : Reach} {b0 : Nat} {t e : TypeId} (ht : P.underlying t = some (.slice e)) (he : P.underlying e = some (.int .u8)) (hc : P.cellsOf e = 1) {v : Value} {d : DataW H} {ps : List MemPlace} (hv : Value.okWide P W r b0 t v)
    (h : DataW.Trod enc P W base sp held t v d ps) : ∃ (A : Option Addr) (c : Nat) (xs : List Nat), v = .slice A xs.length c ∧ Cs W A (rowN .u8 xs) ∧ Dg xs ∧ xs.length ≤ c ∧ c ≤ maxLen := by
  obtain ⟨A, len, cap, rfl⟩ := okWide_slice ht hv
  obtain ⟨fuel, hf⟩ := h
  rcases DataW.trod_slice ht hf with ⟨h0, _⟩ | ⟨a, l, c, elems, rest, n, _, h0, _, hb, hl, hm, hlen, hel, _, _⟩
  · simp [Value.cells] at h0
    obtain ⟨rfl, rfl, rfl⟩ := h0
    exact ⟨none, 0, [], rfl, Cs.nil _ _, Dg.nil, Nat.le_refl _, Nat.zero_le _⟩
  · simp [Value.cells] at h0
    obtain ⟨rfl, rfl, rfl⟩ := h0
    rw [hc] at hel
    have each : ∀ i, i < len → ∃ n : Nat, n < 256 ∧ W.cell? (a.add i) = some (.int .u8 (n : Int)) := fun i hi => by
      have h1 := hel i hi
      rw [List.getElem?_eq_getElem (by omega)] at h1
      cases hc2 : W.cells? base (a.add (i * 1)) 1 with
      | none => rw [hc2] at h1; cases h1
      | some cs =>
        rw [hc2] at h1
        obtain ⟨n, e1, _, e2⟩ := DataW.trod_int he h1
        obtain ⟨_, e3⟩ := cells_at hc2
        have e4 := e3 0 (by omega)
        rw [e1, Addr.add_add] at e4
        have := wf_u8 e2
        refine ⟨n.toNat, by omega, ?_⟩
        rw [Int.toNat_of_nonneg this.1]
        simpa using e4
    let f : Nat → Nat := fun i => if h : i < len then (each i h).choose else 0
    have hf1 : ∀ i, i < len → f i < 256 ∧ W.cell? (a.add i) = some (.int .u8 (f i : Int)) := fun i hi => by
      have := (each i hi).choose_spec
      simp only [f, dif_pos hi]
      exact this
    refine ⟨some a, cap, (List.range len).map f, by simp, fun i x hx => ⟨a, rfl, ?_⟩, fun y hy => ?_, by simpa using hl, hm⟩
    · have hi : i < len := by
        have := (List.getElem?_eq_some_iff.1 hx).1
        simpa [rowN] using this
      rw [(hf1 i hi).2, ← hx]
      simp [rowN, hi]
    · simp only [List.mem_map, List.mem_range] at hy
      obtain ⟨i, hi, rfl⟩ := hy
      exact (hf1 i hi).1

/-- Rows of words. -/
theorem open_wordsN {r : Reach} {b0 : Nat} {t e e1 : TypeId} (ht : P.underlying t = some (.slice e)) (T : WordT P e e1) {v : Value} {d : DataW H} {ps : List MemPlace} (hv : Value.okWide P W r b0 t v)
    (h : DataW.Trod enc P W base sp held t v d ps) : ∃ (A : Option Addr) (c : Nat) (xs : List Nat), v = .slice A xs.length c ∧ Cs W A (rowW xs) ∧ (∀ x ∈ xs, x < 2 ^ 256) ∧ xs.length ≤ c ∧ c ≤ maxLen := by
  obtain ⟨A, len, cap, rfl⟩ := okWide_slice ht hv
  obtain ⟨fuel, hf⟩ := h
  rcases DataW.trod_slice ht hf with ⟨h0, _⟩ | ⟨a, l, c, elems, rest, n, _, h0, _, hb, hl, hm, hlen, hel, _, _⟩
  · simp [Value.cells] at h0
    obtain ⟨rfl, rfl, rfl⟩ := h0
    exact ⟨none, 0, [], rfl, Cs.nil _ _, fun x hx => by simp at hx, Nat.le_refl _, Nat.zero_le _⟩
  · simp [Value.cells] at h0
    obtain ⟨rfl, rfl, rfl⟩ := h0
    rw [T.four] at hel
    have each : ∀ i, i < len → ∃ n : Nat, n < 2 ^ 256 ∧ ∀ j, j < 4 → W.cell? (a.add (i * 4 + j)) = (wc n)[j]? := fun i hi => by
      have h1 := hel i hi
      rw [List.getElem?_eq_getElem (by omega)] at h1
      cases hc2 : W.cells? base (a.add (i * 4)) 4 with
      | none => rw [hc2] at h1; cases h1
      | some cs =>
        rw [hc2] at h1
        obtain ⟨n, e1, e2⟩ := trod_word T h1
        obtain ⟨_, e3⟩ := cells_at hc2
        refine ⟨n, e1, fun j hj => ?_⟩
        rw [← Addr.add_add, e3 j hj, e2]
    let f : Nat → Nat := fun i => if h : i < len then (each i h).choose else 0
    have hf1 : ∀ i, i < len → f i < 2 ^ 256 ∧ ∀ j, j < 4 → W.cell? (a.add (i * 4 + j)) = (wc (f i))[j]? := fun i hi => by
      have := (each i hi).choose_spec
      simp only [f, dif_pos hi]
      exact this
    refine ⟨some a, cap, (List.range len).map f, by simp, fun i x hx => ⟨a, rfl, ?_⟩, fun y hy => ?_, by simpa using hl, hm⟩
    · have hi : i < len * 4 := by
        have := (List.getElem?_eq_some_iff.1 hx).1
        rw [rowW_length] at this
        simpa using this
      have hq : i / 4 < len := by omega
      have h2 := (hf1 (i / 4) hq).2 (i % 4) (Nat.mod_lt _ (by omega))
      have h3 := rowW_seg ((List.range len).map f) (i / 4) (by simpa using hq)
      have h4 : ((List.range len).map f).getD (i / 4) 0 = f (i / 4) := by simp [List.getD, hq]
      rw [h4] at h3
      rw [show i / 4 * 4 + i % 4 = i by omega, ← h3, List.getElem?_take_of_lt (Nat.mod_lt _ (by omega)), List.getElem?_drop, show i / 4 * 4 + i % 4 = i by omega] at h2
      rw [h2, hx]
    · simp only [List.mem_map, List.mem_range] at hy
      obtain ⟨i, hi, rfl⟩ := hy
      exact (hf1 i hi).1
end
end Go.Fw
set_option linter.unusedVariables false
namespace Go.Fw
open Go
theorem and_mask (n : Int) (j : Nat) (m : Int) (hm : (BitVec.ofInt 64 m).toNat = 2 ^ j - 1) (hj : j ≤ 62) : bits .and .i64 n m = n % ((2 ^ j : Nat) : Int) := by
  have hp : (2 : Nat) ^ j ≤ 2 ^ 62 := Nat.pow_le_pow_right (by omega) hj
  have hp0 : 0 < (2 : Nat) ^ j := Nat.pow_pos (by omega)
  have key : (BitVec.ofInt 64 n &&& BitVec.ofInt 64 m).toNat = (n % ((2 ^ 64 : Nat) : Int)).toNat % 2 ^ j := by
    rw [BitVec.toNat_and, BitVec.toNat_ofInt, hm, Nat.and_two_pow_sub_one_eq_mod]
  show IntKind.i64.wrap ((BitVec.ofInt 64 n &&& BitVec.ofInt 64 m).toNat : Nat) = _
  rw [key]
  have hlt := Nat.mod_lt (n % ((2 ^ 64 : Nat) : Int)).toNat hp0
  rw [wrap_nat64 _ (by omega)]
  have h2 : ((n % ((2 ^ 64 : Nat) : Int)).toNat : Int) = n % ((2 ^ 64 : Nat) : Int) := Int.toNat_of_nonneg (Int.emod_nonneg _ (by omega))
  rw [Int.natCast_emod, h2]
  exact Int.emod_emod_of_dvd _ (by
    have : (2 : Nat) ^ j ∣ 2 ^ 64 := Nat.pow_dvd_pow 2 (by omega)
    exact Int.natCast_dvd_natCast.2 this)
theorem and8191 (n : Int) : bits .and .i64 n 8191 = n % 8192 := and_mask n 13 8191 (by decide) (by omega)
theorem and65535 (n : Int) : bits .and .i64 n 65535 = n % 65536 := and_mask n 16 65535 (by decide) (by omega)
theorem and4095 (n : Int) : bits .and .i64 n 4095 = n % 4096 := and_mask n 12 4095 (by decide) (by omega)
theorem and255 (n : Int) : bits .and .i64 n 255 = n % 256 := and_mask n 8 255 (by decide) (by omega)

theorem growE_ok {u : Int} (h : 0 ≤ u ∧ u ≤ 4194304) : growE u = 0 := by unfold growE; rw [if_neg (by omega), if_neg (by omega)]
theorem growE_iff {u : Int} (h : u ≤ 4194304) : ((growE u : Nat) : Int) = 0 ↔ 0 ≤ u := by unfold growE; split; omega; rw [if_neg (by omega)]; omega
theorem growL_ok {L : Nat} {k : Nat} (h : k ≤ 4194304) : growL L (k : Int) = max L ((k + 31) / 32 * 32) := by unfold growL; rw [if_neg (by omega)]; simp
theorem grow_zero {z : Nat} (h : z ≤ 4194304) : growB [] (z : Int) = List.replicate ((z + 31) / 32 * 32) 0 := by
  unfold growB; rw [List.length_nil, growL_ok h]; simp
theorem rep_get (L q : Nat) : (List.replicate L 0).getD q 0 = 0 := by
  rw [List.getD_eq_getElem?_getD, List.getElem?_replicate]; split <;> rfl
theorem zero_ext {xs : List Nat} {L : Nat} (hl : xs.length = L) (h : ∀ q, q < L → xs.getD q 0 = 0) : xs = List.replicate L 0 :=
  ext_getD (by rw [hl, List.length_replicate]) (fun q hq => by rw [rep_get]; exact h q (by omega))
theorem zcut_get (L : Nat) (a n : Int) (q : Nat) : (cutB (List.replicate L 0) a n).getD q 0 = 0 := by
  by_cases h : pieceE (List.replicate L 0).length a n = 0
  · by_cases hq : q < n.toNat
    · rw [cutB_get h q hq, rep_get]
    · exact getD_far _ _ (by rw [cutB_len h]; omega)
  · rw [cutB_no h]; rfl
theorem zwrite {L : Nat} {a : Int} {xs : List Nat} (h : ∀ q, xs.getD q 0 = 0) : writeB (List.replicate L 0) a xs = List.replicate L 0 := by
  refine zero_ext (by rw [writeB_length, List.length_replicate]) (fun q hq => ?_)
  by_cases hx : xs = []
  · subst hx; rw [writeB_nil, rep_get]
  · by_cases hE : pieceE (List.replicate L 0).length a (xs.length : Nat) = 0
    · rw [writeB_yes hE, putB_get (piece_fit hE hx)]
      split
      · exact h _
      · exact rep_get _ _
    · rw [writeB_no hE, rep_get]
theorem zmove (L : Nat) (t f n : Int) : moveB (List.replicate L 0) t f n = List.replicate L 0 := by
  unfold moveB; split
  · exact zwrite (fun q => zcut_get L f n q)
  · rfl
theorem zload (L : Nat) (a : Int) : loadX (List.replicate L 0) a = 0 := by
  unfold loadX; split
  · refine vl_zero (fun t => ?_)
    by_cases ht : t < (cutB (List.replicate L 0) a 32).length
    · rw [List.getD_eq_getElem?_getD, List.getElem?_reverse ht, ← List.getD_eq_getElem?_getD]; exact zcut_get L a 32 _
    · exact getD_far _ _ (by rw [List.length_reverse]; omega)
  · rfl
theorem moveE_self (L : Nat) (a n : Int) : moveE L a a n = pieceE L a n := by
  by_cases h : a < 0 ∨ n < 0
  · rw [moveE_bad (by omega), pieceE_bad h]
  · by_cases h2 : pieceE L a n = 0
    · rw [h2]; exact moveE_ok (by omega) h2 h2
    · rw [moveE_far (by omega) (.inl h2)]; exact (move_pos (t := a) (by omega) h2).symm
theorem cut_write {bs xs : List Nat} {a : Int} (h : pieceE bs.length a (xs.length : Nat) = 0) : cutB (writeB bs a xs) a (xs.length : Nat) = xs := by
  have h2 : pieceE (writeB bs a xs).length a (xs.length : Nat) = 0 := by rw [writeB_length]; exact h
  refine ext_getD (by rw [cutB_len h2]; simp) (fun q hq => ?_)
  rw [cutB_len h2] at hq
  rw [cutB_get h2 q hq, writeB_yes h, putB_get (piece_fit h (fun e => by subst e; simp at hq)), if_pos (by simp at hq; omega)]
  congr 1; omega
theorem load_write {bs : List Nat} {a : Int} {x : Nat} (h : pieceE bs.length a 32 = 0) : loadX (writeB bs a (bytesN x)) a = x % 2 ^ 256 ∧ pieceE (writeB bs a (bytesN x)).length a 32 = 0 := by
  have hl := bytesN_length x
  have h1 : pieceE bs.length a ((bytesN x).length : Nat) = 0 := by rw [hl]; exact h
  have hc := cut_write h1
  rw [hl] at hc
  have h2 : pieceE (writeB bs a (bytesN x)).length a 32 = 0 := by rw [writeB_length]; exact h
  refine ⟨?_, h2⟩
  unfold loadX
  rw [if_pos h2]
  have e : cutB (writeB bs a (bytesN x)) a 32 = bytesN x := hc
  rw [e, bytesN_vl]
theorem W_wval {a b c d : Nat} (h : a < 18446744073709551616 ∧ b < 18446744073709551616 ∧ c < 18446744073709551616 ∧ d < 18446744073709551616) : Value.agg ([.int .u64 (a : Int), .int .u64 (b : Int), .int .u64 (c : Int), .int .u64 (d : Int)] : List Value).toArray = W (wval a b c d) := by
  show _ = Value.agg (rowN .u64 (wl (wval a b c d))).toArray
  rw [wl_wval h]
  rfl
theorem growL_cases {L : Nat} {u : Int} (h : u ≤ 100000) : (u < 0 ∧ growL L u = L) ∨ (0 ≤ u ∧ growL L u = max L ((u.toNat + 31) / 32 * 32)) := by
  unfold growL
  by_cases h1 : u < 0
  · exact .inl ⟨h1, by rw [if_pos (by omega)]⟩
  · exact .inr ⟨by omega, by rw [if_neg (by omega)]⟩
theorem growB_eq {bs : List Nat} {u : Int} {q : Nat} (h : growL bs.length u = bs.length + q) : bs ++ List.replicate q 0 = growB bs u := by
  unfold growB; rw [h]; simp
theorem moveE_iff {L : Nat} {t f n : Int} : moveE L t f n = 0 ↔ 0 ≤ t ∧ 0 ≤ f ∧ 0 ≤ n ∧ pieceE L f n = 0 ∧ pieceE L t n = 0 := by
  unfold moveE; split; omega; split <;> omega
theorem writeB_at {bs xs : List Nat} {a : Int} {p : Nat} (h : pieceE bs.length a (xs.length : Nat) = 0) (hp : a = (p : Int)) : putB bs p xs = writeB bs a xs := by
  rw [writeB_yes h, hp]; rfl
theorem set_putB {bs : List Nat} {p u : Nat} (h : p < bs.length) : bs.set p u = putB bs p [u] := by
  refine ext_getD (by rw [List.length_set, putB_length (by simp; omega)]) (fun q hq => ?_)
  rw [getD_set _ _ _ _ h, putB_get (by simp; omega)]
  by_cases h1 : p = q
  · subst h1; rw [if_pos rfl, if_pos (by simp)]; simp
  · rw [if_neg h1, if_neg (by simp; omega)]
end Go.Fw
namespace Go.Fw
open Go
def tailW (xs : List Nat) (i : Nat) : List Nat := xs ++ (List.range i).map (fun k => wval 77 0 0 k)
theorem tailW_zero (xs : List Nat) : tailW xs 0 = xs := by simp [tailW]
theorem tailW_succ (xs : List Nat) (i : Nat) : tailW xs (i + 1) = tailW xs i ++ [wval 77 0 0 i] := by simp [tailW, List.range_succ]
theorem tailW_length (xs : List Nat) (i : Nat) : (tailW xs i).length = xs.length + i := by simp [tailW]
theorem tailW_take (xs : List Nat) (i : Nat) : (tailW xs i).take xs.length = xs := by simp [tailW]
theorem tailW_low (xs : List Nat) (i k : Nat) (h : k < xs.length) : (tailW xs i).getD k 0 = xs.getD k 0 := by
  unfold tailW
  rw [List.getD_eq_getElem?_getD, List.getElem?_append_left h, ← List.getD_eq_getElem?_getD]
theorem tailW_high (xs : List Nat) (i k : Nat) (h : xs.length ≤ k) (h2 : k < xs.length + i) : (tailW xs i).getD k 0 = wval 77 0 0 (k - xs.length) := by
  unfold tailW
  rw [List.getD_eq_getElem?_getD, List.getElem?_append_right h, List.getElem?_map, List.getElem?_range (by omega)]
  rfl
theorem cs_takeW {w : World} {A : Option Addr} {ys : List Nat} (h : Cs w A (rowW ys)) (n : Nat) : Cs w A (rowW (ys.take n)) := fun i x hx => h i x (by
  rw [← rowW_take] at hx
  have hlt : i < n * 4 := by
    rcases Nat.lt_or_ge i (n * 4) with h | h
    · exact h
    · rw [List.getElem?_eq_none (by rw [List.length_take]; omega)] at hx; cases hx
  rwa [List.getElem?_take_of_lt hlt] at hx)
theorem slice_front (A : Option Addr) (q mx s : Nat) : Value.slice (if mx = 0 then A else A.map (·.add (0 * s))) (q - 0) (mx - 0) = .slice A q mx := by
  split
  · rfl
  · cases A
    · rfl
    · simp [Addr.add]
end Go.Fw
set_option linter.unusedVariables false
namespace Go.Fw
open Go
def addrN (x : Nat) : List Nat := if sizeN x > 20 then List.replicate 20 0 else (bytesN x).drop 12
theorem addrN_length (x : Nat) : (addrN x).length = 20 := by unfold addrN; split <;> simp [bytesN_length]
theorem rowN_drop (kd : IntKind) (xs : List Nat) (n : Nat) : (rowN kd xs).drop n = rowN kd (xs.drop n) := by simp [rowN]
theorem rowN_tk (kd : IntKind) (xs : List Nat) (n : Nat) : (rowN kd xs).take n = rowN kd (xs.take n) := by simp [rowN]
theorem drop12_length (x : Nat) : ((bytesN x).drop 12).length = 20 := by rw [List.length_drop, bytesN_length]
theorem drop12_cells (x : Nat) : ((rowN .u8 (bytesN x)).drop 12).take 20 = rowN .u8 ((bytesN x).drop 12) := by
  rw [rowN_drop, rowN_tk, List.take_of_length_le (by rw [drop12_length]; omega)]
theorem drop12_get (x i : Nat) (h : i < 20) : ((bytesN x).drop 12).getD i 0 = x / 256 ^ (19 - i) % 256 := by
  rw [List.getD_eq_getElem?_getD, List.getElem?_drop, ← List.getD_eq_getElem?_getD, bytesN_get _ _ (by omega), show 31 - (12 + i) = 19 - i by omega]
theorem drop12_of {x : Nat} {ys : List Nat} (hl : ys.length = 20) (h : ∀ q, q < 20 → ys.getD q 0 = x / 256 ^ (19 - q) % 256) : ys = (bytesN x).drop 12 := by
  apply List.ext_getElem (by rw [drop12_length, hl])
  intro i h1 h2
  have a := h i (by omega)
  have b := drop12_get x i (by omega)
  rw [List.getD_eq_getElem?_getD, List.getElem?_eq_getElem h1, Option.getD_some] at a
  rw [List.getD_eq_getElem?_getD, List.getElem?_eq_getElem h2, Option.getD_some] at b
  rw [a, b]
theorem set20 {ys : List Nat} {x i v : Nat} (hl : ys.length = 20) (hi : i < 20) (hy : ∀ q, q < i → ys.getD q 0 = x / 256 ^ (19 - q) % 256) (hv : v = x / 256 ^ (19 - i) % 256) : ∀ q, q < i + 1 → (ys.set i v).getD q 0 = x / 256 ^ (19 - q) % 256 := fun q hq => by
  rw [getD_set _ _ _ _ (by omega)]
  split
  · rename_i h; subst h; exact hv
  · exact hy q (by omega)
section
variable {P : Program} {ops : Array Oper} {F : Act → World → Prop} {w0 w w' : World} {M : List Nat} {N : Nf} {L : List (Oper × K)} {σ : List (Nat × Value)} {l lS : List (Nat × Ent)}
  {d : Option Tmp} {ty : TypeId} {p : String} {af : Array Edge} {x : Operand}
/-- A string out of bytes that no operation of the region turns. -/
theorem J.convBSs {src dst e q cap : Nat} {A : Option Addr} (hs : P.underlying src = some (.slice e)) (he : P.underlying e = some (.int .u8)) (ht : P.underlying dst = some .string) (hx : ev σ x = some (.slice A q cap)) (xs : List Nat) (hq : xs.length = q)
    (hA : ∀ w, WS w0 M lS w → Cs w A (rowN .u8 xs)) (hd : okd N d) (h : J P ops F w0 M N lS L (putd d (.string (bstr xs)) σ) l) : J P ops F w0 M N lS ((⟨d, .convert src dst x, ty, p, af, none⟩, .s) :: L) σ l :=
  J.stable rfl hd _ (fun a ha w hw => by
    simp only [execOp, ha.eval hx, Sem.run_bind, run_convert_bytes_string w src dst e A q cap hs he ht, run_bstr hq (hA w hw), Result.andThen, Sem.run_pure]) h
end
end Go.Fw
set_option linter.unusedVariables false
namespace Go.Fw
open Go Go.ChangeShapes Go.WideShapes Go.ChangeAt Go.RowKit
section
variable {P : Program} {ops : Array Oper} {F : Act → World → Prop} {w0 w w' : World} {M : List Nat} {N : Nf} {L : List (Oper × K)} {σ : List (Nat × Value)} {l lS : List (Nat × Ent)} {k : K}
  {d : Option Tmp} {ty t : TypeId} {p : String} {af : Array Edge} {x y : Operand}
def EqA (P : Program) (t : TypeId) (len : Nat) : Prop := (∃ e, ArrT P t len e 1 ∧ OneT P e ∧ P.underlying e = some (.int .u8)) ∧ P.eqGuardType P.depth t = false
theorem run_eqA {len : Nat} (hT : EqA P t len) (xs ys : List Nat) (hx : xs.length = len) (hy : ys.length = len) (w : World) : (Op.equal t (.agg (rowN .u8 xs).toArray) (.agg (rowN .u8 ys).toArray)).run P w = .ok (decide (xs = ys)) w := by
  obtain ⟨⟨e, h1, h2, h3⟩, _⟩ := hT
  exact run_eqInts h1 h2 h3 9998 9999 rfl xs ys hx hy w
theorem J.eqA {t' : TypeId} {len : Nat} {xs ys : List Nat} (hT : EqA P t len) (hx : ev σ x = some (.agg (rowN .u8 xs).toArray)) (hy : ev σ y = some (.agg (rowN .u8 ys).toArray)) (hlx : xs.length = len) (hly : ys.length = len) (hd : okd N d) (h : J P ops F w0 M N lS L (putd d (.bool (decide (xs = ys))) σ) l) :
    J P ops F w0 M N lS ((⟨d, .binOp .eql t x y t', ty, p, af, none⟩, k) :: L) σ l :=
  J.eqlR hx hy hd (fun w => by
    simp only [Sem.run_bind, run_eqGuard_agg w .eql t x y _ _ hT.2, Result.andThen_ok, binOp, run_eqA hT xs ys hlx hly, Sem.run_pure]) h
theorem J.neqA {t' : TypeId} {len : Nat} {xs ys : List Nat} (hT : EqA P t len) (hx : ev σ x = some (.agg (rowN .u8 xs).toArray)) (hy : ev σ y = some (.agg (rowN .u8 ys).toArray)) (hlx : xs.length = len) (hly : ys.length = len) (hd : okd N d) (h : J P ops F w0 M N lS L (putd d (.bool (decide (¬ xs = ys))) σ) l) :
    J P ops F w0 M N lS ((⟨d, .binOp .neq t x y t', ty, p, af, none⟩, k) :: L) σ l :=
  J.eqlR hx hy hd (fun w => by
    simp only [Sem.run_bind, run_eqGuard_agg w .neq t x y _ _ hT.2, Result.andThen_ok, binOp, run_eqA hT xs ys hlx hly, Sem.run_pure, decide_not]) h
end
section
variable {P : Program} {W : World} {H : Type} {enc : TypeId × Value → H} {base : Nat} {sp : Nat → Bool} {held : Bool}
theorem open_bytesA {r : Reach} {b0 n : Nat} {t e : TypeId} (ht : P.underlying t = some (.array n e)) (he : P.underlying e = some (.int .u8)) (hc : P.cellsOf e = 1) (hn : P.cellsOf t = n) {v : Value} {d : DataW H} {ps : List MemPlace} (hv : Value.okWide P W r b0 t v)
    (h : DataW.Trod enc P W base sp held t v d ps) : ∃ bs : List Nat, v = .agg (rowN .u8 bs).toArray ∧ bs.length = n ∧ Dg bs := by
  obtain ⟨fuel, hf⟩ := h
  simp only [Value.okWide, ht] at hv
  obtain ⟨cs, rfl, _⟩ := hv
  simp only [Value.cells] at hf
  obtain ⟨xs, m, _, _, hl, hxl, hx⟩ := DataW.trod_array ht hf
  rw [hn] at hl
  rw [hc] at hx
  have each : ∀ i, i < n → ∃ q : Nat, q < 256 ∧ cs.toList[i]? = some (.int .u8 (q : Int)) := fun i hi => by
    have h1 := hx i hi
    rw [List.getElem?_eq_getElem (by omega)] at h1
    obtain ⟨q, e1, _, e2⟩ := DataW.trod_int he h1
    have := wf_u8 e2
    refine ⟨q.toNat, by omega, ?_⟩
    rw [Int.toNat_of_nonneg this.1]
    have e3 := congrArg (fun l : List Value => l[0]?) e1
    simpa using e3
  let f : Nat → Nat := fun i => if h : i < n then (each i h).choose else 0
  have hf1 : ∀ i, i < n → f i < 256 ∧ cs.toList[i]? = some (.int .u8 (f i : Int)) := fun i hi => by
    have := (each i hi).choose_spec
    simp only [f, dif_pos hi]
    exact this
  refine ⟨(List.range n).map f, ?_, by simp, fun y hy => ?_⟩
  · have : cs.toList = rowN .u8 ((List.range n).map f) := by
      apply List.ext_getElem?
      intro i
      rcases Nat.lt_or_ge i n with hi | hi
      · rw [(hf1 i hi).2]; simp [rowN, hi]
      · rw [List.getElem?_eq_none (by omega), List.getElem?_eq_none (by simp [rowN]; omega)]
    rw [← this]
  · simp only [List.mem_map, List.mem_range] at hy
    obtain ⟨i, hi, rfl⟩ := hy
    exact (hf1 i hi).1
end
theorem putNs (kd : IntKind) (xs : List Nat) (sp : List Value) (i v : Nat) (h : i < xs.length) : put (rowN kd xs ++ sp) (i * 1) [.int kd (v : Int)] = rowN kd (xs.set i v) ++ sp := by
  have h2 : i < (rowN kd xs ++ sp).length := by rw [List.length_append, rowN_length]; omega
  rw [Nat.mul_one, put_one _ _ _ h2, List.set_append_left _ _ (by rw [rowN_length]; exact h)]
  congr 1
  simp [rowN, List.map_set]
theorem cs_frontN {w : World} {A : Option Addr} {kd : IntKind} {xs ys : List Nat} (h : Cs w A (rowN kd (xs ++ ys))) : Cs w A (rowN kd xs) := fun i x hx => h i x (by
  have hlt := (List.getElem?_eq_some_iff.1 hx).1
  rw [rowN_append, List.getElem?_append_left hlt]; exact hx)
theorem cs_takeN {w : World} {A : Option Addr} {kd : IntKind} {ys : List Nat} (h : Cs w A (rowN kd ys)) (n : Nat) : Cs w A (rowN kd (ys.take n)) := by
  rw [← List.take_append_drop n ys] at h
  exact cs_frontN h
theorem cs_behindN {w : World} {A : Option Addr} {kd : IntKind} {xs ys : List Nat} (h : Cs w A (rowN kd (xs ++ ys))) : Cs w (A.map (·.add (xs.length * 1))) (rowN kd ys) := fun i x hx => by
  obtain ⟨ad, ha, hc⟩ := h (xs.length + i) x (by rw [rowN_append, List.getElem?_append_right (by rw [rowN_length]; omega), rowN_length, Nat.add_sub_cancel_left]; exact hx)
  refine ⟨ad.add (xs.length * 1), by rw [ha]; rfl, ?_⟩
  rw [Nat.mul_one, Addr.add_add]; exact hc
theorem Dg.setx {ys : List Nat} (h : Dg ys) (i a b : Nat) (ha : a < 256) (hb : b < 256) : Dg (ys.set i (a ^^^ b)) := h.set i (xor_lt8 a b ⟨ha, hb⟩)
end Go.Fw
set_option linter.unusedVariables false
namespace Go.Fw
open Go
theorem rowC_sub (cs : List Ch) (i o k : Nat) (h : i < cs.length) (ho : o + k ≤ 35) : ((rowC cs).drop (i * 35 + o)).take k = ((cs.getD i default).cells.drop o).take k := by
  rw [← rowC_seg cs i h, ← List.drop_drop, List.drop_take, List.take_take, Nat.min_eq_left (by omega)]
theorem rowC_cell (cs : List Ch) (i o : Nat) (h : i < cs.length) (ho : o < 35) : (rowC cs)[i * 35 + o]? = (cs.getD i default).cells[o]? := flat_at Ch.cells_length cs i o h ho
def mk3 : List Nat := [171, 172, 173]
/-- A change whose codes have three mk3 behind them. -/
structure Ch.Lent (W : World) (n : Nat) (B : List (Option Nat)) (c : Ch) : Prop where
  kd : -9223372036854775808 ≤ c.kind ∧ c.kind ≤ 9223372036854775807
  dO : Dg c.oc
  dN : Dg c.nc
  lo : c.oc.length ≤ 1000000000
  ln : c.nc.length ≤ 1000000000
  co : c.oc.length + 3 ≤ c.oC
  cn : c.nc.length + 3 ≤ c.nC
  fo : Fit W n B c.oA (rowN .u8 (c.oc ++ mk3))
  fn : Fit W n B c.nA (rowN .u8 (c.nc ++ mk3))
theorem Ch.Lent.keep {W w : World} {n : Nat} {B B' : List (Option Nat)} {c : Ch} (h : c.Lent W n B) (k : Keep W n B w B') : c.Lent w n B' := ⟨h.kd, h.dO, h.dN, h.lo, h.ln, h.co, h.cn, k _ _ h.fo, k _ _ h.fn⟩
theorem Fit.pre {W : World} {n : Nat} {B : List (Option Nat)} {A : Option Addr} {xs ys : List Value} (h : Fit W n B A (xs ++ ys)) : Fit W n B A xs := fun i x hx => h i x (by
  have : i < xs.length := (List.getElem?_eq_some_iff.1 hx).1
  rw [List.getElem?_append_left this]; exact hx)
theorem Ch.Lent.ok {W : World} {n : Nat} {B : List (Option Nat)} {c : Ch} (h : c.Lent W n B) : c.Ok W n B := ⟨h.kd, h.dO, h.dN, by have := h.lo; omega, by have := h.ln; omega, Fit.pre (ys := rowN .u8 mk3) (by rw [← rowN_append]; exact h.fo), Fit.pre (ys := rowN .u8 mk3) (by rw [← rowN_append]; exact h.fn)⟩
def AllL (W : World) (n : Nat) (B : List (Option Nat)) (cs : List Ch) : Prop := ∀ c ∈ cs, c.Lent W n B
theorem AllL.keep {W w : World} {n : Nat} {B B' : List (Option Nat)} {cs : List Ch} (h : AllL W n B cs) (k : Keep W n B w B') : AllL w n B' cs := fun c hc => (h c hc).keep k
theorem AllL.ok {W : World} {n : Nat} {B : List (Option Nat)} {cs : List Ch} (h : AllL W n B cs) : AllC W n B cs := fun c hc => (h c hc).ok
theorem AllL.nil {W : World} {n : Nat} {B : List (Option Nat)} : AllL W n B [] := fun c hc => by cases hc
theorem AllL.snoc {W : World} {n : Nat} {B : List (Option Nat)} {cs : List Ch} {c : Ch} (h : AllL W n B cs) (hc : c.Lent W n B) : AllL W n B (cs ++ [c]) := fun x hx => by
  rcases List.mem_append.1 hx with h1 | h1
  · exact h x h1
  · rw [List.mem_singleton.1 h1]; exact hc
theorem AllL.get {W : World} {n : Nat} {B : List (Option Nat)} {cs : List Ch} (h : AllL W n B cs) {i : Nat} (hi : i < cs.length) : (cs.getD i default).Lent W n B := h _ (by
  rw [List.getD_eq_getElem?_getD, List.getElem?_eq_getElem hi]; exact List.getElem_mem hi)
/-- The mark behind a row of changes. -/
def markC : Ch := ⟨0, 771, 0, 0, 0, [], [], none, 0, none, 0⟩
theorem slice0 (A : Option Addr) (c s : Nat) : (if c = 0 then A else A.map (·.add (0 * s))) = A := by
  rw [Nat.zero_mul]
  split
  · rfl
  · cases A <;> simp [Addr.add]
theorem kept_at (xs : List Nat) (j : Nat) (hj : j < 3) : (rowN .u8 (xs ++ mk3))[(xs.length + j) * 1]? = some (.int .u8 ((mk3.getD j 0 : Nat) : Int)) := by
  rw [Nat.mul_one, rowN_get .u8 (xs ++ mk3) (xs.length + j) (by simp [mk3]; omega)]
  congr 3
  rw [List.getD_eq_getElem?_getD, List.getElem?_append_right (by omega), show xs.length + j - xs.length = j by omega]
  rfl
/-- How much a list of changes weighs; counted on up to 2^18. -/
def loadR : Nat → List Ch → Nat
  | n, [] => n
  | n, c :: cs => if n ≤ 262144 then loadR (n + c.oc.length + c.nc.length) cs else n
theorem loadR_ge : ∀ (cs : List Ch) (n : Nat), n ≤ loadR n cs
  | [], n => Nat.le_refl _
  | c :: cs, n => by
    unfold loadR
    split
    · exact Nat.le_trans (by omega) (loadR_ge cs _)
    · exact Nat.le_refl _
theorem loadR_small : ∀ (cs : List Ch) (n : Nat), loadR n cs ≤ 262144 → ∀ c ∈ cs, c.oc.length ≤ 262144 ∧ c.nc.length ≤ 262144
  | [], n, _, c, hc => by cases hc
  | x :: cs, n, h, c, hc => by
    unfold loadR at h
    split at h
    · have h1 := loadR_ge cs (n + x.oc.length + x.nc.length)
      rcases List.mem_cons.1 hc with rfl | hc
      · omega
      · exact loadR_small cs _ h c hc
    · omega
theorem load_len {ds : List Ch} (hs : ∀ c ∈ ds, c.oc.length ≤ 1000000000000000 ∧ c.nc.length ≤ 1000000000000000) {i : Nat} (hi : i < ds.length) : (ds.getD i default).oc.length ≤ 1000000000000000 ∧ (ds.getD i default).nc.length ≤ 1000000000000000 := hs _ (by
  rw [List.getD_eq_getElem?_getD, List.getElem?_eq_getElem hi]; exact List.getElem_mem hi)
theorem load_step {ds : List Ch} {R i m : Nat} (h : R = loadR m (ds.drop i)) (hi : i < ds.length) (hm : m ≤ 262144) : R = loadR (m + (ds.getD i default).oc.length + (ds.getD i default).nc.length) (ds.drop (i + 1)) := by
  rw [h, List.drop_eq_getElem_cons hi]
  have e : ds[i] = ds.getD i default := by rw [List.getD_eq_getElem?_getD, List.getElem?_eq_getElem hi]; rfl
  rw [e, loadR, if_pos hm]
theorem load_end {ds : List Ch} {R i m : Nat} (h : R = loadR m (ds.drop i)) (hi : i ≤ ds.length) (hm : ¬ (i < ds.length ∧ m ≤ 262144)) : R = m := by
  rw [h]
  rcases Nat.lt_or_ge i ds.length with h1 | h1
  · rw [List.drop_eq_getElem_cons h1, loadR, if_neg (fun q => hm ⟨h1, q⟩)]
  · rw [List.drop_eq_nil_of_le h1]; rfl
theorem RowIx.Ok.cap_ge {r : RowIx} {s n : Nat} (h : r.Ok s n) : n ≤ r.cap := h.le
instance : DecidableEq CV := fun a b => decidable_of_iff (a.who = b.who ∧ a.kind = b.kind ∧ a.key = b.key ∧ a.old = b.old ∧ a.new = b.new ∧ a.oc = b.oc ∧ a.nc = b.nc) ⟨fun ⟨h1, h2, h3, h4, h5, h6, h7⟩ => by
  cases a; cases b; dsimp only at *; subst h1 h2 h3 h4 h5 h6 h7; rfl, fun h => by subst h; exact ⟨rfl, rfl, rfl, rfl, rfl, rfl, rfl⟩⟩
/-- The two rows say the same. -/
theorem same_v {ps qs : List Ch} (hl : ps.length = qs.length) : (∀ i, i < ps.length → (ps.getD i default).v = (qs.getD i default).v) ↔ ps.map Ch.v = qs.map Ch.v := by
  constructor
  · intro h
    apply List.ext_getElem
    · simp [hl]
    · intro i h1 h2
      rw [List.length_map] at h1 h2
      have := h i h1
      rw [List.getD_eq_getElem?_getD, List.getElem?_eq_getElem h1, List.getD_eq_getElem?_getD, List.getElem?_eq_getElem h2] at this
      simpa using this
  · intro h i hi
    have := getD_map_v ps i hi
    rw [← getD_map_v ps i hi, ← getD_map_v qs i (by omega), h]
theorem v_ext {a b : Ch} (h1 : adL a.who = adL b.who) (h2 : a.kind = b.kind) (h3 : a.key % 2 ^ 256 = b.key % 2 ^ 256) (h4 : a.old % 2 ^ 256 = b.old % 2 ^ 256) (h5 : a.new % 2 ^ 256 = b.new % 2 ^ 256) (h6 : a.oc = b.oc) (h7 : a.nc = b.nc) : a.v = b.v := by
  unfold Ch.v; rw [adL_inj.1 h1, h2, h3, h4, h5, h6, h7]
/-- The change with codes that have room. -/
def Ch.lent1 (c : Ch) (q1 : RowIx) : Ch := ⟨c.who, c.kind, c.key, c.old, c.new, c.oc, c.nc, hdOf q1.id, q1.cap, c.nA, c.nC⟩
def Ch.lent (c : Ch) (q1 q2 : RowIx) : Ch := ⟨c.who, c.kind, c.key, c.old, c.new, c.oc, c.nc, hdOf q1.id, q1.cap, hdOf q2.id, q2.cap⟩
theorem Ch.lent_ok {W : World} {n : Nat} {B : List (Option Nat)} {c : Ch} {q1 q2 : RowIx} (h : c.Ok W n B) (hs : c.oc.length ≤ 1000000000 ∧ c.nc.length ≤ 1000000000) (h1 : Fit W n B (hdOf q1.id) (rowN .u8 (c.oc ++ mk3))) (h2 : c.oc.length + 3 ≤ q1.cap) (h3 : Fit W n B (hdOf q2.id) (rowN .u8 (c.nc ++ mk3))) (h4 : c.nc.length + 3 ≤ q2.cap) : (c.lent q1 q2).Lent W n B :=
  ⟨h.kd, h.dO, h.dN, hs.1, hs.2, h2, h4, h1, h3⟩
theorem lend_len {ds : List Ch} (hs : ∀ c ∈ ds, c.oc.length ≤ 262144 ∧ c.nc.length ≤ 262144) {i : Nat} (hi : i < ds.length) : (ds.getD i default).oc.length ≤ 1000000000 ∧ (ds.getD i default).nc.length ≤ 1000000000 := by
  have := hs (ds.getD i default) (by
    rw [List.getD_eq_getElem?_getD, List.getElem?_eq_getElem hi]; exact List.getElem_mem hi)
  omega
end Go.Fw
set_option linter.unusedVariables false
namespace Go.Fw
open Go
theorem cmpZ_w0 {x : Nat} (h : x % 2 ^ 256 = 0) : cmpZ (x % 2 ^ 256) (0 % 2 ^ 256) = 0 := cmpZ_eq (by rw [h, Nat.zero_mod])
theorem cmpZ_0w {x : Nat} (h : ¬ cmpZ (x % 2 ^ 256) (0 % 2 ^ 256) ≠ 0) : x % 2 ^ 256 = 0 := by
  have := cmpZ_zero.1 (Decidable.not_not.1 h)
  rwa [Nat.zero_mod] at this
theorem lim_big {x k : Nat} (h : lim x k ≠ 0) (h1 : 1 ≤ k) (h2 : k < 4) : ¬ x % 2 ^ 256 < 2 ^ 64 := fun q => h (by
  rw [← lim_mod x k h2]
  exact lim_hi (i := 1) (by rw [Nat.pow_one]; omega) h1)
theorem lim_small64 {x : Nat} (h1 : lim x 1 = 0) (h2 : lim x 2 = 0) (h3 : lim x 3 = 0) : x % 2 ^ 256 < 2 ^ 64 := by
  have a3 := lim_small_top (V := x % 2 ^ 256) (t := 3) (by omega) (by rw [lim_mod x 3 (by omega)]; exact h3)
  have a2 := lim_small_top (t := 2) a3 (by rw [lim_mod x 2 (by omega)]; exact h2)
  have a1 := lim_small_top (t := 1) a2 (by rw [lim_mod x 1 (by omega)]; exact h1)
  omega
theorem wc_cell (x k : Nat) (h : k < 4) : (wc x)[k]? = some (.int .u64 ((lim x k : Nat) : Int)) := by
  have := wc_at x k h
  rwa [Nat.zero_add, Nat.mul_one] at this
end Go.Fw
