/-
  Memories: bytes in a row of one's own, under an object; what their calls do, said of plain lists.
  No condition: plain lemmas.
-/
import Derived.Test.YtpkjbeebhdgleaaFm
import Derived.Test.YtpkjbeebhdgleaaFo
set_option linter.unusedVariables false
namespace Go.Fw
open Go

/-! ### Bytes written over -/
def putB (bs : List Nat) (o : Nat) (xs : List Nat) : List Nat := bs.take o ++ xs ++ bs.drop (o + xs.length)
theorem putB_length {bs : List Nat} {o : Nat} {xs : List Nat} (h : o + xs.length ≤ bs.length) : (putB bs o xs).length = bs.length := by
  unfold putB; rw [List.length_append, List.length_append, List.length_take, List.length_drop]; omega
theorem putB_nil (bs : List Nat) (o : Nat) : putB bs o [] = bs := by unfold putB; simp
theorem putB_dg {bs xs : List Nat} (h : Dg bs) (hx : Dg xs) (o : Nat) : Dg (putB bs o xs) := ((h.take o).append hx).append (h.drop _)
theorem put_rowN (kd : IntKind) (bs : List Nat) (sp : List Value) (o : Nat) (xs : List Nat) (h : o + xs.length ≤ bs.length) : put (rowN kd bs ++ sp) o (rowN kd xs) = rowN kd (putB bs o xs) ++ sp := by
  have hl := rowN_length kd bs
  unfold put putB
  rw [rowN_length, List.take_append_of_le_length (by omega), List.drop_append_of_le_length (by omega), rowN_append, rowN_append]
  simp [rowN, List.map_take, List.map_drop]
theorem putB_get {bs : List Nat} {o : Nat} {xs : List Nat} (h : o + xs.length ≤ bs.length) (q : Nat) : (putB bs o xs).getD q 0 = if o ≤ q ∧ q < o + xs.length then xs.getD (q - o) 0 else bs.getD q 0 := by
  have hl : (bs.take o).length = o := by rw [List.length_take]; omega
  unfold putB
  rw [List.append_assoc]
  by_cases h1 : q < o
  · rw [getD_append_left _ _ _ (by omega), getD_take _ _ _ h1, if_neg (by omega)]
  · obtain ⟨k, rfl⟩ : ∃ k, q = (bs.take o).length + k := ⟨q - o, by omega⟩
    rw [getD_append_right]
    by_cases h2 : k < xs.length
    · rw [getD_append_left _ _ _ h2, if_pos (by omega)]
      congr 1; omega
    · obtain ⟨j, rfl⟩ : ∃ j, k = xs.length + j := ⟨k - xs.length, by omega⟩
      rw [getD_append_right, if_neg (by omega), List.getD_eq_getElem?_getD, List.getElem?_drop, List.getD_eq_getElem?_getD, hl]
      congr 2; omega

/-! ### Pieces -/
def pieceE (L : Nat) (a n : Int) : Nat := if a < 0 ∨ n < 0 then 1 else if n = 0 then 0 else if n > L ∨ a > L - n then 92 else 0
def cutB (bs : List Nat) (a n : Int) : List Nat := if pieceE bs.length a n = 0 then (bs.drop a.toNat).take n.toNat else []
def pieceA (i : RowIx) (bs : List Nat) (a n : Int) : Option Addr := if cutB bs a n = [] then none else some ⟨i.id.getD 0, a.toNat, none⟩
abbrev pieceV (i : RowIx) (bs : List Nat) (a n : Int) : Value := .slice (pieceA i bs a n) (cutB bs a n).length (cutB bs a n).length
theorem pieceE_bad {L : Nat} {a n : Int} (h : a < 0 ∨ n < 0) : pieceE L a n = 1 := by unfold pieceE; rw [if_pos h]
theorem pieceE_zero {L : Nat} {a n : Int} (h : ¬ (a < 0 ∨ n < 0)) (h0 : n = 0) : pieceE L a n = 0 := by unfold pieceE; rw [if_neg h, if_pos h0]
theorem pieceE_far {L : Nat} {a n : Int} (h : ¬ (a < 0 ∨ n < 0)) (h0 : ¬ n = 0) (h2 : n > L ∨ a > L - n) : pieceE L a n = 92 := by unfold pieceE; rw [if_neg h, if_neg h0, if_pos h2]
theorem pieceE_ok {L : Nat} {a n : Int} (h : ¬ (a < 0 ∨ n < 0)) (h0 : ¬ n = 0) (h2 : ¬ (n > L ∨ a > L - n)) : pieceE L a n = 0 := by unfold pieceE; rw [if_neg h, if_neg h0, if_neg h2]
theorem pieceE_iff {L : Nat} {a n : Int} : pieceE L a n = 0 ↔ 0 ≤ a ∧ 0 ≤ n ∧ (n = 0 ∨ a + n ≤ L) := by unfold pieceE; split; omega; split; omega; split <;> omega
theorem pieceE_le (L : Nat) (a n : Int) : pieceE L a n ≤ 92 := by unfold pieceE; split; omega; split; omega; split <;> omega
theorem cutB_no {bs : List Nat} {a n : Int} (h : pieceE bs.length a n ≠ 0) : cutB bs a n = [] := by unfold cutB; rw [if_neg h]
theorem cutB_zero (bs : List Nat) (a n : Int) (h : n = 0) : cutB bs a n = [] := by subst h; unfold cutB; split <;> simp
theorem cutB_ok {bs : List Nat} {a n : Int} (h : pieceE bs.length a n = 0) : cutB bs a n = (bs.drop a.toNat).take n.toNat := by unfold cutB; rw [if_pos h]
theorem cutB_len {bs : List Nat} {a n : Int} (h : pieceE bs.length a n = 0) : (cutB bs a n).length = n.toNat := by
  rw [cutB_ok h, List.length_take, List.length_drop]
  have := pieceE_iff.1 h
  omega
theorem cutB_dg {bs : List Nat} (h : Dg bs) (a n : Int) : Dg (cutB bs a n) := by
  unfold cutB; split
  · exact (h.drop _).take _
  · exact Dg.nil
theorem cutB_le (bs : List Nat) (a n : Int) : (cutB bs a n).length ≤ bs.length := by
  unfold cutB; split
  · rw [List.length_take, List.length_drop]; omega
  · simp
theorem cutB_get {bs : List Nat} {a n : Int} (h : pieceE bs.length a n = 0) (q : Nat) (hq : q < n.toNat) : (cutB bs a n).getD q 0 = bs.getD (a.toNat + q) 0 := by
  rw [cutB_ok h, getD_take _ _ _ hq, List.getD_eq_getElem?_getD, List.getElem?_drop, List.getD_eq_getElem?_getD]
theorem cutB_all (bs : List Nat) : cutB bs 0 (bs.length : Nat) = bs := by
  have : pieceE bs.length 0 (bs.length : Nat) = 0 := pieceE_iff.2 ⟨by omega, by omega, by omega⟩
  rw [cutB_ok this]; simp
theorem pieceV_nil {i : RowIx} {bs : List Nat} {a n : Int} (h : cutB bs a n = []) : pieceV i bs a n = .slice none 0 0 := by simp [pieceV, pieceA, h]
theorem pieceV_ok {i : RowIx} {bs : List Nat} {a n : Int} (h : pieceE bs.length a n = 0) (h0 : 0 < n) : pieceV i bs a n = .slice (some ⟨i.id.getD 0, a.toNat, none⟩) n.toNat n.toNat := by
  have hl := cutB_len h
  have : cutB bs a n ≠ [] := fun e => by rw [e] at hl; simp at hl; omega
  simp [pieceV, pieceA, this, hl]
theorem cut_cs {w : World} {i : RowIx} {bs : List Nat} (h : Cs w (hdOf i.id) (rowN .u8 bs)) (a n : Int) : Cs w (pieceA i bs a n) (rowN .u8 (cutB bs a n)) := by
  unfold pieceA
  split
  · rename_i e; rw [e]; exact Cs.nil _ _
  · rename_i hne
    have hz : pieceE bs.length a n = 0 := Classical.byContradiction fun e => hne (cutB_no e)
    have hb : bs ≠ [] := fun e => hne (by rw [cutB_ok hz, e]; simp)
    have hs := h.isSomeN (List.length_pos_iff.2 hb)
    have h2 := (h.drop a.toNat).take n.toNat
    rw [cutB_ok hz]
    have e1 : rowN .u8 ((bs.drop a.toNat).take n.toNat) = ((rowN .u8 bs).drop a.toNat).take n.toNat := by simp [rowN, List.map_take, List.map_drop]
    rw [e1]
    cases hid : i.id with
    | none => rw [hid] at hs; simp [hdOf] at hs
    | some g => rw [hid] at h2; simpa [hdOf, add_lit'] using h2
def writeB (bs : List Nat) (a : Int) (xs : List Nat) : List Nat := if pieceE bs.length a (xs.length : Nat) = 0 then putB bs a.toNat xs else bs
theorem piece_fit {bs xs : List Nat} {a : Int} (h : pieceE bs.length a (xs.length : Nat) = 0) (hx : xs ≠ []) : a.toNat + xs.length ≤ bs.length := by
  have h1 := pieceE_iff.1 h
  have := List.length_pos_iff.2 hx
  omega
theorem writeB_yes {bs xs : List Nat} {a : Int} (h : pieceE bs.length a (xs.length : Nat) = 0) : writeB bs a xs = putB bs a.toNat xs := by unfold writeB; rw [if_pos h]
theorem writeB_no {bs xs : List Nat} {a : Int} (h : pieceE bs.length a (xs.length : Nat) ≠ 0) : writeB bs a xs = bs := by unfold writeB; rw [if_neg h]
theorem writeB_nil (bs : List Nat) (a : Int) : writeB bs a [] = bs := by unfold writeB; split; exact putB_nil _ _; rfl
theorem writeB_length (bs : List Nat) (a : Int) (xs : List Nat) : (writeB bs a xs).length = bs.length := by
  by_cases hx : xs = []
  · subst hx; rw [writeB_nil]
  · unfold writeB; split
    · rename_i h; exact putB_length (piece_fit h hx)
    · rfl
theorem writeB_dg {bs xs : List Nat} (h : Dg bs) (hx : Dg xs) (a : Int) : Dg (writeB bs a xs) := by
  unfold writeB; split
  · exact putB_dg h hx _
  · exact h
def moveE (L : Nat) (t f n : Int) : Nat := if t < 0 ∨ f < 0 ∨ n < 0 then 1 else if pieceE L f n ≠ 0 ∨ pieceE L t n ≠ 0 then 92 else 0
def moveB (bs : List Nat) (t f n : Int) : List Nat := if moveE bs.length t f n = 0 then writeB bs t (cutB bs f n) else bs
theorem moveB_length (bs : List Nat) (t f n : Int) : (moveB bs t f n).length = bs.length := by unfold moveB; split; exact writeB_length _ _ _; rfl
theorem moveB_dg {bs : List Nat} (h : Dg bs) (t f n : Int) : Dg (moveB bs t f n) := by
  unfold moveB; split
  · exact writeB_dg h (cutB_dg h _ _) _
  · exact h
def loadX (bs : List Nat) (a : Int) : Nat := if pieceE bs.length a 32 = 0 then vl (cutB bs a 32).reverse else 0
def growL (L : Nat) (to : Int) : Nat := if to < 0 ∨ to > 4194304 then L else max L ((to.toNat + 31) / 32 * 32)
def growE (to : Int) : Nat := if to < 0 then 1 else if to > 4194304 then 92 else 0
def growB (bs : List Nat) (to : Int) : List Nat := bs ++ List.replicate (growL bs.length to - bs.length) 0
theorem growL_ge (L : Nat) (to : Int) : L ≤ growL L to := by unfold growL; split <;> omega
theorem growB_length (bs : List Nat) (to : Int) : (growB bs to).length = growL bs.length to := by
  have := growL_ge bs.length to
  unfold growB; rw [List.length_append, List.length_replicate]; omega
theorem dg_zeros (n : Nat) : Dg (List.replicate n 0) := fun x hx => by have := List.eq_of_mem_replicate hx; omega
theorem growB_dg {bs : List Nat} (h : Dg bs) (to : Int) : Dg (growB bs to) := h.append (dg_zeros _)
theorem growB_no {bs : List Nat} {to : Int} (h : growL bs.length to = bs.length) : growB bs to = bs := by unfold growB; rw [h]; simp
def reachN (L x y : Nat) : Nat := if y % 2 ^ 256 = 0 then L else if x % 2 ^ 256 + y % 2 ^ 256 > 4194304 then 0 else max L ((x % 2 ^ 256 + y % 2 ^ 256 + 31) / 32 * 32)
def reachB (x y : Nat) : Bool := decide (y % 2 ^ 256 = 0 ∨ x % 2 ^ 256 + y % 2 ^ 256 ≤ 4194304)

/-- A memory's row. -/
structure MOk (i : RowIx) (bs : List Nat) : Prop where
  ok : i.Ok 1 bs.length
  le : bs.length ≤ 4194304
  dg : Dg bs
  mul : bs.length % 32 = 0
theorem MOk.nil : MOk RowIx.nil [] := ⟨RowIx.nil_ok 1, by simp, Dg.nil, rfl⟩
theorem MOk.write {i : RowIx} {bs xs : List Nat} (h : MOk i bs) (hx : Dg xs) (a : Int) : MOk i (writeB bs a xs) := by
  have hl := writeB_length bs a xs
  exact ⟨by rw [hl]; exact h.ok, by rw [hl]; exact h.le, writeB_dg h.dg hx a, by rw [hl]; exact h.mul⟩
theorem MOk.move {i : RowIx} {bs : List Nat} (h : MOk i bs) (t f n : Int) : MOk i (moveB bs t f n) := by
  have hl := moveB_length bs t f n
  exact ⟨by rw [hl]; exact h.ok, by rw [hl]; exact h.le, moveB_dg h.dg _ _ _, by rw [hl]; exact h.mul⟩

abbrev memM (g : Nat) (i : RowIx) : List Nat := [g] ++ i.id.toList
abbrev memE (tm tb : TypeId) (g : Nat) (i : RowIx) (bs : List Nat) : List (Nat × Ent) := [(0, ⟨some g, tm, [i.val bs.length]⟩), (1, i.ent tb (rowN .u8 bs))]
/-- A memory lies in w. -/
structure MemAt (w : World) (tm tb : TypeId) (g : Nat) (i : RowIx) (bs : List Nat) : Prop where
  obj : Ent.At w ⟨some g, tm, [i.val bs.length]⟩
  row : Ent.At w (i.ent tb (rowN .u8 bs))
  ne : i.id ≠ some g
section
variable {P : Program} {ops : Array Oper} {F : Act → World → Prop} {w0 w w' : World} {M : List Nat} {N : Nf} {L : List (Oper × K)} {σ : List (Nat × Value)} {l lS : List (Nat × Ent)} {d : Option Tmp} {ty : TypeId} {p : String} {af : Array Edge} {x y : Operand} {v z : Value} {t : TypeId} {kd : IntKind} {k : K}
  {tm tb : TypeId} {g : Nat} {i : RowIx} {bs : List Nat}

/-- Two entries alone. -/
theorem WS.two' {e1 e2 : Ent} (h1 : e1.At w) (h2 : e2.At w) (hne : ∀ g, e1.id = some g → e2.id ≠ some g) : WS w (e1.id.toList ++ e2.id.toList) [(0, e1), (1, e2)] w := by
  have key : ∀ j e, lk [(0, e1), (1, e2)] j = some e → (j = 0 ∧ e = e1) ∨ (j = 1 ∧ e = e2) := by
    intro j e h
    rw [lk_cons, lk_cons] at h
    split at h
    · simp at h; exact .inl ⟨by omega, h.symm⟩
    · split at h
      · simp at h; exact .inr ⟨by omega, h.symm⟩
      · simp [lk] at h
  refine ⟨rfl, rfl, rfl, Nat.le_refl _, fun _ _ _ => rfl, fun j e he => ?_, fun j j' e e' g' h3 h4 hn hg => ?_, fun j e g' he hg => ?_⟩
  · rcases key j e he with ⟨_, rfl⟩ | ⟨_, rfl⟩
    · exact h1
    · exact h2
  · rcases key j e h3 with ⟨rfl, rfl⟩ | ⟨rfl, rfl⟩ <;> rcases key j' e' h4 with ⟨rfl, rfl⟩ | ⟨rfl, rfl⟩
    · exact absurd rfl hn
    · exact hne g' hg
    · exact fun h => hne g' h hg
    · exact absurd rfl hn
  · rcases key j e he with ⟨_, rfl⟩ | ⟨_, rfl⟩
    · exact .inr (by simp [hg])
    · exact .inr (by simp [hg])
theorem MemAt.start (h : MemAt w tm tb g i bs) : WS w (memM g i) (memE tm tb g i bs) w :=
  WS.two' (e1 := ⟨some g, tm, [i.val bs.length]⟩) (e2 := i.ent tb (rowN .u8 bs)) h.obj h.row (fun q hq => by simp at hq; subst hq; exact h.ne)
theorem MemAt.ws (h : MemAt w0 tm tb g i bs) (hw : WS w0 [] l w) : MemAt w tm tb g i bs :=
  ⟨h.obj.same (fun q hq => hw.keep q (h.obj.lt hq) (by simp)) (fun q _ _ hm => hw.keep q (Array.getElem?_eq_some_iff.1 hm).1 (by simp)), h.row.same (fun q hq => hw.keep q (h.row.lt hq) (by simp)) (fun q _ _ hm => hw.keep q (Array.getElem?_eq_some_iff.1 hm).1 (by simp)), h.ne⟩
theorem WS.memAt (hw : WS w0 M l w) (a b : Nat) (h1 : lk l a = some ⟨some g, tm, [i.val bs.length]⟩) (h2 : lk l b = some (i.ent tb (rowN .u8 bs))) (hab : a ≠ b) : MemAt w tm tb g i bs :=
  ⟨hw.live a _ h1, hw.live b _ h2, fun e => hw.apart a b _ _ g h1 h2 hab rfl e⟩
theorem MemAt.objCs (h : MemAt w tm tb g i bs) : Cs w (some ⟨g, 0, none⟩) [i.val bs.length] := h.start.blkCs (k := 0) rfl
theorem MemAt.rowCs (h : MemAt w tm tb g i bs) : Cs w (hdOf i.id) (rowN .u8 bs) := h.start.rowCs (k := 1) rfl
theorem Cs.wsN {A : Option Addr} {xs : List Nat} (h : Cs w0 A (rowN kd xs)) (hw : WS w0 M l w) (ho : xs ≠ [] → Off M A) : Cs w A (rowN kd xs) := by
  by_cases hx : xs = []
  · subst hx; exact Cs.nil _ _
  · exact h.ws hw (ho hx)
theorem WS.offMem (hw : WS w0 M l w) (a b : Nat) (h1 : lk l a = some ⟨some g, tm, [i.val bs.length]⟩) (h2 : lk l b = some (i.ent tb (rowN .u8 bs))) (j : Nat) {e : Ent} (hj : lk l j = some e) (hja : j ≠ a) (hjb : j ≠ b) : Off (memM g i) (hdOf e.id) := by
  intro ad had hin
  cases hid : e.id with
  | none => rw [hid] at had; cases had
  | some q =>
    rw [hid] at had
    simp [hdOf] at had
    subst had
    simp only [memM, List.mem_append, List.mem_singleton, Option.mem_toList] at hin
    rcases hin with rfl | hin
    · exact hw.apart j a _ _ q hj h1 hja hid rfl
    · exact hw.apart j b _ _ q hj h2 hjb hid hin
theorem WS.offIn (hw : WS w0 [] l w) (a b : Nat) (h1 : lk l a = some ⟨some g, tm, [i.val bs.length]⟩) (h2 : lk l b = some (i.ent tb (rowN .u8 bs))) {A : Option Addr} {xs : List Nat} (hc : Cs w0 A (rowN kd xs)) : xs ≠ [] → Off (memM g i) A := by
  intro hx ad had hin
  have hp : 0 < (rowN kd xs).length := by rw [rowN_length]; exact List.length_pos_iff.2 hx
  obtain ⟨ad', ha, hcell⟩ := hc 0 ((rowN kd xs)[0]) (List.getElem?_eq_getElem hp)
  rw [had] at ha
  simp at ha; subst ha
  have hlt := World.block_lt_of_cell? _ _ hcell
  rw [Addr.add_block] at hlt
  simp only [memM, List.mem_append, List.mem_singleton, Option.mem_toList] at hin
  rcases hin with h3 | h3
  · rcases hw.own a _ g h1 rfl with h4 | h4
    · omega
    · simp at h4
  · rcases hw.own b _ _ h2 h3 with h4 | h4
    · omega
    · simp at h4
theorem memOff {A : Option Addr} (h : ∀ ad, A = some ad → ad.block ∉ memM g i) : Off (memM g i) A := h
/-- Behind a call the memory is as it must be. -/
def MemPost (w : World) (tm tb : TypeId) (g : Nat) (i : RowIx) (v : Value) (bs' : List Nat) (e : Ending) (w' : World) : Prop :=
  ∃ i' : RowIx, MOk i' bs' ∧ e = .returned v ∧ WS w (memM g i) (memE tm tb g i' bs') w'
theorem MemPost.mk' {bs' : List Nat} {e : Ending} {v' : Value} (i' : RowIx) (hm : MOk i' bs') (he : e = .returned v') (hv : v' = v) (hw : WS w (memM g i) l w') (h1 : lk l 0 = some ⟨some g, tm, [i'.val bs'.length]⟩) (h2 : lk l 1 = some (i'.ent tb (rowN .u8 bs'))) : MemPost w tm tb g i v bs' e w' :=
  ⟨i', hm, by rw [he, hv], hw.pairOf 0 1 h1 h2 (by omega) 0 1 (by omega)⟩
theorem J.callMem (a b : Nat) (hab : a ≠ b) {bs' : List Nat} (h1 : lk l a = some ⟨some g, tm, [i.val bs.length]⟩) (h2 : lk l b = some (i.ent tb (rowN .u8 bs))) (ha : lk lS a = none) (hb : lk lS b = none) {f : FuncId} (hf : FnOk P f) {xs : Array Operand} {tys : Array TypeId} {args : List Value} (hx : evs σ xs.toList = some args) (hd : okd N d)
    (spec : ∀ w, WS w0 M l w → Calls P f args.toArray w (MemPost w tm tb g i v bs'))
    (hJ : ∀ i', MOk i' bs' → J P ops F w0 M N lS L (putd d v σ) ((a, ⟨some g, tm, [i'.val bs'.length]⟩) :: (b, i'.ent tb (rowN .u8 bs')) :: l)) :
    J P ops F w0 M N lS ((⟨d, .call ⟨.value (.func f), xs, tys⟩, ty, p, af, none⟩, .l) :: L) σ l :=
  J.call hf hx hd (ι := RowIx) (fun i' => MOk i' bs') (fun _ => v) (memM g i) (fun i' => [(a, ⟨some g, tm, [i'.val bs'.length]⟩), (b, i'.ent tb (rowN .u8 bs'))])
    (fun w hw => (spec w hw).mono fun e w' ⟨i', hi, he, hw'⟩ => ⟨i', hi, he, hw'.pairOf 0 1 rfl rfl (by omega) a b hab⟩)
    (fun i' hi q hq => by
      simp only [memM, List.mem_append, List.mem_singleton, Option.mem_toList] at hq
      rcases hq with rfl | hq
      · exact ⟨a, _, _, h1, rfl, by rw [lk_cons, if_pos rfl]⟩
      · exact ⟨b, _, _, h2, hq, by rw [lk_cons, if_neg hab, lk_cons, if_pos rfl]⟩)
    (fun i' q e he => by
      rw [lk_cons, lk_cons] at he
      split at he
      · rename_i hk; subst hk; exact ha
      · split at he
        · rename_i hk; subst hk; exact hb
        · simp [lk] at he) (fun i' hi => hJ i' hi)
end

/-! ### What the calls' walks need -/
theorem testBit_hi (j : Nat) : (18446744073709551584 : Nat).testBit j = (decide (5 ≤ j) && decide (j < 64)) := by
  have e : (18446744073709551584 : Nat) = (2 ^ 59 - 1) * 2 ^ 5 := by decide
  rw [e, Nat.testBit_mul_two_pow, Nat.testBit_two_pow_sub_one]
  by_cases h : 5 ≤ j
  · simp only [h, decide_true, Bool.true_and]
    exact decide_eq_decide.2 (by omega)
  · simp [h]
theorem andNot31 (m : Nat) (h : m < 9223372036854775808) : bits .andNot .i64 (m : Int) 31 = ((m / 32 * 32 : Nat) : Int) := by
  have h1 : (BitVec.ofInt 64 (m : Int)).toNat = m := by rw [BitVec.toNat_ofInt]; omega
  have h2 : (~~~ BitVec.ofInt 64 31).toNat = 18446744073709551584 := by decide
  have key : (BitVec.ofInt 64 (m : Int) &&& ~~~ BitVec.ofInt 64 31).toNat = m / 32 * 32 := by
    rw [BitVec.toNat_and, h1, h2]
    apply Nat.eq_of_testBit_eq
    intro j
    rw [Nat.testBit_and, testBit_hi, show m / 32 * 32 = m / 2 ^ 5 * 2 ^ 5 from rfl, Nat.testBit_mul_two_pow, Nat.testBit_div_two_pow]
    by_cases hj : 5 ≤ j
    · rw [Nat.sub_add_cancel hj]
      by_cases hj2 : j < 64
      · simp [hj, hj2]
      · have : m.testBit j = false := Nat.testBit_lt_two_pow (Nat.lt_of_lt_of_le (show m < 2 ^ 63 by omega) (Nat.pow_le_pow_right (by omega) (by omega)))
        simp [this]
    · simp [hj]
  show IntKind.i64.wrap ((BitVec.ofInt 64 (m : Int) &&& ~~~ BitVec.ofInt 64 31).toNat : Nat) = _
  rw [key]
  exact wrap_nat64 _ (by omega)
theorem piece_bad' {i : RowIx} {bs : List Nat} {a n : Int} (h : a < 0 ∨ n < 0) : pieceV i bs a n = .slice none 0 0 ∧ pieceE bs.length a n = 1 := ⟨pieceV_nil (cutB_no (by rw [pieceE_bad h]; omega)), pieceE_bad h⟩
theorem piece_zero' {i : RowIx} {bs : List Nat} {a n : Int} (h : ¬ (a < 0 ∨ n < 0)) (h0 : n = 0) : pieceV i bs a n = .slice none 0 0 ∧ pieceE bs.length a n = 0 := ⟨pieceV_nil (cutB_zero _ _ _ h0), pieceE_zero h h0⟩
theorem piece_far' {i : RowIx} {bs : List Nat} {a n : Int} (h : ¬ (a < 0 ∨ n < 0)) (h0 : ¬ n = 0) (h2 : n > bs.length ∨ a > bs.length - n) : pieceV i bs a n = .slice none 0 0 ∧ pieceE bs.length a n = 92 := ⟨pieceV_nil (cutB_no (by rw [pieceE_far h h0 h2]; omega)), pieceE_far h h0 h2⟩
theorem slice_piece {i : RowIx} {bs : List Nat} {p q : Nat} (hm : MOk i bs) (h : p + q ≤ bs.length) (hq : 0 < q) : Value.slice (if p + q = p then hdOf i.id else (hdOf i.id).map (·.add (p * 1))) (p + q - p) (p + q - p) = pieceV i bs (p : Int) (q : Int) ∧ pieceE bs.length (p : Int) (q : Int) = 0 := by
  have hE : pieceE bs.length (p : Int) (q : Int) = 0 := pieceE_iff.2 ⟨by omega, by omega, by omega⟩
  refine ⟨?_, hE⟩
  rw [pieceV_ok hE (by omega), if_neg (by omega)]
  have hs := hm.ok.some (by omega)
  cases hid : i.id with
  | none => rw [hid] at hs; simp at hs
  | some g => simp [hdOf, add_lit']
/-- What a write takes of its bytes, and where. -/
def wN (bs : List Nat) (a : Int) (xs : List Nat) : List Nat := if pieceE bs.length a (xs.length : Nat) = 0 then xs else []
def wO (bs : List Nat) (a : Int) (xs : List Nat) : Nat := if wN bs a xs = [] then 0 else a.toNat
theorem wN_dg {bs xs : List Nat} {a : Int} (h : Dg xs) : Dg (wN bs a xs) := by unfold wN; split; exact h; exact Dg.nil
theorem wN_min (bs xs : List Nat) (a : Int) : min xs.length (cutB bs a (xs.length : Nat)).length = (wN bs a xs).length := by
  unfold wN; split
  · rename_i h; rw [cutB_len h]; simp
  · rename_i h; rw [cutB_no h]; simp
theorem wN_fit (bs xs : List Nat) (a : Int) : wO bs a xs + (wN bs a xs).length ≤ bs.length := by
  unfold wO; split
  · rename_i h; rw [h]; simp
  · rename_i h
    unfold wN at h ⊢
    split at h
    · rename_i hE; rw [if_pos hE]; exact piece_fit hE h
    · exact absurd rfl h
theorem wN_addr {bs xs : List Nat} {a : Int} {i : RowIx} (h : rowN .u8 (wN bs a xs) ≠ []) : pieceA i bs a (xs.length : Nat) = some ⟨i.id.getD 0, wO bs a xs, none⟩ := by
  have h0 : wN bs a xs ≠ [] := fun e => h (by rw [e]; rfl)
  have hl := wN_min bs xs a
  have : cutB bs a (xs.length : Nat) ≠ [] := fun e => h0 (List.eq_nil_of_length_eq_zero (by rw [e] at hl; simpa using hl.symm))
  unfold pieceA wO; rw [if_neg this, if_neg h0]
theorem wN_cs {w : World} {A : Option Addr} {bs xs : List Nat} {a : Int} (h : Cs w A (rowN .u8 xs)) : Cs w A (rowN .u8 (wN bs a xs)) := by unfold wN; split; exact h; exact Cs.nil _ _
theorem wN_put (bs xs : List Nat) (a : Int) (sp : List Value) : put (rowN .u8 bs ++ sp) (wO bs a xs) (rowN .u8 (wN bs a xs)) = rowN .u8 (writeB bs a xs) ++ sp := by
  rw [put_rowN _ _ _ _ _ (wN_fit bs xs a)]
  congr 2
  unfold wO
  split
  · rename_i h
    rw [h, putB_nil]
    unfold wN at h
    split at h
    · subst h; rw [writeB_nil]
    · rename_i hE; rw [writeB_no hE]
  · rename_i h
    unfold wN at h ⊢
    split at h
    · rename_i hE; rw [if_pos hE, writeB_yes hE]
    · exact absurd rfl h
theorem MOk.grow {i i' : RowIx} {bs : List Nat} {u : Int} (h : MOk i bs) (h2 : i'.Ok 1 (growB bs u).length) : MOk i' (growB bs u) := by
  have hl := growB_length bs u
  have h1 := h.le
  have h3 := h.mul
  refine ⟨h2, ?_, growB_dg h.dg u, ?_⟩ <;> (rw [hl]; unfold growL; split <;> omega)
theorem grow_no {bs : List Nat} {u : Int} (h : u < 0 ∨ u > 4194304 ∨ (u.toNat + 31) / 32 * 32 ≤ bs.length) : growB bs u = bs := growB_no (by unfold growL; split <;> omega)
theorem grow_yes {bs : List Nat} {k q : Nat} (hk : k ≤ 4194304) (h : (k + 31) / 32 * 32 = bs.length + q) : growB bs (k : Int) = bs ++ List.replicate q 0 := by
  unfold growB growL
  rw [if_neg (by omega)]
  congr 2; simp; omega
theorem sumN_two (x y : Nat) : sumN [x, y] = x % 2 ^ 256 + y % 2 ^ 256 := by simp [sumN]
theorem putB_step {bs xs : List Nat} {p k : Nat} (hk : k < xs.length) (h : p + xs.length ≤ bs.length) : (putB bs p (xs.take k)).set (p + k) (xs.getD k 0) = putB bs p (xs.take (k + 1)) := by
  have hl1 : (xs.take k).length = k := by rw [List.length_take]; omega
  have hl2 : (xs.take (k + 1)).length = k + 1 := by rw [List.length_take]; omega
  have e1 : (putB bs p (xs.take k)).length = bs.length := putB_length (by omega)
  have e2 : (putB bs p (xs.take (k + 1))).length = bs.length := putB_length (by omega)
  refine ext_getD (by rw [List.length_set, e1, e2]) (fun q hq => ?_)
  rw [getD_set _ _ _ _ (by omega), putB_get (by omega), putB_get (by omega), hl1, hl2]
  by_cases h1 : p + k = q
  · subst h1
    rw [if_pos rfl, if_pos (by omega), show p + k - p = k by omega, getD_take _ _ _ (by omega)]
  · rw [if_neg h1]
    by_cases h2 : p ≤ q ∧ q < p + k
    · rw [if_pos h2, if_pos (by omega), getD_take _ _ _ (by omega), getD_take _ _ _ (by omega)]
    · rw [if_neg h2, if_neg (by omega)]
theorem moveE_bad {L : Nat} {t f n : Int} (h : t < 0 ∨ f < 0 ∨ n < 0) : moveE L t f n = 1 := by unfold moveE; rw [if_pos h]
theorem moveE_far {L : Nat} {t f n : Int} (h : ¬ (t < 0 ∨ f < 0 ∨ n < 0)) (h2 : pieceE L f n ≠ 0 ∨ pieceE L t n ≠ 0) : moveE L t f n = 92 := by unfold moveE; rw [if_neg h, if_pos h2]
theorem moveE_ok {L : Nat} {t f n : Int} (h : ¬ (t < 0 ∨ f < 0 ∨ n < 0)) (h1 : pieceE L f n = 0) (h2 : pieceE L t n = 0) : moveE L t f n = 0 := by unfold moveE; rw [if_neg h, if_neg (by omega)]
theorem moveB_no {bs : List Nat} {t f n : Int} (h : moveE bs.length t f n ≠ 0) : moveB bs t f n = bs := by unfold moveB; rw [if_neg h]
theorem moveB_yes {bs : List Nat} {t f n : Int} (h : moveE bs.length t f n = 0) : moveB bs t f n = writeB bs t (cutB bs f n) := by unfold moveB; rw [if_pos h]
theorem move_pos {L : Nat} {t f n : Int} (h : ¬ (t < 0 ∨ f < 0 ∨ n < 0)) (h2 : pieceE L f n ≠ 0) : pieceE L f n = 92 := by
  unfold pieceE at h2 ⊢
  rw [if_neg (by omega)] at h2 ⊢
  split
  · rename_i h3; rw [if_pos h3] at h2; exact absurd rfl h2
  · rename_i h3
    rw [if_neg h3] at h2
    split
    · rfl
    · rename_i h4; rw [if_neg h4] at h2; exact absurd rfl h2
theorem loadX_yes {bs : List Nat} {a : Int} (h : pieceE bs.length a 32 = 0) : (if (cutB bs a 32).length ≤ 32 then vl (cutB bs a 32).reverse else 0) = loadX bs a ∧ (if (cutB bs a 32).length ≤ 32 then 0 else 2) = 0 := by
  have := cutB_len h
  rw [if_pos (by simp at this; omega), if_pos (by simp at this; omega)]
  unfold loadX
  rw [if_pos h]
  exact ⟨rfl, rfl⟩
theorem loadX_no {bs : List Nat} {a : Int} (h : pieceE bs.length a 32 ≠ 0) : loadX bs a = 0 := by unfold loadX; rw [if_neg h]
theorem reach_none {L x y : Nat} (h : y % 2 ^ 256 = 0) : reachN L x y = L ∧ reachB x y = true := by
  unfold reachN reachB; rw [if_pos h, decide_eq_true (Or.inl h)]; exact ⟨rfl, rfl⟩
theorem reach_far {L x y : Nat} (h : ¬ y % 2 ^ 256 = 0) (h2 : x % 2 ^ 256 + y % 2 ^ 256 > 4194304) : reachN L x y = 0 ∧ reachB x y = false := by
  unfold reachN reachB; rw [if_neg h, if_pos h2, decide_eq_false (by omega)]; exact ⟨rfl, rfl⟩
theorem reach_ok {L x y : Nat} (h : ¬ y % 2 ^ 256 = 0) (h2 : ¬ x % 2 ^ 256 + y % 2 ^ 256 > 4194304) : reachN L x y = max L ((x % 2 ^ 256 + y % 2 ^ 256 + 31) / 32 * 32) ∧ reachB x y = true := by
  unfold reachN reachB; rw [if_neg h, if_neg h2, decide_eq_true (by omega)]; exact ⟨rfl, rfl⟩
section
variable {w0 : World} {M : List Nat} {N : Nf} {σ : List (Nat × Value)} {l : List (Nat × Ent)} {Q : Exit → Act → World → Prop}
theorem X.addNil {u : Exit} (k : Nat) (t : TypeId) (h : X w0 M N Q u σ ((k, ⟨none, t, []⟩) :: l)) : X w0 M N Q u σ l := fun a w ha hw => h a w ha (hw.addNil k t)
end

/-! ### A literal row of words -/
theorem put_cons (cs : List Value) (o : Nat) (v : Value) (vs : List Value) (h : o + vs.length < cs.length) : put (cs.set o v) (o + 1) vs = put cs o (v :: vs) := by
  unfold put
  rw [List.take_add_one, List.take_set_of_le (Nat.le_refl o), List.length_cons, Nat.add_assoc, Nat.add_comm 1, ← Nat.add_assoc o, List.drop_set_of_lt (by omega)]
  simp [show o < cs.length by omega]
theorem fold_put (o : Nat) : ∀ (vs : List Value) (k : Nat) (arr : Array Value), o + k + vs.length ≤ arr.size →
    (vs.zipIdx k).foldl (fun cs (q : Value × Nat) => cs.setIfInBounds (o + q.2) q.1) arr = (put arr.toList (o + k) vs).toArray
  | [], k, arr, h => by simp [put]
  | v :: vs, k, arr, h => by
    simp only [List.length_cons] at h
    rw [List.zipIdx_cons, List.foldl_cons, fold_put o vs (k + 1) _ (by simp; omega)]
    congr 1
    simp only [Array.toList_setIfInBounds]
    rw [← Nat.add_assoc]
    have ha : arr.toList.length = arr.size := Array.length_toList
    exact put_cons _ _ _ _ (by omega)
theorem put_put (cs : List Value) (o : Nat) (us vs : List Value) (h : o + us.length + vs.length ≤ cs.length) : put (put cs o us) (o + us.length) vs = put cs o (us ++ vs) := by
  have h1 : (cs.take o ++ us).length = o + us.length := by rw [List.length_append, List.length_take]; omega
  unfold put
  rw [List.take_append_of_le_length (by omega), List.take_of_length_le (by omega), List.length_append, List.drop_append, List.drop_drop, h1, List.drop_of_length_le (by rw [h1]; omega)]
  simp only [List.nil_append, List.append_assoc]
  congr 4
  omega
theorem put_length (cs : List Value) (o : Nat) (us : List Value) (h : o + us.length ≤ cs.length) : (put cs o us).length = cs.length := by
  unfold put; rw [List.length_append, List.length_append, List.length_take, List.length_drop]; omega
theorem fill_words : ∀ (xs : List Nat) (k : Nat) (arr : Array Value), (k + xs.length) * 4 ≤ arr.size →
    Instr.fill (fun i => some (i * 4, 4)) arr ((xs.zipIdx k).map fun q => (q.2, W q.1)) = some (put arr.toList (k * 4) (rowW xs)).toArray
  | [], k, arr, h => by unfold Instr.fill; simp [put, rowW]
  | x :: xs, k, arr, h => by
    simp only [List.length_cons] at h
    rw [List.zipIdx_cons, List.map_cons]
    unfold Instr.fill
    dsimp only
    have hf := fold_put (k * 4) (wc x) 0 arr (by rw [wc_length]; omega)
    rw [Nat.add_zero] at hf
    have hs : (W x).cells = (wc x).toArray := rfl
    have ha : arr.toList.length = arr.size := Array.length_toList
    split
    · rename_i h0; simp [hs, wc_length] at h0; omega
    · rw [hs, ← Array.foldl_toList, Array.toList_zipIdx, hf, fill_words xs (k + 1) _ (by rw [List.size_toArray, put_length _ _ _ (by rw [wc_length]; omega)]; omega)]
      congr 2
      have := put_put arr.toList (k * 4) (wc x) (rowW xs) (by rw [wc_length, rowW_length]; omega)
      rw [wc_length] at this
      rw [show (k + 1) * 4 = k * 4 + 4 by omega]
      exact this
section
variable {P : Program} {ops : Array Oper} {F : Act → World → Prop} {w0 : World} {M : List Nat} {N : Nf} {L : List (Oper × K)} {σ : List (Nat × Value)} {l lS : List (Nat × Ent)} {d : Option Tmp} {ty : TypeId} {p : String} {af : Array Edge} {t : TypeId} {z : Value}
theorem J.litWs (h : Nat) (hh : lk lS h = none) (xs : List Nat) {e bytes len : Nat} {parts : Array (Nat × Operand)} (ht : P.underlying t = some (.slice e)) (he : ElT P e 4 bytes z) (h0 : 0 < xs.length) (hl : xs.length = len) (hsz : len * 4 ≤ 16777216) (hx : evp σ parts.toList = some ((xs.zipIdx 0).map fun q => (q.2, W q.1))) (hd : okd N d)
    (hJ : ∀ g, w0.heap.size ≤ g → J P ops F w0 M N lS L (putd d (.slice (some ⟨g, 0, none⟩) len len) σ) ((h, ⟨some g, e, rowW xs⟩) :: l)) :
    J P ops F w0 M N lS ((⟨d, .buildSlice t len parts, ty, p, af, none⟩, .l) :: L) σ l :=
  J.buildSlice h hh hx hd (rowW xs) (fun w => by
    subst hl
    have h1 : ¬ (xs.length * 4 > 2 ^ 24) := by simp; omega
    have h2 : ¬ (xs.length * 4 = 0) := by omega
    obtain ⟨ti, hti, htz, hts, htb⟩ := he.open
    have hz : ZeroT P e z := by simp [ZeroT, hti, htz]
    have hf := fill_words xs 0 ((Array.range (xs.length * 4)).map (fun i => z.cells[i % z.cells.size]!)) (by simp)
    rw [Nat.zero_mul, put_all _ _ (by rw [rowW_length, Array.length_toList]; simp)] at hf
    simp only [Instr.buildSlice, Sem.run_bind, run_underlying ht, Result.andThen, run_sizeOf he.sizeT, h1, if_false, h2, run_zeroValue hz, Sem.run_pure, hf, newRow, run_newObj]
    rfl) hJ
end

section
variable {P : Program} {w0 : World} {M : List Nat} {N : Nf} {L : List (Oper × K)} {σ : List (Nat × Value)} {l lS : List (Nat × Ent)} {k : K}
/-- A guard that was not reckoned itself. -/
theorem J.noU {ops : Array Oper} {F : Act → World → Prop} {d : Option Tmp} {op : Op} {ty : TypeId} {p : String} {af : Array Edge} {j t : Nat} {b : Bool}
    (ht : (ops[j]?).bind (·.dst) = some t) (hb : lk σ t = some undef) (hd : okd N d)
    (h : J P ops F w0 M N lS L (putd d undef σ) l) : J P ops F w0 M N lS ((⟨d, op, ty, p, af, some (j, b)⟩, k) :: L) σ l := fun hlS a ha => by
  have hw : Region.wanted ⟨d, op, ty, p, af, some (j, b)⟩ (yielded ops a.tmps) = false := by
    have h1 := ha.get t _ hb
    simp only [Region.wanted, yielded, ht, Option.bind_some, h1]
    cases b <;> rfl
  simp only [JJ, stepW, hw]
  exact h hlS _ (ha.putd hd undef)
end
end Go.Fw
